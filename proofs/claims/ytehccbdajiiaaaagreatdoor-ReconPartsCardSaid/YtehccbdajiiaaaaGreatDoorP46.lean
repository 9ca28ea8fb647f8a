import Derived.Test.YtehccbdajiiaaaaGreatDoorP42
import Derived.Test.YtehccbdajiiaaaaGreatDoorP45
namespace Go.Proofs.YtehccbdajiiaaaaGreatDoor
open Go.Proofs.Tryz
set_option maxRecDepth 100000
set_option maxHeartbeats 16000000
open Go.RowKit
section
open Go.RowKit Go.Maps Go.WideShapes
def sf(w2:World)(T o:Nat)(most:Int)(FT:Nat->Nat->Prop)(l0:az)(b:Bool)(wl:nS)(j:Nat)(wr:World):Prop:=
 bK wr T most o (aY (jb b (wl.take j)) l0) (fun b q=>FT b q\/w2.heap.size<=b)/\OnlyC FT w2 wr
section
variable{w2 wr w3 w':World}{T o:Nat}{most:Int}{FT F1:Nat->Nat->Prop}{l0:az}{b:Bool}{wl:nS}{j:Nat}{q:List UInt8×Option Rw}
theorem sf.skip(h:sf w2 T o most FT l0 b wl j wr)(c:wl[j]?=some q)(d:q.2.isSome≠b)(a:Below wr.heap.size wr w3):sf w2 T o most FT l0 b wl (j+1) w3:=by unfold sf;rw[sH c,ff d];exact⟨h.1.below a,h.2.x (o0 a FT) (fun _ _ _ h=>h)⟩
theorem sf.step(h:sf w2 T o most FT l0 b wl j wr)(g:wl[j]?=some q)(e:q.2.isSome=b)(d:Below wr.heap.size wr w3){f:az}(k:f=kH (aY (jb b (wl.take j)) l0) q)(l:bK w' T most o f (fun b q=>F1 b q\/w3.heap.size<=b))(i:OnlyC F1 w3 w')(c: ∀b q,F1 b q->FT b q\/w2.heap.size<=b):sf w2 T o most FT l0 b wl (j+1) w':=by have n:=h.2.size;have m:=d.size;unfold sf;rw[sH g,fi e,wJ,<-k];exact⟨l.m (fun b q a=>a.elim (c b q) (fun h=>.inr (by omega))),(h.2.x (o0 d FT) (fun _ _ _ h=>h)).x i (fun b q e a=>(c b q a).elim id (fun h=>by omega))⟩
end
theorem abC{wl:nS}{s:List Qs}(d:dK wl)(c:s.map Prod.fst=wl.map Prod.fst){j:Nat}{x:Qs}(f:s[j]?=some x){r:Option Rw}(e:ay x.1 wl=some r):wl[j]?=some (x.1,r):=by
 have a:(s.map Prod.fst)[j]?=some x.1:=by rw[oy,f];rfl
 rw[c,oy]at a
 cases hq:wl[j]? with
 |none=>rw[hq]at a;cases a
 |some q=>rw[hq]at a;simp only[Option.map_some,fj]at a;have b:=(aD d (key:=q.1) (r:=q.2)).2 (db hq);rw[a,e]at b;injection b with b;rw[<-a,b]
theorem OnlyC.of_map{w w':World}{K:TypeId}{m n:Nat}{g:Value->Option Value}(h:Only (fun k=>k=m) w w')(d:bW prog w K m n g):OnlyC (fun b _=>b=m) w w':=by refine⟨h.os,h.tape,h.output,h.size,fun k c t e a=>⟨c,h.heap a (fun e=>?_),rfl,fun _ _=>rfl⟩,fun k a c=>h.block k a (fun e=>c 0 e)⟩;subst e;obtain⟨D,⟨f,e,c,-⟩,-⟩:=d;rw[a]at c;cases c
theorem QJ(w:World)(B T o m n:Nat)(most:Int)(l:az)(wl:nS)(FT:Nat->Nat->Prop)(g:Value->Option Value)(FR:Nat->Prop)(a:mP w B T most o l wl FT m n g FR)(f: ∀b q,FT b q->b<w.heap.size)(k:wl.length<=2199023255553)(ac:((aY wl l).length:Int)<=most):
  Calls prog 38 #[r7 B] w fun H w'=>H=.returned (rv 0)/\bK w' T most o (aY wl l) (fun b q=>FT b q\/w.heap.size<=b)/\OnlyC (fun b q=>FT b q\/b=m) w w':=by
 have h:=(lD a.blk).1;have d:=AN a f k ac;have e:=al (show ∀W,Below w.heap.size w W->Calls prog 66 #[r7 B] W fun H w'=>H=.returned (rv ((aY wl l).length:Int))/\Below W.heap.size W w' from fun W p=>Bg W B T o most l wl FT (fun _=>True) (a.only (ri p) (fun u=>u) (fun u=>u) (fun _ _ u=>u) (fun _ _ _ u=>u)).at_ (by omega));have r:=al (show ∀W,Below w.heap.size w W->Calls prog 67 #[r7 T] W fun H w'=>H=.returned (rv most)/\W=w' from fun W p=>xL W T o most l FT (a.tab.below p));obtain⟨N,c⟩: ∃N:Nat,(aY wl l).length=N:=⟨_,rfl⟩;rw[c]at e ac;have a1: ¬most<(N:Int):=by omega
 clear a f k c;go_enter func38,ntmps38;go_upto_region 3 with fail;refine pw (S:=(fun W=>Below w.heap.size w W/\W.cell? ⟨B,0,none⟩=some (r7 T))) (by kernel_rfl) ⟨(aw _ _).drew,h⟩ (fun a=>?_);refine bq [0,2,3,4,5] ?_
 iterate 5 (refine ek (v:=?_) (fun _ ⟨k,s⟩=>?_) a ?_;rotate_left;(go_simp;try rfl);try simp only[xT])
 refine bt ?_;refine bC 1 (fun K c=>?_);go_simp;refine(e.o _ a.1).m ?_;rintro H wn ⟨rfl,f⟩
 try go_simp
 refine c.o _ _ (GQ a f) ?_;clear c K a f;intro a
 try simp only[xT]
 refine bC 6 (fun K c=>?_);go_simp;refine(r.o _ a.1).m ?_;rintro H wn ⟨rfl,rfl⟩
 try go_simp
 refine c.o _ _ (a) ?_;clear c K a;intro a
 try simp only[xT]
 refine ml 7 (v:=?_) (fun f c=>?_) a ?_;rotate_left
 ·obtain⟨k,s⟩:=c;go_simp;try rfl
 try simp only[xT]
 refine qe (by kernel_rfl) ?_ _;have W:=al a.1;clear a
 rename World=>w1
 clear h;have a:=d.o.1.only (ri W.o) (fun u=>u) (fun u=>u) (fun _ _ u=>u) (fun _ _ _ u=>u);have F:=al (Mw w1 B T o m n most l wl FT g FR a d.o.d.1);clear a e r;go_wp2_with fail;refine F.o.m ?_;rintro H w2 ⟨v,s,rfl,a',f,D,I,t⟩;obtain⟨A,c,rfl,C,M,z⟩:=a';obtain⟨k,a⟩:=rl (s.length);have J:k=wl.length:=by have:=ew List.length f;simpa[a]using this
 have y:Below w.heap.size w w2:=W.o.x (I.m W.o.size)
 have h:=al (show(∀wr,OnlyC FT w2 wr-> ∀j V,s[j]?=some V-> ∃g r,A=some ⟨g,0,none⟩/\wr.cell? ⟨g,j*2,none⟩=some (sd V.1)/\wr.cell? ⟨g,j*2+1,none⟩=some (.pointer V.2)/\lq wr (.pointer V.2) r/\wl[j]?=some (V.1,r))/\s.length=k/\k<=c/\c<=maxLen/\Below w.heap.size w w2/\k<=2199023255553 from by
  refine⟨fun wr G j V E=>?_,a,by rw[<-a];exact C,M,y,by have:=d.o.d.1;omega⟩;obtain⟨Q,rfl,R⟩:=z j V E;obtain⟨r,K,O,L⟩:=D V (db E);have x: ∀b,w1.heap.size<=b-> ¬ ∃q,FT b q:=fun b p ⟨q,e⟩=>by have:=d.o.2.1 b q e;have:=W.o.size;omega
  exact⟨Q,r,rfl,G.only.cell (R 0 _ rfl) (x _ (t Q rfl)),G.only.cell (R 1 _ rfl) (x _ (t Q rfl)),O.only G.only (fun b H=>x b (L b (by injection H))),abC d.o.1.up f E K⟩)
 have HK:=al f;have aa:=al (show sf w2 T o most FT l false wl 0 w2 from⟨(d.o.1.tab.below y).m (fun b q u=>.inl u),OnlyC.refl _ _⟩);rw[a];clear C M z J y f D I t a F;go_wp2_with fail
 go_loopw [22] (fun i wr=> ∃j:Nat,j<=k/\i=rv (j:Int)/\sf w2 T o most FT l false wl j wr) (fun i _=>k-(intOf i).toNat)
 case atStart=>exact⟨0,dq _,rfl,aa.o⟩
 rename World=>wr
 obtain⟨j,S,rfl,C⟩:=hrel;by_cases D:j<k
 ·obtain⟨⟨Z,a⟩,E⟩: ∃V,s[j]?=some V:=⟨_,ao (by rw[h.o.2.1];exact D)⟩;obtain⟨Q,r,rfl,c0,c1,t,e⟩:=h.o.1 wr C.2 j _ E;obtain⟨p,z⟩:=rk wr (tx Z.toArray (.pointer a));have i1:(0:Int)<=(j:Int):=by omega
  have i2:(j:Int)<(k:Int):=by omega
  have M:=h.o.t.1;have ap:=h.o.d.1;unfold maxLen at M;have f:=AN C e D (d.o.1.key _ (db e));clear C e D E S;go_upto_region 9 with fail;clear c0 c1;generalize wr.alloc (tx Z.toArray (.pointer a))=w3 at p z⊢;obtain⟨X,hX⟩:=rl (wr.heap.size);rw[hX]at z⊢;obtain⟨x0,x1⟩:=lD z;have x:=p.drew;have P:=(lD (qS p (f.o.1.2.heap (qS h.o.q.1 d.o.1.blk) (fun q e=>d.o.1.bB q e)))).1;have L:=(f.o.1.1.bound).below x;have K: ∀b q,((FT b q\/w2.heap.size<=b)/\b<wr.heap.size)->b<w3.drew.heap.size:=fun b q u=>da u.2 x.size;have am:=h.o.q.2
  cases r with
  |some y=>
   obtain⟨b,H,-⟩:=t;injection H with H;subst H;have t:=trivial;have F:=al (f.o.1.skip f.o.2.1 (by simp) p);clear p z x P L K t;go_wp2_with fail;go_roundw
   case rel=>exact⟨j+1,by omega,by go_num,F.o⟩
   case measure=>simp[intOf];omega
  |none=>
   obtain rfl:a=none:=by injection t
   have O:=al (LS w3.drew T o most _ _ Z L K f.o.t);have Y:=al x;clear p z x L K t;go_upto_region 10 with fail
   go_still_tail 6,(by kernel_rfl)
   change wpList _ _ _ _ _ w3.drew;go_wp2_with fail;refine O.o.m ?_;rintro H w5 ⟨⟨v5,rfl⟩,U,G⟩;have F:=al (f.o.1.step f.o.2.1 rfl Y.o rfl U G (fun b q u=>u.1));clear U G P x0 x1 O;go_wp2_with fail;go_roundw
   case rel=>exact⟨j+1,by omega,by go_num,F.o⟩
   case measure=>simp[intOf];omega
 obtain rfl:k=j:=by omega
 have J:=C;unfold sf at J;rw[gE (by have:=congrArg List.length HK.o;simp[h.o.2.1]at this;omega)]at J;have aa:=al (show sf w2 T o most FT (aY (jb false wl) l) true wl 0 wr from J);clear C J S D;go_wp2_with fail
 go_loopw [39] (fun i wr=> ∃j:Nat,j<=k/\i=rv (j:Int)/\sf w2 T o most FT (aY (jb false wl) l) true wl j wr) (fun i _=>k-(intOf i).toNat)
 case atStart=>exact⟨0,dq _,rfl,aa.o⟩
 rename World=>wr
 obtain⟨j,S,rfl,C⟩:=hrel;by_cases D:j<k
 ·obtain⟨⟨Z,a⟩,E⟩: ∃V,s[j]?=some V:=⟨_,ao (by rw[h.o.2.1];exact D)⟩;obtain⟨Q,r,rfl,c0,c1,t,e⟩:=h.o.1 wr C.2 j _ E;obtain⟨p,z⟩:=rk wr (tx Z.toArray (.pointer a));have i1:(0:Int)<=(j:Int):=by omega
  have i2:(j:Int)<(k:Int):=by omega
  have M:=h.o.t.1;have ap:=h.o.d.1;unfold maxLen at M;have f:=AN C e D (d.o.1.key _ (db e));clear C e D E S;go_upto_region 15 with fail;clear c0 c1;generalize wr.alloc (tx Z.toArray (.pointer a))=w3 at p z⊢;obtain⟨X,hX⟩:=rl (wr.heap.size);rw[hX]at z⊢;obtain⟨x0,x1⟩:=lD z;have x:=p.drew;have P:=(lD (qS p (f.o.1.2.heap (qS h.o.q.1 d.o.1.blk) (fun q e=>d.o.1.bB q e)))).1;have L:=(f.o.1.1.bound).below x;have K: ∀b q,((FT b q\/w2.heap.size<=b)/\b<wr.heap.size)->b<w3.drew.heap.size:=fun b q u=>da u.2 x.size;have am:=h.o.q.2
  cases r with
  |none=>
   obtain rfl:a=none:=by injection t
   have F:=al (f.o.1.skip f.o.2.1 (by simp) p);clear p z x P L K t;go_wp2_with fail;go_roundw
   case rel=>exact⟨j+1,by omega,by go_num,F.o⟩
   case measure=>simp[intOf];omega
  |some y=>
   obtain⟨b,H,t⟩:=t;injection H with H;subst H;have V:=d.o.1.fit _ (db f.o.2.1) y rfl;have O:=al (LR w3.drew T o most _ _ Z y L K f.o.t V)
   have ad:EK most (aY (jb true (wl.take j)) (aY (jb false wl) l)) Z y=kH (aY (jb true (wl.take j)) (aY (jb false wl) l)) (Z,some y):=by refine ff (fun⟨h1,E⟩=>?_);have a0:=cy (wl:=jb true (wl.take j)) (cy (wl:=jb false wl) d.o.1.tab.up);have E:=R8 (wl:=wl) (cy (wl:=jb false wl) d.o.1.tab.up) (j+1);rw[D4 d.o.1.up d.o.1.tab.up,sH f.o.2.1,fi (by rfl),wJ]at E;have R:=kE (p:=(Z,y)) a0;rw[h1]at R;simp only[oj,my,if_false]at R;have h5:=d.o.t;unfold kH at E;simp only at E;omega
   have Y:=AI x ad;obtain⟨⟨r0,r1,r2,r3⟩,-⟩:=cX (qS p t);obtain⟨ya,yb,yc,yd⟩:=y;unfold Rw.val at O;clear p z x L K t ad V;go_upto_region 16 with fail
   go_still_tail 10,(by kernel_rfl)
   change wpList _ _ _ _ _ w3.drew;go_wp2_with fail;refine O.o.m ?_;rintro H w5 ⟨p,U,G⟩;obtain⟨v5,rfl⟩: ∃v,H=.returned v:=⟨_,p⟩;have F:=al (f.o.1.step f.o.2.1 rfl Y.o.1 Y.o.2 U G (fun b q u=>u.1));clear p U G P x0 x1 r0 r1 r2 r3 O;go_wp2_with fail;go_roundw
   case rel=>exact⟨j+1,by omega,by go_num,F.o⟩
   case measure=>simp[intOf];omega
 obtain rfl:k=j:=by omega
 have J:=C;unfold sf at J;rw[gE (by have:=congrArg List.length HK.o;simp[h.o.2.1]at this;omega),D4 d.o.1.up d.o.1.tab.up]at J;obtain⟨t,a⟩:=J;have I:=h.o.q.1;have f:bW prog wr 9 m n g:=d.o.1.map.below I|>.only a.only (fun⟨q,e⟩=>d.o.1.bm q e);have r:=a.heap (qS I d.o.1.blk) (fun q e=>d.o.1.bB q e);have G:=(lD r).2;obtain⟨x,y,-,e⟩:=f.clear underlying138 0;have z:=d.o.1.map.lt
 have F:=al (show bK x T most o (aY wl l) (fun b q=>FT b q\/w.heap.size<=b)/\OnlyC (fun b q=>FT b q\/b=m) w x from by
  have E:=I.size;refine⟨(t.dR e (fun b q p H=>?_)).m (fun b q p=>p.imp id (fun u=>by omega)),((o0 I _).x a (fun b q _ u=>.inl u)).x (OnlyC.of_map e f) (fun b q _ u=>.inr u)⟩;subst H
  exact p.elim (d.o.1.bm q) (fun u=>by omega))
 clear t a f r e C S D I;go_wp2_with fail;go_ret
 exact⟨rfl,F.o⟩
end
end Go.Proofs.YtehccbdajiiaaaaGreatDoor
