import Derived.Test.YtehccbdajiiaaaaGreatDoorS33
import Derived.Test.YtehccbdajiiaaaaGreatDoorS45
import Derived.Test.YtehccbdajiiaaaaGreatDoorS47
namespace Go.Proofs.YtehccbdajiiaaaaGreatDoor
open Go.Proofs.Tryz
set_option maxRecDepth 100000
set_option maxHeartbeats 16000000
open Go.RowKit
section
open Go.RowKit Go.Maps Go.WideShapes
def sS(w2:World)(T o:Nat)(most:Int)(FT:Nat->Nat->Prop)(l0:az)(b:Bool)(wl:ot)(j:Nat)(wr:World):Prop:=
 bz wr T most o (aW (jd b (wl.take j)) l0) (fun b q=>FT b q\/w2.heap.size<=b)/\OnlyC FT w2 wr
section
variable{w2 wr w3 w':World}{T o:Nat}{most:Int}{FT F1:Nat->Nat->Prop}{l0:az}{b:Bool}{wl:ot}{j:Nat}{q:List UInt8×Option Rw}
theorem sS.skip(h:sS w2 T o most FT l0 b wl j wr)(c:wl[j]?=some q)(d:q.2.isSome≠b)(a:Below wr.heap.size wr w3):sS w2 T o most FT l0 b wl (j+1) w3:=by unfold sS;rw[tF c,fb d];exact⟨h.1.below a,h.2.x (oS a FT) (fun _ _ _ h=>h)⟩
theorem sS.step(h:sS w2 T o most FT l0 b wl j wr)(g:wl[j]?=some q)(e:q.2.isSome=b)(f:Below wr.heap.size wr w3){d:az}(i:d=lh (aW (jd b (wl.take j)) l0) q)(k:bz w' T most o d (fun b q=>F1 b q\/w3.heap.size<=b))(l:OnlyC F1 w3 w')(c: ∀b q,F1 b q->FT b q\/w2.heap.size<=b):sS w2 T o most FT l0 b wl (j+1) w':=by have n:=h.2.size;have m:=f.size;unfold sS;rw[tF g,ff e,xx,<-i];exact⟨k.m (fun b q a=>a.elim (c b q) (fun h=>.inr (by omega))),(h.2.x (oS f FT) (fun _ _ _ h=>h)).x l (fun b q e a=>(c b q a).elim id (fun h=>by omega))⟩
end
theorem ab7{wl:ot}{s:List QM}(c:dR wl)(f:s.map Prod.fst=wl.map Prod.fst){j:Nat}{x:QM}(d:s[j]?=some x){r:Option Rw}(e:aA x.1 wl=some r):wl[j]?=some (x.1,r):=by
 have a:(s.map Prod.fst)[j]?=some x.1:=by rw[nh,d];rfl
 rw[f,nh]at a
 cases hq:wl[j]? with
 |none=>rw[hq]at a;cases a
 |some q=>rw[hq]at a;simp only[Option.map_some,fi]at a;have b:=(aD c (key:=q.1) (r:=q.2)).2 (db hq);rw[a,e]at b;injection b with b;rw[<-a,b]
theorem OnlyC.of_map{w w':World}{K:TypeId}{m n:Nat}{g:Value->Option Value}(h:Only (fun k=>k=m) w w')(d:bX prog w K m n g):OnlyC (fun b _=>b=m) w w':=by refine⟨h.os,h.tape,h.output,h.size,fun k c t e a=>⟨c,h.heap a (fun e=>?_),rfl,fun _ _=>rfl⟩,fun k a c=>h.block k a (fun e=>c 0 e)⟩;subst e;obtain⟨D,⟨f,e,c,-⟩,-⟩:=d;rw[a]at c;cases c
theorem Sg(w:World)(B T o m n:Nat)(most:Int)(l:az)(wl:ot)(FT:Nat->Nat->Prop)(g:Value->Option Value)(FR:Nat->Prop)(a:ni w B T most o l wl FT m n g FR)(c: ∀b q,FT b q->b<w.heap.size)(h:wl.length<=2199023255553)(ac:((aW wl l).length:Int)<=most):
  Calls prog 38 #[rv B] w fun H w'=>H=.returned (rm 0)/\bz w' T most o (aW wl l) (fun b q=>FT b q\/w.heap.size<=b)/\OnlyC (fun b q=>FT b q\/b=m) w w':=by
 have r:=(lQ a.blk).1;have d:=AI a c h ac;have e:=al (show ∀W,Below w.heap.size w W->Calls prog 66 #[rv B] W fun H w'=>H=.returned (rm ((aW wl l).length:Int))/\Below W.heap.size W w' from fun W p=>BQ W B T o most l wl FT (fun _=>True) (a.only (qS p) (fun u=>u) (fun u=>u) (fun _ _ u=>u) (fun _ _ _ u=>u)).at_ (by omega));have f:=al (show ∀W,Below w.heap.size w W->Calls prog 67 #[rv T] W fun H w'=>H=.returned (rm most)/\W=w' from fun W p=>yB W T o most l FT (a.tab.below p));obtain⟨N,k⟩: ∃N:Nat,(aW wl l).length=N:=⟨_,rfl⟩;rw[k]at e ac;have a1: ¬most<(N:Int):=by omega
 clear a c h k;go_enter func38,ntmps38;go_upto_region 3 with fail;refine pt (S:=(fun W=>Below w.heap.size w W/\W.cell? ⟨B,0,none⟩=some (rv T))) (by kernel_rfl) ⟨(bd _ _).drew,r⟩ (fun a=>?_);refine bj [0,2,3,4,5] ?_
 iterate 5 (refine dZ (v:=?_) (fun _ ⟨k,s⟩=>?_) a ?_;rotate_left;(go_simp;try rfl);try simp only[xr])
 refine bq ?_;refine bA 1 (fun K c=>?_);go_simp;refine(e.o _ a.1).m ?_;rintro H wn ⟨rfl,h⟩
 try go_simp
 refine c.o _ _ (Ie a h) ?_;clear c K a h;intro a
 try simp only[xr]
 refine bA 6 (fun K c=>?_);go_simp;refine(f.o _ a.1).m ?_;rintro H wn ⟨rfl,rfl⟩
 try go_simp
 refine c.o _ _ (a) ?_;clear c K a;intro a
 try simp only[xr]
 refine lA 7 (v:=?_) (fun h c=>?_) a ?_;rotate_left
 ·obtain⟨k,s⟩:=c;go_simp;try rfl
 try simp only[xr]
 refine pw (by kernel_rfl) ?_ _;have Y:=al a.1;clear a
 rename World=>w1
 clear r;have a:=d.o.1.only (qS Y.o) (fun u=>u) (fun u=>u) (fun _ _ u=>u) (fun _ _ _ u=>u);have G:=al (Nf w1 B T o m n most l wl FT g FR a d.o.d.1);clear a e f;go_wp2_with fail;refine G.o.m ?_;rintro H w2 ⟨v,s,rfl,ap,f,C,I,t⟩;obtain⟨A,c,rfl,D,M,z⟩:=ap;obtain⟨k,a⟩:=rk (s.length);have O:k=wl.length:=by have:=eE List.length f;simpa[a]using this
 have x:Below w.heap.size w w2:=Y.o.x (I.m Y.o.size)
 have h:=al (show(∀wr,OnlyC FT w2 wr-> ∀j V,s[j]?=some V-> ∃g r,A=some ⟨g,0,none⟩/\wr.cell? ⟨g,j*2,none⟩=some (r7 V.1)/\wr.cell? ⟨g,j*2+1,none⟩=some (.pointer V.2)/\lG wr (.pointer V.2) r/\wl[j]?=some (V.1,r))/\s.length=k/\k<=c/\c<=maxLen/\Below w.heap.size w w2/\k<=2199023255553 from by
  refine⟨fun wr E j V F=>?_,a,by rw[<-a];exact D,M,x,by have:=d.o.d.1;omega⟩;obtain⟨P,rfl,S⟩:=z j V F;obtain⟨r,L,K,J⟩:=C V (db F);have y: ∀b,w1.heap.size<=b-> ¬ ∃q,FT b q:=fun b p ⟨q,e⟩=>by have:=d.o.2.1 b q e;have:=Y.o.size;omega
  exact⟨P,r,rfl,E.only.cell (S 0 _ rfl) (y _ (t P rfl)),E.only.cell (S 1 _ rfl) (y _ (t P rfl)),K.only E.only (fun b H=>y b (J b (by injection H))),ab7 d.o.1.up f F L⟩)
 have HK:=al f;have aa:=al (show sS w2 T o most FT l false wl 0 w2 from⟨(d.o.1.tab.below x).m (fun b q u=>.inl u),OnlyC.refl _ _⟩);rw[a];clear D M z O x f C I t a G;go_wp2_with fail
 go_loopw [22] (fun i wr=> ∃j:Nat,j<=k/\i=rm (j:Int)/\sS w2 T o most FT l false wl j wr) (fun i _=>k-(intOf i).toNat)
 case atStart=>exact⟨0,dq _,rfl,aa.o⟩
 rename World=>wr
 obtain⟨j,Q,rfl,C⟩:=hrel;by_cases D:j<k
 ·obtain⟨⟨Z,a⟩,F⟩: ∃V,s[j]?=some V:=⟨_,ao (by rw[h.o.2.1];exact D)⟩;obtain⟨P,r,rfl,c0,c1,t,e⟩:=h.o.1 wr C.2 j _ F;obtain⟨p,z⟩:=rj wr (tn Z.toArray (.pointer a));have i1:(0:Int)<=(j:Int):=by omega
  have i2:(j:Int)<(k:Int):=by omega
  have M:=h.o.t.1;have a0:=h.o.d.1;unfold maxLen at M;have f:=AI C e D (d.o.1.key _ (db e));clear C e D F Q;go_upto_region 9 with fail;clear c0 c1;generalize wr.alloc (tn Z.toArray (.pointer a))=w3 at p z⊢;obtain⟨X,hX⟩:=rk (wr.heap.size);rw[hX]at z⊢;obtain⟨x0,x1⟩:=lQ z;have x:=p.drew;have U:=(lQ (qt p (f.o.1.2.heap (qt h.o.q.1 d.o.1.blk) (fun q e=>d.o.1.bB q e)))).1;have K:=(f.o.1.1.bound).below x;have L: ∀b q,((FT b q\/w2.heap.size<=b)/\b<wr.heap.size)->b<w3.drew.heap.size:=fun b q u=>da u.2 x.size;have am:=h.o.q.2
  cases r with
  |some y=>
   obtain⟨b,H,-⟩:=t;injection H with H;subst H;have t:=trivial;have G:=al (f.o.1.skip f.o.2.1 (by simp) p);clear p z x U K L t;go_wp2_with fail;go_roundw
   case rel=>exact⟨j+1,by omega,by go_num,G.o⟩
   case measure=>simp[intOf];omega
  |none=>
   obtain rfl:a=none:=by injection t
   have O:=al (MX w3.drew T o most _ _ Z K L f.o.t);have W:=al x;clear p z x K L t;go_upto_region 10 with fail
   go_still_tail 6,(by kernel_rfl)
   change wpList _ _ _ _ _ w3.drew;go_wp2_with fail;refine O.o.m ?_;rintro H w5 ⟨⟨v5,rfl⟩,R,E⟩;have G:=al (f.o.1.step f.o.2.1 rfl W.o rfl R E (fun b q u=>u.1));clear R E U x0 x1 O;go_wp2_with fail;go_roundw
   case rel=>exact⟨j+1,by omega,by go_num,G.o⟩
   case measure=>simp[intOf];omega
 obtain rfl:k=j:=by omega
 have J:=C;unfold sS at J;rw[fm (by have:=congrArg List.length HK.o;simp[h.o.2.1]at this;omega)]at J;have aa:=al (show sS w2 T o most FT (aW (jd false wl) l) true wl 0 wr from J);clear C J Q D;go_wp2_with fail
 go_loopw [39] (fun i wr=> ∃j:Nat,j<=k/\i=rm (j:Int)/\sS w2 T o most FT (aW (jd false wl) l) true wl j wr) (fun i _=>k-(intOf i).toNat)
 case atStart=>exact⟨0,dq _,rfl,aa.o⟩
 rename World=>wr
 obtain⟨j,Q,rfl,C⟩:=hrel;by_cases D:j<k
 ·obtain⟨⟨Z,a⟩,F⟩: ∃V,s[j]?=some V:=⟨_,ao (by rw[h.o.2.1];exact D)⟩;obtain⟨P,r,rfl,c0,c1,t,e⟩:=h.o.1 wr C.2 j _ F;obtain⟨p,z⟩:=rj wr (tn Z.toArray (.pointer a));have i1:(0:Int)<=(j:Int):=by omega
  have i2:(j:Int)<(k:Int):=by omega
  have M:=h.o.t.1;have a0:=h.o.d.1;unfold maxLen at M;have f:=AI C e D (d.o.1.key _ (db e));clear C e D F Q;go_upto_region 15 with fail;clear c0 c1;generalize wr.alloc (tn Z.toArray (.pointer a))=w3 at p z⊢;obtain⟨X,hX⟩:=rk (wr.heap.size);rw[hX]at z⊢;obtain⟨x0,x1⟩:=lQ z;have x:=p.drew;have U:=(lQ (qt p (f.o.1.2.heap (qt h.o.q.1 d.o.1.blk) (fun q e=>d.o.1.bB q e)))).1;have K:=(f.o.1.1.bound).below x;have L: ∀b q,((FT b q\/w2.heap.size<=b)/\b<wr.heap.size)->b<w3.drew.heap.size:=fun b q u=>da u.2 x.size;have am:=h.o.q.2
  cases r with
  |none=>
   obtain rfl:a=none:=by injection t
   have G:=al (f.o.1.skip f.o.2.1 (by simp) p);clear p z x U K L t;go_wp2_with fail;go_roundw
   case rel=>exact⟨j+1,by omega,by go_num,G.o⟩
   case measure=>simp[intOf];omega
  |some y=>
   obtain⟨b,H,t⟩:=t;injection H with H;subst H;have V:=d.o.1.fit _ (db f.o.2.1) y rfl;have O:=al (MV w3.drew T o most _ _ Z y K L f.o.t V)
   have ad:FK most (aW (jd true (wl.take j)) (aW (jd false wl) l)) Z y=lh (aW (jd true (wl.take j)) (aW (jd false wl) l)) (Z,some y):=by refine fb (fun⟨h1,F⟩=>?_);have a':=cE (wl:=jd true (wl.take j)) (cE (wl:=jd false wl) d.o.1.tab.up);have F:=Tp (wl:=wl) (cE (wl:=jd false wl) d.o.1.tab.up) (j+1);rw[EG d.o.1.up d.o.1.tab.up,tF f.o.2.1,ff (by rfl),xx]at F;have S:=lg (p:=(Z,y)) a';rw[h1]at S;simp only[nx,nf,if_false]at S;have h5:=d.o.t;unfold lh at F;simp only at F;omega
   have W:=AD x ad;obtain⟨⟨r0,r1,r2,r3⟩,-⟩:=cP (qt p t);obtain⟨ya,yb,yc,yd⟩:=y;unfold Rw.val at O;clear p z x K L t ad V;go_upto_region 16 with fail
   go_still_tail 10,(by kernel_rfl)
   change wpList _ _ _ _ _ w3.drew;go_wp2_with fail;refine O.o.m ?_;rintro H w5 ⟨p,R,E⟩;obtain⟨v5,rfl⟩: ∃v,H=.returned v:=⟨_,p⟩;have G:=al (f.o.1.step f.o.2.1 rfl W.o.1 W.o.2 R E (fun b q u=>u.1));clear p R E U x0 x1 r0 r1 r2 r3 O;go_wp2_with fail;go_roundw
   case rel=>exact⟨j+1,by omega,by go_num,G.o⟩
   case measure=>simp[intOf];omega
 obtain rfl:k=j:=by omega
 have J:=C;unfold sS at J;rw[fm (by have:=congrArg List.length HK.o;simp[h.o.2.1]at this;omega),EG d.o.1.up d.o.1.tab.up]at J;obtain⟨t,a⟩:=J;have I:=h.o.q.1;have f:bX prog wr 9 m n g:=d.o.1.map.below I|>.only a.only (fun⟨q,e⟩=>d.o.1.bm q e);have r:=a.heap (qt I d.o.1.blk) (fun q e=>d.o.1.bB q e);have F:=(lQ r).2;obtain⟨x,y,-,e⟩:=f.clear underlying138 0;have E:=d.o.1.map.lt
 have G:=al (show bz x T most o (aW wl l) (fun b q=>FT b q\/w.heap.size<=b)/\OnlyC (fun b q=>FT b q\/b=m) w x from by
  have z:=I.size;refine⟨(t.dC e (fun b q p H=>?_)).m (fun b q p=>p.imp id (fun u=>by omega)),((oS I _).x a (fun b q _ u=>.inl u)).x (OnlyC.of_map e f) (fun b q _ u=>.inr u)⟩;subst H
  exact p.elim (d.o.1.bm q) (fun u=>by omega))
 clear t a f r e C Q D I;go_wp2_with fail;go_ret
 exact⟨rfl,G.o⟩
end
section
open Go.RowKit Go.Maps Go.WideShapes
theorem NQ{x:FE}(h:nt x=0)(g:x.fits)(_k:x.cls.length<=64):opsE x.ops=0/\x.args.length<=8/\(∀n∈x.args,-1099511627776<=n/\n<=1099511627776)/\Good x.cls/\dE x.cls x.cls:=by
 unfold nt at h;by_cases a:ow x=0
 ·rw[fb (by rw[a];simp)]at h;unfold ow uR qJ at a;split at a
  ·cases a
  ·split at a
   ·rename_i c;exact absurd a c
   ·rename_i c;split at a
    ·cases a
    ·rename_i l;split at a
     ·cases a
     ·rename_i b;unfold ug at h;split at h
      ·rename_i d;exact absurd h d
      ·rename_i d;split at h
       ·cases h
       ·split at h
        ·rename_i f;refine⟨by simpa using c,by omega,fun n i=>?_,fun j e=>⟨Fl (by simpa using d) j e,g.2.2.2 j e⟩,f⟩;unfold pD at b;rw[Bool.not_eq_false,List.all_eq_true]at b;simpa using b n i
        ·cases h
 ·rw[ff a]at h;exact absurd h a
theorem jR.bound{w:World}{G:Nat->Prop}{e:FE}{c a b:Value}(h:jR w G e c a b):jR w (fun k=>G k/\k<w.heap.size) e c a b:=
 ⟨bI.bound h.1 (Zy _) (by decide),h.2.1.bound,bI.bound h.2.2.1 (dK _) (by decide),h.2.2.2⟩
theorem qf{w:World}{B:Nat}{a b c v0 v1 v2:Value}{t:TypeId}(h:w.heap[B]?=some (.cells #[a,b,c] t (0,0))):
  (((w.setCell ⟨B,0,none⟩ v0).setCell ⟨B,1,none⟩ v1).setCell ⟨B,2,none⟩ v2).heap[B]?=some (.cells #[v0,v1,v2] t (0,0))/\Only (fun k=>k=B) w (((w.setCell ⟨B,0,none⟩ v0).setCell ⟨B,1,none⟩ v1).setCell ⟨B,2,none⟩ v2):=
 ⟨EY h,((Only.aR w B 0 v0).x (Only.aR _ B 1 v1) (fun _ _ h=>h)).x (Only.aR _ B 2 v2) (fun _ _ h=>h)⟩
def Si(o:Out):Value:=.agg #[rm o.1,rm o.2.1,rm o.2.2]
def ab8(T o:Nat)(most:Int)(F:Nat->Nat->Prop)(p:Out×az)(w:World)(e:Ending)(w':World):Prop:=
 e=.returned (.tuple #[Si p.1,rm 0])/\bz w' T most o p.2 (fun b q=>F b q\/w.heap.size<=b)/\OnlyC F w w'/\df p.2
theorem JV(w:World)(T o:Nat)(most:Int)(l:az)(F:Nat->Nat->Prop)(G:Nat->Prop)(pv:Value)(I:List UInt8)(rows u fuel:Int)(U:bz w T most o l F)(k: ∀b q,F b q->b<w.heap.size)(g:df l)(n:Rd w G pv (I.map B8))(r:I.length<=1000000)(p:0<=fuel/\fuel<=10000)
  (f:fB w) (d:mH w) (i:gy w) (h:gZ w):Calls prog 15 #[rv T,pv,.agg #[rm rows,rm u,rm fuel]] w (ab8 T o most F (qp most fuel I l) w):=by
 have m:=al (AY w (sn rows u fuel) (sl 0 0 0));have e:=qt (ae (w.alloc (sn rows u fuel)) (sl 0 0 0)) (an w (sn rows u fuel));have a:=an (w.alloc (sn rows u fuel)) (sl 0 0 0);rw[show(w.alloc (sn rows u fuel)).heap.size=w.heap.size+1 by simp]at a;have c:=BT U k g n r p f d i h;obtain⟨Ap,np,cp,rfl,-⟩:=id n;clear U k g n r f d i h;go_enter func15,ntmps15;go_upto_region 3 with fail;generalize (w.alloc (sn rows u fuel)).alloc (sl 0 0 0)=k at m e a⊢;obtain⟨C,f⟩:=rk (w.heap.size);obtain⟨V,g⟩:=rk (w.heap.size+1);rw[g]at a⊢;rw[f]at e⊢;have v:=(ag e).1.2.2;have i:=al (tK k fuel);rw[show dv fuel=0 by unfold dv;rw[fb (by omega)]]at i;have h:=AM m.o e a f g;clear e a f g m p;go_wp2_with fail;refine i.o.m ?_;rintro N w2 ⟨rfl,hw⟩;obtain rfl:k=w2:=hw.symm;have HD:=al (GH k G _ I (c.o.q.q.2.below h.o.1) (c.o.q.q.1.below h.o.1) (c.o.t.1.below h.o.1) c.o.q.1);clear v i;go_wp2_with fail;refine HD.o.m ?_;intro N w2 hd;obtain⟨P,hd⟩:=hd.read;have X:=h.o.1.x (P.m h.o.1.size);have kC:=qt P h.o.2.1;have kO:=qt P h.o.d.1;rcases hd with⟨x,vo,va,vc,K,rfl,d⟩|⟨K,kk,dN,rfl⟩
 ·obtain⟨p,g,s,i,e⟩:=JQ K;obtain⟨m,-,k,r,f⟩:=NQ p g e;obtain⟨Ao,co,rfl,-,-⟩:=d.1.slice;obtain⟨Aa,na,ca,rfl,-⟩:=id d.2.1;obtain⟨Ac,cc,rfl,-,-⟩:=d.2.2.1.slice;have a:=BY X kC kO d K m k r f i e;unfold Dx;clear X kC kO d K m k r f i e P p g s;go_upto_region 9 with fail;obtain⟨f,g⟩:=rj w2 (sC x.id Ao x.ops.length co Aa na ca Ac x.cls.length cc);generalize w2.alloc (sC x.id Ao x.ops.length co Aa na ca Ac x.cls.length cc)=w3 at f g⊢;obtain⟨E,am⟩:=rk (w2.heap.size);rw[am]at g⊢;have i:=a.o.1.x (f.m a.o.1.size);have k:=a.o.1.size;have J:=al (yF w3 T o most l F (c.o.1.below i) (fun b q e=>da (c.o.2.1 b q e) i.size));have d:=AN i (qt f a.o.2.1) (qt f a.o.d.1) g am (a.o.t.1.bound.below f);clear f g i k;go_wp2_with fail;refine J.o.m ?_;rintro N w4 ⟨B,rfl,L,f⟩;obtain⟨m,M,D⟩:=KB.new L f (fun b q e=>da (c.o.2.1 b q e) d.o.1.size) c.o.d.1 (c.o.q.d.1.below d.o.1) (c.o.q.t.1.below d.o.1);have t:=d.o.1.x (f.m d.o.1.size);have s:=qt f d.o.2.1;have H:=qt f d.o.d.1;have p:=qt f d.o.t.1;have g:=d.o.q.2.below f;have y:E<m:=da (aM d.o.t.1) M;have z:w.heap.size<m:=by have:=a.o.1.size;have:=d.o.q.1;omega
  have A:V<m:=by have:=aM d.o.d.1;omega
  obtain⟨-,Y,v,-⟩:=fY p;have x3:=(ag s).1.2.2;have R:=al (Ck x.ops _ _ x.args fuel (.pointer none) (fun _=>true) l (bI.m g.1 (fun k r N=>by have:=d.o.q.1;omega)) a.o.q.2.1 (c.o.q.q.1.below t) g.2.1 a.o.q.q.2.1 a.o.q.d.1 c.o.q.2.1 (.inl ⟨rfl,fun _=>rfl⟩) D);have i:=By t s H p g y z A;clear L f M D t s H p g y z A J;go_wp2_with fail;refine R.o.m ?_;rintro N Z ⟨f,rfl,z,S,ZF,Lf,t⟩;obtain⟨A,cf,rfl,-,-⟩:=z.slice;obtain⟨O,n⟩:=rk (DG most fuel (fun _=>true) x.ops x.args l);rw[n]at z S ZF Lf⊢;have H:known O.2:=by rw[<-n];exact JK _ _ _ _ _ _
  obtain⟨Q,J⟩: ∃g,(if O.2=0 then O.1.bD 0 else O.1.value)=g:=⟨_,rfl⟩;rw[J];obtain⟨st,a3⟩:=rk (O.1.steps);obtain⟨y,W⟩:=rk (O.2);obtain⟨M,p⟩:=rk (bC O.1.cl);rw[a3,W,p];rw[p]at z S;rw[W]at H J;clear Y v x3 R;go_upto_region 15 with fail;obtain⟨g,kr⟩:=rj Z (tb Q st A M.length cf y);generalize Z.alloc (tb Q st A M.length cf y)=w6 at g kr⊢;obtain⟨R,a6⟩:=rk (Z.heap.size);rw[a6]at kr⊢;have a2:=t.heap i.o.t.1 (fun N=>by have:=i.o.q.2.1;omega);have aa:=t.heap i.o.d.1 (fun N=>by have:=i.o.q.t;omega);have a5:=qt g a2;have a4:=qt g aa;have ZH:Below w.heap.size w Z:=i.o.1.x (t.aH i.o.1.size (fun k r N=>by have:=i.o.q.d.1;omega));have a0:=ZH.x (g.m ZH.size);have ap:=bI.below (bI.only i.o.q.1.2.2.1 t (fun k r N=>by have:=d.o.q.1;have:=i.o.q.2.1;omega)) g;have ad:=bI.below z g;have a7:=KB.ok.only _ _ _ _ (fun _=>False) (fun k r=>r) Lf (qS g);obtain⟨j0,j1,j2,j3⟩:=fY a5;obtain⟨i0,i1,i2,i3⟩:=fY kr;have zy:x.cls=bC x.cls:=iF a.o.q.t.1.ok a.o.q.q.1;have a':Good M:=by rw[<-p];exact lJ ZF
  have Y:=al (Q8 w6 _ _ Ao Aa x.ops.length co na ca st x.id Q y Ac A x.cls.length cc M.length cf x.cls M (qL O x) ap ad a.o.q.q.d S a.o.q.t.1 a' a.o.q.q.1 (by show qL O x=true↔iC M x.cls;rw[NL,p,<-zy]) (by unfold known at H;unfold lq;omega))
  have v:qp most fuel I l=((Aw (qL O x) y,x.id,Q6 (Aw (qL O x) y) Q),if Aw (qL O x) y=1 then O.1.rows else l):=by unfold qp;rw[a.o.q.1];show Zx most fuel x l=_;unfold Zx ab2;dsimp only;rw[n,W,J]
  have a8:=JL (q:=qL O x) H;obtain⟨D,a1⟩:=rk (Aw (qL O x) y);rw[a1]at Y v a8;obtain⟨L,ac⟩:=rk (Q6 D Q);rw[ac]at Y v;have s:=AM a0 a4 a7 v a6;clear g kr a2 aa a5 a4 ZH a0 ap ad a7 zy a' v a1 ac z S ZF Lf t n H J a3 W p;go_wp2_with fail;refine Y.o.m ?_;rintro N w7 ⟨rfl,p⟩;clear j0 j1 j2 j3 i0 i1 i2 i3 Y;go_upto_region 16 with fail;obtain⟨H,z⟩:=rj w7 (sl D x.id L);generalize w7.alloc (sl D x.id L)=w8 at H z⊢;obtain⟨J,ad⟩:=rk (w7.heap.size);rw[ad]at z⊢;have Vv:Below w.heap.size w w8:=(s.o.1.x (p.m s.o.1.size)).x (H.m (dd s.o.1.size p.size));have W:=qt H (qt p s.o.2.1);have a4:=KB.ok.only _ _ _ _ (fun _=>False) (fun k r=>r) (KB.ok.only _ _ _ _ (fun _=>False) (fun k r=>r) s.o.d.1 (qS p)) (qS H);obtain⟨⟨j0,j1,j2⟩,-⟩:=ag z;have ac:V≠J:=fun N=>by have:=aM s.o.2.1;have:=p.size;omega
  obtain⟨wl,n,g,FR,S,Sj,a3,a5,aa,-⟩:=a4;have Y:=S.tab;have t:=AI Vv W z ac;have a7:w6.heap.size<=J:=by rw[<-ad];exact p.size
  clear H p;by_cases a2:D=1
  ·subst a2;have HP:=al (Sg w8 B T o m n most l wl F g FR S (fun b q e=>da (c.o.2.1 b q e) Vv.size) (Ci S.up aa) (by rw[Sj];exact a5));clear Vv W ac S aa Y z;go_wp2_with fail;refine HP.o.m ?_;rintro N w9 ⟨rfl,a',Y⟩
   have a9:m<J:=by obtain⟨_,_,_,_,h1,_⟩:=s.o.d.1;have:=h1.map.lt;have:=a7;omega
   have a0: ∀j,¬(F V j\/V=m):=fun j p=>by
    have h5:=h.o.q;have h6:=i.o.q.t;rcases p with p|p
    ·have:=c.o.2.1 V j p;omega
    ·omega
   have ap: ∀j,¬(F J j\/J=m):=fun j p=>by
    have h5:=h.o.q;have h6:=i.o.q.t;rcases p with p|p
    ·have:=c.o.2.1 J j p;omega
    ·omega
   have p:=Y.heap t.o.2.1 a0;have a1:=Y.heap t.o.d.1 ap;obtain⟨⟨z0,z1,z2⟩,zf⟩:=ag p;obtain⟨⟨u0,u1,u2⟩,-⟩:=ag a1;have H:=AN a' Y p Sj (aM t.o.2.1) a3;clear a' Y p a1 a0 ap j0 j1 j2 HP Sj;go_wp2_with fail;have p:=qf (v0:=rm 1) (v1:=rm x.id) (v2:=rm L) H.o.d.1;generalize ((w9.setCell ⟨V,0,none⟩ (rm 1)).setCell ⟨V,1,none⟩ (rm x.id)).setCell ⟨V,2,none⟩ (rm L)=Y at p⊢;rw[s.o.t.1,ff trivial];have Y:OnlyC F w w9:=(oS t.o.1 F).x H.o.2.1 (fun b q hb e=>e.elim (fun U=>U) (fun N=>by have:=i.o.q.d.1;omega));refine dj (ax rfl _ _ _ _ _ _ _ rfl p.1 underlying50 rfl (by kernel_rfl)) rfl ⟨rfl,?_,Y.far p.2 (fun k r N=>by have:=h.o.q;omega),H.o.q.2⟩;rw[<-H.o.t.1];refine(H.o.1.dC p.2 (fun b q e N=>?_)).m (fun b q e=>e.imp (fun U=>U) (fun U=>dd t.o.1.size U));have h5:=h.o.q;have h6:=H.o.q.1;rcases e with e|e
   ·have:=c.o.2.1 b q e;omega
   ·omega
  ·obtain⟨⟨z0,z1,z2⟩,zf⟩:=ag W;clear Vv W ac S aa z;go_wp2_with fail;have p:=qf (v0:=rm D) (v1:=rm x.id) (v2:=rm L) t.o.2.1;generalize ((w8.setCell ⟨V,0,none⟩ (rm D)).setCell ⟨V,1,none⟩ (rm x.id)).setCell ⟨V,2,none⟩ (rm L)=w9 at p⊢;have e:=t.o.1.x (p.2.aH t.o.1.size (fun k r N=>by have:=h.o.q;omega));rw[s.o.t.1,fb a2];exact dj (ax rfl _ _ _ _ _ _ _ rfl p.1 underlying50 rfl (by kernel_rfl)) rfl ⟨rfl,(c.o.1.below e).m (fun _ _ U=>.inl U),oS e _,c.o.d.1⟩
 ·have v:qp most fuel I l=((7,0,0),l):=by unfold qp;rw[K]
  have a:=AI X kO v dN;unfold zeroE;clear X kC kO P K v;go_upto_region 8 with fail;have e:=ae w2 (sq 0);generalize w2.alloc (sq 0)=w3 at e⊢;have f:=qt e a.o.2.1;obtain⟨⟨z0,z1,z2⟩,zf⟩:=ag f;have d:=AD (a.o.1.x (e.m a.o.1.size)) f;clear e f;go_wp2_with fail;have p:=qf (v0:=rm 7) (v1:=rm 0) (v2:=rm 0) d.o.2;generalize ((w3.setCell ⟨V,0,none⟩ (rm 7)).setCell ⟨V,1,none⟩ (rm 0)).setCell ⟨V,2,none⟩ (rm 0)=w4 at p⊢;have e:=d.o.1.x (p.2.aH d.o.1.size (fun k r N=>by have:=h.o.q;omega));rw[a.o.d.1];exact dj (ax rfl _ _ _ _ _ _ _ rfl p.1 underlying50 rfl (by kernel_rfl)) rfl ⟨rfl,c.o.1.dC (qS e) (fun _ _ _ U=>U)|>.mono (fun _ _ U=>.inl U),oS e _,c.o.d.1⟩
end
end Go.Proofs.YtehccbdajiiaaaaGreatDoor
