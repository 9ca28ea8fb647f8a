import Derived.Test.YtehccbdajiiaaaaGreatDoorS33
import Derived.Test.YtehccbdajiiaaaaGreatDoorS45
import Derived.Test.YtehccbdajiiaaaaGreatDoorS47
namespace Go.Proofs.YtehccbdajiiaaaaGreatDoor
open Go.Proofs.Tryz
set_option maxRecDepth 100000
set_option maxHeartbeats 16000000
open Go.RowKit
section
open Go.RowKit Go.Maps Go.WideShapes
def sS(w2:World)(T o:Nat)(most:Int)(FT:Nat->Nat->Prop)(l0:az)(b:Bool)(wl:ot)(j:Nat)(wr:World):Prop:=
 bz wr T most o (aW (jd b (wl.take j)) l0) (fun b q=>FT b q\/w2.heap.size<=b)/\OnlyC FT w2 wr
section
variable{w2 wr w3 w':World}{T o:Nat}{most:Int}{FT F1:Nat->Nat->Prop}{l0:az}{b:Bool}{wl:ot}{j:Nat}{q:List UInt8×Option Rw}
theorem sS.skip(h:sS w2 T o most FT l0 b wl j wr)(d:wl[j]?=some q)(c:q.2.isSome≠b)(a:Below wr.heap.size wr w3):sS w2 T o most FT l0 b wl (j+1) w3:=by unfold sS;rw[tF d,fb c];exact⟨h.1.below a,h.2.x (oS a FT) (fun _ _ _ h=>h)⟩
theorem sS.step(h:sS w2 T o most FT l0 b wl j wr)(g:wl[j]?=some q)(f:q.2.isSome=b)(d:Below wr.heap.size wr w3){e:az}(k:e=lh (aW (jd b (wl.take j)) l0) q)(l:bz w' T most o e (fun b q=>F1 b q\/w3.heap.size<=b))(i:OnlyC F1 w3 w')(c: ∀b q,F1 b q->FT b q\/w2.heap.size<=b):sS w2 T o most FT l0 b wl (j+1) w':=by have n:=h.2.size;have m:=d.size;unfold sS;rw[tF g,ff f,xx,<-k];exact⟨l.m (fun b q a=>a.elim (c b q) (fun h=>.inr (by omega))),(h.2.x (oS d FT) (fun _ _ _ h=>h)).x i (fun b q f a=>(c b q a).elim id (fun h=>by omega))⟩
end
theorem ab7{wl:ot}{s:List QM}(e:dR wl)(c:s.map Prod.fst=wl.map Prod.fst){j:Nat}{x:QM}(f:s[j]?=some x){r:Option Rw}(d:aA x.1 wl=some r):wl[j]?=some (x.1,r):=by
 have a:(s.map Prod.fst)[j]?=some x.1:=by rw[nh,f];rfl
 rw[c,nh]at a
 cases hq:wl[j]? with
 |none=>rw[hq]at a;cases a
 |some q=>rw[hq]at a;simp only[Option.map_some,fi]at a;have b:=(aD e (key:=q.1) (r:=q.2)).2 (db hq);rw[a,d]at b;injection b with b;rw[<-a,b]
theorem OnlyC.of_map{w w':World}{K:TypeId}{m n:Nat}{g:Value->Option Value}(h:Only (fun k=>k=m) w w')(d:bX prog w K m n g):OnlyC (fun b _=>b=m) w w':=by refine⟨h.os,h.tape,h.output,h.size,fun k c t e a=>⟨c,h.heap a (fun e=>?_),rfl,fun _ _=>rfl⟩,fun k a c=>h.block k a (fun e=>c 0 e)⟩;subst e;obtain⟨D,⟨f,e,c,-⟩,-⟩:=d;rw[a]at c;cases c
theorem Sg(w:World)(B T o m n:Nat)(most:Int)(l:az)(wl:ot)(FT:Nat->Nat->Prop)(g:Value->Option Value)(FR:Nat->Prop)(a:ni w B T most o l wl FT m n g FR)(h: ∀b q,FT b q->b<w.heap.size)(r:wl.length<=2199023255553)(ac:((aW wl l).length:Int)<=most):
  Calls prog 38 #[rv B] w fun H w'=>H=.returned (rm 0)/\bz w' T most o (aW wl l) (fun b q=>FT b q\/w.heap.size<=b)/\OnlyC (fun b q=>FT b q\/b=m) w w':=by
 have k:=(lQ a.blk).1;have d:=AI a h r ac;have e:=al (show ∀W,Below w.heap.size w W->Calls prog 66 #[rv B] W fun H w'=>H=.returned (rm ((aW wl l).length:Int))/\Below W.heap.size W w' from fun W p=>BQ W B T o most l wl FT (fun _=>True) (a.only (qS p) (fun u=>u) (fun u=>u) (fun _ _ u=>u) (fun _ _ _ u=>u)).at_ (by omega));have f:=al (show ∀W,Below w.heap.size w W->Calls prog 67 #[rv T] W fun H w'=>H=.returned (rm most)/\W=w' from fun W p=>yB W T o most l FT (a.tab.below p));obtain⟨N,c⟩: ∃N:Nat,(aW wl l).length=N:=⟨_,rfl⟩;rw[c]at e ac;have a1: ¬most<(N:Int):=by omega
 clear a h r c;go_enter func38,ntmps38;go_upto_region 3 with fail;refine pt (S:=(fun W=>Below w.heap.size w W/\W.cell? ⟨B,0,none⟩=some (rv T))) (by kernel_rfl) ⟨(bd _ _).drew,k⟩ (fun a=>?_);refine bj [0,2,3,4,5] ?_
 iterate 5 (refine dZ (v:=?_) (fun _ ⟨s,r⟩=>?_) a ?_;rotate_left;(go_simp;try rfl);try simp only[xr])
 refine bq ?_;refine bA 1 (fun K c=>?_);go_simp;refine(e.o _ a.1).m ?_;rintro H wn ⟨rfl,h⟩
 try go_simp
 refine c.o _ _ (Ie a h) ?_;clear c K a h;intro a
 try simp only[xr]
 refine bA 6 (fun K c=>?_);go_simp;refine(f.o _ a.1).m ?_;rintro H wn ⟨rfl,rfl⟩
 try go_simp
 refine c.o _ _ (a) ?_;clear c K a;intro a
 try simp only[xr]
 refine lA 7 (v:=?_) (fun h c=>?_) a ?_;rotate_left
 ·obtain⟨s,r⟩:=c;go_simp;try rfl
 try simp only[xr]
 refine pw (by kernel_rfl) ?_ _;have W:=al a.1;clear a
 rename World=>w1
 clear k;have a:=d.o.1.only (qS W.o) (fun u=>u) (fun u=>u) (fun _ _ u=>u) (fun _ _ _ u=>u);have E:=al (Nf w1 B T o m n most l wl FT g FR a d.o.d.1);clear a e f;go_wp2_with fail;refine E.o.m ?_;rintro H w2 ⟨v,s,rfl,a',e,D,I,t⟩;obtain⟨A,c,rfl,C,M,z⟩:=a';obtain⟨k,a⟩:=rk (s.length);have O:k=wl.length:=by have:=eE List.length e;simpa[a]using this
 have x:Below w.heap.size w w2:=W.o.x (I.m W.o.size)
 have h:=al (show(∀wr,OnlyC FT w2 wr-> ∀j V,s[j]?=some V-> ∃g r,A=some ⟨g,0,none⟩/\wr.cell? ⟨g,j*2,none⟩=some (r7 V.1)/\wr.cell? ⟨g,j*2+1,none⟩=some (.pointer V.2)/\lG wr (.pointer V.2) r/\wl[j]?=some (V.1,r))/\s.length=k/\k<=c/\c<=maxLen/\Below w.heap.size w w2/\k<=2199023255553 from by
  refine⟨fun wr G j V F=>?_,a,by rw[<-a];exact C,M,x,by have:=d.o.d.1;omega⟩;obtain⟨P,rfl,U⟩:=z j V F;obtain⟨r,L,J,K⟩:=D V (db F);have y: ∀b,w1.heap.size<=b-> ¬ ∃q,FT b q:=fun b p ⟨q,f⟩=>by have:=d.o.2.1 b q f;have:=W.o.size;omega
  exact⟨P,r,rfl,G.only.cell (U 0 _ rfl) (y _ (t P rfl)),G.only.cell (U 1 _ rfl) (y _ (t P rfl)),J.only G.only (fun b H=>y b (K b (by injection H))),ab7 d.o.1.up e F L⟩)
 have HK:=al e;have aa:=al (show sS w2 T o most FT l false wl 0 w2 from⟨(d.o.1.tab.below x).m (fun b q u=>.inl u),OnlyC.refl _ _⟩);rw[a];clear C M z O x e D I t a E;go_wp2_with fail
 go_loopw [22] (fun i wr=> ∃j:Nat,j<=k/\i=rm (j:Int)/\sS w2 T o most FT l false wl j wr) (fun i _=>k-(intOf i).toNat)
 case atStart=>exact⟨0,dq _,rfl,aa.o⟩
 rename World=>wr
 obtain⟨j,R,rfl,C⟩:=hrel;by_cases D:j<k
 ·obtain⟨⟨Z,a⟩,F⟩: ∃V,s[j]?=some V:=⟨_,ao (by rw[h.o.2.1];exact D)⟩;obtain⟨P,r,rfl,c0,c1,t,f⟩:=h.o.1 wr C.2 j _ F;obtain⟨p,z⟩:=rj wr (tn Z.toArray (.pointer a));have i1:(0:Int)<=(j:Int):=by omega
  have i2:(j:Int)<(k:Int):=by omega
  have M:=h.o.t.1;have am:=h.o.d.1;unfold maxLen at M;have e:=AI C f D (d.o.1.key _ (db f));clear C f D F R;go_upto_region 9 with fail;clear c0 c1;generalize wr.alloc (tn Z.toArray (.pointer a))=w3 at p z⊢;obtain⟨X,hX⟩:=rk (wr.heap.size);rw[hX]at z⊢;obtain⟨x0,x1⟩:=lQ z;have x:=p.drew;have S:=(lQ (qt p (e.o.1.2.heap (qt h.o.q.1 d.o.1.blk) (fun q f=>d.o.1.bB q f)))).1;have K:=(e.o.1.1.bound).below x;have L: ∀b q,((FT b q\/w2.heap.size<=b)/\b<wr.heap.size)->b<w3.drew.heap.size:=fun b q u=>da u.2 x.size;have ap:=h.o.q.2
  cases r with
  |some y=>
   obtain⟨b,H,-⟩:=t;injection H with H;subst H;have t:=trivial;have E:=al (e.o.1.skip e.o.2.1 (by simp) p);clear p z x S K L t;go_wp2_with fail;go_roundw
   case rel=>exact⟨j+1,by omega,by go_num,E.o⟩
   case measure=>simp[intOf];omega
  |none=>
   obtain rfl:a=none:=by injection t
   have O:=al (MX w3.drew T o most _ _ Z K L e.o.t);have Y:=al x;clear p z x K L t;go_upto_region 10 with fail
   go_still_tail 6,(by kernel_rfl)
   change wpList _ _ _ _ _ w3.drew;go_wp2_with fail;refine O.o.m ?_;rintro H w5 ⟨⟨v5,rfl⟩,Q,G⟩;have E:=al (e.o.1.step e.o.2.1 rfl Y.o rfl Q G (fun b q u=>u.1));clear Q G S x0 x1 O;go_wp2_with fail;go_roundw
   case rel=>exact⟨j+1,by omega,by go_num,E.o⟩
   case measure=>simp[intOf];omega
 obtain rfl:k=j:=by omega
 have J:=C;unfold sS at J;rw[fm (by have:=congrArg List.length HK.o;simp[h.o.2.1]at this;omega)]at J;have aa:=al (show sS w2 T o most FT (aW (jd false wl) l) true wl 0 wr from J);clear C J R D;go_wp2_with fail
 go_loopw [39] (fun i wr=> ∃j:Nat,j<=k/\i=rm (j:Int)/\sS w2 T o most FT (aW (jd false wl) l) true wl j wr) (fun i _=>k-(intOf i).toNat)
 case atStart=>exact⟨0,dq _,rfl,aa.o⟩
 rename World=>wr
 obtain⟨j,R,rfl,C⟩:=hrel;by_cases D:j<k
 ·obtain⟨⟨Z,a⟩,F⟩: ∃V,s[j]?=some V:=⟨_,ao (by rw[h.o.2.1];exact D)⟩;obtain⟨P,r,rfl,c0,c1,t,f⟩:=h.o.1 wr C.2 j _ F;obtain⟨p,z⟩:=rj wr (tn Z.toArray (.pointer a));have i1:(0:Int)<=(j:Int):=by omega
  have i2:(j:Int)<(k:Int):=by omega
  have M:=h.o.t.1;have am:=h.o.d.1;unfold maxLen at M;have e:=AI C f D (d.o.1.key _ (db f));clear C f D F R;go_upto_region 15 with fail;clear c0 c1;generalize wr.alloc (tn Z.toArray (.pointer a))=w3 at p z⊢;obtain⟨X,hX⟩:=rk (wr.heap.size);rw[hX]at z⊢;obtain⟨x0,x1⟩:=lQ z;have x:=p.drew;have S:=(lQ (qt p (e.o.1.2.heap (qt h.o.q.1 d.o.1.blk) (fun q f=>d.o.1.bB q f)))).1;have K:=(e.o.1.1.bound).below x;have L: ∀b q,((FT b q\/w2.heap.size<=b)/\b<wr.heap.size)->b<w3.drew.heap.size:=fun b q u=>da u.2 x.size;have ap:=h.o.q.2
  cases r with
  |none=>
   obtain rfl:a=none:=by injection t
   have E:=al (e.o.1.skip e.o.2.1 (by simp) p);clear p z x S K L t;go_wp2_with fail;go_roundw
   case rel=>exact⟨j+1,by omega,by go_num,E.o⟩
   case measure=>simp[intOf];omega
  |some y=>
   obtain⟨b,H,t⟩:=t;injection H with H;subst H;have ad:=d.o.1.fit _ (db e.o.2.1) y rfl;have O:=al (MV w3.drew T o most _ _ Z y K L e.o.t ad)
   have V:FK most (aW (jd true (wl.take j)) (aW (jd false wl) l)) Z y=lh (aW (jd true (wl.take j)) (aW (jd false wl) l)) (Z,some y):=by refine fb (fun⟨h1,F⟩=>?_);have a0:=cE (wl:=jd true (wl.take j)) (cE (wl:=jd false wl) d.o.1.tab.up);have F:=Tp (wl:=wl) (cE (wl:=jd false wl) d.o.1.tab.up) (j+1);rw[EG d.o.1.up d.o.1.tab.up,tF e.o.2.1,ff (by rfl),xx]at F;have U:=lg (p:=(Z,y)) a0;rw[h1]at U;simp only[nx,nf,if_false]at U;have h5:=d.o.t;unfold lh at F;simp only at F;omega
   have Y:=AD x V;obtain⟨⟨r0,r1,r2,r3⟩,-⟩:=cP (qt p t);obtain⟨ya,yb,yc,yd⟩:=y;unfold Rw.val at O;clear p z x K L t V ad;go_upto_region 16 with fail
   go_still_tail 10,(by kernel_rfl)
   change wpList _ _ _ _ _ w3.drew;go_wp2_with fail;refine O.o.m ?_;rintro H w5 ⟨p,Q,G⟩;obtain⟨v5,rfl⟩: ∃v,H=.returned v:=⟨_,p⟩;have E:=al (e.o.1.step e.o.2.1 rfl Y.o.1 Y.o.2 Q G (fun b q u=>u.1));clear p Q G S x0 x1 r0 r1 r2 r3 O;go_wp2_with fail;go_roundw
   case rel=>exact⟨j+1,by omega,by go_num,E.o⟩
   case measure=>simp[intOf];omega
 obtain rfl:k=j:=by omega
 have J:=C;unfold sS at J;rw[fm (by have:=congrArg List.length HK.o;simp[h.o.2.1]at this;omega),EG d.o.1.up d.o.1.tab.up]at J;obtain⟨r,a⟩:=J;have I:=h.o.q.1;have e:bX prog wr 9 m n g:=d.o.1.map.below I|>.only a.only (fun⟨q,f⟩=>d.o.1.bm q f);have t:=a.heap (qt I d.o.1.blk) (fun q f=>d.o.1.bB q f);have G:=(lQ t).2;obtain⟨x,y,-,p⟩:=e.clear underlying138 0;have F:=d.o.1.map.lt
 have E:=al (show bz x T most o (aW wl l) (fun b q=>FT b q\/w.heap.size<=b)/\OnlyC (fun b q=>FT b q\/b=m) w x from by
  have z:=I.size;refine⟨(r.dC p (fun b q f H=>?_)).m (fun b q f=>f.imp id (fun u=>by omega)),((oS I _).x a (fun b q _ u=>.inl u)).x (OnlyC.of_map p e) (fun b q _ u=>.inr u)⟩;subst H
  exact f.elim (d.o.1.bm q) (fun u=>by omega))
 clear r a e t p C R D I;go_wp2_with fail;go_ret
 exact⟨rfl,E.o⟩
end
section
open Go.RowKit Go.Maps Go.WideShapes
theorem NQ{x:FE}(h:nt x=0)(f:x.fits)(_l:x.cls.length<=64):opsE x.ops=0/\x.args.length<=8/\(∀n∈x.args,-1099511627776<=n/\n<=1099511627776)/\Good x.cls/\dE x.cls x.cls:=by
 unfold nt at h;by_cases a:ow x=0
 ·rw[fb (by rw[a];simp)]at h;unfold ow uR qJ at a;split at a
  ·cases a
  ·split at a
   ·rename_i d;exact absurd a d
   ·rename_i d;split at a
    ·cases a
    ·rename_i k;split at a
     ·cases a
     ·rename_i b;unfold ug at h;split at h
      ·rename_i c;exact absurd h c
      ·rename_i c;split at h
       ·cases h
       ·split at h
        ·rename_i i;refine⟨by simpa using d,by omega,fun n g=>?_,fun j e=>⟨Fl (by simpa using c) j e,f.2.2.2 j e⟩,i⟩;unfold pD at b;rw[Bool.not_eq_false,List.all_eq_true]at b;simpa using b n g
        ·cases h
 ·rw[ff a]at h;exact absurd h a
theorem jR.bound{w:World}{G:Nat->Prop}{e:FE}{a b c:Value}(h:jR w G e a b c):jR w (fun k=>G k/\k<w.heap.size) e a b c:=
 ⟨bI.bound h.1 (Zy _) (by decide),h.2.1.bound,bI.bound h.2.2.1 (dK _) (by decide),h.2.2.2⟩
theorem qf{w:World}{B:Nat}{c b a v0 v1 v2:Value}{t:TypeId}(h:w.heap[B]?=some (.cells #[c,b,a] t (0,0))):
  (((w.setCell ⟨B,0,none⟩ v0).setCell ⟨B,1,none⟩ v1).setCell ⟨B,2,none⟩ v2).heap[B]?=some (.cells #[v0,v1,v2] t (0,0))/\Only (fun k=>k=B) w (((w.setCell ⟨B,0,none⟩ v0).setCell ⟨B,1,none⟩ v1).setCell ⟨B,2,none⟩ v2):=
 ⟨EY h,((Only.aR w B 0 v0).x (Only.aR _ B 1 v1) (fun _ _ h=>h)).x (Only.aR _ B 2 v2) (fun _ _ h=>h)⟩
def Si(o:Out):Value:=.agg #[rm o.1,rm o.2.1,rm o.2.2]
def ab8(T o:Nat)(most:Int)(F:Nat->Nat->Prop)(p:Out×az)(w:World)(e:Ending)(w':World):Prop:=
 e=.returned (.tuple #[Si p.1,rm 0])/\bz w' T most o p.2 (fun b q=>F b q\/w.heap.size<=b)/\OnlyC F w w'/\df p.2
theorem JV(w:World)(T o:Nat)(most:Int)(l:az)(F:Nat->Nat->Prop)(G:Nat->Prop)(pv:Value)(z:List UInt8)(rows u fuel:Int)(U:bz w T most o l F)(m: ∀b q,F b q->b<w.heap.size)(g:df l)(i:Rd w G pv (z.map B8))(n:z.length<=1000000)(p:0<=fuel/\fuel<=10000)
  (f:fB w) (d:mH w) (h:gy w) (r:gZ w):Calls prog 15 #[rv T,pv,.agg #[rm rows,rm u,rm fuel]] w (ab8 T o most F (qp most fuel z l) w):=by
 have k:=al (AY w (sn rows u fuel) (sl 0 0 0));have a:=qt (ae (w.alloc (sn rows u fuel)) (sl 0 0 0)) (an w (sn rows u fuel));have e:=an (w.alloc (sn rows u fuel)) (sl 0 0 0);rw[show(w.alloc (sn rows u fuel)).heap.size=w.heap.size+1 by simp]at e;have c:=BT U m g i n p f d h r;obtain⟨Ap,np,cp,rfl,-⟩:=id i;clear U m g i n f d h r;go_enter func15,ntmps15;go_upto_region 3 with fail;generalize (w.alloc (sn rows u fuel)).alloc (sl 0 0 0)=f at k a e⊢;obtain⟨C,g⟩:=rk (w.heap.size);obtain⟨V,m⟩:=rk (w.heap.size+1);rw[m]at e⊢;rw[g]at a⊢;have v:=(ag a).1.2.2;have n:=al (tK f fuel);rw[show dv fuel=0 by unfold dv;rw[fb (by omega)]]at n;have h:=AM k.o a e g m;clear a e g m k p;go_wp2_with fail;refine n.o.m ?_;rintro N w2 ⟨rfl,hw⟩;obtain rfl:f=w2:=hw.symm;have HD:=al (GH f G _ z (c.o.q.q.2.below h.o.1) (c.o.q.q.1.below h.o.1) (c.o.t.1.below h.o.1) c.o.q.1);clear v n;go_wp2_with fail;refine HD.o.m ?_;intro N w2 hd;obtain⟨P,hd⟩:=hd.read;have Y:=h.o.1.x (P.m h.o.1.size);have kC:=qt P h.o.2.1;have kO:=qt P h.o.d.1;rcases hd with⟨x,vo,va,vc,M,rfl,d⟩|⟨M,kk,dN,rfl⟩
 ·obtain⟨p,g,s,m,e⟩:=JQ M;obtain⟨n,-,k,r,f⟩:=NQ p g e;obtain⟨Ao,co,rfl,-,-⟩:=d.1.slice;obtain⟨Aa,na,ca,rfl,-⟩:=id d.2.1;obtain⟨Ac,cc,rfl,-,-⟩:=d.2.2.1.slice;have a:=BY Y kC kO d M n k r f m e;unfold Dx;clear Y kC kO d M n k r f m e P p g s;go_upto_region 9 with fail;obtain⟨f,k⟩:=rj w2 (sC x.id Ao x.ops.length co Aa na ca Ac x.cls.length cc);generalize w2.alloc (sC x.id Ao x.ops.length co Aa na ca Ac x.cls.length cc)=w3 at f k⊢;obtain⟨E,ap⟩:=rk (w2.heap.size);rw[ap]at k⊢;have g:=a.o.1.x (f.m a.o.1.size);have m:=a.o.1.size;have K:=al (yF w3 T o most l F (c.o.1.below g) (fun b q e=>da (c.o.2.1 b q e) g.size));have d:=AN g (qt f a.o.2.1) (qt f a.o.d.1) k ap (a.o.t.1.bound.below f);clear f k g m;go_wp2_with fail;refine K.o.m ?_;rintro N w4 ⟨B,rfl,J,f⟩;obtain⟨m,L,H⟩:=KB.new J f (fun b q e=>da (c.o.2.1 b q e) d.o.1.size) c.o.d.1 (c.o.q.d.1.below d.o.1) (c.o.q.t.1.below d.o.1);have t:=d.o.1.x (f.m d.o.1.size);have s:=qt f d.o.2.1;have A:=qt f d.o.d.1;have n:=qt f d.o.t.1;have g:=d.o.q.2.below f;have D:E<m:=da (aM d.o.t.1) L;have I:w.heap.size<m:=by have:=a.o.1.size;have:=d.o.q.1;omega
  have y:V<m:=by have:=aM d.o.d.1;omega
  obtain⟨-,X,v,-⟩:=fY n;have x3:=(ag s).1.2.2;have R:=al (Ck x.ops _ _ x.args fuel (.pointer none) (fun _=>true) l (bI.m g.1 (fun k r N=>by have:=d.o.q.1;omega)) a.o.q.2.1 (c.o.q.q.1.below t) g.2.1 a.o.q.q.2.1 a.o.q.d.1 c.o.q.2.1 (.inl ⟨rfl,fun _=>rfl⟩) H);have p:=By t s A n g D I y;clear J f L H t s A n g D I y K;go_wp2_with fail;refine R.o.m ?_;rintro N Z ⟨f,rfl,t,J,ZF,Lf,D⟩;obtain⟨A,cf,rfl,-,-⟩:=t.slice;obtain⟨O,i⟩:=rk (DG most fuel (fun _=>true) x.ops x.args l);rw[i]at t J ZF Lf⊢;have Q:known O.2:=by rw[<-i];exact JK _ _ _ _ _ _
  obtain⟨S,W⟩: ∃g,(if O.2=0 then O.1.bD 0 else O.1.value)=g:=⟨_,rfl⟩;rw[W];obtain⟨st,a0⟩:=rk (O.1.steps);obtain⟨y,L⟩:=rk (O.2);obtain⟨K,n⟩:=rk (bC O.1.cl);rw[a0,L,n];rw[n]at t J;rw[L]at Q W;clear X v x3 R;go_upto_region 15 with fail;obtain⟨g,kr⟩:=rj Z (tb S st A K.length cf y);generalize Z.alloc (tb S st A K.length cf y)=w6 at g kr⊢;obtain⟨R,ad⟩:=rk (Z.heap.size);rw[ad]at kr⊢;have ac:=D.heap p.o.t.1 (fun N=>by have:=p.o.q.2.1;omega);have a1:=D.heap p.o.d.1 (fun N=>by have:=p.o.q.t;omega);have am:=qt g ac;have a7:=qt g a1;have ZH:Below w.heap.size w Z:=p.o.1.x (D.aH p.o.1.size (fun k r N=>by have:=p.o.q.d.1;omega));have a5:=ZH.x (g.m ZH.size);have a':=bI.below (bI.only p.o.q.1.2.2.1 D (fun k r N=>by have:=d.o.q.1;have:=p.o.q.2.1;omega)) g;have a4:=bI.below t g;have aa:=KB.ok.only _ _ _ _ (fun _=>False) (fun k r=>r) Lf (qS g);obtain⟨j0,j1,j2,j3⟩:=fY am;obtain⟨i0,i1,i2,i3⟩:=fY kr;have zy:x.cls=bC x.cls:=iF a.o.q.t.1.ok a.o.q.q.1;have a2:Good K:=by rw[<-n];exact lJ ZF
  have X:=al (Q8 w6 _ _ Ao Aa x.ops.length co na ca st x.id S y Ac A x.cls.length cc K.length cf x.cls K (qL O x) a' a4 a.o.q.q.d J a.o.q.t.1 a2 a.o.q.q.1 (by show qL O x=true↔iC K x.cls;rw[NL,n,<-zy]) (by unfold known at Q;unfold lq;omega))
  have v:qp most fuel z l=((Aw (qL O x) y,x.id,Q6 (Aw (qL O x) y) S),if Aw (qL O x) y=1 then O.1.rows else l):=by unfold qp;rw[a.o.q.1];show Zx most fuel x l=_;unfold Zx ab2;dsimp only;rw[i,L,W]
  have a8:=JL (q:=qL O x) Q;obtain⟨H,a6⟩:=rk (Aw (qL O x) y);rw[a6]at X v a8;obtain⟨I,a3⟩:=rk (Q6 H S);rw[a3]at X v;have s:=AM a5 a7 aa v ad;clear g kr ac a1 am a7 ZH a5 a' a4 aa zy a2 v a6 a3 t J ZF Lf D i Q W a0 L n;go_wp2_with fail;refine X.o.m ?_;rintro N w7 ⟨rfl,i⟩;clear j0 j1 j2 j3 i0 i1 i2 i3 X;go_upto_region 16 with fail;obtain⟨D,L⟩:=rj w7 (sl H x.id I);generalize w7.alloc (sl H x.id I)=w8 at D L⊢;obtain⟨J,a2⟩:=rk (w7.heap.size);rw[a2]at L⊢;have Vv:Below w.heap.size w w8:=(s.o.1.x (i.m s.o.1.size)).x (D.m (dd s.o.1.size i.size));have W:=qt D (qt i s.o.2.1);have a4:=KB.ok.only _ _ _ _ (fun _=>False) (fun k r=>r) (KB.ok.only _ _ _ _ (fun _=>False) (fun k r=>r) s.o.d.1 (qS i)) (qS D);obtain⟨⟨j0,j1,j2⟩,-⟩:=ag L;have aa:V≠J:=fun N=>by have:=aM s.o.2.1;have:=i.size;omega
  obtain⟨wl,n,g,FR,Q,Sj,a6,a7,ac,-⟩:=a4;have X:=Q.tab;have t:=AI Vv W L aa;have a5:w6.heap.size<=J:=by rw[<-a2];exact i.size
  clear D i;by_cases am:H=1
  ·subst am;have HP:=al (Sg w8 B T o m n most l wl F g FR Q (fun b q e=>da (c.o.2.1 b q e) Vv.size) (Ci Q.up ac) (by rw[Sj];exact a7));clear Vv W aa Q ac X L;go_wp2_with fail;refine HP.o.m ?_;rintro N w9 ⟨rfl,a3,X⟩
   have a9:m<J:=by obtain⟨_,_,_,_,h1,_⟩:=s.o.d.1;have:=h1.map.lt;have:=a5;omega
   have a1: ∀j,¬(F V j\/V=m):=fun j i=>by
    have h5:=h.o.q;have h6:=p.o.q.t;rcases i with i|i
    ·have:=c.o.2.1 V j i;omega
    ·omega
   have a': ∀j,¬(F J j\/J=m):=fun j i=>by
    have h5:=h.o.q;have h6:=p.o.q.t;rcases i with i|i
    ·have:=c.o.2.1 J j i;omega
    ·omega
   have i:=X.heap t.o.2.1 a1;have a0:=X.heap t.o.d.1 a';obtain⟨⟨z0,z1,z2⟩,zf⟩:=ag i;obtain⟨⟨u0,u1,u2⟩,-⟩:=ag a0;have D:=AN a3 X i Sj (aM t.o.2.1) a6;clear a3 X i a0 a1 a' j0 j1 j2 HP Sj;go_wp2_with fail;have i:=qf (v0:=rm 1) (v1:=rm x.id) (v2:=rm I) D.o.d.1;generalize ((w9.setCell ⟨V,0,none⟩ (rm 1)).setCell ⟨V,1,none⟩ (rm x.id)).setCell ⟨V,2,none⟩ (rm I)=X at i⊢;rw[s.o.t.1,ff trivial];have X:OnlyC F w w9:=(oS t.o.1 F).x D.o.2.1 (fun b q hb e=>e.elim (fun U=>U) (fun N=>by have:=p.o.q.d.1;omega));refine dj (ax rfl _ _ _ _ _ _ _ rfl i.1 underlying50 rfl (by kernel_rfl)) rfl ⟨rfl,?_,X.far i.2 (fun k r N=>by have:=h.o.q;omega),D.o.q.2⟩;rw[<-D.o.t.1];refine(D.o.1.dC i.2 (fun b q e N=>?_)).m (fun b q e=>e.imp (fun U=>U) (fun U=>dd t.o.1.size U));have h5:=h.o.q;have h6:=D.o.q.1;rcases e with e|e
   ·have:=c.o.2.1 b q e;omega
   ·omega
  ·obtain⟨⟨z0,z1,z2⟩,zf⟩:=ag W;clear Vv W aa Q ac L;go_wp2_with fail;have i:=qf (v0:=rm H) (v1:=rm x.id) (v2:=rm I) t.o.2.1;generalize ((w8.setCell ⟨V,0,none⟩ (rm H)).setCell ⟨V,1,none⟩ (rm x.id)).setCell ⟨V,2,none⟩ (rm I)=w9 at i⊢;have e:=t.o.1.x (i.2.aH t.o.1.size (fun k r N=>by have:=h.o.q;omega));rw[s.o.t.1,fb am];exact dj (ax rfl _ _ _ _ _ _ _ rfl i.1 underlying50 rfl (by kernel_rfl)) rfl ⟨rfl,(c.o.1.below e).m (fun _ _ U=>.inl U),oS e _,c.o.d.1⟩
 ·have v:qp most fuel z l=((7,0,0),l):=by unfold qp;rw[M]
  have a:=AI Y kO v dN;unfold zeroE;clear Y kC kO P M v;go_upto_region 8 with fail;have e:=ae w2 (sq 0);generalize w2.alloc (sq 0)=w3 at e⊢;have f:=qt e a.o.2.1;obtain⟨⟨z0,z1,z2⟩,zf⟩:=ag f;have d:=AD (a.o.1.x (e.m a.o.1.size)) f;clear e f;go_wp2_with fail;have i:=qf (v0:=rm 7) (v1:=rm 0) (v2:=rm 0) d.o.2;generalize ((w3.setCell ⟨V,0,none⟩ (rm 7)).setCell ⟨V,1,none⟩ (rm 0)).setCell ⟨V,2,none⟩ (rm 0)=w4 at i⊢;have e:=d.o.1.x (i.2.aH d.o.1.size (fun k r N=>by have:=h.o.q;omega));rw[a.o.d.1];exact dj (ax rfl _ _ _ _ _ _ _ rfl i.1 underlying50 rfl (by kernel_rfl)) rfl ⟨rfl,c.o.1.dC (qS e) (fun _ _ _ U=>U)|>.mono (fun _ _ U=>.inl U),oS e _,c.o.d.1⟩
end
theorem acb:Lib.itoa 3=[51]:=by unfold Lib.itoa;rw[fb (by decide),Lib.decDigits_eq];simp[Lib.nDigits_small];rfl
def zt:List aX:=[⟨1,0,0,3,0⟩,⟨7,1,0,0,0⟩]
theorem WU:(DG 4 9 (fun _=>true) zt [] []).1.cl=[⟨false,-1,[51],0,0⟩]/\bC [⟨false,-1,[51],0,0⟩]=[⟨false,-1,[51],0,0⟩]:=by
 have d:iG 3=⟨false,-1,[51],0,0⟩:=by unfold iG;rw[acb]
 have c:Good [iG 3]:=yw ⟨by decide,by decide⟩;have a:bC [iG 3]=[iG 3]:=tY (c _ (by simp)).1;have b:oL (fun _=>0) 0 3 0=3:=rfl;rw[<-d];refine⟨?_,a⟩;simp[DG,cK,zt,vE,sN,fZ,oz,rowP,lR,Gz,aV,a,b]
theorem acd(w:World):(Op.equalIn 10000 68 (.agg #[.bool false,rm (-1),.string ⟨#[51]⟩,rm 0,rm 0]) (.agg #[.bool false,rm (-1),.string ⟨#[51]⟩,rm 0,rm 0])).run prog w=.ok true w:=by
 have a:prog.stoodInHeld 68=false:=by kernel_rfl
 have b:prog.underlying 68=some (.struct (prog.fieldsOf 68)):=by unfold Program.fieldsOf;rw[underlying68]
 rw[run_equalIn_agg w 9999 68 _ _ b a];unfold Program.fieldsOf;rw[underlying68];simp[Op.eqFields,go_sem,underlying3,underlying4,underlying9]
theorem Sk(w:World)(a:fB w)(c:mH w)(d:gy w):Calls prog 7 #[] w fun z w'=>z=.returned (.bool true)/\Below w.heap.size w w':=by
 have k:=AF a c d;clear a c d;go_enter func7,ntmps7;go_wp2_with fail;refine(yA w 4 2 (by decide) (by decide) (by decide) (by decide)).m ?_;rintro z i ⟨T,rfl,f,a⟩;obtain⟨d,c⟩:=rj i (.cells #[rm 1,rm 0,rm 0,rm 3,rm 0,rm 7,rm 1,rm 0,rm 0,rm 0] 64);have g:=AI f a d c;clear f a d c;go_wp2_with fail;have g:=g.o;generalize i.alloc (.cells #[rm 1,rm 0,rm 0,rm 3,rm 0,rm 7,rm 1,rm 0,rm 0,rm 0] 64)=w2 at g⊢;obtain⟨F,h⟩:=rk (i.heap.size);rw[h]at g⊢;obtain⟨f,a,d,c⟩:=g;have e:=a.x (d.m (by rw[<-h];exact a.size));have t:=aM c
 have m:qi w2 (fun u=>u=F) (.slice (some ⟨F,0,none⟩) 2 2) zt:=by refine⟨_,_,_,rfl,rfl,b8 _,by simp[maxLen],fun _=>⟨F,0,rfl,rfl,fun v x l j r n=>?_⟩⟩;have s:=jX (k:=5) (xs:=zt.map aX.cells) (fun y p=>by obtain⟨y,_,rfl⟩:=ep.1 p;rfl) v x l j r n;rw[World.cell?,c];have B:(#[rm 1,rm 0,rm 0,rm 3,rm 0,rm 7,rm 1,rm 0,rm 0,rm 0]:Array Value).toList=(zt.map aX.cells).flatten:=rfl;rw[<-B]at s;simpa using s
 have p:=al (JU (F:=fun _=>False) zt _ (.slice none 0 0) [] 9 m (fun u l=>by have r:u=F:=l;omega) (by decide) (k.o.d.below e) (Rd.nil _ _) (by decide) (by simp) (by decide) (f.below (by rw[h];exact d)) (fun b q l=>by have:=l.2;omega) ⟨ee,fun q l=>by cases l⟩ (k.o.1.below e) (k.o.2.1.below e));have n:=al e;clear f a d c e m t h;refine p.o.m ?_;rintro z w3 ⟨K,rfl,a,u,-,d⟩;rw[WU.1,WU.2]at a;obtain⟨J,I,rfl,l,f⟩:=a.slice;obtain⟨G,h⟩:=rk (DG 4 9 (fun _=>true) zt [] []);rw[h];obtain⟨e,v⟩:=rj w3 (tb (Vu G) G.1.steps J 1 I G.2);have c:=bI.below a e;have t:=al (tO _ _ _ _ c (by simp));have m:=al (n.o.x ((d.x (e.m d.size)).m n.o.size));simp only[gn,lp,ie]at l f⊢;clear a u d l f e v c h p;go_wp2_with fail;refine t.o.m ?_;rintro z a ⟨C,u,rfl,h,v⟩;have D:=al (m.o.x (v.m m.o.size))
 obtain⟨f,e,A⟩: ∃f e,(Value.slice C 1 u)=.slice (some ⟨f,0,none⟩) 1 e:=by
  rcases h.2 with r|r
  ·obtain⟨r,-⟩:=r;cases r
  ·obtain⟨f,e,_,z,_⟩:=r;exact⟨f,e,z⟩
 injection A with l H d;subst l d;have c:eI a (fun _=>True) (.slice (some ⟨f,0,none⟩) 1 u) [⟨false,-1,[51],0,0⟩]:=bI.bO h (dK _) (by decide) (fun _ _=>trivial);obtain⟨b,o,d,-,y,p,x,r,l⟩:=eI.at_ c (k:=0) rfl;injection d with d;injection d with d E;subst d E;have y:a.cell? ⟨f,0,none⟩=some (.bool false):=y;have p:a.cell? ⟨f,1,none⟩=some (rm (-1)):=p;have x:a.cell? ⟨f,2,none⟩=some (.string ⟨#[51]⟩):=x;have r:a.cell? ⟨f,3,none⟩=some (rm 0):=r;have l:a.cell? ⟨f,4,none⟩=some (rm 0):=l;have E:=acd;have d:=Tryz.Ku;clear h v c t;go_wp2_with fail;go_ret
 exact⟨rfl,D.o⟩
end Go.Proofs.YtehccbdajiiaaaaGreatDoor
