import Derived.Test.YtehccbdajiiaaaaGreatDoorS35
import Derived.Test.YtehccbdajiiaaaaGreatDoorS48
namespace Go.Proofs.YtehccbdajiiaaaaGreatDoor
open Go.Proofs.Tryz
set_option maxRecDepth 100000
set_option maxHeartbeats 16000000
open Go.RowKit
section
open Go.RowKit Go.Maps Go.WideShapes Go.Shelf
attribute [local go_sem] Oper.semAt_some
def vF(o:Out):List Value:=[rm o.1,rm o.2.1,rm o.2.2]
theorem zu{most n f:Int}(h:fQ most n f=0):(0<=f/\f<=10000)/\(1<=most/\most<=1024)/\2<=n/\n<=16:=by
 have b: ¬(f<0\/10000<f):=fun e=>by rw[fQ,dv,ff e,fb (by decide)]at h;exact absurd h (by decide)
 rw[fQ,dv,fb b,ff rfl,iy]at h
 have a: ¬(most<1\/1024<most):=fun e=>by rw[ff e]at h;exact absurd h (by decide)
 rw[fb a,xE]at h
 have c: ¬(n<2\/16<n):=fun e=>by rw[ff e]at h;exact absurd h (by decide)
 omega
theorem GP(w:World)(most:Int)(n:Nat)(h:Int)(s:fQ most n h=0):Calls prog 28 #[gX most n h] w fun q a=>
  ∃T,q=.returned (.tuple #[rv T,rm 0])/\bz a T most n [] (fun r _=>w.heap.size<r/\r<a.heap.size)/\Below w.heap.size w a:=by
 obtain⟨j,e,o⟩:=zu s;unfold gX;obtain⟨c,a⟩:=rj w (sn most n h);have g:(w.alloc (sn most n h)).heap.size=w.heap.size+1:=by simp
 go_enter func28,ntmps28;go_upto_region 1 with fail;generalize w.alloc (sn most n h)=d at c a g⊢;obtain⟨C,f⟩:=rk (w.heap.size);rw[f]at a⊢;obtain⟨⟨p,k,l⟩,-⟩:=ag a;have i:=al (tK d h);rw[show dv h=0 by unfold dv;rw[fb (by omega)]]at i;have m:=al (yA d most n e.1 e.2 (by omega) (by omega));have b:=AF c g f;clear c a g f s j e o;go_wp2_with fail;refine i.o.m ?_;rintro q e ⟨rfl,f⟩;obtain rfl:d=e:=f.symm;go_wp2_with fail;refine m.o.m ?_;rintro q e ⟨T,rfl,c,a⟩;have d:=AD c a;clear c a p k l;go_wp2_with fail
 go_ret2
 exact⟨T,rfl,d.o.1.m (fun r c a=>⟨by have:=b.o.2.1;have:=b.o.d;omega,a.2⟩),b.o.1.x (d.o.2.m b.o.1.size)⟩
def GQ(w:World)(N T C d b a o:Nat)(most g:Int)(c:List (List UInt8))(U:Nat->Prop)(W:World):Prop:=
 ∃v e,(W.heap[C]?=some (sn most (o:Int) g)/\W.heap[d]?=some (sR T)/\W.heap[b]?=some (tw 0)/\W.heap[a]?=some (.cells #[v] 44 (0,0)))/\
  W.ownsRow N 50 3 v c.length ((bH most g c []).1.map vF).flatten/\bz W T most o (bH most g c []).2 e/\df (bH most g c []).2/\(∀k,U k↔k=a\/k=b\/v.ownBlock=some k\/ ∃q,e k q)/\Below w.heap.size w W/\
  (C<N/\d<N/\b<N/\a<N/\N<=W.heap.size)/\(w.heap.size<=C/\w.heap.size<=d/\w.heap.size<=b/\w.heap.size<=a)/\(∀f q,e f q->C<f/\f≠d/\f≠b/\f≠a/\f<W.heap.size/\v.ownBlock≠some f)
theorem GQ.jl{w:World}{N T C F y z o:Nat}{most L:Int}:ed N (GQ w N T C F y z o most L):=by
 refine⟨?_,?_⟩
 ·rintro u U K ⟨J,m,⟨p,l,g,j⟩,i,q,r,c,e,a,k,d⟩ t n;rcases(c t).1 n with rfl|rfl|h|⟨s,h⟩
  ·exact oT j
  ·exact oT g
  ·exact(i.lt t h).2
  ·exact(d t s h).2.2.2.2.1
 ·rintro u U K M S ⟨J,m,⟨p,l,g,j⟩,i,q,r,c,e,⟨x,v,A,G,D⟩,k,d⟩ a b
  exact⟨J,m,⟨a.heap p (fun h=>by have:=(b _ h).1;omega),a.heap l (fun h=>by have:=(b _ h).1;omega),a.heap g (fun h=>by have:=(b _ h).1;omega),a.heap j (fun h=>by have:=(b _ h).1;omega)⟩,
   aJ i a (fun B f h=>(b B h).2 ((c B).2 (.inr (.inr (.inl f))))),q.dC a (fun I s f h=>(b I h).2 ((c I).2 (.inr (.inr (.inr ⟨s,f⟩))))),r,c,e.x (a.aH e.size (fun t n h=>by have:=(b t h).1;omega)),⟨x,v,A,G,dd D a.size⟩,k,
   fun I s f=>by obtain⟨B,h,t,n,E,H⟩:=d I s f;exact⟨B,h,t,n,da E a.size,H⟩⟩
theorem GQ.next{w W j r G R h:World}{N T C m f a o X:Nat}{most S:Int}{l:List (List UInt8)}{U:Nat->Prop}{v v':Value}{FT:Nat->Nat->Prop}{p:Out×az}{b:List UInt8}(hp:qp most S b (bH most S l []).2=p)
  (F:(W.heap[C]?=some (sn most (o:Int) S)/\W.heap[m]?=some (sR T)/\W.heap[f]?=some (tw 0)/\W.heap[a]?=some (.cells #[v] 44 (0,0))))
  (h5:W.ownsRow N 50 3 v l.length ((bH most S l []).1.map vF).flatten) (i: ∀k,U k↔k=a\/k=f\/v.ownBlock=some k\/ ∃q,FT k q) (Y:Below w.heap.size w W)
  (s:C<N/\m<N/\f<N/\a<N/\N<=W.heap.size) (am:w.heap.size<=C/\w.heap.size<=m/\w.heap.size<=f/\w.heap.size<=a) (t: ∀b q,FT b q->C<b/\b≠m/\b≠f/\b≠a/\b<W.heap.size/\v.ownBlock≠some b)
  (y:a≠f/\m≠f/\m≠a/\C≠f/\C≠a/\C≠m) (I:Below W.heap.size W j) (hX:W.heap.size<=X) (ht:bz r T most o p.2 (fun b q=>FT b q\/j.heap.size<=b)) (cj:OnlyC FT j r) (ac:df p.2) (a4:X<j.heap.size)
  (H:Only (fun k=>k=X\/k=f) r G) (a':G.heap[f]?=some (tw 0)) (A:Below G.heap.size G R) (B:Only (fun k=>v.ownBlock=some k) R h)
  (V:h.ownsRow N 50 3 v' (l.length+1) (((bH most S l []).1.map vF).flatten++vF p.1)) (c:v'.ownBlock=v.ownBlock\/v'.ownBlock=some R.heap.size):
  ∃U',GQ w N T C m f a o most S (l++[b]) U' (h.setCell ⟨a,0,none⟩ v')/\Only U W (h.setCell ⟨a,0,none⟩ v')/\Grow W U U':=by
 obtain⟨k1,k2,k3,k4⟩:=F;have E:=Only.aR h a 0 v';have u: ∀b,v.ownBlock=some b->N<=b/\b<W.heap.size:=fun b e=>h5.lt b e;have J:bH most S (l++[b]) []=((bH most S l []).1++[p.1],p.2):=by rw[qc,bH,hp];rfl
 -- all that turned
 have P:Only (fun k=> ∃q,FT k q) j r:=cj.only;have s2:j.heap.size<=r.heap.size:=P.size;have s3:=H.size;have s4:=A.size;have s5:=B.size;have s1:=I.size
 have hA:Only U W h:=by have L:Only U W j:=oB I U;have Q:=L.x P (fun k z e=>(i k).2 (.inr (.inr (.inr e))));have M:=Q.x H (fun k z e=>e.elim (fun e=>by omega) (fun e=>(i k).2 (.inr (.inl e))));have x4:=M.trans (T:=fun _=>False) (oB A _) (fun _ _ F=>F.elim);exact x4.x B (fun k z e=>(i k).2 (.inr (.inr (.inl e))))
 have D:Only U W (h.setCell ⟨a,0,none⟩ v'):=hA.x E (fun k _ e=>(i k).2 (.inl e));have hc: ∀k x,W.heap[k]?=some x-> ¬U k->(h.setCell ⟨a,0,none⟩ v').heap[k]?=some x:=fun k x z n=>D.heap z n
 have nU: ∀k,k<N->k≠a->k≠f->(∀q,¬FT k q)-> ¬U k:=fun k z a1 a2 a3 n=>by
  rcases(i k).1 n with e|e|e|⟨q,e⟩
  ·exact a1 e
  ·exact a2 e
  ·have:=(u k e).1;omega
  ·exact a3 q e
 have ad:h.heap[f]?=some (tw 0):=B.heap (qt A a') (fun e=>by have:=(u _ e).1;omega)
 have aa:h.heap[a]?=some (.cells #[v] 44 (0,0)):=by have L:=qt I k4;have Q:=P.heap L (fun⟨q,e⟩=>(t _ q e).2.2.2.1 rfl);have M:=H.heap Q (fun e=>e.elim (fun e=>by omega) (fun e=>y.1 e));exact B.heap (qt A M) (fun e=>by have:=(u _ e).1;omega)
 have a0:bz h T most o p.2 (fun b q=>FT b q\/(j.heap.size<=b/\b<r.heap.size)):=by
  have hZ:Only (fun k=>(k=X\/k=f)\/v.ownBlock=some k) r h:=
   ((H.m (fun _ _ F=>.inl F)).trans (T:=fun _=>False) (oB A _) (fun _ _ F=>F.elim)).x B (fun _ _ F=>.inr F)
  refine(ht.bound.dC hZ (fun b q d n=>?_)).m (fun b q d=>d.1.imp (fun F=>F) (fun F=>⟨F,d.2⟩));rcases d.1 with d|d
  ·obtain⟨b1,b2,O,b4,Z,K⟩:=t b q d;rcases n with(e|e)|e
   ·omega
   ·exact O e
   ·exact K e
  ·rcases n with(e|e)|e
   ·omega
   ·omega
   ·have:=(u b e).2;omega
 refine⟨_,⟨v',fun b q=>FT b q\/(j.heap.size<=b/\b<r.heap.size),⟨hc _ _ k1 (nU _ s.1 y.2.2.2.2.1 y.2.2.2.1 (fun q e=>by have:=(t _ q e).1;omega)),hc _ _ k2 (nU _ s.2.1 y.2.2.1 y.2.1 (fun q e=>(t _ q e).2.1 rfl)),E.heap ad (fun e=>y.1 e.symm),?_⟩,?_,?_,?_,fun _=>Iff.rfl,?_,⟨s.1,s.2.1,s.2.2.1,s.2.2.2.1,dd s.2.2.2.2 D.size⟩,am,?_⟩,D,?_⟩
 ·have:=dp h a 0 _ _ v' aa;simpa using this
 ·rw[J,gr,gR,la];simp only[kt,kb,List.flatten_cons,List.flatten_nil,fs,gn,lp];exact aJ V E (fun g ap e=>by have:=(V.lt g ap).1;omega)
 ·rw[J]
  exact a0.dC E (fun b q d e=>by
   subst e;rcases d with d|d
   ·exact(t _ q d).2.2.2.1 rfl
   ·omega)
 ·rw[J];exact ac
 ·exact Y.x (D.aH Y.size (fun k z n=>by
   rcases(i k).1 n with e|e|e|⟨q,e⟩
   ·omega
   ·omega
   ·have:=(u k e).1;omega
   ·have:=(t k q e).1;omega))
 ·rintro b q (d|d)
  ·obtain⟨b1,b2,O,b4,Z,K⟩:=t b q d;refine⟨b1,b2,O,b4,da Z D.size,fun e=>?_⟩;rcases c with c|c
   ·exact K (c▸e)
   ·rw[c]at e;injection e with e;omega
  ·have:=E.size;refine⟨by omega,by omega,by omega,by omega,by omega,fun e=>?_⟩;rcases c with c|c
   ·have:=(u b (c▸e)).2;omega
   ·rw[c]at e;injection e with e;omega
 ·rintro b (e|e|e|⟨q,e|e⟩)
  ·exact .inl ((i b).2 (.inl e))
  ·exact .inl ((i b).2 (.inr (.inl e)))
  ·rcases c with c|c
   ·exact .inl ((i b).2 (.inr (.inr (.inl (c▸e)))))
   ·rw[c]at e;injection e with e;exact .inr (by omega)
  ·exact .inl ((i b).2 (.inr (.inr (.inr ⟨q,e⟩))))
  ·exact .inr (by omega)
end
section
open Go.RowKit Go.Maps Go.WideShapes Go.Shelf
attribute [local go_sem] Oper.semAt_some
theorem Tryz.Vw:(prog.info? 50).map (fun i=>(i.zero,i.size,i.bytes))=some (some (.agg #[rm 0,rm 0,rm 0]),3,24):=by kernel_rfl
def ace(most:Int)(o:Nat)(r:List Out×az)(w:World)(e:Ending)(w':World):Prop:=
 ∃v T,e=.returned (.tuple #[v,rv T,rm 0])/\bI 3 w' (fun k=>w.heap.size<=k) v (r.1.map vF)/\bz w' T most o r.2 (fun b _=>w.heap.size<=b/\b<w'.heap.size)/\df r.2/\Below w.heap.size w w'
theorem wK(w:World)(L:Nat)(F:Nat->Prop)(ps:List (List UInt8))(most f:Int)(o:Nat)(M:eX w F L ps)(hF: ∀k,F k->k<w.heap.size)(hl:ps.length<=1024)(bn: ∀N∈ps,N.length<=8192)(h0:fQ most o f=0)
  (l:fB w) (hE:mH w) (hs:gy w) (hn:gZ w):Calls prog 13 #[rv L,gX most o f] w (ace most o (bH most f ps []) w):=by
 unfold gX;obtain⟨a5,k0⟩:=rj w (sn most o f);refine fX func13 rfl ?_;simp only[ntmps13,lz,gn,lp,Nat.reduceAdd,Nat.reduceSub,Array.replicate_succ,Array.replicate_zero,List.push_toArray,List.append_toArray,fj,lE];go_upto_region 1 with fail;generalize w.alloc (sn most o f)=w1 at a5 k0⊢;obtain⟨C,hC⟩:=rk (w.heap.size);rw[hC]at k0⊢;obtain⟨⟨z0,z1,z2⟩,-⟩:=ag k0;have d:=BE M hF hl bn h0 l hE hs hn;have HB:=AF a5 k0 hC;have HC:=al (EX w1 most o f);unfold gX at HC;rw[h0]at HC;clear a5 k0 hC M hF hl bn h0 l hE hs hn;go_wp2_with fail
 go_step3
 go_wp2_with fail;refine HC.o.m ?_;rintro i w2 ⟨rfl,a6⟩;have k2:=qt a6 HB.o.2.1;obtain⟨⟨z0,z1,z2⟩,-⟩:=ag k2;have dh:=AD (HB.o.1.x (a6.m HB.o.1.size)) k2;have HE:=al (GP w2 most o f d.o.q.1);unfold gX at HE;clear a6 k2 HC;go_wp2_with fail;refine HE.o.m ?_;rintro i n ⟨T,rfl,hT,a0⟩;have b2:=qt a0 dh.o.2;have GW:=aM dh.o.2;have R:=AM (dh.o.1.x (a0.m dh.o.1.size)) b2 hT GW a0.size;clear a0 hT HE z0 z1 z2 b2 GW;obtain⟨a8,b'⟩:=rj n (sR T);obtain⟨a7,ac⟩:=rj (n.alloc (sR T)) (tw 0);have Vx:=qt a7 b';have Q:=a8.x (a7.m a8.size);go_upto_region 7 with fail;generalize (n.alloc (sR T)).alloc (tw 0)=w4 at Q Vx ac⊢;rw[show(n.alloc (sR T)).heap.size=n.heap.size+1 by simp]at ac;obtain⟨e,WT⟩:=rk (n.heap.size+1);rw[WT]at ac⊢;obtain⟨T4,a4⟩:=rk (n.heap.size);rw[a4]at Vx⊢;have m:=AS (R.o.1.x (Q.m R.o.1.size)) (qt Q R.o.2.1) (R.o.d.1.below Q) Vx ac WT a4;have z0:w4.cell? ⟨e,0,none⟩=some (rm 0):=by simp[World.cell?,ac]
 clear a8 b' a7 ac Vx Q WT a4;obtain⟨am,a'⟩:=rj w4 (.cells #[.slice none 0 0] 44);go_upto_region 10 with fail;generalize w4.alloc (.cells #[.slice none 0 0] 44)=w5 at am a'⊢;obtain⟨z,ij⟩:=rk (w4.heap.size);rw[ij]at a'⊢;have fO:=m.o.1.x (am.m m.o.1.size);have h:=al (YF w5 F L ps (d.o.1.below fO) d.o.d.1);have Db:=AI fO a' am ij;clear fO am a' ij z0
 go_step3
 go_wp2_with fail;refine h.o.m ?_;rintro i j ⟨Bs,v,rfl,fW,b1,kB,hr⟩
 have bm:Bs<j.heap.size:=by
  rcases Nat.lt_or_ge Bs j.heap.size with M|M
  ·exact M
  ·simp[World.cell?,Array.getElem?_eq_none M]at kB
 have bk:=UG j (fun k=>(F k\/w5.heap.size<=k)/\k<j.heap.size) Bs v ps d.o.t.1 ⟨.inr b1,bm⟩ kB hr.bound;have ad:Below w4.heap.size w4 j:=Db.o.d.1.x (fW.m Db.o.d.1.size);have I:=qt ad m.o.t.1;have kE:=qt ad m.o.q.1;have Y:=qt ad m.o.2.1;have kO:=qt fW Db.o.2.1;have n1:=m.o.q.2.1;have n2:=m.o.q.d;have n3:=Db.o.t;have n4:=R.o.t.1;have n0:=R.o.q;have n5:=HB.o.d;have n6:=R.o.1.size;have n7:=aM m.o.q.1;have n8:=aM kO;have n9:=aM Db.o.2.1
 have K4:GQ w j.heap.size T C T4 e z o most f [] (fun k=>k=z\/k=e\/(Value.slice none 0 0).ownBlock=some k\/ ∃J,(fun b (_:Nat)=>w2.heap.size<b/\b<n.heap.size) k J) j:=
  ⟨.slice none 0 0,fun b _=>w2.heap.size<b/\b<n.heap.size,⟨Y,I,kE,kO⟩,dy _ _ _ _,m.o.d.1.below ad,⟨ee,fun J B=>by cases B⟩,fun _=>Iff.rfl,m.o.1.x (ad.m m.o.1.size),⟨by omega,by omega,by omega,by omega,b8 _⟩,⟨by omega,by omega,by omega,by omega⟩,
   fun b J B=>⟨by omega,by omega,by omega,by omega,by omega,fun i=>by cases i⟩⟩
 have wC: ∀k,((F k\/w5.heap.size<=k)/\k<j.heap.size)-> ¬(k=z\/k=e\/(Value.slice none 0 0).ownBlock=some k\/ ∃J,(fun b (_:Nat)=>w2.heap.size<b/\b<n.heap.size) k J):=by
  rintro k ⟨a,-⟩ (i|i|i|⟨J,i⟩)
  ·rcases a with a|a
   ·have:=d.o.2.1 k a;omega
   ·omega
  ·rcases a with a|a
   ·have:=d.o.2.1 k a;omega
   ·omega
  ·cases i
  ·have e1:w2.heap.size<k/\k<n.heap.size:=i;rcases a with a|a
   ·have:=d.o.2.1 k a;omega
   ·omega
 have hd:(z≠e/\T4≠e/\T4≠z/\C≠e/\C≠z/\C≠T4):=⟨by omega,by omega,by omega,by omega,by omega,by omega⟩;obtain⟨i0,bo,bv,bp,b3⟩:=eh Tryz.Vw;have HD:=al hd;have V:=By bk K4 wC hd bo bv bp b3;clear bk K4 wC hd n1 n2 n3 n4 n5 n6 n7 n8 n9 I kE Y kO ad bm kB hr b1 fW bo bv bp b3 h;go_wp2_with fail
 refine lO (α:=List UInt8) (fun t v0 v1=>t.setIfInBounds 12 v1) rfl (enters_of func55 (by kernel_rfl) rfl) V.o.1 (fun k a=>a.2) (F4 ps)
  (GQ w j.heap.size T C T4 e z o most f) (fun _ _ _ _=>False) GQ.jl (fun _=>ed.none _) _ V.o.2.1 V.o.d.1 ?cF ?hbody ?hdone (fun _ _ _ _ _ _ _ _ M=>M.elim)
 case cF=>
  intro l' v0 v1 W' K hK;simp only[List.setIfInBounds_toArray,List.set_cons_zero,List.set_cons_succ]at hK⊢
  gi_wp2
  exact hK
 case hbody=>
  rintro l' O b v0 v1 U W ⟨v,FT,a,p,S,Z,E,r,l,s,q⟩ ⟨rfl,A',c',G,rfl,bf,bi,fF,mA⟩;obtain⟨A,cA,rfl⟩:=ai p;obtain⟨H,kX⟩:=rj W (sl 0 0 0);have Y:=qt H a.1;have I:=qt H a.2.1;obtain⟨⟨c0,c1,c2⟩,-⟩:=ag Y;have t0:=aL I;have Sl:=r.x (H.m r.size);have br:=(zu d.o.q.1).1;have b4:=d.o.t.1 b (db bf);have HO:=al (JV (W.alloc (sl 0 0 0)) T o most _ FT G _ b most o f (S.below H) (fun x J B=>da (q x J B).2.2.2.2.1 H.size) Z (fF.below H) (by omega) br (d.o.q.2.1.below Sl) (d.o.q.d.1.below Sl) (d.o.q.t.1.below Sl) (d.o.q.q.below Sl));obtain⟨N,hp⟩:=rk (qp most f b (bH most f O []).2);rw[hp]at HO;have c:=By a p E r l s q hp;have HW:=AM H kX (aM kX) bf bi;clear a p S Z E r l s q H kX Y I Sl br b4 hp fF mA bf bi;simp only[List.setIfInBounds_toArray,List.set_cons_zero,List.set_cons_succ]
  gi_wp2
  refine⟨trivial,?_⟩;clear c0 c1 c2 t0;generalize W.alloc (sl 0 0 0)=W1 at HO HW⊢;obtain⟨X,ap⟩:=rk (W.heap.size);rw[ap]at HW⊢;refine(callsIn_wide.2 HO.o).m ?_;rintro i W2 ⟨rfl,ht,P,bx⟩;have bb:=P.only.heap HW.o.2.1 (fun⟨J,i⟩=>by have:=(c.o.q.d.1 _ J i).2.2.2.2.1;omega);have aa:Below W.heap.size W W1:=by rw[ap];exact HW.o.1
  have a2:=P.only.heap (qt aa c.o.1.2.2.1) (fun⟨J,i⟩=>(c.o.q.d.1 _ J i).2.2.1 rfl);have bl:=P.only.heap (qt aa c.o.1.2.2.2) (fun⟨J,i⟩=>(c.o.q.d.1 _ J i).2.2.2.1 rfl);have b0:X≠e:=fun i=>by have:=c.o.q.1.2.2.1;have:=c.o.q.1.2.2.2.2;omega
  have b5:X≠z:=fun i=>by have:=c.o.q.1.2.2.2.1;have:=c.o.q.1.2.2.2.2;omega
  obtain⟨⟨x0,x1,x2⟩,xf⟩:=ag bb;have e0:=aL a2;have ef:=bL a2;have jW:O.length<1024:=by have:=(aw.1 HW.o.t.1).1;have:=d.o.d.1;omega
  obtain⟨W3,ba⟩:=rk (((((W2.setCell ⟨X,0,none⟩ (rm N.1.1)).setCell ⟨X,1,none⟩ (rm N.1.2.1)).setCell ⟨X,2,none⟩ (rm N.1.2.2)).setCell ⟨e,0,none⟩ (rm 0)));obtain⟨s1,s2⟩:=qf (v0:=rm N.1.1) (v1:=rm N.1.2.1) (v2:=rm N.1.2.2) bb;have s3:=Only.aR (((W2.setCell ⟨X,0,none⟩ (rm N.1.1)).setCell ⟨X,1,none⟩ (rm N.1.2.1)).setCell ⟨X,2,none⟩ (rm N.1.2.2)) e 0 (rm 0);have s4:=dp _ e 0 _ _ (rm 0) (s2.heap a2 (fun i=>b0 i.symm));have bc:=s3.heap s1 b0;have a1:=s3.heap (s2.heap bl (fun i=>b5 i.symm)) (fun i=>by have:=HD.o.1;omega);rw[ba]at s3 s4 bc a1;have eo:Only (fun k=>k=X\/k=e) W2 W3:=(s2.m (fun _ _ M=>.inl M)).x s3 (fun _ _ M=>.inr M);have a3:W3.heap[e]?=some (tw 0):=by simpa using s4
  obtain⟨⟨y0,y1,y2⟩,-⟩:=ag bc;have zO:=aL a1;have zE:=aL a3;have a9:=ae W3 (sl N.1.1 N.1.2.1 N.1.2.2);have bh:W2.ownsRow j.heap.size 50 3 (.slice A O.length cA) O.length ((bH most f O []).1.map vF).flatten:=aJ (aJ c.o.2.1 (qS aa) (fun _ _ M=>M)) P.only (fun g u ⟨J,i⟩=>(c.o.q.d.1 g J i).2.2.2.2.2 u);have dS:=aJ (aJ bh eo (fun g u i=>by have h1:=c.o.2.1.lt g u;have:=c.o.q.1.2.2.1;omega)) (qS a9) (fun _ _ M=>M);have kY:=an W3 (sl N.1.1 N.1.2.1 N.1.2.2);rw[show W3.heap.size=W2.heap.size by rw[<-ba];simp]at kY;have h:=AS (eb kY) dS a9 jW eo a3 a1;have bs:j.heap.size<=W3.heap.size:=by have:=c.o.q.1.2.2.2.2;have:=aa.size;have:=P.size;have:=eo.size;omega
  have H2:=AN ht P bx aa ap bs;subst ba;unfold Si;clear ht P bx bb a2 bl aa ap jW s1 s2 s3 s4 bc a1 eo a3 a9 bh dS bs kY
  gi_wp2_with (gi_at_builtin;go_loud (refine wpListIn_append_own_at _ rfl _ _ 44 rfl j.heap.size 50 i0 (.agg #[rm 0,rm 0,rm 0]) 3 24 underlying44 V.o.q.1 V.o.q.2.1 V.o.q.d.1 V.o.q.t rfl (by decide) (.slice A O.length cA) O.length _ rfl h.o.2.1 ⟨W2.heap.size,0,none⟩ 1 1 [rm N.1.1,rm N.1.2.1,rm N.1.2.2] rfl rfl h.o.1 (by simp[Value.oneCell']) (by have:=h.o.t.1;unfold maxLen;omega) (by have:=h.o.t.1;omega) (dd H2.o.q.2 h.o.d.1.size) ?_);intro v5 W5 yL rA _ QU;obtain⟨A5,c5,rfl⟩:=ai yL;have k5:=(Only.of_grownBy rA).heap (qt h.o.d.1 h.o.q.d) (fun i=>by have:=(c.o.2.1.lt z i).1;have:=c.o.q.1.2.2.2.1;omega);have q0:=aL k5;have q1:=bL k5;have H5:=AF yL rA QU;clear yL rA QU k5)
  exact GQ.next c.o.q.t c.o.1 c.o.2.1 c.o.d.1 c.o.t.1 c.o.q.1 c.o.q.2.1 c.o.q.d.1 HD.o H2.o.t.1 (Nat.le_of_eq H2.o.q.1) H2.o.1 H2.o.2.1 H2.o.d.1 HW.o.d.1 h.o.q.1 h.o.q.2.1 h.o.d.1 (Only.of_grownBy H5.o.2.1) H5.o.1 H5.o.d
 case hdone=>
  rintro D xs U W hD rz rfl ⟨v1,FT,⟨Y,I,kE,kO⟩,p,S,Z,E,r,l,s,q⟩ ho u a;obtain⟨A1,c1,rfl⟩:=ai p;obtain⟨N1,Oa⟩:=rk (xs.length);rw[Oa]at p E q kO;have y1:=aL I;have y2:=aL kE;have y3:=aL kO;have HK:=B7 a hD p S Z r l s q Oa rz E;clear Y I kE kO p S Z E r l s q ho u a hD Oa rz;go_wp2_with fail;go_quiet(fail);go_wp2_with fail;obtain⟨a,hD,p,S,Z,r,l,s,q,Oa,rz,E⟩:=HK.o
  have hW:Only (fun k=>k=D) W ((W.drewN nq).putObj D (.deferred none)):=
   ((oE (fun _=>False) W).drewN nq).m (fun _ _ M=>M.elim)|>.trans (T:=fun k=>k=D) (Only.putObj _ D (.deferred none)) (fun _ _ M=>M)
  have b6:w.heap.size<=D:=by have:=l.2.2.2.1;have:=s.2.2.2;omega
  rw[gx];refine jk (v:=.tuple #[.slice A1 N1 c1,rv T,rm 0]) a (by simp[results,Tryz.results13,go_sem]) ⟨_,T,rfl,?_,?_,Z,r.x (hW.aH r.size (fun k a i=>by omega))⟩
  ·exact bI.bO (aJ p hW (fun g u i=>rz (i▸(E g).2 (.inr (.inr (.inl u)))))) (fun x Q=>by obtain⟨y,-,rfl⟩:=ep.1 Q;rfl) (by decide) (fun g u=>by have:=(p.lt g u).1;have:=l.2.2.2.1;have:=s.2.2.2;omega)
  ·exact(S.dC hW (fun b J B i=>rz (i▸(E b).2 (.inr (.inr (.inr ⟨J,B⟩)))))).m (fun b J B=>⟨by have:=(q b J B).1;have:=s.1;omega,da (q b J B).2.2.2.2.1 hW.size⟩)
end
def Vy(ps:List (List UInt8))(most n f:Int):Prop:=
 (∀p∈ps,p.length<=2000)/\ps.length<=14/\(1<=most/\most<=60)/\(2<=n/\n<=16)/\0<=f/\f<=2000
theorem Vy.cfg{ps:List (List UInt8)}{most n f:Int}(h:Vy ps most n f):fQ most n f=0:=by
 obtain⟨-,-,d,b,c⟩:=h;have a:dv f=0:=by rw[dv,fb (by omega)]
 rw[fQ,ff a,iy,fb (by omega),xE,fb (by omega)]
theorem GR(w:World)(F:Nat->Prop)(v:Value)(ps:List (List UInt8))(most n j:Int)(g:cg w F v ps):
  Calls prog 6 #[v,gX most n j] w fun e a=>((e=.returned (.bool false)/\ ¬Vy ps most n j)\/(e=.returned (.bool true)/\Vy ps most n j))/\Below w.heap.size w a:=by
 unfold gX;obtain⟨b,d⟩:=rj w (sn most n j);have e:=g.below b;go_enter func6,ntmps6;go_upto_region 1 with fail;generalize w.alloc (sn most n j)=l at b d e⊢;obtain⟨E,h⟩:=rk (w.heap.size);rw[h]at d⊢;obtain⟨C,B,rfl,m,o,f⟩:=e.at_;obtain⟨N,c⟩:=rk (ps.length);rw[c]at m⊢;unfold maxLen at o;have a:=AI f b d c;clear f b d g e h c;go_wp2_with fail
 go_loopw [5] (fun i wr=> ∃k:Nat,k<=N/\i=rm (k:Int)/\(∀p∈ps.take k,p.length<=2000)/\wr=l) (fun i _=>N-(intOf i).toNat)
 case atStart=>exact⟨0,dq _,rfl,fun p b=>by simp at b,rfl⟩
 case round=>
  obtain⟨k,q,rfl,d,rfl⟩:=hrel;by_cases e:k<N
  ·obtain⟨p,b⟩: ∃p,ps[k]?=some p:=⟨_,ao (by rw[a.o.t];exact e)⟩;obtain⟨D,A,u,y,rfl,r,h⟩:=a.o.1 k p b;have t:(0:Int)<=(k:Int):=by omega
   have x:(k:Int)<(N:Int):=by omega
   have l:p.length<=maxLen:=by have:=h.length_le;simpa using this
   unfold maxLen at l;have g:ps.take (k+1)=ps.take k++[p]:=by rw[gO,b];rfl
   have f:=AF b d g;clear h b d g e;by_cases s:(p.length:Int)<=2000
   ·have b: ¬2000<(p.length:Int):=by omega
    go_wp2_with fail;go_roundw
    case rel=>
     refine⟨k+1,by omega,by go_num,?_,trivial⟩;rw[f.o.d];intro z g;rcases dr.1 g with h|h
     ·exact f.o.2.1 z h
     ·simp at h;subst h;omega
    case measure=>simp[intOf];omega
   ·have b:2000<(p.length:Int):=by omega
    go_wp2_with fail;go_ret
    exact⟨.inl ⟨rfl,fun h=>by have:=h.1 p (db f.o.1);omega⟩,a.o.2.1⟩
  ·obtain rfl:k=N:=by omega
   obtain⟨⟨r,s,g⟩,-⟩:=ag a.o.d.1;have b:=al (show ∀p∈ps,p.length<=2000 by have:=d;rwa[<-a.o.t,gE]at this);clear d e q;by_cases e:j<=2000
   all_goals go_wp2_with fail
   all_goals
    go_ret
    refine⟨?_,a.o.2.1⟩;have c:=a.o.t
    first
    |exact .inl ⟨rfl,fun h=>by obtain⟨-,l,d,f,p⟩:=h;omega⟩
    |exact .inr ⟨rfl,b.o,by omega,by omega,by omega,by omega⟩
theorem VA(w:World)(L:Nat)(F:Nat->Prop)(ps:List (List UInt8))(most g:Int)(o n:Nat)(p:eX w F L ps)(h: ∀s,F s->s<w.heap.size)(i:ps.length<=1024)(e: ∀t∈ps,t.length<=8192)(m:fQ most o g=0)(k:n<=ps.length)
  (f:fB w) (j:mH w) (l:gy w) (d:gZ w):Calls prog 17 #[rv L,rm n,gX most o g] w fun x a=>
   ∃T,x=.returned (.tuple #[rv T,rm 0])/\bz a T most o (bH most g (ps.take n) []).2 (fun r _=>w.heap.size<=r/\r<a.heap.size)/\Below w.heap.size w a:=by
 unfold gX;obtain⟨b,c⟩:=rj w (sn most o g);have a:=BT p h i e m f j l d k;clear p h i e m f j l d k;go_enter func17,ntmps17;go_upto_region 1 with fail;generalize w.alloc (sn most o g)=d at b c⊢;obtain⟨C,f⟩:=rk (w.heap.size);rw[f]at c⊢;have i:=al (De d F L ps (a.o.1.below b) (fun s e=>da (a.o.2.1 s e) b.size) n a.o.q.q.2 a.o.d.1);have d:=AF b c f;obtain⟨⟨m,p,l⟩,-⟩:=ag c;clear b c f;go_wp2_with fail;refine i.o.m ?_;rintro x u ⟨c,j⟩;rw[ff (fun t f=>a.o.t.1 t (List.mem_of_mem_take f))]at j;obtain⟨v,rfl,h⟩:=j;have k:=qt c d.o.2.1;obtain⟨⟨m,p,l⟩,-⟩:=ag k;have b:=d.o.1.x (c.m d.o.1.size);have q:=al (wK u v _ (ps.take n) most g o h.bound (fun s e=>e.2) (by rw[im];have:=a.o.d.1;omega) (fun t f=>a.o.t.1 t (List.mem_of_mem_take f)) a.o.q.1 (a.o.q.2.1.below b) (a.o.q.d.1.below b) (a.o.q.t.1.below b) (a.o.q.q.1.below b));unfold gX at q;have e:=al b;clear k b h c i;go_wp2_with fail;refine q.o.m ?_;rintro x c ⟨s,T,rfl,-,h,-,b⟩;have i:=AD (show bz c T most o (bH most g (ps.take n) []).2 (fun r _=>w.heap.size<=r/\r<c.heap.size)from h.m (fun r k f=>⟨dd e.o.size f.1,f.2⟩)) (e.o.x (b.m e.o.size));clear h b m p l;go_wp2_with fail
 go_ret2
 exact⟨T,rfl,i.o⟩
theorem Sq(w:World)(L:Nat)(F:Nat->Prop)(ps:List (List UInt8))(most f o n:Int)(h:eX w F L ps)(b:n<0\/ps.length<n):Calls prog 17 #[rv L,rm n,gX most o f] w fun e a=>
   e=.returned (.tuple #[.pointer none,rm 10])/\Below w.heap.size w a:=by
 unfold gX;have a:=ae w (sn most o f);have c:=al (I5 _ F L ps (h.below a) n b);have d:=al a;clear a h b;go_enter func17,ntmps17;go_wp2_with fail;refine c.o.m ?_;rintro e a ⟨rfl,rfl⟩;go_wp2_with fail
 go_ret2
 exact⟨rfl,d.o⟩
theorem Sr(w:World)(most f o n:Int):Calls prog 17 #[.pointer none,rm n,gX most o f] w fun e b=>
   e=.returned (.tuple #[.pointer none,rm 2])/\Below w.heap.size w b:=by
 unfold gX;have c:=al (ae w (sn most o f))
 have a: ∀w,Calls prog 42 #[.pointer none,rm n] w fun e b=>e=.returned (.tuple #[.pointer none,rm 2])/\w=b:=fun w=>by
  go_enter func42,ntmps42;go_wp2_with fail
  go_ret2
  exact⟨rfl,rfl⟩
 have a:=al a;go_enter func17,ntmps17;go_wp2_with fail;refine(a.o _).m ?_;rintro e b ⟨rfl,rfl⟩;go_wp2_with fail
 go_ret2
 exact⟨rfl,c.o⟩
theorem VC(w:World)(F:Nat->Prop)(v:Value)(ps:List (List UInt8))(most n Q k:Int)(f:cg w F v ps)(h:fB w)(j:mH w)(o:gy w)(r:gZ w):
  Calls prog 5 #[v,gX most n Q,rm k] w fun G a=>G=.returned (.bool true)/\Below w.heap.size w a:=by
 have J:=al (fun W (a:Below w.heap.size w W)=>Sk W (h.below a) (j.below a) (o.below a));have V:=al (fun W (a:Below w.heap.size w W)=>ab (h.below a) (xF (j.below a) (o.below a) (r.below a)));have g:=al (fun W (a:Below w.heap.size w W)=>GR W _ _ ps most n Q (f.bound.below a));have L:=al (fun W=>Sr W most Q n k);unfold gX at g L⊢;obtain⟨d,b⟩:=rj w (sn most n Q);have e:=f.bound.below d;obtain⟨A,c,rfl,hc,hm,-⟩:=f.at_;obtain⟨N,i⟩:=rk (ps.length);rw[i]at hc e g⊢;unfold maxLen at hm;go_enter func5,ntmps5;go_upto_region 1 with fail;generalize w.alloc (sn most n Q)=s at d b e⊢;obtain⟨C,q⟩:=rk (w.heap.size);rw[q]at b⊢;obtain⟨⟨m,p,l⟩,-⟩:=ag b;have a:=AI d b e i;clear d b e q i f h j o r;go_wp2_with fail;refine(g.o s a.o.1).m ?_;rintro G Z ⟨Y,b⟩;have r:=al (a.o.1.x (b.m a.o.1.size));have O:=al b;clear b g;rcases Y with⟨rfl,d⟩|⟨rfl,d⟩
 ·go_wp2_with fail;refine(J.o _ r.o).m ?_;rintro G H ⟨rfl,f⟩;have b:=al (r.o.x (f.m r.o.size));clear f;go_wp2_with fail;go_ret
  exact⟨rfl,b.o⟩
 have h: ∀S∈ps,S.length<=8192:=fun S D=>dd (d.1 S D) (by decide);have j:N<=14:=by have:=d.2.1;have:=a.o.t;omega
 obtain⟨R,rfl⟩: ∃R:Nat,n=(R:Int):=⟨n.toNat,by have:=d.2.2.2.1;omega⟩;have g:=qt O.o a.o.2.1;obtain⟨⟨m,p,l⟩,-⟩:=ag g;have i:=al (sy Z _ _ ps (a.o.d.1.below O.o) (fun k b=>da b.2 r.o.size) (by have:=a.o.t;omega));have e:=AM d h j g (a.o.d.1.below O.o);clear d h j g;go_wp2_with fail;refine i.o.m ?_;rintro G H ⟨f,x⟩;rw[ff e.o.2.1]at x;obtain⟨W,rfl,h⟩:=x;have g:=qt f e.o.t.1;obtain⟨⟨m,p,l⟩,-⟩:=ag g;have d:=AI (r.o.x (f.m r.o.size)) g h.bound (e.o.q.below f);clear g h f i;by_cases b:k<0\/(ps.length:Int)<k
 ·have o:=al (Sq H W _ ps most Q R k d.o.d.1 b);unfold gX at o;have u:=al (show k<0\/(N:Int)<k by have:=a.o.t;omega);clear b;go_wp2_with fail;refine o.o.m ?_;rintro G P ⟨rfl,h⟩;have s:=qt h d.o.2.1;obtain⟨⟨m,p,l⟩,-⟩:=ag s;have j:=al (d.o.1.x (h.m d.o.1.size));clear h s o;go_wp2_with fail;refine(L.o P).m ?_;rintro G U ⟨rfl,f⟩;have g:=al (j.o.x (f.m j.o.size));clear f;have t:=al (J.o _ g.o);by_cases dN:k<0;rotate_left
  focus
   have X:(N:Int)<k:=by have:=u.o;omega
  all_goals
   go_wp2_with fail;refine t.o.m ?_;rintro G M ⟨rfl,i⟩;have q:=al (g.o.x (i.m g.o.size));clear i;go_wp2_with fail;go_ret
   exact⟨rfl,q.o⟩
 obtain⟨E,rfl⟩: ∃E:Nat,k=(E:Int):=⟨k.toNat,by omega⟩;have I:E<=ps.length:=by omega
 have dN: ¬(E:Int)<0:=by omega
 have X: ¬(N:Int)<(E:Int):=by have:=a.o.t;omega
 have ac:(0:Int)<=(E:Int):=by omega
 have aa:(E:Int)<=(c:Int):=by have:=a.o.t;omega
 have T:(ps.take E).length=E:=by rw[im];omega
 have K:=al (show ps.length<=1024 by have:=a.o.t;have:=e.o.d.1;omega);obtain⟨t,u,z,y⟩:=V.o H d.o.1;have o:=al (VA H W _ ps most Q R E d.o.d.1 (fun k b=>b.2) K.o e.o.2.1 e.o.1.cfg I t u z y);unfold gX at o;have B:=AD I T;clear b I T t u z y;go_wp2_with fail;refine o.o.m ?_;rintro G P ⟨T,rfl,I,h⟩;have s:=qt h d.o.2.1;obtain⟨⟨m,p,l⟩,-⟩:=ag s;have j:=AI (d.o.1.x (h.m d.o.1.size)) s I (d.o.t.below h);clear h s I o;go_wp2_with fail;refine(L.o P).m ?_;rintro G U ⟨rfl,f⟩;have h:=qt f j.o.2.1;obtain⟨⟨m,p,l⟩,-⟩:=ag h;have o:=j.o.1.x (f.m j.o.1.size);have s:=al (sy U (fun k=>F k/\k<w.heap.size) (.slice A E c) (ps.take E) ((cg.take j.o.t E (by have:=B.o.1;have:=a.o.t;omega)).below f) (fun k b=>da b.2 o.size) (by rw[B.o.2];have:=B.o.1;have:=K.o;omega));have g:=AI o h (j.o.d.1.below f) f.size;clear f h o;go_wp2_with fail;refine s.o.m ?_;rintro G M ⟨i,x⟩;rw[ff (fun S D=>e.o.2.1 S (List.mem_of_mem_take D))]at x;obtain⟨L2,rfl,o⟩:=x;have f:=g.o.1.x (i.m g.o.1.size);have I:=qt i g.o.2.1;obtain⟨⟨m,p,l⟩,-⟩:=ag I;obtain⟨t,u,z,y⟩:=V.o M f;have h:=al (wK M L2 _ (ps.take E) most Q R o.bound (fun k b=>b.2) (by rw[B.o.2];have:=B.o.1;have:=K.o;omega) (fun S D=>e.o.2.1 S (List.mem_of_mem_take D)) e.o.1.cfg t u z y);unfold gX at h;have q:=AF f (g.o.d.1.below i) (dd g.o.t i.size);clear i I f o t u z y s;go_wp2_with fail;refine h.o.m ?_;rintro G s ⟨u,y,rfl,-,i,-,f⟩;have t:=al (yM s T y R R most most _ _ _ (q.o.2.1.below f) i (fun D z o=>by have:=o.2;have:=q.o.d;have:=f.size;omega));have o:=al (q.o.1.x (f.m q.o.1.size));clear f i h m p l;go_wp2_with fail;refine t.o.m ?_;rintro G m ⟨rfl,h⟩;have f:=al (o.o.x (h.m o.o.size));clear h;go_wp2_with fail;refine(J.o _ f.o).m ?_;rintro G l ⟨rfl,h⟩;have i:=al (f.o.x (h.m f.o.size));clear h;go_wp2_with fail;go_ret
 exact⟨rfl,i.o⟩
end Go.Proofs.YtehccbdajiiaaaaGreatDoor
