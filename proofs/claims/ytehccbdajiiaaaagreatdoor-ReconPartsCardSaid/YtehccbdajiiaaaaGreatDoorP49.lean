import Derived.Test.YtehccbdajiiaaaaGreatDoorP48
namespace Go.Proofs.YtehccbdajiiaaaaGreatDoor
open Go.Proofs.Tryz
set_option maxRecDepth 100000
set_option maxHeartbeats 16000000
open Go.RowKit
section
open Go.RowKit Go.Maps Go.WideShapes Go.Shelf
attribute [local go_sem] Oper.semAt_some
theorem yB{most n f:Int}(h:qF most n f=0):(0<=f/\f<=10000)/\(1<=most/\most<=1024)/\2<=n/\n<=16:=by
 have a: ¬(f<0\/10000<f):=fun e=>by rw[qF,dY,fi e,ff (by decide)]at h;exact absurd h (by decide)
 rw[qF,dY,ff a,fi rfl,GM]at h
 have b: ¬(most<1\/1024<most):=fun e=>by rw[fi e]at h;exact absurd h (by decide)
 rw[ff b,GL]at h
 have c: ¬(n<2\/16<n):=fun e=>by rw[fi e]at h;exact absurd h (by decide)
 omega
theorem Q4(w:World)(most:Int)(n:Nat)(f:Int)(s:qF most n f=0):Calls prog 28 #[Cm most n f] w fun r a=>
  ∃T,r=.returned (.tuple #[r7 T,rv 0])/\bK a T most n [] (fun q _=>w.heap.size<q/\q<a.heap.size)/\Below w.heap.size w a:=by
 obtain⟨o,g,j⟩:=yB s;unfold Cm;obtain⟨c,a⟩:=rk w (sv most n f);have d:(w.alloc (sv most n f)).heap.size=w.heap.size+1:=by simp
 go_enter func28,ntmps28;go_upto_region 1 with fail;generalize w.alloc (sv most n f)=h at c a d⊢;obtain⟨C,e⟩:=rl (w.heap.size);rw[e]at a⊢;obtain⟨⟨m,k,p⟩,-⟩:=av a;have i:=al (AH h f);rw[show dY f=0 by unfold dY;rw[ff (by omega)]]at i;have l:=al (xK h most n g.1 g.2 (by omega) (by omega));have b:=AM c d e;clear c a d e s o g j;go_wp2_with fail;refine i.o.m ?_;rintro r c ⟨rfl,g⟩;obtain rfl:h=c:=g.symm;go_wp2_with fail;refine l.o.m ?_;rintro r c ⟨T,rfl,e,d⟩;have a:=AI e d;clear e d m k p;go_wp2_with fail
 go_ret2
 exact⟨T,rfl,a.o.1.m (fun q e d=>⟨by have:=b.o.2.1;have:=b.o.d;omega,d.2⟩),b.o.1.x (a.o.2.m b.o.1.size)⟩
end
section
open Go.RowKit Go.Maps Go.WideShapes Go.Shelf
attribute [local go_sem] Oper.semAt_some
theorem YF(w:World)(a b c d e f:Obj):Below w.heap.size w ((((((w.alloc a).alloc b).alloc c).alloc d).alloc e).alloc f)/\((((((w.alloc a).alloc b).alloc c).alloc d).alloc e).alloc f).heap[w.heap.size]?=some a/\((((((w.alloc a).alloc b).alloc c).alloc d).alloc e).alloc f).heap[w.heap.size+1]?=some b/\
  ((((((w.alloc a).alloc b).alloc c).alloc d).alloc e).alloc f).heap[w.heap.size+2]?=some c/\((((((w.alloc a).alloc b).alloc c).alloc d).alloc e).alloc f).heap[w.heap.size+3]?=some d/\((((((w.alloc a).alloc b).alloc c).alloc d).alloc e).alloc f).heap[w.heap.size+4]?=some e/\((((((w.alloc a).alloc b).alloc c).alloc d).alloc e).alloc f).heap[w.heap.size+5]?=some f:=by
 obtain⟨h,o,m,p⟩:=Ir w a b c;obtain⟨l,i,j,k⟩:=Ir (((w.alloc a).alloc b).alloc c) d e f;have n:(((w.alloc a).alloc b).alloc c).heap.size=w.heap.size+3:=by simp
 rw[n]at i j k;have g: ∀q x,(((w.alloc a).alloc b).alloc c).heap[q]?=some x->((((((w.alloc a).alloc b).alloc c).alloc d).alloc e).alloc f).heap[q]?=some x:=fun q x r=>qS l r;exact⟨h.x (l.m h.size),g _ _ o,g _ _ m,g _ _ p,i,j,k⟩
def uR(A:Option Addr)(n c T C Tc Hb:Nat)(fr tz most f:Int)(o:Nat)(a:Value)(W:World):Prop:=
 W.heap[C]?=some (td fr)/\W.heap[C+1]?=some (td tz)/\W.heap[C+2]?=some (sv most (o:Int) f)/\W.heap[C+3]?=some (sP A n c)/\
  W.heap[C+4]?=some (ux false)/\W.heap[C+5]?=some (.cells #[rv 0] 33 (0,0))/\W.heap[Tc]?=some (ti T)/\W.heap[Hb]?=some (.cells #[a] 4 (0,0))
theorem uR.only{A:Option Addr}{n c T C Tc Hb:Nat}{fr tz most f:Int}{o:Nat}{g:Value}{W d:World}{S:Nat->Prop}(r:uR A n c T C Tc Hb fr tz most f o g W)(b:Only S W d)(a: ∀k,S k->k≠Tc/\k≠Hb/\(k<C\/C+6<=k)):uR A n c T C Tc Hb fr tz most f o g d:=by
 obtain⟨k,h,m,i,q,j,p,l⟩:=r
 exact⟨b.heap k (fun e=>by have:=(a _ e).2.2;omega),b.heap h (fun e=>by have:=(a _ e).2.2;omega),b.heap m (fun e=>by have:=(a _ e).2.2;omega),b.heap i (fun e=>by have:=(a _ e).2.2;omega),b.heap q (fun e=>by have:=(a _ e).2.2;omega),b.heap j (fun e=>by have:=(a _ e).2.2;omega),
  b.heap p (fun e=>(a _ e).1 rfl),b.heap l (fun e=>(a _ e).2.1 rfl)⟩
theorem uR.hit{A:Option Addr}{n c T C Tc Hb:Nat}{fr tz most f:Int}{o:Nat}{W:World}(r:uR A n c T C Tc Hb fr tz most f o (.bool false) W)(q:C+6<=Hb)(p:Tc≠Hb):uR A n c T C Tc Hb fr tz most f o (.bool true) (W.setCell ⟨Hb,0,none⟩ (.bool true)):=by obtain⟨h,b,j,d,l,g,k,i⟩:=r;have a:=Only.aR W Hb 0 (.bool true);have m:=dd W Hb 0 _ _ (.bool true) i;exact⟨a.heap h (fun e=>by omega),a.heap b (fun e=>by omega),a.heap j (fun e=>by omega),a.heap d (fun e=>by omega),a.heap l (fun e=>by omega),a.heap g (fun e=>by omega),a.heap k p,by simpa using m⟩
def zG(w:World)(A:Option Addr)(n c N T C Tc Hb o:Nat)(fr tz:Nat)(most f:Int)(H:Nat->Prop)(a:List (List UInt8))(U:Nat->Prop)(W:World):Prop:=
 ∃b,uR A n c T C Tc Hb fr tz most f o (.bool false) W/\bK W T most o (eT most f a []).2 b/\dv (eT most f a []).2/\(∀k,U k↔k=Hb\/ ∃q,b k q)/\Below w.heap.size w W/\N<=W.heap.size/\
  (∀d q,b d q->C+6<=d/\d≠Tc/\d≠Hb/\d<W.heap.size)/\(∀i,fr<=i->i<a.length-> ¬H i)/\a.length<=tz
def Ut(w:World)(A:Option Addr)(n c N T C Tc Hb o:Nat)(fr tz:Nat)(most f:Int)(H:Nat->Prop)(U:Nat->Prop)(W:World):Prop:=
 ∃r,uR A n c T C Tc Hb fr tz most f o (.bool r) W/\(∀k,U k->w.heap.size<=k/\k<W.heap.size)/\Below w.heap.size w W/\N<=W.heap.size/\(r=true↔ ∃i,fr<=i/\i<tz/\H i)
theorem zG.lC{w:World}{A:Option Addr}{n c N T C Tc Hb o:Nat}{fr tz:Nat}{most f:Int}{H:Nat->Prop}(B:w.heap.size<=C)(z:C+6<=N/\Tc<N/\Hb<N):gQ N (zG w A n c N T C Tc Hb o fr tz most f H):=by
 refine⟨?_,?_⟩
 ·rintro s U D ⟨k,g,l,m,e,j,p,h,-⟩ q d;rcases(e q).1 d with rfl|⟨r,a⟩
  ·exact pb g.2.2.2.2.2.2.2
  ·exact(h q r a).2.2.2
 ·rintro s U D E S ⟨k,g,l,m,e,j,p,h,v,t⟩ b i
  exact⟨k,g.only b (fun q d=>by have:=(i q d).1;exact⟨by omega,by omega,by omega⟩),l.dR b (fun y r a u=>(i y u).2 ((e y).2 (.inr ⟨r,a⟩))),m,e,j.x (b.aI j.size (fun q d u=>by have:=(i q u).1;omega)),dp p b.size,
   fun y r a=>by obtain⟨q,x,d,u⟩:=h y r a;exact⟨q,x,d,da u b.size⟩,v,t⟩
theorem Ut.lC{w:World}{A:Option Addr}{n c N T C Tc Hb o:Nat}{fr tz:Nat}{most f:Int}{H:Nat->Prop}(p:w.heap.size<=C)(m:C+6<=N/\Tc<N/\Hb<N):gQ (α:=List UInt8) N (fun _=>Ut w A n c N T C Tc Hb o fr tz most f H):=by
 refine⟨?_,?_⟩
 ·rintro i U B ⟨r,e,b,-⟩ k a;exact(b k a).2
 ·rintro i U B D S ⟨r,e,b,h,l,j⟩ d g;exact⟨r,e.only d (fun k a=>by have:=(g k a).1;exact⟨by omega,by omega,by omega⟩),fun k a=>⟨(b k a).1,da (b k a).2 d.size⟩,h.x (d.aI h.size (fun k a q=>by have:=(g k q).1;omega)),dp l d.size,j⟩
theorem zG.next{w W e d i:World}{A:Option Addr}{n c N T C Tc Hb o fr tz:Nat}{most f:Int}{H:Nat->Prop}{a:List (List UInt8)}{U:Nat->Prop}{FT:Nat->Nat->Prop}{p:Out×az}{b:List UInt8}(R:yt most f b (eT most f a []).2=p)
  (M:uR A n c T C Tc Hb fr tz most f o (.bool false) W) (u: ∀k,U k↔k=Hb\/ ∃q,FT k q) (D:Below w.heap.size w W) (h6:N<=W.heap.size) (s: ∀b q,FT b q->C+6<=b/\b≠Tc/\b≠Hb/\b<W.heap.size) (P: ∀x,fr<=x->x<a.length-> ¬H x)
  (Y:w.heap.size<=C) (S:C+6<=N/\Tc<N/\Hb<N) (z:Below W.heap.size W e) (O:bK d T most o p.2 (fun b q=>FT b q\/e.heap.size<=b)) (Q:OnlyC FT e d) (J:dv p.2) (j:Below d.heap.size d i) (K:fr<=a.length-> ¬H a.length) (L:a.length<tz):
  ∃E,zG w A n c N T C Tc Hb o fr tz most f H (a++[b]) E i/\Only U W i/\Grow W U E:=by
 have F:Only (fun k=> ∃q,FT k q) e d:=Q.only;have l:Only (fun k=> ∃q,FT k q) W i:=((oS z _).x F (fun _ _ y=>y)).trans (T:=fun _=>False) (oS j _) (fun _ _ v=>v.elim);have B:eT most f (a++[b]) []=((eT most f a []).1++[p.1],p.2):=by rw[Bu,eT,R];rfl
 have X:=z.size;have s2:=F.size;have V:=j.size;refine⟨fun k=>k=Hb\/ ∃q,FT k q\/(e.heap.size<=k/\k<d.heap.size),⟨fun b q=>FT b q\/(e.heap.size<=b/\b<d.heap.size),M.only l (fun k ⟨q,y⟩=>?_),?_,by rw[B];exact J,fun _=>Iff.rfl,D.x (l.aI D.size (fun k h ⟨q,y⟩=>by have:=s k q y;omega)),by omega,?_,?_,?_⟩,l.m (fun k _ y=>(u k).2 (.inr y)),?_⟩
 ·obtain⟨m,t,r,-⟩:=s k q y;exact⟨t,r,.inr m⟩
 ·rw[B];exact(O.bound.below j).m (fun b q g=>g.1.imp (fun v=>v) (fun v=>⟨v,g.2⟩))
 ·rintro b q (g|g)
  ·obtain⟨m,t,r,Z⟩:=s b q g;exact⟨m,t,r,by omega⟩
  ·exact⟨by omega,by omega,by omega,by omega⟩
 ·intro x G I;rw[gk,List.length_singleton]at I;rcases Nat.lt_or_ge x a.length with v|v
  ·exact P x G v
  ·obtain rfl:x=a.length:=by omega
   exact K G
 ·rw[gk,List.length_singleton];exact L
 ·rintro k (h|⟨q,h|h⟩)
  ·exact .inl ((u k).2 (.inl h))
  ·exact .inl ((u k).2 (.inr ⟨q,h⟩))
  ·exact .inr (by omega)
theorem uR.done{A:Option Addr}{n c T C Tc Hb D:Nat}{fr tz most f:Int}{o:Nat}{k:Value}{W:World}(s:uR A n c T C Tc Hb fr tz most f o k W)(q:C+6<=D)(j:W.heap[D]?=some (.deferred (some [])))(r:Bool):
  ((W.setCell ⟨C+4,0,none⟩ (.bool r)).setCell ⟨C+5,0,none⟩ (rv 0)).heap[D]?=some (.deferred (some []))/\(((W.setCell ⟨C+4,0,none⟩ (.bool r)).setCell ⟨C+5,0,none⟩ (rv 0)).putObj D (.deferred none)).cell? ⟨C+4,0,none⟩=some (.bool r)/\
  (((W.setCell ⟨C+4,0,none⟩ (.bool r)).setCell ⟨C+5,0,none⟩ (rv 0)).putObj D (.deferred none)).cell? ⟨C+5,0,none⟩=some (rv 0)/\Only (fun a=>a=C+4\/a=C+5\/a=D) W (((W.setCell ⟨C+4,0,none⟩ (.bool r)).setCell ⟨C+5,0,none⟩ (rv 0)).putObj D (.deferred none)):=by
 obtain⟨-,-,-,-,l,h,-⟩:=s;have d:=Only.aR W (C+4) 0 (.bool r);have p:=dd W (C+4) 0 _ _ (.bool r) l;have m:=dd _ (C+5) 0 _ _ (rv 0) (d.heap h (by omega));have b:=Only.aR (W.setCell ⟨C+4,0,none⟩ (.bool r)) (C+5) 0 (rv 0);have a:=Only.putObj ((W.setCell ⟨C+4,0,none⟩ (.bool r)).setCell ⟨C+5,0,none⟩ (rv 0)) D (.deferred none);have i:=a.heap (b.heap p (by omega)) (by omega);have g:=a.heap m (by omega);exact⟨b.heap (d.heap j (by omega)) (by omega),aB (by simpa using i),aB (by simpa using g),((d.m (fun _ _ e=>.inl e)).x b (fun _ _ e=>.inr (.inl e))).x a (fun _ _ e=>.inr (.inr e))⟩
def adx(P:Prop)(w:World)(e:Ending)(w':World):Prop:= ∃r:Bool,(r=true↔P)/\e=.returned (.tuple #[.bool r,rv 0])/\Below w.heap.size w w'
end
section
open Go.RowKit Go.Maps Go.WideShapes Go.Shelf
attribute [local go_sem] Oper.semAt_some
theorem I9(w:World)(L:Nat)(F G:Nat->Prop)(ps:List (List UInt8))(most f:Int)(o fr tz:Nat)(A:Option Addr)(n c:Nat)(cl:List Cl)(b5:cz w G (.slice A n c) cl)(VJ:cl.length<=64)(cb:fr<=tz)(Rp:tz<=ps.length)
  (H:fF w F L ps) (hF: ∀k,F k->k<w.heap.size) (hl:ps.length<=1024) (bx: ∀p∈ps,p.length<=8192) (h0:qF most o f=0)
  (b2:fp w) (hE:mz w) (hs:fK w) (hn:iz w):Calls prog 11 #[r7 L,rv fr,rv tz,Cm most o f,.agg #[.slice A n c]] w (adx (I7 most f ps cl fr tz) w):=by
 unfold Cm;obtain⟨bb,k0,k1,k2,k3,k4,k5⟩:=YF w (td fr) (td tz) (sv most o f) (sP A n c) (ux false) (.cells #[rv 0] 33);refine oz func11 rfl ?_;simp only[ntmps11,nw,jj,nF,Nat.reduceAdd,Nat.reduceSub,Array.replicate_succ,Array.replicate_zero,List.push_toArray,List.append_toArray,fm,nh];go_upto_region 1 with fail;generalize ((((((w.alloc (td fr)).alloc (td tz)).alloc (sv most o f)).alloc (sP A n c)).alloc (ux false)).alloc (.cells #[rv 0] 33))=w1 at bb k0 k1 k2 k3 k4 k5⊢;obtain⟨C,hC⟩:=rl (w.heap.size);rw[hC]at k0 k1 k2 k3 k4 k5⊢;rw[show C+1+1+1+1+1=C+5 from rfl,show C+1+1+1+1=C+4 from rfl,show C+1+1+1=C+3 from rfl,show C+1+1=C+2 from rfl];have E:=BY H hF hl bx h0 b2 hE hs hn;have HV:=AN b5 VJ cb Rp;have HB:=AM bb (yW k0 k1 k2 k3 k4 k5) hC;have HN:=al (fun d=>L5 (w1.drewN d) F L ps (H.below (below_drewN bb d)));have z0:=aB k0;have z1:=aB k1;have g1: ¬(fr:Int)<0:=by omega
 have g2: ¬(tz:Int)<(fr:Int):=by omega
 have g3: ¬(ps.length:Int)<(tz:Int):=by omega
 have d1:decide ((fr:Int)<0)=false:=by simp
 have d2:decide (tz<fr)=false:=by simp;omega
 have d3:decide (ps.length<tz)=false:=by simp;omega
 clear bb k0 k1 k2 k3 k4 k5 hC H hF hl bx h0 b2 hE hs hn b5 VJ cb Rp;go_wp2_with fail
 go_step3
 go_wp2_with fail;go_quiet(first|(go_at_call 27;exact qB (HN.o _))|fail);clear z0 z1 d1 d2 d3 g1 g2 g3;have oq:Below w.heap.size w (w1.drewN nq):=below_drewN HB.o.1 nq;have YG:Below w1.heap.size w1 (w1.drewN nq):=below_drewN (aw _ _) nq;generalize w1.drewN nq=w2 at oq YG⊢;have u: ∀k x,w1.heap[k]?=some x->w2.heap[k]?=some x:=fun k x H=>qS YG H;obtain⟨k0,k1,k2,k3,k4,k5⟩:=HB.o.2.1;have H2:=BE oq (u _ _ k0) (u _ _ k1) (u _ _ k2) (u _ _ k3) (u _ _ k4) (u _ _ k5);obtain⟨⟨z0,z1,z2⟩,-⟩:=av (u _ _ k2);have HE:=al (Q4 w2 most o f E.o.q.1);unfold Cm at HE;clear oq YG u k0 k1 k2 k3 k4 k5 HN;go_wp2_with fail;refine HE.o.m ?_;rintro M R ⟨T,rfl,hT,cd⟩;have hx:=mI R (ti T) (ux false);have bf:=qS (af (R.alloc (ti T)) (ux false)) (an R (ti T));have a8:=an (R.alloc (ti T)) (ux false);rw[show(R.alloc (ti T)).heap.size=R.heap.size+1 by simp]at a8;have H3:=AI hT cd;clear hT cd HE z0 z1 z2;go_upto_region 9 with fail;generalize (R.alloc (ti T)).alloc (ux false)=w4 at hx bf a8⊢;obtain⟨Hb,br⟩:=rl (R.heap.size+1);obtain⟨Tc,bn⟩:=rl (R.heap.size);rw[br]at a8⊢;rw[bn]at bf⊢;have CZ:Below w2.heap.size w2 w4:=H3.o.2.x (hx.m H3.o.2.size);have ad:=H2.o.1.x (CZ.m H2.o.1.size);have u: ∀k x,w2.heap[k]?=some x->w4.heap[k]?=some x:=fun k x H=>qS CZ H;obtain⟨-,k0,k1,k2,k3,k4,k5⟩:=H2.o;have am:uR A n c T C Tc Hb fr tz most f o (.bool false) w4:=⟨u _ _ k0,u _ _ k1,u _ _ k2,u _ _ k3,u _ _ k4,u _ _ k5,bf,a8⟩;have N:=aP k5;have HA:=al (Xj w4 F L ps (E.o.1.below ad) E.o.d.1);have H4:=BE ad am (H3.o.1.below hx) br bn N H3.o.2.size;clear hx bf a8 br bn CZ ad u k0 k1 k2 k3 k4 k5 am N
 go_step3
 go_wp2_with fail;refine HA.o.m ?_;rintro M Z ⟨Bs,v,rfl,gW,ca,kB,hr⟩
 have ch:Bs<Z.heap.size:=by
  rcases Nat.lt_or_ge Bs Z.heap.size with H|H
  ·exact H
  ·simp[World.cell?,Array.getElem?_eq_none H]at kB
 have bv:=Tu Z (fun k=>(F k\/w4.heap.size<=k)/\k<Z.heap.size) Bs v ps E.o.t.1 ⟨.inr ca,ch⟩ kB hr.bound;obtain⟨ad,am,b4,e1,e2,N,n2⟩:=H4.o;have n3:=gW.size;have n4:=aP am.2.2.2.2.2.2.2;have n5:=HB.o.d
 have Vx:zG w A n c Z.heap.size T C Tc Hb o fr tz most f (FU most f ps cl) [] (fun k=>k=Hb\/ ∃q,(fun b (_:Nat)=>w2.heap.size<b/\b<R.heap.size) k q) Z:=
  ⟨fun b _=>w2.heap.size<b/\b<R.heap.size,am.only (ri gW) (fun _ H=>H.elim),b4.below gW,⟨ee,fun q V=>by cases V⟩,fun _=>Iff.rfl,ad.x (gW.m ad.size),b8 _,
   fun b q V=>⟨by omega,by omega,by omega,by omega⟩,fun i _ H=>by simp at H,by simp⟩
 have Jt: ∀k,((F k\/w4.heap.size<=k)/\k<Z.heap.size)-> ¬(k=Hb\/ ∃q,(fun b (_:Nat)=>w2.heap.size<b/\b<R.heap.size) k q):=by
  rintro k ⟨a,-⟩ (M|⟨q,M⟩)
  ·rcases a with a|a
   ·have:=E.o.2.1 k a;omega
   ·omega
  ·have e1:w2.heap.size<k/\k<R.heap.size:=M;rcases a with a|a
   ·have:=E.o.2.1 k a;omega
   ·omega
 have b0:=zG.lC (w:=w) (A:=A) (n:=n) (c:=c) (N:=Z.heap.size) (T:=T) (C:=C) (Tc:=Tc) (Hb:=Hb) (o:=o) (fr:=fr) (tz:=tz) (most:=most) (f:=f) (H:=FU most f ps cl) (by omega) ⟨by omega,by omega,by omega⟩;have Q9:=Ut.lC (w:=w) (A:=A) (n:=n) (c:=c) (N:=Z.heap.size) (T:=T) (C:=C) (Tc:=Tc) (Hb:=Hb) (o:=o) (fr:=fr) (tz:=tz) (most:=most) (f:=f) (H:=FU most f ps cl) (by omega) ⟨by omega,by omega,by omega⟩;have I:=By bv Vx Jt b0 Q9 (show w.heap.size<=C/\C+6<=Tc/\Tc+1=Hb/\Hb<Z.heap.size by omega);clear bv Vx Jt b0 Q9 ch kB hr ca gW HA ad am b4 e1 e2 N n2 n3 n4 n5;go_wp2_with fail
 refine wu (α:=List UInt8) (fun t v0 v1=>(t.setIfInBounds 15 v0).setIfInBounds 16 v1) rfl (enters_of func55 (by kernel_rfl) rfl) I.o.1 (fun k a=>a.2) (EX ps)
  (zG w A n c Z.heap.size T C Tc Hb o fr tz most f (FU most f ps cl)) (fun cc _ U W=>cc=.exit 0/\Ut w A n c Z.heap.size T C Tc Hb o fr tz most f (FU most f ps cl) U W) I.o.t.1 (fun cc=>⟨fun m U B H=>I.o.q.1.1 m U B H.2,fun m U B D S H ho hd=>⟨H.1,I.o.q.1.2 m U B D S H.2 ho hd⟩⟩) _ I.o.2.1 I.o.d.1 ?fW ?hbody ?hdone ?oC
 case fW=>
  intro l' v0 v1 W' K u;simp only[List.setIfInBounds_toArray,List.set_cons_zero,List.set_cons_succ]at u⊢
  gi_wp2
  exact u
 case hbody=>
  rintro l' m b v0 v1 U W ⟨FT,e,hT,P,s,g,h,j,l,a'⟩ ⟨rfl,A',c',G',rfl,ap,ba,fD,rp⟩;have q1:=aB e.2.1;have zH:=E.o.t.1 b (db ap);simp only[List.setIfInBounds_toArray,List.set_cons_zero,List.set_cons_succ];by_cases b6:m.length=tz
  ·have g1:(tz:Int)<=(m.length:Int):=by omega
   have HX:=By e s g h j l;clear e hT P s g h j l ba fD rp ap
   gi_wp2
   obtain⟨e,s,g,h,j,l⟩:=HX.o;refine⟨U,⟨rfl,false,e,fun k a=>?_,g,h,?_⟩,oT _ _,fun k a=>.inl a⟩
   ·rcases(s k).1 a with rfl|⟨q,V⟩
    ·exact⟨by have:=I.o.q.2;omega,pb e.2.2.2.2.2.2.2⟩
    ·obtain⟨a1,-,-,a4⟩:=j k q V;exact⟨by have:=I.o.q.2;omega,a4⟩
   ·refine⟨fun H=>(by cases H),fun⟨i,h1,h2,h3⟩=>(l i h1 (by omega) h3).elim⟩
  have g1: ¬(tz:Int)<=(m.length:Int):=by omega
  have J:m.length<tz:=by omega
  obtain⟨aa,kX⟩:=rk W sE;have BR:=e.only (ri aa) (fun _ H=>H.elim);have q0:=aB BR.1;obtain⟨⟨c0,c1,c2⟩,-⟩:=av BR.2.2.1;have t0:=aB BR.2.2.2.2.2.2.1
  obtain⟨bi,tE,tS,tN⟩:=(show fp (W.alloc sE)/\mz (W.alloc sE)/\fK (W.alloc sE)/\iz (W.alloc sE)from
   have Uu:=g.x (aa.m g.size)
   ⟨E.o.q.2.1.below Uu,E.o.q.d.1.below Uu,E.o.q.t.1.below Uu,E.o.q.q.below Uu⟩)
  have bh:=(yB E.o.q.1).1;have a6:=hT.below aa;have Q5:=fD.bound.below aa;have Dc: ∀x q,FT x q->x<(W.alloc sE).heap.size:=fun x q V=>da (j x q V).2.2.2 aa.size;obtain⟨p,z⟩:=rl (yt most f b (eT most f m []).2);have bs:eT most f (ps.take m.length) []=eT most f m []:=by rw[<-ba]
  have Q:FU most f ps cl m.length↔(p.1.1=1/\Good (si most f b (eT most f m []).2)/\nA (aW (si most f b (eT most f m []).2)) cl):=by
   unfold FU;rw[bs];constructor
   ·rintro⟨b',e1,e2,e3,e4⟩;obtain rfl:b=b':=eC (ap.symm.x e1);rw[z]at e2;exact⟨e2,e3,e4⟩
   ·rintro⟨e2,e3,e4⟩;exact⟨b,ap,by rw[z];exact e2,e3,e4⟩
  by_cases O:fr<=m.length
  ·have g2:(fr:Int)<=(m.length:Int):=by omega
   have bm:=al (YE (W.alloc sE) T o most _ FT (fun k=>G' k/\k<W.heap.size) _ b most o f a6 Dc P Q5 (by omega) bh bi tE tS tN);have HI:=Cp e s g h j l J z Q O P zH;have HW:=By aa kX BR a6 Q5 Dc;clear e hT P s g h j l ba fD rp ap a' aa kX BR bi tE tS tN bh a6 Q5 Dc z bs Q zH b6 J O
   gi_wp2
   refine⟨trivial,?_⟩;clear q0 q1 c0 c1 c2 t0;generalize W.alloc sE=W1 at bm HW⊢;obtain⟨X,bc⟩:=rl (W.heap.size);rw[bc]at HW⊢;refine(callsIn_wide.2 bm.o).m ?_;rintro M W2 ⟨vf,rfl,bk,VK,cj,ac⟩;obtain⟨Af,cf,rfl,-,-⟩:=bk.slice;obtain⟨Nf,Q8⟩:=rl ((aW (si most f b (eT most f m []).2)).length);rw[Q8]at bk⊢;obtain⟨e,s,g,h,j,l,J,z,Q,O,P,zH⟩:=HI.o;obtain⟨N,n2,n3,n4⟩:=I.o.q.2;have a5:Below W.heap.size W W1:=by rw[bc];exact HW.o.1
   have a7:=qS ac HW.o.2.1;have RF:=BA bk a7;obtain⟨W3,b9⟩:=rl (W2.setCell ⟨X,0,none⟩ (.slice Af Nf cf));have gX:=Only.aR W2 X 0 (.slice Af Nf cf);have a9:=dd W2 X 0 _ _ (.slice Af Nf cf) a7;rw[b9]at gX a9;have a9:W3.heap[X]?=some (sP Af Nf cf):=by simpa using a9
   have s1:=a5.size;have s2:=ac.size;have tZ:=(HW.o.d.1.only (ri ac) (fun _ H=>H.elim)).only gX (fun k M=>by have M:k=X:=M;exact⟨by omega,by omega,.inr (by omega)⟩);have ck:=(HW.o.t.1.below ac).dR gX (fun b q V M=>by have M:b=X:=M;have:=(j b q V).2.2.2;omega);have ce:=(HW.o.q.1.below ac).only gX (fun k a M=>by have M:k=X:=M;have:=a.2;omega);have bl:Below W.heap.size W W3:=(a5.x (ac.m a5.size)).x (gX.aI (dp a5.size ac.size) (fun k a M=>by have M:k=X:=M;omega));have b1:cz W3 (fun k=>k<W3.heap.size/\ ¬ ∃q,FT k q) (.slice Af Nf cf) (aW (si most f b (eT most f m []).2)):=bJ.m (bJ.only RF gX (fun k a M=>a.2 M)) (fun k a=>⟨da a.1.1 gX.size,a.1.2⟩);have gF:=g.x (bl.m g.size);have HO:=al (QY W3 T o most _ FT _ _ b most o f ck (fun x q V=>da (j x q V).2.2.2 bl.size) P ce (by omega) (yB E.o.q.1).1 (E.o.q.2.1.below gF) (E.o.q.d.1.below gF) (E.o.q.t.1.below gF) (E.o.q.q.below gF));rw[z]at HO;obtain⟨⟨c0,c1,c2⟩,-⟩:=av tZ.2.2.1;have t0:=aB tZ.2.2.2.2.2.2.1;have x0:=aB a7;have x1:=bj a7;have Y:=BT a9 tZ bl b1 cj VK bc gF;subst b9;clear e s g h j l J z Q O P zH N n2 n3 n4 a5 a7 RF gX a9 s1 s2 tZ ck ce bl b1 gF cj VK ac bc bk Q8 bm
   gi_wp2
   refine⟨trivial,?_⟩;clear c0 c1 c2 t0 x0 x1;generalize W2.setCell ⟨X,0,none⟩ (.slice Af Nf cf)=W3 at HO Y⊢;refine(callsIn_wide.2 HO.o).m ?_;rintro M W4 ⟨rfl,ht,iI,Q6⟩;unfold YB;obtain⟨e,s,g,h,j,l,J,z,Q,O,P,zH⟩:=HI.o;obtain⟨N,n2,n3,n4⟩:=I.o.q.2;obtain⟨gp,kO⟩:=rk W4 (sC p.1.1 p.1.2.1 p.1.2.2);have b3:=qS gp (iI.only.heap Y.o.1 (fun⟨q,M⟩=>by have:=(j _ q M).2.2.2;have:=Y.o.q.d.1;omega));have vt:=(Y.o.2.1.only iI.only (fun k ⟨q,M⟩=>by obtain⟨a1,a2,a3,-⟩:=j k q M;exact⟨a2,a3,.inr a1⟩)).only (ri gp) (fun _ H=>H.elim);have ci:=bJ.below (bJ.only Y.o.t.1 iI.only (fun k a M=>a.2 M)) gp;have Mv:Below w.heap.size w W4:=Y.o.q.t.x (iI.only.aI Y.o.q.t.size (fun k a ⟨q,M⟩=>by have:=(j k q M).1;omega));have HC:=al (Ej _ _ _ _ _ _ cl ci (bJ.below HV.o.1 (Mv.x (gp.m Mv.size))) (by have:=Y.o.q.2.1;omega) (by have:=HV.o.2.1;omega));obtain⟨⟨y0,-,-⟩,-⟩:=av kO;have x0:=aB b3;have v0:=aB vt.2.2.2.1;have q0:=aB vt.1;have y:=AS ht iI Q6 gp vt;clear e s g h j l J z Q O P zH N n2 n3 n4 ht iI Q6 gp kO b3 vt ci Mv HO;by_cases a0:p.1.1=1
   ·have g3:(p.1.1==1)=true:=by simpa using a0
    have cm:=al a0;clear a0
    gi_wp2
    refine⟨trivial,?_⟩;clear y0 x0 v0 q0 g3;generalize W4.alloc (sC p.1.1 p.1.2.1 p.1.2.2)=W5 at HC y⊢;refine(callsIn_wide.2 HC.o).m ?_;rintro M W6 ⟨r,hr,rfl,gW⟩;cases r
    ·have HR:=AI gW (show ¬nA (aW (si most f b (eT most f m []).2)) cl from fun H=>by have:=hr.2 H;cases this);clear hr gW
     gi_wp2
     obtain⟨e,s,g,h,j,l,J,z,Q,O,P,zH⟩:=HI.o;obtain⟨N,n2,n3,n4⟩:=I.o.q.2;exact zG.next z e s g h j l N ⟨by omega,by omega,by omega⟩ Y.o.d.1 y.o.1 y.o.2.1 y.o.d.1 (y.o.t.1.x (HR.o.1.m y.o.t.1.size)) (fun _ H=>HR.o.2 (Q.1 H).2.2) J
    ·have HR:=AI gW (hr.1 rfl);clear hr gW;have Xy:=y.o.q.only (ri HR.o.1) (fun _ H=>H.elim);have z0:=aB Xy.2.2.2.2.2.2.2;have z1:=bj Xy.2.2.2.2.2.2.2;have H7:=al Xy;clear Xy
     gi_wp2
     obtain⟨e,s,g,h,j,l,J,z,Q,O,P,zH⟩:=HI.o;obtain⟨N,n2,n3,n4⟩:=I.o.q.2;have hO:Only U W (W6.setCell ⟨Hb,0,none⟩ (.bool true)):=(((oS Y.o.d.1 U).x y.o.2.1.only (fun k a M=>(s k).2 (.inr M))).trans (T:=fun _=>False) (oS (y.o.t.1.x (HR.o.1.m y.o.t.1.size)) _) (fun _ _ H=>H.elim)).x (Only.aR W6 Hb 0 (.bool true)) (fun k a M=>(s k).2 (.inl M))
     have bo: ∀k,U k->w.heap.size<=k/\k<W.heap.size:=fun k a=>by
      rcases(s k).1 a with rfl|⟨q,V⟩
      ·exact⟨by omega,by omega⟩
      ·obtain⟨a1,-,-,a4⟩:=j k q V;exact⟨by omega,a4⟩
     exact⟨U,⟨rfl,true,H7.o.hit (by omega) (by omega),fun k a=>⟨(bo k a).1,da (bo k a).2 hO.size⟩,g.x (hO.aI g.size (fun k a M=>by have:=(bo k M).1;omega)),dp h hO.size,fun _=>⟨m.length,O,J,Q.2 ⟨cm.o,Y.o.q.1,HR.o.2⟩⟩,fun _=>rfl⟩,hO,fun k a=>.inl a⟩
   ·have HR:=al a0;have g3:(p.1.1==1)=false:=by simpa using a0
    clear a0
    gi_wp2
    refine⟨trivial,?_⟩
    gi_wp2
    obtain⟨e,s,g,h,j,l,J,z,Q,O,P,zH⟩:=HI.o;obtain⟨N,n2,n3,n4⟩:=I.o.q.2;exact zG.next z e s g h j l N ⟨by omega,by omega,by omega⟩ Y.o.d.1 y.o.1 y.o.2.1 y.o.d.1 y.o.t.1 (fun _ H=>HR.o (Q.1 H).1) J
  ·have g2: ¬(fr:Int)<=(m.length:Int):=by omega
   have HO:=al (QY (W.alloc sE) T o most _ FT (fun k=>G' k/\k<W.heap.size) _ b most o f a6 Dc P Q5 (by omega) bh bi tE tS tN);rw[z]at HO;have HI:=Cd e s g h j l J z O aa BR;clear e hT P s g h j l ba fD rp ap a' aa kX BR bi tE tS tN bh a6 Q5 Dc z bs Q zH b6 J O
   gi_wp2
   refine⟨trivial,?_⟩;clear q0 q1 c0 c1 c2 t0;refine(callsIn_wide.2 HO.o).m ?_;rintro M W4 ⟨rfl,ht,iI,Q6⟩;have q0:=aB ((HI.o.q.q.d.only iI.only (fun k ⟨q,M⟩=>by obtain⟨a1,a2,a3,-⟩:=HI.o.q.1 k q M;exact⟨a2,a3,.inr a1⟩)).only (ri (af W4 (sC p.1.1 p.1.2.1 p.1.2.2))) (fun _ H=>H.elim)).1;have y:=AN ht iI Q6 (af W4 (sC p.1.1 p.1.2.1 p.1.2.2));unfold YB;clear ht iI Q6 HO
   gi_wp2
   refine⟨trivial,?_⟩
   gi_wp2
   obtain⟨e,s,g,h,j,l,J,z,O,aa,-⟩:=HI.o;obtain⟨N,n2,n3,n4⟩:=I.o.q.2;exact zG.next z e s g h j l N ⟨by omega,by omega,by omega⟩ aa y.o.1 y.o.2.1 y.o.d.1 y.o.t (fun H=>absurd H O) J
 case hdone=>rintro D xs U W hD TW rfl ⟨FT,e,-,-,-,g,h,-,l,a'⟩- -a;have z0:=aB e.2.2.2.2.2.2.2;have z1:=aB e.2.2.2.2.1;have z2:=bj e.2.2.2.2.1;have z3:=aB e.2.2.2.2.2.1;have z4:=bj e.2.2.2.2.2.1;have HK:=BE e g h l a' a hD;clear e g h l a' a hD TW;go_wp2_with fail;rw[fs];obtain⟨e,g,h,l,a',a,hD⟩:=HK.o;have nH:=I.o.q.2;obtain⟨e1,e2,e3,e4⟩:=e.done (D:=D) (by omega) a false;refine kG (v:=.tuple #[.bool false,rv 0]) e1 (by simp[results,Tryz.results11,go_sem,e2,e3]) ⟨false,⟨fun H=>(by cases H),fun⟨i,h1,h2,h3⟩=>by obtain⟨q,h4,-⟩:=id h3;exact absurd h3 (l i h1 (bd.1 h4).1)⟩,rfl,g.x (e4.aI g.size (fun k a M=>by omega))⟩
 case oC=>rintro D cc m U W hD TW-⟨rfl,r,e,-,g,h,hr⟩- -a;have z0:=aB e.2.2.2.2.2.2.2;have z1:=aB e.2.2.2.2.1;have z2:=bj e.2.2.2.2.1;have z3:=aB e.2.2.2.2.2.1;have z4:=bj e.2.2.2.2.2.1;have HK:=By e g h hr a hD;clear e g h hr a hD TW;go_wp2_with fail;rw[fs];obtain⟨e,g,h,hr,a,hD⟩:=HK.o;have nH:=I.o.q.2;obtain⟨e1,e2,e3,e4⟩:=e.done (D:=D) (by omega) a r;refine kG (v:=.tuple #[.bool r,rv 0]) e1 (by simp[results,Tryz.results11,go_sem,e2,e3]) ⟨r,hr,rfl,g.x (e4.aI g.size (fun k a M=>by omega))⟩
end
section
open Go.RowKit Go.Maps Go.WideShapes Go.Shelf
attribute [local go_sem] Oper.semAt_some
end
def Uv(ps:List (List UInt8))(most n f:Int):Prop:=
 (∀p∈ps,p.length<=2000)/\ps.length<=14/\(1<=most/\most<=60)/\(2<=n/\n<=16)/\0<=f/\f<=2000
theorem Uv.cfg{ps:List (List UInt8)}{most n f:Int}(h:Uv ps most n f):qF most n f=0:=by
 obtain⟨-,-,b,c,d⟩:=h;have a:dY f=0:=by rw[dY,ff (by omega)]
 rw[qF,fi a,GM,ff (by omega),GL,ff (by omega)]
theorem Q7(w:World)(F:Nat->Prop)(v:Value)(ps:List (List UInt8))(most n f:Int)(h:dt w F v ps):
  Calls prog 6 #[v,Cm most n f] w fun e a=>((e=.returned (.bool false)/\ ¬Uv ps most n f)\/(e=.returned (.bool true)/\Uv ps most n f))/\Below w.heap.size w a:=by
 unfold Cm;obtain⟨b,d⟩:=rk w (sv most n f);have e:=h.below b;go_enter func6,ntmps6;go_upto_region 1 with fail;generalize w.alloc (sv most n f)=l at b d e⊢;obtain⟨D,j⟩:=rl (w.heap.size);rw[j]at d⊢;obtain⟨E,C,rfl,q,o,g⟩:=e.at_;obtain⟨N,c⟩:=rl (ps.length);rw[c]at q⊢;unfold maxLen at o;have a:=AN g b d c;clear g b d h e j c;go_wp2_with fail
 go_loopw [5] (fun i wr=> ∃k:Nat,k<=N/\i=rv (k:Int)/\(∀p∈ps.take k,p.length<=2000)/\wr=l) (fun i _=>N-(intOf i).toNat)
 case atStart=>exact⟨0,dq _,rfl,fun p b=>by simp at b,rfl⟩
 case round=>
  obtain⟨k,m,rfl,d,rfl⟩:=hrel;by_cases e:k<N
  ·obtain⟨p,b⟩: ∃p,ps[k]?=some p:=⟨_,ao (by rw[a.o.t];exact e)⟩;obtain⟨A,B,u,t,rfl,r,j⟩:=a.o.1 k p b;have x:(0:Int)<=(k:Int):=by omega
   have y:(k:Int)<(N:Int):=by omega
   have l:p.length<=maxLen:=by have:=j.length_le;simpa using this
   unfold maxLen at l;have h:ps.take (k+1)=ps.take k++[p]:=by rw[ir,b];rfl
   have g:=AM b d h;clear j b d h e;by_cases s:(p.length:Int)<=2000
   ·have b: ¬2000<(p.length:Int):=by omega
    go_wp2_with fail;go_roundw
    case rel=>
     refine⟨k+1,by omega,by go_num,?_,trivial⟩;rw[g.o.d];intro z j;rcases dr.1 j with h|h
     ·exact g.o.2.1 z h
     ·simp at h;subst h;omega
    case measure=>simp[intOf];omega
   ·have b:2000<(p.length:Int):=by omega
    go_wp2_with fail;go_ret
    exact⟨.inl ⟨rfl,fun h=>by have:=h.1 p (db g.o.1);omega⟩,a.o.2.1⟩
  ·obtain rfl:k=N:=by omega
   obtain⟨⟨r,l,g⟩,-⟩:=av a.o.d.1;have b:=al (show ∀p∈ps,p.length<=2000 by have:=d;rwa[<-a.o.t,gn]at this);clear d e m;by_cases m:f<=2000
   all_goals go_wp2_with fail
   all_goals
    go_ret
    refine⟨?_,a.o.2.1⟩;have c:=a.o.t
    first
    |exact .inl ⟨rfl,fun h=>by obtain⟨-,d,e,j,p⟩:=h;omega⟩
    |exact .inr ⟨rfl,b.o,by omega,by omega,by omega,by omega⟩
theorem pW.any{l:List Cl}{w w':World}{v:Value}{n:Int}(k:pW l w v n w')(h: ∀c∈l,c.fits): ∃A m c a,v=.slice A m c/\cz w' (fun _=>True) v a/\a.length<=64/\(∀c∈a,c.fits)/\(n=0->Good a/\cG l a)/\Below w.heap.size w w':=by
 obtain⟨d,⟨b,rfl,rfl⟩|⟨b,a,g,⟨e,rfl,rfl⟩|⟨e,rfl,A,c,rfl,i⟩⟩⟩:=k
 ·exact⟨none,0,0,[],rfl,bJ.nil _ _ _,by decide,by simp,fun f=>absurd f b,d⟩
 ·exact⟨none,0,0,[],rfl,bJ.nil _ _ _,by decide,by simp,fun f=>absurd f (by decide),d⟩
 ·have j:Good l:=fun c f=>⟨ug b c f,h c f⟩;have f:=tj g j;exact⟨A,a.length,c,a,rfl,bJ.bO i (df _) (by decide) (fun _ _=>trivial),e,f.fits,fun _=>⟨f,g⟩,d⟩
theorem MO{w:World}{C:Nat}{most n f fr tz c:Int}{e g:Value}(a:w.heap[C]?=some (te most n f fr tz))(b:w.heap[C+1]?=some (.cells #[e,g,rv c] 29 (0,0))){W:World}(d:Below w.heap.size w W):
  W.cell? ⟨C,0,none⟩=some (rv most)/\W.cell? ⟨C,1,none⟩=some (rv n)/\W.cell? ⟨C,2,none⟩=some (rv f)/\W.cell? ⟨C,3,none⟩=some (rv fr)/\W.cell? ⟨C,4,none⟩=some (rv tz)/\
  W.cell? ⟨C+1,0,none⟩=some e/\W.cell? ⟨C+1,1,none⟩=some g/\W.cell? ⟨C+1,2,none⟩=some (rv c):=by
 have a:=qS d a;have b:=qS d b;simp[World.cell?,a,b]
theorem Uw(w:World)(F G0 G1:Nat->Prop)(v u0 u1:Value)(ps:List (List UInt8))(la lb:List Cl)(most n f fr tz q:Int)(i:dt w F v ps)(H:cz w G0 u0 la)(j:cz w G1 u1 lb)(J: ∀c∈la,c.fits)(L: ∀c∈lb,c.fits)(k:fp w)(B:mz w)(I:fK w)(P:iz w):
  Calls prog 3 #[v,.agg #[rv most,rv n,rv f,rv fr,rv tz],.agg #[u0,u1,rv q]] w fun e a=>e=.returned (.bool true)/\Below w.heap.size w a:=by
 have aa:=al (fun W (l:Below w.heap.size w W)=>(Q3 W (k.below l) (B.below l) (I.below l)).m (fun e a (h:_/\_)=>ab h.1 (l.x (h.2.m l.size))));have HT:=al (fun W (l:Below w.heap.size w W)=>ab (k.below l) (yk (B.below l) (I.below l) (P.below l)));have g:=al (fun W (l:Below w.heap.size w W)=>Q7 W _ _ ps most n f (i.bound.below l));have HR:=al (fun W (l:Below w.heap.size w W)=>ab (i.bound.below l) (ab (bJ.below H l) (bJ.below j l)));unfold Cm at g;have d:=mI w (te most n f fr tz) (.cells #[u0,u1,rv q] 29);have b:=qS (af (w.alloc (te most n f fr tz)) (.cells #[u0,u1,rv q] 29)) (an w (te most n f fr tz));have a:=an (w.alloc (te most n f fr tz)) (.cells #[u0,u1,rv q] 29);rw[show(w.alloc (te most n f fr tz)).heap.size=w.heap.size+1 by simp]at a;obtain⟨A,c,rfl,hc,hm,-⟩:=i.at_;obtain⟨A0,c0,rfl,-,-⟩:=H.slice;obtain⟨A1,c1,rfl,-,-⟩:=j.slice;obtain⟨N,x⟩:=rl (ps.length);obtain⟨na,p⟩:=rl (la.length);obtain⟨nb,m⟩:=rl (lb.length);rw[x]at hc g HR⊢;rw[p]at HR b a d⊢;rw[m]at HR b a d⊢;unfold maxLen at hm;go_enter func3,ntmps3;go_upto_region 1 with fail;generalize (w.alloc (te most n f fr tz)).alloc (.cells #[.slice A0 na c0,.slice A1 nb c1,rv q] 29)=R at d b a⊢;obtain⟨C,Q⟩:=rl (w.heap.size);obtain⟨D,K⟩:=rl (w.heap.size+1);have o:C+1=D:=by omega
 rw[K]at a⊢;rw[Q]at b⊢;rw[<-o]at a;have O:=al (fun W l=>MO b a (W:=W) l);rw[o]at O;have M:=By d x p m J L;obtain⟨t,z,r,E,u,y,G,s⟩:=O.o R (aw _ _);clear d b a Q K o x p m i H j J L k B I P;go_wp2_with fail;refine(g.o R M.o.1).m ?_;rintro e w2 ⟨a7,a⟩;have T:=AI a (M.o.1.x (a.m M.o.1.size));obtain⟨t,z,r,E,u,y,G,s⟩:=O.o w2 a;clear a g;rcases a7 with⟨rfl,a⟩|⟨rfl,a⟩
 ·go_wp2_with fail;refine(aa.o _ T.o.2).m ?_;rintro e P ⟨rfl,H⟩;go_wp2_with fail;go_ret
  exact⟨rfl,H⟩
 by_cases hg:0<=fr/\fr<=tz/\tz<=(N:Int)/\fr<=q/\q<=tz/\na<=10/\nb<=10;rotate_left
 ·have hq:fr<0\/(¬fr<0/\tz<fr)\/(¬fr<0/\ ¬tz<fr/\(N:Int)<tz)\/(¬fr<0/\ ¬tz<fr/\ ¬(N:Int)<tz/\q<fr)\/(¬fr<0/\ ¬tz<fr/\ ¬(N:Int)<tz/\ ¬q<fr/\tz<q)\/(¬fr<0/\ ¬tz<fr/\ ¬(N:Int)<tz/\ ¬q<fr/\ ¬tz<q/\10<(na:Int))\/
   (¬fr<0/\ ¬tz<fr/\ ¬(N:Int)<tz/\ ¬q<fr/\ ¬tz<q/\ ¬10<(na:Int)/\10<(nb:Int)):=by omega
  clear hg a;rcases hq with J|⟨J,Q⟩|⟨J,Q,q2⟩|⟨J,Q,q2,b⟩|⟨J,Q,q2,b,d⟩|⟨J,Q,q2,b,d,g⟩|⟨J,Q,q2,b,d,g,I⟩
  all_goals
   go_wp2_with fail;refine(aa.o _ T.o.2).m ?_;rintro e P ⟨rfl,H⟩;go_wp2_with fail;go_ret
   exact⟨rfl,H⟩
 obtain⟨R,U,X,K,L,V,S⟩:=hg;obtain⟨i,rfl⟩: ∃i:Nat,fr=(i:Int):=⟨fr.toNat,by omega⟩;obtain⟨j,rfl⟩: ∃i:Nat,tz=(i:Int):=⟨tz.toNat,by omega⟩;obtain⟨m,rfl⟩: ∃i:Nat,q=(i:Int):=⟨q.toNat,by omega⟩;obtain⟨o,rfl⟩: ∃o:Nat,n=(o:Int):=⟨n.toNat,by have:=a.2.2.2.1;omega⟩;have x: ∀p∈ps,p.length<=8192:=fun p k=>dp (a.1 p k) (by decide);have J: ¬(i:Int)<0:=by omega
 have Q: ¬(j:Int)<(i:Int):=by omega
 have q2: ¬(N:Int)<(j:Int):=by omega
 have b: ¬(m:Int)<(i:Int):=by omega
 have d: ¬(j:Int)<(m:Int):=by omega
 have g: ¬10<(na:Int):=by omega
 have I: ¬10<(nb:Int):=by omega
 have B:=al (Tq w2 _ _ ps (HR.o w2 T.o.2).1 (fun k hk=>da hk.2 T.o.2.size) (by have:=M.o.2.1;have:=a.2.1;omega));have p:=al (show i<=m/\m<=j/\j<=ps.length/\na<=10/\nb<=10/\ps.length<=1024 by have:=M.o.2.1;have:=a.2.1;omega);have ac:=AI x a;clear R U X K L V S x a;go_wp2_with fail;refine B.o.m ?_;rintro e P ⟨H,he⟩;rw[fi ac.o.1]at he;obtain⟨L,rfl,a⟩:=he;have V:=AM (T.o.1.x (H.m T.o.1.size)) (T.o.2.x (H.m T.o.2.size)) a.bound;obtain⟨t,z,r,E,u,y,G,s⟩:=O.o P V.o.1;have x:=al (sY P _ _ la (HR.o P V.o.2.1).2.1 (by have:=M.o.d.1;have:=p.o;omega) M.o.q.1);clear J Q q2 b d g I H a B;go_wp2_with fail;refine x.o.m ?_;intro e w4 U;obtain⟨v4,r4,rfl,B⟩:=U.named;obtain⟨A4,m4,c4,l4,rfl,I,K,g,S,a⟩:=B.any M.o.q.1;obtain⟨d,R⟩:=rk w4 (sP A4 m4 c4);have b:=BT (V.o.1.x ((a.x (d.m a.size)).m V.o.1.size)) (V.o.2.1.x ((a.x (d.m a.size)).m V.o.2.1.size)) (bJ.below I d) R K g S (V.o.d.below (a.x (d.m a.size)));have S4:=al (show P.heap.size<=(w4.alloc (sP A4 m4 c4)).heap.size from(a.x (d.m a.size)).size);clear d R I K g S a B U x t z r E u y G s;go_upto_region 5 with fail;generalize w4.alloc (sP A4 m4 c4)=a at b S4⊢;obtain⟨X,g⟩:=rl (w4.heap.size);rw[g]at b⊢;obtain⟨t,z,r,E,u,y,G,s⟩:=O.o a b.o.1;have Y:=al (sY a _ _ lb (HR.o a b.o.2.1).2.2 (by have:=M.o.t.1;have:=p.o;omega) M.o.q.2);clear g;go_wp2_with fail;refine Y.o.m ?_;intro e w6 U;obtain⟨v6,r6,rfl,B⟩:=U.named;obtain⟨A6,m6,c6,l6,rfl,S,I,Z,K,x⟩:=B.any M.o.q.2;obtain⟨d,R⟩:=rk w6 (sP A6 m6 c6);have g:=x.x (d.m x.size);have a:=B7 (b.o.1.x (g.m b.o.1.size)) (b.o.2.1.x (g.m b.o.2.1.size)) (bJ.below S d) R I Z K (bJ.below b.o.d.1 g) (qS g b.o.t.1) (b.o.q.t.below g);have S6:=al (show P.heap.size<=(w6.alloc (sP A6 m6 c6)).heap.size from dp S4.o g.size);clear d R S I Z K x g B U Y t z r E u y G s;go_upto_region 6 with fail;generalize w6.alloc (sP A6 m6 c6)=g at a S6⊢;obtain⟨Y,x⟩:=rl (w6.heap.size);rw[x]at a⊢;have K:=aB a.o.t.1;have I:=aB a.o.q.q.1;have HJ:=al (J6 g _ _ _ _ l4 l6 a.o.q.t.1 a.o.d.1 (by have:=b.o.q.1;omega) (by have:=a.o.q.1;omega) b.o.q.2.1 a.o.q.2.1);clear x;go_wp2_with fail;refine HJ.o.m ?_;intro e w8 U;obtain⟨v8,r8,rfl,B⟩:=U.named;obtain⟨A8,m8,c8,l8,rfl,ad,Y1,ap,am,Z⟩:=B.any (fun c hc=>(dr.1 hc).elim (b.o.q.2.1 c) (a.o.q.2.1 c));obtain⟨d,R⟩:=rk w8 (sP A8 m8 c8);have S:=Z.x (d.m Z.size);have hK: ∀k x,g.heap[k]?=some x->(w8.alloc (sP A8 m8 c8)).heap[k]?=some x:=fun k x h=>qS S h;have g:=BE (a.o.1.x (S.m a.o.1.size)) (a.o.2.1.x (S.m a.o.2.1.size)) (yk (bJ.below a.o.q.t.1 S) (bJ.below a.o.d.1 S) (bJ.below ad d)) (yk (hK _ _ a.o.q.q.1) (hK _ _ a.o.t.1) R) (yk b.o.q.1 a.o.q.1 Y1) (yk b.o.q.d.1 a.o.q.d.1 am) (a.o.q.q.2.below S);have S8:=al (show P.heap.size<=(w8.alloc (sP A8 m8 c8)).heap.size from dp S6.o S.size);clear d R ad Y1 ap am Z S hK B U HJ K I b a;go_upto_region 7 with fail;generalize w8.alloc (sP A8 m8 c8)=h at g S8⊢;obtain⟨Z,a⟩:=rl (w8.heap.size);rw[a]at g⊢;clear a;by_cases hg:r4=0/\r6=0/\r8=0;rotate_left
 ·have hq: ¬r4=0\/(r4=0/\ ¬r6=0)\/(r4=0/\r6=0/\ ¬r8=0):=by omega
  clear hg;rcases hq with J|⟨J,Q⟩|⟨J,Q,q2⟩
  all_goals
   go_wp2_with fail;refine(aa.o _ g.o.2.1).m ?_;rintro e P ⟨rfl,H⟩;go_wp2_with fail;go_ret
   exact⟨rfl,H⟩
 obtain⟨rfl,rfl,rfl⟩:=hg;obtain⟨gx,-⟩:=g.o.q.2.1.1 rfl;obtain⟨gy,-⟩:=g.o.q.2.1.2.1 rfl;obtain⟨-,gj⟩:=g.o.q.2.1.2.2 rfl;have HP:=AI (I8 (most:=most) (f:=f) (ps:=ps) (cl:=l4) p.o.1 p.o.2.1) (MN (most:=most) (f:=f) (ps:=ps) (a:=i) (b:=j) gx gy gj)
 have R:=al (fun W (l:Below h.heap.size h W) (B:Option Addr) (x d:Nat) (S:List Cl) (a b:Nat) (U:cz h (fun _=>True) (.slice B x d) S) (ad:S.length<=64) (h1:a<=b) (h2:b<=ps.length)=>by
  have dE:=g.o.2.1.x (l.m g.o.2.1.size);obtain⟨am,tE,tS,tN⟩:=HT.o W dE;have:=I9 W L _ _ ps most f o a b B x d S (bJ.below U l) ad h1 h2 (g.o.q.d.below l) (fun k hk=>da hk.2 (dp S8.o l.size)) p.o.q.2 ac.o.1 ac.o.2.cfg am tE tS tN;unfold Cm at this
  exact this)
 have k:=al (aw h.heap.size h);obtain⟨t,z,r,E,u,y,G,s⟩:=O.o h (g.o.1.x (k.o.m g.o.1.size));have K:=aB (qS k.o g.o.t.1.1);have I:=aB (qS k.o g.o.t.1.2.1);have a:=aB (qS k.o g.o.t.1.2.2);have b:=al (R.o h k.o A4 m4 c4 l4 i j g.o.d.1.1 g.o.q.1.1 (dp p.o.1 p.o.2.1) p.o.d.1);go_wp2_with fail;refine b.o.m ?_;rintro e mX ⟨a0,d,rfl,l⟩;have x:=al (k.o.x (l.m k.o.size));have B:=al d;clear l d t z r E u y G s K I a b;obtain⟨t,z,r,E,u,y,G,s⟩:=O.o mX (g.o.1.x (x.o.m g.o.1.size));have K:=aB (qS x.o g.o.t.1.1);have I:=aB (qS x.o g.o.t.1.2.1);have a:=aB (qS x.o g.o.t.1.2.2);have h:=al (R.o mX x.o A4 m4 c4 l4 i m g.o.d.1.1 g.o.q.1.1 p.o.1 (dp p.o.2.1 p.o.d.1));go_wp2_with fail;refine h.o.m ?_;rintro e U ⟨a',d,rfl,l⟩;have b:=al (x.o.x (l.m x.o.size));have am:=al d;clear l d t z r E u y G s K I a h;obtain⟨t,z,r,E,u,y,G,s⟩:=O.o U (g.o.1.x (b.o.m g.o.1.size));have K:=aB (qS b.o g.o.t.1.1);have I:=aB (qS b.o g.o.t.1.2.1);have a:=aB (qS b.o g.o.t.1.2.2);have S:=al (R.o U b.o A4 m4 c4 l4 m j g.o.d.1.1 g.o.q.1.1 p.o.2.1 p.o.d.1);go_wp2_with fail;refine S.o.m ?_;rintro e W ⟨ap,d,rfl,l⟩;have h:=al (b.o.x (l.m b.o.size));have a5:=al d;clear l d t z r E u y G s K I a S;obtain⟨t,z,r,E,u,y,G,s⟩:=O.o W (g.o.1.x (h.o.m g.o.1.size));have K:=aB (qS h.o g.o.t.1.1);have I:=aB (qS h.o g.o.t.1.2.1);have a:=aB (qS h.o g.o.t.1.2.2);have ad:=al (R.o W h.o A6 m6 c6 l6 i j g.o.d.1.2.1 g.o.q.1.2.1 (dp p.o.1 p.o.2.1) p.o.d.1);go_wp2_with fail;refine ad.o.m ?_;rintro e a2 ⟨a1,S,rfl,l⟩;have d:=al (h.o.x (l.m h.o.size));have a3:=al S;clear l S t z r E u y G s K I a ad;obtain⟨t,z,r,E,u,y,G,s⟩:=O.o a2 (g.o.1.x (d.o.m g.o.1.size));have K:=aB (qS d.o g.o.t.1.1);have I:=aB (qS d.o g.o.t.1.2.1);have a:=aB (qS d.o g.o.t.1.2.2);have ad:=al (R.o a2 d.o A8 m8 c8 l8 i j g.o.d.1.2.2 g.o.q.1.2.2 (dp p.o.1 p.o.2.1) p.o.d.1);go_wp2_with fail;refine ad.o.m ?_;rintro e a9 ⟨a6,a4,rfl,l⟩;have a8:=al (d.o.x (l.m d.o.size));have S:=al a4;clear l a4 t z r E u y G s K I a ad
 have a:a0=(a'||ap):=by rw[Bool.eq_iff_iff,Bool.or_eq_true,B.o,am.o,a5.o];exact HP.o.1
 have l:a6=(a0||a1):=by rw[Bool.eq_iff_iff,Bool.or_eq_true,S.o,B.o,a3.o];exact HP.o.2
 clear B am a5 a3 S;subst a;subst l;have a:=al (aa.o _ (g.o.2.1.x (a8.o.m g.o.2.1.size)));cases a'<;>cases ap<;>cases a1
 all_goals
  simp only[Bool.or_false,Bool.or_true];go_wp2_with fail;refine a.o.m ?_;rintro e P ⟨rfl,H⟩;go_wp2_with fail;go_ret
  exact⟨rfl,H⟩
end Go.Proofs.YtehccbdajiiaaaaGreatDoor
