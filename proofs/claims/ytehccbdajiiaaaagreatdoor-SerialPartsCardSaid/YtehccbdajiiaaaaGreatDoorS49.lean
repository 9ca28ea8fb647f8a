import Derived.Test.YtehccbdajiiaaaaGreatDoorS35
import Derived.Test.YtehccbdajiiaaaaGreatDoorS48
namespace Go.Proofs.YtehccbdajiiaaaaGreatDoor
open Go.Proofs.Tryz
set_option maxRecDepth 100000
set_option maxHeartbeats 16000000
open Go.RowKit
section
open Go.RowKit Go.Maps Go.WideShapes Go.Shelf
attribute [local go_sem] Oper.semAt_some
def vF(o:Out):List Value:=[rm o.1,rm o.2.1,rm o.2.2]
theorem zu{most n f:Int}(h:fQ most n f=0):(0<=f/\f<=10000)/\(1<=most/\most<=1024)/\2<=n/\n<=16:=by
 have b: ¬(f<0\/10000<f):=fun e=>by rw[fQ,dv,ff e,fb (by decide)]at h;exact absurd h (by decide)
 rw[fQ,dv,fb b,ff rfl,iy]at h
 have a: ¬(most<1\/1024<most):=fun e=>by rw[ff e]at h;exact absurd h (by decide)
 rw[fb a,xE]at h
 have c: ¬(n<2\/16<n):=fun e=>by rw[ff e]at h;exact absurd h (by decide)
 omega
theorem GP(w:World)(most:Int)(n:Nat)(h:Int)(s:fQ most n h=0):Calls prog 28 #[gX most n h] w fun q a=>
  ∃T,q=.returned (.tuple #[rv T,rm 0])/\bz a T most n [] (fun r _=>w.heap.size<r/\r<a.heap.size)/\Below w.heap.size w a:=by
 obtain⟨l,e,m⟩:=zu s;unfold gX;obtain⟨c,b⟩:=rj w (sn most n h);have g:(w.alloc (sn most n h)).heap.size=w.heap.size+1:=by simp
 go_enter func28,ntmps28;go_upto_region 1 with fail;generalize w.alloc (sn most n h)=d at c b g⊢;obtain⟨C,f⟩:=rk (w.heap.size);rw[f]at b⊢;obtain⟨⟨k,o,j⟩,-⟩:=ag b;have i:=al (tK d h);rw[show dv h=0 by unfold dv;rw[fb (by omega)]]at i;have p:=al (yA d most n e.1 e.2 (by omega) (by omega));have a:=AF c g f;clear c b g f s l e m;go_wp2_with fail;refine i.o.m ?_;rintro q e ⟨rfl,f⟩;obtain rfl:d=e:=f.symm;go_wp2_with fail;refine p.o.m ?_;rintro q e ⟨T,rfl,b,c⟩;have d:=AD b c;clear b c k o j;go_wp2_with fail
 go_ret2
 exact⟨T,rfl,d.o.1.m (fun r c b=>⟨by have:=a.o.2.1;have:=a.o.d;omega,b.2⟩),a.o.1.x (d.o.2.m a.o.1.size)⟩
def GQ(w:World)(N T C d a b o:Nat)(most g:Int)(c:List (List UInt8))(U:Nat->Prop)(W:World):Prop:=
 ∃v e,(W.heap[C]?=some (sn most (o:Int) g)/\W.heap[d]?=some (sR T)/\W.heap[a]?=some (tw 0)/\W.heap[b]?=some (.cells #[v] 44 (0,0)))/\
  W.ownsRow N 50 3 v c.length ((bH most g c []).1.map vF).flatten/\bz W T most o (bH most g c []).2 e/\df (bH most g c []).2/\(∀k,U k↔k=b\/k=a\/v.ownBlock=some k\/ ∃q,e k q)/\Below w.heap.size w W/\
  (C<N/\d<N/\a<N/\b<N/\N<=W.heap.size)/\(w.heap.size<=C/\w.heap.size<=d/\w.heap.size<=a/\w.heap.size<=b)/\(∀f q,e f q->C<f/\f≠d/\f≠a/\f≠b/\f<W.heap.size/\v.ownBlock≠some f)
theorem GQ.jl{w:World}{N T C D v E o:Nat}{most L:Int}:ed N (GQ w N T C D v E o most L):=by
 refine⟨?_,?_⟩
 ·rintro u U K ⟨J,r,⟨l,n,i,j⟩,g,m,p,c,f,a,k,d⟩ t q;rcases(c t).1 q with rfl|rfl|h|⟨s,h⟩
  ·exact oT j
  ·exact oT i
  ·exact(g.lt t h).2
  ·exact(d t s h).2.2.2.2.1
 ·rintro u U K M S ⟨J,r,⟨l,n,i,j⟩,g,m,p,c,f,⟨x,B,z,A,F⟩,k,d⟩ a b
  exact⟨J,r,⟨a.heap l (fun h=>by have:=(b _ h).1;omega),a.heap n (fun h=>by have:=(b _ h).1;omega),a.heap i (fun h=>by have:=(b _ h).1;omega),a.heap j (fun h=>by have:=(b _ h).1;omega)⟩,
   aJ g a (fun y e h=>(b y h).2 ((c y).2 (.inr (.inr (.inl e))))),m.dC a (fun I s e h=>(b I h).2 ((c I).2 (.inr (.inr (.inr ⟨s,e⟩))))),p,c,f.x (a.aH f.size (fun t q h=>by have:=(b t h).1;omega)),⟨x,B,z,A,dd F a.size⟩,k,
   fun I s e=>by obtain⟨t,H,y,h,q,G⟩:=d I s e;exact⟨t,H,y,h,da q a.size,G⟩⟩
theorem GQ.next{w W j r H P h:World}{N T C n f a o X:Nat}{most S:Int}{l:List (List UInt8)}{U:Nat->Prop}{v v':Value}{FT:Nat->Nat->Prop}{p:Out×az}{b:List UInt8}(hp:qp most S b (bH most S l []).2=p)
  (F:(W.heap[C]?=some (sn most (o:Int) S)/\W.heap[n]?=some (sR T)/\W.heap[f]?=some (tw 0)/\W.heap[a]?=some (.cells #[v] 44 (0,0))))
  (h5:W.ownsRow N 50 3 v l.length ((bH most S l []).1.map vF).flatten) (i: ∀k,U k↔k=a\/k=f\/v.ownBlock=some k\/ ∃q,FT k q) (h9:Below w.heap.size w W)
  (s:C<N/\n<N/\f<N/\a<N/\N<=W.heap.size) (am:w.heap.size<=C/\w.heap.size<=n/\w.heap.size<=f/\w.heap.size<=a) (t: ∀b q,FT b q->C<b/\b≠n/\b≠f/\b≠a/\b<W.heap.size/\v.ownBlock≠some b)
  (z:a≠f/\n≠f/\n≠a/\C≠f/\C≠a/\C≠n) (I:Below W.heap.size W j) (hX:W.heap.size<=X) (ht:bz r T most o p.2 (fun b q=>FT b q\/j.heap.size<=b)) (cj:OnlyC FT j r) (a0:df p.2) (a4:X<j.heap.size)
  (G:Only (fun k=>k=X\/k=f) r H) (a':H.heap[f]?=some (tw 0)) (A:Below H.heap.size H P) (D:Only (fun k=>v.ownBlock=some k) P h)
  (V:h.ownsRow N 50 3 v' (l.length+1) (((bH most S l []).1.map vF).flatten++vF p.1)) (c:v'.ownBlock=v.ownBlock\/v'.ownBlock=some P.heap.size):
  ∃U',GQ w N T C n f a o most S (l++[b]) U' (h.setCell ⟨a,0,none⟩ v')/\Only U W (h.setCell ⟨a,0,none⟩ v')/\Grow W U U':=by
 obtain⟨k1,k2,k3,k4⟩:=F;have E:=Only.aR h a 0 v';have u: ∀b,v.ownBlock=some b->N<=b/\b<W.heap.size:=fun b e=>h5.lt b e;have J:bH most S (l++[b]) []=((bH most S l []).1++[p.1],p.2):=by rw[qc,bH,hp];rfl
 -- all that turned
 have K:Only (fun k=> ∃q,FT k q) j r:=cj.only;have s2:j.heap.size<=r.heap.size:=K.size;have s3:=G.size;have s4:=A.size;have s5:=D.size;have s1:=I.size
 have hA:Only U W h:=by have O:Only U W j:=oB I U;have L:=O.x K (fun k y e=>(i k).2 (.inr (.inr (.inr e))));have R:=L.x G (fun k y e=>e.elim (fun e=>by omega) (fun e=>(i k).2 (.inr (.inl e))));have x4:=R.trans (T:=fun _=>False) (oB A _) (fun _ _ F=>F.elim);exact x4.x D (fun k y e=>(i k).2 (.inr (.inr (.inl e))))
 have B:Only U W (h.setCell ⟨a,0,none⟩ v'):=hA.x E (fun k _ e=>(i k).2 (.inl e));have hc: ∀k x,W.heap[k]?=some x-> ¬U k->(h.setCell ⟨a,0,none⟩ v').heap[k]?=some x:=fun k x y m=>B.heap y m
 have nU: ∀k,k<N->k≠a->k≠f->(∀q,¬FT k q)-> ¬U k:=fun k y a1 a2 a3 m=>by
  rcases(i k).1 m with e|e|e|⟨q,e⟩
  ·exact a1 e
  ·exact a2 e
  ·have:=(u k e).1;omega
  ·exact a3 q e
 have ac:h.heap[f]?=some (tw 0):=D.heap (qt A a') (fun e=>by have:=(u _ e).1;omega)
 have ad:h.heap[a]?=some (.cells #[v] 44 (0,0)):=by have O:=qt I k4;have L:=K.heap O (fun⟨q,e⟩=>(t _ q e).2.2.2.1 rfl);have R:=G.heap L (fun e=>e.elim (fun e=>by omega) (fun e=>z.1 e));exact D.heap (qt A R) (fun e=>by have:=(u _ e).1;omega)
 have aa:bz h T most o p.2 (fun b q=>FT b q\/(j.heap.size<=b/\b<r.heap.size)):=by
  have hZ:Only (fun k=>(k=X\/k=f)\/v.ownBlock=some k) r h:=
   ((G.m (fun _ _ F=>.inl F)).trans (T:=fun _=>False) (oB A _) (fun _ _ F=>F.elim)).x D (fun _ _ F=>.inr F)
  refine(ht.bound.dC hZ (fun b q d m=>?_)).m (fun b q d=>d.1.imp (fun F=>F) (fun F=>⟨F,d.2⟩));rcases d.1 with d|d
  ·obtain⟨Z,b2,Q,b4,Y,M⟩:=t b q d;rcases m with(e|e)|e
   ·omega
   ·exact Q e
   ·exact M e
  ·rcases m with(e|e)|e
   ·omega
   ·omega
   ·have:=(u b e).2;omega
 refine⟨_,⟨v',fun b q=>FT b q\/(j.heap.size<=b/\b<r.heap.size),⟨hc _ _ k1 (nU _ s.1 z.2.2.2.2.1 z.2.2.2.1 (fun q e=>by have:=(t _ q e).1;omega)),hc _ _ k2 (nU _ s.2.1 z.2.2.1 z.2.1 (fun q e=>(t _ q e).2.1 rfl)),E.heap ac (fun e=>z.1 e.symm),?_⟩,?_,?_,?_,fun _=>Iff.rfl,?_,⟨s.1,s.2.1,s.2.2.1,s.2.2.2.1,dd s.2.2.2.2 B.size⟩,am,?_⟩,B,?_⟩
 ·have:=dp h a 0 _ _ v' ad;simpa using this
 ·rw[J,gr,gR,la];simp only[kt,kb,List.flatten_cons,List.flatten_nil,fs,gn,lp];exact aJ V E (fun g ap e=>by have:=(V.lt g ap).1;omega)
 ·rw[J]
  exact aa.dC E (fun b q d e=>by
   subst e;rcases d with d|d
   ·exact(t _ q d).2.2.2.1 rfl
   ·omega)
 ·rw[J];exact a0
 ·exact h9.x (B.aH h9.size (fun k y m=>by
   rcases(i k).1 m with e|e|e|⟨q,e⟩
   ·omega
   ·omega
   ·have:=(u k e).1;omega
   ·have:=(t k q e).1;omega))
 ·rintro b q (d|d)
  ·obtain⟨Z,b2,Q,b4,Y,M⟩:=t b q d;refine⟨Z,b2,Q,b4,da Y B.size,fun e=>?_⟩;rcases c with c|c
   ·exact M (c▸e)
   ·rw[c]at e;injection e with e;omega
  ·have:=E.size;refine⟨by omega,by omega,by omega,by omega,by omega,fun e=>?_⟩;rcases c with c|c
   ·have:=(u b (c▸e)).2;omega
   ·rw[c]at e;injection e with e;omega
 ·rintro b (e|e|e|⟨q,e|e⟩)
  ·exact .inl ((i b).2 (.inl e))
  ·exact .inl ((i b).2 (.inr (.inl e)))
  ·rcases c with c|c
   ·exact .inl ((i b).2 (.inr (.inr (.inl (c▸e)))))
   ·rw[c]at e;injection e with e;exact .inr (by omega)
  ·exact .inl ((i b).2 (.inr (.inr (.inr ⟨q,e⟩))))
  ·exact .inr (by omega)
end
section
open Go.RowKit Go.Maps Go.WideShapes Go.Shelf
attribute [local go_sem] Oper.semAt_some
theorem Tryz.Vw:(prog.info? 50).map (fun i=>(i.zero,i.size,i.bytes))=some (some (.agg #[rm 0,rm 0,rm 0]),3,24):=by kernel_rfl
def ace(most:Int)(o:Nat)(r:List Out×az)(w:World)(e:Ending)(w':World):Prop:=
 ∃v T,e=.returned (.tuple #[v,rv T,rm 0])/\bI 3 w' (fun k=>w.heap.size<=k) v (r.1.map vF)/\bz w' T most o r.2 (fun b _=>w.heap.size<=b/\b<w'.heap.size)/\df r.2/\Below w.heap.size w w'
theorem wK(w:World)(L:Nat)(F:Nat->Prop)(ps:List (List UInt8))(most f:Int)(o:Nat)(M:eX w F L ps)(hF: ∀k,F k->k<w.heap.size)(hl:ps.length<=1024)(bn: ∀N∈ps,N.length<=8192)(h0:fQ most o f=0)
  (l:fB w) (hE:mH w) (hs:gy w) (hn:gZ w):Calls prog 13 #[rv L,gX most o f] w (ace most o (bH most f ps []) w):=by
 unfold gX;obtain⟨a3,k0⟩:=rj w (sn most o f);refine fX func13 rfl ?_;simp only[ntmps13,lz,gn,lp,Nat.reduceAdd,Nat.reduceSub,Array.replicate_succ,Array.replicate_zero,List.push_toArray,List.append_toArray,fj,lE];go_upto_region 1 with fail;generalize w.alloc (sn most o f)=w1 at a3 k0⊢;obtain⟨C,hC⟩:=rk (w.heap.size);rw[hC]at k0⊢;obtain⟨⟨z0,z1,z2⟩,-⟩:=ag k0;have e:=BE M hF hl bn h0 l hE hs hn;have HB:=AF a3 k0 hC;have HC:=al (EX w1 most o f);unfold gX at HC;rw[h0]at HC;clear a3 k0 hC M hF hl bn h0 l hE hs hn;go_wp2_with fail
 go_step3
 go_wp2_with fail;refine HC.o.m ?_;rintro i w2 ⟨rfl,a8⟩;have k2:=qt a8 HB.o.2.1;obtain⟨⟨z0,z1,z2⟩,-⟩:=ag k2;have dh:=AD (HB.o.1.x (a8.m HB.o.1.size)) k2;have HE:=al (GP w2 most o f e.o.q.1);unfold gX at HE;clear a8 k2 HC;go_wp2_with fail;refine HE.o.m ?_;rintro i p ⟨T,rfl,hT,ap⟩;have bl:=qt ap dh.o.2;have GW:=aM dh.o.2;have V:=AM (dh.o.1.x (ap.m dh.o.1.size)) bl hT GW ap.size;clear ap hT HE z0 z1 z2 bl GW;obtain⟨a9,bp⟩:=rj p (sR T);obtain⟨bc,ad⟩:=rj (p.alloc (sR T)) (tw 0);have Vx:=qt bc bp;have P:=a9.x (bc.m a9.size);go_upto_region 7 with fail;generalize (p.alloc (sR T)).alloc (tw 0)=w4 at P Vx ad⊢;rw[show(p.alloc (sR T)).heap.size=p.heap.size+1 by simp]at ad;obtain⟨d,WT⟩:=rk (p.heap.size+1);rw[WT]at ad⊢;obtain⟨T4,ba⟩:=rk (p.heap.size);rw[ba]at Vx⊢;have n:=AS (V.o.1.x (P.m V.o.1.size)) (qt P V.o.2.1) (V.o.d.1.below P) Vx ad WT ba;have z0:w4.cell? ⟨d,0,none⟩=some (rm 0):=by simp[World.cell?,ad]
 clear a9 bp bc ad Vx P WT ba;obtain⟨a',a1⟩:=rj w4 (.cells #[.slice none 0 0] 44);go_upto_region 10 with fail;generalize w4.alloc (.cells #[.slice none 0 0] 44)=w5 at a' a1⊢;obtain⟨B,ij⟩:=rk (w4.heap.size);rw[ij]at a1⊢;have fO:=n.o.1.x (a'.m n.o.1.size);have h:=al (YF w5 F L ps (e.o.1.below fO) e.o.d.1);have Db:=AI fO a1 a' ij;clear fO a' a1 ij z0
 go_step3
 go_wp2_with fail;refine h.o.m ?_;rintro i j ⟨Bs,v,rfl,fW,b1,kB,hr⟩
 have b2:Bs<j.heap.size:=by
  rcases Nat.lt_or_ge Bs j.heap.size with M|M
  ·exact M
  ·simp[World.cell?,Array.getElem?_eq_none M]at kB
 have bk:=UG j (fun k=>(F k\/w5.heap.size<=k)/\k<j.heap.size) Bs v ps e.o.t.1 ⟨.inr b1,b2⟩ kB hr.bound;have ac:Below w4.heap.size w4 j:=Db.o.d.1.x (fW.m Db.o.d.1.size);have I:=qt ac n.o.t.1;have kE:=qt ac n.o.q.1;have R:=qt ac n.o.2.1;have S:=qt fW Db.o.2.1;have n1:=n.o.q.2.1;have n2:=n.o.q.d;have n3:=Db.o.t;have n4:=V.o.t.1;have n0:=V.o.q;have n5:=HB.o.d;have n6:=V.o.1.size;have n7:=aM n.o.q.1;have n8:=aM S;have n9:=aM Db.o.2.1
 have K4:GQ w j.heap.size T C T4 d B o most f [] (fun k=>k=B\/k=d\/(Value.slice none 0 0).ownBlock=some k\/ ∃J,(fun b (_:Nat)=>w2.heap.size<b/\b<p.heap.size) k J) j:=
  ⟨.slice none 0 0,fun b _=>w2.heap.size<b/\b<p.heap.size,⟨R,I,kE,S⟩,dy _ _ _ _,n.o.d.1.below ac,⟨ee,fun J z=>by cases z⟩,fun _=>Iff.rfl,n.o.1.x (ac.m n.o.1.size),⟨by omega,by omega,by omega,by omega,b8 _⟩,⟨by omega,by omega,by omega,by omega⟩,
   fun b J z=>⟨by omega,by omega,by omega,by omega,by omega,fun i=>by cases i⟩⟩
 have wC: ∀k,((F k\/w5.heap.size<=k)/\k<j.heap.size)-> ¬(k=B\/k=d\/(Value.slice none 0 0).ownBlock=some k\/ ∃J,(fun b (_:Nat)=>w2.heap.size<b/\b<p.heap.size) k J):=by
  rintro k ⟨a,-⟩ (i|i|i|⟨J,i⟩)
  ·rcases a with a|a
   ·have:=e.o.2.1 k a;omega
   ·omega
  ·rcases a with a|a
   ·have:=e.o.2.1 k a;omega
   ·omega
  ·cases i
  ·have e1:w2.heap.size<k/\k<p.heap.size:=i;rcases a with a|a
   ·have:=e.o.2.1 k a;omega
   ·omega
 have hd:(B≠d/\T4≠d/\T4≠B/\C≠d/\C≠B/\C≠T4):=⟨by omega,by omega,by omega,by omega,by omega,by omega⟩;obtain⟨i0,b3,bv,bx,bs⟩:=eh Tryz.Vw;have HD:=al hd;have Z:=By bk K4 wC hd b3 bv bx bs;clear bk K4 wC hd n1 n2 n3 n4 n5 n6 n7 n8 n9 I kE R S ac b2 kB hr b1 fW b3 bv bx bs h;go_wp2_with fail
 refine lO (α:=List UInt8) (fun t v0 v1=>t.setIfInBounds 12 v1) rfl (enters_of func55 (by kernel_rfl) rfl) Z.o.1 (fun k a=>a.2) (F4 ps)
  (GQ w j.heap.size T C T4 d B o most f) (fun _ _ _ _=>False) GQ.jl (fun _=>ed.none _) _ Z.o.2.1 Z.o.d.1 ?cF ?hbody ?hdone (fun _ _ _ _ _ _ _ _ M=>M.elim)
 case cF=>
  intro l' v0 v1 W' K hK;simp only[List.setIfInBounds_toArray,List.set_cons_zero,List.set_cons_succ]at hK⊢
  gi_wp2
  exact hK
 case hbody=>
  rintro l' O b v0 v1 U W ⟨v,FT,a,m,Y,Q,u,r,l,s,q⟩ ⟨rfl,A',c',G,rfl,a6,bi,fF,mA⟩;obtain⟨A,cA,rfl⟩:=ai m;obtain⟨H,kX⟩:=rj W (sl 0 0 0);have R:=qt H a.1;have I:=qt H a.2.1;obtain⟨⟨c0,c1,c2⟩,-⟩:=ag R;have t0:=aL I;have Sl:=r.x (H.m r.size);have bo:=(zu e.o.q.1).1;have b4:=e.o.t.1 b (db a6);have HO:=al (JV (W.alloc (sl 0 0 0)) T o most _ FT G _ b most o f (Y.below H) (fun x J z=>da (q x J z).2.2.2.2.1 H.size) Q (fF.below H) (by omega) bo (e.o.q.2.1.below Sl) (e.o.q.d.1.below Sl) (e.o.q.t.1.below Sl) (e.o.q.q.below Sl));obtain⟨N,hp⟩:=rk (qp most f b (bH most f O []).2);rw[hp]at HO;have c:=By a m u r l s q hp;have HW:=AM H kX (aM kX) a6 bi;clear a m Y Q u r l s q H kX R I Sl bo b4 hp fF mA a6 bi;simp only[List.setIfInBounds_toArray,List.set_cons_zero,List.set_cons_succ]
  gi_wp2
  refine⟨trivial,?_⟩;clear c0 c1 c2 t0;generalize W.alloc (sl 0 0 0)=W1 at HO HW⊢;obtain⟨X,a2⟩:=rk (W.heap.size);rw[a2]at HW⊢;refine(callsIn_wide.2 HO.o).m ?_;rintro i W2 ⟨rfl,ht,cj,b0⟩;have a4:=cj.only.heap HW.o.2.1 (fun⟨J,i⟩=>by have:=(c.o.q.d.1 _ J i).2.2.2.2.1;omega);have aa:Below W.heap.size W W1:=by rw[a2];exact HW.o.1
  have a0:=cj.only.heap (qt aa c.o.1.2.2.1) (fun⟨J,i⟩=>(c.o.q.d.1 _ J i).2.2.1 rfl);have bm:=cj.only.heap (qt aa c.o.1.2.2.2) (fun⟨J,i⟩=>(c.o.q.d.1 _ J i).2.2.2.1 rfl);have b':X≠d:=fun i=>by have:=c.o.q.1.2.2.1;have:=c.o.q.1.2.2.2.2;omega
  have b5:X≠B:=fun i=>by have:=c.o.q.1.2.2.2.1;have:=c.o.q.1.2.2.2.2;omega
  obtain⟨⟨x0,x1,x2⟩,xf⟩:=ag a4;have e0:=aL a0;have ef:=bL a0;have jW:O.length<1024:=by have:=(aw.1 HW.o.t.1).1;have:=e.o.d.1;omega
  obtain⟨W3,a7⟩:=rk (((((W2.setCell ⟨X,0,none⟩ (rm N.1.1)).setCell ⟨X,1,none⟩ (rm N.1.2.1)).setCell ⟨X,2,none⟩ (rm N.1.2.2)).setCell ⟨d,0,none⟩ (rm 0)));obtain⟨s1,s2⟩:=qf (v0:=rm N.1.1) (v1:=rm N.1.2.1) (v2:=rm N.1.2.2) a4;have s3:=Only.aR (((W2.setCell ⟨X,0,none⟩ (rm N.1.1)).setCell ⟨X,1,none⟩ (rm N.1.2.1)).setCell ⟨X,2,none⟩ (rm N.1.2.2)) d 0 (rm 0);have s4:=dp _ d 0 _ _ (rm 0) (s2.heap a0 (fun i=>b' i.symm));have bf:=s3.heap s1 b';have am:=s3.heap (s2.heap bm (fun i=>b5 i.symm)) (fun i=>by have:=HD.o.1;omega);rw[a7]at s3 s4 bf am;have eo:Only (fun k=>k=X\/k=d) W2 W3:=(s2.m (fun _ _ M=>.inl M)).x s3 (fun _ _ M=>.inr M);have bb:W3.heap[d]?=some (tw 0):=by simpa using s4
  obtain⟨⟨y0,y1,y2⟩,-⟩:=ag bf;have zO:=aL am;have zE:=aL bb;have a5:=ae W3 (sl N.1.1 N.1.2.1 N.1.2.2);have bh:W2.ownsRow j.heap.size 50 3 (.slice A O.length cA) O.length ((bH most f O []).1.map vF).flatten:=aJ (aJ c.o.2.1 (qS aa) (fun _ _ M=>M)) cj.only (fun g E ⟨J,i⟩=>(c.o.q.d.1 g J i).2.2.2.2.2 E);have dS:=aJ (aJ bh eo (fun g E i=>by have h1:=c.o.2.1.lt g E;have:=c.o.q.1.2.2.1;omega)) (qS a5) (fun _ _ M=>M);have kY:=an W3 (sl N.1.1 N.1.2.1 N.1.2.2);rw[show W3.heap.size=W2.heap.size by rw[<-a7];simp]at kY;have h:=AS (eb kY) dS a5 jW eo bb am;have br:j.heap.size<=W3.heap.size:=by have:=c.o.q.1.2.2.2.2;have:=aa.size;have:=cj.size;have:=eo.size;omega
  have H2:=AN ht cj b0 aa a2 br;subst a7;unfold Si;clear ht cj b0 a4 a0 bm aa a2 jW s1 s2 s3 s4 bf am eo bb a5 bh dS br kY
  gi_wp2_with (gi_at_builtin;go_loud (refine wpListIn_append_own_at _ rfl _ _ 44 rfl j.heap.size 50 i0 (.agg #[rm 0,rm 0,rm 0]) 3 24 underlying44 Z.o.q.1 Z.o.q.2.1 Z.o.q.d.1 Z.o.q.t rfl (by decide) (.slice A O.length cA) O.length _ rfl h.o.2.1 ⟨W2.heap.size,0,none⟩ 1 1 [rm N.1.1,rm N.1.2.1,rm N.1.2.2] rfl rfl h.o.1 (by simp[Value.oneCell']) (by have:=h.o.t.1;unfold maxLen;omega) (by have:=h.o.t.1;omega) (dd H2.o.q.2 h.o.d.1.size) ?_);intro v5 W5 yL rA _ QU;obtain⟨A5,c5,rfl⟩:=ai yL;have k5:=(Only.of_grownBy rA).heap (qt h.o.d.1 h.o.q.d) (fun i=>by have:=(c.o.2.1.lt B i).1;have:=c.o.q.1.2.2.2.1;omega);have q0:=aL k5;have q1:=bL k5;have H5:=AF yL rA QU;clear yL rA QU k5)
  exact GQ.next c.o.q.t c.o.1 c.o.2.1 c.o.d.1 c.o.t.1 c.o.q.1 c.o.q.2.1 c.o.q.d.1 HD.o H2.o.t.1 (Nat.le_of_eq H2.o.q.1) H2.o.1 H2.o.2.1 H2.o.d.1 HW.o.d.1 h.o.q.1 h.o.q.2.1 h.o.d.1 (Only.of_grownBy H5.o.2.1) H5.o.1 H5.o.d
 case hdone=>
  rintro D xs U W hD rz rfl ⟨v1,FT,⟨R,I,kE,S⟩,m,Y,Q,u,r,l,s,q⟩ ho E a;obtain⟨A1,c1,rfl⟩:=ai m;obtain⟨N1,Oa⟩:=rk (xs.length);rw[Oa]at m u q S;have y1:=aL I;have y2:=aL kE;have y3:=aL S;have HK:=B7 a hD m Y Q r l s q Oa rz u;clear R I kE S m Y Q u r l s q ho E a hD Oa rz;go_wp2_with fail;go_quiet(fail);go_wp2_with fail;obtain⟨a,hD,m,Y,Q,r,l,s,q,Oa,rz,u⟩:=HK.o
  have hW:Only (fun k=>k=D) W ((W.drewN nq).putObj D (.deferred none)):=
   ((oE (fun _=>False) W).drewN nq).m (fun _ _ M=>M.elim)|>.trans (T:=fun k=>k=D) (Only.putObj _ D (.deferred none)) (fun _ _ M=>M)
  have b6:w.heap.size<=D:=by have:=l.2.2.2.1;have:=s.2.2.2;omega
  rw[gx];refine jk (v:=.tuple #[.slice A1 N1 c1,rv T,rm 0]) a (by simp[results,Tryz.results13,go_sem]) ⟨_,T,rfl,?_,?_,Q,r.x (hW.aH r.size (fun k a i=>by omega))⟩
  ·exact bI.bO (aJ m hW (fun g E i=>rz (i▸(u g).2 (.inr (.inr (.inl E)))))) (fun x P=>by obtain⟨y,-,rfl⟩:=ep.1 P;rfl) (by decide) (fun g E=>by have:=(m.lt g E).1;have:=l.2.2.2.1;have:=s.2.2.2;omega)
  ·exact(Y.dC hW (fun b J z i=>rz (i▸(u b).2 (.inr (.inr (.inr ⟨J,z⟩)))))).m (fun b J z=>⟨by have:=(q b J z).1;have:=s.1;omega,da (q b J z).2.2.2.2.1 hW.size⟩)
end
def Vy(ps:List (List UInt8))(most n f:Int):Prop:=
 (∀p∈ps,p.length<=2000)/\ps.length<=14/\(1<=most/\most<=60)/\(2<=n/\n<=16)/\0<=f/\f<=2000
theorem Vy.cfg{ps:List (List UInt8)}{most n f:Int}(h:Vy ps most n f):fQ most n f=0:=by
 obtain⟨-,-,d,c,b⟩:=h;have a:dv f=0:=by rw[dv,fb (by omega)]
 rw[fQ,ff a,iy,fb (by omega),xE,fb (by omega)]
theorem GR(w:World)(F:Nat->Prop)(v:Value)(ps:List (List UInt8))(most n j:Int)(h:cg w F v ps):
  Calls prog 6 #[v,gX most n j] w fun e a=>((e=.returned (.bool false)/\ ¬Vy ps most n j)\/(e=.returned (.bool true)/\Vy ps most n j))/\Below w.heap.size w a:=by
 unfold gX;obtain⟨b,d⟩:=rj w (sn most n j);have e:=h.below b;go_enter func6,ntmps6;go_upto_region 1 with fail;generalize w.alloc (sn most n j)=l at b d e⊢;obtain⟨C,g⟩:=rk (w.heap.size);rw[g]at d⊢;obtain⟨A,B,rfl,q,m,f⟩:=e.at_;obtain⟨N,c⟩:=rk (ps.length);rw[c]at q⊢;unfold maxLen at m;have a:=AI f b d c;clear f b d h e g c;go_wp2_with fail
 go_loopw [5] (fun i wr=> ∃k:Nat,k<=N/\i=rm (k:Int)/\(∀p∈ps.take k,p.length<=2000)/\wr=l) (fun i _=>N-(intOf i).toNat)
 case atStart=>exact⟨0,dq _,rfl,fun p b=>by simp at b,rfl⟩
 case round=>
  obtain⟨k,o,rfl,d,rfl⟩:=hrel;by_cases e:k<N
  ·obtain⟨p,b⟩: ∃p,ps[k]?=some p:=⟨_,ao (by rw[a.o.t];exact e)⟩;obtain⟨E,D,y,x,rfl,r,h⟩:=a.o.1 k p b;have t:(0:Int)<=(k:Int):=by omega
   have u:(k:Int)<(N:Int):=by omega
   have l:p.length<=maxLen:=by have:=h.length_le;simpa using this
   unfold maxLen at l;have g:ps.take (k+1)=ps.take k++[p]:=by rw[gO,b];rfl
   have f:=AF b d g;clear h b d g e;by_cases s:(p.length:Int)<=2000
   ·have b: ¬2000<(p.length:Int):=by omega
    go_wp2_with fail;go_roundw
    case rel=>
     refine⟨k+1,by omega,by go_num,?_,trivial⟩;rw[f.o.d];intro z g;rcases dr.1 g with h|h
     ·exact f.o.2.1 z h
     ·simp at h;subst h;omega
    case measure=>simp[intOf];omega
   ·have b:2000<(p.length:Int):=by omega
    go_wp2_with fail;go_ret
    exact⟨.inl ⟨rfl,fun h=>by have:=h.1 p (db f.o.1);omega⟩,a.o.2.1⟩
  ·obtain rfl:k=N:=by omega
   obtain⟨⟨r,f,l⟩,-⟩:=ag a.o.d.1;have b:=al (show ∀p∈ps,p.length<=2000 by have:=d;rwa[<-a.o.t,gE]at this);clear d e o;by_cases o:j<=2000
   all_goals go_wp2_with fail
   all_goals
    go_ret
    refine⟨?_,a.o.2.1⟩;have c:=a.o.t
    first
    |exact .inl ⟨rfl,fun h=>by obtain⟨-,d,g,e,p⟩:=h;omega⟩
    |exact .inr ⟨rfl,b.o,by omega,by omega,by omega,by omega⟩
theorem bI.ZI{w:World}{F:Nat->Prop}{A:Option Addr}{n c k:Nat}{l:List Out}{x:Out}(r:bI 3 w F (.slice A n c) (l.map vF))(d:l[k]?=some x):
  ∃e o,A=some ⟨e,o,none⟩/\w.cell? ⟨e,o+k*3,none⟩=some (rm x.1)/\w.cell? ⟨e,o+k*3+1,none⟩=some (rm x.2.1)/\w.cell? ⟨e,o+k*3+2,none⟩=some (rm x.2.2):=by
 obtain⟨p,j,q,a,g,-,-,f⟩:=r;injection a with a b i;subst a b;have m:=(aw.1 d).1;obtain⟨e,o,h,-,a⟩:=f (by rw[<-g,fa];omega);have b:(l.map vF)[k]?=some (vF x):=by simp[d]
 exact⟨e,o,h,by simpa using a k _ b 0 _ rfl,by simpa[gC]using a k _ b 1 _ rfl,by simpa[gC]using a k _ b 2 _ rfl⟩
theorem bI.Vz{w:World}{F:Nat->Prop}{v:Value}{l:List Out}(h:bI 3 w F v (l.map vF)): ∃A c,v=.slice A l.length c/\l.length<=c/\c<=maxLen:=by obtain⟨A,n,c,rfl,a,b,d,-⟩:=h;rw[fa]at a;subst a;exact⟨A,c,rfl,b,d⟩
theorem Sm(w:World)(F G:Nat->Prop)(v1 v2:Value)(l:List Out)(a:bI 3 w F v1 (l.map vF))(b:bI 3 w G v2 (l.map vF)):
  Calls prog 14 #[v1,v2] w fun e c=>e=.returned (.bool true)/\Below w.heap.size w c:=by
 obtain⟨H,A,rfl,s,z⟩:=a.Vz;obtain⟨D,L,rfl,v,t⟩:=b.Vz;unfold maxLen at z t;obtain⟨N,d⟩:=rk (l.length);rw[d]at a b s v⊢;have c:=AF a b d;clear a b d;go_enter func14,ntmps14;go_wp2_with fail
 go_loopw [5] (fun i wr=> ∃k:Nat,k<=N/\i=rm (k:Int)/\Below w.heap.size w wr) (fun i _=>N-(intOf i).toNat)
 case atStart=>exact⟨0,dq _,rfl,bd _ _⟩
 case round=>
  obtain⟨k,y,rfl,a⟩:=hrel;by_cases b:k<N
  ·obtain⟨⟨p,q,g⟩,d⟩: ∃e,l[k]?=some e:=⟨_,ao (by rw[c.o.d];exact b)⟩;obtain⟨I,C,rfl,e,o,h⟩:=bI.ZI (bI.below c.o.1 a) d;obtain⟨J,K,rfl,m,f,j⟩:=bI.ZI (bI.below c.o.2.1 a) d;have B:(0:Int)<=(k:Int):=by omega
   have E:(k:Int)<(N:Int):=by omega
   have r:=Kv p q g p q g;have u:=Tryz.rV;dsimp only at e o h m f j;have x:=al a;have n:=al b;clear d a b y;go_wp2_with fail;go_quiet(fail);clear e o h m f j r u;go_wp2_with fail;go_roundw
   case rel=>exact⟨k+1,by have:=n.o;omega,by go_num,below_drewN x.o _⟩
   case measure=>have:=n.o;simp[intOf];omega
  ·obtain rfl:k=N:=by omega
   go_wp2_with fail;go_ret
   exact⟨rfl,a⟩
theorem sU(w:World)(g:fB w)(j:mH w)(i:gy w)(h:gZ w):Calls prog 12 #[] w fun q a=>q=.returned (.bool true)/\Below w.heap.size w a:=by
 obtain⟨c,a⟩:=rj w (sn 4 2 9);go_enter func12,ntmps12;go_upto_region 2 with fail;generalize w.alloc (sn 4 2 9)=b at c a⊢;obtain⟨C,e⟩:=rk (w.heap.size);rw[e]at a⊢;have o:b.cell? ⟨C,0,none⟩=some (rm 4):=by simp[World.cell?,a]
 have l:b.cell? ⟨C,1,none⟩=some (rm 2):=by simp[World.cell?,a]
 have n:b.cell? ⟨C,2,none⟩=some (rm 9):=by simp[World.cell?,a]
 have d:=AF c a e;clear c a e;have f:=AI g j i h;have p:=al (GP b 4 2 9 (by decide));unfold gX at p;clear g j i h;go_wp2_with fail;refine p.o.m ?_;rintro q g ⟨T,rfl,i,a⟩;have e:=qt a d.o.2.1;have o:g.cell? ⟨C,0,none⟩=some (rm 4):=by simp[World.cell?,e]
 have l:g.cell? ⟨C,1,none⟩=some (rm 2):=by simp[World.cell?,e]
 have n:g.cell? ⟨C,2,none⟩=some (rm 9):=by simp[World.cell?,e]
 have b:=d.o.1.x (a.m d.o.1.size);have j:=al b;have k:=al (JV g T 2 4 [] _ (fun _=>False) (.slice none 0 0) [] 4 2 9 i (fun h r c=>c.2) ⟨ee,fun r c=>by cases c⟩ (Rd.nil _ _) (by decide) (by decide) (f.o.1.below b) (f.o.2.1.below b) (f.o.d.1.below b) (f.o.t.below b))
 have m:qp 4 9 [] []=((7,0,0),[]):=by unfold qp;rw[GI (fun h s=>by have:=congrArg List.length s;rw[oX]at this;simp at this)]
 rw[m]at k;have h:=a.size;have s:=al (dd d.o.1.size h);clear a e i m b h;go_wp2_with fail;refine k.o.m ?_;rintro q e ⟨rfl,-,b,-⟩;have a:Below w.heap.size w e:=j.o.x (b.only.aH j.o.size (fun i h ⟨r,c⟩=>by have h:=d.o.1.size;have i:=c.1;omega));unfold Si;dsimp only;clear b;obtain⟨h,b⟩:=rj e (sl 7 0 0);go_upto_region 4 with fail;generalize e.alloc (sl 7 0 0)=c at h b⊢;generalize e.heap.size=R at b⊢;have o:c.cell? ⟨R,0,none⟩=some (rm 7):=by simp[World.cell?,b]
 have l:c.cell? ⟨R,1,none⟩=some (rm 0):=by simp[World.cell?,b]
 have n:c.cell? ⟨R,2,none⟩=some (rm 0):=by simp[World.cell?,b]
 have c:=al (a.x (h.m a.size));clear h a b;have a:=Kv 7 0 0 7 0 0;rw[show decide ((7:Int)=7/\(0:Int)=0/\(0:Int)=0)=true from by decide]at a;have b:=Tryz.rV;go_wp2_with fail;go_ret
 exact⟨rfl,c.o⟩
theorem gM{w1 W:World}{p:Addr}{v:Value}(a:Below w1.heap.size w1 W)(h:w1.cell? p=some v):W.cell? p=some v:=(a.cell (aq _ _ h)).x h
theorem Cm(w:World)(B:Nat)(v0 v1 v2:Value):Only (fun k=>k=B) w (((w.setCell ⟨B,0,none⟩ v0).setCell ⟨B,1,none⟩ v1).setCell ⟨B,2,none⟩ v2):=
 ((Only.aR w B 0 v0).x (Only.aR _ B 1 v1) (fun _ _ h=>h)).x (Only.aR _ B 2 v2) (fun _ _ h=>h)
theorem NR{w:World}{F:Nat->Prop}{q:Nat}{A:Option Addr}{m c:Nat}{l:List (List Value)}(u:bI q w F (.slice A m c) l){n:Nat}(r:n<=l.length):bI q w F (.slice A n c) (l.take n):=by
 obtain⟨p,j,s,g,k,o,e,h⟩:=u;injection g with b d a;subst b d a;refine⟨A,n,c,rfl,by simp;omega,by omega,e,fun a=>?_⟩;obtain⟨y,v,t,d,f⟩:=h (by omega);refine⟨y,v,t,d,fun i x a=>f i x ?_⟩;have b:i<n:=by have:=(aw.1 a).1;simp at this;omega
 rw[List.getElem?_take_of_lt b]at a;exact a
theorem NS(w:World)(F:Nat->Prop)(v:Value)(ps:List (List UInt8))(most n P k:Int)(g:cg w F v ps)(p:fB w)(x:mH w)(t:gy w)(q:gZ w):
  Calls prog 4 #[v,gX most n P,rm k] w fun E u=>E=.returned (.bool true)/\Below w.heap.size w u:=by
 unfold gX;obtain⟨e,b⟩:=rj w (sn most n P);have f:=g.bound.below e;obtain⟨A,c,rfl,hc,hm,-⟩:=g.at_;obtain⟨N,h⟩:=rk (ps.length);rw[h]at hc f⊢;unfold maxLen at hm;have j:=al (fun B (l:Below w.heap.size w B)=>GR B _ _ ps most n P (g.bound.below l));unfold gX at j;rw[h]at j;have d:=AI p x t q;go_enter func4,ntmps4;go_upto_region 1 with fail;generalize w.alloc (sn most n P)=y at e b f⊢;obtain⟨C,o⟩:=rk (w.heap.size);rw[o]at b⊢;obtain⟨⟨s,m,r⟩,-⟩:=ag b;have a:=AM e b f o h;clear e b f o h g p x t q;go_wp2_with fail;refine(j.o y a.o.1).m ?_;rintro E w2 ⟨ZJ,b⟩;have f:=al b;clear b j;rcases ZJ with⟨rfl,h⟩|⟨rfl,h⟩
 ·go_wp2_with fail;refine(sU _ (d.o.1.below (a.o.1.x (f.o.m a.o.1.size))) (d.o.2.1.below (a.o.1.x (f.o.m a.o.1.size))) (d.o.d.1.below (a.o.1.x (f.o.m a.o.1.size))) (d.o.t.below (a.o.1.x (f.o.m a.o.1.size)))).m ?_;rintro E w3 ⟨rfl,b⟩;have e:=al b;clear b;go_wp2_with fail;go_ret
  exact⟨rfl,a.o.1.x ((f.o.x (e.o.m f.o.size)).m a.o.1.size)⟩
 by_cases dN:k<0
 ·go_wp2_with fail;refine(sU _ (d.o.1.below (a.o.1.x (f.o.m a.o.1.size))) (d.o.2.1.below (a.o.1.x (f.o.m a.o.1.size))) (d.o.d.1.below (a.o.1.x (f.o.m a.o.1.size))) (d.o.t.below (a.o.1.x (f.o.m a.o.1.size)))).m ?_;rintro E w3 ⟨rfl,b⟩;have e:=al b;clear b;go_wp2_with fail;go_ret
  exact⟨rfl,a.o.1.x ((f.o.x (e.o.m f.o.size)).m a.o.1.size)⟩
 by_cases a2:(N:Int)<k
 ·go_wp2_with fail;refine(sU _ (d.o.1.below (a.o.1.x (f.o.m a.o.1.size))) (d.o.2.1.below (a.o.1.x (f.o.m a.o.1.size))) (d.o.d.1.below (a.o.1.x (f.o.m a.o.1.size))) (d.o.t.below (a.o.1.x (f.o.m a.o.1.size)))).m ?_;rintro E w3 ⟨rfl,b⟩;have e:=al b;clear b;go_wp2_with fail;go_ret
  exact⟨rfl,a.o.1.x ((f.o.x (e.o.m f.o.size)).m a.o.1.size)⟩
 obtain⟨G,rfl⟩: ∃G:Nat,k=(G:Int):=⟨k.toNat,by omega⟩;have q:G<=N:=by omega
 have x: ∀W∈ps,W.length<=8192:=fun W g=>dd (h.1 W g) (by decide);have z:N<=14:=by have:=h.2.1;have:=a.o.q;omega
 obtain⟨o,rfl⟩: ∃o:Nat,n=(o:Int):=⟨n.toNat,by have:=h.2.2.2.1;omega⟩;have j:=qt f.o a.o.2.1;obtain⟨⟨s,m,r⟩,-⟩:=ag j;have p:=a.o.1.x (f.o.m a.o.1.size);have y:=al (sy w2 _ _ ps (a.o.d.1.below f.o) (fun k t=>da t.2 p.size) (by have:=a.o.q;omega));have e:=AS h x z q p j (a.o.d.1.below f.o);have a3:(0:Int)<=(G:Int):=by omega
 have a0:(G:Int)<=(c:Int):=by omega
 clear h x z j p q;go_wp2_with fail;refine y.o.m ?_;rintro E w3 ⟨b,L⟩;rw[ff e.o.2.1]at L;obtain⟨L1,rfl,x⟩:=L;have j:=e.o.q.1.x (b.m e.o.q.1.size);have p:=qt b e.o.q.2.1;have h:(ps.take G).length=G:=by rw[im];have:=a.o.q;have:=e.o.t.1;omega
 have q:=al (sy w3 (fun k=>F k/\k<w.heap.size) (.slice A G c) (ps.take G) ((cg.take e.o.q.d G e.o.t.1).below b) (fun k t=>da t.2 j.size) (by rw[h];have:=e.o.d.1;have:=e.o.t.1;omega));have I:=AM j p x.bound h (e.o.q.d.below b);clear j p x b h y;go_wp2_with fail;refine q.o.m ?_;rintro E w4 ⟨b,L⟩;rw[ff (fun W g=>e.o.2.1 W (List.mem_of_mem_take g))]at L;obtain⟨L2,rfl,p⟩:=L;have h:=I.o.1.x (b.m I.o.1.size);have j:=qt b I.o.2.1;obtain⟨⟨s,m,r⟩,-⟩:=ag j;have x:=al (wK w4 L1 _ ps most P o (I.o.d.1.below b) (fun k t=>da t.2 b.size) (by have:=a.o.q;have:=e.o.d.1;omega) e.o.2.1 e.o.1.cfg (d.o.1.below h) (d.o.2.1.below h) (d.o.d.1.below h) (d.o.t.below h));unfold gX at x;have H4:=AI h j p.bound (I.o.q.below b);clear h j p b q;go_wp2_with fail;refine x.o.m ?_;rintro E y ⟨va,T,rfl,j,D,H,h⟩;obtain⟨A1,c1,rfl,q1,q2⟩:=j.Vz;rw[jn,a.o.q]at j q1⊢;have b:=H4.o.1.x (h.m H4.o.1.size);have q:=qt h H4.o.2.1;obtain⟨⟨s,m,r⟩,-⟩:=ag q;have z:=al (wK y L2 _ (ps.take G) most P o (H4.o.d.1.below h) (fun k t=>da t.2 h.size) (by have:=I.o.t.1;have:=e.o.d.1;have:=e.o.t.1;omega) (fun W g=>e.o.2.1 W (List.mem_of_mem_take g)) e.o.1.cfg (d.o.1.below b) (d.o.2.1.below b) (d.o.d.1.below b) (d.o.t.below b));unfold gX at z;have p:=AS b q j D q1 q2 (H4.o.t.below h);clear b q j D H h x q1 q2;go_wp2_with fail;refine z.o.m ?_;rintro E w6 ⟨vp,U,rfl,h,J,x,b⟩;obtain⟨A2,c2,rfl,H,M⟩:=h.Vz;rw[jn,I.o.t.1]at h H⊢;have K:=p.o.1.x (b.m p.o.1.size);have j:=qt b p.o.2.1;obtain⟨⟨s,m,r⟩,-⟩:=ag j;have q:=bI.below p.o.d.1 b;have q1:=p.o.q.1;have q2:=p.o.q.2.1;unfold maxLen at q2;have D:=zn most P ps G [];have HS:=al (Sm w6 _ _ (.slice A2 G c2) (.slice A1 G c1) (bH most P (ps.take G) []).1 h (by rw[D,mc];exact NR q (by rw[fa,jn];have:=e.o.t.1;have:=a.o.q;omega)));have H6:=By K j q (p.o.t.1.below b) J x (p.o.q.d.below b) b;have X:(G:Int)<=(c1:Int):=by have:=e.o.t.1;omega
 clear K j q h J x b z D H M;go_wp2_with fail;refine HS.o.m ?_;rintro E w7 ⟨rfl,b⟩;have H7:=AD (H6.o.q.t.x (b.m H6.o.q.t.size)) (ab ((H6.o.q.1.below b).m (fun D q j=>⟨j.1,da j.2 b.size⟩)) H6.o.q.2.1:bz w7 U most o (bH most P (ps.take G) []).2 (fun D _=>y.heap.size<=D/\D<w7.heap.size)/\df (bH most P (ps.take G) []).2);clear b HS s m r;go_wp2_with fail
 go_loopw [17] (fun i wr=> ∃V:Nat,G<=V/\V<=N/\i=rm (V:Int)/\Below y.heap.size y wr/\bz wr U most o (bH most P (ps.take V) []).2 (fun D _=>y.heap.size<=D/\D<wr.heap.size)/\df (bH most P (ps.take V) []).2) (fun i _=>N-(intOf i).toNat)
 case atStart=>exact⟨G,b8 _,e.o.t.1,rfl,H7.o⟩
 case round=>
  obtain⟨V,aa,am,rfl,z,Wp,ZM⟩:=hrel;by_cases Z:V<N
  ·obtain⟨W,g⟩: ∃W,ps[V]?=some W:=⟨_,ao (by rw[a.o.q];exact Z)⟩;obtain⟨A0,c0,L,-,-,r⟩:=p.o.q.d.at_;injection L with e1 h b;subst e1 b;clear h;obtain⟨bp,op,A',c',rfl,h,s⟩:=r V W g;obtain⟨x,b⟩:=rk ((qp most P W (bH most P (ps.take V) []).2));have S:(bH most P ps []).1[V]?=some x.1:=by rw[<-b];exact RU most P g []
   obtain⟨ba,oa,rfl,J,R,K⟩:=bI.ZI p.o.d.1 S;have Q:=zl most P g [];rw[b]at Q
   have HO:=al (show ∀B,Below wr.heap.size wr B->Calls prog 15 #[rv U,.slice A' W.length c',.agg #[rm most,rm (o:Int),rm P]] B (ab8 U o most (fun D _=>y.heap.size<=D/\D<wr.heap.size) x B)from fun B l=>by
    have m:=z.x (l.m z.size);have O:=p.o.1.x (m.m p.o.1.size);rw[<-b]
    exact JV B U o most _ _ _ _ W most o P (Wp.below l) (fun D q j=>da j.2 l.size) ZM (s.below m) (by have:=e.o.2.1 W (db g);omega) (zu e.o.1.cfg).1 (d.o.1.below O) (d.o.2.1.below O) (d.o.d.1.below O) (d.o.t.below O))
   obtain⟨⟨m,B,l⟩,-⟩:=ag p.o.2.1;have H:=AS h m B l J R K;have M:=AM z aa Z Q (dd (b8 _) z.size);have i1:(0:Int)<=(V:Int):=by omega
   have i2:(V:Int)<(N:Int):=by omega
   clear z Wp ZM g b r h s S J R K m B l Q aa am Z X;go_upto_region 14 with fail;refine pt (S:=(fun u=>Below y.heap.size y u)) (by kernel_rfl) (M.o.1.drew) (fun b=>?_);refine bj [0,1,2,3] ?_
   iterate 4 (refine dZ (v:=?_) (fun R u=>?_) b ?_;rotate_left;(go_simp;try rfl);try simp only[xr])
   refine bq ?_;refine lA 4 (v:=?_) (fun R u=>?_) b ?_;rotate_left
   ·have c0:=gM u H.o.1;go_simp;try rfl
   try simp only[xr]
   refine lA 5 (v:=?_) (fun R u=>?_) b ?_;rotate_left
   ·have c0:=gM u H.o.2.1;have c1:=gM u H.o.d.1;have c2:=gM u H.o.t.1;go_simp;try rfl
   try simp only[xr]
   refine qe (rs:=[6,10]) (by kernel_rfl) (by simp) (cX (i:=6) rfl (fun K m=>?_) (cX (i:=10) rfl (fun K m=>?_) ph))
   focus
    go_simp;refine(HO.o _ ((bd wr.heap.size wr).drew)).m ?_;rintro E s ⟨rfl,ht,g,Y⟩;unfold Si;have H8:=AF ht g Y;have r:=al (show wr.heap.size<=s.heap.size from dd ((bd wr.heap.size wr).drew).size g.size)
    try go_simp
    refine m.o _ _ (b.x (g.only.aH b.size (fun k t ⟨q,j⟩=>by omega))) ?_;clear m K b ht g Y;intro b
    try simp only[xr]
    refine bj [7,8,9] ?_
    iterate 3 (refine dZ (v:=?_) (fun R u=>?_) b ?_;rotate_left;(go_simp;try rfl);try simp only[xr])
    refine bq ?_;refine bA 10 (fun K m=>?_);go_simp;refine m.o _ _ (b.x ((ae _ _).m b.size)) ?_;clear m K b;intro b
    try simp only[xr]
    have B:(s.alloc (sl 0 0 0)).heap[s.heap.size]?=_:=an s (sl 0 0 0);have J:Below s.heap.size s (s.alloc (sl 0 0 0)):=(ae s (sl 0 0 0));obtain⟨X,S⟩:=rk (s.heap.size);rw[S]at B⊢;generalize s.alloc (sl 0 0 0)=wq at B J b⊢;have l:=AD (show wr.heap.size<=X by have:=r.o;omega) B;have HX:=AD J S;clear B J S;refine bA 11 (fun K m=>?_);obtain⟨⟨x0,x1,x2⟩,xf⟩:=ag l.o.2;go_simp;refine m.o _ _ (b.x ((Cm _ X (rm x.1.1) (rm x.1.2.1) (rm x.1.2.2)).aH b.size (fun k t E=>by have e1:k=X:=E;have:=l.o.1;have:=M.o.q;omega))) ?_;clear m K b x0 x1 x2 xf;intro b
    try simp only[xr]
    refine lA 12 (v:=?_) (fun R u=>?_) b ?_;rotate_left
    ·go_simp;try rfl
    try simp only[xr]
    refine pw (by kernel_rfl) ?_ _;have g:=qf (v0:=rm x.1.1) (v1:=rm x.1.2.1) (v2:=rm x.1.2.2) l.o.2;generalize (((wq.setCell ⟨X,0,none⟩ (rm x.1.1)).setCell ⟨X,1,none⟩ (rm x.1.2.1)).setCell ⟨X,2,none⟩ (rm x.1.2.2))=wz at g b⊢;have a':=g.2.size;have ap:wr.drew.heap.size=wr.heap.size:=rfl;have hM:=M.o.q;have ad:=l.o.1
    have ac:bz wz U most o x.2 (fun D _=>y.heap.size<=D/\D<wz.heap.size):=by have a1:=HX.o.1.size;have a4:=HX.o.2;have Wo:=r.o;exact((H8.o.1.bound.below HX.o.1).dC g.2 (fun D q j E=>by have e1:D=X:=E;have:=j.2;omega)).m (fun D q j=>⟨by rcases j.1 with h|h;exact h.1;omega,by have:=j.2;omega⟩)
   rotate_left
   focus
    go_simp;refine m.o _ _ (b.x ((ae _ _).m b.size)) ?_;clear m K b;intro b
    try simp only[xr]
    have B:((wr.alloc (sl 0 0 0)).drew).heap[wr.heap.size]?=_:=an wr (sl 0 0 0);have J:Below wr.heap.size wr ((wr.alloc (sl 0 0 0)).drew):=(ae wr (sl 0 0 0)).drew;obtain⟨X,S⟩:=rk (wr.heap.size);rw[S]at B⊢;generalize (wr.alloc (sl 0 0 0)).drew=wq at B J b⊢;have l:=AF J B (show wr.heap.size<=X by omega);clear B J S;refine bA 6 (fun K m=>?_);go_simp;refine(HO.o _ l.o.1).m ?_;rintro E s ⟨rfl,ht,g,Y⟩;unfold Si;have H8:=AF ht g Y;have r:=al (show wr.heap.size<=s.heap.size from dd l.o.1.size g.size);have l:=AF l.o.d (g.only.heap l.o.2.1 (fun⟨q,j⟩=>by have:=l.o.d;omega)) (aM l.o.2.1)
    try go_simp
    refine m.o _ _ (b.x (g.only.aH b.size (fun k t ⟨q,j⟩=>by omega))) ?_;clear m K b ht g Y;intro b
    try simp only[xr]
    refine bj [7,8,9] ?_
    iterate 3 (refine dZ (v:=?_) (fun R u=>?_) b ?_;rotate_left;(go_simp;try rfl);try simp only[xr])
    refine bq ?_;refine bA 11 (fun K m=>?_);obtain⟨⟨x0,x1,x2⟩,xf⟩:=ag l.o.2.1;go_simp;refine m.o _ _ (b.x ((Cm _ X (rm x.1.1) (rm x.1.2.1) (rm x.1.2.2)).aH b.size (fun k t E=>by have e1:k=X:=E;have:=l.o.1;have:=M.o.q;omega))) ?_;clear m K b x0 x1 x2 xf;intro b
    try simp only[xr]
    refine lA 12 (v:=?_) (fun R u=>?_) b ?_;rotate_left
    ·go_simp;try rfl
    try simp only[xr]
    refine pw (by kernel_rfl) ?_ _;have g:=qf (v0:=rm x.1.1) (v1:=rm x.1.2.1) (v2:=rm x.1.2.2) l.o.2.1;generalize (((s.setCell ⟨X,0,none⟩ (rm x.1.1)).setCell ⟨X,1,none⟩ (rm x.1.2.1)).setCell ⟨X,2,none⟩ (rm x.1.2.2))=wz at g b⊢;have a':=g.2.size;have ap:wr.drew.heap.size=wr.heap.size:=rfl;have hM:=M.o.q;have ad:=l.o.1
    have ac:bz wz U most o x.2 (fun D _=>y.heap.size<=D/\D<wz.heap.size):=by have m:=l.o.d;exact(H8.o.1.bound.dC g.2 (fun D q j E=>by have e1:D=X:=E;rcases j.1 with h|h;have:=h.2;omega;omega)).m (fun D q j=>⟨by rcases j.1 with h|h;exact h.1;omega,by have:=j.2;omega⟩)
   all_goals
    have h:=AF b ac H8.o.d;obtain⟨⟨m,s,t⟩,-⟩:=ag g.1;have c0:=gM b H.o.q.1;have c1:=gM b H.o.q.2.1;have c2:=gM b H.o.q.d;have l:=Kv x.1.1 x.1.2.1 x.1.2.2 x.1.1 x.1.2.1 x.1.2.2;have u:=Tryz.rV;clear b ac g a' ap hM ad;go_wp2_with fail;go_quiet(fail);clear m s t c0 c1 c2 l u;go_wp2_with fail;go_roundw
    case rel=>obtain⟨-,aa,Z,Q,-⟩:=M.o;exact⟨V+1,by omega,by omega,by go_num,below_drewN h.o.1 _,by rw[Q];exact h.o.2.1.below (below_drewN (bd _ _) _),by rw[Q];exact h.o.d⟩
    case measure=>have:=M.o.d.1;simp[intOf];omega
  ·obtain rfl:V=N:=by omega
   have b:ps.take V=ps:=fm (by have:=a.o.q;omega);rw[b]at Wp;have HS:=al (yM wr T U o o most most _ _ _ (p.o.t.1.below z) Wp (fun D q j=>da j.2 z.size));have O:=p.o.1.x (z.m p.o.1.size);have r:=al O;clear Wp z ZM Z aa am O b;go_wp2_with fail;refine HS.o.m ?_;rintro E h ⟨rfl,b⟩;have r:=al (r.o.x (b.m r.o.size));clear b;go_wp2_with fail;refine(sU _ (d.o.1.below r.o) (d.o.2.1.below r.o) (d.o.d.1.below r.o) (d.o.t.below r.o)).m ?_;rintro E g ⟨rfl,b⟩;have r:=al (r.o.x (b.m r.o.size));clear b;go_wp2_with fail;go_ret
   exact⟨rfl,r.o⟩
end Go.Proofs.YtehccbdajiiaaaaGreatDoor
