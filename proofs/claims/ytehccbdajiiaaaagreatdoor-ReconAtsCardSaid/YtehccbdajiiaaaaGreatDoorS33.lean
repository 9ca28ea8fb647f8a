import Derived.Test.YtehccbdajiiaaaaGreatDoorS20
import Derived.Test.YtehccbdajiiaaaaGreatDoorS30
import Derived.Test.YtehccbdajiiaaaaGreatDoorS31
import Derived.Test.YtehccbdajiiaaaaGreatDoorS32
namespace Go.Proofs.YtehccbdajiiaaaaGreatDoor
open Go.Proofs.Tryz
set_option maxRecDepth 100000
set_option maxHeartbeats 16000000
open Go.RowKit
section
open Go.Shelf Go.RowKit Go.Lib Go.Sort Go.Maps Go.WideShapes
abbrev QM:=List UInt8×Option Addr
def QN(x:QM):List Value:=[r7 x.1,.pointer x.2]
abbrev Jm (x y:QM):Int:=Am x.1 y.1
theorem ltW(x y:QM):ltOf Jm x y=decide (x.1<y.1):=by
 unfold ltOf Jm Am;by_cases a:x.1<y.1
 ·simp[a]
 ·by_cases b:y.1<x.1<;>simp[a,b]
theorem adj:SWO (ltOf Jm) where
 irrefl x:=by rw[ltW];simp[aN]
 trans x y z h1 h2:=by rw[ltW]at *;simp at *;exact List.lt_trans h1 h2
 ntrans x y z h1 h2:=by
  rw[ltW]at *;simp only[decide_eq_false_iff_not]at *
  exact fun h=>by
   rcases p7 y.1 x.1 with a|a|a
   ·exact h2 (by first|exact List.lt_trans a h|exact h)
   ·exact h2 (a▸h)
   ·exact h1 a
theorem Jn(x y:QM)(w:World):Calls prog 120 #[.agg #[r7 x.1,.pointer x.2],.agg #[r7 y.1,.pointer y.2]] w fun f c=>f=.returned (rm (Jm x y))/\Gr w c:=by
 obtain⟨k,e⟩:=x;obtain⟨j,g⟩:=y;have b:=al (fun W=>BW k j W);obtain⟨R,a⟩:=rk (Jm (k,e) (j,g));rw[show Am k j=R from a]at b;rw[a];have d:=al (((Gr.refl w).alloc (tn k.toArray (.pointer e))).alloc (tn j.toArray (.pointer g)));clear a;go_enter func120,ntmps120;go_wp2_with fail;refine(b.o _).m ?_;rintro f c ⟨rfl,rfl⟩;go_wp2_with fail;go_ret
 exact⟨rfl,d.o⟩
theorem YG(a b size:Nat)(w:World):CmpLays prog 120 #[] QN 2 Jm a b size w:=
 fun _ _ _ _ x y=>Jn x y _
theorem QO(w:World)(v:Value)(r:Option Rw)(j:lG w v r):Calls prog 118 #[v] w fun e a=> ∃b,e=.returned (.pointer b)/\lG a (.pointer b) r/\(∀d,b=some ⟨d,0,none⟩->w.heap.size<=d)/\Below w.heap.size w a:=by
 cases r with
 |none=>
  obtain rfl:v=.pointer none:=j;go_enter func118,ntmps118;go_wp2_with fail;go_ret
  exact⟨none,rfl,rfl,fun d e=>(by cases e),bd _ _⟩
 |some r=>
  obtain⟨d,rfl,b⟩:=j;obtain⟨i,g,h,f⟩:=r;obtain⟨⟨m,l,k,n⟩,-⟩:=cP b;obtain⟨a,c⟩:=rj w (r8 i g h f);have H:=AD a c;clear b a c;go_enter func118,ntmps118;go_wp2_with fail;go_ret
  exact⟨_,rfl,⟨_,rfl,H.o.2⟩,fun d e=>by injection e with e;injection e with e;omega,H.o.1⟩
theorem At2.only{α:Type}{enc:α->List Value}{w w':World}{S:Nat->Prop}{v:Value}{s:List α}(j:At2 enc w v s)(c:Only S w w')(d: ∀b,v.ownBlock=some b-> ¬S b):At2 enc w' v s:=by obtain⟨A,k,rfl,e,a,g⟩:=j;refine⟨A,k,rfl,e,a,fun i x b=>?_⟩;obtain⟨h,rfl,f⟩:=g i x b;exact⟨h,rfl,fun i u b=>c.cell (f i u b) (d h rfl)⟩
def WrO(N:Nat)(wl:ot)(w:World)(x:QM):Prop:= ∃r,aA x.1 wl=some r/\lG w (.pointer x.2) r/\ ∀b,x.2=some ⟨b,0,none⟩->N<=b
def adk(wl:ot)(w:World)(e:Ending)(w':World):Prop:=
 ∃(v:Value) (s:List QM),e=.returned v/\At2 QN w' v s/\s.map Prod.fst=wl.map Prod.fst/\(∀x∈s,WrO w.heap.size wl w' x)/\Below w.heap.size w w'/\ ∀b,v.ownBlock=some b->w.heap.size<=b
def Au(w:World)(N L:Nat)(wl:ot)(b:List (List UInt8))(U:Nat->Prop)(W:World):Prop:=
 ∃(v:Value) (a:List QM),W.heap[L]?=some (.cells #[v] 155 (0,0))/\W.ownsRow N 159 2 v a.length (a.map QN).flatten/\a.map Prod.fst=b/\(∀x∈a,WrO N wl W x)/\(∀k,U k↔k=L\/v.ownBlock=some k\/ ∃x∈a,x.2=some ⟨k,0,none⟩)/\Below w.heap.size w W/\L<N/\N<=W.heap.size
theorem lG.lt{w:World}{k:Nat}{r:Option Rw}(h:lG w (rv k) r):k<w.heap.size:=by
 cases r with
 |none=>cases h
 |some r=>obtain⟨b,e,a⟩:=h;injection e with e;injection e with e;injection e with e;subst e;exact oT a
theorem Au.jl{w:World}{N L:Nat}{wl:ot}(t:w.heap.size<=N):ed N (Au w N L wl):=by
 refine⟨?_,?_⟩
 ·rintro m U A ⟨v,i,e,f,-,g,a,-⟩ k l;rcases(a k).1 l with rfl|h|⟨x,d,h⟩
  ·exact oT e
  ·exact(f.lt k h).2
  ·obtain⟨r,-,b,-⟩:=g x d;rw[h]at b;exact b.lt
 ·rintro m U A B S ⟨v,i,e,f,o,g,a,j,q,n⟩ b c;refine⟨v,i,b.heap e (fun h=>(c _ h).2 ((a L).2 (.inl rfl))),aJ f b (fun s p h=>(c s h).2 ((a s).2 (.inr (.inl p)))),o,fun x d=>?_,a,j.x (b.aH j.size (fun k l h=>by have:=(c k h).1;omega)),q,dd n b.size⟩;obtain⟨r,p,u,l⟩:=g x d;exact⟨r,p,u.only b (fun k s h=>(c k h).2 ((a k).2 (.inr (.inr ⟨x,d,by injection s⟩)))),l⟩
theorem bI.YH{w:World}{X:Nat}{a b:Value}{t:TypeId}(h:w.heap[X]?=some (.cells #[a,b] t (0,0))):bI 2 w (fun _=>True) (.slice (some ⟨X,0,none⟩) 1 1) [[a,b]]:=by
 refine⟨_,_,_,rfl,rfl,b8 _,by unfold maxLen;omega,fun _=>⟨X,0,rfl,trivial,fun j x d i u c=>?_⟩⟩
 match j,d with
 |0,d=>
  simp at d;subst d
  match i,c with
  |0,c|1,c=>simp at c;subst c;simp[World.cell?,h]
  |i+2,c=>simp at c
 |j+1,d=>simp at d
theorem Au.next{w W i c:World}{N L:Nat}{wl:ot}{D:List (List UInt8)}{U:Nat->Prop}{k:List UInt8}{r:Option Rw}{j:Option Addr}{v v':Value}{xs:List QM}
  (S:W.heap[L]?=some (.cells #[v] 155 (0,0))) (I:W.ownsRow N 159 2 v xs.length (xs.map QN).flatten) (X:xs.map Prod.fst=D) (J: ∀x∈xs,WrO N wl W x) (f: ∀k,U k↔k=L\/v.ownBlock=some k\/ ∃x∈xs,x.2=some ⟨k,0,none⟩)
  (G:Below w.heap.size w W) (h7:L<N) (p:N<=W.heap.size) (hL:w.heap.size<=L) (o:Below W.heap.size W i) (Z:lG i (.pointer j) r) (m: ∀b,j=some ⟨b,0,none⟩->W.heap.size<=b) (Q:aA k wl=some r)
  (H:c.ownsRow N 159 2 v' (xs.length+1) ((xs.map QN).flatten++QN (k,j))) (u:Only (fun b=>v.ownBlock=some b) i c) (h:v'.ownBlock=v.ownBlock\/v'.ownBlock=some i.heap.size):
  ∃E,Au w N L wl (D++[k]) E (c.setCell ⟨L,0,none⟩ v')/\Only U W (c.setCell ⟨L,0,none⟩ v')/\Grow W U E:=by
 have t:=Only.aR c L 0 v';have n:=qS o;have C: ∀b,v.ownBlock=some b->N<=b:=fun b e=>(I.lt b e).1
 have A: ∀(z:Option Addr) (y:Option Rw),lG i (.pointer z) y->(∀b,z=some ⟨b,0,none⟩->N<=b)->lG (c.setCell ⟨L,0,none⟩ v') (.pointer z) y:=fun z y s O=>by
  refine(s.only u (fun b e F=>?_)).only t (fun b e F=>by injection e with e;have:=O b e;omega)
  cases y with
  |none=>cases s.symm.x e
  |some y=>
   obtain⟨Y,d,B⟩:=s;have P:b=Y:=by rw[e]at d;injection d with d;injection d with d;injection d with d
   subst P;exact cD (aJ I n (fun _ _ K=>K)) B (by decide) F
 have q:Only U W (c.setCell ⟨L,0,none⟩ v'):=((oB o U).x u (fun b _ e=>(f b).2 (.inr (.inl e)))).x t (fun b _ e=>(f b).2 (.inl e));refine⟨_,⟨v',xs++[(k,j)],?_,?_,by rw[gR,X];rfl,fun x a=>?_,fun _=>Iff.rfl,?_,h7,dd p q.size⟩,q,?_⟩
 ·have:=dp c L 0 _ _ v' (u.heap (n.heap S (fun K=>K)) (fun e=>by have:=C L e;omega));simpa using this
 ·rw[gr,gR,la];simp only[kt,kb,List.flatten_cons,List.flatten_nil,fs,gn,lp];exact aJ H t (fun g M e=>by have:=(H.lt g M).1;omega)
 ·rcases dr.1 a with a|a
  ·obtain⟨y,R,V,l⟩:=J x a;exact⟨y,R,A _ _ (V.only n (fun _ _ K=>K)) l,l⟩
  ·obtain rfl:=gk.1 a;exact⟨r,Q,A _ _ Z (fun b e=>dd p (m b e)),fun b e=>dd p (m b e)⟩
 ·exact G.x (q.aH G.size (fun b B T=>by
   rcases(f b).1 T with e|e|⟨x,a,e⟩
   ·omega
   ·have:=C b e;omega
   ·obtain⟨y,-,-,l⟩:=J x a;have:=l b e;omega))
 ·rintro b (e|e|⟨x,a,e⟩)
  ·exact .inl ((f b).2 (.inl e))
  ·rcases h with h|h
   ·exact .inl ((f b).2 (.inr (.inl (h▸e))))
   ·rw[h]at e;injection e with e;have:=o.size;exact .inr (by omega)
  ·rcases dr.1 a with a|a
   ·exact .inl ((f b).2 (.inr (.inr ⟨x,a,e⟩)))
   ·obtain rfl:=gk.1 a;exact .inr (m b e)
theorem lQ{w:World}{a:Nat}{v0 v1:Value}{t:TypeId}(h:w.heap[a]?=some (.cells #[v0,v1] t (0,0))):w.cell? ⟨a,0,none⟩=some v0/\w.cell? ⟨a,1,none⟩=some v1:=by constructor<;>simp[World.cell?,h]
theorem Tryz.YI:(prog.info? 159).map (fun i=>(i.zero,i.size,i.bytes))=some (some (.agg #[.string ⟨#[]⟩,.pointer none]),2,24):=by kernel_rfl
theorem Nf(w:World)(B T o m n:Nat)(most:Int)(l:az)(wl:ot)(FT:Nat->Nat->Prop)(g:Value->Option Value)(FR:Nat->Prop)(hW:ni w B T most o l wl FT m n g FR)(D2:wl.length<=2199023255553):
  Calls prog 68 #[rv B] w (adk wl w):=by
 have HW:=al hW;obtain⟨R,Z⟩:=rj w (.cells #[.slice none 0 0] 155);have h:=hW.only (qS R) (fun i=>i) (fun i=>i) (fun _ _ i=>i) (fun _ _ _ i=>i);have z1:=(lQ h.blk).2;refine fX func68 rfl ?_;simp only[ntmps68,lz,gn,lp,Nat.reduceAdd,Nat.reduceSub,Array.replicate_succ,Array.replicate_zero,List.push_toArray,List.append_toArray,fj,lE];go_upto_region 4 with fail;generalize w.alloc (.cells #[.slice none 0 0] 155)=w1 at R Z h z1⊢;obtain⟨L,hL⟩:=rk (w.heap.size);rw[hL]at Z⊢;obtain⟨S,k2⟩:=rj w1 (.cells #[.map (some m)] 138);have H1:=AS R Z h hL S k2 D2;clear R Z h hL S k2 hW D2;go_wp2_with fail;refine(Jh w1 m).m ?_;rintro E w2 ⟨rfl,bk⟩;obtain⟨R,Z,h,hL,S,k2,D2⟩:=H1.o;rw[<-bk]at S k2;obtain⟨C,hC⟩:=rk (w1.heap.size);rw[hC]at k2⊢;have f:=h.only (qS S) (fun i=>i) (fun i=>i) (fun _ _ i=>i) (fun _ _ _ i=>i);have kL:=qt S Z;have a7:=FX w2 m n C g (wl.map Prod.fst) k2 f.map (fun P _=>f.Qy P) (gW f.up) (fun P I=>by have:=(f.Uw P I).2;unfold maxLen;omega);have ia:=R.x (S.m R.size)
 have K4:Au w w2.heap.size L wl [] (fun P=>P=L\/(Value.slice none 0 0).ownBlock=some P\/ ∃x∈([]:List QM),x.2=some ⟨P,0,none⟩) w2:=
  ⟨.slice none 0 0,[],kL,dy _ _ _ _,rfl,fun x hx=>by simp at hx,fun P=>Iff.rfl,ia,oT kL,b8 _⟩
 have ba:(m≠L/\C≠L)/\w.heap.size<=L:=by have:=oT Z;refine⟨⟨fun E=>?_,by omega⟩,by omega⟩;obtain⟨D,⟨es,br,F,-⟩,-⟩:=f.map;rw[E,kL]at F;cases F
 obtain⟨i0,bi,bc,bh,bb⟩:=eh Tryz.YI;have j:=BY a7 K4 f ia ba (oT k2) D2 bi bc bh bb;clear a7 K4 f ia ba k2 kL R Z h hL S hC bk D2 bi bc bh bb H1 z1;go_wp2_with fail
 refine lO (α:=List UInt8) (fun t v0 v1=>(t.setIfInBounds 4 v0).setIfInBounds 5 v1) rfl (enters_of func168 (by kernel_rfl) rfl) j.o.1 ?Ai (fun _ _ _ _ _ _ _ _ i _ _=>i)
  (Au w w2.heap.size L wl) (fun _ _ _ _=>False) (Au.jl j.o.t.1.size) (fun _=>ed.none _) _ j.o.2.1 ?wC ?cF ?hbody ?hdone (fun _ _ _ _ _ _ _ _ i=>i.elim)
 case Ai=>
  rintro P (rfl|rfl)
  ·exact j.o.q.2.1
  ·exact j.o.d.1.map.lt
 case wC=>
  rintro P (rfl|rfl) (i|i|⟨x,hx,i⟩)
  ·exact j.o.q.1.1.2 i
  ·cases i
  ·simp at hx
  ·exact j.o.q.1.1.1 i
  ·cases i
  ·simp at hx
 case cF=>
  intro l' v0 v1 W' K b;simp only[List.setIfInBounds_toArray,List.set_cons_zero,List.set_cons_succ]at b⊢
  gi_wp2
  exact b
 case hbody=>
  rintro l' bn P v0 v1 U W ⟨v,xs,h,f,F,Q,M,G,h7,h8⟩ ⟨rfl,DR,a8⟩;have ad:=HW.o.wr P;rw[DR]at ad
  cases hq:aA P wl with
  |none=>rw[hq]at ad;exact ad.elim
  |some r=>
   rw[hq]at ad;obtain⟨A,c,rfl⟩:=ai f;have bo:xs.length=bn.length:=by rw[<-F,fa]
   obtain⟨Y,p⟩:=rk (xs.length);have Mi:Y<wl.length:=by rw[fa]at a8;omega
   have d:=BY h f F Q M G h7 h8 hq p Mi;have e:=al (show Below W.heap.size W W.drew from(bd _ _).drew);have Yn:=al (show lG W.drew v1 r from(ad.1.only (qS G) (fun _ _ i=>i)).only ((oE (fun _=>False) W).drew) (fun _ _ i=>i));have HL:=AD (aL h) (oT h);rw[p]at HL;simp only[List.setIfInBounds_toArray,List.set_cons_zero,List.set_cons_succ];clear h f F Q M G h7 h8 hq ad DR a8 bo p Mi
   gi_wp2
   refine vw (S:=(fun w9=>Only U W w9)) (by kernel_rfl) ((oE _ _).drew) (fun a=>?_);refine bj [1,2] ?_
   iterate 2 (refine dZ (v:=?_) (fun wS bf=>?_) a ?_;rotate_left;(go_simp;try rfl);try simp only[xr])
   refine bq ?_;refine qe (rs:=[0,3]) (by kernel_rfl) (by simp) (cX (i:=0) rfl (fun K b=>?_) (cX (i:=3) rfl (fun K b=>?_) ph))
   focus
    have O:=(e.o.cell (p:=⟨L,0,none⟩) HL.o.2).x HL.o.1;go_simp;refine b.o _ _ (a) ?_;clear b K a O;intro a
    try simp only[xr]
    refine bA 3 (fun K b=>?_);go_simp;refine(QO _ v1 r Yn.o).m ?_;rintro E N ⟨J,rfl,am,ap,dB⟩;have k:=AD am (fun H E=>by have:=ap H E;have:=e.o.size;omega: ∀H,J=some ⟨H,0,none⟩->W.heap.size<=H);have e:=al (e.o.x (dB.m e.o.size));clear am ap
    try go_simp
    refine b.o _ _ (a.x (oB dB _) (fun _ _ i=>i)) ?_;clear b K a dB;intro a
    try simp only[xr]
    refine lA 4 (v:=?_) (fun wS bf=>?_) a ?_;rotate_left
    ·go_simp;try rfl
    try simp only[xr]
    refine bA 5 (fun K b=>?_);go_simp;refine b.o _ _ (a.x (oB (ae _ _) _) (fun _ _ i=>i)) ?_;clear b K a;intro a
    try simp only[xr]
    obtain⟨z,u⟩:=rj N (tn P.toArray (.pointer J));have k:=AD (k.o.1.only (qS z) (fun _ _ i=>i)) k.o.2;have e:=al (e.o.x (z.m e.o.size));obtain⟨X,hX⟩:=rk (N.heap.size);rw[hX]at u⊢;generalize N.alloc (tn P.toArray (.pointer J))=wq at u z a e k⊢;have HN:=al (bI.YH u);clear u z hX
   rotate_left
   focus
    go_simp;refine(QO _ v1 r Yn.o).m ?_;rintro E N ⟨J,rfl,am,ap,dB⟩;have k:=AD am (fun H E=>by have:=ap H E;have:=e.o.size;omega: ∀H,J=some ⟨H,0,none⟩->W.heap.size<=H);have e:=al (e.o.x (dB.m e.o.size));clear am ap
    try go_simp
    refine b.o _ _ (a.x (oB dB _) (fun _ _ i=>i)) ?_;clear b K a dB;intro a
    try simp only[xr]
    refine lA 4 (v:=?_) (fun wS bf=>?_) a ?_;rotate_left
    ·go_simp;try rfl
    try simp only[xr]
    refine qe (rs:=[0,5]) (by kernel_rfl) (by simp) (cX (i:=0) rfl (fun K b=>?_) (cX (i:=5) rfl (fun K b=>?_) ph))
    focus
     have O:=(e.o.cell (p:=⟨L,0,none⟩) HL.o.2).x HL.o.1;go_simp;refine b.o _ _ (a) ?_;clear b K a O;intro a
     try simp only[xr]
     refine bA 5 (fun K b=>?_);go_simp;refine b.o _ _ (a.x (oB (ae _ _) _) (fun _ _ i=>i)) ?_;clear b K a;intro a
     try simp only[xr]
     obtain⟨z,u⟩:=rj N (tn P.toArray (.pointer J));have k:=AD (k.o.1.only (qS z) (fun _ _ i=>i)) k.o.2;have e:=al (e.o.x (z.m e.o.size));obtain⟨X,hX⟩:=rk (N.heap.size);rw[hX]at u⊢;generalize N.alloc (tn P.toArray (.pointer J))=wq at u z a e k⊢;have HN:=al (bI.YH u);clear u z hX
    rotate_left
    focus
     go_simp;refine b.o _ _ (a.x (oB (ae _ _) _) (fun _ _ i=>i)) ?_;clear b K a;intro a
     try simp only[xr]
     obtain⟨z,u⟩:=rj N (tn P.toArray (.pointer J));have k:=AD (k.o.1.only (qS z) (fun _ _ i=>i)) k.o.2;have e:=al (e.o.x (z.m e.o.size));obtain⟨X,hX⟩:=rk (N.heap.size);rw[hX]at u⊢;generalize N.alloc (tn P.toArray (.pointer J))=wq at u z a e k⊢;have HN:=al (bI.YH u);clear u z hX;refine bA 0 (fun K b=>?_);have O:=(e.o.cell (p:=⟨L,0,none⟩) HL.o.2).x HL.o.1;go_simp;refine b.o _ _ (a) ?_;clear b K a O;intro a
     try simp only[xr]
   all_goals
    refine bA 6 (fun K b=>?_);have HO:=al (aJ d.o.2.1 (qS e.o) (fun _ _ i=>i));rw[d.o.q.q.2.1]at HO
    (refine gU (by rfl) _ _ 155 (by rfl) w2.heap.size 159 i0 _ 2 24 underlying155 j.o.q.t.1 j.o.q.q.1 j.o.q.q.2.1 j.o.q.q.d (by rfl) (by decide) (.slice A Y c) Y _ (by rfl) HO.o (fun _=>True) (.slice (some ⟨X,0,none⟩) 1 1) [[r7 P,.pointer J]] (by rfl) HN.o (by simp) (by simp[Value.oneCell']) (by have:=d.o.q.q.d;have:=j.o.q.d.1;simp;omega) (by have:=d.o.q.q.d;have:=j.o.q.d.1;unfold maxLen;simp;omega) (by have:=d.o.q.t.1;have:=e.o.size;omega) ?_)
    intro v9 wz a' a6 aa;rw[show Y+[[Value.string ⟨P.toArray⟩,.pointer J]].length=Y+1 from rfl]at a';obtain⟨A9,c9,rfl⟩:=ai a';have QP:=Only.of_grownBy a6;have K7:=al (QP.heap (qt e.o d.o.1) (fun E=>by have:=(d.o.2.1.lt L (by rw[d.o.q.q.2.1];exact E)).1;have:=d.o.q.d.1;omega));rw[d.o.q.q.2.1]at K7;have KA:=AF a' aa QP;clear a' a6 aa QP;refine b.o _ _ (a.x KA.o.d (fun H _ E=>(d.o.q.1 H).2 (.inr (.inl (by rw[d.o.q.q.2.1];exact E))))) ?_;clear b K a;intro a
    try simp only[xr]
    refine bA 7 (fun K b=>?_);have O:=aL K7.o;have zf:=bL K7.o;go_simp;refine b.o _ _ (a.x (Only.aR _ L 0 _) (fun H _ E=>(d.o.q.1 H).2 (.inl E))) ?_;clear b K a;intro a
    try simp only[xr]
    refine pw (by kernel_rfl) ?_ _;clear a O zf;refine Au.next d.o.1 d.o.2.1 d.o.d.1 d.o.t.1 d.o.q.1 d.o.q.2.1 d.o.q.d.1 d.o.q.t.1 j.o.q.1.2 e.o k.o.1 k.o.2 d.o.q.q.1 ?_ (by rw[d.o.q.q.2.1];exact KA.o.d) (by rw[d.o.q.q.2.1];exact KA.o.2.1);rw[d.o.q.q.2.1];simpa[QN]using KA.o.1
 case hdone=>
  rintro D ks U W hD rz hS ⟨v,xs,h,f,F,Q,M,G,h7,h8⟩ ho hg I;obtain⟨A,c,rfl⟩:=ai f;have V:(xs.map Prod.fst).Perm (wl.map Prod.fst):=by rw[F];exact hS
  have Ma:xs.length=wl.length:=by have:=V.length_eq;simpa using this
  have a0:=FZ Tryz.WY (by intro w;kernel_rfl) (by intro w;kernel_rfl) (enc:=QN) (fun _=>rfl) (fun x v hv=>by simp[QN]at hv;rcases hv with rfl|rfl<;>rfl) Jm adj 120 (enters_of func120 (by kernel_rfl) rfl) YG W 159 _ _ xs f (by have:=j.o.q.d.1;omega);change Calls prog 119 _ _ _ at a0;obtain⟨Y,p⟩:=rk (xs.length);have d:=BT h f V Q I G h7 h8 hD p;have O:=aL h;rw[p]at O a0;have HS:=al a0;clear a0 h f F Q M G h7 h8 ho hg I V Ma p rz hS hD;go_wp2_with fail;refine HS.o.m ?_;rintro E w5 ⟨rfl,s,hp,hs,aa,eO⟩;obtain⟨h,f,V,Q,I,G,h7,h8,hD,p⟩:=d.o;have ac: ∀H,(Value.slice A Y c).ownBlock=some H->w2.heap.size<=H:=fun H E=>(f.lt H (by rw[p];exact E)).1
  have a2:=eO.heap I (fun E=>by
   obtain⟨cs,fr,hb⟩:=Cy f (by rw[p];exact E);rw[I]at hb
   cases hb)
  have z5:=(eO.cell (p:=⟨L,0,none⟩) (aL h) (fun E=>by have:=ac L E;omega));rw[p]at z5;have HE:=AN hp hs aa eO ac a2;clear hp hs aa eO ac a2 h f V Q I G h7 h8 hD p O HS;go_wp2_with fail;obtain⟨h,f,V,Q,I,G,h7,h8,hD,p⟩:=d.o;obtain⟨hp,hs,aa,eO,ac,a2⟩:=HE.o;have a4:=Only.putObj w5 D (.deferred none);have hW:w.heap.size<=w2.heap.size:=by have:=j.o.q.1.2;omega
  have bp:(s.map Prod.fst).Nodup:=((hp.map Prod.fst).nodup_iff).2 (V.nodup_iff.2 (gW j.o.d.1.up));refine jk (v:=.slice A Y c) a2 (by simp[results,Tryz.results68,go_sem]) ⟨_,s,rfl,aa.only a4 (fun H E he=>?_),?_,fun x hx=>?_,?_,fun H E=>dd hW (ac H E)⟩
  ·subst he;obtain⟨cs,fr,hb⟩:=Cy f (by rw[p];exact E);rw[I]at hb;cases hb
  ·have bm:dR ((s.map Prod.fst).map fun P=>(P,())):=by
    unfold dR;rw[List.map_map,List.pairwise_map];refine(hs.and (List.pairwise_map.1 bp)).imp (fun{x y} i=>?_);have F:=i.1;rw[ltW]at F;simp only[decide_eq_false_iff_not]at F;rcases p7 x.1 y.1 with M|M|M
    ·exact M
    ·exact absurd M i.2
    ·exact absurd M F
   have bl:dR ((wl.map Prod.fst).map fun P=>(P,())):=by unfold dR;rw[List.map_map,List.pairwise_map];exact j.o.d.1.up
   have h9:=mO bm bl (((hp.map Prod.fst).x V).map _);have a9:=eE (List.map Prod.fst) h9;rw[List.map_map,List.map_map,List.map_map,List.map_map]at a9;exact a9
  ·obtain⟨r,e1,e2,e3⟩:=Q x (hp.mem_iff.1 hx);refine⟨r,e1,(e2.only eO (fun H E he=>?_)).only a4 (fun H E he=>?_),fun H E=>dd hW (e3 H E)⟩
   ·cases r with
    |none=>cases e2.symm.x E
    |some y=>
     obtain⟨b',q,a3⟩:=e2;have a5:H=b':=by rw[E]at q;injection q with q;injection q with q;injection q with q
     subst a5;exact cD f a3 (by decide) (by rw[p];exact he)
   ·cases r with
    |none=>cases e2.symm.x E
    |some y=>
     obtain⟨b',q,a3⟩:=e2;have a5:H=b':=by rw[E]at q;injection q with q;injection q with q;injection q with q
     subst a5;rw[he,I]at a3;cases a3
  ·exact(G.x (eO.aH G.size (fun H hb E=>by have:=ac H E;omega))).x (a4.aH (dd G.size eO.size) (fun H hb E=>by omega))
end
end Go.Proofs.YtehccbdajiiaaaaGreatDoor
