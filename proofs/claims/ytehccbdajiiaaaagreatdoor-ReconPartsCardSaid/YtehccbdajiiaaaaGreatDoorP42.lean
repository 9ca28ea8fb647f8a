import Derived.Test.YtehccbdajiiaaaaGreatDoorP25
import Derived.Test.YtehccbdajiiaaaaGreatDoorP29
import Derived.Test.YtehccbdajiiaaaaGreatDoorP41
namespace Go.Proofs.YtehccbdajiiaaaaGreatDoor
open Go.Proofs.Tryz
set_option maxRecDepth 100000
set_option maxHeartbeats 16000000
open Go.RowKit
section
open Go.Shelf Go.RowKit Go.Lib Go.Sort Go.Maps Go.WideShapes
abbrev Qs:=List UInt8×Option Addr
def Qt(x:Qs):List Value:=[sd x.1,.pointer x.2]
abbrev IP (x y:Qs):Int:=zy x.1 y.1
theorem ltW(x y:Qs):ltOf IP x y=decide (x.1<y.1):=by
 unfold ltOf IP zy;by_cases a:x.1<y.1
 ·simp[a]
 ·by_cases b:y.1<x.1<;>simp[a,b]
theorem adg:SWO (ltOf IP) where
 irrefl x:=by rw[ltW];simp[aM]
 trans x y z h1 h2:=by rw[ltW]at *;simp at *;exact List.lt_trans h1 h2
 ntrans x y z h1 h2:=by
  rw[ltW]at *;simp only[decide_eq_false_iff_not]at *
  exact fun h=>by
   rcases pR y.1 x.1 with a|a|a
   ·exact h2 (by first|exact List.lt_trans a h|exact h)
   ·exact h2 (a▸h)
   ·exact h1 a
theorem IQ(x y:Qs)(w:World):Calls prog 120 #[.agg #[sd x.1,.pointer x.2],.agg #[sd y.1,.pointer y.2]] w fun f b=>f=.returned (rv (IP x y))/\Gr w b:=by
 obtain⟨k,e⟩:=x;obtain⟨j,g⟩:=y;have c:=al (fun W=>Bq k j W);obtain⟨R,a⟩:=rl (IP (k,e) (j,g));rw[show zy k j=R from a]at c;rw[a];have d:=al (((Gr.refl w).alloc (tx k.toArray (.pointer e))).alloc (tx j.toArray (.pointer g)));clear a;go_enter func120,ntmps120;go_wp2_with fail;refine(c.o _).m ?_;rintro f b ⟨rfl,rfl⟩;go_wp2_with fail;go_ret
 exact⟨rfl,d.o⟩
theorem Yj(b a size:Nat)(w:World):CmpLays prog 120 #[] Qt 2 IP b a size w:=
 fun _ _ _ _ x y=>IQ x y _
theorem Qu(w:World)(v:Value)(r:Option Rw)(j:lq w v r):Calls prog 118 #[v] w fun e a=> ∃b,e=.returned (.pointer b)/\lq a (.pointer b) r/\(∀d,b=some ⟨d,0,none⟩->w.heap.size<=d)/\Below w.heap.size w a:=by
 cases r with
 |none=>
  obtain rfl:v=.pointer none:=j;go_enter func118,ntmps118;go_wp2_with fail;go_ret
  exact⟨none,rfl,rfl,fun d e=>(by cases e),aw _ _⟩
 |some r=>
  obtain⟨d,rfl,c⟩:=j;obtain⟨g,f,h,i⟩:=r;obtain⟨⟨n,l,k,m⟩,-⟩:=cX c;obtain⟨b,a⟩:=rk w (sg g f h i);have H:=AI b a;clear c b a;go_enter func118,ntmps118;go_wp2_with fail;go_ret
  exact⟨_,rfl,⟨_,rfl,H.o.2⟩,fun d e=>by injection e with e;injection e with e;omega,H.o.1⟩
theorem Zc.only{α:Type}{enc:α->List Value}{w w':World}{S:Nat->Prop}{v:Value}{s:List α}(k:Zc enc w v s)(f:Only S w w')(b: ∀a,v.ownBlock=some a-> ¬S a):Zc enc w' v s:=by obtain⟨A,l,rfl,a,d,g⟩:=k;refine⟨A,l,rfl,a,d,fun i x c=>?_⟩;obtain⟨h,rfl,e⟩:=g i x c;exact⟨h,rfl,fun j u c=>f.cell (e j u c) (b h rfl)⟩
def WrO(N:Nat)(wl:nS)(w:World)(x:Qs):Prop:= ∃r,ay x.1 wl=some r/\lq w (.pointer x.2) r/\ ∀b,x.2=some ⟨b,0,none⟩->N<=b
def adh(wl:nS)(w:World)(e:Ending)(w':World):Prop:=
 ∃(v:Value) (s:List Qs),e=.returned v/\Zc Qt w' v s/\s.map Prod.fst=wl.map Prod.fst/\(∀x∈s,WrO w.heap.size wl w' x)/\Below w.heap.size w w'/\ ∀b,v.ownBlock=some b->w.heap.size<=b
def zC(w:World)(N L:Nat)(wl:nS)(b:List (List UInt8))(U:Nat->Prop)(W:World):Prop:=
 ∃(v:Value) (a:List Qs),W.heap[L]?=some (.cells #[v] 155 (0,0))/\W.ownsRow N 159 2 v a.length (a.map Qt).flatten/\a.map Prod.fst=b/\(∀x∈a,WrO N wl W x)/\(∀k,U k↔k=L\/v.ownBlock=some k\/ ∃x∈a,x.2=some ⟨k,0,none⟩)/\Below w.heap.size w W/\L<N/\N<=W.heap.size
theorem lq.lt{w:World}{k:Nat}{r:Option Rw}(h:lq w (r7 k) r):k<w.heap.size:=by
 cases r with
 |none=>cases h
 |some r=>obtain⟨b,e,a⟩:=h;injection e with e;injection e with e;injection e with e;subst e;exact pb a
theorem zC.lC{w:World}{N L:Nat}{wl:nS}(t:w.heap.size<=N):gQ N (zC w N L wl):=by
 refine⟨?_,?_⟩
 ·rintro m U A ⟨v,j,e,f,-,g,a,-⟩ k i;rcases(a k).1 i with rfl|h|⟨x,c,h⟩
  ·exact pb e
  ·exact(f.lt k h).2
  ·obtain⟨s,-,b,-⟩:=g x c;rw[h]at b;exact b.lt
 ·rintro m U A B S ⟨v,j,e,f,n,g,a,l,p,o⟩ b d;refine⟨v,j,b.heap e (fun h=>(d _ h).2 ((a L).2 (.inl rfl))),aQ f b (fun r q h=>(d r h).2 ((a r).2 (.inr (.inl q)))),n,fun x c=>?_,a,l.x (b.aI l.size (fun k i h=>by have:=(d k h).1;omega)),p,dp o b.size⟩;obtain⟨s,q,i,u⟩:=g x c;exact⟨s,q,i.only b (fun k r h=>(d k h).2 ((a k).2 (.inr (.inr ⟨x,c,by injection r⟩)))),u⟩
theorem bJ.Yk{w:World}{X:Nat}{a b:Value}{t:TypeId}(h:w.heap[X]?=some (.cells #[a,b] t (0,0))):bJ 2 w (fun _=>True) (.slice (some ⟨X,0,none⟩) 1 1) [[a,b]]:=by
 refine⟨_,_,_,rfl,rfl,b8 _,by unfold maxLen;omega,fun _=>⟨X,0,rfl,trivial,fun j x d i u c=>?_⟩⟩
 match j,d with
 |0,d=>
  simp at d;subst d
  match i,c with
  |0,c|1,c=>simp at c;subst c;simp[World.cell?,h]
  |i+2,c=>simp at c
 |j+1,d=>simp at d
theorem zC.next{w W i c:World}{N L:Nat}{wl:nS}{C:List (List UInt8)}{U:Nat->Prop}{k:List UInt8}{r:Option Rw}{j:Option Addr}{v v':Value}{xs:List Qs}
  (Q:W.heap[L]?=some (.cells #[v] 155 (0,0))) (F:W.ownsRow N 159 2 v xs.length (xs.map Qt).flatten) (T:xs.map Prod.fst=C) (J: ∀x∈xs,WrO N wl W x) (f: ∀k,U k↔k=L\/v.ownBlock=some k\/ ∃x∈xs,x.2=some ⟨k,0,none⟩)
  (I:Below w.heap.size w W) (V:L<N) (o:N<=W.heap.size) (hL:w.heap.size<=L) (t:Below W.heap.size W i) (X:lq i (.pointer j) r) (s: ∀b,j=some ⟨b,0,none⟩->W.heap.size<=b) (R:ay k wl=some r)
  (H:c.ownsRow N 159 2 v' (xs.length+1) ((xs.map Qt).flatten++Qt (k,j))) (q:Only (fun b=>v.ownBlock=some b) i c) (h:v'.ownBlock=v.ownBlock\/v'.ownBlock=some i.heap.size):
  ∃G,zC w N L wl (C++[k]) G (c.setCell ⟨L,0,none⟩ v')/\Only U W (c.setCell ⟨L,0,none⟩ v')/\Grow W U G:=by
 have n:=Only.aR c L 0 v';have m:=ri t;have A: ∀b,v.ownBlock=some b->N<=b:=fun b e=>(F.lt b e).1
 have B: ∀(z:Option Addr) (y:Option Rw),lq i (.pointer z) y->(∀b,z=some ⟨b,0,none⟩->N<=b)->lq (c.setCell ⟨L,0,none⟩ v') (.pointer z) y:=fun z y u O=>by
  refine(u.only q (fun b e E=>?_)).only n (fun b e E=>by injection e with e;have:=O b e;omega)
  cases y with
  |none=>cases u.symm.x e
  |some y=>
   obtain⟨b',d,D⟩:=u;have M:b=b':=by rw[e]at d;injection d with d;injection d with d;injection d with d
   subst M;exact cw (aQ F m (fun _ _ K=>K)) D (by decide) E
 have p:Only U W (c.setCell ⟨L,0,none⟩ v'):=((oS t U).x q (fun b _ e=>(f b).2 (.inr (.inl e)))).x n (fun b _ e=>(f b).2 (.inl e));refine⟨_,⟨v',xs++[(k,j)],?_,?_,by rw[ix,T];rfl,fun x a=>?_,fun _=>Iff.rfl,?_,V,dp o p.size⟩,p,?_⟩
 ·have:=dd c L 0 _ _ v' (q.heap (m.heap Q (fun K=>K)) (fun e=>by have:=A L e;omega));simpa using this
 ·rw[gk,ix,lE];simp only[lx,kh,List.flatten_cons,List.flatten_nil,gr,jj,nF];exact aQ H n (fun g P e=>by have:=(H.lt g P).1;omega)
 ·rcases dr.1 a with a|a
  ·obtain⟨y,Y,Z,l⟩:=J x a;exact⟨y,Y,B _ _ (Z.only m (fun _ _ K=>K)) l,l⟩
  ·obtain rfl:=fl.1 a;exact⟨r,R,B _ _ X (fun b e=>dp o (s b e)),fun b e=>dp o (s b e)⟩
 ·exact I.x (p.aI I.size (fun b D S=>by
   rcases(f b).1 S with e|e|⟨x,a,e⟩
   ·omega
   ·have:=A b e;omega
   ·obtain⟨y,-,-,l⟩:=J x a;have:=l b e;omega))
 ·rintro b (e|e|⟨x,a,e⟩)
  ·exact .inl ((f b).2 (.inl e))
  ·rcases h with h|h
   ·exact .inl ((f b).2 (.inr (.inl (h▸e))))
   ·rw[h]at e;injection e with e;have:=t.size;exact .inr (by omega)
  ·rcases dr.1 a with a|a
   ·exact .inl ((f b).2 (.inr (.inr ⟨x,a,e⟩)))
   ·obtain rfl:=fl.1 a;exact .inr (s b e)
theorem lD{w:World}{a:Nat}{v0 v1:Value}{t:TypeId}(h:w.heap[a]?=some (.cells #[v0,v1] t (0,0))):w.cell? ⟨a,0,none⟩=some v0/\w.cell? ⟨a,1,none⟩=some v1:=by constructor<;>simp[World.cell?,h]
theorem Tryz.Yl:(prog.info? 159).map (fun i=>(i.zero,i.size,i.bytes))=some (some (.agg #[.string ⟨#[]⟩,.pointer none]),2,24):=by kernel_rfl
theorem Mw(w:World)(B T o m n:Nat)(most:Int)(l:az)(wl:nS)(FT:Nat->Nat->Prop)(g:Value->Option Value)(FR:Nat->Prop)(hW:mP w B T most o l wl FT m n g FR)(Dj:wl.length<=2199023255553):
  Calls prog 68 #[r7 B] w (adh wl w):=by
 have HW:=al hW;obtain⟨R,Y⟩:=rk w (.cells #[.slice none 0 0] 155);have h:=hW.only (ri R) (fun i=>i) (fun i=>i) (fun _ _ i=>i) (fun _ _ _ i=>i);have z1:=(lD h.blk).2;refine oz func68 rfl ?_;simp only[ntmps68,nw,jj,nF,Nat.reduceAdd,Nat.reduceSub,Array.replicate_succ,Array.replicate_zero,List.push_toArray,List.append_toArray,fm,nh];go_upto_region 4 with fail;generalize w.alloc (.cells #[.slice none 0 0] 155)=w1 at R Y h z1⊢;obtain⟨L,hL⟩:=rl (w.heap.size);rw[hL]at Y⊢;obtain⟨S,k2⟩:=rk w1 (.cells #[.map (some m)] 138);have H1:=BE R Y h hL S k2 Dj;clear R Y h hL S k2 hW Dj;go_wp2_with fail;refine(Ij w1 m).m ?_;rintro E w2 ⟨rfl,bk⟩;obtain⟨R,Y,h,hL,S,k2,Dj⟩:=H1.o;rw[<-bk]at S k2;obtain⟨C,hC⟩:=rl (w1.heap.size);rw[hC]at k2⊢;have f:=h.only (ri S) (fun i=>i) (fun i=>i) (fun _ _ i=>i) (fun _ _ _ i=>i);have kL:=qS S Y;have a7:=EW w2 m n C g (wl.map Prod.fst) k2 f.map (fun P _=>f.PC P) (gS f.up) (fun P J=>by have:=(f.Tk P J).2;unfold maxLen;omega);have fZ:=R.x (S.m R.size)
 have Vx:zC w w2.heap.size L wl [] (fun P=>P=L\/(Value.slice none 0 0).ownBlock=some P\/ ∃x∈([]:List Qs),x.2=some ⟨P,0,none⟩) w2:=
  ⟨.slice none 0 0,[],kL,ea _ _ _ _,rfl,fun x hx=>by simp at hx,fun P=>Iff.rfl,fZ,pb kL,b8 _⟩
 have bi:(m≠L/\C≠L)/\w.heap.size<=L:=by have:=pb Y;refine⟨⟨fun E=>?_,by omega⟩,by omega⟩;obtain⟨D,⟨es,bs,F,-⟩,-⟩:=f.map;rw[E,kL]at F;cases F
 obtain⟨i0,a9,ba,bf,bh⟩:=ef Tryz.Yl;have j:=Cd a7 Vx f fZ bi (pb k2) Dj a9 ba bf bh;clear a7 Vx f fZ bi k2 kL R Y h hL S hC bk Dj a9 ba bf bh H1 z1;go_wp2_with fail
 refine wu (α:=List UInt8) (fun t v0 v1=>(t.setIfInBounds 4 v0).setIfInBounds 5 v1) rfl (enters_of func168 (by kernel_rfl) rfl) j.o.1 ?MU (fun _ _ _ _ _ _ _ _ i _ _=>i)
  (zC w w2.heap.size L wl) (fun _ _ _ _=>False) (zC.lC j.o.t.1.size) (fun _=>gQ.none _) _ j.o.2.1 ?Jt ?fW ?hbody ?hdone (fun _ _ _ _ _ _ _ _ i=>i.elim)
 case MU=>
  rintro P (rfl|rfl)
  ·exact j.o.q.2.1
  ·exact j.o.d.1.map.lt
 case Jt=>
  rintro P (rfl|rfl) (i|i|⟨x,hx,i⟩)
  ·exact j.o.q.1.1.2 i
  ·cases i
  ·simp at hx
  ·exact j.o.q.1.1.1 i
  ·cases i
  ·simp at hx
 case fW=>
  intro l' v0 v1 W' K b;simp only[List.setIfInBounds_toArray,List.set_cons_zero,List.set_cons_succ]at b⊢
  gi_wp2
  exact b
 case hbody=>
  rintro l' bo P v0 v1 U W ⟨v,xs,h,f,F,Q,M,G,h7,h8⟩ ⟨rfl,C9,a8⟩;have ac:=HW.o.wr P;rw[C9]at ac
  cases hq:ay P wl with
  |none=>rw[hq]at ac;exact ac.elim
  |some r=>
   rw[hq]at ac;obtain⟨A,c,rfl⟩:=ar f;have bl:xs.length=bo.length:=by rw[<-F,eS]
   obtain⟨n1,p⟩:=rl (xs.length);have Lv:n1<wl.length:=by rw[eS]at a8;omega
   have d:=Cd h f F Q M G h7 h8 hq p Lv;have e:=al (show Below W.heap.size W W.drew from(aw _ _).drew);have X6:=al (show lq W.drew v1 r from(ac.1.only (ri G) (fun _ _ i=>i)).only ((oT (fun _=>False) W).drew) (fun _ _ i=>i));have HL:=AI (aB h) (pb h);rw[p]at HL;simp only[List.setIfInBounds_toArray,List.set_cons_zero,List.set_cons_succ];clear h f F Q M G h7 h8 hq ac C9 a8 bl p Lv
   gi_wp2
   refine uK (S:=(fun w9=>Only U W w9)) (by kernel_rfl) ((oT _ _).drew) (fun a=>?_);refine bq [1,2] ?_
   iterate 2 (refine ek (v:=?_) (fun wS bc=>?_) a ?_;rotate_left;(go_simp;try rfl);try simp only[xT])
   refine bt ?_;refine qn (rs:=[0,3]) (by kernel_rfl) (by simp) (dw (i:=0) rfl (fun K b=>?_) (dw (i:=3) rfl (fun K b=>?_) pt))
   focus
    have O:=(e.o.cell (p:=⟨L,0,none⟩) HL.o.2).x HL.o.1;go_simp;refine b.o _ _ (a) ?_;clear b K a O;intro a
    try simp only[xT]
    refine bC 3 (fun K b=>?_);go_simp;refine(Qu _ v1 r X6.o).m ?_;rintro E N ⟨I,rfl,ap,am,dm⟩;have q:=AI ap (fun H E=>by have:=am H E;have:=e.o.size;omega: ∀H,I=some ⟨H,0,none⟩->W.heap.size<=H);have e:=al (e.o.x (dm.m e.o.size));clear ap am
    try go_simp
    refine b.o _ _ (a.x (oS dm _) (fun _ _ i=>i)) ?_;clear b K a dm;intro a
    try simp only[xT]
    refine ml 4 (v:=?_) (fun wS bc=>?_) a ?_;rotate_left
    ·go_simp;try rfl
    try simp only[xT]
    refine bC 5 (fun K b=>?_);go_simp;refine b.o _ _ (a.x (oS (af _ _) _) (fun _ _ i=>i)) ?_;clear b K a;intro a
    try simp only[xT]
    obtain⟨u,z⟩:=rk N (tx P.toArray (.pointer I));have q:=AI (q.o.1.only (ri u) (fun _ _ i=>i)) q.o.2;have e:=al (e.o.x (u.m e.o.size));obtain⟨X,Z⟩:=rl (N.heap.size);rw[Z]at z⊢;generalize N.alloc (tx P.toArray (.pointer I))=wq at z u a e q⊢;have HN:=al (bJ.Yk z);clear z u Z
   rotate_left
   focus
    go_simp;refine(Qu _ v1 r X6.o).m ?_;rintro E N ⟨I,rfl,ap,am,dm⟩;have q:=AI ap (fun H E=>by have:=am H E;have:=e.o.size;omega: ∀H,I=some ⟨H,0,none⟩->W.heap.size<=H);have e:=al (e.o.x (dm.m e.o.size));clear ap am
    try go_simp
    refine b.o _ _ (a.x (oS dm _) (fun _ _ i=>i)) ?_;clear b K a dm;intro a
    try simp only[xT]
    refine ml 4 (v:=?_) (fun wS bc=>?_) a ?_;rotate_left
    ·go_simp;try rfl
    try simp only[xT]
    refine qn (rs:=[0,5]) (by kernel_rfl) (by simp) (dw (i:=0) rfl (fun K b=>?_) (dw (i:=5) rfl (fun K b=>?_) pt))
    focus
     have O:=(e.o.cell (p:=⟨L,0,none⟩) HL.o.2).x HL.o.1;go_simp;refine b.o _ _ (a) ?_;clear b K a O;intro a
     try simp only[xT]
     refine bC 5 (fun K b=>?_);go_simp;refine b.o _ _ (a.x (oS (af _ _) _) (fun _ _ i=>i)) ?_;clear b K a;intro a
     try simp only[xT]
     obtain⟨u,z⟩:=rk N (tx P.toArray (.pointer I));have q:=AI (q.o.1.only (ri u) (fun _ _ i=>i)) q.o.2;have e:=al (e.o.x (u.m e.o.size));obtain⟨X,Z⟩:=rl (N.heap.size);rw[Z]at z⊢;generalize N.alloc (tx P.toArray (.pointer I))=wq at z u a e q⊢;have HN:=al (bJ.Yk z);clear z u Z
    rotate_left
    focus
     go_simp;refine b.o _ _ (a.x (oS (af _ _) _) (fun _ _ i=>i)) ?_;clear b K a;intro a
     try simp only[xT]
     obtain⟨u,z⟩:=rk N (tx P.toArray (.pointer I));have q:=AI (q.o.1.only (ri u) (fun _ _ i=>i)) q.o.2;have e:=al (e.o.x (u.m e.o.size));obtain⟨X,Z⟩:=rl (N.heap.size);rw[Z]at z⊢;generalize N.alloc (tx P.toArray (.pointer I))=wq at z u a e q⊢;have HN:=al (bJ.Yk z);clear z u Z;refine bC 0 (fun K b=>?_);have O:=(e.o.cell (p:=⟨L,0,none⟩) HL.o.2).x HL.o.1;go_simp;refine b.o _ _ (a) ?_;clear b K a O;intro a
     try simp only[xT]
   all_goals
    refine bC 6 (fun K b=>?_);have HO:=al (aQ d.o.2.1 (ri e.o) (fun _ _ i=>i));rw[d.o.q.q.2.1]at HO
    (refine gN (by rfl) _ _ 155 (by rfl) w2.heap.size 159 i0 _ 2 24 underlying155 j.o.q.t.1 j.o.q.q.1 j.o.q.q.2.1 j.o.q.q.d (by rfl) (by decide) (.slice A n1 c) n1 _ (by rfl) HO.o (fun _=>True) (.slice (some ⟨X,0,none⟩) 1 1) [[sd P,.pointer I]] (by rfl) HN.o (by simp) (by simp[Value.oneCell']) (by have:=d.o.q.q.d;have:=j.o.q.d.1;simp;omega) (by have:=d.o.q.q.d;have:=j.o.q.d.1;unfold maxLen;simp;omega) (by have:=d.o.q.t.1;have:=e.o.size;omega) ?_)
    intro v9 wz a' a6 aa;rw[show n1+[[Value.string ⟨P.toArray⟩,.pointer I]].length=n1+1 from rfl]at a';obtain⟨A9,c9,rfl⟩:=ar a';have Qv:=Only.of_grownBy a6;have K7:=al (Qv.heap (qS e.o d.o.1) (fun E=>by have:=(d.o.2.1.lt L (by rw[d.o.q.q.2.1];exact E)).1;have:=d.o.q.d.1;omega));rw[d.o.q.q.2.1]at K7;have KA:=AM a' aa Qv;clear a' a6 aa Qv;refine b.o _ _ (a.x KA.o.d (fun H _ E=>(d.o.q.1 H).2 (.inr (.inl (by rw[d.o.q.q.2.1];exact E))))) ?_;clear b K a;intro a
    try simp only[xT]
    refine bC 7 (fun K b=>?_);have O:=aB K7.o;have zf:=bj K7.o;go_simp;refine b.o _ _ (a.x (Only.aR _ L 0 _) (fun H _ E=>(d.o.q.1 H).2 (.inl E))) ?_;clear b K a;intro a
    try simp only[xT]
    refine qe (by kernel_rfl) ?_ _;clear a O zf;refine zC.next d.o.1 d.o.2.1 d.o.d.1 d.o.t.1 d.o.q.1 d.o.q.2.1 d.o.q.d.1 d.o.q.t.1 j.o.q.1.2 e.o q.o.1 q.o.2 d.o.q.q.1 ?_ (by rw[d.o.q.q.2.1];exact KA.o.d) (by rw[d.o.q.q.2.1];exact KA.o.2.1);rw[d.o.q.q.2.1];simpa[Qt]using KA.o.1
 case hdone=>
  rintro D ks U W hD TW hS ⟨v,xs,h,f,F,Q,M,G,h7,h8⟩ ho hg J;obtain⟨A,c,rfl⟩:=ar f;have V:(xs.map Prod.fst).Perm (wl.map Prod.fst):=by rw[F];exact hS
  have Sj:xs.length=wl.length:=by have:=V.length_eq;simpa using this
  have a0:=FA Tryz.VP (by intro w;kernel_rfl) (by intro w;kernel_rfl) (enc:=Qt) (fun _=>rfl) (fun x v hv=>by simp[Qt]at hv;rcases hv with rfl|rfl<;>rfl) IP adg 120 (enters_of func120 (by kernel_rfl) rfl) Yj W 159 _ _ xs f (by have:=j.o.q.d.1;omega);change Calls prog 119 _ _ _ at a0;obtain⟨n1,p⟩:=rl (xs.length);have d:=B7 h f V Q J G h7 h8 hD p;have O:=aB h;rw[p]at O a0;have HS:=al a0;clear a0 h f F Q M G h7 h8 ho hg J V Sj p TW hS hD;go_wp2_with fail;refine HS.o.m ?_;rintro E w5 ⟨rfl,s,hp,hs,aa,fg⟩;obtain⟨h,f,V,Q,J,G,h7,h8,hD,p⟩:=d.o;have ad: ∀H,(Value.slice A n1 c).ownBlock=some H->w2.heap.size<=H:=fun H E=>(f.lt H (by rw[p];exact E)).1
  have a2:=fg.heap J (fun E=>by
   obtain⟨cs,fr,hb⟩:=BM f (by rw[p];exact E);rw[J]at hb
   cases hb)
  have z5:=(fg.cell (p:=⟨L,0,none⟩) (aB h) (fun E=>by have:=ad L E;omega));rw[p]at z5;have HE:=By hp hs aa fg ad a2;clear hp hs aa fg ad a2 h f V Q J G h7 h8 hD p O HS;go_wp2_with fail;obtain⟨h,f,V,Q,J,G,h7,h8,hD,p⟩:=d.o;obtain⟨hp,hs,aa,fg,ad,a2⟩:=HE.o;have a4:=Only.putObj w5 D (.deferred none);have hW:w.heap.size<=w2.heap.size:=by have:=j.o.q.1.2;omega
  have br:(s.map Prod.fst).Nodup:=((hp.map Prod.fst).nodup_iff).2 (V.nodup_iff.2 (gS j.o.d.1.up));refine kG (v:=.slice A n1 c) a2 (by simp[results,Tryz.results68,go_sem]) ⟨_,s,rfl,aa.only a4 (fun H E he=>?_),?_,fun x hx=>?_,?_,fun H E=>dp hW (ad H E)⟩
  ·subst he;obtain⟨cs,fr,hb⟩:=BM f (by rw[p];exact E);rw[J]at hb;cases hb
  ·have bm:dK ((s.map Prod.fst).map fun P=>(P,())):=by
    unfold dK;rw[List.map_map,List.pairwise_map];refine(hs.and (List.pairwise_map.1 br)).imp (fun{x y} i=>?_);have F:=i.1;rw[ltW]at F;simp only[decide_eq_false_iff_not]at F;rcases pR x.1 y.1 with M|M|M
    ·exact M
    ·exact absurd M i.2
    ·exact absurd M F
   have bn:dK ((wl.map Prod.fst).map fun P=>(P,())):=by unfold dK;rw[List.map_map,List.pairwise_map];exact j.o.d.1.up
   have h9:=mH bm bn (((hp.map Prod.fst).x V).map _);have bb:=ew (List.map Prod.fst) h9;rw[List.map_map,List.map_map,List.map_map,List.map_map]at bb;exact bb
  ·obtain⟨r,e1,e2,e3⟩:=Q x (hp.mem_iff.1 hx);refine⟨r,e1,(e2.only fg (fun H E he=>?_)).only a4 (fun H E he=>?_),fun H E=>dp hW (e3 H E)⟩
   ·cases r with
    |none=>cases e2.symm.x E
    |some y=>
     obtain⟨b',k,a3⟩:=e2;have a5:H=b':=by rw[E]at k;injection k with k;injection k with k;injection k with k
     subst a5;exact cw f a3 (by decide) (by rw[p];exact he)
   ·cases r with
    |none=>cases e2.symm.x E
    |some y=>
     obtain⟨b',k,a3⟩:=e2;have a5:H=b':=by rw[E]at k;injection k with k;injection k with k;injection k with k
     subst a5;rw[he,J]at a3;cases a3
  ·exact(G.x (fg.aI G.size (fun H hb E=>by have:=ad H E;omega))).x (a4.aI (dp G.size fg.size) (fun H hb E=>by omega))
end
end Go.Proofs.YtehccbdajiiaaaaGreatDoor
