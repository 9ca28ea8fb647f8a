import Derived.Test.YtmkofmeojbcakaaGreatDoorC39
import Derived.Test.YtmkofmeojbcakaaGreatDoorC40
namespace Go.Proofs.YtmkofmeojbcakaaGreatDoor
open Go.Proofs.Tryz
set_option maxRecDepth 100000
set_option maxHeartbeats 16000000
open Go.RowKit
section
open Go.RowKit Go.Maps Go.WideShapes
def pD(L:Nat)(f tr:Int)(rq:Value)(m:Nat):Obj:=.cells #[.pointer (some ⟨L,0,none⟩),.int .i64 f,.int .i64 tr,rq,.map (some m)] 88 (0,0)
theorem bq{w:World}{R L:Nat}{f tr:Int}{rq:Value}{m:Nat}(h:w.heap[R]?=some (pD L f tr rq m)):
  (w.cell? ⟨R,0,none⟩=some (.pointer (some ⟨L,0,none⟩))/\w.cell? ⟨R,1,none⟩=some (.int .i64 f)/\w.cell? ⟨R,2,none⟩=some (.int .i64 tr)/\w.cell? ⟨R,3,none⟩=some rq/\w.cell? ⟨R,4,none⟩=some (.map (some m)))/\w.frozen? ⟨R,3,none⟩=false:=by
 unfold pD at h;refine⟨⟨?_,?_,?_,?_,?_⟩,?_⟩<;>simp[World.cell?,World.frozen?,h]
def CE(w:World)(R L:Nat)(f tr:Int)(m:Nat):Prop:=w.heap[R]?=some (pD L f tr (.slice none 0 0) m)/\bQ prog w 3 m 0 (fun _=>none)
theorem CE.below{w w':World}{R L:Nat}{f tr:Int}{m:Nat}(h:CE w R L f tr m)(hb:Below w.heap.size w w'):CE w' R L f tr m:=⟨pt hb h.1,h.2.below hb⟩
theorem L1{W:World}{o:Obj}{i:Nat}(h:i=W.heap.size):(W.alloc o).heap[i]?=some o:=by rw[h];exact an _ _
theorem iu{wk W W':World}{R:Nat}{o:Obj}(h:Below wk.heap.size wk W/\W.heap[R]?=some o)(hb:Below W.heap.size W W'):Below wk.heap.size wk W'/\W'.heap[R]?=some o:=
 ⟨h.1.x (hb.m h.1.size),pt hb h.2⟩
def ry(most n f k:Int):Int:=if iR most n f=0 then(if k<1\/16<k then 10 else 0)else iR most n f
def WU(w:World)(er:Int)(L:Nat)(f tr:Int)(x:Ending)(w':World):Prop:=Below w.heap.size w w'/\(er=0-> ∃R m,x=.returned (.tuple #[.pointer (some ⟨R,0,none⟩),.int .i64 0])/\w.heap.size<=m/\m<R/\CE w' R L f tr m)/\(er≠0->x=.returned (.tuple #[.pointer none,.int .i64 er]))
theorem Bj(w:World)(L:Nat)(most n f k:Int):Calls prog 18 #[.pointer (some ⟨L,0,none⟩),rK most n f,.int .i64 k] w (WU w (ry most n f k) L f k):=by
 unfold rK;obtain⟨hb0,k0⟩:=qn w (.cells #[.int .i64 most,.int .i64 n,.int .i64 f] 56);have hmm:= @run_makeMap prog;go_enter func18,ntmps18;go_upto_region 1 with fail;generalize w.alloc (.cells #[.int .i64 most,.int .i64 n,.int .i64 f] 56)=w1 at hb0 k0⊢;obtain⟨C,hC⟩:=qt (w.heap.size);rw[hC]at k0⊢;clear hC;have z0:w1.cell? ⟨C,0,none⟩=some (.int .i64 most):=by simp[World.cell?,k0]
 have z1:w1.cell? ⟨C,1,none⟩=some (.int .i64 n):=by simp[World.cell?,k0]
 have z2:w1.cell? ⟨C,2,none⟩=some (.int .i64 f):=by simp[World.cell?,k0]
 have HB:=al (ab hb0 k0);have HC:=al (DW w1 most n f);unfold rK at HC;clear hb0 k0;go_wp2_with fail;refine HC.o.m ?_;rintro e w2 ⟨rfl,hb2⟩;have k2:=pt hb2 HB.o.2;have y2:w2.cell? ⟨C,2,none⟩=some (.int .i64 f):=by simp[World.cell?,k2]
 have fg:=al (HB.o.1.x (hb2.m HB.o.1.size));clear z0 z1 z2 hb2 HC k2;by_cases h0:iR most n f=0
 ·have HX:=al (show ry most n f k=if k<1\/16<k then 10 else 0 by unfold ry;rw[fi h0]);rw[h0];clear h0;by_cases h1:k<1
  ·go_wp2_with fail
   go_ret2
   rw[HX.o,fi (.inl h1)];exact⟨fg.o,fun h=>absurd h (by decide),fun _=>rfl⟩
  ·by_cases h2:16<k
   ·go_wp2_with fail
    go_ret2
    rw[HX.o,fi (.inr h2)];exact⟨fg.o,fun h=>absurd h (by decide),fun _=>rfl⟩
   ·have hb3:=ae w2 (.map #[] 0);have EP:=bQ.made prog w2 3;have H3:=al (ab hb3 EP);clear hb3 EP;go_wp2_with fail
    go_ret2
    rw[HX.o,ff (by omega)];obtain⟨hb3,EP⟩:=H3.o;have hb4:=ae (w2.alloc (.map #[] 0)) (.cells #[.pointer (some ⟨L,0,none⟩),.int .i64 f,.int .i64 k,.slice none 0 0,.map (some w2.heap.size)] 88);have hs:=fg.o.size;exact⟨(fg.o.x (hb3.m fg.o.size)).x (hb4.m (fg.o.x (hb3.m fg.o.size)).size),fun _=>⟨_,w2.heap.size,rfl,hs,by simp,L1 (by simp),EP.below hb4⟩,fun h=>absurd rfl h⟩
 ·have HX:=al (show ry most n f k=iR most n f by unfold ry;rw[ff h0]);have H0:=al h0;go_wp2_with fail
  go_ret2
  rw[HX.o];exact⟨fg.o,fun h=>absurd h H0.o,fun _=>rfl⟩
def pE(vo va:Value)(st:Int)(pl:Value)(k v:Int):Obj:=.cells #[vo,va,.int .i64 st,pl,.int .i64 k,.int .i64 v] 96 (0,0)
theorem fk{w:World}{Q:Nat}{vo va pl:Value}{st k v:Int}(h:w.heap[Q]?=some (pE vo va st pl k v)):
  (w.cell? ⟨Q,0,none⟩=some vo/\w.cell? ⟨Q,1,none⟩=some va/\w.cell? ⟨Q,2,none⟩=some (.int .i64 st)/\w.cell? ⟨Q,3,none⟩=some pl/\w.cell? ⟨Q,4,none⟩=some (.int .i64 k)/\w.cell? ⟨Q,5,none⟩=some (.int .i64 v))/\ ∀j,w.frozen? ⟨Q,j,none⟩=false:=by
 unfold pE at h;refine⟨⟨?_,?_,?_,?_,?_,?_⟩,fun j=>?_⟩<;>simp[World.cell?,World.frozen?,h]
def vz(w:World)(R L:Nat)(f tr:Int)(m A Q:Nat)(vo va:Value)(st:Int)(pl:Value)(k v:Int):Prop:=
 (∃c,w.heap[R]?=some (pD L f tr (.slice (some ⟨A,0,none⟩) 1 c) m))/\w.cell? ⟨A,0,none⟩=some (.pointer (some ⟨Q,0,none⟩))/\w.heap[Q]?=some (pE vo va st pl k v)
theorem vz.only{w w':World}{S:Nat->Prop}{R L:Nat}{f tr:Int}{m A Q:Nat}{vo va:Value}{st:Int}{pl:Value}{k v:Int}(h:vz w R L f tr m A Q vo va st pl k v)(ho:Only S w w')(h1: ¬S R)(h2: ¬S A)(h3: ¬S Q):vz w' R L f tr m A Q vo va st pl k v:=by obtain⟨⟨c,g1⟩,g2,g3⟩:=h;exact⟨⟨c,ho.heap g1 h1⟩,ho.cell g2 h2,ho.heap g3 h3⟩
theorem vz.below{w w':World}{R L:Nat}{f tr:Int}{m A Q:Nat}{vo va:Value}{st:Int}{pl:Value}{k v:Int}(h:vz w R L f tr m A Q vo va st pl k v)(hb:Below w.heap.size w w'):vz w' R L f tr m A Q vo va st pl k v:=h.only (pw hb) (fun h=>h) (fun h=>h) (fun h=>h)
theorem Bk(w:World)(R L:Nat)(f tr:Int)(m A Q:Nat)(vo va:Value)(st:Int)(pl:Value)(k v:Int)(h:vz w R L f tr m A Q vo va st pl k v):Calls prog 26 #[.pointer (some ⟨R,0,none⟩),.int .i64 0] w fun e w'=>e=.returned (.pointer (some ⟨Q,0,none⟩))/\w=w':=by
 obtain⟨⟨c,g1⟩,g2,g3⟩:=h;obtain⟨⟨-,-,-,r3,-⟩,-⟩:=bq g1;clear g1 g3;go_enter func26,ntmps26;go_wp2;go_ret
 exact⟨rfl,rfl⟩
theorem Bl{w:World}{base g cap:Nat}{e:TypeId}{u:Value}(h:w.ownsRow base e 1 (.slice (some ⟨g,0,none⟩) 1 cap) 1 [u]):w.cell? ⟨g,0,none⟩=some u:=by obtain⟨A,n,c,hv,hn,_,_,hx⟩:=Rd.aU (F:=fun _=>True) h (fun _ _=>trivial);injection hv with e1 e2 e3;subst e1 e2;obtain⟨b,o,e4,_,hc⟩:=hx (by decide);injection e4 with e4;injection e4 with e5 e6;subst e5 e6;simpa using hc 0 u rfl
theorem Tryz.WV:(prog.info? 90).map (fun i=>(i.zero,i.size,i.bytes))=some (some (.pointer none),1,8):=by kernel_rfl
end
section
open Go.RowKit Go.Maps Go.WideShapes
theorem Tryz.Tg(w:World):(zeroValue 3).run prog w=.ok (.int .i64 0) w:=by kernel_rfl
noncomputable def PD:Value->Option Value:=rS (fun _=>none) (.int .i64 0) (some (.int .i64 0))
theorem E7:PD (.int .i64 0)=some (.int .i64 0):=mI _ _ _
theorem Im(w:World)(R L:Nat)(f tr:Int)(m A Q:Nat)(vo va:Value)(st:Int)(pl:Value)(k v:Int)(h:vz w R L f tr m A Q vo va st pl k v)(hm:bQ prog w 3 m 1 PD):
  Calls prog 42 #[.pointer (some ⟨R,0,none⟩),.int .i64 0] w fun e w'=>e=.returned (.tuple #[.int .i64 0,.bool true])/\Below w.heap.size w w':=by
 obtain⟨⟨c,g1⟩,g2,g3⟩:=h;obtain⟨⟨-,-,-,r3,r4⟩,-⟩:=bq g1;have HM:=al hm;clear g1 g2 g3 hm;go_enter func42,ntmps42;go_wp2
 go_step3
 go_wp2
 go_step3
 go_wp2
 go_loopw [16] (fun i wr=>i=.int .i64 0/\wr=w) (fun _ _=>0)
 case atStart=>exact⟨rfl,rfl⟩
 case round=>
  obtain⟨rfl,rfl⟩:=hrel;go_wp2_with (at_lookup;go_loud (refine eX (key:=.int .i64 0) _ rfl _ _ 86 rfl RU underlying86 (Tryz.Tg _) rfl HM.o rfl T7 (.int .i64 0) true (by rw[E7];rfl) (by rw[E7];rfl) ?_));rw[kn]
  go_ret2
  exact⟨rfl,aw _ _⟩
theorem PE(w:World)(R L:Nat)(f:Int)(m A Q:Nat)(vo va:Value)(g c:Nat)(k v:Int)(h:vz w R L f 1 m A Q vo va 2 (.slice (some ⟨g,0,none⟩) 1 c) k v)(hm:bQ prog w 3 m 1 PD)
  (n5:m≠R) (n6:m≠A) (n7:m≠Q) (n8:R≠Q) (n9:A≠Q):
  Calls prog 20 #[.pointer (some ⟨R,0,none⟩),.int .i64 0,.agg #[.int .i64 3,.int .i64 0,.int .i64 0]] w fun e w'=>e=.returned (.int .i64 0)/\vz w' R L f 1 m A Q vo va 3 (.slice (some ⟨g,0,none⟩) 1 c) 8 0/\Only (fun b=>b=m\/b=Q) w w':=by
 obtain⟨hb,k0⟩:=qn w (.cells #[.int .i64 3,.int .i64 0,.int .i64 0] 76);have H:=al (ab h (ab hm (ab n5 (ab n6 (ab n7 (ab n8 n9))))));clear h hm n5 n6 n7 n8 n9;go_enter func20,ntmps20;go_upto_region 1 with fail;generalize w.alloc (.cells #[.int .i64 3,.int .i64 0,.int .i64 0] 76)=w1 at hb k0⊢;obtain⟨C,hC⟩:=qt (w.heap.size);rw[hC]at k0⊢;have HB:=al (ab hb (ab k0 hC));clear hb k0 hC;have HW:=al (Im w1 R L f 1 m A Q vo va 2 _ k v (H.o.1.below HB.o.1) (H.o.2.1.below HB.o.1));go_wp2_with fail;refine HW.o.m ?_;rintro e w2 ⟨rfl,hb2⟩;have H2:=al (HB.o.1.x (hb2.m HB.o.1.size));have Ex:=H.o.1.below H2.o;obtain⟨⟨cR,g1⟩,g2,g3⟩:=id Ex;obtain⟨⟨-,-,r2,r3,r4⟩,-⟩:=bq g1;obtain⟨w3,hrun,EP,rA⟩:=(H.o.2.1.below H2.o).drop RU underlying86 T7 0;obtain⟨-,-,n5,n6,n7,n8,n9⟩:=H.o;have Ti:=Ex.only rA (fun e=>n5 e.symm) (fun e=>n6 e.symm) (fun e=>n7 e.symm);have kC:=rA.heap (pt hb2 HB.o.2.1) (fun e=>by have:=H.o.2.1.lt;have:=HB.o.d;omega);have H3:=al (ab Ti (ab kC rA));clear EP rA n5 n6 n7 n8 n9 Ex Ti kC g1 g2 g3 hb2 HW;go_upto_region 7 with fail;clear hrun r2 r3 r4;go_wp2_with fail;refine(Bk w3 R L f 1 m A Q vo va 2 _ k v H3.o.1).m ?_;rintro e w4 ⟨rfl,rfl⟩;obtain⟨⟨cR,g1⟩,g2,g3⟩:=H3.o.1;obtain⟨⟨-,-,r2,-,-⟩,-⟩:=bq g1;obtain⟨⟨-,-,q2,q3,q4,q5⟩,qf⟩:=fk g3;have y2:=qf 2;have y4:=qf 4;have y5:=qf 5
 obtain⟨d0,d1,d2⟩:w3.cell? ⟨C,0,none⟩=some (.int .i64 3)/\w3.cell? ⟨C,1,none⟩=some (.int .i64 0)/\w3.cell? ⟨C,2,none⟩=some (.int .i64 0):=by refine⟨?_,?_,?_⟩<;>simp[World.cell?,H3.o.2.1]
 clear g1 g2 g3 qf;go_wp2_with fail;go_quiet(fail);go_wp2_with fail;go_quiet(fail);go_wp2_with fail;go_ret
 obtain⟨-,-,n5,n6,n7,n8,n9⟩:=H.o;obtain⟨⟨cQ,g1⟩,g2,g3⟩:=H3.o.1
 have hs: ∀d,Only (fun b=>b=Q) w3 ((((w3.drewN d).setCell ⟨Q,2,none⟩ (.int .i64 3)).setCell ⟨Q,4,none⟩ (.int .i64 8)).setCell ⟨Q,5,none⟩ (.int .i64 0)):=fun d=>
  ((((ox _ w3).drewN d).x (Only.aN _ Q 2 _) (fun _ _ h=>h)).x (Only.aN _ Q 4 _) (fun _ _ h=>h)).x (Only.aN _ Q 5 _) (fun _ _ h=>h)
 have hk: ∀d,((((w3.drewN d).setCell ⟨Q,2,none⟩ (.int .i64 3)).setCell ⟨Q,4,none⟩ (.int .i64 8)).setCell ⟨Q,5,none⟩ (.int .i64 0)).heap[Q]?=some (pE vo va 3 (.slice (some ⟨g,0,none⟩) 1 c) 8 0):=fun d=>by have a1:=db (w3.drewN d) Q 2 _ _ (.int .i64 3) g3;have a2:=db _ Q 4 _ _ (.int .i64 8) a1;have a3:=db _ Q 5 _ _ (.int .i64 0) a2;simpa[pE]using a3
 exact⟨rfl,⟨⟨cQ,(hs _).heap g1 n8⟩,(hs _).cell g2 n9,hk _⟩,((oj H2.o _).x H3.o.d (fun _ _ h=>.inl h)).x (hs _) (fun _ _ h=>.inr h)⟩
end
section
open Go.RowKit Go.Maps Go.WideShapes
theorem L3(w:World)(R L:Nat)(f tr:Int)(m A Q:Nat)(vo va:Value)(g c:Nat)(h:vz w R L f tr m A Q vo va 3 (.slice (some ⟨g,0,none⟩) 1 c) 8 0):
  Calls prog 21 #[.pointer (some ⟨R,0,none⟩),.int .i64 0] w fun e w'=>e=.returned (.tuple #[.agg #[.int .i64 8,.int .i64 0,.int .i64 1],.int .i64 0])/\Below w.heap.size w w':=by
 obtain⟨hb,k0⟩:=qn w (.cells #[.int .i64 0,.int .i64 0,.int .i64 0] 78);have hQl:=aQ h.2.2;have H:=al (h.below hb);clear h;go_enter func21,ntmps21;go_upto_region 1 with fail;generalize w.alloc (.cells #[.int .i64 0,.int .i64 0,.int .i64 0] 78)=w1 at hb k0 H⊢;obtain⟨C,hC⟩:=qt (w.heap.size);rw[hC]at k0⊢;have HB:=al (ab hb (ab k0 (show w.heap.size<=C from Nat.le_of_eq hC)));have hQC: ¬Q=C:=by omega
 have hCQ: ¬C=Q:=by omega
 clear hb hC hQl;go_wp2_with fail;refine(Bk w1 R L f tr m A Q vo va 3 _ 8 0 H.o).m ?_;rintro e w2 ⟨rfl,rfl⟩;obtain⟨-,-,g3⟩:=H.o;obtain⟨⟨-,-,q2,q3,q4,q5⟩,-⟩:=fk g3;have y0:w1.frozen? ⟨C,0,none⟩=false:=by simp[World.frozen?,k0]
 have y1:w1.frozen? ⟨C,1,none⟩=false:=by simp[World.frozen?,k0]
 have y2:w1.frozen? ⟨C,2,none⟩=false:=by simp[World.frozen?,k0]
 have z0:w1.cell? ⟨C,0,none⟩=some (.int .i64 0):=by simp[World.cell?,k0]
 have z1:w1.cell? ⟨C,1,none⟩=some (.int .i64 0):=by simp[World.cell?,k0]
 have z2:w1.cell? ⟨C,2,none⟩=some (.int .i64 0):=by simp[World.cell?,k0]
 clear g3 k0;go_wp2_with fail
 go_region
 go_wp2_with fail;have hp:=T6 (v0:=.int .i64 8) (v1:=.int .i64 0) (v2:=.int .i64 1) HB.o.2.1;exact dr (aB rfl _ _ _ _ _ _ _ rfl hp underlying78 rfl (by kernel_rfl)) rfl ⟨rfl,((HB.o.1.drew.setCell (p:=⟨C,0,none⟩) HB.o.d _).setCell (p:=⟨C,1,none⟩) HB.o.d _).setCell (p:=⟨C,2,none⟩) HB.o.d _⟩
attribute [local go_sem] Oper.semAt_some mz
theorem aaB(x0 x1 x2 y0 y1 y2:Int)(w:World):(Op.equalIn 10000 78 (.agg #[.int .i64 x0,.int .i64 x1,.int .i64 x2]) (.agg #[.int .i64 y0,.int .i64 y1,.int .i64 y2])).run prog w=.ok (decide (x0=y0/\x1=y1/\x2=y2)) w:=by
 have hs:prog.stoodInHeld 78=false:=by kernel_rfl
 have hf:prog.underlying 78=some (.struct (prog.fieldsOf 78)):=by unfold Program.fieldsOf;rw[underlying78]
 rw[run_equalIn_agg w 9999 78 _ _ hf hs];unfold Program.fieldsOf;rw[underlying78];simp[Op.eqFields,go_sem,underlying3];by_cases h1:x0=y0<;>by_cases h2:x1=y1<;>by_cases h3:x2=y2<;>simp[h1,h2,h3]
theorem Tryz.PF:prog.eqGuardType prog.depth 78=false:=by kernel_rfl
theorem l8(w:World):Calls prog 10 #[] w fun e w'=>e=.returned (rK 30 2 100)/\Below w.heap.size w w':=by
 obtain⟨hb,k0⟩:=qn w (.cells #[.int .i64 0,.int .i64 0,.int .i64 0] 56);go_enter func10,ntmps10;go_upto_region 1 with fail;generalize w.alloc (.cells #[.int .i64 0,.int .i64 0,.int .i64 0] 56)=w1 at hb k0⊢;obtain⟨C,hC⟩:=qt (w.heap.size);rw[hC]at k0⊢;have y0:w1.frozen? ⟨C,0,none⟩=false:=by simp[World.frozen?,k0]
 have y1:w1.frozen? ⟨C,1,none⟩=false:=by simp[World.frozen?,k0]
 have y2:w1.frozen? ⟨C,2,none⟩=false:=by simp[World.frozen?,k0]
 have z0:w1.cell? ⟨C,0,none⟩=some (.int .i64 0):=by simp[World.cell?,k0]
 have z1:w1.cell? ⟨C,1,none⟩=some (.int .i64 0):=by simp[World.cell?,k0]
 have z2:w1.cell? ⟨C,2,none⟩=some (.int .i64 0):=by simp[World.cell?,k0]
 have HB:=al (ab hb (ab k0 hC));clear hb k0 hC;go_wp2;have hp:=T6 (v0:=.int .i64 30) (v1:=.int .i64 2) (v2:=.int .i64 100) HB.o.2.1;exact dr (results_cell_row rfl _ _ _ _ _ _ _ rfl hp underlying56 rfl (by kernel_rfl)) rfl ⟨rfl,((HB.o.1.setCell (p:=⟨C,0,none⟩) (Nat.le_of_eq HB.o.d) _).setCell (p:=⟨C,1,none⟩) (Nat.le_of_eq HB.o.d) _).setCell (p:=⟨C,2,none⟩) (Nat.le_of_eq HB.o.d) _⟩
end
end Go.Proofs.YtmkofmeojbcakaaGreatDoor
