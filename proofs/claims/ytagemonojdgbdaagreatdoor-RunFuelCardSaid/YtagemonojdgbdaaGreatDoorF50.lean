/- Proved: RunFuel returns true for every input: more fuel turns nothing but ErrFuel, no run does more steps than there is fuel, nor than its procedure's bound; no condition (the listed package variables start as the program's text and Go's library lay them). -/
import Derived.Test.YtagemonojdgbdaaGreatDoorF49
import Derived.Test.YtagemonojdgbdaaGreatDoorTie
import Derived.Test.YtagemonojdgbdaaGreatDoorCards
namespace Go.Proofs.YtagemonojdgbdaaGreatDoor
set_option maxRecDepth 100000
open Go.RowKit
section
open Go.ChangeShapes Go.WideShapes Go.ChangeAt Go.RowKit Go.Deep
theorem runFuel_lifted(os:Os)(started:os.Started)(H:Type)(enc:TypeId×Value->H):
  ReturnsInHanded {} Tryz.checked os 5 .any (fun w args=>(Rows.runFuelSpec.pre enc Tryz.prog Tryz.f5 [] false w args/\laidMetH Tryz.prog Rows.runFuelRow.laid w)/\sizedMet enc Tryz.prog Tryz.f5 (OpenSpec.ofChange Rows.runFuelSpec) false w args) (Rows.runFuelSpec.post enc Tryz.prog Tryz.f5 false true false false):=by
 refine sL os started H enc 5 Tryz.f5 Rows.runFuelSpec Rows.runFuelRow.laid (by kernel_rfl) Tryz.func5 rfl (by kernel_rfl) ?_ ?_
  (ChangeSpec.witness_shaped (enc:=enc) (C:=Tryz.checked) (os:=os) (X:=fun w _=>laidMetH Tryz.prog Rows.runFuelRow.laid w) false (World.doorLaid Tryz.prog 200 os) #[.slice none 0 0,.agg #[.slice none 0 0,.int .i64 0],.agg #[.slice none 0 0,.int .i64 0]] 8 rfl (World.shaped_of_RefB (by kernel_rfl) (by kernel_rfl)) (by kernel_rfl) (by kernel_rfl) (by kernel_rfl)
   (laidMetH_of_parts3 (fuel:=8) (laidMet_of_run' 8 (by kernel_rfl) (by kernel_rfl)) (by kernel_rfl) (by kernel_rfl))) ?_
 ·rw[Tryz.params5];intro t ht;simp at ht;rcases ht with rfl|rfl|rfl
  ·exact⟨by kernel_rfl,of_decide_eq_true (by kernel_rfl)⟩
  ·exact⟨by kernel_rfl,of_decide_eq_true (by kernel_rfl)⟩
  ·exact⟨by kernel_rfl,of_decide_eq_true (by kernel_rfl)⟩
 ·intro ds hl;rw[Tryz.params5]at hl
  match ds,hl with
  |[d1,d2,d3],_=>exact⟨rfl,rfl,rfl⟩
 ·intro W base args ds p hL hval hA;rw[Tryz.params5]at hA hval;have hs:=EX hL (by rfl) (by simp[Rows.runFuelRow]);have he:=Am hL (by rfl) (by simp[Rows.runFuelRow]) (by simp[Rows.runFuelRow]);have h10:=xj hL (by rfl) (by simp[Rows.runFuelRow]);obtain⟨v0,v1,v2,d0,d1,d2,p0,p1,p2,hargs,rfl,rfl,h0,h1,h2⟩:=trodAll_three hA;subst hargs;obtain⟨l0,r0,f0⟩:=Ae (hval 0 50 v0 rfl rfl) h0;obtain⟨u1,x1,m1,rfl,q1,qn1,qm1⟩:=Fe (hval 1 24 v1 rfl rfl) h1;obtain⟨u2,x2,m2,rfl,q2,qn2,qm2⟩:=Jk (hval 2 84 v2 rfl rfl) h2;exact JI W (fun _=>True) v0 l0 u1 x1 m1 u2 x2 m2 r0 q1 q2 hs h10 he
theorem runFuel_row:Rows.RunFuelSaid:=
 OpenClaim.holds_of_wide 5 Tryz.f5 rfl rfl rfl rfl rfl rfl rfl ⟨rfl,rfl,rfl,rfl,rfl⟩ rfl rfl rfl rfl rfl (by kernel_rfl) Tryz.func5 vG
  (of_decide_eq_true (by kernel_rfl)) (by unfold Func.isWrapper;rw[ff (of_decide_eq_false (by kernel_rfl))];exact⟨rfl,rfl⟩)
  (fun os started H enc _=>runFuel_lifted os started H enc)
theorem runFuel_holds:Rows.RunFuelCardSaid:=
 Claim7.holds_tied_plain_at .later [] [.data,.data,.data,.sentinel,.sentinel,.data] true Rows.runFuelCard.stood.harness true
  runFuel_row (fun _ h=>by cases h) Fm (fun _ h=>by cases h) runFuel_row_tie rfl ⟨rfl,rfl⟩ WZ rfl
  (fun f fn hf hfn=>by
   obtain rfl:f=5:=e7 ((show Tryz.prog.funcNamed "breviary/breviarylaw12.RunFuel" =some 5 by kernel_rfl).symm.trans hf)|>.symm;obtain rfl:fn=Tryz.f5:=(e7 (Tryz.func5.symm.trans hfn)).symm;refine⟨WY,fun j t ht=>?_⟩;have hm:t∈Tryz.f5.params.toList:=Array.mem_toList_iff.2 (Array.mem_of_getElem? ht);rw[Tryz.params5]at hm;simp at hm;rcases hm with rfl|rfl|rfl
   ·exact(show Tryz.prog.wantsStandIn 50=false by kernel_rfl)
   ·exact(show Tryz.prog.wantsStandIn 24=false by kernel_rfl)
   ·exact(show Tryz.prog.wantsStandIn 84=false by kernel_rfl))
  Fq
#print axioms runFuel_holds
end
end Go.Proofs.YtagemonojdgbdaaGreatDoor
