/- Proved: RunClaims returns true for every input: what is claimed by putting a row, and by deleting one; no condition (the listed package variables start as the program's text and Go's library lay them). -/
import Derived.Test.YtagemonojdgbdaaGreatDoorQ47
import Derived.Test.YtagemonojdgbdaaGreatDoorQ49
import Derived.Test.YtagemonojdgbdaaGreatDoorTie
import Derived.Test.YtagemonojdgbdaaGreatDoorCards
namespace Go.Proofs.YtagemonojdgbdaaGreatDoor
set_option maxRecDepth 100000
open Go.RowKit
section
open Go.ChangeShapes Go.WideShapes Go.ChangeAt Go.RowKit Go.Deep
theorem runClaims_lifted (os : Os) (started : os.Started) (H : Type) (enc : TypeId × Value -> H) :
  ReturnsInHanded {} Tryz.checked os 3 .any (fun w args => (Rows.runClaimsSpec.pre enc Tryz.prog Tryz.f3 [] false w args /\ laidMetH Tryz.prog Rows.runClaimsRow.laid w) /\ sizedMet enc Tryz.prog Tryz.f3 (OpenSpec.ofChange Rows.runClaimsSpec) false w args) (Rows.runClaimsSpec.post enc Tryz.prog Tryz.f3 false true false false) := by
 refine pR os started H enc 3 Tryz.f3 Rows.runClaimsSpec Rows.runClaimsRow.laid (by kernel_rfl) Tryz.func3 rfl (by kernel_rfl) ?_ ?_
  (ChangeSpec.witness_shaped (enc := enc) (C := Tryz.checked) (os := os) (X := fun w _ => laidMetH Tryz.prog Rows.runClaimsRow.laid w) false (World.doorLaid Tryz.prog 200 os) #[.agg #[.slice none 0 0, .int .i64 0], .agg #[.int .i64 0, .int .i64 0, .int .i64 0, .int .i64 0, .int .i64 0], .int .i64 0] 8 rfl (World.shaped_of_RefB (by kernel_rfl) (by kernel_rfl)) (by kernel_rfl) (by kernel_rfl) (by kernel_rfl)
   (laidMetH_of_parts3 (fuel := 8) (laidMet_of_run' 8 (by kernel_rfl) (by kernel_rfl)) (by kernel_rfl) (by kernel_rfl))) ?_
 ·rw [Tryz.params3]
  intro t ht
  simp at ht
  rcases ht with rfl | rfl | rfl
  ·exact ⟨by kernel_rfl, of_decide_eq_true (by kernel_rfl)⟩
  ·exact ⟨by kernel_rfl, of_decide_eq_true (by kernel_rfl)⟩
  ·exact ⟨by kernel_rfl, of_decide_eq_true (by kernel_rfl)⟩
 ·intro ds hl
  rw [Tryz.params3] at hl
  match ds, hl with
  | [d1, d2, d3], _ => exact ⟨rfl, rfl, rfl⟩
 ·intro W base args ds p hL hval hA
  rw [Tryz.params3] at hA hval
  have hs := AO hL (by rfl) (by simp [Rows.runClaimsRow])
  have h10 := sS hL (by rfl) (by simp [Rows.runClaimsRow])
  obtain ⟨v0, v1, v2, d0, d1, d2, p0, p1, p2, hargs, rfl, rfl, h0, h1, h2⟩ := trodAll_three hA
  subst hargs
  obtain ⟨u0, x0, m0, rfl, q0, WW, WX⟩ := AB (hval 0 24 v0 rfl rfl) h0
  obtain ⟨n1, r1, rfl, q1⟩ := IV (hval 1 28 v1 rfl rfl) h1
  obtain ⟨n2, rfl, rfl, rfl, V6⟩ := open_int Tryz.underlying3 (hval 2 3 v2 rfl rfl) h2
  have b2 := bounds_i64 V6
  exact yE W (fun _ => True) u0 x0 m0 q0 n1 q1 r1 n2 hs h10
theorem runClaims_row : Rows.RunClaimsSaid :=
 OpenClaim.holds_of_wide 3 Tryz.f3 rfl rfl rfl rfl rfl rfl rfl ⟨rfl, rfl, rfl, rfl, rfl⟩ rfl rfl rfl rfl rfl (by kernel_rfl) Tryz.func3 oQ
  (of_decide_eq_true (by kernel_rfl)) (by unfold Func.isWrapper; rw [if_neg (of_decide_eq_false (by kernel_rfl))]; exact ⟨rfl, rfl⟩)
  (fun os started H enc _ => runClaims_lifted os started H enc)
theorem runClaims_holds : Rows.RunClaimsCardSaid :=
 Claim7.holds_tied_plain_at .later [] [.data, .data, .data, .sentinel, .sentinel, .data] true Rows.runClaimsCard.stood.harness true
  runClaims_row (fun _ h => by cases h) vE (fun _ h => by cases h) runClaims_row_tie rfl ⟨rfl, rfl⟩ Ot rfl
  (fun f fn hf hfn => by
   obtain rfl : f = 3 := Option.some.inj ((show Tryz.prog.funcNamed "breviary/breviarylaw12.RunClaims" = some 3 by kernel_rfl).symm.trans hf) |>.symm
   obtain rfl : fn = Tryz.f3 := (Option.some.inj (Tryz.func3.symm.trans hfn)).symm
   refine ⟨Oq, fun j t ht => ?_⟩
   have hm : t ∈ Tryz.f3.params.toList := Array.mem_toList_iff.2 (Array.mem_of_getElem? ht)
   rw [Tryz.params3] at hm
   simp at hm
   rcases hm with rfl | rfl | rfl
   ·exact (show Tryz.prog.wantsStandIn 24 = false by kernel_rfl)
   ·exact (show Tryz.prog.wantsStandIn 28 = false by kernel_rfl)
   ·exact (show Tryz.prog.wantsStandIn 3 = false by kernel_rfl))
  vF
#print axioms runClaims_holds
end
end Go.Proofs.YtagemonojdgbdaaGreatDoor
