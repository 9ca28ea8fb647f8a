/- Proved: ExecErrs returns true for every input: which replicas there are, and that a nil one has nothing; no condition (the listed package variables start as the program's text lays them). -/
import Derived.Test.YtiacbhnkcllpjaaGreatDoorExecI
import Derived.Test.YtiacbhnkcllpjaaGreatDoorOpenC
import Derived.Test.YtiacbhnkcllpjaaGreatDoorLaidA
import Derived.Test.YtiacbhnkcllpjaaGreatDoorExecErrsJ
import Derived.Test.YtiacbhnkcllpjaaGreatDoorTie
import Derived.Test.YtiacbhnkcllpjaaGreatDoorCards
namespace Go.Proofs.YtiacbhnkcllpjaaGreatDoor
set_option maxRecDepth 100000
open Go.ChangeShapes Go.WideShapes Go.ChangeAt Go.RowKit Go.Deep

set_option maxRecDepth 100000 in
theorem execErrs_lifted (os : Os) (started : os.Started) (H : Type) (enc : TypeId × Value → H) :
    ReturnsInHanded {} Tryz.checked os 3 .any (fun w args => (Rows.execErrsSpec.pre enc Tryz.prog Tryz.f3 [] false w args ∧ laidMetH Tryz.prog Rows.execErrsRow.laid w) ∧ sizedMet enc Tryz.prog Tryz.f3 (OpenSpec.ofChange Rows.execErrsSpec) false w args) (Rows.execErrsSpec.post enc Tryz.prog Tryz.f3 false true false false) := by
  refine law_lifted_laid os started H enc 3 Tryz.f3 Rows.execErrsSpec Rows.execErrsRow.laid (by kernel_rfl) Tryz.func3 rfl (by kernel_rfl) ?_ ?_
    (ChangeSpec.witness_shaped (enc := enc) (C := Tryz.checked) (os := os) (X := fun w _ => laidMetH Tryz.prog Rows.execErrsRow.laid w) false (World.doorLaid Tryz.prog 200 os) #[.agg #[.int .i64 0, .int .i64 0, .int .i64 0], .int .i64 0] 8 rfl (World.shaped_of_RefB (by kernel_rfl) (by kernel_rfl)) (by kernel_rfl) (by kernel_rfl) (by kernel_rfl)
      (laidMetH_of_parts3 (fuel := 8) (laidMet_of_run' 8 (by kernel_rfl) (by kernel_rfl)) (by kernel_rfl) (by kernel_rfl))) ?_
  · rw [Tryz.params3]
    intro t ht
    simp at ht
    rcases ht with rfl | rfl
    · exact ⟨by kernel_rfl, of_decide_eq_true (by kernel_rfl)⟩
    · exact ⟨by kernel_rfl, of_decide_eq_true (by kernel_rfl)⟩
  · intro ds hl
    rw [Tryz.params3] at hl
    match ds, hl with
    | [d1, d2], _ => exact ⟨rfl, rfl, rfl⟩
  · intro W base args ds p hL hval hA
    rw [Tryz.params3] at hA hval
    obtain ⟨v0, v1, d0, d1, p0, p1, hargs, rfl, rfl, h0, h1⟩ := trodAll_two hA
    subst hargs
    obtain ⟨c0, m0, f0, rfl, q0⟩ := open_cfg (hval 0 23 v0 rfl rfl) h0
    obtain ⟨n1, rfl, rfl, rfl, wn1⟩ := open_int Tryz.underlying3 (hval 1 3 v1 rfl rfl) h1
    have b1 := bounds_i64 wn1
    exact eerrs_law W _ _ _ _

theorem execErrs_row : Rows.ExecErrsSaid :=
  OpenClaim.holds_of_wide 3 Tryz.f3 rfl rfl rfl rfl rfl rfl rfl ⟨rfl, rfl, rfl, rfl, rfl⟩ rfl rfl rfl rfl rfl (by kernel_rfl) Tryz.func3 execErrs_closed
    (of_decide_eq_true (by kernel_rfl)) (by unfold Func.isWrapper; rw [if_neg (of_decide_eq_false (by kernel_rfl))]; exact ⟨rfl, rfl⟩)
    (fun os started H enc _ => execErrs_lifted os started H enc)

set_option maxRecDepth 100000 in
theorem execErrs_holds : Rows.ExecErrsCardSaid :=
  Claim7.holds_tied_plain_at .later [] [.data, .data, .data, .sentinel, .sentinel, .data, .data] true Rows.execErrsCard.stood.harness true
    execErrs_row (fun _ h => by cases h) execErrs_k1 (fun _ h => by cases h) execErrs_row_tie rfl ⟨rfl, rfl⟩ joinD rfl
    (fun f fn hf hfn => by
      obtain rfl : f = 3 := Option.some.inj ((show Tryz.prog.funcNamed "breviary/breviarylaw17.ExecErrs" = some 3 by kernel_rfl).symm.trans hf) |>.symm
      obtain rfl : fn = Tryz.f3 := (Option.some.inj (Tryz.func3.symm.trans hfn)).symm
      refine ⟨joinC, fun j t ht => ?_⟩
      have hm : t ∈ Tryz.f3.params.toList := Array.mem_toList_iff.2 (Array.mem_of_getElem? ht)
      rw [Tryz.params3] at hm
      simp at hm
      rcases hm with rfl | rfl
      · exact (show Tryz.prog.wantsStandIn 23 = false by kernel_rfl)
      · exact (show Tryz.prog.wantsStandIn 3 = false by kernel_rfl))
    execErrs_k2

#print axioms execErrs_holds

end Go.Proofs.YtiacbhnkcllpjaaGreatDoor
