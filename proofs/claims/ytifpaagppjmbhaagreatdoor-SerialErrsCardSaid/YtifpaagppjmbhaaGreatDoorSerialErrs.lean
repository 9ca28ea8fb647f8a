/- Proved: SerialErrs returns true for every input: what is wrong with configurations, and with what is nil; no condition (the listed package variables start as the program's text lays them). -/
import Derived.Test.YtifpaagppjmbhaaGreatDoorSerG
import Derived.Test.YtifpaagppjmbhaaGreatDoorOpenC
import Derived.Test.YtifpaagppjmbhaaGreatDoorLaidA
import Derived.Test.YtifpaagppjmbhaaGreatDoorSerialErrsJ
import Derived.Test.YtifpaagppjmbhaaGreatDoorTie
import Derived.Test.YtifpaagppjmbhaaGreatDoorCards
namespace Go.Proofs.YtifpaagppjmbhaaGreatDoor
set_option maxRecDepth 100000
open Go.ChangeShapes Go.WideShapes Go.ChangeAt Go.RowKit Go.Deep

set_option maxRecDepth 100000 in
theorem serialErrs_lifted (os : Os) (started : os.Started) (H : Type) (enc : TypeId × Value → H) :
    ReturnsInHanded {} Tryz.checked os 3 .any (fun w args => (Rows.serialErrsSpec.pre enc Tryz.prog Tryz.f3 [] false w args ∧ laidMetH Tryz.prog Rows.serialErrsRow.laid w) ∧ sizedMet enc Tryz.prog Tryz.f3 (OpenSpec.ofChange Rows.serialErrsSpec) false w args) (Rows.serialErrsSpec.post enc Tryz.prog Tryz.f3 false true false false) := by
  refine law_lifted_laid os started H enc 3 Tryz.f3 Rows.serialErrsSpec Rows.serialErrsRow.laid (by kernel_rfl) Tryz.func3 rfl (by kernel_rfl) ?_ ?_
    (ChangeSpec.witness_shaped (enc := enc) (C := Tryz.checked) (os := os) (X := fun w _ => laidMetH Tryz.prog Rows.serialErrsRow.laid w) false (World.doorLaid Tryz.prog 200 os) #[.agg #[.int .i64 0, .int .i64 0, .int .i64 0]] 8 rfl (World.shaped_of_RefB (by kernel_rfl) (by kernel_rfl)) (by kernel_rfl) (by kernel_rfl) (by kernel_rfl)
      (laidMetH_of_parts3 (fuel := 8) (laidMet_of_run' 8 (by kernel_rfl) (by kernel_rfl)) (by kernel_rfl) (by kernel_rfl))) ?_
  · rw [Tryz.params3]
    intro t ht
    simp at ht
    subst ht
    exact ⟨by kernel_rfl, of_decide_eq_true (by kernel_rfl)⟩
  · intro ds hl
    rw [Tryz.params3] at hl
    match ds, hl with
    | [d1], _ => exact ⟨rfl, rfl, rfl⟩
  · intro W base args ds p hL hval hA
    rw [Tryz.params3] at hA hval
    obtain ⟨v0, d0, hargs, rfl, h0⟩ := trodAll_one hA
    subst hargs
    obtain ⟨c0, m0, f0, rfl, q0⟩ := open_cfg (hval 0 23 v0 rfl rfl) h0
    exact serrs_law W _ _ _

theorem serialErrs_row : Rows.SerialErrsSaid :=
  OpenClaim.holds_of_wide 3 Tryz.f3 rfl rfl rfl rfl rfl rfl rfl ⟨rfl, rfl, rfl, rfl, rfl⟩ rfl rfl rfl rfl rfl (by kernel_rfl) Tryz.func3 serialErrs_closed
    (of_decide_eq_true (by kernel_rfl)) (by unfold Func.isWrapper; rw [if_neg (of_decide_eq_false (by kernel_rfl))]; exact ⟨rfl, rfl⟩)
    (fun os started H enc _ => serialErrs_lifted os started H enc)

set_option maxRecDepth 100000 in
theorem serialErrs_holds : Rows.SerialErrsCardSaid :=
  Claim7.holds_tied_plain_at .later [] [.data, .data, .data, .sentinel, .sentinel, .data, .data] true Rows.serialErrsCard.stood.harness true
    serialErrs_row (fun _ h => by cases h) serialErrs_k1 (fun _ h => by cases h) serialErrs_row_tie rfl ⟨rfl, rfl⟩ joinD rfl
    (fun f fn hf hfn => by
      obtain rfl : f = 3 := Option.some.inj ((show Tryz.prog.funcNamed "breviary/breviarylaw15.SerialErrs" = some 3 by kernel_rfl).symm.trans hf) |>.symm
      obtain rfl : fn = Tryz.f3 := (Option.some.inj (Tryz.func3.symm.trans hfn)).symm
      refine ⟨joinC, fun j t ht => ?_⟩
      have hm : t ∈ Tryz.f3.params.toList := Array.mem_toList_iff.2 (Array.mem_of_getElem? ht)
      rw [Tryz.params3] at hm
      simp at hm
      subst hm
      exact (show Tryz.prog.wantsStandIn 23 = false by kernel_rfl))
    serialErrs_k2

#print axioms serialErrs_holds

end Go.Proofs.YtifpaagppjmbhaaGreatDoor
