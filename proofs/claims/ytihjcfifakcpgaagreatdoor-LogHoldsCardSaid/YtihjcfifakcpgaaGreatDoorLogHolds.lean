/- Proved: LogHolds returns true for every input: which pieces a log has, what each one's entry is, which bytes it has, or that a piece is too long; no condition (the two listed package variables start as the program's text lays them). -/
import Derived.Test.YtihjcfifakcpgaaGreatDoorLogHW
import Derived.Test.YtihjcfifakcpgaaGreatDoorFrO
import Derived.Test.YtihjcfifakcpgaaGreatDoorLaid
import Derived.Test.YtihjcfifakcpgaaGreatDoorOpen
import Derived.Test.YtihjcfifakcpgaaGreatDoorTie
import Derived.Test.YtihjcfifakcpgaaGreatDoorCards
namespace Go.Proofs.YtihjcfifakcpgaaGreatDoor
set_option maxRecDepth 100000
open Go.ChangeShapes Go.WideShapes Go.ChangeAt Go.RowKit Go.Deep

set_option maxRecDepth 100000 in
theorem logHolds_lifted (os : Os) (started : os.Started) (H : Type) (enc : TypeId × Value → H) :
    ReturnsInHanded {} Tryz.checked os 8 .any (fun w args => (Rows.logHoldsSpec.pre enc Tryz.prog Tryz.f8 [] false w args ∧ laidMetH Tryz.prog Rows.logHoldsRow.laid w) ∧ sizedMet enc Tryz.prog Tryz.f8 (OpenSpec.ofChange Rows.logHoldsSpec) false w args) (Rows.logHoldsSpec.post enc Tryz.prog Tryz.f8 false true false false) := by
  refine law_lifted_laid os started H enc 8 Tryz.f8 Rows.logHoldsSpec Rows.logHoldsRow.laid (by kernel_rfl) Tryz.func8 rfl (by kernel_rfl) ?_ ?_
    (ChangeSpec.witness_shaped (enc := enc) (C := Tryz.checked) (os := os) (X := fun w _ => laidMetH Tryz.prog Rows.logHoldsRow.laid w) false (World.doorLaid Tryz.prog 34 os) #[.slice none 0 0] 8 rfl (World.shaped_of_RefB (by kernel_rfl) (by kernel_rfl)) (by kernel_rfl) (by kernel_rfl) (by kernel_rfl)
      (laidMetH_of_parts3 (fuel := 8) (laidMet_of_run' 8 (by kernel_rfl) (by kernel_rfl)) (by kernel_rfl) (by kernel_rfl))) ?_
  · rw [Tryz.params8]
    intro t ht
    simp at ht
    subst ht
    exact ⟨by kernel_rfl, of_decide_eq_true (by kernel_rfl)⟩
  · intro ds hl
    rw [Tryz.params8] at hl
    match ds, hl with
    | [d1], _ => exact ⟨rfl, rfl, rfl⟩
  · intro W base args ds p hL hval hA
    rw [Tryz.params8] at hA hval
    have ht := nib_of_laid hL (by rfl) (by simp [Rows.logHoldsRow])
    have hs := sh_of_laid hL (by rfl) (by simp [Rows.logHoldsRow])
    obtain ⟨v0, d0, hargs, rfl, h0⟩ := trodAll_one hA
    subst hargs
    obtain ⟨x0, q0⟩ := rows_of_trod (hval 0 55 v0 rfl rfl) h0
    exact lholds_law W _ x0 q0 hs ht

theorem logHolds_row : Rows.LogHoldsSaid :=
  OpenClaim.holds_of_wide 8 Tryz.f8 rfl rfl rfl rfl rfl rfl rfl ⟨rfl, rfl, rfl, rfl, rfl⟩ rfl rfl rfl rfl rfl (by kernel_rfl) Tryz.func8 (by kernel_rfl)
    (of_decide_eq_true (by kernel_rfl)) (by unfold Func.isWrapper; rw [if_neg (of_decide_eq_false (by kernel_rfl))]; exact ⟨rfl, rfl⟩)
    (fun os started H enc _ => logHolds_lifted os started H enc)

set_option maxRecDepth 100000 in
theorem logHolds_holds : Rows.LogHoldsCardSaid :=
  Claim7.holds_tied_plain_at .later [] [.data, .data] true Rows.logHoldsCard.stood.harness false
    logHolds_row (fun _ h => by cases h) (by kernel_rfl) (fun _ h => by cases h) logHolds_row_tie rfl ⟨rfl, rfl⟩ (by kernel_rfl) rfl
    (fun f fn hf hfn => by
      obtain rfl : f = 8 := Option.some.inj ((show Tryz.prog.funcNamed "breviary/breviarylaw14.LogHolds" = some 8 by kernel_rfl).symm.trans hf) |>.symm
      obtain rfl : fn = Tryz.f8 := (Option.some.inj (Tryz.func8.symm.trans hfn)).symm
      refine ⟨by kernel_rfl, fun j t ht => ?_⟩
      have hm : t ∈ Tryz.f8.params.toList := Array.mem_toList_iff.2 (Array.mem_of_getElem? ht)
      rw [Tryz.params8] at hm
      simp at hm
      subst hm
      exact (show Tryz.prog.wantsStandIn 55 = false by kernel_rfl))
    (by kernel_rfl)

#print axioms logHolds_holds

end Go.Proofs.YtihjcfifakcpgaaGreatDoor
