/- Proved: FrameSame returns true for every input: two entries are the same just if their bytes are; no condition (the two listed package variables start as the program's text lays them). -/
import Derived.Test.YtihjcfifakcpgaaGreatDoorFrameSW
import Derived.Test.YtihjcfifakcpgaaGreatDoorFrO
import Derived.Test.YtihjcfifakcpgaaGreatDoorLaid
import Derived.Test.YtihjcfifakcpgaaGreatDoorTie
import Derived.Test.YtihjcfifakcpgaaGreatDoorCards
namespace Go.Proofs.YtihjcfifakcpgaaGreatDoor
set_option maxRecDepth 100000
open Go.ChangeShapes Go.WideShapes Go.ChangeAt Go.RowKit Go.Deep

set_option maxRecDepth 100000 in
theorem frameSame_lifted (os : Os) (started : os.Started) (H : Type) (enc : TypeId × Value → H) :
    ReturnsInHanded {} Tryz.checked os 7 .any (fun w args => (Rows.frameSameSpec.pre enc Tryz.prog Tryz.f7 [] false w args ∧ laidMetH Tryz.prog Rows.frameSameRow.laid w) ∧ sizedMet enc Tryz.prog Tryz.f7 (OpenSpec.ofChange Rows.frameSameSpec) false w args) (Rows.frameSameSpec.post enc Tryz.prog Tryz.f7 false true false false) := by
  refine law_lifted_laid os started H enc 7 Tryz.f7 Rows.frameSameSpec Rows.frameSameRow.laid (by kernel_rfl) Tryz.func7 rfl (by kernel_rfl) ?_ ?_
    (ChangeSpec.witness_shaped (enc := enc) (C := Tryz.checked) (os := os) (X := fun w _ => laidMetH Tryz.prog Rows.frameSameRow.laid w) false (World.doorLaid Tryz.prog 34 os) #[.agg #[.int .i64 0, .slice none 0 0, .slice none 0 0, .slice none 0 0], .agg #[.int .i64 0, .slice none 0 0, .slice none 0 0, .slice none 0 0]] 8 rfl (World.shaped_of_RefB (by kernel_rfl) (by kernel_rfl)) (by kernel_rfl) (by kernel_rfl) (by kernel_rfl)
      (laidMetH_of_parts3 (fuel := 8) (laidMet_of_run' 8 (by kernel_rfl) (by kernel_rfl)) (by kernel_rfl) (by kernel_rfl))) ?_
  · rw [Tryz.params7]
    intro t ht
    simp at ht
    subst ht
    exact ⟨by kernel_rfl, of_decide_eq_true (by kernel_rfl)⟩
  · intro ds hl
    rw [Tryz.params7] at hl
    match ds, hl with
    | [d1, d2], _ => exact ⟨rfl, rfl, rfl⟩
  · intro W base args ds p hL hval hA
    rw [Tryz.params7] at hA hval
    have ht := nib_of_laid hL (by rfl) (by simp [Rows.frameSameRow])
    have hs := sh_of_laid hL (by rfl) (by simp [Rows.frameSameRow])
    obtain ⟨v0, v1, d0, d1, p0, p1, hargs, rfl, rfl, h0, h1⟩ := trodAll_two hA
    subst hargs
    obtain ⟨e0, vo0, va0, vc0, rfl, q0⟩ := open_entry (hval 0 26 v0 rfl rfl) h0
    obtain ⟨e1, vo1, va1, vc1, rfl, q1⟩ := open_entry (hval 1 26 v1 rfl rfl) h1
    exact same_law W e0 e1 _ _ _ _ _ _ q0 q1 hs ht

theorem frameSame_row : Rows.FrameSameSaid :=
  OpenClaim.holds_of_wide 7 Tryz.f7 rfl rfl rfl rfl rfl rfl rfl ⟨rfl, rfl, rfl, rfl, rfl⟩ rfl rfl rfl rfl rfl (by kernel_rfl) Tryz.func7 (by kernel_rfl)
    (of_decide_eq_true (by kernel_rfl)) (by unfold Func.isWrapper; rw [if_neg (of_decide_eq_false (by kernel_rfl))]; exact ⟨rfl, rfl⟩)
    (fun os started H enc _ => frameSame_lifted os started H enc)

set_option maxRecDepth 100000 in
theorem frameSame_holds : Rows.FrameSameCardSaid :=
  Claim7.holds_tied_plain_at .later [] [.data, .data] true Rows.frameSameCard.stood.harness false
    frameSame_row (fun _ h => by cases h) (by kernel_rfl) (fun _ h => by cases h) frameSame_row_tie rfl ⟨rfl, rfl⟩ (by kernel_rfl) rfl
    (fun f fn hf hfn => by
      obtain rfl : f = 7 := Option.some.inj ((show Tryz.prog.funcNamed "breviary/breviarylaw13.FrameSame" = some 7 by kernel_rfl).symm.trans hf) |>.symm
      obtain rfl : fn = Tryz.f7 := (Option.some.inj (Tryz.func7.symm.trans hfn)).symm
      refine ⟨by kernel_rfl, fun j t ht => ?_⟩
      have hm : t ∈ Tryz.f7.params.toList := Array.mem_toList_iff.2 (Array.mem_of_getElem? ht)
      rw [Tryz.params7] at hm
      simp at hm
      subst hm
      exact (show Tryz.prog.wantsStandIn 26 = false by kernel_rfl))
    (by kernel_rfl)

#print axioms frameSame_holds

end Go.Proofs.YtihjcfifakcpgaaGreatDoor
