/- Proved: FrameWrites returns true for every input: which bytes an entry has, or what is wrong with it; no condition (the two listed package variables start as the program's text lays them). -/
import Derived.Test.YtihjcfifakcpgaaGreatDoorFrameWW
import Derived.Test.YtihjcfifakcpgaaGreatDoorFrO
import Derived.Test.YtihjcfifakcpgaaGreatDoorLaid
import Derived.Test.YtihjcfifakcpgaaGreatDoorTie
import Derived.Test.YtihjcfifakcpgaaGreatDoorCards
namespace Go.Proofs.YtihjcfifakcpgaaGreatDoor
set_option maxRecDepth 100000
open Go.ChangeShapes Go.WideShapes Go.ChangeAt Go.RowKit Go.Deep

set_option maxRecDepth 100000 in
theorem frameWrites_lifted (os : Os) (started : os.Started) (H : Type) (enc : TypeId × Value → H) :
    ReturnsInHanded {} Tryz.checked os 3 .any (fun w args => (Rows.frameWritesSpec.pre enc Tryz.prog Tryz.f3 [] false w args ∧ laidMetH Tryz.prog Rows.frameWritesRow.laid w) ∧ sizedMet enc Tryz.prog Tryz.f3 (OpenSpec.ofChange Rows.frameWritesSpec) false w args) (Rows.frameWritesSpec.post enc Tryz.prog Tryz.f3 false true false false) := by
  refine law_lifted_laid os started H enc 3 Tryz.f3 Rows.frameWritesSpec Rows.frameWritesRow.laid (by kernel_rfl) Tryz.func3 rfl (by kernel_rfl) ?_ ?_
    (ChangeSpec.witness_shaped (enc := enc) (C := Tryz.checked) (os := os) (X := fun w _ => laidMetH Tryz.prog Rows.frameWritesRow.laid w) false (World.doorLaid Tryz.prog 34 os) #[.agg #[.int .i64 0, .slice none 0 0, .slice none 0 0, .slice none 0 0]] 8 rfl (World.shaped_of_RefB (by kernel_rfl) (by kernel_rfl)) (by kernel_rfl) (by kernel_rfl) (by kernel_rfl)
      (laidMetH_of_parts3 (fuel := 8) (laidMet_of_run' 8 (by kernel_rfl) (by kernel_rfl)) (by kernel_rfl) (by kernel_rfl))) ?_
  · rw [Tryz.params3]
    intro t ht
    simp at ht
    subst ht
    exact ⟨by kernel_rfl, of_decide_eq_true (by kernel_rfl)⟩
  · intro ds hl
    rw [Tryz.params3] at hl
    match ds, hl with
    | [d1], _ => exact ⟨rfl, rfl, rfl⟩
  · intro W base args ds p hL hval hA
    rw [Tryz.params3] at hA hval
    have ht := nib_of_laid hL (by rfl) (by simp [Rows.frameWritesRow])
    have hs := sh_of_laid hL (by rfl) (by simp [Rows.frameWritesRow])
    obtain ⟨v0, d0, hargs, rfl, h0⟩ := trodAll_one hA
    subst hargs
    obtain ⟨e0, vo0, va0, vc0, rfl, q0⟩ := open_entry (hval 0 26 v0 rfl rfl) h0
    exact writes_law W e0 _ _ _ q0 hs ht

theorem frameWrites_row : Rows.FrameWritesSaid :=
  OpenClaim.holds_of_wide 3 Tryz.f3 rfl rfl rfl rfl rfl rfl rfl ⟨rfl, rfl, rfl, rfl, rfl⟩ rfl rfl rfl rfl rfl (by kernel_rfl) Tryz.func3 (by kernel_rfl)
    (of_decide_eq_true (by kernel_rfl)) (by unfold Func.isWrapper; rw [if_neg (of_decide_eq_false (by kernel_rfl))]; exact ⟨rfl, rfl⟩)
    (fun os started H enc _ => frameWrites_lifted os started H enc)

set_option maxRecDepth 100000 in
theorem frameWrites_holds : Rows.FrameWritesCardSaid :=
  Claim7.holds_tied_plain_at .later [] [.data, .data] true Rows.frameWritesCard.stood.harness false
    frameWrites_row (fun _ h => by cases h) (by kernel_rfl) (fun _ h => by cases h) frameWrites_row_tie rfl ⟨rfl, rfl⟩ (by kernel_rfl) rfl
    (fun f fn hf hfn => by
      obtain rfl : f = 3 := Option.some.inj ((show Tryz.prog.funcNamed "breviary/breviarylaw13.FrameWrites" = some 3 by kernel_rfl).symm.trans hf) |>.symm
      obtain rfl : fn = Tryz.f3 := (Option.some.inj (Tryz.func3.symm.trans hfn)).symm
      refine ⟨by kernel_rfl, fun j t ht => ?_⟩
      have hm : t ∈ Tryz.f3.params.toList := Array.mem_toList_iff.2 (Array.mem_of_getElem? ht)
      rw [Tryz.params3] at hm
      simp at hm
      subst hm
      exact (show Tryz.prog.wantsStandIn 26 = false by kernel_rfl))
    (by kernel_rfl)

#print axioms frameWrites_holds

end Go.Proofs.YtihjcfifakcpgaaGreatDoor
