/- Proved: FrameBack returns true for every input: decoding of encoding is the entry, encoding of decoding the bytes; no condition (the two listed package variables start as the program's text lays them). -/
import Derived.Test.YtihjcfifakcpgaaGreatDoorFrameBW
import Derived.Test.YtihjcfifakcpgaaGreatDoorFrO
import Derived.Test.YtihjcfifakcpgaaGreatDoorLaid
import Derived.Test.YtihjcfifakcpgaaGreatDoorOpen
import Derived.Test.YtihjcfifakcpgaaGreatDoorTie
import Derived.Test.YtihjcfifakcpgaaGreatDoorCards
namespace Go.Proofs.YtihjcfifakcpgaaGreatDoor
set_option maxRecDepth 100000
open Go.ChangeShapes Go.WideShapes Go.ChangeAt Go.RowKit Go.Deep

set_option maxRecDepth 100000 in
theorem frameBack_lifted (os : Os) (started : os.Started) (H : Type) (enc : TypeId × Value → H) :
    ReturnsInHanded {} Tryz.checked os 6 .any (fun w args => (Rows.frameBackSpec.pre enc Tryz.prog Tryz.f6 [] false w args ∧ laidMetH Tryz.prog Rows.frameBackRow.laid w) ∧ sizedMet enc Tryz.prog Tryz.f6 (OpenSpec.ofChange Rows.frameBackSpec) false w args) (Rows.frameBackSpec.post enc Tryz.prog Tryz.f6 false true false false) := by
  refine law_lifted_laid os started H enc 6 Tryz.f6 Rows.frameBackSpec Rows.frameBackRow.laid (by kernel_rfl) Tryz.func6 rfl (by kernel_rfl) ?_ ?_
    (ChangeSpec.witness_shaped (enc := enc) (C := Tryz.checked) (os := os) (X := fun w _ => laidMetH Tryz.prog Rows.frameBackRow.laid w) false (World.doorLaid Tryz.prog 34 os) #[.agg #[.int .i64 0, .slice none 0 0, .slice none 0 0, .slice none 0 0], .slice none 0 0] 8 rfl (World.shaped_of_RefB (by kernel_rfl) (by kernel_rfl)) (by kernel_rfl) (by kernel_rfl) (by kernel_rfl)
      (laidMetH_of_parts3 (fuel := 8) (laidMet_of_run' 8 (by kernel_rfl) (by kernel_rfl)) (by kernel_rfl) (by kernel_rfl))) ?_
  · rw [Tryz.params6]
    intro t ht
    simp at ht
    rcases ht with rfl | rfl
    · exact ⟨by kernel_rfl, of_decide_eq_true (by kernel_rfl)⟩
    · exact ⟨by kernel_rfl, of_decide_eq_true (by kernel_rfl)⟩
  · intro ds hl
    rw [Tryz.params6] at hl
    match ds, hl with
    | [d1, d2], _ => exact ⟨rfl, rfl, rfl⟩
  · intro W base args ds p hL hval hA
    rw [Tryz.params6] at hA hval
    have ht := nib_of_laid hL (by rfl) (by simp [Rows.frameBackRow])
    have hs := sh_of_laid hL (by rfl) (by simp [Rows.frameBackRow])
    obtain ⟨v0, v1, d0, d1, p0, p1, hargs, rfl, rfl, h0, h1⟩ := trodAll_two hA
    subst hargs
    obtain ⟨e0, vo0, va0, vc0, rfl, q0⟩ := open_entry (hval 0 26 v0 rfl rfl) h0
    obtain ⟨x1, q1⟩ := bytes_of_trod (hval 1 31 v1 rfl rfl) h1
    exact back_law W e0 _ _ _ _ x1 q0 q1 hs ht

theorem frameBack_row : Rows.FrameBackSaid :=
  OpenClaim.holds_of_wide 6 Tryz.f6 rfl rfl rfl rfl rfl rfl rfl ⟨rfl, rfl, rfl, rfl, rfl⟩ rfl rfl rfl rfl rfl (by kernel_rfl) Tryz.func6 (by kernel_rfl)
    (of_decide_eq_true (by kernel_rfl)) (by unfold Func.isWrapper; rw [if_neg (of_decide_eq_false (by kernel_rfl))]; exact ⟨rfl, rfl⟩)
    (fun os started H enc _ => frameBack_lifted os started H enc)

set_option maxRecDepth 100000 in
theorem frameBack_holds : Rows.FrameBackCardSaid :=
  Claim7.holds_tied_plain_at .later [] [.data, .data] true Rows.frameBackCard.stood.harness false
    frameBack_row (fun _ h => by cases h) (by kernel_rfl) (fun _ h => by cases h) frameBack_row_tie rfl ⟨rfl, rfl⟩ (by kernel_rfl) rfl
    (fun f fn hf hfn => by
      obtain rfl : f = 6 := Option.some.inj ((show Tryz.prog.funcNamed "breviary/breviarylaw13.FrameBack" = some 6 by kernel_rfl).symm.trans hf) |>.symm
      obtain rfl : fn = Tryz.f6 := (Option.some.inj (Tryz.func6.symm.trans hfn)).symm
      refine ⟨by kernel_rfl, fun j t ht => ?_⟩
      have hm : t ∈ Tryz.f6.params.toList := Array.mem_toList_iff.2 (Array.mem_of_getElem? ht)
      rw [Tryz.params6] at hm
      simp at hm
      rcases hm with rfl | rfl
      · exact (show Tryz.prog.wantsStandIn 26 = false by kernel_rfl)
      · exact (show Tryz.prog.wantsStandIn 31 = false by kernel_rfl))
    (by kernel_rfl)

#print axioms frameBack_holds

end Go.Proofs.YtihjcfifakcpgaaGreatDoor
