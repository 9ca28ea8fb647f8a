/- Proved: FrameReads returns true for every input: which bytes decode, and to what; no condition (the listed package variables start as the program's text lays them). -/
import Derived.Test.YtihjcfifakcpgaaGreatDoorFrameV
import Derived.Test.YtihjcfifakcpgaaGreatDoorFrO
import Derived.Test.YtihjcfifakcpgaaGreatDoorLaid
import Derived.Test.YtihjcfifakcpgaaGreatDoorOpen
import Derived.Test.YtihjcfifakcpgaaGreatDoorTie
import Derived.Test.YtihjcfifakcpgaaGreatDoorCards
namespace Go.Proofs.YtihjcfifakcpgaaGreatDoor
set_option maxRecDepth 100000
open Go.ChangeShapes Go.WideShapes Go.ChangeAt Go.RowKit Go.Deep

set_option maxRecDepth 100000 in
theorem frameReads_lifted (os : Os) (started : os.Started) (H : Type) (enc : TypeId × Value → H) :
    ReturnsInHanded {} Tryz.checked os 5 .any (fun w args => (Rows.frameReadsSpec.pre enc Tryz.prog Tryz.f5 [] false w args ∧ laidMetH Tryz.prog Rows.frameReadsRow.laid w) ∧ sizedMet enc Tryz.prog Tryz.f5 (OpenSpec.ofChange Rows.frameReadsSpec) false w args) (Rows.frameReadsSpec.post enc Tryz.prog Tryz.f5 false true false false) := by
  refine law_lifted_laid os started H enc 5 Tryz.f5 Rows.frameReadsSpec Rows.frameReadsRow.laid (by kernel_rfl) Tryz.func5 rfl (by kernel_rfl) ?_ ?_
    (ChangeSpec.witness_shaped (enc := enc) (C := Tryz.checked) (os := os) (X := fun w _ => laidMetH Tryz.prog Rows.frameReadsRow.laid w) false (World.doorLaid Tryz.prog 34 os) #[.slice none 0 0, .bool false] 8 rfl (World.shaped_of_RefB (by kernel_rfl) (by kernel_rfl)) (by kernel_rfl) (by kernel_rfl) (by kernel_rfl)
      (laidMetH_of_parts3 (fuel := 8) (laidMet_of_run' 8 (by kernel_rfl) (by kernel_rfl)) (by kernel_rfl) (by kernel_rfl))) ?_
  · rw [Tryz.params5]
    intro t ht
    simp at ht
    rcases ht with rfl | rfl
    · exact ⟨by kernel_rfl, of_decide_eq_true (by kernel_rfl)⟩
    · exact ⟨by kernel_rfl, of_decide_eq_true (by kernel_rfl)⟩
  · intro ds hl
    rw [Tryz.params5] at hl
    match ds, hl with
    | [d1, d2], _ => exact ⟨rfl, rfl, rfl⟩
  · intro W base args ds p hL hval hA
    rw [Tryz.params5] at hA hval
    have ht := nib_of_laid hL (by rfl) (by simp [Rows.frameReadsRow])
    have hs := sh_of_laid hL (by rfl) (by simp [Rows.frameReadsRow])
    obtain ⟨v0, v1, d0, d1, p0, p1, hargs, rfl, rfl, h0, h1⟩ := trodAll_two hA
    subst hargs
    obtain ⟨x0, q0⟩ := bytes_of_trod (hval 0 31 v0 rfl rfl) h0
    obtain ⟨n1, rfl, rfl, rfl⟩ := open_bool Tryz.underlying4 (hval 1 4 v1 rfl rfl) h1
    exact reads_law W _ x0 n1 q0 hs ht

theorem frameReads_row : Rows.FrameReadsSaid :=
  OpenClaim.holds_of_wide 5 Tryz.f5 rfl rfl rfl rfl rfl rfl rfl ⟨rfl, rfl, rfl, rfl, rfl⟩ rfl rfl rfl rfl rfl (by kernel_rfl) Tryz.func5 (by kernel_rfl)
    (of_decide_eq_true (by kernel_rfl)) (by unfold Func.isWrapper; rw [if_neg (of_decide_eq_false (by kernel_rfl))]; exact ⟨rfl, rfl⟩)
    (fun os started H enc _ => frameReads_lifted os started H enc)

set_option maxRecDepth 100000 in
theorem frameReads_holds : Rows.FrameReadsCardSaid :=
  Claim7.holds_tied_plain_at .later [] [.data, .data] true Rows.frameReadsCard.stood.harness false
    frameReads_row (fun _ h => by cases h) (by kernel_rfl) (fun _ h => by cases h) frameReads_row_tie rfl ⟨rfl, rfl⟩ (by kernel_rfl) rfl
    (fun f fn hf hfn => by
      obtain rfl : f = 5 := Option.some.inj ((show Tryz.prog.funcNamed "breviary/breviarylaw13.FrameReads" = some 5 by kernel_rfl).symm.trans hf) |>.symm
      obtain rfl : fn = Tryz.f5 := (Option.some.inj (Tryz.func5.symm.trans hfn)).symm
      refine ⟨by kernel_rfl, fun j t ht => ?_⟩
      have hm : t ∈ Tryz.f5.params.toList := Array.mem_toList_iff.2 (Array.mem_of_getElem? ht)
      rw [Tryz.params5] at hm
      simp at hm
      rcases hm with rfl | rfl
      · exact (show Tryz.prog.wantsStandIn 31 = false by kernel_rfl)
      · exact (show Tryz.prog.wantsStandIn 4 = false by kernel_rfl))
    (by kernel_rfl)

#print axioms frameReads_holds

end Go.Proofs.YtihjcfifakcpgaaGreatDoor
