/- Proved: ReplayErrs returns true for every input: what is wrong with lives (too few, too many, or the first one that may not be); no condition (the listed package variables start as the program's text lays them). -/
import Derived.Test.YtifpaagppjmbhaaGreatDoorReplE
import Derived.Test.YtifpaagppjmbhaaGreatDoorOpenL
import Derived.Test.YtifpaagppjmbhaaGreatDoorLaidA
import Derived.Test.YtifpaagppjmbhaaGreatDoorReplayErrsJ
import Derived.Test.YtifpaagppjmbhaaGreatDoorTie
import Derived.Test.YtifpaagppjmbhaaGreatDoorCards
namespace Go.Proofs.YtifpaagppjmbhaaGreatDoor
set_option maxRecDepth 100000
open Go.ChangeShapes Go.WideShapes Go.ChangeAt Go.RowKit Go.Deep

set_option maxRecDepth 100000 in
theorem replayErrs_lifted (os : Os) (started : os.Started) (H : Type) (enc : TypeId × Value → H) :
    ReturnsInHanded {} Tryz.checked os 7 .any (fun w args => (Rows.replayErrsSpec.pre enc Tryz.prog Tryz.f7 [] false w args ∧ laidMetH Tryz.prog Rows.replayErrsRow.laid w) ∧ sizedMet enc Tryz.prog Tryz.f7 (OpenSpec.ofChange Rows.replayErrsSpec) false w args) (Rows.replayErrsSpec.post enc Tryz.prog Tryz.f7 false true false false) := by
  refine law_lifted_laid os started H enc 7 Tryz.f7 Rows.replayErrsSpec Rows.replayErrsRow.laid (by kernel_rfl) Tryz.func7 rfl (by kernel_rfl) ?_ ?_
    (ChangeSpec.witness_shaped (enc := enc) (C := Tryz.checked) (os := os) (X := fun w _ => laidMetH Tryz.prog Rows.replayErrsRow.laid w) false (World.doorLaid Tryz.prog 200 os) #[.agg #[.int .i64 0, .int .i64 0, .int .i64 0], .slice none 0 0] 8 rfl (World.shaped_of_RefB (by kernel_rfl) (by kernel_rfl)) (by kernel_rfl) (by kernel_rfl) (by kernel_rfl)
      (laidMetH_of_parts3 (fuel := 8) (laidMet_of_run' 8 (by kernel_rfl) (by kernel_rfl)) (by kernel_rfl) (by kernel_rfl))) ?_
  · rw [Tryz.params7]
    intro t ht
    simp at ht
    rcases ht with rfl | rfl
    · exact ⟨by kernel_rfl, of_decide_eq_true (by kernel_rfl)⟩
    · exact ⟨by kernel_rfl, of_decide_eq_true (by kernel_rfl)⟩
  · intro ds hl
    rw [Tryz.params7] at hl
    match ds, hl with
    | [d1, d2], _ => exact ⟨rfl, rfl, rfl⟩
  · intro W base args ds p hL hval hA
    rw [Tryz.params7] at hA hval
    obtain ⟨v0, v1, d0, d1, p0, p1, hargs, rfl, rfl, h0, h1⟩ := trodAll_two hA
    subst hargs
    obtain ⟨c0, m0, f0, rfl, q0⟩ := open_cfg (hval 0 23 v0 rfl rfl) h0
    obtain ⟨l1, r1, f1⟩ := lives_of_trod (hval 1 100 v1 rfl rfl) h1
    exact rerrs_law W _ _ _ _ l1 r1 f1

theorem replayErrs_row : Rows.ReplayErrsSaid :=
  OpenClaim.holds_of_wide 7 Tryz.f7 rfl rfl rfl rfl rfl rfl rfl ⟨rfl, rfl, rfl, rfl, rfl⟩ rfl rfl rfl rfl rfl (by kernel_rfl) Tryz.func7 replayErrs_closed
    (of_decide_eq_true (by kernel_rfl)) (by unfold Func.isWrapper; rw [if_neg (of_decide_eq_false (by kernel_rfl))]; exact ⟨rfl, rfl⟩)
    (fun os started H enc _ => replayErrs_lifted os started H enc)

set_option maxRecDepth 100000 in
theorem replayErrs_holds : Rows.ReplayErrsCardSaid :=
  Claim7.holds_tied_plain_at .later [] [.data, .data, .data, .sentinel, .sentinel, .data, .data] true Rows.replayErrsCard.stood.harness true
    replayErrs_row (fun _ h => by cases h) replayErrs_k1 (fun _ h => by cases h) replayErrs_row_tie rfl ⟨rfl, rfl⟩ joinD rfl
    (fun f fn hf hfn => by
      obtain rfl : f = 7 := Option.some.inj ((show Tryz.prog.funcNamed "breviary/breviarylaw20.ReplayErrs" = some 7 by kernel_rfl).symm.trans hf) |>.symm
      obtain rfl : fn = Tryz.f7 := (Option.some.inj (Tryz.func7.symm.trans hfn)).symm
      refine ⟨joinC, fun j t ht => ?_⟩
      have hm : t ∈ Tryz.f7.params.toList := Array.mem_toList_iff.2 (Array.mem_of_getElem? ht)
      rw [Tryz.params7] at hm
      simp at hm
      rcases hm with rfl | rfl
      · exact (show Tryz.prog.wantsStandIn 23 = false by kernel_rfl)
      · exact (show Tryz.prog.wantsStandIn 100 = false by kernel_rfl))
    replayErrs_k2

#print axioms replayErrs_holds

end Go.Proofs.YtifpaagppjmbhaaGreatDoor
