/- Proved: ReplayAgrees returns true for every input: whether all outcomes that were seen are the last ones; no condition (the listed package variables start as the program's text lays them). -/
import Derived.Test.YtifpaagppjmbhaaGreatDoorReplF
import Derived.Test.YtifpaagppjmbhaaGreatDoorOpenS
import Derived.Test.YtifpaagppjmbhaaGreatDoorLaidA
import Derived.Test.YtifpaagppjmbhaaGreatDoorReplayAgreesJ
import Derived.Test.YtifpaagppjmbhaaGreatDoorTie
import Derived.Test.YtifpaagppjmbhaaGreatDoorCards
namespace Go.Proofs.YtifpaagppjmbhaaGreatDoor
set_option maxRecDepth 100000
open Go.ChangeShapes Go.WideShapes Go.ChangeAt Go.RowKit Go.Deep

set_option maxRecDepth 100000 in
theorem replayAgrees_lifted (os : Os) (started : os.Started) (H : Type) (enc : TypeId × Value → H) :
    ReturnsInHanded {} Tryz.checked os 6 .any (fun w args => (Rows.replayAgreesSpec.pre enc Tryz.prog Tryz.f6 [] false w args ∧ laidMetH Tryz.prog Rows.replayAgreesRow.laid w) ∧ sizedMet enc Tryz.prog Tryz.f6 (OpenSpec.ofChange Rows.replayAgreesSpec) false w args) (Rows.replayAgreesSpec.post enc Tryz.prog Tryz.f6 false true false false) := by
  refine law_lifted_laid os started H enc 6 Tryz.f6 Rows.replayAgreesSpec Rows.replayAgreesRow.laid (by kernel_rfl) Tryz.func6 rfl (by kernel_rfl) ?_ ?_
    (ChangeSpec.witness_shaped (enc := enc) (C := Tryz.checked) (os := os) (X := fun w _ => laidMetH Tryz.prog Rows.replayAgreesRow.laid w) false (World.doorLaid Tryz.prog 200 os) #[.slice none 0 0, .slice none 0 0] 8 rfl (World.shaped_of_RefB (by kernel_rfl) (by kernel_rfl)) (by kernel_rfl) (by kernel_rfl) (by kernel_rfl)
      (laidMetH_of_parts3 (fuel := 8) (laidMet_of_run' 8 (by kernel_rfl) (by kernel_rfl)) (by kernel_rfl) (by kernel_rfl))) ?_
  · rw [Tryz.params6]
    intro t ht
    simp at ht
    rcases ht with rfl | rfl
    · exact ⟨by kernel_rfl, of_decide_eq_true (by kernel_rfl)⟩
    · exact ⟨by kernel_rfl, of_decide_eq_true (by kernel_rfl)⟩
  · intro ds hl
    rw [Tryz.params6] at hl
    match ds, hl with
    | [d1, d2], _ => exact ⟨rfl, rfl, rfl⟩
  · intro W base args ds p hL hval hA
    rw [Tryz.params6] at hA hval
    obtain ⟨v0, v1, d0, d1, p0, p1, hargs, rfl, rfl, h0, h1⟩ := trodAll_two hA
    subst hargs
    obtain ⟨l0, r0, f0⟩ := seens_of_trod (hval 0 87 v0 rfl rfl) h0
    obtain ⟨l1, r1, f1⟩ := outs_of_trod (hval 1 31 v1 rfl rfl) h1
    exact ragree_law W _ _ l0 l1 r0 r1

theorem replayAgrees_row : Rows.ReplayAgreesSaid :=
  OpenClaim.holds_of_wide 6 Tryz.f6 rfl rfl rfl rfl rfl rfl rfl ⟨rfl, rfl, rfl, rfl, rfl⟩ rfl rfl rfl rfl rfl (by kernel_rfl) Tryz.func6 replayAgrees_closed
    (of_decide_eq_true (by kernel_rfl)) (by unfold Func.isWrapper; rw [if_neg (of_decide_eq_false (by kernel_rfl))]; exact ⟨rfl, rfl⟩)
    (fun os started H enc _ => replayAgrees_lifted os started H enc)

set_option maxRecDepth 100000 in
theorem replayAgrees_holds : Rows.ReplayAgreesCardSaid :=
  Claim7.holds_tied_plain_at .later [] [.data, .data, .data, .sentinel, .sentinel, .data, .data] true Rows.replayAgreesCard.stood.harness true
    replayAgrees_row (fun _ h => by cases h) replayAgrees_k1 (fun _ h => by cases h) replayAgrees_row_tie rfl ⟨rfl, rfl⟩ joinD rfl
    (fun f fn hf hfn => by
      obtain rfl : f = 6 := Option.some.inj ((show Tryz.prog.funcNamed "breviary/breviarylaw20.ReplayAgrees" = some 6 by kernel_rfl).symm.trans hf) |>.symm
      obtain rfl : fn = Tryz.f6 := (Option.some.inj (Tryz.func6.symm.trans hfn)).symm
      refine ⟨joinC, fun j t ht => ?_⟩
      have hm : t ∈ Tryz.f6.params.toList := Array.mem_toList_iff.2 (Array.mem_of_getElem? ht)
      rw [Tryz.params6] at hm
      simp at hm
      rcases hm with rfl | rfl
      · exact (show Tryz.prog.wantsStandIn 87 = false by kernel_rfl)
      · exact (show Tryz.prog.wantsStandIn 31 = false by kernel_rfl))
    replayAgrees_k2

#print axioms replayAgrees_holds

end Go.Proofs.YtifpaagppjmbhaaGreatDoor
