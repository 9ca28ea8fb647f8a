/- Proved: SerialJudges returns true for every input: which outcome an entry has, by the result of its run; no condition (the listed package variables start as the program's text lays them). -/
import Derived.Test.YtifpaagppjmbhaaGreatDoorSerJ
import Derived.Test.YtifpaagppjmbhaaGreatDoorOpenJ
import Derived.Test.YtifpaagppjmbhaaGreatDoorLaidA
import Derived.Test.YtifpaagppjmbhaaGreatDoorSerialJudgesJ
import Derived.Test.YtifpaagppjmbhaaGreatDoorTie
import Derived.Test.YtifpaagppjmbhaaGreatDoorCards
namespace Go.Proofs.YtifpaagppjmbhaaGreatDoor
set_option maxRecDepth 100000
open Go.ChangeShapes Go.WideShapes Go.ChangeAt Go.RowKit Go.Deep

set_option maxRecDepth 100000 in
theorem serialJudges_lifted (os : Os) (started : os.Started) (H : Type) (enc : TypeId × Value → H) :
    ReturnsInHanded {} Tryz.checked os 8 .any (fun w args => (Rows.serialJudgesSpec.pre enc Tryz.prog Tryz.f8 [] false w args ∧ laidMetH Tryz.prog Rows.serialJudgesRow.laid w) ∧ sizedMet enc Tryz.prog Tryz.f8 (OpenSpec.ofChange Rows.serialJudgesSpec) false w args) (Rows.serialJudgesSpec.post enc Tryz.prog Tryz.f8 false true false false) := by
  refine law_lifted_laid os started H enc 8 Tryz.f8 Rows.serialJudgesSpec Rows.serialJudgesRow.laid (by kernel_rfl) Tryz.func8 rfl (by kernel_rfl) ?_ ?_
    (ChangeSpec.witness_shaped (enc := enc) (C := Tryz.checked) (os := os) (X := fun w _ => laidMetH Tryz.prog Rows.serialJudgesRow.laid w) false (World.doorLaid Tryz.prog 200 os) #[.slice none 0 0, .slice none 0 0, .agg #[.int .i64 0, .int .i64 0, .int .i64 0]] 8 rfl (World.shaped_of_RefB (by kernel_rfl) (by kernel_rfl)) (by kernel_rfl) (by kernel_rfl) (by kernel_rfl)
      (laidMetH_of_parts3 (fuel := 8) (laidMet_of_run' 8 (by kernel_rfl) (by kernel_rfl)) (by kernel_rfl) (by kernel_rfl))) ?_
  · rw [Tryz.params8]
    intro t ht
    simp at ht
    rcases ht with rfl | rfl
    · exact ⟨by kernel_rfl, of_decide_eq_true (by kernel_rfl)⟩
    · exact ⟨by kernel_rfl, of_decide_eq_true (by kernel_rfl)⟩
  · intro ds hl
    rw [Tryz.params8] at hl
    match ds, hl with
    | [d1, d2, d3], _ => exact ⟨rfl, rfl, rfl⟩
  · intro W base args ds p hL hval hA
    rw [Tryz.params8] at hA hval
    obtain ⟨v0, v1, v2, d0, d1, d2, p0, p1, p2, hargs, rfl, rfl, h0, h1, h2⟩ := trodAll_three hA
    subst hargs
    obtain ⟨l0, r0, f0⟩ := claims_of_trod (hval 0 65 v0 rfl rfl) h0
    obtain ⟨l1, r1, f1⟩ := claims_of_trod (hval 1 65 v1 rfl rfl) h1
    obtain ⟨x0, x1, x2, rfl, q2⟩ := open_three (hval 2 92 v2 rfl rfl) h2
    exact sjudge_law W l0 l1 _ _ x0 x1 x2 r0 r1 f0 f1 q2.2.2

theorem serialJudges_row : Rows.SerialJudgesSaid :=
  OpenClaim.holds_of_wide 8 Tryz.f8 rfl rfl rfl rfl rfl rfl rfl ⟨rfl, rfl, rfl, rfl, rfl⟩ rfl rfl rfl rfl rfl (by kernel_rfl) Tryz.func8 serialJudges_closed
    (of_decide_eq_true (by kernel_rfl)) (by unfold Func.isWrapper; rw [if_neg (of_decide_eq_false (by kernel_rfl))]; exact ⟨rfl, rfl⟩)
    (fun os started H enc _ => serialJudges_lifted os started H enc)

set_option maxRecDepth 100000 in
theorem serialJudges_holds : Rows.SerialJudgesCardSaid :=
  Claim7.holds_tied_plain_at .later [] [.data, .data, .data, .sentinel, .sentinel, .data, .data] true Rows.serialJudgesCard.stood.harness true
    serialJudges_row (fun _ h => by cases h) serialJudges_k1 (fun _ h => by cases h) serialJudges_row_tie rfl ⟨rfl, rfl⟩ joinD rfl
    (fun f fn hf hfn => by
      obtain rfl : f = 8 := Option.some.inj ((show Tryz.prog.funcNamed "breviary/breviarylaw15.SerialJudges" = some 8 by kernel_rfl).symm.trans hf) |>.symm
      obtain rfl : fn = Tryz.f8 := (Option.some.inj (Tryz.func8.symm.trans hfn)).symm
      refine ⟨joinC, fun j t ht => ?_⟩
      have hm : t ∈ Tryz.f8.params.toList := Array.mem_toList_iff.2 (Array.mem_of_getElem? ht)
      rw [Tryz.params8] at hm
      simp at hm
      rcases hm with rfl | rfl
      · exact (show Tryz.prog.wantsStandIn 65 = false by kernel_rfl)
      · exact (show Tryz.prog.wantsStandIn 92 = false by kernel_rfl))
    serialJudges_k2

#print axioms serialJudges_holds

end Go.Proofs.YtifpaagppjmbhaaGreatDoor
