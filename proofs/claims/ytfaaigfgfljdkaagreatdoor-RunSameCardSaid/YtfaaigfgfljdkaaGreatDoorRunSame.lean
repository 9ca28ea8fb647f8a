/- Proved: RunSame returns true for every input: which results are the same; no condition (the listed package variables start as the program's text lays them). -/
import Derived.Test.YtfaaigfgfljdkaaGreatDoorRunSameW
import Derived.Test.YtfaaigfgfljdkaaGreatDoorOpenT
import Derived.Test.YtfaaigfgfljdkaaGreatDoorLaidT
import Derived.Test.YtfaaigfgfljdkaaGreatDoorRunSameJ
import Derived.Test.YtfaaigfgfljdkaaGreatDoorTie
import Derived.Test.YtfaaigfgfljdkaaGreatDoorCards
namespace Go.Proofs.YtfaaigfgfljdkaaGreatDoor
set_option maxRecDepth 100000
open Go.ChangeShapes Go.WideShapes Go.ChangeAt Go.RowKit Go.Deep

set_option maxRecDepth 100000 in
theorem runSame_lifted (os : Os) (started : os.Started) (H : Type) (enc : TypeId × Value → H) :
    ReturnsInHanded {} Tryz.checked os 4 .any (fun w args => (Rows.runSameSpec.pre enc Tryz.prog Tryz.f4 [] false w args ∧ laidMetH Tryz.prog Rows.runSameRow.laid w) ∧ sizedMet enc Tryz.prog Tryz.f4 (OpenSpec.ofChange Rows.runSameSpec) false w args) (Rows.runSameSpec.post enc Tryz.prog Tryz.f4 false true false false) := by
  refine law_lifted_laid os started H enc 4 Tryz.f4 Rows.runSameSpec Rows.runSameRow.laid (by kernel_rfl) Tryz.func4 rfl (by kernel_rfl) ?_ ?_
    (ChangeSpec.witness_shaped (enc := enc) (C := Tryz.checked) (os := os) (X := fun w _ => laidMetH Tryz.prog Rows.runSameRow.laid w) false (World.doorLaid Tryz.prog 200 os) #[.slice none 0 0, .slice none 0 0, .agg #[.int .i64 0, .int .i64 0, .int .i64 0, .int .i64 0, .int .i64 0, .int .i64 0]] 8 rfl (World.shaped_of_RefB (by kernel_rfl) (by kernel_rfl)) (by kernel_rfl) (by kernel_rfl) (by kernel_rfl)
      (laidMetH_of_parts3 (fuel := 8) (laidMet_of_run' 8 (by kernel_rfl) (by kernel_rfl)) (by kernel_rfl) (by kernel_rfl))) ?_
  · rw [Tryz.params4]
    intro t ht
    simp at ht
    rcases ht with rfl | rfl
    · exact ⟨by kernel_rfl, of_decide_eq_true (by kernel_rfl)⟩
    · exact ⟨by kernel_rfl, of_decide_eq_true (by kernel_rfl)⟩
  · intro ds hl
    rw [Tryz.params4] at hl
    match ds, hl with
    | [d1, d2, d3], _ => exact ⟨rfl, rfl, rfl⟩
  · intro W base args ds p hL hval hA
    rw [Tryz.params4] at hA hval
    have hs := sh_of_laid hL (by rfl) (by simp [Rows.runSameRow])
    have h10 := tab10_of_laid hL (by rfl) (by simp [Rows.runSameRow])
    obtain ⟨v0, v1, v2, d0, d1, d2, p0, p1, p2, hargs, rfl, rfl, h0, h1, h2⟩ := trodAll_three hA
    subst hargs
    obtain ⟨l0, r0, f0⟩ := claims_of_trod (hval 0 27 v0 rfl rfl) h0
    obtain ⟨l1, r1, f1⟩ := claims_of_trod (hval 1 27 v1 rfl rfl) h1
    obtain ⟨x0, x1, x2, x3, x4, x5, rfl, q2⟩ := open_two3 (hval 2 29 v2 rfl rfl) h2
    exact rsame_law W l0 l1 _ _ x0 x1 x2 x3 x4 x5 r0 r1 f0 f1 hs h10

theorem runSame_row : Rows.RunSameSaid :=
  OpenClaim.holds_of_wide 4 Tryz.f4 rfl rfl rfl rfl rfl rfl rfl ⟨rfl, rfl, rfl, rfl, rfl⟩ rfl rfl rfl rfl rfl (by kernel_rfl) Tryz.func4 runSame_closed
    (of_decide_eq_true (by kernel_rfl)) (by unfold Func.isWrapper; rw [if_neg (of_decide_eq_false (by kernel_rfl))]; exact ⟨rfl, rfl⟩)
    (fun os started H enc _ => runSame_lifted os started H enc)

set_option maxRecDepth 100000 in
theorem runSame_holds : Rows.RunSameCardSaid :=
  Claim7.holds_tied_plain_at .later [] [.data, .data, .data, .sentinel, .sentinel, .data] true Rows.runSameCard.stood.harness true
    runSame_row (fun _ h => by cases h) runSame_k1 (fun _ h => by cases h) runSame_row_tie rfl ⟨rfl, rfl⟩ joinD rfl
    (fun f fn hf hfn => by
      obtain rfl : f = 4 := Option.some.inj ((show Tryz.prog.funcNamed "breviary/breviarylaw12.RunSame" = some 4 by kernel_rfl).symm.trans hf) |>.symm
      obtain rfl : fn = Tryz.f4 := (Option.some.inj (Tryz.func4.symm.trans hfn)).symm
      refine ⟨joinC, fun j t ht => ?_⟩
      have hm : t ∈ Tryz.f4.params.toList := Array.mem_toList_iff.2 (Array.mem_of_getElem? ht)
      rw [Tryz.params4] at hm
      simp at hm
      rcases hm with rfl | rfl
      · exact (show Tryz.prog.wantsStandIn 27 = false by kernel_rfl)
      · exact (show Tryz.prog.wantsStandIn 29 = false by kernel_rfl))
    runSame_k2

#print axioms runSame_holds

end Go.Proofs.YtfaaigfgfljdkaaGreatDoor
