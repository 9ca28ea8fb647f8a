/- Closed facts of the row of SerialJudges. -/
import Derived.Test.YtifpaagppjmbhaaGreatDoorJoin
namespace Go.Proofs.YtifpaagppjmbhaaGreatDoor
set_option maxRecDepth 100000

theorem serialJudges_j1 : (Rows.serialJudgesRow.inPlace == Tryz.prog.inPlace 8) = true := by kernel_rfl
theorem serialJudges_j2 : (Rows.serialJudgesRow.unfollowed == Tryz.prog.unfollowed 8) = true := by kernel_rfl
theorem serialJudges_j3 : (Rows.serialJudgesRow.recurses == Tryz.prog.recurses 8) = true := by kernel_rfl
theorem serialJudges_j4 : (Rows.serialJudgesRow.named == Tryz.prog.varsNamed 8) = true := by kernel_rfl
theorem serialJudges_closed : joinedFacts Tryz.prog 8 Tryz.f8 Rows.serialJudgesSpec Rows.serialJudgesRow = true := by
  unfold joinedFacts
  simp only [Bool.and_eq_true]
  repeat' apply And.intro
  all_goals first | with_reducible exact joinA | with_reducible exact joinB | with_reducible exact serialJudges_j1 | with_reducible exact serialJudges_j2 | with_reducible exact serialJudges_j3 | with_reducible exact serialJudges_j4 | kernel_rfl
theorem serialJudges_k1 : Rows.serialJudgesRow.wfByText (OpenSpec.ofChange Rows.serialJudgesSpec) = true := by kernel_rfl
theorem serialJudges_k2 : false = Rows.serialJudgesRow.goesBy Tryz.pinned.checked.prog := by kernel_rfl
end Go.Proofs.YtifpaagppjmbhaaGreatDoor
