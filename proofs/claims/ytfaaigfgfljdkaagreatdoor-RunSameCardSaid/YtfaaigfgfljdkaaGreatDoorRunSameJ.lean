/- Closed facts of the row of RunSame. -/
import Derived.Test.YtfaaigfgfljdkaaGreatDoorJoin
namespace Go.Proofs.YtfaaigfgfljdkaaGreatDoor
set_option maxRecDepth 100000

theorem runSame_j1 : (Rows.runSameRow.inPlace == Tryz.prog.inPlace 4) = true := by kernel_rfl
theorem runSame_j2 : (Rows.runSameRow.unfollowed == Tryz.prog.unfollowed 4) = true := by kernel_rfl
theorem runSame_j3 : (Rows.runSameRow.recurses == Tryz.prog.recurses 4) = true := by kernel_rfl
theorem runSame_j4 : (Rows.runSameRow.named == Tryz.prog.varsNamed 4) = true := by kernel_rfl
theorem runSame_closed : joinedFacts Tryz.prog 4 Tryz.f4 Rows.runSameSpec Rows.runSameRow = true := by
  unfold joinedFacts
  simp only [Bool.and_eq_true]
  repeat' apply And.intro
  all_goals first | with_reducible exact joinA | with_reducible exact joinB | with_reducible exact runSame_j1 | with_reducible exact runSame_j2 | with_reducible exact runSame_j3 | with_reducible exact runSame_j4 | kernel_rfl
theorem runSame_k1 : Rows.runSameRow.wfByText (OpenSpec.ofChange Rows.runSameSpec) = true := by kernel_rfl
theorem runSame_k2 : false = Rows.runSameRow.goesBy Tryz.pinned.checked.prog := by kernel_rfl
end Go.Proofs.YtfaaigfgfljdkaaGreatDoor
