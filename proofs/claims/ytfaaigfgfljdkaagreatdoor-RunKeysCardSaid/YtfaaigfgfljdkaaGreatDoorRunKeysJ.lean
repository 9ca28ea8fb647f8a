/- Closed facts of the row of RunKeys. -/
import Derived.Test.YtfaaigfgfljdkaaGreatDoorJoin
namespace Go.Proofs.YtfaaigfgfljdkaaGreatDoor
set_option maxRecDepth 100000

theorem runKeys_j1 : (Rows.runKeysRow.inPlace == Tryz.prog.inPlace 3) = true := by kernel_rfl
theorem runKeys_j2 : (Rows.runKeysRow.unfollowed == Tryz.prog.unfollowed 3) = true := by kernel_rfl
theorem runKeys_j3 : (Rows.runKeysRow.recurses == Tryz.prog.recurses 3) = true := by kernel_rfl
theorem runKeys_j4 : (Rows.runKeysRow.named == Tryz.prog.varsNamed 3) = true := by kernel_rfl
theorem runKeys_closed : joinedFacts Tryz.prog 3 Tryz.f3 Rows.runKeysSpec Rows.runKeysRow = true := by
  unfold joinedFacts
  simp only [Bool.and_eq_true]
  repeat' apply And.intro
  all_goals first | with_reducible exact joinA | with_reducible exact joinB | with_reducible exact runKeys_j1 | with_reducible exact runKeys_j2 | with_reducible exact runKeys_j3 | with_reducible exact runKeys_j4 | kernel_rfl
theorem runKeys_k1 : Rows.runKeysRow.wfByText (OpenSpec.ofChange Rows.runKeysSpec) = true := by kernel_rfl
theorem runKeys_k2 : false = Rows.runKeysRow.goesBy Tryz.pinned.checked.prog := by kernel_rfl
end Go.Proofs.YtfaaigfgfljdkaaGreatDoor
