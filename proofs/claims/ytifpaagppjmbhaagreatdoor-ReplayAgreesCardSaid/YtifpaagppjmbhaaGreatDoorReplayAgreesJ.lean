/- Closed facts of the row of ReplayAgrees. -/
import Derived.Test.YtifpaagppjmbhaaGreatDoorJoin
namespace Go.Proofs.YtifpaagppjmbhaaGreatDoor
set_option maxRecDepth 100000

theorem replayAgrees_j1 : (Rows.replayAgreesRow.inPlace == Tryz.prog.inPlace 6) = true := by kernel_rfl
theorem replayAgrees_j2 : (Rows.replayAgreesRow.unfollowed == Tryz.prog.unfollowed 6) = true := by kernel_rfl
theorem replayAgrees_j3 : (Rows.replayAgreesRow.recurses == Tryz.prog.recurses 6) = true := by kernel_rfl
theorem replayAgrees_j4 : (Rows.replayAgreesRow.named == Tryz.prog.varsNamed 6) = true := by kernel_rfl
theorem replayAgrees_closed : joinedFacts Tryz.prog 6 Tryz.f6 Rows.replayAgreesSpec Rows.replayAgreesRow = true := by
  unfold joinedFacts
  simp only [Bool.and_eq_true]
  repeat' apply And.intro
  all_goals first | with_reducible exact joinA | with_reducible exact joinB | with_reducible exact replayAgrees_j1 | with_reducible exact replayAgrees_j2 | with_reducible exact replayAgrees_j3 | with_reducible exact replayAgrees_j4 | kernel_rfl
theorem replayAgrees_k1 : Rows.replayAgreesRow.wfByText (OpenSpec.ofChange Rows.replayAgreesSpec) = true := by kernel_rfl
theorem replayAgrees_k2 : false = Rows.replayAgreesRow.goesBy Tryz.pinned.checked.prog := by kernel_rfl
end Go.Proofs.YtifpaagppjmbhaaGreatDoor
