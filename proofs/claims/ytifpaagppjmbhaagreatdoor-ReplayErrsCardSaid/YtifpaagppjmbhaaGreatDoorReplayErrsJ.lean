/- Closed facts of the row of ReplayErrs. -/
import Derived.Test.YtifpaagppjmbhaaGreatDoorJoin
namespace Go.Proofs.YtifpaagppjmbhaaGreatDoor
set_option maxRecDepth 100000

theorem replayErrs_j1 : (Rows.replayErrsRow.inPlace == Tryz.prog.inPlace 7) = true := by kernel_rfl
theorem replayErrs_j2 : (Rows.replayErrsRow.unfollowed == Tryz.prog.unfollowed 7) = true := by kernel_rfl
theorem replayErrs_j3 : (Rows.replayErrsRow.recurses == Tryz.prog.recurses 7) = true := by kernel_rfl
theorem replayErrs_j4 : (Rows.replayErrsRow.named == Tryz.prog.varsNamed 7) = true := by kernel_rfl
theorem replayErrs_closed : joinedFacts Tryz.prog 7 Tryz.f7 Rows.replayErrsSpec Rows.replayErrsRow = true := by
  unfold joinedFacts
  simp only [Bool.and_eq_true]
  repeat' apply And.intro
  all_goals first | with_reducible exact joinA | with_reducible exact joinB | with_reducible exact replayErrs_j1 | with_reducible exact replayErrs_j2 | with_reducible exact replayErrs_j3 | with_reducible exact replayErrs_j4 | kernel_rfl
theorem replayErrs_k1 : Rows.replayErrsRow.wfByText (OpenSpec.ofChange Rows.replayErrsSpec) = true := by kernel_rfl
theorem replayErrs_k2 : false = Rows.replayErrsRow.goesBy Tryz.pinned.checked.prog := by kernel_rfl
end Go.Proofs.YtifpaagppjmbhaaGreatDoor
