/- Closed facts of the row of ExecErrs. -/
import Derived.Test.YtiacbhnkcllpjaaGreatDoorJoin
namespace Go.Proofs.YtiacbhnkcllpjaaGreatDoor
set_option maxRecDepth 100000

theorem execErrs_j1 : (Rows.execErrsRow.inPlace == Tryz.prog.inPlace 3) = true := by kernel_rfl
theorem execErrs_j2 : (Rows.execErrsRow.unfollowed == Tryz.prog.unfollowed 3) = true := by kernel_rfl
theorem execErrs_j3 : (Rows.execErrsRow.recurses == Tryz.prog.recurses 3) = true := by kernel_rfl
theorem execErrs_j4 : (Rows.execErrsRow.named == Tryz.prog.varsNamed 3) = true := by kernel_rfl
theorem execErrs_closed : joinedFacts Tryz.prog 3 Tryz.f3 Rows.execErrsSpec Rows.execErrsRow = true := by
  unfold joinedFacts
  simp only [Bool.and_eq_true]
  repeat' apply And.intro
  all_goals first | with_reducible exact joinA | with_reducible exact joinB | with_reducible exact execErrs_j1 | with_reducible exact execErrs_j2 | with_reducible exact execErrs_j3 | with_reducible exact execErrs_j4 | kernel_rfl
theorem execErrs_k1 : Rows.execErrsRow.wfByText (OpenSpec.ofChange Rows.execErrsSpec) = true := by kernel_rfl
theorem execErrs_k2 : false = Rows.execErrsRow.goesBy Tryz.pinned.checked.prog := by kernel_rfl
end Go.Proofs.YtiacbhnkcllpjaaGreatDoor
