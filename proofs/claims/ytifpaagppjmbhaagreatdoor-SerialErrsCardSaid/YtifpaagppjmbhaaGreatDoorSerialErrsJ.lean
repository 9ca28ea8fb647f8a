/- Closed facts of the row of SerialErrs. -/
import Derived.Test.YtifpaagppjmbhaaGreatDoorJoin
namespace Go.Proofs.YtifpaagppjmbhaaGreatDoor
set_option maxRecDepth 100000

theorem serialErrs_j1 : (Rows.serialErrsRow.inPlace == Tryz.prog.inPlace 3) = true := by kernel_rfl
theorem serialErrs_j2 : (Rows.serialErrsRow.unfollowed == Tryz.prog.unfollowed 3) = true := by kernel_rfl
theorem serialErrs_j3 : (Rows.serialErrsRow.recurses == Tryz.prog.recurses 3) = true := by kernel_rfl
theorem serialErrs_j4 : (Rows.serialErrsRow.named == Tryz.prog.varsNamed 3) = true := by kernel_rfl
theorem serialErrs_closed : joinedFacts Tryz.prog 3 Tryz.f3 Rows.serialErrsSpec Rows.serialErrsRow = true := by
  unfold joinedFacts
  simp only [Bool.and_eq_true]
  repeat' apply And.intro
  all_goals first | with_reducible exact joinA | with_reducible exact joinB | with_reducible exact serialErrs_j1 | with_reducible exact serialErrs_j2 | with_reducible exact serialErrs_j3 | with_reducible exact serialErrs_j4 | kernel_rfl
theorem serialErrs_k1 : Rows.serialErrsRow.wfByText (OpenSpec.ofChange Rows.serialErrsSpec) = true := by kernel_rfl
theorem serialErrs_k2 : false = Rows.serialErrsRow.goesBy Tryz.pinned.checked.prog := by kernel_rfl
end Go.Proofs.YtifpaagppjmbhaaGreatDoor
