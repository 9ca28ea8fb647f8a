import Derived.Test.YtagemonojdgbdaaGreatDoorRows
import Derived.JoinedOf
import Derived.KernelRfl
import Derived.SevenTiedAt
namespace Go.Proofs.YtagemonojdgbdaaGreatDoor
set_option maxRecDepth 100000
theorem joinA : laidOutB Tryz.prog = true := by kernel_rfl
theorem joinB : mapsRowed Tryz.prog = true := by kernel_rfl
theorem joinC : true = Tryz.pinned.checked.prog.looks [] := by kernel_rfl
theorem joinD : Tryz.pinned.checked.prog.mainIs = some ((true, "7d19ad741bc7d54457f58fc14b5207be680021deb8a91240a65f9c6b3e66a265").1, (true, "7d19ad741bc7d54457f58fc14b5207be680021deb8a91240a65f9c6b3e66a265").2.toList) := by kernel_rfl
theorem clientErrs_j1 : (Rows.clientErrsRow.inPlace == Tryz.prog.inPlace 4) = true := by kernel_rfl
theorem clientErrs_j2 : (Rows.clientErrsRow.unfollowed == Tryz.prog.unfollowed 4) = true := by kernel_rfl
theorem clientErrs_j3 : (Rows.clientErrsRow.recurses == Tryz.prog.recurses 4) = true := by kernel_rfl
theorem clientErrs_j4 : (Rows.clientErrsRow.named == Tryz.prog.varsNamed 4) = true := by kernel_rfl
theorem clientErrs_closed : joinedFacts Tryz.prog 4 Tryz.f4 Rows.clientErrsSpec Rows.clientErrsRow = true := by
 unfold joinedFacts
 simp only [Bool.and_eq_true]
 repeat' apply And.intro
 all_goals first | with_reducible exact joinA | with_reducible exact joinB | with_reducible exact clientErrs_j1 | with_reducible exact clientErrs_j2 | with_reducible exact clientErrs_j3 | with_reducible exact clientErrs_j4 | kernel_rfl
theorem clientErrs_k1 : Rows.clientErrsRow.wfByText (OpenSpec.ofChange Rows.clientErrsSpec) = true := by kernel_rfl
theorem clientErrs_k2 : false = Rows.clientErrsRow.goesBy Tryz.pinned.checked.prog := by kernel_rfl
end Go.Proofs.YtagemonojdgbdaaGreatDoor
