/- Facts on the whole program, that each row asks. -/
import Derived.Test.YtifpaagppjmbhaaGreatDoorRows
import Derived.JoinedOf
import Derived.KernelRfl
import Derived.SevenTiedAt
namespace Go.Proofs.YtifpaagppjmbhaaGreatDoor
set_option maxRecDepth 100000
theorem joinA : laidOutB Tryz.prog = true := by kernel_rfl
theorem joinB : mapsRowed Tryz.prog = true := by kernel_rfl
theorem joinC : true = Tryz.pinned.checked.prog.looks [] := by kernel_rfl
theorem joinD : Tryz.pinned.checked.prog.mainIs = some ((true, "2258a185a4b1a788bfa7bf0b8e32401499b00a22c969d2f623946ed934b04c2e").1, (true, "2258a185a4b1a788bfa7bf0b8e32401499b00a22c969d2f623946ed934b04c2e").2.toList) := by kernel_rfl
end Go.Proofs.YtifpaagppjmbhaaGreatDoor
