/- Facts on the whole program, that each row asks. -/
import Derived.Test.YtfaaigfgfljdkaaGreatDoorRows
import Derived.JoinedOf
import Derived.KernelRfl
import Derived.SevenTiedAt
namespace Go.Proofs.YtfaaigfgfljdkaaGreatDoor
set_option maxRecDepth 100000
theorem joinA : laidOutB Tryz.prog = true := by kernel_rfl
theorem joinB : mapsRowed Tryz.prog = true := by kernel_rfl
theorem joinC : true = Tryz.pinned.checked.prog.looks [] := by kernel_rfl
theorem joinD : Tryz.pinned.checked.prog.mainIs = some ((true, "b99b1cf855292313ff695c5b1f8b9fb2f5d5b5d0dbc793f0d2d76e0c9cd77797").1, (true, "b99b1cf855292313ff695c5b1f8b9fb2f5d5b5d0dbc793f0d2d76e0c9cd77797").2.toList) := by kernel_rfl
end Go.Proofs.YtfaaigfgfljdkaaGreatDoor
