/- Facts on the whole program, that each row asks. -/
import Derived.Test.YtiacbhnkcllpjaaGreatDoorRows
import Derived.JoinedOf
import Derived.KernelRfl
import Derived.SevenTiedAt
namespace Go.Proofs.YtiacbhnkcllpjaaGreatDoor
set_option maxRecDepth 100000
theorem joinA : laidOutB Tryz.prog = true := by kernel_rfl
theorem joinB : mapsRowed Tryz.prog = true := by kernel_rfl
theorem joinC : true = Tryz.pinned.checked.prog.looks [] := by kernel_rfl
theorem joinD : Tryz.pinned.checked.prog.mainIs = some ((true, "10783cb056c88512447c6c8c2bf7c29546c0169667ab153ddb86d3d4298c7971").1, (true, "10783cb056c88512447c6c8c2bf7c29546c0169667ab153ddb86d3d4298c7971").2.toList) := by kernel_rfl
end Go.Proofs.YtiacbhnkcllpjaaGreatDoor
