/-
  DERIVED. GIVEN WITH THE SEED: THE CARDS: each row of YtiacbhnkcllpjaaGreatDoorRows.lean that lists a variable, with what it lists TIED to the program's text (the seventh form; the later family's looks); each row that meets fmt, with fmt's text TOLD by the authors' own Lean function (tested against real Go, not proved from fmt's source: count such statements apart). THE CARD IS WHAT COUNTS. Prove the row's statement (the work); the ties are given (YtiacbhnkcllpjaaGreatDoorTie.lean); close each card by the builder's one call (the guide's Derived/Test/ToyasCard.lean, 'card_holds'). Laid BY PROGRAM, IN A SANDBOX (cutbox-door.mjs). By AI agents, Wed Nov 11 2026. No macro, syntax, notation, axiom, sorry.
-/
import Derived.Test.YtiacbhnkcllpjaaGreatDoorRows
import GoSem.ClaimSeven
namespace Go.Proofs.YtiacbhnkcllpjaaGreatDoor
namespace Rows

/-- THE TIED CARD OF 'breviarylaw17.ExecErrs'. -/
def execErrsCard : Claim7 := { stood := { row := execErrsRow, standIns := [], harness := (true, "10783cb056c88512447c6c8c2bf7c29546c0169667ab153ddb86d3d4298c7971"), looks := true }, kinds := [], alts := [], laidByText := true, laidKinds := [.data, .data, .data, .sentinel, .sentinel, .data, .data], laidTests := true, laidLooks := .later }
def ExecErrsCardSaid : Prop := Claim7.holds Tryz.pinned (.plain (OpenSpec.ofChange execErrsSpec)) execErrsCard

/-- THE TIED CARD OF 'breviarylaw19.ClientErrs'. -/
def clientErrsCard : Claim7 := { stood := { row := clientErrsRow, standIns := [], harness := (true, "10783cb056c88512447c6c8c2bf7c29546c0169667ab153ddb86d3d4298c7971"), looks := true }, kinds := [], alts := [], laidByText := true, laidKinds := [.data, .data, .data, .sentinel, .sentinel, .data, .data], laidTests := true, laidLooks := .later }
def ClientErrsCardSaid : Prop := Claim7.holds Tryz.pinned (.plain (OpenSpec.ofChange clientErrsSpec)) clientErrsCard

/-- THE TIED CARD OF 'breviarylaw12.RunClaims'. -/
def runClaimsCard : Claim7 := { stood := { row := runClaimsRow, standIns := [], harness := (true, "10783cb056c88512447c6c8c2bf7c29546c0169667ab153ddb86d3d4298c7971"), looks := true }, kinds := [], alts := [], laidByText := true, laidKinds := [.data, .data, .data, .sentinel, .sentinel, .data], laidTests := true, laidLooks := .later }
def RunClaimsCardSaid : Prop := Claim7.holds Tryz.pinned (.plain (OpenSpec.ofChange runClaimsSpec)) runClaimsCard

/-- THE TIED CARD OF 'breviarylaw12.RunFuel'. -/
def runFuelCard : Claim7 := { stood := { row := runFuelRow, standIns := [], harness := (true, "10783cb056c88512447c6c8c2bf7c29546c0169667ab153ddb86d3d4298c7971"), looks := true }, kinds := [], alts := [], laidByText := true, laidKinds := [.data, .data, .data, .sentinel, .sentinel, .data], laidTests := true, laidLooks := .later }
def RunFuelCardSaid : Prop := Claim7.holds Tryz.pinned (.plain (OpenSpec.ofChange runFuelSpec)) runFuelCard

/-- THE TIED CARD OF 'breviarylaw15.SerialFolds'. -/
def serialFoldsCard : Claim7 := { stood := { row := serialFoldsRow, standIns := [], harness := (true, "10783cb056c88512447c6c8c2bf7c29546c0169667ab153ddb86d3d4298c7971"), looks := true }, kinds := [], alts := [], laidByText := true, laidKinds := [.data, .data, .data, .sentinel, .sentinel, .data, .data], laidTests := true, laidLooks := .later }
def SerialFoldsCardSaid : Prop := Claim7.holds Tryz.pinned (.plain (OpenSpec.ofChange serialFoldsSpec)) serialFoldsCard

/-- THE TIED CARD OF 'breviarylaw15.SerialParts'. -/
def serialPartsCard : Claim7 := { stood := { row := serialPartsRow, standIns := [], harness := (true, "10783cb056c88512447c6c8c2bf7c29546c0169667ab153ddb86d3d4298c7971"), looks := true }, kinds := [], alts := [], laidByText := true, laidKinds := [.data, .data, .data, .sentinel, .sentinel, .data, .data], laidTests := true, laidLooks := .later }
def SerialPartsCardSaid : Prop := Claim7.holds Tryz.pinned (.plain (OpenSpec.ofChange serialPartsSpec)) serialPartsCard

/-- THE TIED CARD OF 'breviarylaw15.SerialOnes'. -/
def serialOnesCard : Claim7 := { stood := { row := serialOnesRow, standIns := [], harness := (true, "10783cb056c88512447c6c8c2bf7c29546c0169667ab153ddb86d3d4298c7971"), looks := true }, kinds := [], alts := [], laidByText := true, laidKinds := [.data, .data, .data, .sentinel, .sentinel, .data, .data], laidTests := true, laidLooks := .later }
def SerialOnesCardSaid : Prop := Claim7.holds Tryz.pinned (.plain (OpenSpec.ofChange serialOnesSpec)) serialOnesCard

/-- THE SECOND FORM's CARD OF 'breviarylaw17.ExecErrs'. -/
def execErrsUptoCard : Claim7 := { stood := { row := execErrsUptoRow, standIns := [], harness := (true, "10783cb056c88512447c6c8c2bf7c29546c0169667ab153ddb86d3d4298c7971"), looks := true }, kinds := [], alts := [], laidByText := true, laidKinds := [.data, .data, .data, .sentinel, .sentinel, .data, .data], laidTests := true, laidLooks := .later }
def ExecErrsUptoCardSaid : Prop := Claim7.holds Tryz.pinned (.plain (OpenSpec.upto execErrsSpec)) execErrsUptoCard

/-- THE SECOND FORM's CARD OF 'breviarylaw19.ClientErrs'. -/
def clientErrsUptoCard : Claim7 := { stood := { row := clientErrsUptoRow, standIns := [], harness := (true, "10783cb056c88512447c6c8c2bf7c29546c0169667ab153ddb86d3d4298c7971"), looks := true }, kinds := [], alts := [], laidByText := true, laidKinds := [.data, .data, .data, .sentinel, .sentinel, .data, .data], laidTests := true, laidLooks := .later }
def ClientErrsUptoCardSaid : Prop := Claim7.holds Tryz.pinned (.plain (OpenSpec.upto clientErrsSpec)) clientErrsUptoCard

/-- THE SECOND FORM's CARD OF 'breviarylaw12.RunClaims'. -/
def runClaimsUptoCard : Claim7 := { stood := { row := runClaimsUptoRow, standIns := [], harness := (true, "10783cb056c88512447c6c8c2bf7c29546c0169667ab153ddb86d3d4298c7971"), looks := true }, kinds := [], alts := [], laidByText := true, laidKinds := [.data, .data, .data, .sentinel, .sentinel, .data], laidTests := true, laidLooks := .later }
def RunClaimsUptoCardSaid : Prop := Claim7.holds Tryz.pinned (.plain (OpenSpec.upto runClaimsSpec)) runClaimsUptoCard

/-- THE SECOND FORM's CARD OF 'breviarylaw12.RunFuel'. -/
def runFuelUptoCard : Claim7 := { stood := { row := runFuelUptoRow, standIns := [], harness := (true, "10783cb056c88512447c6c8c2bf7c29546c0169667ab153ddb86d3d4298c7971"), looks := true }, kinds := [], alts := [], laidByText := true, laidKinds := [.data, .data, .data, .sentinel, .sentinel, .data], laidTests := true, laidLooks := .later }
def RunFuelUptoCardSaid : Prop := Claim7.holds Tryz.pinned (.plain (OpenSpec.upto runFuelSpec)) runFuelUptoCard

/-- THE SECOND FORM's CARD OF 'breviarylaw15.SerialFolds'. -/
def serialFoldsUptoCard : Claim7 := { stood := { row := serialFoldsUptoRow, standIns := [], harness := (true, "10783cb056c88512447c6c8c2bf7c29546c0169667ab153ddb86d3d4298c7971"), looks := true }, kinds := [], alts := [], laidByText := true, laidKinds := [.data, .data, .data, .sentinel, .sentinel, .data, .data], laidTests := true, laidLooks := .later }
def SerialFoldsUptoCardSaid : Prop := Claim7.holds Tryz.pinned (.plain (OpenSpec.upto serialFoldsSpec)) serialFoldsUptoCard

/-- THE SECOND FORM's CARD OF 'breviarylaw15.SerialParts'. -/
def serialPartsUptoCard : Claim7 := { stood := { row := serialPartsUptoRow, standIns := [], harness := (true, "10783cb056c88512447c6c8c2bf7c29546c0169667ab153ddb86d3d4298c7971"), looks := true }, kinds := [], alts := [], laidByText := true, laidKinds := [.data, .data, .data, .sentinel, .sentinel, .data, .data], laidTests := true, laidLooks := .later }
def SerialPartsUptoCardSaid : Prop := Claim7.holds Tryz.pinned (.plain (OpenSpec.upto serialPartsSpec)) serialPartsUptoCard

/-- THE SECOND FORM's CARD OF 'breviarylaw15.SerialOnes'. -/
def serialOnesUptoCard : Claim7 := { stood := { row := serialOnesUptoRow, standIns := [], harness := (true, "10783cb056c88512447c6c8c2bf7c29546c0169667ab153ddb86d3d4298c7971"), looks := true }, kinds := [], alts := [], laidByText := true, laidKinds := [.data, .data, .data, .sentinel, .sentinel, .data, .data], laidTests := true, laidLooks := .later }
def SerialOnesUptoCardSaid : Prop := Claim7.holds Tryz.pinned (.plain (OpenSpec.upto serialOnesSpec)) serialOnesUptoCard
end Rows
end Go.Proofs.YtiacbhnkcllpjaaGreatDoor
