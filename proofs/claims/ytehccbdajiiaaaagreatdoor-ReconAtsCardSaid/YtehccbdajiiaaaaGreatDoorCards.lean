/-
  DERIVED. GIVEN WITH THE SEED: THE CARDS: each row of YtehccbdajiiaaaaGreatDoorRows.lean that lists a variable, with what it lists TIED to the program's text (the seventh form; the later family's looks); each row that meets fmt, with fmt's text TOLD by the authors' own Lean function (tested against real Go, not proved from fmt's source: count such statements apart). THE CARD IS WHAT COUNTS. Prove the row's statement (the work); the ties are given (YtehccbdajiiaaaaGreatDoorTie.lean); close each card by the builder's one call (the guide's Derived/Test/ToyasCard.lean, 'card_holds'). Laid BY PROGRAM, IN A SANDBOX (cutbox-door.mjs). By AI agents, Wed Nov 11 2026. No macro, syntax, notation, axiom, sorry.
-/
import Derived.Test.YtehccbdajiiaaaaGreatDoorRows
import GoSem.ClaimSeven
namespace Go.Proofs.YtehccbdajiiaaaaGreatDoor
namespace Rows

/-- THE TIED CARD OF 'breviarylaw18.ReconParts'. -/
def reconPartsCard : Claim7 := { stood := { row := reconPartsRow, standIns := [], harness := (true, "736017e47a8315814ff50c4025c3bab5fa46e72e13938186e07c5768f6aaa04c"), looks := true }, kinds := [], alts := [], laidByText := true, laidKinds := [.data, .data, .data, .sentinel, .sentinel, .data, .data], laidTests := true, laidLooks := .later }
def ReconPartsCardSaid : Prop := Claim7.holds Tryz.pinned (.plain (OpenSpec.ofChange reconPartsSpec)) reconPartsCard

/-- THE TIED CARD OF 'breviarylaw15.SerialParts'. -/
def serialPartsCard : Claim7 := { stood := { row := serialPartsRow, standIns := [], harness := (true, "736017e47a8315814ff50c4025c3bab5fa46e72e13938186e07c5768f6aaa04c"), looks := true }, kinds := [], alts := [], laidByText := true, laidKinds := [.data, .data, .data, .sentinel, .sentinel, .data, .data], laidTests := true, laidLooks := .later }
def SerialPartsCardSaid : Prop := Claim7.holds Tryz.pinned (.plain (OpenSpec.ofChange serialPartsSpec)) serialPartsCard

/-- THE TIED CARD OF 'breviarylaw18.ReconAts'. -/
def reconAtsCard : Claim7 := { stood := { row := reconAtsRow, standIns := [], harness := (true, "736017e47a8315814ff50c4025c3bab5fa46e72e13938186e07c5768f6aaa04c"), looks := true }, kinds := [], alts := [], laidByText := true, laidKinds := [.data, .data, .data, .sentinel, .sentinel, .data, .data], laidTests := true, laidLooks := .later }
def ReconAtsCardSaid : Prop := Claim7.holds Tryz.pinned (.plain (OpenSpec.ofChange reconAtsSpec)) reconAtsCard

/-- THE SECOND FORM's CARD OF 'breviarylaw18.ReconParts'. -/
def reconPartsUptoCard : Claim7 := { stood := { row := reconPartsUptoRow, standIns := [], harness := (true, "736017e47a8315814ff50c4025c3bab5fa46e72e13938186e07c5768f6aaa04c"), looks := true }, kinds := [], alts := [], laidByText := true, laidKinds := [.data, .data, .data, .sentinel, .sentinel, .data, .data], laidTests := true, laidLooks := .later }
def ReconPartsUptoCardSaid : Prop := Claim7.holds Tryz.pinned (.plain (OpenSpec.upto reconPartsSpec)) reconPartsUptoCard

/-- THE SECOND FORM's CARD OF 'breviarylaw15.SerialParts'. -/
def serialPartsUptoCard : Claim7 := { stood := { row := serialPartsUptoRow, standIns := [], harness := (true, "736017e47a8315814ff50c4025c3bab5fa46e72e13938186e07c5768f6aaa04c"), looks := true }, kinds := [], alts := [], laidByText := true, laidKinds := [.data, .data, .data, .sentinel, .sentinel, .data, .data], laidTests := true, laidLooks := .later }
def SerialPartsUptoCardSaid : Prop := Claim7.holds Tryz.pinned (.plain (OpenSpec.upto serialPartsSpec)) serialPartsUptoCard

/-- THE SECOND FORM's CARD OF 'breviarylaw18.ReconAts'. -/
def reconAtsUptoCard : Claim7 := { stood := { row := reconAtsUptoRow, standIns := [], harness := (true, "736017e47a8315814ff50c4025c3bab5fa46e72e13938186e07c5768f6aaa04c"), looks := true }, kinds := [], alts := [], laidByText := true, laidKinds := [.data, .data, .data, .sentinel, .sentinel, .data, .data], laidTests := true, laidLooks := .later }
def ReconAtsUptoCardSaid : Prop := Claim7.holds Tryz.pinned (.plain (OpenSpec.upto reconAtsSpec)) reconAtsUptoCard
end Rows
end Go.Proofs.YtehccbdajiiaaaaGreatDoor
