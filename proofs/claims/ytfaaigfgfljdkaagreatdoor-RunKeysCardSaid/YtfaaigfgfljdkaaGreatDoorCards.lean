/-
  DERIVED. GIVEN WITH THE SEED: THE CARDS: each row of YtfaaigfgfljdkaaGreatDoorRows.lean that lists a variable, with what it lists TIED to the program's text (the seventh form; the later family's looks); each row that meets fmt, with fmt's text TOLD by the authors' own Lean function (tested against real Go, not proved from fmt's source: count such statements apart). THE CARD IS WHAT COUNTS. Prove the row's statement (the work); the ties are given (YtfaaigfgfljdkaaGreatDoorTie.lean); close each card by the builder's one call (the guide's Derived/Test/ToyasCard.lean, 'card_holds'). Laid BY PROGRAM, IN A SANDBOX (cutbox-door.mjs). By AI agents, Wed Nov 11 2026. No macro, syntax, notation, axiom, sorry.
-/
import Derived.Test.YtfaaigfgfljdkaaGreatDoorRows
import GoSem.ClaimSeven
namespace Go.Proofs.YtfaaigfgfljdkaaGreatDoor
namespace Rows

/-- THE TIED CARD OF 'breviarylaw12.RunKeys'. -/
def runKeysCard : Claim7 := { stood := { row := runKeysRow, standIns := [], harness := (true, "b99b1cf855292313ff695c5b1f8b9fb2f5d5b5d0dbc793f0d2d76e0c9cd77797"), looks := true }, kinds := [], alts := [], laidByText := true, laidKinds := [.data, .data, .data, .sentinel, .sentinel, .data], laidTests := true, laidLooks := .later }
def RunKeysCardSaid : Prop := Claim7.holds Tryz.pinned (.plain (OpenSpec.ofChange runKeysSpec)) runKeysCard

/-- THE TIED CARD OF 'breviarylaw12.RunSame'. -/
def runSameCard : Claim7 := { stood := { row := runSameRow, standIns := [], harness := (true, "b99b1cf855292313ff695c5b1f8b9fb2f5d5b5d0dbc793f0d2d76e0c9cd77797"), looks := true }, kinds := [], alts := [], laidByText := true, laidKinds := [.data, .data, .data, .sentinel, .sentinel, .data], laidTests := true, laidLooks := .later }
def RunSameCardSaid : Prop := Claim7.holds Tryz.pinned (.plain (OpenSpec.ofChange runSameSpec)) runSameCard

/-- THE TIED CARD OF 'breviarylaw12.RunClaims'. -/
def runClaimsCard : Claim7 := { stood := { row := runClaimsRow, standIns := [], harness := (true, "b99b1cf855292313ff695c5b1f8b9fb2f5d5b5d0dbc793f0d2d76e0c9cd77797"), looks := true }, kinds := [], alts := [], laidByText := true, laidKinds := [.data, .data, .data, .sentinel, .sentinel, .data], laidTests := true, laidLooks := .later }
def RunClaimsCardSaid : Prop := Claim7.holds Tryz.pinned (.plain (OpenSpec.ofChange runClaimsSpec)) runClaimsCard

/-- THE TIED CARD OF 'breviarylaw19.ClientErrs'. -/
def clientErrsCard : Claim7 := { stood := { row := clientErrsRow, standIns := [], harness := (true, "b99b1cf855292313ff695c5b1f8b9fb2f5d5b5d0dbc793f0d2d76e0c9cd77797"), looks := true }, kinds := [], alts := [], laidByText := true, laidKinds := [.data, .data, .data, .sentinel, .sentinel, .data, .data], laidTests := true, laidLooks := .later }
def ClientErrsCardSaid : Prop := Claim7.holds Tryz.pinned (.plain (OpenSpec.ofChange clientErrsSpec)) clientErrsCard

/-- THE TIED CARD OF 'breviarylaw12.RunFuel'. -/
def runFuelCard : Claim7 := { stood := { row := runFuelRow, standIns := [], harness := (true, "b99b1cf855292313ff695c5b1f8b9fb2f5d5b5d0dbc793f0d2d76e0c9cd77797"), looks := true }, kinds := [], alts := [], laidByText := true, laidKinds := [.data, .data, .data, .sentinel, .sentinel, .data], laidTests := true, laidLooks := .later }
def RunFuelCardSaid : Prop := Claim7.holds Tryz.pinned (.plain (OpenSpec.ofChange runFuelSpec)) runFuelCard

/-- THE TIED CARD OF 'breviarylaw15.SerialJudges'. -/
def serialJudgesCard : Claim7 := { stood := { row := serialJudgesRow, standIns := [], harness := (true, "b99b1cf855292313ff695c5b1f8b9fb2f5d5b5d0dbc793f0d2d76e0c9cd77797"), looks := true }, kinds := [], alts := [], laidByText := true, laidKinds := [.data, .data, .data, .sentinel, .sentinel, .data, .data], laidTests := true, laidLooks := .later }
def SerialJudgesCardSaid : Prop := Claim7.holds Tryz.pinned (.plain (OpenSpec.ofChange serialJudgesSpec)) serialJudgesCard

/-- THE TIED CARD OF 'breviarylaw15.SerialErrs'. -/
def serialErrsCard : Claim7 := { stood := { row := serialErrsRow, standIns := [], harness := (true, "b99b1cf855292313ff695c5b1f8b9fb2f5d5b5d0dbc793f0d2d76e0c9cd77797"), looks := true }, kinds := [], alts := [], laidByText := true, laidKinds := [.data, .data, .data, .sentinel, .sentinel, .data, .data], laidTests := true, laidLooks := .later }
def SerialErrsCardSaid : Prop := Claim7.holds Tryz.pinned (.plain (OpenSpec.ofChange serialErrsSpec)) serialErrsCard

/-- THE TIED CARD OF 'breviarylaw17.ExecErrs'. -/
def execErrsCard : Claim7 := { stood := { row := execErrsRow, standIns := [], harness := (true, "b99b1cf855292313ff695c5b1f8b9fb2f5d5b5d0dbc793f0d2d76e0c9cd77797"), looks := true }, kinds := [], alts := [], laidByText := true, laidKinds := [.data, .data, .data, .sentinel, .sentinel, .data, .data], laidTests := true, laidLooks := .later }
def ExecErrsCardSaid : Prop := Claim7.holds Tryz.pinned (.plain (OpenSpec.ofChange execErrsSpec)) execErrsCard

/-- THE TIED CARD OF 'breviarylaw20.ReplayAgrees'. -/
def replayAgreesCard : Claim7 := { stood := { row := replayAgreesRow, standIns := [], harness := (true, "b99b1cf855292313ff695c5b1f8b9fb2f5d5b5d0dbc793f0d2d76e0c9cd77797"), looks := true }, kinds := [], alts := [], laidByText := true, laidKinds := [.data, .data, .data, .sentinel, .sentinel, .data, .data], laidTests := true, laidLooks := .later }
def ReplayAgreesCardSaid : Prop := Claim7.holds Tryz.pinned (.plain (OpenSpec.ofChange replayAgreesSpec)) replayAgreesCard

/-- THE TIED CARD OF 'breviarylaw20.ReplayErrs'. -/
def replayErrsCard : Claim7 := { stood := { row := replayErrsRow, standIns := [], harness := (true, "b99b1cf855292313ff695c5b1f8b9fb2f5d5b5d0dbc793f0d2d76e0c9cd77797"), looks := true }, kinds := [], alts := [], laidByText := true, laidKinds := [.data, .data, .data, .sentinel, .sentinel, .data, .data], laidTests := true, laidLooks := .later }
def ReplayErrsCardSaid : Prop := Claim7.holds Tryz.pinned (.plain (OpenSpec.ofChange replayErrsSpec)) replayErrsCard

/-- THE SECOND FORM's CARD OF 'breviarylaw12.RunKeys'. -/
def runKeysUptoCard : Claim7 := { stood := { row := runKeysUptoRow, standIns := [], harness := (true, "b99b1cf855292313ff695c5b1f8b9fb2f5d5b5d0dbc793f0d2d76e0c9cd77797"), looks := true }, kinds := [], alts := [], laidByText := true, laidKinds := [.data, .data, .data, .sentinel, .sentinel, .data], laidTests := true, laidLooks := .later }
def RunKeysUptoCardSaid : Prop := Claim7.holds Tryz.pinned (.plain (OpenSpec.upto runKeysSpec)) runKeysUptoCard

/-- THE SECOND FORM's CARD OF 'breviarylaw12.RunSame'. -/
def runSameUptoCard : Claim7 := { stood := { row := runSameUptoRow, standIns := [], harness := (true, "b99b1cf855292313ff695c5b1f8b9fb2f5d5b5d0dbc793f0d2d76e0c9cd77797"), looks := true }, kinds := [], alts := [], laidByText := true, laidKinds := [.data, .data, .data, .sentinel, .sentinel, .data], laidTests := true, laidLooks := .later }
def RunSameUptoCardSaid : Prop := Claim7.holds Tryz.pinned (.plain (OpenSpec.upto runSameSpec)) runSameUptoCard

/-- THE SECOND FORM's CARD OF 'breviarylaw12.RunClaims'. -/
def runClaimsUptoCard : Claim7 := { stood := { row := runClaimsUptoRow, standIns := [], harness := (true, "b99b1cf855292313ff695c5b1f8b9fb2f5d5b5d0dbc793f0d2d76e0c9cd77797"), looks := true }, kinds := [], alts := [], laidByText := true, laidKinds := [.data, .data, .data, .sentinel, .sentinel, .data], laidTests := true, laidLooks := .later }
def RunClaimsUptoCardSaid : Prop := Claim7.holds Tryz.pinned (.plain (OpenSpec.upto runClaimsSpec)) runClaimsUptoCard

/-- THE SECOND FORM's CARD OF 'breviarylaw19.ClientErrs'. -/
def clientErrsUptoCard : Claim7 := { stood := { row := clientErrsUptoRow, standIns := [], harness := (true, "b99b1cf855292313ff695c5b1f8b9fb2f5d5b5d0dbc793f0d2d76e0c9cd77797"), looks := true }, kinds := [], alts := [], laidByText := true, laidKinds := [.data, .data, .data, .sentinel, .sentinel, .data, .data], laidTests := true, laidLooks := .later }
def ClientErrsUptoCardSaid : Prop := Claim7.holds Tryz.pinned (.plain (OpenSpec.upto clientErrsSpec)) clientErrsUptoCard

/-- THE SECOND FORM's CARD OF 'breviarylaw12.RunFuel'. -/
def runFuelUptoCard : Claim7 := { stood := { row := runFuelUptoRow, standIns := [], harness := (true, "b99b1cf855292313ff695c5b1f8b9fb2f5d5b5d0dbc793f0d2d76e0c9cd77797"), looks := true }, kinds := [], alts := [], laidByText := true, laidKinds := [.data, .data, .data, .sentinel, .sentinel, .data], laidTests := true, laidLooks := .later }
def RunFuelUptoCardSaid : Prop := Claim7.holds Tryz.pinned (.plain (OpenSpec.upto runFuelSpec)) runFuelUptoCard

/-- THE SECOND FORM's CARD OF 'breviarylaw15.SerialJudges'. -/
def serialJudgesUptoCard : Claim7 := { stood := { row := serialJudgesUptoRow, standIns := [], harness := (true, "b99b1cf855292313ff695c5b1f8b9fb2f5d5b5d0dbc793f0d2d76e0c9cd77797"), looks := true }, kinds := [], alts := [], laidByText := true, laidKinds := [.data, .data, .data, .sentinel, .sentinel, .data, .data], laidTests := true, laidLooks := .later }
def SerialJudgesUptoCardSaid : Prop := Claim7.holds Tryz.pinned (.plain (OpenSpec.upto serialJudgesSpec)) serialJudgesUptoCard

/-- THE SECOND FORM's CARD OF 'breviarylaw15.SerialErrs'. -/
def serialErrsUptoCard : Claim7 := { stood := { row := serialErrsUptoRow, standIns := [], harness := (true, "b99b1cf855292313ff695c5b1f8b9fb2f5d5b5d0dbc793f0d2d76e0c9cd77797"), looks := true }, kinds := [], alts := [], laidByText := true, laidKinds := [.data, .data, .data, .sentinel, .sentinel, .data, .data], laidTests := true, laidLooks := .later }
def SerialErrsUptoCardSaid : Prop := Claim7.holds Tryz.pinned (.plain (OpenSpec.upto serialErrsSpec)) serialErrsUptoCard

/-- THE SECOND FORM's CARD OF 'breviarylaw17.ExecErrs'. -/
def execErrsUptoCard : Claim7 := { stood := { row := execErrsUptoRow, standIns := [], harness := (true, "b99b1cf855292313ff695c5b1f8b9fb2f5d5b5d0dbc793f0d2d76e0c9cd77797"), looks := true }, kinds := [], alts := [], laidByText := true, laidKinds := [.data, .data, .data, .sentinel, .sentinel, .data, .data], laidTests := true, laidLooks := .later }
def ExecErrsUptoCardSaid : Prop := Claim7.holds Tryz.pinned (.plain (OpenSpec.upto execErrsSpec)) execErrsUptoCard

/-- THE SECOND FORM's CARD OF 'breviarylaw20.ReplayAgrees'. -/
def replayAgreesUptoCard : Claim7 := { stood := { row := replayAgreesUptoRow, standIns := [], harness := (true, "b99b1cf855292313ff695c5b1f8b9fb2f5d5b5d0dbc793f0d2d76e0c9cd77797"), looks := true }, kinds := [], alts := [], laidByText := true, laidKinds := [.data, .data, .data, .sentinel, .sentinel, .data, .data], laidTests := true, laidLooks := .later }
def ReplayAgreesUptoCardSaid : Prop := Claim7.holds Tryz.pinned (.plain (OpenSpec.upto replayAgreesSpec)) replayAgreesUptoCard

/-- THE SECOND FORM's CARD OF 'breviarylaw20.ReplayErrs'. -/
def replayErrsUptoCard : Claim7 := { stood := { row := replayErrsUptoRow, standIns := [], harness := (true, "b99b1cf855292313ff695c5b1f8b9fb2f5d5b5d0dbc793f0d2d76e0c9cd77797"), looks := true }, kinds := [], alts := [], laidByText := true, laidKinds := [.data, .data, .data, .sentinel, .sentinel, .data, .data], laidTests := true, laidLooks := .later }
def ReplayErrsUptoCardSaid : Prop := Claim7.holds Tryz.pinned (.plain (OpenSpec.upto replayErrsSpec)) replayErrsUptoCard
end Rows
end Go.Proofs.YtfaaigfgfljdkaaGreatDoor
