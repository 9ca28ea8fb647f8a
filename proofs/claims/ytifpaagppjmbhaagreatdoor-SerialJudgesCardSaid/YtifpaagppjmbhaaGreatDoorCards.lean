/-
  DERIVED. GIVEN WITH THE SEED: THE CARDS: each row of YtifpaagppjmbhaaGreatDoorRows.lean that lists a variable, with what it lists TIED to the program's text (the seventh form; the later family's looks); each row that meets fmt, with fmt's text TOLD by the authors' own Lean function (tested against real Go, not proved from fmt's source: count such statements apart). THE CARD IS WHAT COUNTS. Prove the row's statement (the work); the ties are given (YtifpaagppjmbhaaGreatDoorTie.lean); close each card by the builder's one call (the guide's Derived/Test/ToyasCard.lean, 'card_holds'). Laid BY PROGRAM, IN A SANDBOX (cutbox-door.mjs). By AI agents, Wed Nov 11 2026. No macro, syntax, notation, axiom, sorry.
-/
import Derived.Test.YtifpaagppjmbhaaGreatDoorRows
import GoSem.ClaimSeven
namespace Go.Proofs.YtifpaagppjmbhaaGreatDoor
namespace Rows

/-- THE TIED CARD OF 'breviarylaw15.SerialErrs'. -/
def serialErrsCard : Claim7 := { stood := { row := serialErrsRow, standIns := [], harness := (true, "2258a185a4b1a788bfa7bf0b8e32401499b00a22c969d2f623946ed934b04c2e"), looks := true }, kinds := [], alts := [], laidByText := true, laidKinds := [.data, .data, .data, .sentinel, .sentinel, .data, .data], laidTests := true, laidLooks := .later }
def SerialErrsCardSaid : Prop := Claim7.holds Tryz.pinned (.plain (OpenSpec.ofChange serialErrsSpec)) serialErrsCard

/-- THE TIED CARD OF 'breviarylaw19.ClientErrs'. -/
def clientErrsCard : Claim7 := { stood := { row := clientErrsRow, standIns := [], harness := (true, "2258a185a4b1a788bfa7bf0b8e32401499b00a22c969d2f623946ed934b04c2e"), looks := true }, kinds := [], alts := [], laidByText := true, laidKinds := [.data, .data, .data, .sentinel, .sentinel, .data, .data], laidTests := true, laidLooks := .later }
def ClientErrsCardSaid : Prop := Claim7.holds Tryz.pinned (.plain (OpenSpec.ofChange clientErrsSpec)) clientErrsCard

/-- THE TIED CARD OF 'breviarylaw17.ExecErrs'. -/
def execErrsCard : Claim7 := { stood := { row := execErrsRow, standIns := [], harness := (true, "2258a185a4b1a788bfa7bf0b8e32401499b00a22c969d2f623946ed934b04c2e"), looks := true }, kinds := [], alts := [], laidByText := true, laidKinds := [.data, .data, .data, .sentinel, .sentinel, .data, .data], laidTests := true, laidLooks := .later }
def ExecErrsCardSaid : Prop := Claim7.holds Tryz.pinned (.plain (OpenSpec.ofChange execErrsSpec)) execErrsCard

/-- THE TIED CARD OF 'breviarylaw20.ReplayAgrees'. -/
def replayAgreesCard : Claim7 := { stood := { row := replayAgreesRow, standIns := [], harness := (true, "2258a185a4b1a788bfa7bf0b8e32401499b00a22c969d2f623946ed934b04c2e"), looks := true }, kinds := [], alts := [], laidByText := true, laidKinds := [.data, .data, .data, .sentinel, .sentinel, .data, .data], laidTests := true, laidLooks := .later }
def ReplayAgreesCardSaid : Prop := Claim7.holds Tryz.pinned (.plain (OpenSpec.ofChange replayAgreesSpec)) replayAgreesCard

/-- THE TIED CARD OF 'breviarylaw20.ReplayErrs'. -/
def replayErrsCard : Claim7 := { stood := { row := replayErrsRow, standIns := [], harness := (true, "2258a185a4b1a788bfa7bf0b8e32401499b00a22c969d2f623946ed934b04c2e"), looks := true }, kinds := [], alts := [], laidByText := true, laidKinds := [.data, .data, .data, .sentinel, .sentinel, .data, .data], laidTests := true, laidLooks := .later }
def ReplayErrsCardSaid : Prop := Claim7.holds Tryz.pinned (.plain (OpenSpec.ofChange replayErrsSpec)) replayErrsCard

/-- THE TIED CARD OF 'breviarylaw15.SerialJudges'. -/
def serialJudgesCard : Claim7 := { stood := { row := serialJudgesRow, standIns := [], harness := (true, "2258a185a4b1a788bfa7bf0b8e32401499b00a22c969d2f623946ed934b04c2e"), looks := true }, kinds := [], alts := [], laidByText := true, laidKinds := [.data, .data, .data, .sentinel, .sentinel, .data, .data], laidTests := true, laidLooks := .later }
def SerialJudgesCardSaid : Prop := Claim7.holds Tryz.pinned (.plain (OpenSpec.ofChange serialJudgesSpec)) serialJudgesCard

/-- THE SECOND FORM's CARD OF 'breviarylaw15.SerialErrs'. -/
def serialErrsUptoCard : Claim7 := { stood := { row := serialErrsUptoRow, standIns := [], harness := (true, "2258a185a4b1a788bfa7bf0b8e32401499b00a22c969d2f623946ed934b04c2e"), looks := true }, kinds := [], alts := [], laidByText := true, laidKinds := [.data, .data, .data, .sentinel, .sentinel, .data, .data], laidTests := true, laidLooks := .later }
def SerialErrsUptoCardSaid : Prop := Claim7.holds Tryz.pinned (.plain (OpenSpec.upto serialErrsSpec)) serialErrsUptoCard

/-- THE SECOND FORM's CARD OF 'breviarylaw19.ClientErrs'. -/
def clientErrsUptoCard : Claim7 := { stood := { row := clientErrsUptoRow, standIns := [], harness := (true, "2258a185a4b1a788bfa7bf0b8e32401499b00a22c969d2f623946ed934b04c2e"), looks := true }, kinds := [], alts := [], laidByText := true, laidKinds := [.data, .data, .data, .sentinel, .sentinel, .data, .data], laidTests := true, laidLooks := .later }
def ClientErrsUptoCardSaid : Prop := Claim7.holds Tryz.pinned (.plain (OpenSpec.upto clientErrsSpec)) clientErrsUptoCard

/-- THE SECOND FORM's CARD OF 'breviarylaw17.ExecErrs'. -/
def execErrsUptoCard : Claim7 := { stood := { row := execErrsUptoRow, standIns := [], harness := (true, "2258a185a4b1a788bfa7bf0b8e32401499b00a22c969d2f623946ed934b04c2e"), looks := true }, kinds := [], alts := [], laidByText := true, laidKinds := [.data, .data, .data, .sentinel, .sentinel, .data, .data], laidTests := true, laidLooks := .later }
def ExecErrsUptoCardSaid : Prop := Claim7.holds Tryz.pinned (.plain (OpenSpec.upto execErrsSpec)) execErrsUptoCard

/-- THE SECOND FORM's CARD OF 'breviarylaw20.ReplayAgrees'. -/
def replayAgreesUptoCard : Claim7 := { stood := { row := replayAgreesUptoRow, standIns := [], harness := (true, "2258a185a4b1a788bfa7bf0b8e32401499b00a22c969d2f623946ed934b04c2e"), looks := true }, kinds := [], alts := [], laidByText := true, laidKinds := [.data, .data, .data, .sentinel, .sentinel, .data, .data], laidTests := true, laidLooks := .later }
def ReplayAgreesUptoCardSaid : Prop := Claim7.holds Tryz.pinned (.plain (OpenSpec.upto replayAgreesSpec)) replayAgreesUptoCard

/-- THE SECOND FORM's CARD OF 'breviarylaw20.ReplayErrs'. -/
def replayErrsUptoCard : Claim7 := { stood := { row := replayErrsUptoRow, standIns := [], harness := (true, "2258a185a4b1a788bfa7bf0b8e32401499b00a22c969d2f623946ed934b04c2e"), looks := true }, kinds := [], alts := [], laidByText := true, laidKinds := [.data, .data, .data, .sentinel, .sentinel, .data, .data], laidTests := true, laidLooks := .later }
def ReplayErrsUptoCardSaid : Prop := Claim7.holds Tryz.pinned (.plain (OpenSpec.upto replayErrsSpec)) replayErrsUptoCard

/-- THE SECOND FORM's CARD OF 'breviarylaw15.SerialJudges'. -/
def serialJudgesUptoCard : Claim7 := { stood := { row := serialJudgesUptoRow, standIns := [], harness := (true, "2258a185a4b1a788bfa7bf0b8e32401499b00a22c969d2f623946ed934b04c2e"), looks := true }, kinds := [], alts := [], laidByText := true, laidKinds := [.data, .data, .data, .sentinel, .sentinel, .data, .data], laidTests := true, laidLooks := .later }
def SerialJudgesUptoCardSaid : Prop := Claim7.holds Tryz.pinned (.plain (OpenSpec.upto serialJudgesSpec)) serialJudgesUptoCard
end Rows
end Go.Proofs.YtifpaagppjmbhaaGreatDoor
