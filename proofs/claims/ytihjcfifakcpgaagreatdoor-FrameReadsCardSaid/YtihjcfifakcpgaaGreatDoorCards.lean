/-
  DERIVED. GIVEN WITH THE SEED: THE CARDS: each row of YtihjcfifakcpgaaGreatDoorRows.lean that lists a variable, with what it lists TIED to the program's text (the seventh form; the later family's looks); each row that meets fmt, with fmt's text TOLD by the authors' own Lean function (tested against real Go, not proved from fmt's source: count such statements apart). THE CARD IS WHAT COUNTS. Prove the row's statement (the work); the ties are given (YtihjcfifakcpgaaGreatDoorTie.lean); close each card by the builder's one call (the guide's Derived/Test/ToyasCard.lean, 'card_holds'). Laid BY PROGRAM, IN A SANDBOX (cutbox-door.mjs). By AI agents, Wed Nov 11 2026. No macro, syntax, notation, axiom, sorry.
-/
import Derived.Test.YtihjcfifakcpgaaGreatDoorRows
import GoSem.ClaimSeven
namespace Go.Proofs.YtihjcfifakcpgaaGreatDoor
namespace Rows

/-- THE TIED CARD OF 'breviarylaw13.FrameWrites'. -/
def frameWritesCard : Claim7 := { stood := { row := frameWritesRow, standIns := [], harness := (true, "fd21689d4dee75dc0f2b8280f04a5fdb1194675b0ae20051ab0431f1f42f33f4"), looks := false }, kinds := [], alts := [], laidByText := true, laidKinds := [.data, .data], laidTests := true, laidLooks := .later }
def FrameWritesCardSaid : Prop := Claim7.holds Tryz.pinned (.plain (OpenSpec.ofChange frameWritesSpec)) frameWritesCard

/-- THE TIED CARD OF 'breviarylaw13.FrameTurned'. -/
def frameTurnedCard : Claim7 := { stood := { row := frameTurnedRow, standIns := [], harness := (true, "fd21689d4dee75dc0f2b8280f04a5fdb1194675b0ae20051ab0431f1f42f33f4"), looks := false }, kinds := [], alts := [], laidByText := true, laidKinds := [.data, .data], laidTests := true, laidLooks := .later }
def FrameTurnedCardSaid : Prop := Claim7.holds Tryz.pinned (.plain (OpenSpec.ofChange frameTurnedSpec)) frameTurnedCard

/-- THE TIED CARD OF 'breviarylaw13.FrameReads'. -/
def frameReadsCard : Claim7 := { stood := { row := frameReadsRow, standIns := [], harness := (true, "fd21689d4dee75dc0f2b8280f04a5fdb1194675b0ae20051ab0431f1f42f33f4"), looks := false }, kinds := [], alts := [], laidByText := true, laidKinds := [.data, .data], laidTests := true, laidLooks := .later }
def FrameReadsCardSaid : Prop := Claim7.holds Tryz.pinned (.plain (OpenSpec.ofChange frameReadsSpec)) frameReadsCard

/-- THE TIED CARD OF 'breviarylaw13.FrameBack'. -/
def frameBackCard : Claim7 := { stood := { row := frameBackRow, standIns := [], harness := (true, "fd21689d4dee75dc0f2b8280f04a5fdb1194675b0ae20051ab0431f1f42f33f4"), looks := false }, kinds := [], alts := [], laidByText := true, laidKinds := [.data, .data], laidTests := true, laidLooks := .later }
def FrameBackCardSaid : Prop := Claim7.holds Tryz.pinned (.plain (OpenSpec.ofChange frameBackSpec)) frameBackCard

/-- THE TIED CARD OF 'breviarylaw13.FrameSame'. -/
def frameSameCard : Claim7 := { stood := { row := frameSameRow, standIns := [], harness := (true, "fd21689d4dee75dc0f2b8280f04a5fdb1194675b0ae20051ab0431f1f42f33f4"), looks := false }, kinds := [], alts := [], laidByText := true, laidKinds := [.data, .data], laidTests := true, laidLooks := .later }
def FrameSameCardSaid : Prop := Claim7.holds Tryz.pinned (.plain (OpenSpec.ofChange frameSameSpec)) frameSameCard

/-- THE TIED CARD OF 'breviarylaw14.LogHolds'. -/
def logHoldsCard : Claim7 := { stood := { row := logHoldsRow, standIns := [], harness := (true, "fd21689d4dee75dc0f2b8280f04a5fdb1194675b0ae20051ab0431f1f42f33f4"), looks := false }, kinds := [], alts := [], laidByText := true, laidKinds := [.data, .data], laidTests := true, laidLooks := .later }
def LogHoldsCardSaid : Prop := Claim7.holds Tryz.pinned (.plain (OpenSpec.ofChange logHoldsSpec)) logHoldsCard

/-- THE TIED CARD OF 'breviarylaw14.LogNil'. -/
def logNilCard : Claim7 := { stood := { row := logNilRow, standIns := [], harness := (true, "fd21689d4dee75dc0f2b8280f04a5fdb1194675b0ae20051ab0431f1f42f33f4"), looks := false }, kinds := [], alts := [], laidByText := true, laidKinds := [.data, .data], laidTests := true, laidLooks := .later }
def LogNilCardSaid : Prop := Claim7.holds Tryz.pinned (.plain (OpenSpec.ofChange logNilSpec)) logNilCard

/-- THE SECOND FORM's CARD OF 'breviarylaw13.FrameWrites'. -/
def frameWritesUptoCard : Claim7 := { stood := { row := frameWritesUptoRow, standIns := [], harness := (true, "fd21689d4dee75dc0f2b8280f04a5fdb1194675b0ae20051ab0431f1f42f33f4"), looks := false }, kinds := [], alts := [], laidByText := true, laidKinds := [.data, .data], laidTests := true, laidLooks := .later }
def FrameWritesUptoCardSaid : Prop := Claim7.holds Tryz.pinned (.plain (OpenSpec.upto frameWritesSpec)) frameWritesUptoCard

/-- THE SECOND FORM's CARD OF 'breviarylaw13.FrameTurned'. -/
def frameTurnedUptoCard : Claim7 := { stood := { row := frameTurnedUptoRow, standIns := [], harness := (true, "fd21689d4dee75dc0f2b8280f04a5fdb1194675b0ae20051ab0431f1f42f33f4"), looks := false }, kinds := [], alts := [], laidByText := true, laidKinds := [.data, .data], laidTests := true, laidLooks := .later }
def FrameTurnedUptoCardSaid : Prop := Claim7.holds Tryz.pinned (.plain (OpenSpec.upto frameTurnedSpec)) frameTurnedUptoCard

/-- THE SECOND FORM's CARD OF 'breviarylaw13.FrameReads'. -/
def frameReadsUptoCard : Claim7 := { stood := { row := frameReadsUptoRow, standIns := [], harness := (true, "fd21689d4dee75dc0f2b8280f04a5fdb1194675b0ae20051ab0431f1f42f33f4"), looks := false }, kinds := [], alts := [], laidByText := true, laidKinds := [.data, .data], laidTests := true, laidLooks := .later }
def FrameReadsUptoCardSaid : Prop := Claim7.holds Tryz.pinned (.plain (OpenSpec.upto frameReadsSpec)) frameReadsUptoCard

/-- THE SECOND FORM's CARD OF 'breviarylaw13.FrameBack'. -/
def frameBackUptoCard : Claim7 := { stood := { row := frameBackUptoRow, standIns := [], harness := (true, "fd21689d4dee75dc0f2b8280f04a5fdb1194675b0ae20051ab0431f1f42f33f4"), looks := false }, kinds := [], alts := [], laidByText := true, laidKinds := [.data, .data], laidTests := true, laidLooks := .later }
def FrameBackUptoCardSaid : Prop := Claim7.holds Tryz.pinned (.plain (OpenSpec.upto frameBackSpec)) frameBackUptoCard

/-- THE SECOND FORM's CARD OF 'breviarylaw13.FrameSame'. -/
def frameSameUptoCard : Claim7 := { stood := { row := frameSameUptoRow, standIns := [], harness := (true, "fd21689d4dee75dc0f2b8280f04a5fdb1194675b0ae20051ab0431f1f42f33f4"), looks := false }, kinds := [], alts := [], laidByText := true, laidKinds := [.data, .data], laidTests := true, laidLooks := .later }
def FrameSameUptoCardSaid : Prop := Claim7.holds Tryz.pinned (.plain (OpenSpec.upto frameSameSpec)) frameSameUptoCard

/-- THE SECOND FORM's CARD OF 'breviarylaw14.LogHolds'. -/
def logHoldsUptoCard : Claim7 := { stood := { row := logHoldsUptoRow, standIns := [], harness := (true, "fd21689d4dee75dc0f2b8280f04a5fdb1194675b0ae20051ab0431f1f42f33f4"), looks := false }, kinds := [], alts := [], laidByText := true, laidKinds := [.data, .data], laidTests := true, laidLooks := .later }
def LogHoldsUptoCardSaid : Prop := Claim7.holds Tryz.pinned (.plain (OpenSpec.upto logHoldsSpec)) logHoldsUptoCard

/-- THE SECOND FORM's CARD OF 'breviarylaw14.LogNil'. -/
def logNilUptoCard : Claim7 := { stood := { row := logNilUptoRow, standIns := [], harness := (true, "fd21689d4dee75dc0f2b8280f04a5fdb1194675b0ae20051ab0431f1f42f33f4"), looks := false }, kinds := [], alts := [], laidByText := true, laidKinds := [.data, .data], laidTests := true, laidLooks := .later }
def LogNilUptoCardSaid : Prop := Claim7.holds Tryz.pinned (.plain (OpenSpec.upto logNilSpec)) logNilUptoCard
end Rows
end Go.Proofs.YtihjcfifakcpgaaGreatDoor
