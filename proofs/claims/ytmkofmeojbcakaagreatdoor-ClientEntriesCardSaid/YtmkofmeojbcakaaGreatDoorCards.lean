/-
  DERIVED. GIVEN WITH THE SEED: THE CARDS: each row of YtmkofmeojbcakaaGreatDoorRows.lean that lists a variable, with what it lists TIED to the program's text (the seventh form; the later family's looks); each row that meets fmt, with fmt's text TOLD by the authors' own Lean function (tested against real Go, not proved from fmt's source: count such statements apart). THE CARD IS WHAT COUNTS. Prove the row's statement (the work); the ties are given (YtmkofmeojbcakaaGreatDoorTie.lean); close each card by the builder's one call (the guide's Derived/Test/ToyasCard.lean, 'card_holds'). Laid BY PROGRAM, IN A SANDBOX (cutbox-door.mjs). By AI agents, Wed Nov 11 2026. No macro, syntax, notation, axiom, sorry.
-/
import Derived.Test.YtmkofmeojbcakaaGreatDoorRows
import GoSem.ClaimSeven
namespace Go.Proofs.YtmkofmeojbcakaaGreatDoor
namespace Rows

/-- THE TIED CARD OF 'breviarylaw19.ClientEntries'. -/
def clientEntriesCard : Claim7 := { stood := { row := clientEntriesRow, standIns := [], harness := (true, "08f27aba274c3905e0d50fd8bd3d68305e82a4d8492a394c5debc9d4689abc1f"), looks := true }, kinds := [], alts := [], laidByText := true, laidKinds := [.data, .data, .data, .sentinel, .sentinel, .data, .data], laidTests := true, laidLooks := .later }
def ClientEntriesCardSaid : Prop := Claim7.holds Tryz.pinned (.plain (OpenSpec.ofChange clientEntriesSpec)) clientEntriesCard

/-- THE SECOND FORM's CARD OF 'breviarylaw19.ClientEntries'. -/
def clientEntriesUptoCard : Claim7 := { stood := { row := clientEntriesUptoRow, standIns := [], harness := (true, "08f27aba274c3905e0d50fd8bd3d68305e82a4d8492a394c5debc9d4689abc1f"), looks := true }, kinds := [], alts := [], laidByText := true, laidKinds := [.data, .data, .data, .sentinel, .sentinel, .data, .data], laidTests := true, laidLooks := .later }
def ClientEntriesUptoCardSaid : Prop := Claim7.holds Tryz.pinned (.plain (OpenSpec.upto clientEntriesSpec)) clientEntriesUptoCard
end Rows
end Go.Proofs.YtmkofmeojbcakaaGreatDoor
