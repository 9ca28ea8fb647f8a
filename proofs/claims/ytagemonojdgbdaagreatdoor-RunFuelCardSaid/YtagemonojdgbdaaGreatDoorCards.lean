/-
  DERIVED. GIVEN WITH THE SEED: THE CARDS: each row of YtagemonojdgbdaaGreatDoorRows.lean that lists a variable, with what it lists TIED to the program's text (the seventh form; the later family's looks); each row that meets fmt, with fmt's text TOLD by the authors' own Lean function (tested against real Go, not proved from fmt's source: count such statements apart). THE CARD IS WHAT COUNTS. Prove the row's statement (the work); the ties are given (YtagemonojdgbdaaGreatDoorTie.lean); close each card by the builder's one call (the guide's Derived/Test/ToyasCard.lean, 'card_holds'). Laid BY PROGRAM, IN A SANDBOX (cutbox-door.mjs). By AI agents, Wed Nov 11 2026. No macro, syntax, notation, axiom, sorry.
-/
import Derived.Test.YtagemonojdgbdaaGreatDoorRows
import GoSem.ClaimSeven
namespace Go.Proofs.YtagemonojdgbdaaGreatDoor
namespace Rows

/-- THE TIED CARD OF 'breviarylaw12.RunClaims'. -/
def runClaimsCard : Claim7 := { stood := { row := runClaimsRow, standIns := [], harness := (true, "7d19ad741bc7d54457f58fc14b5207be680021deb8a91240a65f9c6b3e66a265"), looks := true }, kinds := [], alts := [], laidByText := true, laidKinds := [.data, .data, .data, .sentinel, .sentinel, .data], laidTests := true, laidLooks := .later }
def RunClaimsCardSaid : Prop := Claim7.holds Tryz.pinned (.plain (OpenSpec.ofChange runClaimsSpec)) runClaimsCard

/-- THE TIED CARD OF 'breviarylaw19.ClientErrs'. -/
def clientErrsCard : Claim7 := { stood := { row := clientErrsRow, standIns := [], harness := (true, "7d19ad741bc7d54457f58fc14b5207be680021deb8a91240a65f9c6b3e66a265"), looks := true }, kinds := [], alts := [], laidByText := true, laidKinds := [.data, .data, .data, .sentinel, .sentinel, .data, .data], laidTests := true, laidLooks := .later }
def ClientErrsCardSaid : Prop := Claim7.holds Tryz.pinned (.plain (OpenSpec.ofChange clientErrsSpec)) clientErrsCard

/-- THE TIED CARD OF 'breviarylaw12.RunFuel'. -/
def runFuelCard : Claim7 := { stood := { row := runFuelRow, standIns := [], harness := (true, "7d19ad741bc7d54457f58fc14b5207be680021deb8a91240a65f9c6b3e66a265"), looks := true }, kinds := [], alts := [], laidByText := true, laidKinds := [.data, .data, .data, .sentinel, .sentinel, .data], laidTests := true, laidLooks := .later }
def RunFuelCardSaid : Prop := Claim7.holds Tryz.pinned (.plain (OpenSpec.ofChange runFuelSpec)) runFuelCard

/-- THE SECOND FORM's CARD OF 'breviarylaw12.RunClaims'. -/
def runClaimsUptoCard : Claim7 := { stood := { row := runClaimsUptoRow, standIns := [], harness := (true, "7d19ad741bc7d54457f58fc14b5207be680021deb8a91240a65f9c6b3e66a265"), looks := true }, kinds := [], alts := [], laidByText := true, laidKinds := [.data, .data, .data, .sentinel, .sentinel, .data], laidTests := true, laidLooks := .later }
def RunClaimsUptoCardSaid : Prop := Claim7.holds Tryz.pinned (.plain (OpenSpec.upto runClaimsSpec)) runClaimsUptoCard

/-- THE SECOND FORM's CARD OF 'breviarylaw19.ClientErrs'. -/
def clientErrsUptoCard : Claim7 := { stood := { row := clientErrsUptoRow, standIns := [], harness := (true, "7d19ad741bc7d54457f58fc14b5207be680021deb8a91240a65f9c6b3e66a265"), looks := true }, kinds := [], alts := [], laidByText := true, laidKinds := [.data, .data, .data, .sentinel, .sentinel, .data, .data], laidTests := true, laidLooks := .later }
def ClientErrsUptoCardSaid : Prop := Claim7.holds Tryz.pinned (.plain (OpenSpec.upto clientErrsSpec)) clientErrsUptoCard

/-- THE SECOND FORM's CARD OF 'breviarylaw12.RunFuel'. -/
def runFuelUptoCard : Claim7 := { stood := { row := runFuelUptoRow, standIns := [], harness := (true, "7d19ad741bc7d54457f58fc14b5207be680021deb8a91240a65f9c6b3e66a265"), looks := true }, kinds := [], alts := [], laidByText := true, laidKinds := [.data, .data, .data, .sentinel, .sentinel, .data], laidTests := true, laidLooks := .later }
def RunFuelUptoCardSaid : Prop := Claim7.holds Tryz.pinned (.plain (OpenSpec.upto runFuelSpec)) runFuelUptoCard
end Rows
end Go.Proofs.YtagemonojdgbdaaGreatDoor
