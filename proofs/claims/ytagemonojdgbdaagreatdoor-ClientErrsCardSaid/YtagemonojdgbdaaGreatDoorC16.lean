import Derived.Test.YtagemonojdgbdaaGreatDoorC15
import Derived.ScopeJumps
namespace Go.Proofs.YtagemonojdgbdaaGreatDoor
set_option maxRecDepth 100000
open Go.RowKit
theorem blk_cell5 {w : World} {b : Nat} {v0 v1 v2 v3 v4 : Value} {t : TypeId} (h : w.heap[b]? = some (.cells #[v0, v1, v2, v3, v4] t (0, 0))) :
  w.cell? ⟨b, 0, none⟩ = some v0 ∧ w.cell? ⟨b, 1, none⟩ = some v1 ∧ w.cell? ⟨b, 2, none⟩ = some v2 ∧ w.cell? ⟨b, 3, none⟩ = some v3 ∧ w.cell? ⟨b, 4, none⟩ = some v4 := by
 simp [World.cell?, h]
def covers (c d : Cl) (n : Int) : Prop := d.col = c.col ∧ d.key = c.key ∧ (c.wr = true → d.wr = true) ∧ d.lo ≤ n ∧ n ≤ d.hi
def CovP (c : Cl) (l : List Cl) : Prop := ∀ n, c.lo ≤ n → n ≤ c.hi → ∃ d ∈ l, covers c d n
def WithinP (a b : List Cl) : Prop := ∀ c ∈ a, CovP c b
end Go.Proofs.YtagemonojdgbdaaGreatDoor
