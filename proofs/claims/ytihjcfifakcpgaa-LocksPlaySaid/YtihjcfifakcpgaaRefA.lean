/- breviaryref09: Check, Row, Value: what claims do with a thing. -/
import Derived.Test.YtihjcfifakcpgaaFootX
namespace Go.Proofs.Ytihjcfifakcpgaa
open Go.RowKit

theorem has_row_iff {x : Cl} (h : Ok x) (key : List UInt8) : x.has (-1, key, 0) ↔ x.col < 0 ∧ x.key = key := by
  rcases h.parts with ⟨h1, h2, h3, _⟩ | ⟨h1, h2, h3, _⟩
  · exact ⟨fun hh => ⟨by omega, hh.2.1⟩, fun hh => ⟨h1, hh.2, by simp only; omega, by simp only; omega⟩⟩
  · exact ⟨fun hh => by have := hh.1; simp only at this; omega, fun hh => by omega⟩
theorem has_val_iff {x : Cl} (h : Ok x) {col : Int} (hc : 0 ≤ col) (n : Int) : x.has (col, [], n) ↔ x.col = col ∧ x.lo ≤ n ∧ n ≤ x.hi := by
  rcases h.parts with ⟨h1, h2, h3, _⟩ | ⟨h1, h2, h3, _⟩
  · exact ⟨fun hh => ⟨hh.1, hh.2.2⟩, fun hh => by omega⟩
  · exact ⟨fun hh => ⟨hh.1, hh.2.2⟩, fun hh => ⟨hh.1, h3, hh.2⟩⟩

end Go.Proofs.Ytihjcfifakcpgaa
