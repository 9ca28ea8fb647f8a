/- covered, Within, Conflict. -/
import Derived.Test.YtihjcfifakcpgaaFootS
import Derived.ScopeJumps
namespace Go.Proofs.Ytihjcfifakcpgaa
open Go.RowKit

theorem blk_cell5 {w : World} {b : Nat} {v0 v1 v2 v3 v4 : Value} {t : TypeId} (h : w.heap[b]? = some (.cells #[v0, v1, v2, v3, v4] t (0, 0))) :
    w.cell? ⟨b, 0, none⟩ = some v0 ∧ w.cell? ⟨b, 1, none⟩ = some v1 ∧ w.cell? ⟨b, 2, none⟩ = some v2 ∧ w.cell? ⟨b, 3, none⟩ = some v3 ∧ w.cell? ⟨b, 4, none⟩ = some v4 := by
  simp [World.cell?, h]
/-- A claim that has a number of another one, at least so. -/
def covers (c d : Cl) (n : Int) : Prop := d.col = c.col ∧ d.key = c.key ∧ (c.wr = true → d.wr = true) ∧ d.lo ≤ n ∧ n ≤ d.hi
def CovP (c : Cl) (l : List Cl) : Prop := ∀ n, c.lo ≤ n → n ≤ c.hi → ∃ d ∈ l, covers c d n
/-- What covered has: all numbers ahead of one are covered. -/
def CovJ (w : World) (c : Cl) (l : List Cl) (fr : Int) (w' : World) : Prop :=
  Below w.heap.size w w' ∧ w'.heap[w.heap.size]? = some (.cells #[.bool c.wr, .int .i64 c.col, .string ⟨c.key.toArray⟩, .int .i64 c.lo, .int .i64 c.hi] 52 (0, 0)) ∧
    c.lo ≤ fr ∧ fr ≤ c.hi ∧ ∀ n, c.lo ≤ n → n < fr → ∃ d ∈ l, covers c d n
theorem CovJ.start (w : World) (c : Cl) (l : List Cl) (hc : c.lo ≤ c.hi) : CovJ w c l c.lo (w.alloc (.cells #[.bool c.wr, .int .i64 c.col, .string ⟨c.key.toArray⟩, .int .i64 c.lo, .int .i64 c.hi] 52)) :=
  ⟨(Below.refl _ _).alloc (Nat.le_refl _) _, heap_alloc_new _ _, Int.le_refl _, hc, fun n h1 h2 => absurd h2 (by omega)⟩
theorem CovJ.box {w : World} {c : Cl} {l : List Cl} {fr : Int} {w' : World} (h : CovJ w c l fr w') {o : Obj} : CovJ w c l fr (w'.alloc o) :=
  ⟨h.1.alloc h.1.size _, by rw [Below.heap_alloc _ _ _ (Array.getElem?_eq_some_iff.1 h.2.1).1]; exact h.2.1, h.2.2⟩
theorem CovJ.next {w : World} {c x : Cl} {l : List Cl} {fr : Int} {w' : World} {k : Nat} {o : Obj} (h : CovJ w c l fr w') (hx : l[k]? = some x) (h1 : x.col = c.col) (h2 : x.key = c.key) (h3 : c.wr = true → x.wr = true) (h4 : x.lo ≤ fr) (h5 : fr ≤ x.hi) (h6 : x.hi < c.hi) : CovJ w c l (x.hi + 1) (w'.alloc o) := by
  refine ⟨h.box.1, h.box.2.1, by have := h.2.2.1; omega, by omega, fun n a b => ?_⟩
  by_cases hn : n < fr
  · exact h.2.2.2.2 n a hn
  · exact ⟨x, List.mem_of_getElem? hx, h1, h2, h3, by omega, by omega⟩

-- COV BEGIN
end Go.Proofs.Ytihjcfifakcpgaa
