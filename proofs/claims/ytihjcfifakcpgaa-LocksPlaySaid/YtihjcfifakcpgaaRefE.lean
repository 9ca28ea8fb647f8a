/- breviaryref09: column. -/
import Derived.Test.YtihjcfifakcpgaaRefD
import Derived.Test.YtihjcfifakcpgaaFootZ
namespace Go.Proofs.Ytihjcfifakcpgaa
open Go.RowKit

theorem col_opens {f : Int → Bool} : ∀ (p : List Int) (st : List (Int × Int) × Option Int) (s : Int), (p.foldl (colStep f) st).2 = some s → st.2 = some s ∨ s ∈ p
  | [], st, s, h => .inl h
  | a :: p, st, s, h => by
    rw [List.foldl_cons] at h
    rcases col_opens p _ s h with h1 | h1
    · unfold colStep at h1
      split at h1
      · injection h1 with h1; subst h1; exact .inr (by simp)
      · cases h1
      · exact .inl h1
    · exact .inr (by simp [h1])
theorem col_len {f : Int → Bool} : ∀ (p : List Int) (st : List (Int × Int) × Option Int), (outOf (p.foldl (colStep f) st)).length ≤ (outOf st).length + p.length
  | [], st => by simp
  | a :: p, st => by
    have h := col_len (f := f) p (colStep f st a)
    have h2 : (outOf (colStep f st a)).length ≤ (outOf st).length + 1 := by
      obtain ⟨C, o⟩ := st
      unfold colStep outOf
      cases f a <;> cases o <;> simp
    rw [List.foldl_cons, List.length_cons]
    omega
theorem beg_min {l : List Cl} (hl : Good l) (col : Int) : ∀ x ∈ begS l col, -9223372036854775808 ≤ x := by
  intro x hx
  rcases (begS_mem col l [] x).1 hx with h | ⟨c, hc, _, rfl | ⟨h, rfl⟩⟩
  · simp at h
  · exact (hl.fits c hc).2.1.1
  · have := (hl.fits c hc).2.2.1.1; omega
theorem set_hi (L : List Cl) (c : Cl) (h : Int) : (((L ++ [c]).map Cl.cells).flatten.set (L.length * 5 + 4) (.int .i64 h)) = ((L ++ [(⟨c.wr, c.col, c.key, c.lo, h⟩ : Cl)]).map Cl.cells).flatten := by
  have hlen : (L.map Cl.cells).flatten.length = L.length * 5 := by rw [flat_len (cl_len L)]; simp
  simp only [List.map_append, List.flatten_append]
  rw [List.set_append_right _ _ (by omega), hlen]
  simp [Cl.cells]

def ColR (w2 : World) (l : List Cl) (col does : Int) (k : Nat) (v7 v9 : Value) (wr : World) : Prop :=
  v9 = .bool (colSt (fun n => lev l (col, [], n) == does) ((begS l col).take k)).2.isSome ∧
  wr.ownsRow w2.heap.size 52 5 v7 (outOf (colSt (fun n => lev l (col, [], n) == does) ((begS l col).take k))).length ((((outOf (colSt (fun n => lev l (col, [], n) == does) ((begS l col).take k))).map (spCl col (does == 2))).map Cl.cells).flatten) ∧ Below w2.heap.size w2 wr

end Go.Proofs.Ytihjcfifakcpgaa
