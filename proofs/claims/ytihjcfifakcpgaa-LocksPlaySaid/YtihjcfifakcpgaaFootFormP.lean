/- Plain laws for FootForm: claims told in another order, and more often; a claim alone. -/
import Derived.Test.YtihjcfifakcpgaaFootZ
namespace Go.Proofs.Ytihjcfifakcpgaa
open Go.RowKit

theorem isForm_one {c : Cl} (h : Ok c) : IsForm [c] [c] := by
  refine ⟨?_, fun _ => rfl⟩
  obtain ⟨wr, col, key, lo, hi⟩ := c
  rcases h.parts with ⟨h1, h2, h3, _⟩ | ⟨h1, h2, h3, h4⟩
  · simp only at h1 h2 h3
    subst h1 h2 h3
    exact ⟨[(wr, key)], fun _ => [], fun _ => [], rfl, by simp, fun i _ _ => ⟨normS_nil, normS_nil, fun n hn => absurd hn (inS_nil n)⟩⟩
  · simp only at h1 h2 h3 h4
    subst h3
    refine ⟨[], fun i => if i = col ∧ wr = true then [(lo, hi)] else [], fun i => if i = col ∧ wr = false then [(lo, hi)] else [], ?_, by simp, fun i _ _ => ⟨?_, ?_, ?_⟩⟩
    · have : col = 0 ∨ col = 1 ∨ col = 2 ∨ col = 3 := by omega
      rcases this with rfl | rfl | rfl | rfl <;> cases wr <;> rfl
    · dsimp only; split
      · exact normS_one h4
      · exact normS_nil
    · dsimp only; split
      · exact normS_one h4
      · exact normS_nil
    · intro n hw hr
      cases wr
      · simp at hw; exact inS_nil n hw
      · simp at hr; exact inS_nil n hr

/-- Each claim, behind another one. -/
def turnL (l : List Cl) (q : Nat → Nat) : Nat → List Cl
  | 0 => []
  | k + 1 => turnL l q k ++ [l.getD (q k) ⟨false, 0, [], 0, 0⟩, l.getD k ⟨false, 0, [], 0, 0⟩]
theorem turnL_len (l : List Cl) (q : Nat → Nat) : ∀ k, (turnL l q k).length = 2 * k
  | 0 => rfl
  | k + 1 => by rw [turnL, List.length_append, turnL_len l q k]; simp; omega
theorem turnL_mem {l : List Cl} {q : Nat → Nat} (hq : ∀ i, i < l.length → q i < l.length) : ∀ {k : Nat}, k ≤ l.length → ∀ c, c ∈ turnL l q k → c ∈ l
  | 0, _, c, h => by simp [turnL] at h
  | k + 1, hk, c, h => by
    rw [turnL] at h
    rcases List.mem_append.1 h with h | h
    · exact turnL_mem hq (by omega) c h
    · have hqk := hq k (by omega)
      have h1 : l[q k]? = some l[q k] := List.getElem?_eq_getElem hqk
      have h2 : l[k]? = some l[k] := List.getElem?_eq_getElem (by omega)
      simp [h1, h2] at h
      rcases h with rfl | rfl
      · exact List.getElem_mem _
      · exact List.getElem_mem _
theorem turnL_has {l : List Cl} {q : Nat → Nat} : ∀ {k : Nat}, k ≤ l.length → ∀ i x, i < k → l[i]? = some x → x ∈ turnL l q k
  | 0, _, i, x, hi, _ => absurd hi (by omega)
  | k + 1, hk, i, x, hi, hx => by
    rw [turnL]
    by_cases e : i = k
    · subst e
      exact List.mem_append.2 (.inr (by simp [hx]))
    · exact List.mem_append.2 (.inl (turnL_has (by omega) i x (by omega) hx))
theorem turnL_same {l : List Cl} {q : Nat → Nat} (hq : ∀ i, i < l.length → q i < l.length) (c : Cl) : c ∈ turnL l q l.length ↔ c ∈ l := by
  constructor
  · exact turnL_mem hq (Nat.le_refl _) c
  · intro h
    obtain ⟨i, hi, rfl⟩ := List.mem_iff_getElem.1 h
    exact turnL_has (Nat.le_refl _) i _ hi (List.getElem?_eq_getElem hi)
/-- Where the other one stands. -/
def turnQ (from_ : Int) (n i : Nat) : Nat := (((from_.tmod n + n).tmod n + i).tmod n).toNat
theorem turn_bounds (from_ : Int) {n i : Nat} (hn : 0 < n) : -(n : Int) < from_.tmod n ∧ from_.tmod n < n ∧ 0 ≤ (from_.tmod n + n).tmod n ∧ (from_.tmod n + n).tmod n < n ∧ ((from_.tmod n + n).tmod n + i).tmod n = (turnQ from_ n i : Int) ∧ turnQ from_ n i < n := by
  have hn' : (0 : Int) < n := by omega
  have h1 : from_.tmod n < n := Int.tmod_lt_of_pos _ hn'
  have h2 : -(n : Int) < from_.tmod n := by
    have := Int.lt_tmod_of_pos from_ hn'
    omega
  have h3 : 0 ≤ (from_.tmod n + n).tmod n := Int.tmod_nonneg _ (by omega)
  have h4 : (from_.tmod n + n).tmod n < n := Int.tmod_lt_of_pos _ hn'
  have h5 : 0 ≤ ((from_.tmod n + n).tmod n + i).tmod n := Int.tmod_nonneg _ (by omega)
  have h6 : ((from_.tmod n + n).tmod n + i).tmod n < n := Int.tmod_lt_of_pos _ hn'
  unfold turnQ
  refine ⟨h2, h1, h3, h4, ?_, ?_⟩
  · omega
  · omega
theorem confl_one {c : Cl} {l out : List Cl} (hc : c ∈ l) (hw : c.wr = true) (hl : Good l) (hf : IsForm l out) : ConflP [c] out := by
  have hg : Good [c] := fun d hd => by simp at hd; subst hd; exact hl _ hc
  rw [confl_lev hg (form_good hf hl)]
  have hh := Cl.has_lo (hl.ok c hc)
  have h2 : lev [c] (c.col, c.key, c.lo) = 2 := lev_two.2 ⟨c, by simp, hh, hw⟩
  refine ⟨(c.col, c.key, c.lo), by omega, ?_, .inl h2⟩
  rw [hf.2]
  exact lev_pos.2 ⟨c, hc, hh⟩
theorem within_one {c : Cl} {l out : List Cl} (hc : c ∈ l) (hf : IsForm l out) : WithinP [c] out :=
  within_lev.2 fun t => by rw [hf.2]; exact lev_sub (fun d hd => by simp at hd; subst hd; exact hc) t
theorem within_refl (l : List Cl) : WithinP l l := within_lev.2 fun _ => Int.le_refl _

end Go.Proofs.Ytihjcfifakcpgaa
