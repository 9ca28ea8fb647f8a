/- breviaryref09: Normal. -/
import Derived.Test.YtihjcfifakcpgaaRefE
import Derived.Sort.Walk0
namespace Go.Proofs.Ytihjcfifakcpgaa
open Go.RowKit

def KRise (ks : List (List UInt8)) : Prop := ks.Pairwise (· < ·)
theorem rise_insert {ks : List (List UInt8)} {n : Nat} {x : List UInt8} (h : KRise ks) (h1 : ∀ y ∈ ks.take n, y < x) (h2 : ∀ y, ks[n]? = some y → x < y) : KRise (ks.take n ++ [x] ++ ks.drop n) := by
  unfold KRise at *
  have e : ks = ks.take n ++ ks.drop n := (List.take_append_drop n ks).symm
  rw [e, List.pairwise_append] at h
  obtain ⟨a1, a2, a3⟩ := h
  rw [List.pairwise_append, List.pairwise_append]
  have hd : ∀ y ∈ ks.drop n, x < y := by
    intro y hy
    cases hh : ks.drop n with
    | nil => rw [hh] at hy; simp at hy
    | cons z r =>
      have hz : ks[n]? = some z := by rw [← List.head?_drop, hh]; rfl
      rw [hh] at hy a2
      rcases List.mem_cons.1 hy with rfl | hy
      · exact h2 _ hz
      · exact List.lt_trans (h2 _ hz) ((List.pairwise_cons.1 a2).1 y hy)
  refine ⟨⟨a1, by simp, fun a ha b hb => by simp at hb; subst hb; exact h1 a ha⟩, a2, fun a ha b hb => ?_⟩
  rcases List.mem_append.1 ha with ha | ha
  · exact a3 a ha b hb
  · simp at ha; subst ha; exact hd b hb
theorem mem_insert {ks : List (List UInt8)} {n : Nat} {x key : List UInt8} : key ∈ ks.take n ++ [x] ++ ks.drop n ↔ key ∈ ks ∨ key = x := by
  have e : key ∈ ks ↔ key ∈ ks.take n ∨ key ∈ ks.drop n := by rw [← List.mem_append, List.take_append_drop]
  rw [e, List.mem_append, List.mem_append, List.mem_singleton]
  constructor
  · rintro ((h | h) | h)
    · exact .inl (.inl h)
    · exact .inr h
    · exact .inl (.inr h)
  · rintro ((h | h) | h)
    · exact .inl (.inl h)
    · exact .inr h
    · exact .inl (.inr h)
theorem row_mem_snoc {l : List Cl} {x : Cl} (h : x.col < 0) {key : List UInt8} : ((∃ c ∈ l, c.col < 0 ∧ c.key = key) ∨ key = x.key) ↔ ∃ c ∈ l ++ [x], c.col < 0 ∧ c.key = key := by
  constructor
  · rintro (⟨c, hc, h1⟩ | rfl)
    · exact ⟨c, by simp [hc], h1⟩
    · exact ⟨x, by simp, h, rfl⟩
  · rintro ⟨c, hc, h1, h2⟩
    rcases List.mem_append.1 hc with hc | hc
    · exact .inl ⟨c, hc, h1, h2⟩
    · simp at hc; subst hc; exact .inr h2.symm
theorem row_mem_same {l : List Cl} {x : Cl} {ks : List (List UInt8)} (hm : ∀ key, key ∈ ks ↔ ∃ c ∈ l, c.col < 0 ∧ c.key = key) (h : ¬ x.col < 0 ∨ x.key ∈ ks) (key : List UInt8) : key ∈ ks ↔ ∃ c ∈ l ++ [x], c.col < 0 ∧ c.key = key := by
  rw [hm]
  constructor
  · rintro ⟨c, hc, h1⟩; exact ⟨c, by simp [hc], h1⟩
  · rintro ⟨c, hc, h1, h2⟩
    rcases List.mem_append.1 hc with hc | hc
    · exact ⟨c, hc, h1, h2⟩
    · simp at hc
      subst hc
      rcases h with h | h
      · exact absurd h1 h
      · rw [← h2]; exact (hm _).1 h
theorem key_tri {a b : List UInt8} (h : ¬ a < b) (hne : a ≠ b) : b < a := by
  rcases Decidable.em (b < a) with h1 | h1
  · exact h1
  · exact absurd (List.le_antisymm (List.not_lt.1 h1) (List.not_lt.1 h)) hne
def rowN (l : List Cl) (key : List UInt8) : Cl := rowC (lev l (-1, key, 0) == 2, key)
theorem clrd_take {w : World} {F : Nat → Prop} {A : Option Addr} {m c : Nat} {l : List Cl} (h : ClRd w F (.slice A m c) l) {n : Nat} (hn : n ≤ l.length) : ClRd w F (.slice A n c) (l.take n) := by
  obtain ⟨A', m', c', hv, hl, hc, hm, hx⟩ := h
  injection hv with h1 h2 h3
  subst h1 h2 h3
  simp at hl
  refine ⟨A, n, c, rfl, by simp; omega, by omega, hm, fun h0 => ?_⟩
  obtain ⟨b, o, e, hF, hu⟩ := hx (by omega)
  refine ⟨b, o, e, hF, fun i x hi => hu i x ?_⟩
  have hil : i < n := by have := (List.getElem?_eq_some_iff.1 hi).1; simp at this; omega
  rw [List.map_take, List.getElem?_take_of_lt hil] at hi
  exact hi
theorem clrd_drop {w : World} {F : Nat → Prop} {b o m c : Nat} {l : List Cl} (h : ClRd w F (.slice (some ⟨b, o, none⟩) m c) l) {n : Nat} (hn : n ≤ l.length) : ClRd w F (.slice (some ⟨b, o + n * 5, none⟩) (m - n) (c - n)) (l.drop n) := by
  obtain ⟨A', m', c', hv, hl, hc, hm, hx⟩ := h
  injection hv with h1 h2 h3
  subst h1 h2 h3
  simp at hl
  refine ⟨_, _, _, rfl, by simp; omega, by omega, by omega, fun h0 => ?_⟩
  obtain ⟨b', o', e, hF, hu⟩ := hx (by omega)
  injection e with e
  injection e with e1 e2
  subst e1 e2
  refine ⟨b, o + n * 5, rfl, hF, fun i x hi j u hj => ?_⟩
  have := hu (n + i) x (by rw [List.map_drop, List.getElem?_drop] at hi; exact hi) j u hj
  rw [← this]
  congr 2
  rw [Nat.add_mul]
  omega
theorem fresh_rd' {w' : World} {base n : Nat} {A : Option Addr} {c : Nat} {l : List Cl} {ks : List (List UInt8)} (h : w'.ownsRow base 52 5 (.slice A ks.length c) ks.length ((ks.map (rowN l)).map Cl.cells).flatten) (hn : ks.length = n) : ClRd w' (fun _ => True) (.slice A n c) (ks.map (rowN l)) := by
  subst hn
  have : (ks.map (rowN l)).length = ks.length := by simp
  rw [← this] at h ⊢
  exact fresh_rd h
theorem clrd_cap {w : World} {F : Nat → Prop} {A : Option Addr} {n c : Nat} {l : List Cl} (h : ClRd w F (.slice A n c) l) : n ≤ c ∧ c ≤ maxLen := by
  obtain ⟨A', n', c', hv, _, hc, hm, _⟩ := h
  injection hv with h1 h2 h3
  subst h2 h3
  exact ⟨hc, hm⟩
theorem clrd_none {w : World} {F : Nat → Prop} {b o : Nat} : ClRd w F (.slice (some ⟨b, o, none⟩) 0 0) [] := ⟨_, _, _, rfl, rfl, Nat.le_refl _, by simp [maxLen], fun h => absurd h (by omega)⟩

theorem colS_len (l : List Cl) (hl : l.length ≤ 1000) (col does : Int) : (colS l col does).length ≤ 4000 := by
  have h1 := col_len (f := fun n => lev l (col, [], n) == does) (begS l col) ([], none)
  have h2 := begS_len col l []
  unfold colS colSt
  unfold begS at h1 ⊢
  simp [outOf] at h1 h2 ⊢
  omega
theorem cols_len (l : List Cl) (hl : l.length ≤ 1000) : ∀ j : Nat, (cols (fun i => colS l i 2) (fun i => colS l i 1) j).length ≤ j * 8000
  | 0 => by simp [cols]
  | j + 1 => by
    have := cols_len l hl j
    have h2 := colS_len l hl (j : Int) 2
    have h1 := colS_len l hl (j : Int) 1
    show (cols _ _ j ++ colC _ _ _).length ≤ _
    simp [colC]
    omega
theorem normal_form {l : List Cl} (hg : Good l) {ks : List (List UInt8)} (hr : KRise ks) (hm : ∀ key, key ∈ ks ↔ ∃ c ∈ l, c.col < 0 ∧ c.key = key) {rows : List Cl} (he : ks.map (rowN l) = rows) : IsForm l (rows ++ cols (fun i => colS l i 2) (fun i => colS l i 1) 4) := by
  have e : rows ++ cols (fun i => colS l i 2) (fun i => colS l i 1) 4 = formOf (ks.map fun k => (lev l (-1, k, 0) == 2, k)) (fun i => colS l i 2) (fun i => colS l i 1) := by
    rw [formOf_cols, ← he, List.map_map]
    rfl
  rw [e]
  have hpos : ∀ key, key ∈ ks ↔ 1 ≤ lev l (-1, key, 0) := by
    intro key
    rw [hm, lev_pos]
    constructor
    · rintro ⟨c, hc, h⟩; exact ⟨c, hc, (has_row_iff (hg.ok c hc) key).2 h⟩
    · rintro ⟨c, hc, h⟩; exact ⟨c, hc, (has_row_iff (hg.ok c hc) key).1 h⟩
  refine form_is hg.ok ?_ ?_ ?_ ?_ ?_
  · rw [List.pairwise_map]; exact hr
  · intro k
    rw [← hpos]
    constructor
    · rintro ⟨b, hb⟩
      obtain ⟨k', hk', e⟩ := List.mem_map.1 hb
      injection e with _ e
      subst e
      exact hk'
    · intro h; exact ⟨_, List.mem_map.2 ⟨k, h, rfl⟩⟩
  · intro k
    constructor
    · intro hb
      obtain ⟨k', hk', e⟩ := List.mem_map.1 hb
      injection e with e1 e
      subst e
      simpa using e1
    · intro h
      refine List.mem_map.2 ⟨k, (hpos k).2 (by omega), ?_⟩
      rw [h]
      rfl
  · intro i h0 h4
    obtain ⟨n1, n2⟩ := colS_norm hg h0 (does := 2) (by decide)
    exact ⟨n1, fun n => by rw [n2, inS_spansOf hg.ok h0, lev_two]⟩
  · intro i h0 h4
    obtain ⟨n1, n2⟩ := colS_norm hg h0 (does := 1) (by decide)
    obtain ⟨_, m2⟩ := colS_norm hg h0 (does := 2) (by decide)
    refine ⟨n1, fun n => ?_⟩
    rw [n2, m2, inS_spansOf hg.ok h0]
    have hb := lev_bd l (i, [], n)
    constructor
    · intro h
      obtain ⟨c, hc, hh⟩ := lev_pos.1 (show 1 ≤ lev l (i, [], n) by omega)
      refine ⟨⟨c, hc, hh, ?_⟩, by omega⟩
      cases hw : c.wr
      · rfl
      · have := lev_two.2 ⟨c, hc, hh, hw⟩
        omega
    · rintro ⟨⟨c, hc, hh, _⟩, h2⟩
      have := lev_pos.2 ⟨c, hc, hh⟩
      omega

/-- While the rows are laid. -/
def RowsR (w : World) (l : List Cl) (k : Nat) (v3 : Value) (wr : World) : Prop :=
  ∃ ks, KRise ks ∧ (∀ key, key ∈ ks ↔ ∃ c ∈ l.take k, c.col < 0 ∧ c.key = key) ∧ ks.length ≤ k ∧ wr.ownsRow w.heap.size 52 5 v3 ks.length ((ks.map (rowN l)).map Cl.cells).flatten ∧ Below w.heap.size w wr

end Go.Proofs.Ytihjcfifakcpgaa
