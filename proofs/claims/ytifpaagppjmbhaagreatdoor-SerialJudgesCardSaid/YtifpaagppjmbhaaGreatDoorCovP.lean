/- PLAIN: what the document's Covers goes by: claims have all that one has, number by number. -/
import Derived.Test.YtifpaagppjmbhaaGreatDoorFootZ
namespace Go.Proofs.YtifpaagppjmbhaaGreatDoor
set_option maxRecDepth 100000

/-- A claim that has the column of another one at a number, and may as much. -/
def qual (c d : Cl) (n : Int) : Prop := d.col = c.col ∧ (d.wr = true ∨ c.wr = false) ∧ d.lo ≤ n ∧ n ≤ d.hi
theorem qual_covers {c d : Cl} {n : Int} (hc : Ok c) (hd : Ok d) (h0 : 0 ≤ c.col) : qual c d n ↔ covers c d n := by
  have hck : c.key = [] := by
    rcases hc.parts with h | h
    · have := h.1; omega
    · exact h.2.2.1
  constructor
  · rintro ⟨h1, h2, h3, h4⟩
    have hdk : d.key = [] := by
      rcases hd.parts with h | h
      · have := h.1; omega
      · exact h.2.2.1
    refine ⟨h1, hdk.trans hck.symm, fun hw => ?_, h3, h4⟩
    rcases h2 with h2 | h2
    · exact h2
    · rw [hw] at h2; cases h2
  · rintro ⟨h1, _, h2, h3, h4⟩
    refine ⟨h1, ?_, h3, h4⟩
    cases hw : c.wr with
    | false => exact .inr rfl
    | true => exact .inl (h2 hw)
theorem covP_row {c : Cl} {l : List Cl} (hc : Ok c) (hl : ∀ d ∈ l, Ok d) (hcol : c.col < 0) : CovP c l ↔ ∃ d ∈ l, d.col < 0 ∧ d.key = c.key ∧ (d.wr = true ∨ c.wr = false) := by
  have hp : c.col = -1 ∧ c.lo = 0 ∧ c.hi = 0 := by
    rcases hc.parts with h | h
    · exact ⟨h.1, h.2.1, h.2.2.1⟩
    · have := h.1; omega
  constructor
  · intro h
    obtain ⟨d, hd, h1, h2, h3, _⟩ := h 0 (by omega) (by omega)
    refine ⟨d, hd, by omega, h2, ?_⟩
    cases hw : c.wr with
    | false => exact .inr rfl
    | true => exact .inl (h3 hw)
  · rintro ⟨d, hd, h1, h2, h3⟩ n hn1 hn2
    have hdp : d.col = -1 ∧ d.lo = 0 ∧ d.hi = 0 := by
      rcases (hl d hd).parts with h | h
      · exact ⟨h.1, h.2.1, h.2.2.1⟩
      · have := h.1; omega
    refine ⟨d, hd, by omega, h2, fun hw => ?_, by omega, by omega⟩
    rcases h3 with h3 | h3
    · exact h3
    · rw [hw] at h3; cases h3
/-- While the claims are gone through for one number: how far all is had from there on. -/
def FarI (c : Cl) (l : List Cl) (a : Int) (k : Nat) (far : Int) (q : Bool) : Prop :=
  a ≤ far ∧ Tells q (∃ d ∈ l.take k, qual c d a) ∧ (q = false → far = a) ∧ (q = true → ∀ n, a ≤ n → n ≤ far → ∃ d ∈ l, covers c d n) ∧ far ≤ 9223372036854775807
theorem FarI.zero (c : Cl) (l : List Cl) (a : Int) (h : a ≤ 9223372036854775807) : FarI c l a 0 a false :=
  ⟨Int.le_refl _, .no (by simp), fun _ => rfl, (fun h => by cases h), h⟩
theorem FarI.yes {c d : Cl} {l : List Cl} {a far : Int} {k : Nat} {q : Bool} (h : FarI c l a k far q) (hx : l[k]? = some d) (hq : qual c d a) (hc : Ok c) (hd : Ok d) (h0 : 0 ≤ c.col) (hf : d.hi ≤ 9223372036854775807) : FarI c l a (k + 1) (max far d.hi) true := by
  obtain ⟨h1, h2, h3, h4, h5⟩ := h
  refine ⟨by omega, .yes ⟨d, ?_, hq⟩, (fun h => by cases h), fun _ n hn1 hn2 => ?_, by omega⟩
  · rw [List.take_add_one, hx]; simp
  · by_cases hh : n ≤ d.hi
    · exact ⟨d, List.mem_of_getElem? hx, (qual_covers hc hd h0).1 ⟨hq.1, hq.2.1, by have := hq.2.2.1; omega, hh⟩⟩
    · cases q with
      | true => exact h4 rfl n hn1 (by omega)
      | false => have := h3 rfl; have := hq.2.2.2; omega
theorem FarI.no {c d : Cl} {l : List Cl} {a far : Int} {k : Nat} {q : Bool} (h : FarI c l a k far q) (hx : l[k]? = some d) (hq : ¬ qual c d a) : FarI c l a (k + 1) far q := by
  obtain ⟨h1, h2, h3, h4, h5⟩ := h
  refine ⟨h1, h2.congr ?_, h3, h4, h5⟩
  rw [List.take_add_one, hx]
  constructor
  · rintro ⟨x, hx, hh⟩
    exact ⟨x, by simp [hx], hh⟩
  · rintro ⟨x, hx, hh⟩
    rcases List.mem_append.1 hx with hx | hx
    · exact ⟨x, hx, hh⟩
    · simp at hx; subst hx; exact absurd hh hq
/-- All is had ahead of a number. -/
def Had (c : Cl) (l : List Cl) (a : Int) : Prop := c.lo ≤ a ∧ a ≤ c.hi ∧ ∀ n, c.lo ≤ n → n < a → ∃ d ∈ l, covers c d n
theorem Had.start {c : Cl} {l : List Cl} (h : c.lo ≤ c.hi) : Had c l c.lo := ⟨Int.le_refl _, h, fun n h1 h2 => by omega⟩
theorem Had.not {c : Cl} {l : List Cl} {a far : Int} (h : Had c l a) (hf : FarI c l a l.length far false) (hc : Ok c) (hl : ∀ d ∈ l, Ok d) (h0 : 0 ≤ c.col) : ¬ CovP c l := by
  intro hcv
  obtain ⟨d, hd, hh⟩ := hcv a h.1 h.2.1
  have := hf.2.1.neg
  rw [List.take_length] at this
  exact this ⟨d, hd, (qual_covers hc (hl d hd) h0).2 hh⟩
theorem Had.all {c : Cl} {l : List Cl} {a far : Int} (h : Had c l a) (hf : FarI c l a l.length far true) (hh : c.hi ≤ far) : CovP c l := fun n h1 h2 => by
  by_cases hn : n < a
  · exact h.2.2 n h1 hn
  · exact hf.2.2.2.1 rfl n (by omega) (by omega)
theorem Had.next {c : Cl} {l : List Cl} {a far : Int} (h : Had c l a) (hf : FarI c l a l.length far true) (hh : ¬ c.hi ≤ far) : Had c l (far + 1) := by
  have := hf.1
  refine ⟨by have := h.1; omega, by omega, fun n h1 h2 => ?_⟩
  by_cases hn : n < a
  · exact h.2.2 n h1 hn
  · exact hf.2.2.2.1 rfl n (by omega) (by omega)
end Go.Proofs.YtifpaagppjmbhaaGreatDoor
