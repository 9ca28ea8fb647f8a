/- Plain laws: a form's claims may be; Within and Conflict by what claims do with things. -/
import Derived.Test.YtifpaagppjmbhaaGreatDoorFootV
namespace Go.Proofs.YtifpaagppjmbhaaGreatDoor
set_option maxRecDepth 100000

/-- Claims that may be, of numbers that fit. -/
def Good (l : List Cl) : Prop := ∀ c ∈ l, Ok c ∧ c.fits

theorem Cl.has_lo {c : Cl} (h : Ok c) : c.has (c.col, c.key, c.lo) := ⟨rfl, rfl, Int.le_refl _, h.proper⟩
theorem Cl.has_hi {c : Cl} (h : Ok c) : c.has (c.col, c.key, c.hi) := ⟨rfl, rfl, h.proper, Int.le_refl _⟩

theorem form_good {l out : List Cl} (h : IsForm l out) (hg : Good l) : Good out := by
  have hp : ∀ t, 1 ≤ lev out t → ∃ c ∈ l, c.has t := fun t ht => lev_pos.1 (by rw [← h.2]; exact ht)
  obtain ⟨⟨ks, W, R, rfl, hk, hn⟩, _⟩ := h
  intro c hc
  rcases mem_formOf.1 hc with ⟨x, hx, rfl⟩ | ⟨i, h0, h4, hi⟩
  · obtain ⟨d, hd, hh⟩ := hp (-1, x.2, 0) (lev_pos.2 ⟨rowC x, hc, has_rowC.2 rfl⟩)
    obtain ⟨ho, hf⟩ := hg d hd
    have hkey : d.key = x.2 := hh.2.1
    have hcol : d.col = -1 := hh.1
    rcases ho.parts with hpt | hpt
    · exact ⟨Ok.of (.inl ⟨rfl, rfl, rfl, by show 1 ≤ x.2.length ∧ x.2.length ≤ 16; rw [← hkey]; exact hpt.2.2.2⟩), by
        have := hf.2.2.2
        rw [hkey] at this
        exact ⟨by unfold I64 rowC; simp, by unfold I64 rowC; simp, by unfold I64 rowC; simp, this⟩⟩
    · omega
  · have hcol : c.col = i ∧ c.key = [] ∧ c.lo ≤ c.hi := by
      rcases mem_colC.1 hi with ⟨x, hx, rfl⟩ | ⟨x, hx, rfl⟩
      · exact ⟨rfl, rfl, (hn i h0 h4).1.1 x hx⟩
      · exact ⟨rfl, rfl, (hn i h0 h4).2.1.1 x hx⟩
    have hok : Ok c := Ok.of (.inr ⟨by omega, by omega, hcol.2.1, hcol.2.2⟩)
    obtain ⟨d, hd, hh⟩ := hp _ (lev_pos.2 ⟨c, hc, Cl.has_lo hok⟩)
    obtain ⟨d', hd', hh'⟩ := hp _ (lev_pos.2 ⟨c, hc, Cl.has_hi hok⟩)
    have f1 := (hg d hd).2
    have f2 := (hg d' hd').2
    have g1 := hh.2.2
    have g2 := hh'.2.2
    simp only at g1 g2
    unfold Cl.fits I64 at f1 f2
    refine ⟨hok, ?_, ?_, ?_, ?_⟩
    · unfold I64; omega
    · unfold I64; omega
    · unfold I64; omega
    · rw [hcol.2.1]; simp

theorem isForm_nil : IsForm [] [] := ⟨⟨[], fun _ => [], fun _ => [], rfl, List.Pairwise.nil, fun i _ _ => ⟨⟨fun x hx => by simp at hx, List.Pairwise.nil⟩, ⟨fun x hx => by simp at hx, List.Pairwise.nil⟩, fun n h => absurd h (inS_nil n)⟩⟩, fun _ => rfl⟩
theorem IsForm.self {l out : List Cl} (h : IsForm l out) : IsForm out out := ⟨h.1, fun _ => rfl⟩
theorem IsForm.unique {l a b : List Cl} (h : IsForm l a) (h' : IsForm l b) : a = b := form_unique h.1 h'.1 (fun t => (h.2 t).trans (h'.2 t).symm)
theorem IsForm.congr {l l' out : List Cl} (h : IsForm l out) (e : ∀ t, lev l' t = lev l t) : IsForm l' out := ⟨h.1, fun t => (h.2 t).trans (e t).symm⟩
theorem Good.ok {l : List Cl} (h : Good l) : ∀ c ∈ l, Ok c := fun c hc => (h c hc).1
theorem Good.fits {l : List Cl} (h : Good l) : ∀ c ∈ l, c.fits := fun c hc => (h c hc).2
theorem Good.proper {l : List Cl} (h : Good l) : ∀ c ∈ l, c.lo ≤ c.hi := fun c hc => (h c hc).1.proper
theorem Good.append {a b : List Cl} (h : Good a) (h' : Good b) : Good (a ++ b) := fun c hc => (List.mem_append.1 hc).elim (h c) (h' c)
theorem Good.nil : Good [] := fun c hc => by simp at hc

theorem covP_lev {c : Cl} {l : List Cl} : CovP c l ↔ ∀ n, c.lo ≤ n → n ≤ c.hi → (if c.wr = true then 2 else 1) ≤ lev l (c.col, c.key, n) := by
  unfold CovP
  constructor
  · intro h n h1 h2
    obtain ⟨d, hd, hc⟩ := h n h1 h2
    split
    · rename_i hw
      have := lev_two.2 ⟨d, hd, (⟨hc.1, hc.2.1, hc.2.2.2⟩ : d.has (c.col, c.key, n)), hc.2.2.1 hw⟩
      omega
    · exact lev_pos.2 ⟨d, hd, (⟨hc.1, hc.2.1, hc.2.2.2⟩ : d.has (c.col, c.key, n))⟩
  · intro h n h1 h2
    have := h n h1 h2
    split at this
    · rename_i hw
      have hb := lev_bd l (c.col, c.key, n)
      obtain ⟨d, hd, hh, hdw⟩ := lev_two.1 (show lev l (c.col, c.key, n) = 2 by omega)
      exact ⟨d, hd, hh.1, hh.2.1, fun _ => hdw, hh.2.2⟩
    · rename_i hw
      obtain ⟨d, hd, hh⟩ := lev_pos.1 this
      exact ⟨d, hd, hh.1, hh.2.1, fun e => absurd e hw, hh.2.2⟩
theorem within_lev {a b : List Cl} : WithinP a b ↔ ∀ t, lev a t ≤ lev b t := by
  unfold WithinP
  constructor
  · intro h t
    refine lev_le ?_ ?_
    · rintro ⟨c, hc, hh, hw⟩
      have := covP_lev.1 (h c hc) t.2.2 hh.2.2.1 hh.2.2.2
      rw [if_pos hw, hh.1, hh.2.1] at this
      have hb := lev_bd b (t.1, t.2.1, t.2.2)
      exact lev_two.1 (show lev b t = 2 by obtain ⟨t1, t2, t3⟩ := t; simp only at this hb ⊢; omega)
    · rintro ⟨c, hc, hh⟩
      have := covP_lev.1 (h c hc) t.2.2 hh.2.2.1 hh.2.2.2
      rw [hh.1, hh.2.1] at this
      exact lev_pos.1 (show 1 ≤ lev b t by obtain ⟨t1, t2, t3⟩ := t; simp only at this ⊢; split at this <;> omega)
  · intro h c hc
    refine covP_lev.2 fun n h1 h2 => ?_
    have hh : c.has (c.col, c.key, n) := ⟨rfl, rfl, h1, h2⟩
    have := h (c.col, c.key, n)
    split
    · rename_i hw
      have := lev_two.2 ⟨c, hc, hh, hw⟩
      omega
    · have := lev_pos.2 ⟨c, hc, hh⟩
      omega
theorem confl_lev {a b : List Cl} (ha : Good a) (hb : Good b) : ConflP a b ↔ ∃ t, 1 ≤ lev a t ∧ 1 ≤ lev b t ∧ (lev a t = 2 ∨ lev b t = 2) := by
  unfold ConflP clash
  constructor
  · rintro ⟨c, hc, d, hd, hw, h1, h2, h3, h4⟩
    have p1 := ha.proper c hc
    have p2 := hb.proper d hd
    let n := max c.lo d.lo
    have hcn : c.has (c.col, c.key, n) := ⟨rfl, rfl, by simp only [n]; omega, by simp only [n]; omega⟩
    have hdn : d.has (c.col, c.key, n) := ⟨h1.symm, h2.symm, by simp only [n]; omega, by simp only [n]; omega⟩
    refine ⟨(c.col, c.key, n), lev_pos.2 ⟨c, hc, hcn⟩, lev_pos.2 ⟨d, hd, hdn⟩, ?_⟩
    rcases hw with hw | hw
    · exact .inl (lev_two.2 ⟨c, hc, hcn, hw⟩)
    · exact .inr (lev_two.2 ⟨d, hd, hdn, hw⟩)
  · rintro ⟨t, h1, h2, h3⟩
    have key : ∀ {c d : Cl}, c ∈ a → d ∈ b → c.has t → d.has t → (c.wr = true ∨ d.wr = true) → ∃ c ∈ a, ∃ d ∈ b, (c.wr = true ∨ d.wr = true) ∧ c.col = d.col ∧ c.key = d.key ∧ c.lo ≤ d.hi ∧ d.lo ≤ c.hi := by
      intro c d hc hd x y hw
      exact ⟨c, hc, d, hd, hw, x.1.trans y.1.symm, x.2.1.trans y.2.1.symm, Int.le_trans x.2.2.1 y.2.2.2, Int.le_trans y.2.2.1 x.2.2.2⟩
    rcases h3 with h3 | h3
    · obtain ⟨c, hc, x, hw⟩ := lev_two.1 h3
      obtain ⟨d, hd, y⟩ := lev_pos.1 h2
      exact key hc hd x y (.inl hw)
    · obtain ⟨d, hd, y, hw⟩ := lev_two.1 h3
      obtain ⟨c, hc, x⟩ := lev_pos.1 h1
      exact key hc hd x y (.inr hw)
theorem lev_nil_iff {a : List Cl} (ha : Good a) : (∀ t, lev a t ≤ 0) ↔ a = [] := by
  constructor
  · intro h
    cases a with
    | nil => rfl
    | cons c l =>
      have h1 : 1 ≤ lev (c :: l) (c.col, c.key, c.lo) := lev_pos.2 ⟨c, List.mem_cons_self, Cl.has_lo (ha.ok c List.mem_cons_self)⟩
      have := h (c.col, c.key, c.lo)
      omega
  · rintro rfl t
    rw [lev_nil]
    exact Int.le_refl _
theorem errOf_cases (l : List Cl) : errOf l = 0 ∨ errOf l = 10 ∨ errOf l = 13 := by
  unfold errOf
  split
  · rename_i c _
    unfold chk keyErr
    split
    · simp
    · split
      · split <;> simp
      · split
        · simp
        · split <;> simp
  · simp

end Go.Proofs.YtifpaagppjmbhaaGreatDoor
