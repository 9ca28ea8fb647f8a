/- Plain laws of claims: what a list of claims does with a thing ('lev'); a list in normal form is known by that. -/
import Derived.Test.YtifpaagppjmbhaaGreatDoorFootP
namespace Go.Proofs.YtifpaagppjmbhaaGreatDoor
set_option maxRecDepth 100000

theorem take_snoc {α : Type} {l : List α} {k : Nat} {x : α} (h : l[k]? = some x) : l.take (k + 1) = l.take k ++ [x] := by rw [List.take_add_one, h]; rfl

/-- A thing: a column (-1: a row), a key, a number. -/
abbrev Thing := Int × List UInt8 × Int
def Cl.has (c : Cl) (t : Thing) : Prop := c.col = t.1 ∧ c.key = t.2.1 ∧ c.lo ≤ t.2.2 ∧ t.2.2 ≤ c.hi
instance (c : Cl) (t : Thing) : Decidable (c.has t) := by unfold Cl.has; infer_instance
/-- What claims do with a thing: 0 nothing, 1 it is read, 2 it is written. -/
def lev (l : List Cl) (t : Thing) : Int :=
  if ∃ c ∈ l, c.has t ∧ c.wr = true then 2 else if ∃ c ∈ l, c.has t then 1 else 0

theorem lev_two {l : List Cl} {t : Thing} : lev l t = 2 ↔ ∃ c ∈ l, c.has t ∧ c.wr = true := by
  unfold lev
  split
  · simp_all
  · split <;> simp_all
theorem lev_pos {l : List Cl} {t : Thing} : 1 ≤ lev l t ↔ ∃ c ∈ l, c.has t := by
  unfold lev
  split
  · rename_i h
    obtain ⟨c, h1, h2, _⟩ := h
    exact ⟨fun _ => ⟨c, h1, h2⟩, fun _ => by decide⟩
  · split
    · rename_i h
      exact ⟨fun _ => h, fun _ => by decide⟩
    · rename_i h
      exact ⟨fun h0 => absurd h0 (by decide), fun h0 => absurd h0 h⟩
theorem lev_bd (l : List Cl) (t : Thing) : 0 ≤ lev l t ∧ lev l t ≤ 2 := by
  unfold lev
  split
  · omega
  · split <;> omega
theorem lev_eq {a b : List Cl} {t : Thing} (h2 : (∃ c ∈ a, c.has t ∧ c.wr = true) ↔ ∃ c ∈ b, c.has t ∧ c.wr = true) (h1 : (∃ c ∈ a, c.has t) ↔ ∃ c ∈ b, c.has t) : lev a t = lev b t := by
  have e2 := (lev_two (l := a) (t := t)).trans (h2.trans lev_two.symm)
  have e1 := (lev_pos (l := a) (t := t)).trans (h1.trans lev_pos.symm)
  have := lev_bd a t
  have := lev_bd b t
  omega
theorem lev_le {a b : List Cl} {t : Thing} (h2 : (∃ c ∈ a, c.has t ∧ c.wr = true) → ∃ c ∈ b, c.has t ∧ c.wr = true) (h1 : (∃ c ∈ a, c.has t) → ∃ c ∈ b, c.has t) : lev a t ≤ lev b t := by
  have e2 : lev a t = 2 → lev b t = 2 := fun h => lev_two.2 (h2 (lev_two.1 h))
  have e1 : 1 ≤ lev a t → 1 ≤ lev b t := fun h => lev_pos.2 (h1 (lev_pos.1 h))
  have := lev_bd a t
  have := lev_bd b t
  omega
theorem lev_same {a b : List Cl} (h : ∀ c, c ∈ a ↔ c ∈ b) (t : Thing) : lev a t = lev b t :=
  lev_eq ⟨fun ⟨c, x, y⟩ => ⟨c, (h c).1 x, y⟩, fun ⟨c, x, y⟩ => ⟨c, (h c).2 x, y⟩⟩ ⟨fun ⟨c, x, y⟩ => ⟨c, (h c).1 x, y⟩, fun ⟨c, x, y⟩ => ⟨c, (h c).2 x, y⟩⟩
theorem lev_sub {a b : List Cl} (h : ∀ c, c ∈ a → c ∈ b) (t : Thing) : lev a t ≤ lev b t :=
  lev_le (fun ⟨c, x, y⟩ => ⟨c, h c x, y⟩) (fun ⟨c, x, y⟩ => ⟨c, h c x, y⟩)
theorem lev_nil (t : Thing) : lev [] t = 0 := by simp [lev]
theorem lev_append (a b : List Cl) (t : Thing) : lev (a ++ b) t = max (lev a t) (lev b t) := by
  have h1 := lev_sub (a := a) (b := a ++ b) (fun c h => List.mem_append.2 (.inl h)) t
  have h2 := lev_sub (a := b) (b := a ++ b) (fun c h => List.mem_append.2 (.inr h)) t
  have h3 : lev (a ++ b) t = 2 → lev a t = 2 ∨ lev b t = 2 := by
    intro h
    obtain ⟨c, hc, h⟩ := lev_two.1 h
    rcases List.mem_append.1 hc with hc | hc
    · exact .inl (lev_two.2 ⟨c, hc, h⟩)
    · exact .inr (lev_two.2 ⟨c, hc, h⟩)
  have h4 : 1 ≤ lev (a ++ b) t → 1 ≤ lev a t ∨ 1 ≤ lev b t := by
    intro h
    obtain ⟨c, hc, h⟩ := lev_pos.1 h
    rcases List.mem_append.1 hc with hc | hc
    · exact .inl (lev_pos.2 ⟨c, hc, h⟩)
    · exact .inr (lev_pos.2 ⟨c, hc, h⟩)
  have := lev_bd a t
  have := lev_bd b t
  have := lev_bd (a ++ b) t
  omega
/-- One claim more, at the end. -/
theorem lev_snoc (a : List Cl) (c : Cl) (t : Thing) : lev (a ++ [c]) t = if c.has t then (if c.wr = true then 2 else max (lev a t) 1) else lev a t := by
  rw [lev_append]
  have hb := lev_bd a t
  have h1 : lev [c] t = if c.has t then (if c.wr = true then 2 else 1) else 0 := by
    unfold lev
    by_cases h : c.has t <;> by_cases hw : c.wr = true <;> simp [h, hw]
  rw [h1]
  by_cases h : c.has t
  · by_cases hw : c.wr = true
    · simp only [h, hw, if_true]; omega
    · simp only [h, hw, if_true]; simp
  · simp only [h, if_false]; omega

theorem strict_unique {α : Type} {r : α → α → Prop} (irr : ∀ a, ¬ r a a) (asy : ∀ a b, r a b → r b a → False) : ∀ {a b : List α}, a.Pairwise r → b.Pairwise r → (∀ x, x ∈ a ↔ x ∈ b) → a = b
  | [], [], _, _, _ => rfl
  | [], y :: b, _, _, h => absurd ((h y).2 (by simp)) (by simp)
  | x :: a, [], _, _, h => absurd ((h x).1 (by simp)) (by simp)
  | x :: a, y :: b, ha, hb, h => by
    have ha' := List.pairwise_cons.1 ha
    have hb' := List.pairwise_cons.1 hb
    have hxy : x = y := by
      rcases List.mem_cons.1 ((h x).1 (by simp)) with e | e
      · exact e
      · rcases List.mem_cons.1 ((h y).2 (by simp)) with e' | e'
        · exact e'.symm
        · exact (asy _ _ (ha'.1 _ e') (hb'.1 _ e)).elim
    subst hxy
    congr 1
    refine strict_unique irr asy ha'.2 hb'.2 fun z => ?_
    constructor
    · intro hz
      rcases List.mem_cons.1 ((h z).1 (by simp [hz])) with e | e
      · subst e; exact absurd (ha'.1 _ hz) (irr _)
      · exact e
    · intro hz
      rcases List.mem_cons.1 ((h z).2 (by simp [hz])) with e | e
      · subst e; exact absurd (hb'.1 _ hz) (irr _)
      · exact e

/-- A row's claim. -/
def rowC (x : Bool × List UInt8) : Cl := ⟨x.1, -1, x.2, 0, 0⟩
def colC (W R : Int → List (Int × Int)) (i : Int) : List Cl := (W i).map (spCl i true) ++ (R i).map (spCl i false)
def formOf (ks : List (Bool × List UInt8)) (W R : Int → List (Int × Int)) : List Cl :=
  ks.map rowC ++ colC W R 0 ++ colC W R 1 ++ colC W R 2 ++ colC W R 3
/-- A list of claims in normal form. -/
def NormC (l : List Cl) : Prop := ∃ ks W R, l = formOf ks W R ∧ (ks.Pairwise fun a b => a.2 < b.2) ∧ ∀ i : Int, 0 ≤ i → i < 4 → NormS (W i) ∧ NormS (R i) ∧ ∀ n, inS (W i) n → ¬ inS (R i) n

theorem mem_colC {W R : Int → List (Int × Int)} {i : Int} {c : Cl} : c ∈ colC W R i ↔ (∃ x ∈ W i, spCl i true x = c) ∨ ∃ x ∈ R i, spCl i false x = c := by
  unfold colC
  rw [List.mem_append, List.mem_map, List.mem_map]
theorem mem_formOf {ks : List (Bool × List UInt8)} {W R : Int → List (Int × Int)} {c : Cl} : c ∈ formOf ks W R ↔ (∃ x ∈ ks, rowC x = c) ∨ ∃ i : Int, 0 ≤ i ∧ i < 4 ∧ c ∈ colC W R i := by
  unfold formOf
  simp only [List.mem_append, List.mem_map]
  constructor
  · rintro ((((h | h) | h) | h) | h)
    · exact .inl h
    · exact .inr ⟨0, by decide, by decide, h⟩
    · exact .inr ⟨1, by decide, by decide, h⟩
    · exact .inr ⟨2, by decide, by decide, h⟩
    · exact .inr ⟨3, by decide, by decide, h⟩
  · rintro (h | ⟨i, h1, h2, h⟩)
    · exact .inl (.inl (.inl (.inl h)))
    · have : i = 0 ∨ i = 1 ∨ i = 2 ∨ i = 3 := by omega
      rcases this with rfl | rfl | rfl | rfl
      · exact .inl (.inl (.inl (.inr h)))
      · exact .inl (.inl (.inr h))
      · exact .inl (.inr h)
      · exact .inr h
theorem has_rowC {x : Bool × List UInt8} {t : Thing} : (rowC x).has t ↔ t = (-1, x.2, 0) := by
  obtain ⟨a, b, n⟩ := t
  unfold Cl.has rowC
  simp only [Prod.mk.injEq]
  constructor
  · rintro ⟨h1, h2, h3, h4⟩; exact ⟨h1.symm, h2.symm, by omega⟩
  · rintro ⟨h1, h2, h3⟩; exact ⟨h1.symm, h2.symm, by omega, by omega⟩
theorem has_spCl {i : Int} {b : Bool} {x : Int × Int} {t : Thing} : (spCl i b x).has t ↔ t.1 = i ∧ t.2.1 = [] ∧ x.1 ≤ t.2.2 ∧ t.2.2 ≤ x.2 := by
  unfold Cl.has spCl
  simp only
  constructor
  · rintro ⟨h1, h2, h3⟩; exact ⟨h1.symm, h2.symm, h3⟩
  · rintro ⟨h1, h2, h3⟩; exact ⟨h1.symm, h2.symm, h3⟩
section
variable {ks : List (Bool × List UInt8)} {W R : Int → List (Int × Int)}
theorem form_row_pos {k : List UInt8} : 1 ≤ lev (formOf ks W R) (-1, k, 0) ↔ ∃ b, (b, k) ∈ ks := by
  rw [lev_pos]
  constructor
  · rintro ⟨c, hc, h⟩
    rcases mem_formOf.1 hc with ⟨x, hx, rfl⟩ | ⟨i, h1, h2, hi⟩
    · have := has_rowC.1 h
      simp at this
      exact ⟨x.1, by rw [this]; exact hx⟩
    · rcases mem_colC.1 hi with ⟨x, _, rfl⟩ | ⟨x, _, rfl⟩
      · have := (has_spCl.1 h).1; simp only at this; omega
      · have := (has_spCl.1 h).1; simp only at this; omega
  · rintro ⟨b, hb⟩
    exact ⟨_, mem_formOf.2 (.inl ⟨_, hb, rfl⟩), has_rowC.2 rfl⟩
theorem form_row_two {k : List UInt8} : lev (formOf ks W R) (-1, k, 0) = 2 ↔ (true, k) ∈ ks := by
  rw [lev_two]
  constructor
  · rintro ⟨c, hc, h, hw⟩
    rcases mem_formOf.1 hc with ⟨x, hx, rfl⟩ | ⟨i, h1, h2, hi⟩
    · have := has_rowC.1 h
      simp at this
      unfold rowC at hw
      simp only at hw
      obtain ⟨x1, x2⟩ := x
      simp_all
    · rcases mem_colC.1 hi with ⟨x, _, rfl⟩ | ⟨x, _, rfl⟩
      · have := (has_spCl.1 h).1; simp only at this; omega
      · have := (has_spCl.1 h).1; simp only at this; omega
  · rintro hb
    exact ⟨_, mem_formOf.2 (.inl ⟨_, hb, rfl⟩), has_rowC.2 rfl, rfl⟩
theorem form_col_two {i n : Int} (h0 : 0 ≤ i) (h4 : i < 4) : lev (formOf ks W R) (i, [], n) = 2 ↔ inS (W i) n := by
  rw [lev_two]
  constructor
  · rintro ⟨c, hc, h, hw⟩
    rcases mem_formOf.1 hc with ⟨x, hx, rfl⟩ | ⟨j, h1, h2, hi⟩
    · have := has_rowC.1 h
      simp at this
      omega
    · rcases mem_colC.1 hi with ⟨x, hx, rfl⟩ | ⟨x, _, rfl⟩
      · have h' := has_spCl.1 h
        simp only at h'
        obtain ⟨rfl, _, h3⟩ := h'
        exact ⟨x, hx, h3⟩
      · cases hw
  · rintro ⟨x, hx, h⟩
    exact ⟨_, mem_formOf.2 (.inr ⟨i, h0, h4, mem_colC.2 (.inl ⟨x, hx, rfl⟩)⟩), has_spCl.2 ⟨rfl, rfl, h⟩, rfl⟩
theorem form_col_pos {i n : Int} (h0 : 0 ≤ i) (h4 : i < 4) : 1 ≤ lev (formOf ks W R) (i, [], n) ↔ inS (W i) n ∨ inS (R i) n := by
  rw [lev_pos]
  constructor
  · rintro ⟨c, hc, h⟩
    rcases mem_formOf.1 hc with ⟨x, hx, rfl⟩ | ⟨j, h1, h2, hi⟩
    · have := has_rowC.1 h
      simp at this
      omega
    · rcases mem_colC.1 hi with ⟨x, hx, rfl⟩ | ⟨x, hx, rfl⟩
      · have h' := has_spCl.1 h
        simp only at h'
        obtain ⟨rfl, _, h3⟩ := h'
        exact .inl ⟨x, hx, h3⟩
      · have h' := has_spCl.1 h
        simp only at h'
        obtain ⟨rfl, _, h3⟩ := h'
        exact .inr ⟨x, hx, h3⟩
  · rintro (⟨x, hx, h⟩ | ⟨x, hx, h⟩)
    · exact ⟨_, mem_formOf.2 (.inr ⟨i, h0, h4, mem_colC.2 (.inl ⟨x, hx, rfl⟩)⟩), has_spCl.2 ⟨rfl, rfl, h⟩⟩
    · exact ⟨_, mem_formOf.2 (.inr ⟨i, h0, h4, mem_colC.2 (.inr ⟨x, hx, rfl⟩)⟩), has_spCl.2 ⟨rfl, rfl, h⟩⟩
end

theorem key_irr (a : List UInt8) : ¬ a < a := List.lt_irrefl a
theorem key_asy {a b : List UInt8} (h : a < b) (h' : b < a) : False := List.lt_irrefl a (List.lt_trans h h')

theorem form_unique {a b : List Cl} (ha : NormC a) (hb : NormC b) (h : ∀ t, lev a t = lev b t) : a = b := by
  obtain ⟨ks, W, R, rfl, hk, hn⟩ := ha
  obtain ⟨ks', W', R', rfl, hk', hn'⟩ := hb
  have hp : ∀ {ks : List (Bool × List UInt8)}, (ks.Pairwise fun a b => a.2 < b.2) → ∀ x ∈ ks, ∀ y ∈ ks, x.2 = y.2 → x = y := by
    intro ks hk x hx y hy e
    by_cases hne : x = y
    · exact hne
    · obtain ⟨i, hi, rfl⟩ := List.mem_iff_getElem.1 hx
      obtain ⟨j, hj, rfl⟩ := List.mem_iff_getElem.1 hy
      rcases Nat.lt_trichotomy i j with hij | hij | hij
      · have := List.pairwise_iff_getElem.1 hk i j hi hj hij; rw [e] at this; exact (key_irr _ this).elim
      · subst hij; rfl
      · have := List.pairwise_iff_getElem.1 hk j i hj hi hij; rw [e] at this; exact (key_irr _ this).elim
  have hks : ks = ks' := by
    refine strict_unique (r := fun a b => a.2 < b.2) (fun a => key_irr a.2) (fun a b => key_asy) hk hk' ?_
    have side : ∀ {ks ks' : List (Bool × List UInt8)} {W R W' R' : Int → List (Int × Int)}, (ks.Pairwise fun a b => a.2 < b.2) → (ks'.Pairwise fun a b => a.2 < b.2) → (∀ t, lev (formOf ks W R) t = lev (formOf ks' W' R') t) → ∀ x, x ∈ ks → x ∈ ks' := by
      intro ks ks' W R W' R' hk hk' h x hx
      obtain ⟨b, k⟩ := x
      have h1 := (form_row_pos (ks := ks) (W := W) (R := R)).2 ⟨b, hx⟩
      rw [h] at h1
      obtain ⟨b', hb'⟩ := form_row_pos.1 h1
      have h2 : ((true, k) ∈ ks) ↔ ((true, k) ∈ ks') := by
        rw [← form_row_two (ks := ks) (W := W) (R := R), ← form_row_two (ks := ks') (W := W') (R := R'), h]
      cases b with
      | true => exact h2.1 hx
      | false =>
        cases b' with
        | false => exact hb'
        | true =>
          have := hp hk _ (h2.2 hb') _ hx rfl
          cases this
    exact fun x => ⟨side hk hk' h x, side hk' hk (fun t => (h t).symm) x⟩
  subst hks
  have hW : ∀ i : Int, 0 ≤ i → i < 4 → W i = W' i := fun i h0 h4 => norm_unique (hn i h0 h4).1 (hn' i h0 h4).1 fun n => by
    rw [← form_col_two (ks := ks) (R := R) h0 h4, ← form_col_two (ks := ks) (R := R') h0 h4, h]
  have hR : ∀ i : Int, 0 ≤ i → i < 4 → R i = R' i := fun i h0 h4 => norm_unique (hn i h0 h4).2.1 (hn' i h0 h4).2.1 fun n => by
    have e1 := form_col_pos (ks := ks) (W := W) (R := R) (n := n) h0 h4
    have e2 := form_col_pos (ks := ks) (W := W') (R := R') (n := n) h0 h4
    have e3 := (hn i h0 h4).2.2 n
    have e4 := (hn' i h0 h4).2.2 n
    rw [h, e2, hW i h0 h4] at e1
    rw [hW i h0 h4] at e3
    constructor
    · intro hr
      rcases e1.2 (.inr hr) with h' | h'
      · exact absurd hr (e3 h')
      · exact h'
    · intro hr
      rcases e1.1 (.inr hr) with h' | h'
      · exact absurd hr (e4 h')
      · exact h'
  unfold formOf colC
  rw [hW 0 (by decide) (by decide), hW 1 (by decide) (by decide), hW 2 (by decide) (by decide), hW 3 (by decide) (by decide), hR 0 (by decide) (by decide), hR 1 (by decide) (by decide), hR 2 (by decide) (by decide), hR 3 (by decide) (by decide)]

/-- A claim that may be. -/
def Ok (c : Cl) : Prop := chk c = 0
theorem Ok.parts {c : Cl} (h : Ok c) : (c.col = -1 ∧ c.lo = 0 ∧ c.hi = 0 ∧ 1 ≤ c.key.length ∧ c.key.length ≤ 16) ∨ (0 ≤ c.col ∧ c.col < 4 ∧ c.key = [] ∧ c.lo ≤ c.hi) := by
  unfold Ok chk at h
  split at h
  · cases h
  · split at h
    · split at h
      · cases h
      · rename_i h1 h2 h3
        refine .inr ⟨h2, by omega, ?_, ?_⟩
        · exact Classical.byContradiction fun hk => h3 (.inl hk)
        · exact Int.not_lt.1 fun hk => h3 (.inr hk)
    · split at h
      · cases h
      · unfold keyErr at h
        split at h
        · cases h
        · omega
theorem Ok.of {c : Cl} (h : (c.col = -1 ∧ c.lo = 0 ∧ c.hi = 0 ∧ 1 ≤ c.key.length ∧ c.key.length ≤ 16) ∨ (0 ≤ c.col ∧ c.col < 4 ∧ c.key = [] ∧ c.lo ≤ c.hi)) : Ok c := by
  unfold Ok chk keyErr
  rcases h with ⟨h1, h2, h3, h4, h5⟩ | ⟨h1, h2, h3, h4⟩
  · rw [if_neg (by omega), if_neg (by omega), if_neg (by omega), if_neg (by omega)]
  · rw [if_neg (by omega), if_pos h1, if_neg (by simp [h3]; omega)]
theorem Ok.proper {c : Cl} (h : Ok c) : c.lo ≤ c.hi := by
  rcases h.parts with h | h <;> omega

/-- The spans that claims have of a column. -/
def spansOf (l : List Cl) (i : Int) (b : Bool) : List (Int × Int) := (l.filter fun c => c.col == i && c.wr == b).map fun c => (c.lo, c.hi)
theorem mem_spansOf {l : List Cl} {i : Int} {b : Bool} {x : Int × Int} : x ∈ spansOf l i b ↔ ∃ c ∈ l, c.col = i ∧ c.wr = b ∧ (c.lo, c.hi) = x := by
  unfold spansOf
  simp only [List.mem_map, List.mem_filter, Bool.and_eq_true, beq_iff_eq]
  constructor
  · rintro ⟨c, ⟨h1, h2, h3⟩, h4⟩; exact ⟨c, h1, h2, h3, h4⟩
  · rintro ⟨c, h1, h2, h3, h4⟩; exact ⟨c, ⟨h1, h2, h3⟩, h4⟩
theorem inS_spansOf {l : List Cl} (hl : ∀ c ∈ l, Ok c) {i n : Int} {b : Bool} (h0 : 0 ≤ i) : inS (spansOf l i b) n ↔ ∃ c ∈ l, c.has (i, [], n) ∧ c.wr = b := by
  unfold inS
  constructor
  · rintro ⟨x, hx, h⟩
    obtain ⟨c, h1, h2, h3, rfl⟩ := mem_spansOf.1 hx
    have := (hl c h1).parts
    refine ⟨c, h1, ⟨h2, ?_, h⟩, h3⟩
    rcases this with this | this
    · omega
    · exact this.2.2.1
  · rintro ⟨c, h1, ⟨h2, h3, h4⟩, h5⟩
    exact ⟨_, mem_spansOf.2 ⟨c, h1, h2, h5, rfl⟩, h4⟩
theorem proper_spansOf {l : List Cl} (hl : ∀ c ∈ l, Ok c) (i : Int) (b : Bool) : Proper (spansOf l i b) := by
  intro x hx
  obtain ⟨c, h1, h2, h3, rfl⟩ := mem_spansOf.1 hx
  exact (hl c h1).proper

/-- What New lays is in normal form, and does what the claims do. -/
theorem form_is {l : List Cl} (hl : ∀ c ∈ l, Ok c) {ks : List (Bool × List UInt8)} {W R : Int → List (Int × Int)} (hk : ks.Pairwise fun a b => a.2 < b.2)
    (h1 : ∀ k, (∃ b, (b, k) ∈ ks) ↔ 1 ≤ lev l (-1, k, 0)) (h2 : ∀ k, (true, k) ∈ ks ↔ lev l (-1, k, 0) = 2)
    (hW : ∀ i : Int, 0 ≤ i → i < 4 → NormS (W i) ∧ ∀ n, inS (W i) n ↔ inS (spansOf l i true) n)
    (hR : ∀ i : Int, 0 ≤ i → i < 4 → NormS (R i) ∧ ∀ n, inS (R i) n ↔ inS (spansOf l i false) n ∧ ¬ inS (W i) n) :
    NormC (formOf ks W R) ∧ ∀ t, lev (formOf ks W R) t = lev l t := by
  refine ⟨⟨ks, W, R, rfl, hk, fun i a b => ⟨(hW i a b).1, (hR i a b).1, fun n h h' => ((((hR i a b).2 n).1 h').2 h)⟩⟩, ?_⟩
  rintro ⟨i, k, n⟩
  have bd1 := lev_bd (formOf ks W R) (i, k, n)
  have bd2 := lev_bd l (i, k, n)
  by_cases hi : 0 ≤ i ∧ i < 4
  · obtain ⟨a, b⟩ := hi
    by_cases hkn : k = []
    · subst hkn
      have e1 := (form_col_two (ks := ks) (W := W) (R := R) (n := n) a b)
      have e2 := (form_col_pos (ks := ks) (W := W) (R := R) (n := n) a b)
      rw [(hW i a b).2 n, inS_spansOf hl a, ← lev_two] at e1
      have e3 : (inS (W i) n ∨ inS (R i) n) ↔ 1 ≤ lev l (i, [], n) := by
        rw [(hR i a b).2 n, (hW i a b).2 n, inS_spansOf hl a, inS_spansOf hl a, lev_pos]
        constructor
        · rintro (⟨c, x, y, _⟩ | ⟨⟨c, x, y, _⟩, _⟩)
          · exact ⟨c, x, y⟩
          · exact ⟨c, x, y⟩
        · rintro ⟨c, x, y⟩
          cases hw : c.wr
          · by_cases hh : ∃ c ∈ l, c.has (i, [], n) ∧ c.wr = true
            · exact .inl hh
            · exact .inr ⟨⟨c, x, y, hw⟩, hh⟩
          · exact .inl ⟨c, x, y, hw⟩
      rw [e3] at e2
      omega
    · have e1 : ¬ 1 ≤ lev (formOf ks W R) (i, k, n) := by
        rw [lev_pos]
        rintro ⟨c, hc, h⟩
        rcases mem_formOf.1 hc with ⟨x, hx, rfl⟩ | ⟨j, _, _, hi⟩
        · have := has_rowC.1 h; simp at this; omega
        · rcases mem_colC.1 hi with ⟨x, hx, rfl⟩ | ⟨x, hx, rfl⟩
          · exact hkn (has_spCl.1 h).2.1
          · exact hkn (has_spCl.1 h).2.1
      have e2 : ¬ 1 ≤ lev l (i, k, n) := by
        rw [lev_pos]
        rintro ⟨c, hc, g1, g2, g3⟩
        simp only at g1 g2
        rcases (hl c hc).parts with h | h
        · omega
        · exact hkn (g2.symm.trans h.2.2.1)
      omega
  · by_cases hr : i = -1 ∧ n = 0
    · obtain ⟨rfl, rfl⟩ := hr
      have e1 := (form_row_pos (ks := ks) (W := W) (R := R) (k := k)).trans (h1 k)
      have e2 := (form_row_two (ks := ks) (W := W) (R := R) (k := k)).trans (h2 k)
      omega
    · have e1 : ¬ 1 ≤ lev (formOf ks W R) (i, k, n) := by
        rw [lev_pos]
        rintro ⟨c, hc, h⟩
        rcases mem_formOf.1 hc with ⟨x, hx, rfl⟩ | ⟨j, _, _, hi⟩
        · have := has_rowC.1 h; simp at this; omega
        · rcases mem_colC.1 hi with ⟨x, hx, rfl⟩ | ⟨x, hx, rfl⟩
          · have := (has_spCl.1 h).1; simp only at this; omega
          · have := (has_spCl.1 h).1; simp only at this; omega
      have e2 : ¬ 1 ≤ lev l (i, k, n) := by
        rw [lev_pos]
        rintro ⟨c, hc, g1, g2, g3, g4⟩
        simp only at g1 g2 g3 g4
        rcases (hl c hc).parts with h | h
        · omega
        · omega
      omega

end Go.Proofs.YtifpaagppjmbhaaGreatDoor
