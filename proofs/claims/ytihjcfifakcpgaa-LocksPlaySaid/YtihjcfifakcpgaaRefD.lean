/- breviaryref09, column: plain laws. -/
import Derived.Test.YtihjcfifakcpgaaRefC
import Derived.Test.YtihjcfifakcpgaaFootW
namespace Go.Proofs.Ytihjcfifakcpgaa

/-- One number more: spans that are shut, and where an open one began. -/
def colStep (f : Int → Bool) (st : List (Int × Int) × Option Int) (a : Int) : List (Int × Int) × Option Int :=
  match f a, st.2 with
  | true, none => (st.1, some a)
  | false, some s => (st.1 ++ [(s, a - 1)], none)
  | _, _ => st
def outOf (st : List (Int × Int) × Option Int) : List (Int × Int) := st.1 ++ (match st.2 with | none => [] | some s => [(s, 9223372036854775807)])
def colSt (f : Int → Bool) (at_ : List Int) : List (Int × Int) × Option Int := at_.foldl (colStep f) ([], none)
theorem colSt_snoc (f : Int → Bool) (p : List Int) (a : Int) : colSt f (p ++ [a]) = colStep f (colSt f p) a := by simp [colSt]

/-- What claims do turns at no number but those. -/
theorem lev_const {l : List Cl} (hl : Good l) {col : Int} (hc : 0 ≤ col) {b n : Int} (hb : b ≤ n) (hmax : n ≤ 9223372036854775807) (h : ∀ x ∈ begS l col, x ≤ n → x ≤ b) : lev l (col, [], n) = lev l (col, [], b) := by
  have key : ∀ c ∈ l, c.has (col, [], n) ↔ c.has (col, [], b) := by
    intro c hcm
    rw [has_val_iff (hl.ok c hcm) hc, has_val_iff (hl.ok c hcm) hc]
    constructor
    · rintro ⟨h1, h2, h3⟩
      have := h c.lo ((begS_mem col l [] _).2 (.inr ⟨c, hcm, h1, .inl rfl⟩)) h2
      exact ⟨h1, this, by omega⟩
    · rintro ⟨h1, h2, h3⟩
      refine ⟨h1, by omega, ?_⟩
      by_cases hm : n ≤ c.hi
      · exact hm
      · have := h (c.hi + 1) ((begS_mem col l [] _).2 (.inr ⟨c, hcm, h1, .inr ⟨by omega, rfl⟩⟩)) (by omega)
        omega
  have e2 : lev l (col, [], n) = 2 ↔ lev l (col, [], b) = 2 := by
    rw [lev_two, lev_two]
    exact ⟨fun ⟨c, h1, h2, h3⟩ => ⟨c, h1, (key c h1).1 h2, h3⟩, fun ⟨c, h1, h2, h3⟩ => ⟨c, h1, (key c h1).2 h2, h3⟩⟩
  have e1 : 1 ≤ lev l (col, [], n) ↔ 1 ≤ lev l (col, [], b) := by
    rw [lev_pos, lev_pos]
    exact ⟨fun ⟨c, h1, h2⟩ => ⟨c, h1, (key c h1).1 h2⟩, fun ⟨c, h1, h2⟩ => ⟨c, h1, (key c h1).2 h2⟩⟩
  have := lev_bd l (col, [], n)
  have := lev_bd l (col, [], b)
  omega
theorem lev_before {l : List Cl} (hl : Good l) {col : Int} (hc : 0 ≤ col) {n : Int} (h : ∀ x ∈ begS l col, ¬ x ≤ n) : lev l (col, [], n) = 0 := by
  have hb := lev_bd l (col, [], n)
  have : ¬ 1 ≤ lev l (col, [], n) := by
    rw [lev_pos]
    rintro ⟨c, hcm, hh⟩
    rw [has_val_iff (hl.ok c hcm) hc] at hh
    exact h c.lo ((begS_mem col l [] _).2 (.inr ⟨c, hcm, hh.1, .inl rfl⟩)) hh.2.1
  omega
theorem lev_behind {l : List Cl} (hl : Good l) {col : Int} (hc : 0 ≤ col) {n : Int} (h : 9223372036854775807 < n) : lev l (col, [], n) = 0 := by
  have hb := lev_bd l (col, [], n)
  have : ¬ 1 ≤ lev l (col, [], n) := by
    rw [lev_pos]
    rintro ⟨c, hcm, hh⟩
    rw [has_val_iff (hl.ok c hcm) hc] at hh
    have := (hl.fits c hcm).2.2.1.2
    omega
  omega

theorem rising_split {p r : List Int} {a : Int} (h : Rising (p ++ a :: r)) : (∀ x ∈ p, x < a) ∧ ∀ x ∈ r, a < x := by
  unfold Rising at h
  rw [List.pairwise_append, List.pairwise_cons] at h
  exact ⟨fun x hx => h.2.2 x hx a (by simp), h.2.1.1⟩

/-- What holds while the numbers are gone through. -/
structure ColI (f : Int → Prop) (p r : List Int) (st : List (Int × Int) × Option Int) : Prop where
  norm : NormS (outOf st)
  ends : ∀ x ∈ st.1, x.2 + 1 ∈ p
  opens : ∀ s, st.2 = some s → s ∈ p
  same : ∀ n, n ≤ 9223372036854775807 → (∀ x ∈ r, n < x) → (inS (outOf st) n ↔ f n)

theorem inS_out {st : List (Int × Int) × Option Int} {n : Int} : inS (outOf st) n ↔ inS st.1 n ∨ ∃ s, st.2 = some s ∧ s ≤ n ∧ n ≤ 9223372036854775807 := by
  unfold outOf
  rw [inS_append]
  cases st.2 with
  | none => simp [inS_nil]
  | some s => simp [inS1]
theorem norm_snoc {l : List (Int × Int)} {x : Int × Int} : NormS (l ++ [x]) ↔ NormS l ∧ x.1 ≤ x.2 ∧ ∀ y ∈ l, y.2 + 1 < x.1 := by
  unfold NormS Proper
  rw [List.pairwise_append]
  constructor
  · rintro ⟨h1, h2, _, h3⟩
    exact ⟨⟨fun y hy => h1 y (by simp [hy]), h2⟩, h1 x (by simp), fun y hy => h3 y hy x (by simp)⟩
  · rintro ⟨⟨h1, h2⟩, h3, h4⟩
    refine ⟨fun y hy => ?_, h2, by simp, fun y hy z hz => by simp at hz; subst hz; exact h4 y hy⟩
    rcases List.mem_append.1 hy with hy | hy
    · exact h1 y hy
    · simp at hy; subst hy; exact h3

theorem colI_step {l : List Cl} (hl : Good l) {col : Int} (hc : 0 ≤ col) {does : Int} {p r : List Int} {a : Int} (hat : begS l col = p ++ a :: r) (hmax : ∀ x ∈ begS l col, x ≤ 9223372036854775807) {st : List (Int × Int) × Option Int}
    (h : ColI (fun n => lev l (col, [], n) = does) p (a :: r) st) : ColI (fun n => lev l (col, [], n) = does) (p ++ [a]) r (colStep (fun n => lev l (col, [], n) == does) st a) := by
  have hris : Rising (p ++ a :: r) := by rw [← hat]; exact begS_rising col l [] List.Pairwise.nil
  obtain ⟨hpa, har⟩ := rising_split hris
  have ham : a ≤ 9223372036854775807 := hmax a (by rw [hat]; simp)
  have hconst : ∀ n, n ≤ 9223372036854775807 → a ≤ n → (∀ x ∈ r, n < x) → lev l (col, [], n) = lev l (col, [], a) := by
    intro n hn han hr
    refine lev_const hl hc han hn (fun x hx hxn => ?_)
    rw [hat] at hx
    rcases List.mem_append.1 hx with hx | hx
    · have := hpa x hx; omega
    · rcases List.mem_cons.1 hx with rfl | hx
      · exact Int.le_refl _
      · have := hr x hx; omega
  have hbefore : ∀ n, n < a → ∀ x ∈ a :: r, n < x := by
    intro n hn x hx
    rcases List.mem_cons.1 hx with rfl | hx
    · exact hn
    · have := har x hx; omega
  have hclosed : ∀ n, a ≤ n → ¬ inS st.1 n := by
    rintro n hn ⟨x, hx, _, h2⟩
    have := hpa _ (h.ends x hx)
    omega
  obtain ⟨C, o⟩ := st
  unfold colStep
  by_cases hfa : lev l (col, [], a) = does
  · have hb : (lev l (col, [], a) == does) = true := by simpa using hfa
    cases o with
    | none =>
      simp only [hb]
      have hn := h.norm
      unfold outOf at hn
      simp only [List.append_nil] at hn
      refine ⟨?_, fun x hx => List.mem_append.2 (.inl (h.ends x hx)), fun s hs => by injection hs with hs; subst hs; simp, fun n hn2 hr => ?_⟩
      · unfold outOf
        simp only
        rw [norm_snoc]
        exact ⟨hn, ham, fun y hy => by have := hpa _ (h.ends y hy); exact this⟩
      · rw [inS_out]
        by_cases hna : n < a
        · have := h.same n hn2 (hbefore n hna)
          rw [inS_out] at this
          simp only at this ⊢
          rw [← this]
          constructor
          · rintro (h1 | ⟨s, hs, h2, _⟩)
            · exact .inl h1
            · injection hs with hs; subst hs; omega
          · rintro (h1 | ⟨s, hs, _⟩)
            · exact .inl h1
            · cases hs
        · simp only
          rw [hconst n hn2 (by omega) hr]
          exact ⟨fun _ => hfa, fun _ => .inr ⟨a, rfl, by omega, hn2⟩⟩
    | some s =>
      simp only [hb]
      refine ⟨h.norm, fun x hx => List.mem_append.2 (.inl (h.ends x hx)), fun t ht => List.mem_append.2 (.inl (h.opens t ht)), fun n hn2 hr => ?_⟩
      by_cases hna : n < a
      · exact h.same n hn2 (hbefore n hna)
      · rw [inS_out, hconst n hn2 (by omega) hr]
        have := hpa s (h.opens s rfl)
        exact ⟨fun _ => hfa, fun _ => .inr ⟨s, rfl, by omega, hn2⟩⟩
  · have hb : (lev l (col, [], a) == does) = false := by simpa using hfa
    cases o with
    | none =>
      simp only [hb]
      refine ⟨h.norm, fun x hx => List.mem_append.2 (.inl (h.ends x hx)), (fun t ht => by cases ht), fun n hn2 hr => ?_⟩
      by_cases hna : n < a
      · exact h.same n hn2 (hbefore n hna)
      · rw [inS_out, hconst n hn2 (by omega) hr]
        constructor
        · rintro (h1 | ⟨s, hs, _⟩)
          · exact absurd h1 (hclosed n (by omega))
          · cases hs
        · intro h1; exact absurd h1 hfa
    | some s =>
      simp only [hb]
      have hsa := hpa s (h.opens s rfl)
      have hn := h.norm
      unfold outOf at hn
      simp only at hn
      rw [norm_snoc] at hn
      refine ⟨?_, ?_, (fun t ht => by cases ht), fun n hn2 hr => ?_⟩
      · unfold outOf
        simp only [List.append_nil]
        rw [norm_snoc]
        exact ⟨hn.1, by simp only; omega, hn.2.2⟩
      · intro x hx
        rcases List.mem_append.1 hx with hx | hx
        · exact List.mem_append.2 (.inl (h.ends x hx))
        · simp at hx; subst hx; simp
      · rw [inS_out]
        simp only [inS_append, inS1]
        by_cases hna : n < a
        · have := h.same n hn2 (hbefore n hna)
          rw [inS_out] at this
          simp only at this
          rw [← this]
          constructor
          · rintro ((h1 | h1) | ⟨t, ht, _⟩)
            · exact .inl h1
            · exact .inr ⟨s, rfl, h1.1, hn2⟩
            · cases ht
          · rintro (h1 | ⟨t, ht, h2, _⟩)
            · exact .inl (.inl h1)
            · injection ht with ht; subst ht; exact .inl (.inr ⟨h2, by omega⟩)
        · rw [hconst n hn2 (by omega) hr]
          constructor
          · rintro ((h1 | h1) | ⟨t, ht, _⟩)
            · exact absurd h1 (hclosed n (by omega))
            · omega
            · cases ht
          · intro h1; exact absurd h1 hfa

theorem colI_all {l : List Cl} (hl : Good l) {col : Int} (hc : 0 ≤ col) {does : Int} (hd : does ≠ 0) (hmax : ∀ x ∈ begS l col, x ≤ 9223372036854775807) : ∀ (r p : List Int), begS l col = p ++ r → ColI (fun n => lev l (col, [], n) = does) p r (colSt (fun n => lev l (col, [], n) == does) p) → ColI (fun n => lev l (col, [], n) = does) (p ++ r) [] (colSt (fun n => lev l (col, [], n) == does) (p ++ r))
  | [], p, _, h => by rw [List.append_nil]; exact h
  | a :: r, p, e, h => by
    have h2 := colI_step hl hc e hmax h
    rw [← colSt_snoc] at h2
    have := colI_all hl hc hd hmax r (p ++ [a]) (by rw [List.append_assoc]; exact e) h2
    rwa [List.append_assoc] at this

/-- The claims of a column with which just this is done, as spans. -/
def colS (l : List Cl) (col does : Int) : List (Int × Int) := outOf (colSt (fun n => lev l (col, [], n) == does) (begS l col))
theorem beg_max {l : List Cl} (hl : Good l) (col : Int) : ∀ x ∈ begS l col, x ≤ 9223372036854775807 := by
  intro x hx
  rcases (begS_mem col l [] x).1 hx with h | ⟨c, hc, _, rfl | ⟨h, rfl⟩⟩
  · simp at h
  · exact (hl.fits c hc).2.1.2
  · omega
theorem colS_norm {l : List Cl} (hl : Good l) {col : Int} (hc : 0 ≤ col) {does : Int} (hd : does ≠ 0) : NormS (colS l col does) ∧ ∀ n, inS (colS l col does) n ↔ lev l (col, [], n) = does := by
  have h0 : ColI (fun n => lev l (col, [], n) = does) [] (begS l col) (colSt (fun n => lev l (col, [], n) == does) []) := by
    refine ⟨normS_nil, fun x hx => by simp [colSt] at hx, fun s hs => by simp [colSt] at hs, fun n hn hr => ?_⟩
    rw [lev_before hl hc (fun x hx => by have := hr x hx; omega)]
    exact ⟨fun h => absurd h (inS_nil n), fun h => absurd h.symm hd⟩
  have h := colI_all hl hc hd (beg_max hl col) (begS l col) [] rfl h0
  rw [List.nil_append] at h
  refine ⟨h.norm, fun n => ?_⟩
  by_cases hn : n ≤ 9223372036854775807
  · exact h.same n hn (by simp)
  · rw [lev_behind hl hc (by omega)]
    constructor
    · intro hi
      rcases inS_out.1 hi with ⟨x, hx, _, h2⟩ | ⟨s, _, _, h2⟩
      · have := beg_max hl col _ (h.ends x hx)
        omega
      · omega
    · intro h; exact absurd h.symm hd

end Go.Proofs.Ytihjcfifakcpgaa
