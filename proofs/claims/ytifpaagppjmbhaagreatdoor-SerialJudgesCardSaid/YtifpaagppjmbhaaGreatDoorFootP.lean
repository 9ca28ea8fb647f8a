/- Plain laws of spans: a normal list of spans (rising, apart) is known by its numbers; joining and cutting give normal lists. -/
import Derived.Test.YtifpaagppjmbhaaGreatDoorFootB
namespace Go.Proofs.YtifpaagppjmbhaaGreatDoor
set_option maxRecDepth 100000

/-- A span without others, which rise. -/
def cutGo (s : Int × Int) : List (Int × Int) → List (Int × Int)
  | [] => [s]
  | o :: os => if s.2 < o.1 then [s] else
      (if s.1 < o.1 then [(s.1, o.1 - 1)] else []) ++ (if s.2 ≤ o.2 then [] else cutGo (o.2 + 1, s.2) os)
def dropLow (lo : Int) (os : List (Int × Int)) : List (Int × Int) := os.dropWhile fun o => decide (o.2 < lo)
def withoutS : List (Int × Int) → List (Int × Int) → List (Int × Int)
  | [], _ => []
  | s :: l, os => cutGo s (dropLow s.1 os) ++ withoutS l (dropLow s.1 os)

/-- A number that a list of spans has. -/
def inS (l : List (Int × Int)) (n : Int) : Prop := ∃ x ∈ l, x.1 ≤ n ∧ n ≤ x.2
def Proper (l : List (Int × Int)) : Prop := ∀ x ∈ l, x.1 ≤ x.2
/-- Rising, and apart. -/
def NormS (l : List (Int × Int)) : Prop := Proper l ∧ l.Pairwise fun a b => a.2 + 1 < b.1

theorem inS_nil (n : Int) : ¬ inS [] n := by rintro ⟨x, hx, _⟩; simp at hx
theorem inS_cons {x : Int × Int} {l : List (Int × Int)} {n : Int} : inS (x :: l) n ↔ (x.1 ≤ n ∧ n ≤ x.2) ∨ inS l n := by
  unfold inS
  simp
theorem inS_append {a b : List (Int × Int)} {n : Int} : inS (a ++ b) n ↔ inS a n ∨ inS b n := by
  unfold inS
  constructor
  · rintro ⟨x, hx, h⟩
    rcases List.mem_append.1 hx with hx | hx
    · exact .inl ⟨x, hx, h⟩
    · exact .inr ⟨x, hx, h⟩
  · rintro (⟨x, hx, h⟩ | ⟨x, hx, h⟩)
    · exact ⟨x, List.mem_append.2 (.inl hx), h⟩
    · exact ⟨x, List.mem_append.2 (.inr hx), h⟩
theorem inS_perm {a b : List (Int × Int)} (h : a.Perm b) (n : Int) : inS a n ↔ inS b n :=
  ⟨fun ⟨x, hx, h1⟩ => ⟨x, h.mem_iff.1 hx, h1⟩, fun ⟨x, hx, h1⟩ => ⟨x, h.mem_iff.2 hx, h1⟩⟩

theorem NormS.tail {x : Int × Int} {l : List (Int × Int)} (h : NormS (x :: l)) : NormS l := ⟨fun y hy => h.1 y (by simp [hy]), (List.pairwise_cons.1 h.2).2⟩
theorem NormS.head {x : Int × Int} {l : List (Int × Int)} (h : NormS (x :: l)) : x.1 ≤ x.2 ∧ ∀ n, inS l n → x.2 + 1 < n := by
  refine ⟨h.1 x (by simp), ?_⟩
  rintro n ⟨y, hy, h1, _⟩
  have := (List.pairwise_cons.1 h.2).1 y hy
  omega
theorem NormS.cons {x : Int × Int} {l : List (Int × Int)} (hx : x.1 ≤ x.2) (hl : NormS l) (h : ∀ y ∈ l, x.2 + 1 < y.1) : NormS (x :: l) := by
  refine ⟨fun y hy => ?_, List.pairwise_cons.2 ⟨h, hl.2⟩⟩
  rcases List.mem_cons.1 hy with rfl | hy
  · exact hx
  · exact hl.1 y hy

theorem norm_unique : ∀ {a b : List (Int × Int)}, NormS a → NormS b → (∀ n, inS a n ↔ inS b n) → a = b
  | [], [], _, _, _ => rfl
  | [], y :: b, _, hb, h => absurd ((h y.1).2 (inS_cons.2 (.inl ⟨Int.le_refl _, (hb.head).1⟩))) (inS_nil _)
  | x :: a, [], ha, _, h => absurd ((h x.1).1 (inS_cons.2 (.inl ⟨Int.le_refl _, (ha.head).1⟩))) (inS_nil _)
  | x :: a, y :: b, ha, hb, h => by
    obtain ⟨hx, hxa⟩ := ha.head
    obtain ⟨hy, hyb⟩ := hb.head
    have e1 : x.1 = y.1 := by
      have p := (h x.1).1 (inS_cons.2 (.inl ⟨Int.le_refl _, hx⟩))
      have q := (h y.1).2 (inS_cons.2 (.inl ⟨Int.le_refl _, hy⟩))
      rcases inS_cons.1 p with p | p <;> rcases inS_cons.1 q with q | q
      · omega
      · have := hxa _ q; omega
      · have := hyb _ p; omega
      · have := hxa _ q; have := hyb _ p; omega
    have e2 : x.2 = y.2 := by
      rcases Int.lt_trichotomy x.2 y.2 with hlt | he | hgt
      · have p := (h (x.2 + 1)).2 (inS_cons.2 (.inl ⟨by omega, by omega⟩))
        rcases inS_cons.1 p with p | p
        · omega
        · have := hxa _ p; omega
      · exact he
      · have p := (h (y.2 + 1)).1 (inS_cons.2 (.inl ⟨by omega, by omega⟩))
        rcases inS_cons.1 p with p | p
        · omega
        · have := hyb _ p; omega
    have e : x = y := Prod.ext e1 e2
    subst e
    rw [norm_unique ha.tail hb.tail (fun n => ?_)]
    have := h n
    rw [inS_cons, inS_cons] at this
    constructor
    · intro p
      have h1 := hxa n p
      rcases this.1 (.inr p) with q | q
      · omega
      · exact q
    · intro p
      have h1 := hyb n p
      rcases this.2 (.inr p) with q | q
      · omega
      · exact q

/-- Joining, span by span. -/
theorem joinStep_norm {out : List (Int × Int)} {x : Int × Int} (ho : NormS out) (hx : x.1 ≤ x.2) (hlo : ∀ y ∈ out, y.1 ≤ x.1) :
    NormS (joinStep out x) ∧ (∀ n, inS (joinStep out x) n ↔ inS out n ∨ (x.1 ≤ n ∧ n ≤ x.2)) ∧ ∀ y ∈ joinStep out x, y.1 ≤ x.1 := by
  rcases List.eq_nil_or_concat out with rfl | ⟨m, a, rfl⟩
  · simp only [joinStep, List.getLast?_nil, List.nil_append]
    refine ⟨NormS.cons hx ⟨fun y hy => by simp at hy, List.Pairwise.nil⟩ (fun y hy => by simp at hy), fun n => ?_, fun y hy => by simp at hy; subst hy; exact Int.le_refl _⟩
    rw [inS_cons]
    constructor
    · rintro (h | h)
      · exact .inr h
      · exact absurd h (inS_nil n)
    · rintro (h | h)
      · exact absurd h (inS_nil n)
      · exact .inl h
  · rw [List.concat_eq_append] at ho hlo ⊢
    have hal := hlo a (by simp)
    have hap := ho.1 a (by simp)
    have hm : ∀ y ∈ m, y.2 + 1 < a.1 := fun y hy => (List.pairwise_append.1 ho.2).2.2 y hy a (List.mem_singleton.2 rfl)
    have hmn : NormS m := ⟨fun y hy => ho.1 y (by simp [hy]), (List.pairwise_append.1 ho.2).1⟩
    have snoc : ∀ {m : List (Int × Int)} {z : Int × Int}, NormS m → z.1 ≤ z.2 → (∀ y ∈ m, y.2 + 1 < z.1) → NormS (m ++ [z]) := by
      intro m z h1 h2 h3
      refine ⟨fun y hy => ?_, List.pairwise_append.2 ⟨h1.2, by simp, fun y hy u hu => ?_⟩⟩
      · rcases List.mem_append.1 hy with hy | hy
        · exact h1.1 y hy
        · simp at hy; subst hy; exact h2
      · simp at hu; subst hu; exact h3 y hy
    unfold joinStep
    simp only [List.getLast?_append, List.getLast?_singleton, Option.some_or, meetS]
    by_cases hg : a.2 < x.1 ∧ a.2 + 1 < x.1
    · rw [if_pos hg]
      simp only
      refine ⟨snoc ho hx ?_, fun n => ?_, ?_⟩
      · intro y hy
        rcases List.mem_append.1 hy with hy | hy
        · have := hm y hy; omega
        · simp at hy; subst hy; exact hg.2
      · rw [inS_append, inS_cons]
        constructor
        · rintro (h | h | h)
          · exact .inl h
          · exact .inr h
          · exact absurd h (inS_nil n)
        · rintro (h | h)
          · exact .inl h
          · exact .inr (.inl h)
      · intro y hy
        rcases List.mem_append.1 hy with hy | hy
        · exact hlo y hy
        · simp at hy; subst hy; exact Int.le_refl _
    · rw [if_neg hg]
      simp only [List.dropLast_concat]
      refine ⟨snoc hmn (by simp only; omega) hm, fun n => ?_, ?_⟩
      · rw [inS_append, inS_append, inS_cons, inS_cons]
        simp only
        have h0 := inS_nil n
        constructor
        · rintro (h | h | h)
          · exact .inl (.inl h)
          · by_cases h1 : n ≤ a.2
            · exact .inl (.inr (.inl ⟨h.1, h1⟩))
            · exact .inr (by omega)
          · exact absurd h h0
        · rintro ((h | h | h) | h)
          · exact .inl h
          · exact .inr (.inl (by omega))
          · exact absurd h h0
          · exact .inr (.inl (by omega))
      · intro y hy
        rcases List.mem_append.1 hy with hy | hy
        · exact hlo y (by simp [hy])
        · simp at hy; subst hy; exact hal

theorem foldl_norm : ∀ {s out : List (Int × Int)}, NormS out → Proper s → (s.Pairwise fun a b => a.1 ≤ b.1) → (∀ y ∈ out, ∀ x ∈ s, y.1 ≤ x.1) →
    NormS (s.foldl joinStep out) ∧ ∀ n, inS (s.foldl joinStep out) n ↔ inS out n ∨ inS s n
  | [], out, ho, _, _, _ => ⟨ho, fun n => ⟨.inl, fun h => h.resolve_right (inS_nil n)⟩⟩
  | x :: s, out, ho, hp, hs, hlo => by
    obtain ⟨h1, h2, h3⟩ := joinStep_norm ho (hp x (by simp)) (fun y hy => hlo y hy x (by simp))
    obtain ⟨hs1, hs2⟩ := List.pairwise_cons.1 hs
    obtain ⟨h4, h5⟩ := foldl_norm (s := s) h1 (fun y hy => hp y (by simp [hy])) hs2 (fun y hy z hz => Int.le_trans (h3 y hy) (hs1 z hz))
    refine ⟨h4, fun n => ?_⟩
    rw [List.foldl_cons, h5, h2, inS_cons]
    constructor
    · rintro ((h | h) | h)
      · exact .inl h
      · exact .inr (.inl h)
      · exact .inr (.inr h)
    · rintro (h | h | h)
      · exact .inl (.inl h)
      · exact .inl (.inr h)
      · exact .inr h

theorem joinS_norm {s : List (Int × Int)} (hp : Proper s) (hs : s.Pairwise fun a b => a.1 ≤ b.1) : NormS (joinS s) ∧ ∀ n, inS (joinS s) n ↔ inS s n := by
  obtain ⟨h1, h2⟩ := foldl_norm (out := []) ⟨fun y hy => by simp at hy, List.Pairwise.nil⟩ hp hs (fun y hy => by simp at hy)
  exact ⟨h1, fun n => (h2 n).trans ⟨fun h => h.resolve_left (inS_nil n), .inr⟩⟩

/-- Cutting one span. -/
theorem cutGo_norm : ∀ {os : List (Int × Int)} {s : Int × Int}, s.1 ≤ s.2 → NormS os → (∀ o ∈ os, s.1 ≤ o.2) →
    NormS (cutGo s os) ∧ (∀ n, inS (cutGo s os) n ↔ (s.1 ≤ n ∧ n ≤ s.2) ∧ ¬ inS os n) ∧ ∀ y ∈ cutGo s os, s.1 ≤ y.1 ∧ y.2 ≤ s.2
  | [], s, hs, _, _ => by
    refine ⟨NormS.cons hs ⟨fun y hy => by simp at hy, List.Pairwise.nil⟩ (fun y hy => by simp at hy), fun n => ?_, fun y hy => by simp [cutGo] at hy; subst hy; exact ⟨Int.le_refl _, Int.le_refl _⟩⟩
    simp only [cutGo, inS_cons]
    have h0 := inS_nil n
    constructor
    · rintro (h | h)
      · exact ⟨h, h0⟩
      · exact absurd h h0
    · rintro ⟨h, _⟩
      exact .inl h
  | o :: os, s, hs, hos, hlow => by
    obtain ⟨ho, hoo⟩ := hos.head
    have hol := hlow o (by simp)
    have hoy : ∀ y ∈ os, o.2 + 1 < y.1 := (List.pairwise_cons.1 hos.2).1
    unfold cutGo
    by_cases h1 : s.2 < o.1
    · rw [if_pos h1]
      refine ⟨NormS.cons hs ⟨fun y hy => by simp at hy, List.Pairwise.nil⟩ (fun y hy => by simp at hy), fun n => ?_, fun y hy => by simp at hy; subst hy; exact ⟨Int.le_refl _, Int.le_refl _⟩⟩
      rw [inS_cons, inS_cons]
      have h0 := inS_nil n
      constructor
      · rintro (h | h)
        · refine ⟨h, ?_⟩
          rintro (h2 | h2)
          · omega
          · have := hoo n h2; omega
        · exact absurd h h0
      · rintro ⟨h, _⟩
        exact .inl h
    · rw [if_neg h1]
      by_cases h2 : s.2 ≤ o.2
      · rw [if_pos h2, List.append_nil]
        by_cases h3 : s.1 < o.1
        · rw [if_pos h3]
          refine ⟨NormS.cons (by simp only; omega) ⟨fun y hy => by simp at hy, List.Pairwise.nil⟩ (fun y hy => by simp at hy), fun n => ?_, fun y hy => by simp at hy; subst hy; simp only; omega⟩
          rw [inS_cons, inS_cons]
          have h0 := inS_nil n
          simp only
          constructor
          · rintro (h | h)
            · refine ⟨by omega, ?_⟩
              rintro (h4 | h4)
              · omega
              · have := hoo n h4; omega
            · exact absurd h h0
          · rintro ⟨h, h4⟩
            have : ¬ (o.1 ≤ n ∧ n ≤ o.2) := fun h5 => h4 (.inl h5)
            exact .inl (by omega)
        · rw [if_neg h3]
          refine ⟨⟨fun y hy => by simp at hy, List.Pairwise.nil⟩, fun n => ?_, fun y hy => by simp at hy⟩
          rw [inS_cons]
          have h0 := inS_nil n
          constructor
          · intro h; exact absurd h h0
          · rintro ⟨h, h4⟩
            exact absurd (.inl (by omega)) h4
      · rw [if_neg h2]
        obtain ⟨r1, r2, r3⟩ := cutGo_norm (os := os) (s := (o.2 + 1, s.2)) (by simp only; omega) hos.tail (fun y hy => by have := hoy y hy; have := hos.1 y (by simp [hy]); simp only; omega)
        simp only at r2 r3
        by_cases h3 : s.1 < o.1
        · rw [if_pos h3]
          refine ⟨?_, fun n => ?_, ?_⟩
          · refine NormS.cons (by simp only; omega) r1 (fun y hy => ?_)
            have := (r3 y hy).1
            simp only; omega
          · rw [List.singleton_append, inS_cons, r2, inS_cons]
            simp only
            constructor
            · rintro (h | ⟨h, h5⟩)
              · refine ⟨by omega, ?_⟩
                rintro (h4 | h4)
                · omega
                · have := hoo n h4; omega
              · refine ⟨by omega, ?_⟩
                rintro (h4 | h4)
                · omega
                · exact h5 h4
            · rintro ⟨h, h4⟩
              have h6 : ¬ (o.1 ≤ n ∧ n ≤ o.2) := fun h5 => h4 (.inl h5)
              by_cases h7 : n < o.1
              · exact .inl (by omega)
              · exact .inr ⟨by omega, fun h8 => h4 (.inr h8)⟩
          · intro y hy
            rcases List.mem_append.1 hy with hy | hy
            · simp at hy; subst hy; simp only; omega
            · have := r3 y hy; omega
        · rw [if_neg h3, List.nil_append]
          refine ⟨r1, fun n => ?_, fun y hy => by have := r3 y hy; omega⟩
          rw [r2, inS_cons]
          constructor
          · rintro ⟨h, h5⟩
            refine ⟨by omega, ?_⟩
            rintro (h4 | h4)
            · omega
            · exact h5 h4
          · rintro ⟨h, h4⟩
            have h6 : ¬ (o.1 ≤ n ∧ n ≤ o.2) := fun h5 => h4 (.inl h5)
            exact ⟨by omega, fun h8 => h4 (.inr h8)⟩

theorem dropLow_norm : ∀ {os : List (Int × Int)} (lo : Int), NormS os → NormS (dropLow lo os) ∧ (∀ o ∈ dropLow lo os, lo ≤ o.2) ∧ ∀ n, lo ≤ n → (inS (dropLow lo os) n ↔ inS os n)
  | [], lo, h => ⟨h, fun o ho => by simp [dropLow] at ho, fun n _ => Iff.rfl⟩
  | o :: os, lo, h => by
    unfold dropLow
    rw [List.dropWhile_cons]
    by_cases h1 : o.2 < lo
    · rw [if_pos (by simpa using h1)]
      obtain ⟨a, b, c⟩ := dropLow_norm lo h.tail
      refine ⟨a, b, fun n hn => (c n hn).trans ?_⟩
      rw [inS_cons]
      exact ⟨.inr, fun h2 => h2.resolve_left (by omega)⟩
    · rw [if_neg (by simpa using h1)]
      refine ⟨h, fun y hy => ?_, fun n _ => Iff.rfl⟩
      rcases List.mem_cons.1 hy with rfl | hy
      · omega
      · have := (List.pairwise_cons.1 h.2).1 y hy
        have := h.1 y (by simp [hy])
        have := h.1 o (by simp)
        omega

theorem withoutS_norm : ∀ {l os : List (Int × Int)}, NormS l → NormS os → NormS (withoutS l os) ∧ (∀ n, inS (withoutS l os) n ↔ inS l n ∧ ¬ inS os n) ∧ ∀ y ∈ withoutS l os, ∃ x ∈ l, x.1 ≤ y.1 ∧ y.2 ≤ x.2
  | [], os, h, _ => ⟨h, fun n => ⟨fun h => absurd h (inS_nil n), fun h => h.1⟩, fun y hy => by simp [withoutS] at hy⟩
  | s :: l, os, h, hos => by
    obtain ⟨hs, hsl⟩ := h.head
    obtain ⟨d1, d2, d3⟩ := dropLow_norm s.1 hos
    obtain ⟨c1, c2, c3⟩ := cutGo_norm hs d1 d2
    obtain ⟨w1, w2, w3⟩ := withoutS_norm (l := l) h.tail d1
    have hsy : ∀ y ∈ l, s.2 + 1 < y.1 := (List.pairwise_cons.1 h.2).1
    unfold withoutS
    refine ⟨⟨fun y hy => ?_, List.pairwise_append.2 ⟨c1.2, w1.2, fun y hy z hz => ?_⟩⟩, fun n => ?_, fun y hy => ?_⟩
    · rcases List.mem_append.1 hy with hy | hy
      · exact c1.1 y hy
      · exact w1.1 y hy
    · obtain ⟨x, hx, h1, _⟩ := w3 z hz
      have := hsy x hx
      have := c3 y hy
      omega
    · rw [inS_append, c2, w2, inS_cons]
      constructor
      · rintro (⟨h1, h2⟩ | ⟨h1, h2⟩)
        · exact ⟨.inl h1, fun h3 => h2 ((d3 n h1.1).2 h3)⟩
        · have := hsl n h1
          exact ⟨.inr h1, fun h3 => h2 ((d3 n (by omega)).2 h3)⟩
      · rintro ⟨h1 | h1, h2⟩
        · exact .inl ⟨h1, fun h3 => h2 ((d3 n h1.1).1 h3)⟩
        · have := hsl n h1
          exact .inr ⟨h1, fun h3 => h2 ((d3 n (by omega)).1 h3)⟩
    · rcases List.mem_append.1 hy with hy | hy
      · exact ⟨s, by simp, c3 y hy⟩
      · obtain ⟨x, hx, h1⟩ := w3 y hy
        exact ⟨x, by simp [hx], h1⟩

end Go.Proofs.YtifpaagppjmbhaaGreatDoor
