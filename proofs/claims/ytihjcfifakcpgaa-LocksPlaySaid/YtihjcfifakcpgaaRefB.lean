/- breviaryref09: put, Begins: numbers at which something may begin, rising. -/
import Derived.Test.YtihjcfifakcpgaaRefA
namespace Go.Proofs.Ytihjcfifakcpgaa
open Go.RowKit

/-- A slice of ints that reads as a list. -/
def IntRd (w : World) (v : Value) (l : List Int) : Prop := ∃ A c, v = .slice A l.length c ∧ l.length ≤ c ∧ c ≤ maxLen ∧ ((A = none ∧ l = [] ∧ c = 0) ∨ ∃ b o, A = some ⟨b, o, none⟩ ∧ ∀ (k : Nat) (x : Int), l[k]? = some x → w.cell? ⟨b, o + k, none⟩ = some (.int .i64 x))
theorem Try.info3 : (Try.prog.info? 3).map (fun i => (i.zero, i.size, i.bytes)) = some (some (.int .i64 0), 1, 8) := by kernel_rfl
theorem IntRd.below {w w' : World} {v : Value} {l : List Int} (h : IntRd w v l) (hb : Below w.heap.size w w') : IntRd w' v l := by
  obtain ⟨A, c, hv, h1, h2, h3⟩ := h
  refine ⟨A, c, hv, h1, h2, h3.imp id ?_⟩
  rintro ⟨b, o, e, hx⟩
  exact ⟨b, o, e, fun k x hk => (hb.cell (p := ⟨b, o + k, none⟩) (World.block_lt_of_cell? w _ (hx k x hk))).trans (hx k x hk)⟩
theorem IntRd.nil (w : World) : IntRd w (.slice none 0 0) [] := ⟨none, 0, rfl, Nat.le_refl _, by simp [maxLen], .inl ⟨rfl, rfl, rfl⟩⟩
theorem IntRd.of_own {w : World} {base : Nat} {v : Value} {l : List Int} (h : w.ownsRow base 3 1 v l.length (l.map (Value.int .i64))) : IntRd w v l := by
  rcases h.2 with ⟨rfl, hn⟩ | ⟨g, cap, cur, rfl, _, hg, hn, hc, hs, ht⟩
  · have : l = [] := List.eq_nil_of_length_eq_zero hn
    subst this
    exact IntRd.nil w
  · refine ⟨_, _, rfl, hn, hc, .inr ⟨g, 0, rfl, fun k x hk => ?_⟩⟩
    have := h.cells (g := g) rfl k (.int .i64 x) (by simp [hk])
    unfold Addr.add at this
    split at this
    · subst_vars; simpa using this
    · simpa using this
theorem rd_of {w : World} {b o n c : Nat} {l : List Int} (hl : l.length = n) (hnc : n ≤ c) (hm : c ≤ maxLen) (hx : ∀ (k : Nat) (x : Int), l[k]? = some x → w.cell? ⟨b, o + k, none⟩ = some (.int .i64 x)) : Rd w (fun _ => True) (.slice (some ⟨b, o, none⟩) n c) (l.map (Value.int .i64)) := by
  refine ⟨_, _, _, rfl, by simpa using hl, hnc, hm, fun _ => ⟨b, o, rfl, trivial, fun j u hj => ?_⟩⟩
  rw [List.getElem?_map] at hj
  cases hh : l[j]? with
  | none => rw [hh] at hj; simp at hj
  | some x => rw [hh] at hj; simp at hj; subst hj; exact hx j x hh
theorem int_one (l : List Int) : ∀ u ∈ l.map (Value.int .i64), u.oneCell' = true := by
  intro u hu
  obtain ⟨x, _, rfl⟩ := List.mem_map.1 hu
  rfl

/-- A number more, once. -/
def putS (l : List Int) (n : Int) : List Int := l.takeWhile (fun x => decide (x < n)) ++ (if (l.dropWhile (fun x => decide (x < n))).head? = some n then [] else [n]) ++ l.dropWhile (fun x => decide (x < n))
theorem split_at {l : List Int} {n : Int} {k : Nat} (h : ∀ x ∈ l.take k, x < n) (h2 : ∀ x, l[k]? = some x → ¬ x < n) : l.takeWhile (fun x => decide (x < n)) = l.take k ∧ l.dropWhile (fun x => decide (x < n)) = l.drop k := by
  have e : l = l.take k ++ l.drop k := (List.take_append_drop k l).symm
  have hd : ∀ x, (l.drop k).head? = some x → ¬ x < n := fun x hx => h2 x (by rw [List.head?_drop] at hx; exact hx)
  have t1 : (l.drop k).takeWhile (fun x => decide (x < n)) = [] := by
    cases hh : l.drop k with
    | nil => rfl
    | cons y r => rw [List.takeWhile_cons]; have := hd y (by rw [hh]; rfl); simp [this]
  have t2 : (l.drop k).dropWhile (fun x => decide (x < n)) = l.drop k := by
    cases hh : l.drop k with
    | nil => rfl
    | cons y r => rw [List.dropWhile_cons]; have := hd y (by rw [hh]; rfl); simp [this]
  constructor
  · conv => lhs; rw [e]
    rw [List.takeWhile_append_of_pos (fun x hx => by simpa using h x hx), t1, List.append_nil]
  · conv => lhs; rw [e]
    rw [List.dropWhile_append_of_pos (fun x hx => by simpa using h x hx), t2]
theorem putS_same {l : List Int} {n : Int} {k : Nat} (h : ∀ x ∈ l.take k, x < n) (h2 : l[k]? = some n) : putS l n = l := by
  obtain ⟨e1, e2⟩ := split_at h (fun x hx => by rw [h2] at hx; injection hx with hx; omega)
  unfold putS
  rw [e1, e2, List.head?_drop, h2]
  simp
theorem putS_new {l : List Int} {n : Int} {k : Nat} (h : ∀ x ∈ l.take k, x < n) (h2 : ∀ x, l[k]? = some x → n < x) : putS l n = l.take k ++ [n] ++ l.drop k := by
  obtain ⟨e1, e2⟩ := split_at h (fun x hx => by have := h2 x hx; omega)
  unfold putS
  rw [e1, e2, List.head?_drop, if_neg (fun e => by have := h2 n e; omega)]
theorem all_takeWhile {p : Int → Bool} : ∀ {l : List Int} {a : Int}, a ∈ l.takeWhile p → p a = true
  | [], _, h => by simp at h
  | x :: l, a, h => by
    rw [List.takeWhile_cons] at h
    split at h
    · rename_i hp
      rcases List.mem_cons.1 h with rfl | h
      · exact hp
      · exact all_takeWhile h
    · simp at h
def Rising (l : List Int) : Prop := l.Pairwise (· < ·)
theorem putS_mem {l : List Int} {n x : Int} : x ∈ putS l n ↔ x ∈ l ∨ x = n := by
  have e : ∀ y, y ∈ l ↔ y ∈ l.takeWhile (fun x => decide (x < n)) ∨ y ∈ l.dropWhile (fun x => decide (x < n)) := fun y => by
    rw [← List.mem_append, List.takeWhile_append_dropWhile]
  unfold putS
  rw [List.mem_append, List.mem_append, e x]
  split
  · rename_i hh
    have hm : n ∈ l.dropWhile (fun x => decide (x < n)) := List.mem_of_mem_head? hh
    constructor
    · rintro ((h | h) | h)
      · exact .inl (.inl h)
      · simp at h
      · exact .inl (.inr h)
    · rintro ((h | h) | rfl)
      · exact .inl (.inl h)
      · exact .inr h
      · exact .inr hm
  · constructor
    · rintro ((h | h) | h)
      · exact .inl (.inl h)
      · exact .inr (by simpa using h)
      · exact .inl (.inr h)
    · rintro ((h | h) | rfl)
      · exact .inl (.inl h)
      · exact .inr h
      · exact .inl (.inr (by simp))
theorem putS_len (l : List Int) (n : Int) : (putS l n).length ≤ l.length + 1 := by
  have e := congrArg List.length (List.takeWhile_append_dropWhile (p := fun x => decide (x < n)) (l := l))
  rw [List.length_append] at e
  unfold putS
  rw [List.length_append, List.length_append]
  split <;> simp only [List.length_nil, List.length_singleton] <;> omega
theorem putS_rising {l : List Int} {n : Int} (h : Rising l) : Rising (putS l n) := by
  have e := List.takeWhile_append_dropWhile (p := fun x => decide (x < n)) (l := l)
  unfold Rising at *
  rw [← e, List.pairwise_append] at h
  obtain ⟨h1, h2, h3⟩ := h
  have lt1 : ∀ a ∈ l.takeWhile (fun x => decide (x < n)), a < n := fun a ha => by simpa using all_takeWhile ha
  have ge2 : ∀ b ∈ l.dropWhile (fun x => decide (x < n)), n ≤ b := by
    intro b hb
    cases hh : l.dropWhile (fun x => decide (x < n)) with
    | nil => rw [hh] at hb; simp at hb
    | cons y r =>
      have hy : ¬ y < n := by
        have := List.head?_dropWhile_not (fun x => decide (x < n)) l
        rw [hh] at this
        simpa using this
      rw [hh] at hb h2
      rcases List.mem_cons.1 hb with rfl | hb
      · omega
      · have := (List.pairwise_cons.1 h2).1 b hb
        omega
  unfold putS
  split
  · rw [List.append_nil, List.pairwise_append]
    exact ⟨h1, h2, h3⟩
  · rename_i hh
    rw [List.pairwise_append, List.pairwise_append]
    refine ⟨⟨h1, by simp, fun a ha b hb => by simp at hb; subst hb; exact lt1 a ha⟩, h2, fun a ha b hb => ?_⟩
    rcases List.mem_append.1 ha with ha | ha
    · exact h3 a ha b hb
    · simp at ha
      subst ha
      have := ge2 b hb
      have hne : a ≠ b := by
        intro e
        subst e
        cases hh2 : l.dropWhile (fun x => decide (x < a)) with
        | nil => rw [hh2] at hb; simp at hb
        | cons y r =>
          rw [hh2] at hb h2 hh
          rcases List.mem_cons.1 hb with e | hb'
          · subst e; exact hh rfl
          · have h4 := (List.pairwise_cons.1 h2).1 a hb'
            have h5 := ge2 y (by rw [hh2]; simp)
            omega
      omega

def PutP (l : List Int) (n : Int) (w : World) (e : Ending) (w' : World) : Prop := ∃ v', e = .returned v' ∧ IntRd w' v' (putS l n) ∧ Below w.heap.size w w'

end Go.Proofs.Ytihjcfifakcpgaa
