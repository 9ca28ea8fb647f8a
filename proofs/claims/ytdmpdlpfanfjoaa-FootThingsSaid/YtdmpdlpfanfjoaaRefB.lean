/- breviaryref09: put, Begins: numbers at which something may begin, rising. -/
import Derived.Test.YtdmpdlpfanfjoaaRefA
namespace Go.Proofs.Ytdmpdlpfanfjoaa
open Go.RowKit

/-- A slice of ints that reads as a list. -/
def IntRd (w : World) (v : Value) (l : List Int) : Prop := ∃ A c, v = .slice A l.length c ∧ l.length ≤ c ∧ c ≤ maxLen ∧ ((A = none ∧ l = [] ∧ c = 0) ∨ ∃ b o, A = some ⟨b, o, none⟩ ∧ ∀ (k : Nat) (x : Int), l[k]? = some x → w.cell? ⟨b, o + k, none⟩ = some (.int .i64 x))
theorem Try.info3 : (Try.prog.info? 3).map (fun i => (i.zero, i.size, i.bytes)) = some (some (.int .i64 0), 1, 8) := by kernel_rfl
theorem IntRd.below {w w' : World} {v : Value} {l : List Int} (h : IntRd w v l) (hb : Below w.heap.size w w') : IntRd w' v l := by
  obtain ⟨A, c, hv, h1, h2, h3⟩ := h
  refine ⟨A, c, hv, h1, h2, h3.imp id ?_⟩
  rintro ⟨b, o, e, hx⟩
  exact ⟨b, o, e, fun k x hk => (hb.cell (p := ⟨b, o + k, none⟩) (World.block_lt_of_cell? w _ (hx k x hk))).trans (hx k x hk)⟩
theorem IntRd.nil (w : World) : IntRd w (.slice none 0 0) [] := ⟨none, 0, rfl, Nat.le_refl _, by simp [maxLen], .inl ⟨rfl, rfl, rfl⟩⟩
theorem IntRd.of_own {w : World} {base : Nat} {v : Value} {l : List Int} (h : w.ownsRow base 3 1 v l.length (l.map (Value.int .i64))) : IntRd w v l := by
  rcases h.2 with ⟨rfl, hn⟩ | ⟨g, cap, cur, rfl, _, hg, hn, hc, hs, ht⟩
  · have : l = [] := List.eq_nil_of_length_eq_zero hn
    subst this
    exact IntRd.nil w
  · refine ⟨_, _, rfl, hn, hc, .inr ⟨g, 0, rfl, fun k x hk => ?_⟩⟩
    have := h.cells (g := g) rfl k (.int .i64 x) (by simp [hk])
    unfold Addr.add at this
    split at this
    · subst_vars; simpa using this
    · simpa using this
theorem rd_of {w : World} {b o n c : Nat} {l : List Int} (hl : l.length = n) (hnc : n ≤ c) (hm : c ≤ maxLen) (hx : ∀ (k : Nat) (x : Int), l[k]? = some x → w.cell? ⟨b, o + k, none⟩ = some (.int .i64 x)) : Rd w (fun _ => True) (.slice (some ⟨b, o, none⟩) n c) (l.map (Value.int .i64)) := by
  refine ⟨_, _, _, rfl, by simpa using hl, hnc, hm, fun _ => ⟨b, o, rfl, trivial, fun j u hj => ?_⟩⟩
  rw [List.getElem?_map] at hj
  cases hh : l[j]? with
  | none => rw [hh] at hj; simp at hj
  | some x => rw [hh] at hj; simp at hj; subst hj; exact hx j x hh
theorem int_one (l : List Int) : ∀ u ∈ l.map (Value.int .i64), u.oneCell' = true := by
  intro u hu
  obtain ⟨x, _, rfl⟩ := List.mem_map.1 hu
  rfl

/-- A number more, once. -/
def putS (l : List Int) (n : Int) : List Int := l.takeWhile (fun x => decide (x < n)) ++ (if (l.dropWhile (fun x => decide (x < n))).head? = some n then [] else [n]) ++ l.dropWhile (fun x => decide (x < n))
theorem split_at {l : List Int} {n : Int} {k : Nat} (h : ∀ x ∈ l.take k, x < n) (h2 : ∀ x, l[k]? = some x → ¬ x < n) : l.takeWhile (fun x => decide (x < n)) = l.take k ∧ l.dropWhile (fun x => decide (x < n)) = l.drop k := by
  have e : l = l.take k ++ l.drop k := (List.take_append_drop k l).symm
  have hd : ∀ x, (l.drop k).head? = some x → ¬ x < n := fun x hx => h2 x (by rw [List.head?_drop] at hx; exact hx)
  have t1 : (l.drop k).takeWhile (fun x => decide (x < n)) = [] := by
    cases hh : l.drop k with
    | nil => rfl
    | cons y r => rw [List.takeWhile_cons]; have := hd y (by rw [hh]; rfl); simp [this]
  have t2 : (l.drop k).dropWhile (fun x => decide (x < n)) = l.drop k := by
    cases hh : l.drop k with
    | nil => rfl
    | cons y r => rw [List.dropWhile_cons]; have := hd y (by rw [hh]; rfl); simp [this]
  constructor
  · conv => lhs; rw [e]
    rw [List.takeWhile_append_of_pos (fun x hx => by simpa using h x hx), t1, List.append_nil]
  · conv => lhs; rw [e]
    rw [List.dropWhile_append_of_pos (fun x hx => by simpa using h x hx), t2]
theorem putS_same {l : List Int} {n : Int} {k : Nat} (h : ∀ x ∈ l.take k, x < n) (h2 : l[k]? = some n) : putS l n = l := by
  obtain ⟨e1, e2⟩ := split_at h (fun x hx => by rw [h2] at hx; injection hx with hx; omega)
  unfold putS
  rw [e1, e2, List.head?_drop, h2]
  simp
theorem putS_new {l : List Int} {n : Int} {k : Nat} (h : ∀ x ∈ l.take k, x < n) (h2 : ∀ x, l[k]? = some x → n < x) : putS l n = l.take k ++ [n] ++ l.drop k := by
  obtain ⟨e1, e2⟩ := split_at h (fun x hx => by have := h2 x hx; omega)
  unfold putS
  rw [e1, e2, List.head?_drop, if_neg (fun e => by have := h2 n e; omega)]
theorem all_takeWhile {p : Int → Bool} : ∀ {l : List Int} {a : Int}, a ∈ l.takeWhile p → p a = true
  | [], _, h => by simp at h
  | x :: l, a, h => by
    rw [List.takeWhile_cons] at h
    split at h
    · rename_i hp
      rcases List.mem_cons.1 h with rfl | h
      · exact hp
      · exact all_takeWhile h
    · simp at h
def Rising (l : List Int) : Prop := l.Pairwise (· < ·)
theorem putS_mem {l : List Int} {n x : Int} : x ∈ putS l n ↔ x ∈ l ∨ x = n := by
  have e : ∀ y, y ∈ l ↔ y ∈ l.takeWhile (fun x => decide (x < n)) ∨ y ∈ l.dropWhile (fun x => decide (x < n)) := fun y => by
    rw [← List.mem_append, List.takeWhile_append_dropWhile]
  unfold putS
  rw [List.mem_append, List.mem_append, e x]
  split
  · rename_i hh
    have hm : n ∈ l.dropWhile (fun x => decide (x < n)) := List.mem_of_mem_head? hh
    constructor
    · rintro ((h | h) | h)
      · exact .inl (.inl h)
      · simp at h
      · exact .inl (.inr h)
    · rintro ((h | h) | rfl)
      · exact .inl (.inl h)
      · exact .inr h
      · exact .inr hm
  · constructor
    · rintro ((h | h) | h)
      · exact .inl (.inl h)
      · exact .inr (by simpa using h)
      · exact .inl (.inr h)
    · rintro ((h | h) | rfl)
      · exact .inl (.inl h)
      · exact .inr h
      · exact .inl (.inr (by simp))
theorem putS_len (l : List Int) (n : Int) : (putS l n).length ≤ l.length + 1 := by
  have e := congrArg List.length (List.takeWhile_append_dropWhile (p := fun x => decide (x < n)) (l := l))
  rw [List.length_append] at e
  unfold putS
  rw [List.length_append, List.length_append]
  split <;> simp only [List.length_nil, List.length_singleton] <;> omega
theorem putS_rising {l : List Int} {n : Int} (h : Rising l) : Rising (putS l n) := by
  have e := List.takeWhile_append_dropWhile (p := fun x => decide (x < n)) (l := l)
  unfold Rising at *
  rw [← e, List.pairwise_append] at h
  obtain ⟨h1, h2, h3⟩ := h
  have lt1 : ∀ a ∈ l.takeWhile (fun x => decide (x < n)), a < n := fun a ha => by simpa using all_takeWhile ha
  have ge2 : ∀ b ∈ l.dropWhile (fun x => decide (x < n)), n ≤ b := by
    intro b hb
    cases hh : l.dropWhile (fun x => decide (x < n)) with
    | nil => rw [hh] at hb; simp at hb
    | cons y r =>
      have hy : ¬ y < n := by
        have := List.head?_dropWhile_not (fun x => decide (x < n)) l
        rw [hh] at this
        simpa using this
      rw [hh] at hb h2
      rcases List.mem_cons.1 hb with rfl | hb
      · omega
      · have := (List.pairwise_cons.1 h2).1 b hb
        omega
  unfold putS
  split
  · rw [List.append_nil, List.pairwise_append]
    exact ⟨h1, h2, h3⟩
  · rename_i hh
    rw [List.pairwise_append, List.pairwise_append]
    refine ⟨⟨h1, by simp, fun a ha b hb => by simp at hb; subst hb; exact lt1 a ha⟩, h2, fun a ha b hb => ?_⟩
    rcases List.mem_append.1 ha with ha | ha
    · exact h3 a ha b hb
    · simp at ha
      subst ha
      have := ge2 b hb
      have hne : a ≠ b := by
        intro e
        subst e
        cases hh2 : l.dropWhile (fun x => decide (x < a)) with
        | nil => rw [hh2] at hb; simp at hb
        | cons y r =>
          rw [hh2] at hb h2 hh
          rcases List.mem_cons.1 hb with e | hb'
          · subst e; exact hh rfl
          · have h4 := (List.pairwise_cons.1 h2).1 a hb'
            have h5 := ge2 y (by rw [hh2]; simp)
            omega
      omega

def PutP (l : List Int) (n : Int) (w : World) (e : Ending) (w' : World) : Prop := ∃ v', e = .returned v' ∧ IntRd w' v' (putS l n) ∧ Below w.heap.size w w'

set_option maxRecDepth 100000 in
set_option maxHeartbeats 1000000 in
theorem put_ok (w : World) (v : Value) (l : List Int) (n : Int) (h : IntRd w v l) (hl : l.length ≤ 1000000) :
    Calls Try.prog 60 #[v, .int .i64 n] w (PutP l n w) := by
  obtain ⟨i0, hi, hz0, hz1, hz2⟩ := info_parts Try.info3
  have H := Lib.hid h
  obtain ⟨A, c, rfl, hnc, hcm, hA⟩ := h
  rcases hA with ⟨rfl, rfl, rfl⟩ | ⟨b, o, rfl, hx⟩
  · have HHI := Lib.hid hi
    clear hi
    have hb2 := World.ownsRow_nil w w.heap.size 3 1
    have H1 := Lib.hid hb2
    clear hb2
    go_enter Try.func60, Try.ntmps60
    go_wp2_with fail
    go_loop [5] (fun i => i = .int .i64 0) (fun i => (intOf i).toNat)
    case atStart => rfl
    case round =>
      obtain rfl := hrel
      go_wp2_with (first | (at_builtin; refine wpList_append_rd (o := ⟨some 38, _, _, _, _, _⟩) _ rfl _ _ 45 rfl w.heap.size 3 i0 _ 8 Try.underlying45 HHI.out hz0 hz1 hz2 rfl (.slice none 0 0) 0 [] rfl H1.out (fun _ => True) (.slice none 0 0) [] rfl (Rd.nil _ _) (by simp) (by simp) (by simp [maxLen]) (Nat.le_refl _) ?_; intro v2 w2 hO2 hg2 hat2; simp only [List.length_nil, Nat.add_zero, List.append_nil] at hO2; obtain ⟨A2, c2, rfl⟩ := ownsRow_slice hO2; have hb2 : Below w.heap.size w w2 := (Below.refl _ _).grown hg2 (Nat.le_refl _) (fun j hj => (by cases hj)); have hO2a := hO2.alloc (.cells #[.int .i64 n] 3); have hnews := World.news_of_block (heap_alloc_new w2 (.cells #[.int .i64 n] 3)); have hs2 := hb2.size; have H2 := Lib.hid (And.intro hO2a (And.intro hnews (And.intro hb2 hO2))); clear hO2 hg2 hat2 hb2 hO2a hnews) | (at_builtin; refine wpList_append_lies (o := ⟨some 42, _, _, _, _, _⟩) _ rfl _ _ 45 rfl w.heap.size 3 i0 _ 1 8 Try.underlying45 HHI.out hz0 hz1 hz2 rfl (by decide) (.slice A2 0 c2) 0 _ rfl H2.out.1 ⟨w2.heap.size, 0, none⟩ 1 1 [.int .i64 n] rfl rfl H2.out.2.1 (by simp [Value.oneCell']) (by decide) (by unfold maxLen; omega) (by omega) (by simp; omega) _ rfl ?_; intro g3 c3 w3 hO3 hg3 hat3 hlt3; have hb3 : Below w.heap.size w w3 := (H2.out.2.2.1.alloc hs2 _).grown hg3 (by simp; omega) (fun j hj => (H2.out.2.2.2.lt j hj).1); have hs3 := hb3.size; simp only [Nat.zero_add, List.nil_append] at hO3; have H3 := Lib.hid (And.intro hO3 hb3); clear hO3 hg3 hat3 hlt3 hb3) | (at_builtin; refine wpList_append_rd (o := ⟨some 47, _, _, _, _, _⟩) _ rfl _ _ 45 rfl w.heap.size 3 i0 _ 8 Try.underlying45 HHI.out hz0 hz1 hz2 rfl (.slice (some ⟨g3, 0, none⟩) 1 c3) 1 _ rfl H3.out.1 (fun _ => True) (.slice none 0 0) [] rfl (Rd.nil _ _) (by simp) (by simp) (by simp [maxLen]) hs3 ?_; intro v4 w4 hO4 hg4 hat4; have hb4 : Below w.heap.size w w4 := H3.out.2.grown hg4 hs3 (fun j hj => (H3.out.1.lt j hj).1); simp only [List.length_nil, Nat.add_zero, List.append_nil] at hO4; have H4 := Lib.hid (And.intro hO4 hb4); clear hO4 hg4 hat4 hb4))
      go_ret
      exact ⟨_, rfl, IntRd.of_own (l := [n]) H4.out.1, H4.out.2⟩
  · have HX := Lib.hid hx
    have HHI := Lib.hid hi
    clear hx hi
    go_enter Try.func60, Try.ntmps60
    go_wp2_with fail
    go_loop [5] (fun i => ∃ k : Nat, k ≤ l.length ∧ i = .int .i64 (k : Int) ∧ ∀ x ∈ l.take k, x < n) (fun i => l.length - (intOf i).toNat)
    case atStart => exact ⟨0, Nat.zero_le _, rfl, by simp⟩
    case round =>
      obtain ⟨k, hk, rfl, hal⟩ := hrel
      have hb2 := World.ownsRow_nil w w.heap.size 3 1
      have htk : Rd w (fun _ => True) (.slice (some ⟨b, o, none⟩) k c) ((l.take k).map (Value.int .i64)) := rd_of (by simp; omega) (by omega) hcm (fun j x hj => HX.out j x (by
        have hjl : j < k := by have := (List.getElem?_eq_some_iff.1 hj).1; simp at this; omega
        rw [List.getElem?_take_of_lt hjl] at hj
        exact hj))
      by_cases hlt : k < l.length
      · obtain ⟨x, hx⟩ : ∃ x, l[k]? = some x := ⟨_, List.getElem?_eq_getElem hlt⟩
        have c0 := HX.out k x hx
        by_cases g1 : x < n
        · have HY := Lib.hid (And.intro hx hal)
          clear hx hal hb2 htk
          go_wp2_with fail
          go_round
          case rel =>
            refine ⟨k + 1, by omega, by go_num, ?_⟩
            rw [take_snoc HY.out.1]
            intro y hy
            rcases List.mem_append.1 hy with hy | hy
            · exact HY.out.2 y hy
            · simp at hy; subst hy; exact g1
          case measure => simp [intOf]; omega
        · by_cases g2 : x = n
          · subst g2
            have HY := Lib.hid (And.intro hx hal)
            clear hx hal hb2 htk
            go_wp2_with fail
            go_ret
            exact ⟨_, rfl, by rw [putS_same HY.out.2 HY.out.1]; exact H.out, Below.refl _ _⟩
          · have g3 : (x == n) = false := by simpa using g2
            have HY := Lib.hid (And.intro hx (And.intro hal (And.intro hb2 htk)))
            clear hx hal hb2 htk
            have hsw : w.heap.size ≤ w.heap.size := Nat.le_refl _
            go_wp2_with (first | (at_builtin; refine wpList_append_rd (o := ⟨some 38, _, _, _, _, _⟩) _ rfl _ _ 45 rfl w.heap.size 3 i0 _ 8 Try.underlying45 HHI.out hz0 hz1 hz2 rfl (.slice none 0 0) 0 [] rfl HY.out.2.2.1 (fun _ => True) (.slice (some ⟨b, o, none⟩) k c) ((l.take k).map (Value.int .i64)) rfl HY.out.2.2.2 (int_one _) (by rw [List.length_map, List.length_take]; omega) (by rw [List.length_map, List.length_take]; unfold maxLen; omega) (Nat.le_refl _) ?_; intro v2 w2 hO2 hg2 hat2; rw [List.length_map, List.length_take, Nat.min_eq_left hk, Nat.zero_add, List.nil_append] at hO2; obtain ⟨A2, c2, rfl⟩ := ownsRow_slice hO2; have hb2 : Below w.heap.size w w2 := (Below.refl _ _).grown hg2 (Nat.le_refl _) (fun j hj => (by cases hj)); have hO2a := hO2.alloc (.cells #[.int .i64 n] 3); have hnews := World.news_of_block (heap_alloc_new w2 (.cells #[.int .i64 n] 3)); have hs2 := hb2.size; have H2 := Lib.hid (And.intro hO2a (And.intro hnews (And.intro hb2 hO2))); clear hO2 hg2 hat2 hb2 hO2a hnews) | (at_builtin; refine wpList_append_lies (o := ⟨some 42, _, _, _, _, _⟩) _ rfl _ _ 45 rfl w.heap.size 3 i0 _ 1 8 Try.underlying45 HHI.out hz0 hz1 hz2 rfl (by decide) (.slice A2 k c2) k _ rfl H2.out.1 ⟨w2.heap.size, 0, none⟩ 1 1 [.int .i64 n] rfl rfl H2.out.2.1 (by simp [Value.oneCell']) (by decide) (by unfold maxLen; omega) (by omega) (by simp; omega) _ rfl ?_; intro g3 c3 w3 hO3 hg3 hat3 hlt3; have hb3 : Below w.heap.size w w3 := (H2.out.2.2.1.alloc hs2 _).grown hg3 (by simp; omega) (fun j hj => (H2.out.2.2.2.lt j hj).1); have hs3 := hb3.size; have H3 := Lib.hid (And.intro hO3 hb3); clear hO3 hg3 hat3 hlt3 hb3) | (at_builtin; refine wpList_append_rd (o := ⟨some 47, _, _, _, _, _⟩) _ rfl _ _ 45 rfl w.heap.size 3 i0 _ 8 Try.underlying45 HHI.out hz0 hz1 hz2 rfl (.slice (some ⟨g3, 0, none⟩) (k + 1) c3) (k + 1) _ rfl H3.out.1 (fun _ => True) (.slice (some ⟨b, o + k, none⟩) (l.length - k) (c - k)) ((l.drop k).map (Value.int .i64)) rfl (Rd.below (rd_of (by simp) (by omega) (by omega) (fun j y hj => by rw [List.getElem?_drop] at hj; have := HX.out (k + j) y hj; rw [Nat.add_assoc]; exact this)) H3.out.2) (int_one _) (by rw [List.length_map, List.length_drop]; omega) (by rw [List.length_map, List.length_drop]; unfold maxLen; omega) hs3 ?_; intro v4 w4 hO4 hg4 hat4; have hb4 : Below w.heap.size w w4 := H3.out.2.grown hg4 hs3 (fun j hj => (H3.out.1.lt j hj).1); have H4 := Lib.hid (And.intro hO4 hb4); clear hO4 hg4 hat4 hb4))
            go_ret
            refine ⟨_, rfl, ?_, H4.out.2⟩
            have hO4 := H4.out.1
            rw [putS_new HY.out.2.1 (fun y hy => by rw [HY.out.1] at hy; injection hy with hy; omega)]
            refine IntRd.of_own (base := w.heap.size) ?_
            have e : (l.take k ++ [n] ++ l.drop k).length = k + 1 + ((l.drop k).map (Value.int .i64)).length := by simp; omega
            rw [e]
            simpa [List.append_assoc] using hO4
      · have HY := Lib.hid (And.intro (show l[k]? = none from by simp; omega) (And.intro hal (And.intro hb2 htk)))
        clear hal hb2 htk
        by_cases hck : c = k
        · subst hck
          have hsw : w.heap.size ≤ w.heap.size := Nat.le_refl _
          go_wp2_with (first | (at_builtin; refine wpList_append_rd (o := ⟨some 38, _, _, _, _, _⟩) _ rfl _ _ 45 rfl w.heap.size 3 i0 _ 8 Try.underlying45 HHI.out hz0 hz1 hz2 rfl (.slice none 0 0) 0 [] rfl HY.out.2.2.1 (fun _ => True) (.slice (some ⟨b, o, none⟩) c c) ((l.take c).map (Value.int .i64)) rfl HY.out.2.2.2 (int_one _) (by rw [List.length_map, List.length_take]; omega) (by rw [List.length_map, List.length_take]; unfold maxLen; omega) (Nat.le_refl _) ?_; intro v2 w2 hO2 hg2 hat2; rw [List.length_map, List.length_take, Nat.min_eq_left hk, Nat.zero_add, List.nil_append] at hO2; obtain ⟨A2, c2, rfl⟩ := ownsRow_slice hO2; have hb2 : Below w.heap.size w w2 := (Below.refl _ _).grown hg2 (Nat.le_refl _) (fun j hj => (by cases hj)); have hO2a := hO2.alloc (.cells #[.int .i64 n] 3); have hnews := World.news_of_block (heap_alloc_new w2 (.cells #[.int .i64 n] 3)); have hs2 := hb2.size; have H2 := Lib.hid (And.intro hO2a (And.intro hnews (And.intro hb2 hO2))); clear hO2 hg2 hat2 hb2 hO2a hnews) | (at_builtin; refine wpList_append_lies (o := ⟨some 42, _, _, _, _, _⟩) _ rfl _ _ 45 rfl w.heap.size 3 i0 _ 1 8 Try.underlying45 HHI.out hz0 hz1 hz2 rfl (by decide) (.slice A2 c c2) c _ rfl H2.out.1 ⟨w2.heap.size, 0, none⟩ 1 1 [.int .i64 n] rfl rfl H2.out.2.1 (by simp [Value.oneCell']) (by decide) (by unfold maxLen; omega) (by omega) (by simp; omega) _ rfl ?_; intro g3 c3 w3 hO3 hg3 hat3 hlt3; have hb3 : Below w.heap.size w w3 := (H2.out.2.2.1.alloc hs2 _).grown hg3 (by simp; omega) (fun j hj => (H2.out.2.2.2.lt j hj).1); have hs3 := hb3.size; have H3 := Lib.hid (And.intro hO3 hb3); clear hO3 hg3 hat3 hlt3 hb3) | (at_builtin; refine wpList_append_rd (o := ⟨some 47, _, _, _, _, _⟩) _ rfl _ _ 45 rfl w.heap.size 3 i0 _ 8 Try.underlying45 HHI.out hz0 hz1 hz2 rfl (.slice (some ⟨g3, 0, none⟩) (c + 1) c3) (c + 1) _ rfl H3.out.1 (fun _ => True) (.slice (some ⟨b, o, none⟩) 0 0) ((l.drop c).map (Value.int .i64)) rfl (Rd.below (rd_of (by simp; omega) (by omega) (by omega) (fun j y hj => by rw [List.getElem?_drop] at hj; have := (List.getElem?_eq_some_iff.1 hj).1; omega)) H3.out.2) (int_one _) (by rw [List.length_map, List.length_drop]; omega) (by rw [List.length_map, List.length_drop]; unfold maxLen; omega) hs3 ?_; intro v4 w4 hO4 hg4 hat4; have hb4 : Below w.heap.size w w4 := H3.out.2.grown hg4 hs3 (fun j hj => (H3.out.1.lt j hj).1); have H4 := Lib.hid (And.intro hO4 hb4); clear hO4 hg4 hat4 hb4))
          go_ret
          refine ⟨_, rfl, ?_, H4.out.2⟩
          have hO4 := H4.out.1
          rw [putS_new HY.out.2.1 (fun y hy => by rw [HY.out.1] at hy; cases hy)]
          refine IntRd.of_own (base := w.heap.size) ?_
          have e : (l.take c ++ [n] ++ l.drop c).length = c + 1 + ((l.drop c).map (Value.int .i64)).length := by simp; omega
          rw [e]
          simpa [List.append_assoc] using hO4
        · have hck2 : k < c := by omega
          have hsw : w.heap.size ≤ w.heap.size := Nat.le_refl _
          go_wp2_with (first | (at_builtin; refine wpList_append_rd (o := ⟨some 38, _, _, _, _, _⟩) _ rfl _ _ 45 rfl w.heap.size 3 i0 _ 8 Try.underlying45 HHI.out hz0 hz1 hz2 rfl (.slice none 0 0) 0 [] rfl HY.out.2.2.1 (fun _ => True) (.slice (some ⟨b, o, none⟩) k c) ((l.take k).map (Value.int .i64)) rfl HY.out.2.2.2 (int_one _) (by rw [List.length_map, List.length_take]; omega) (by rw [List.length_map, List.length_take]; unfold maxLen; omega) (Nat.le_refl _) ?_; intro v2 w2 hO2 hg2 hat2; rw [List.length_map, List.length_take, Nat.min_eq_left hk, Nat.zero_add, List.nil_append] at hO2; obtain ⟨A2, c2, rfl⟩ := ownsRow_slice hO2; have hb2 : Below w.heap.size w w2 := (Below.refl _ _).grown hg2 (Nat.le_refl _) (fun j hj => (by cases hj)); have hO2a := hO2.alloc (.cells #[.int .i64 n] 3); have hnews := World.news_of_block (heap_alloc_new w2 (.cells #[.int .i64 n] 3)); have hs2 := hb2.size; have H2 := Lib.hid (And.intro hO2a (And.intro hnews (And.intro hb2 hO2))); clear hO2 hg2 hat2 hb2 hO2a hnews) | (at_builtin; refine wpList_append_lies (o := ⟨some 42, _, _, _, _, _⟩) _ rfl _ _ 45 rfl w.heap.size 3 i0 _ 1 8 Try.underlying45 HHI.out hz0 hz1 hz2 rfl (by decide) (.slice A2 k c2) k _ rfl H2.out.1 ⟨w2.heap.size, 0, none⟩ 1 1 [.int .i64 n] rfl rfl H2.out.2.1 (by simp [Value.oneCell']) (by decide) (by unfold maxLen; omega) (by omega) (by simp; omega) _ rfl ?_; intro g3 c3 w3 hO3 hg3 hat3 hlt3; have hb3 : Below w.heap.size w w3 := (H2.out.2.2.1.alloc hs2 _).grown hg3 (by simp; omega) (fun j hj => (H2.out.2.2.2.lt j hj).1); have hs3 := hb3.size; have H3 := Lib.hid (And.intro hO3 hb3); clear hO3 hg3 hat3 hlt3 hb3) | (at_builtin; refine wpList_append_rd (o := ⟨some 47, _, _, _, _, _⟩) _ rfl _ _ 45 rfl w.heap.size 3 i0 _ 8 Try.underlying45 HHI.out hz0 hz1 hz2 rfl (.slice (some ⟨g3, 0, none⟩) (k + 1) c3) (k + 1) _ rfl H3.out.1 (fun _ => True) (.slice (some ⟨b, o + k, none⟩) (l.length - k) (c - k)) ((l.drop k).map (Value.int .i64)) rfl (Rd.below (rd_of (by simp) (by omega) (by omega) (fun j y hj => by rw [List.getElem?_drop] at hj; have := HX.out (k + j) y hj; rw [Nat.add_assoc]; exact this)) H3.out.2) (int_one _) (by rw [List.length_map, List.length_drop]; omega) (by rw [List.length_map, List.length_drop]; unfold maxLen; omega) hs3 ?_; intro v4 w4 hO4 hg4 hat4; have hb4 : Below w.heap.size w w4 := H3.out.2.grown hg4 hs3 (fun j hj => (H3.out.1.lt j hj).1); have H4 := Lib.hid (And.intro hO4 hb4); clear hO4 hg4 hat4 hb4))
          go_ret
          refine ⟨_, rfl, ?_, H4.out.2⟩
          have hO4 := H4.out.1
          rw [putS_new HY.out.2.1 (fun y hy => by rw [HY.out.1] at hy; cases hy)]
          refine IntRd.of_own (base := w.heap.size) ?_
          have e : (l.take k ++ [n] ++ l.drop k).length = k + 1 + ((l.drop k).map (Value.int .i64)).length := by simp; omega
          rw [e]
          simpa [List.append_assoc] using hO4

end Go.Proofs.Ytdmpdlpfanfjoaa
