/- breviaryref09: Within. -/
import Derived.Test.YtdmpdlpfanfjoaaRefG
namespace Go.Proofs.Ytdmpdlpfanfjoaa
open Go.RowKit

theorem exists_max (n : Int) : ∀ (L : List Int), (∃ x ∈ L, x ≤ n) → ∃ m ∈ L, m ≤ n ∧ ∀ x ∈ L, x ≤ n → x ≤ m
  | [], ⟨x, hx, _⟩ => by simp at hx
  | y :: L, h => by
    by_cases hL : ∃ x ∈ L, x ≤ n
    · obtain ⟨m, hm, h1, h2⟩ := exists_max n L hL
      by_cases hy : y ≤ n ∧ m < y
      · exact ⟨y, by simp, hy.1, fun x hx hxn => by rcases List.mem_cons.1 hx with rfl | hx; exact Int.le_refl _; have := h2 x hx hxn; omega⟩
      · exact ⟨m, by simp [hm], h1, fun x hx hxn => by rcases List.mem_cons.1 hx with rfl | hx; omega; exact h2 x hx hxn⟩
    · obtain ⟨x, hx, hxn⟩ := h
      rcases List.mem_cons.1 hx with rfl | hx
      · exact ⟨x, by simp, hxn, fun z hz hzn => by rcases List.mem_cons.1 hz with rfl | hz; exact Int.le_refl _; exact absurd ⟨z, hz, hzn⟩ hL⟩
      · exact absurd ⟨x, hx, hxn⟩ hL
def RowsOk (a b : List Cl) (c : Cl) : Prop := c.col < 0 → lev a (-1, c.key, 0) ≤ lev b (-1, c.key, 0)
def ColsOk (a b : List Cl) (col : Int) : Prop := ∀ x, (x ∈ begS a col ∨ x ∈ begS b col) → lev a (col, [], x) ≤ lev b (col, [], x)
theorem within_begins {a b : List Cl} (ga : Good a) (gb : Good b) : WithinP a b ↔ (∀ c ∈ a, RowsOk a b c) ∧ ∀ j : Nat, j < 4 → ColsOk a b j := by
  rw [within_lev]
  constructor
  · intro h
    exact ⟨fun c _ _ => h _, fun j _ x _ => h _⟩
  · rintro ⟨h1, h2⟩ ⟨i, k, n⟩
    by_cases hp : 1 ≤ lev a (i, k, n)
    · obtain ⟨c, hc, e1, e2, e3, e4⟩ := lev_pos.1 hp
      simp only at e1 e2 e3 e4
      rcases (ga.ok c hc).parts with ⟨p1, p2, p3, _⟩ | ⟨p1, p2, p3, _⟩
      · obtain rfl : i = -1 := by omega
        obtain rfl : n = 0 := by omega
        subst e2
        exact h1 c hc (by omega)
      · obtain ⟨j, rfl⟩ : ∃ j : Nat, i = (j : Int) := ⟨i.toNat, by omega⟩
        have hk : k = [] := by rw [← e2]; exact p3
        subst hk
        have hn : n ≤ 9223372036854775807 := by have := (ga.fits c hc).2.2.1.2; omega
        have hj0 : (0 : Int) ≤ (j : Int) := by omega
        obtain ⟨m, hm, hmn, hmx⟩ := exists_max n (begS a j ++ begS b j) ⟨c.lo, List.mem_append.2 (.inl ((begS_mem j a [] _).2 (.inr ⟨c, hc, e1, .inl rfl⟩))), e3⟩
        rw [lev_const ga hj0 hmn hn (fun x hx => hmx x (List.mem_append.2 (.inl hx))), lev_const gb hj0 hmn hn (fun x hx => hmx x (List.mem_append.2 (.inr hx)))]
        exact h2 j (by omega) m (List.mem_append.1 hm)
    · have := lev_bd a (i, k, n)
      have := lev_bd b (i, k, n)
      omega
theorem putAll_mem (x : Int) : ∀ (ys acc : List Int), x ∈ ys.foldl putS acc ↔ x ∈ acc ∨ x ∈ ys
  | [], acc => by simp
  | y :: ys, acc => by
    rw [List.foldl_cons, putAll_mem x ys, putS_mem, List.mem_cons]
    constructor
    · rintro ((h | h) | h)
      · exact .inl h
      · exact .inr (.inl h)
      · exact .inr (.inr h)
    · rintro (h | h | h)
      · exact .inl (.inl h)
      · exact .inl (.inr h)
      · exact .inr h
theorem putAll_len : ∀ (ys acc : List Int), (ys.foldl putS acc).length ≤ acc.length + ys.length
  | [], acc => by simp
  | y :: ys, acc => by
    have := putAll_len ys (putS acc y)
    have := putS_len acc y
    rw [List.foldl_cons, List.length_cons]
    omega
theorem begS_le (l : List Cl) (hl : l.length ≤ 1000) (col : Int) : (begS l col).length ≤ 2000 := by have := begS_len col l []; unfold begS; simp at this; omega
theorem IntRd.cell {w : World} {A : Option Addr} {n c : Nat} {l : List Int} (h : IntRd w (.slice A n c) l) {k : Nat} {x : Int} (hk : l[k]? = some x) : ∃ b o, A = some ⟨b, o, none⟩ ∧ w.cell? ⟨b, o + k, none⟩ = some (.int .i64 x) := by
  obtain ⟨A', c', hv, _, _, ⟨_, h0, _⟩ | ⟨b, o, e, hh⟩⟩ := h
  · rw [h0] at hk; simp at hk
  · injection hv with h1 _ _
    exact ⟨b, o, by rw [h1, e], hh k x hk⟩

set_option maxRecDepth 100000 in
set_option maxHeartbeats 4000000 in
theorem refWithin_ok (w : World) (F G : Nat → Prop) (v u : Value) (a b : List Cl) (ha : ClRd w F v a) (hb : ClRd w G u b) (hla : a.length ≤ 1000) (hlb : b.length ≤ 1000) (ga : Good a) (gb : Good b) :
    Calls Try.prog 31 #[v, u] w (BoolP (WithinP a b) w) := by
  obtain ⟨A, c, rfl, hnc, hcm⟩ := ha.slice
  obtain ⟨B, d, rfl, hnd, hdm⟩ := hb.slice
  have H := Lib.hid (And.intro ha hb)
  clear ha hb
  go_enter Try.func31, Try.ntmps31
  go_wp2_with fail
  go_loopw [5] (fun i wr => ∃ k : Nat, k ≤ a.length ∧ i = .int .i64 (k : Int) ∧ (∀ c ∈ a.take k, RowsOk a b c) ∧ Below w.heap.size w wr) (fun i _ => a.length - (intOf i).toNat)
  case atStart => exact ⟨0, Nat.zero_le _, rfl, by simp, Below.refl _ _⟩
  case round =>
    obtain ⟨k, hk, rfl, hal, ht⟩ := hrel
    by_cases hlt : k < a.length
    · obtain ⟨x, hx⟩ : ∃ x, a[k]? = some x := ⟨_, List.getElem?_eq_getElem hlt⟩
      obtain ⟨b1, o1, rfl, hF1, c0, c1, c2, c3, c4⟩ := H.out.1.at_ hx
      have l1 : b1 < w.heap.size := World.block_lt_of_cell? w _ c0
      have l1r : b1 < wr.heap.size := Nat.lt_of_lt_of_le l1 ht.size
      have c1' := (ht.cell (p := ⟨b1, o1 + k * 5 + 1, none⟩) l1).trans c1
      have c2' := (ht.cell (p := ⟨b1, o1 + k * 5 + 2, none⟩) l1).trans c2
      have k0 : (0 : Int) ≤ (k : Int) := by omega
      have k1 : (k : Int) < (a.length : Int) := by omega
      have HBr := Lib.hid (And.intro (ClRd.below H.out.1 ht) (ClRd.below H.out.2 ht))
      have hmx := List.mem_of_getElem? hx
      have next : RowsOk a b x → ∀ c ∈ a.take (k + 1), RowsOk a b c := by
        intro hn c hc
        rw [take_snoc hx] at hc
        rcases List.mem_append.1 hc with hc | hc
        · exact hal c hc
        · simp at hc; subst hc; exact hn
      have HX := Lib.hid (And.intro hmx (And.intro next ht))
      clear hx hal hmx ht next c0 c1 c2 c3 c4
      by_cases g0 : x.col < 0
      · obtain ⟨ra, hra⟩ : ∃ ra, lev a (-1, x.key, 0) = ra := ⟨_, rfl⟩
        obtain ⟨rb, hrb⟩ : ∃ rb, lev b (-1, x.key, 0) = rb := ⟨_, rfl⟩
        have HRR := Lib.hid (And.intro hra hrb)
        go_upto_region 4 with fail
        refine wp_region_held_drew (S := (fun w' => Below wr.heap.size wr w')) (by kernel_rfl) (Below.refl _ _).drew (fun hHeld => ?_)
        refine take_lit (i := 0) (v := ?_) rfl (by kernel_rfl) (by kernel_rfl) (by kernel_rfl) (fun _ _ _ h => h) (by rfl) (fun w hSw => ?_) hHeld ?_
        rotate_left
        · go_simp; try with_reducible rfl
        try simp only [Act.put, List.setIfInBounds_toArray, List.set_cons_zero, List.set_cons_succ]
        refine take_lit (i := 1) (v := ?_) rfl (by kernel_rfl) (by kernel_rfl) (by kernel_rfl) (fun _ _ _ h => h) (by rfl) (fun w hSw => ?_) hHeld ?_
        rotate_left
        · go_simp; try with_reducible rfl
        try simp only [Act.put, List.setIfInBounds_toArray, List.set_cons_zero, List.set_cons_succ]
        refine take_lit (i := 2) (v := ?_) rfl (by kernel_rfl) (by kernel_rfl) (by kernel_rfl) (fun _ _ _ h => h) (by rfl) (fun w hSw => ?_) hHeld ?_
        rotate_left
        · go_simp; try with_reducible rfl
        try simp only [Act.put, List.setIfInBounds_toArray, List.set_cons_zero, List.set_cons_succ]
        refine take_lit (i := 3) (v := ?_) rfl (by kernel_rfl) (by kernel_rfl) (by kernel_rfl) (fun _ _ _ h => h) (by rfl) (fun w hSw => ?_) hHeld ?_
        rotate_left
        · go_simp; try with_reducible rfl
        try simp only [Act.put, List.setIfInBounds_toArray, List.set_cons_zero, List.set_cons_succ]
        refine take_lit (i := 4) (v := ?_) rfl (by kernel_rfl) (by kernel_rfl) (by kernel_rfl) (fun _ _ _ h => h) (by rfl) (fun w hSw => ?_) hHeld ?_
        rotate_left
        · have z1 := (hSw.cell (p := ⟨b1, o1 + k * 5 + 1, none⟩) l1r).trans c1'; go_simp; try with_reducible rfl
        try simp only [Act.put, List.setIfInBounds_toArray, List.set_cons_zero, List.set_cons_succ]
        refine take_lit (i := 5) (v := ?_) rfl (by kernel_rfl) (by kernel_rfl) (by kernel_rfl) (fun _ _ _ h => h) (by rfl) (fun w hSw => ?_) hHeld ?_
        rotate_left
        · go_simp; try with_reducible rfl
        try simp only [Act.put, List.setIfInBounds_toArray, List.set_cons_zero, List.set_cons_succ]
        refine take_lit (i := 6) (v := ?_) rfl (by kernel_rfl) (by kernel_rfl) (by kernel_rfl) (fun _ _ _ h => h) (by rfl) (fun w hSw => ?_) hHeld ?_
        rotate_left
        · go_simp; try with_reducible rfl
        try simp only [Act.put, List.setIfInBounds_toArray, List.set_cons_zero, List.set_cons_succ]
        refine take_lit (i := 7) (v := ?_) rfl (by kernel_rfl) (by kernel_rfl) (by kernel_rfl) (fun _ _ _ h => h) (by rfl) (fun w hSw => ?_) hHeld ?_
        rotate_left
        · go_simp; try with_reducible rfl
        try simp only [Act.put, List.setIfInBounds_toArray, List.set_cons_zero, List.set_cons_succ]
        refine take_lit (i := 8) (v := ?_) rfl (by kernel_rfl) (by kernel_rfl) (by kernel_rfl) (fun _ _ _ h => h) (by rfl) (fun w hSw => ?_) hHeld ?_
        rotate_left
        · go_simp; try with_reducible rfl
        try simp only [Act.put, List.setIfInBounds_toArray, List.set_cons_zero, List.set_cons_succ]
        refine take_lit (i := 9) (v := ?_) rfl (by kernel_rfl) (by kernel_rfl) (by kernel_rfl) (fun _ _ _ h => h) (by rfl) (fun w hSw => ?_) hHeld ?_
        rotate_left
        · go_simp; try with_reducible rfl
        try simp only [Act.put, List.setIfInBounds_toArray, List.set_cons_zero, List.set_cons_succ]
        refine take_lit (i := 10) (v := ?_) rfl (by kernel_rfl) (by kernel_rfl) (by kernel_rfl) (fun _ _ _ h => h) (by rfl) (fun w hSw => ?_) hHeld ?_
        rotate_left
        · go_simp; try with_reducible rfl
        try simp only [Act.put, List.setIfInBounds_toArray, List.set_cons_zero, List.set_cons_succ]
        refine take_lit (i := 11) (v := ?_) rfl (by kernel_rfl) (by kernel_rfl) (by kernel_rfl) (fun _ _ _ h => h) (by rfl) (fun w hSw => ?_) hHeld ?_
        rotate_left
        · go_simp; try with_reducible rfl
        try simp only [Act.put, List.setIfInBounds_toArray, List.set_cons_zero, List.set_cons_succ]
        refine take_lit (i := 12) (v := ?_) rfl (by kernel_rfl) (by kernel_rfl) (by kernel_rfl) (fun _ _ _ h => h) (by rfl) (fun w hSw => ?_) hHeld ?_
        rotate_left
        · have z2 := (hSw.cell (p := ⟨b1, o1 + k * 5 + 2, none⟩) l1r).trans c2'; go_simp; try with_reducible rfl
        try simp only [Act.put, List.setIfInBounds_toArray, List.set_cons_zero, List.set_cons_succ]
        refine take_lit (i := 14) (v := ?_) rfl (by kernel_rfl) (by kernel_rfl) (by kernel_rfl) (fun _ _ _ h => h) (by rfl) (fun w hSw => ?_) hHeld ?_
        rotate_left
        · go_simp; try with_reducible rfl
        try simp only [Act.put, List.setIfInBounds_toArray, List.set_cons_zero, List.set_cons_succ]
        refine take_lit (i := 15) (v := ?_) rfl (by kernel_rfl) (by kernel_rfl) (by kernel_rfl) (fun _ _ _ h => h) (by rfl) (fun w hSw => ?_) hHeld ?_
        rotate_left
        · go_simp; try with_reducible rfl
        try simp only [Act.put, List.setIfInBounds_toArray, List.set_cons_zero, List.set_cons_succ]
        refine take_lit (i := 16) (v := ?_) rfl (by kernel_rfl) (by kernel_rfl) (by kernel_rfl) (fun _ _ _ h => h) (by rfl) (fun w hSw => ?_) hHeld ?_
        rotate_left
        · go_simp; try with_reducible rfl
        try simp only [Act.put, List.setIfInBounds_toArray, List.set_cons_zero, List.set_cons_succ]
        refine take_lit (i := 17) (v := ?_) rfl (by kernel_rfl) (by kernel_rfl) (by kernel_rfl) (fun _ _ _ h => h) (by rfl) (fun w hSw => ?_) hHeld ?_
        rotate_left
        · go_simp; try with_reducible rfl
        try simp only [Act.put, List.setIfInBounds_toArray, List.set_cons_zero, List.set_cons_succ]
        refine take_lit (i := 18) (v := ?_) rfl (by kernel_rfl) (by kernel_rfl) (by kernel_rfl) (fun _ _ _ h => h) (by rfl) (fun w hSw => ?_) hHeld ?_
        rotate_left
        · go_simp; try with_reducible rfl
        try simp only [Act.put, List.setIfInBounds_toArray, List.set_cons_zero, List.set_cons_succ]
        refine take_lit (i := 19) (v := ?_) rfl (by kernel_rfl) (by kernel_rfl) (by kernel_rfl) (fun _ _ _ h => h) (by rfl) (fun w hSw => ?_) hHeld ?_
        rotate_left
        · have z2 := (hSw.cell (p := ⟨b1, o1 + k * 5 + 2, none⟩) l1r).trans c2'; go_simp; try with_reducible rfl
        try simp only [Act.put, List.setIfInBounds_toArray, List.set_cons_zero, List.set_cons_succ]
        refine wpAnyH_ready (rs := [13]) (by kernel_rfl) (by simp) (cons_lit (i := 13) rfl (fun K hK => ?_) AllReadyH.nil)
        go_simp
        refine (refRow_ok _ G _ b x.key (ClRd.below HBr.out.2 hHeld) gb (by omega)).mono ?_
        rintro e wn ⟨rfl, rfl⟩
        try go_simp
        refine hK.out _ _ (hHeld) (fun hHeld2 => ?_)
        clear hK K hHeld
        have hHeld := hHeld2
        clear hHeld2
        try simp only [Act.put, List.setIfInBounds_toArray, List.set_cons_zero, List.set_cons_succ]
        refine wpAnyH_ready (rs := [20]) (by kernel_rfl) (by simp) (cons_lit (i := 20) rfl (fun K hK => ?_) AllReadyH.nil)
        go_simp
        refine (refRow_ok _ F _ a x.key (ClRd.below HBr.out.1 hHeld) ga (by omega)).mono ?_
        rintro e wn ⟨rfl, rfl⟩
        try go_simp
        refine hK.out _ _ (hHeld) (fun hHeld2 => ?_)
        clear hK K hHeld
        have hHeld := hHeld2
        clear hHeld2
        try simp only [Act.put, List.setIfInBounds_toArray, List.set_cons_zero, List.set_cons_succ]
        refine take_lit (i := 21) (v := ?_) rfl (by kernel_rfl) (by kernel_rfl) (by kernel_rfl) (fun _ _ _ h => h) (by rfl) (fun w hSw => ?_) hHeld ?_
        rotate_left
        · go_simp; try with_reducible rfl
        try simp only [Act.put, List.setIfInBounds_toArray, List.set_cons_zero, List.set_cons_succ]
        refine take_lit (i := 22) (v := ?_) rfl (by kernel_rfl) (by kernel_rfl) (by kernel_rfl) (fun _ _ _ h => h) (by rfl) (fun w hSw => ?_) hHeld ?_
        rotate_left
        · go_simp; try with_reducible rfl
        try simp only [Act.put, List.setIfInBounds_toArray, List.set_cons_zero, List.set_cons_succ]
        refine wpAnyH_done (by kernel_rfl) ?_ _
        have HH := Lib.hid hHeld
        clear hHeld c1' c2' hra hrb
        by_cases g1 : rb < ra
        · go_wp2_with fail
          go_ret
          refine BoolP.no (fun hh => ?_) (HX.out.2.2.trans (HH.out.mono HX.out.2.2.size))
          have := ((within_begins ga gb).1 hh).1 x HX.out.1 g0
          rw [HRR.out.1, HRR.out.2] at this
          omega
        · go_wp2_with fail
          go_roundw
          case rel => exact ⟨k + 1, by omega, by go_num, HX.out.2.1 (fun _ => by rw [HRR.out.1, HRR.out.2]; omega), HX.out.2.2.trans (HH.out.mono HX.out.2.2.size)⟩
          case measure => simp [intOf]; omega
      · have g0' : decide (x.col < 0) = false := by simpa using g0
        go_upto_region 4 with fail
        refine wp_region_held_drew (S := (fun w' => Below wr.heap.size wr w')) (by kernel_rfl) (Below.refl _ _).drew (fun hHeld => ?_)
        refine take_lit (i := 0) (v := ?_) rfl (by kernel_rfl) (by kernel_rfl) (by kernel_rfl) (fun _ _ _ h => h) (by rfl) (fun w hSw => ?_) hHeld ?_
        rotate_left
        · go_simp; try with_reducible rfl
        try simp only [Act.put, List.setIfInBounds_toArray, List.set_cons_zero, List.set_cons_succ]
        refine take_lit (i := 1) (v := ?_) rfl (by kernel_rfl) (by kernel_rfl) (by kernel_rfl) (fun _ _ _ h => h) (by rfl) (fun w hSw => ?_) hHeld ?_
        rotate_left
        · go_simp; try with_reducible rfl
        try simp only [Act.put, List.setIfInBounds_toArray, List.set_cons_zero, List.set_cons_succ]
        refine take_lit (i := 2) (v := ?_) rfl (by kernel_rfl) (by kernel_rfl) (by kernel_rfl) (fun _ _ _ h => h) (by rfl) (fun w hSw => ?_) hHeld ?_
        rotate_left
        · go_simp; try with_reducible rfl
        try simp only [Act.put, List.setIfInBounds_toArray, List.set_cons_zero, List.set_cons_succ]
        refine take_lit (i := 3) (v := ?_) rfl (by kernel_rfl) (by kernel_rfl) (by kernel_rfl) (fun _ _ _ h => h) (by rfl) (fun w hSw => ?_) hHeld ?_
        rotate_left
        · go_simp; try with_reducible rfl
        try simp only [Act.put, List.setIfInBounds_toArray, List.set_cons_zero, List.set_cons_succ]
        refine take_lit (i := 4) (v := ?_) rfl (by kernel_rfl) (by kernel_rfl) (by kernel_rfl) (fun _ _ _ h => h) (by rfl) (fun w hSw => ?_) hHeld ?_
        rotate_left
        · have z1 := (hSw.cell (p := ⟨b1, o1 + k * 5 + 1, none⟩) l1r).trans c1'; go_simp; try with_reducible rfl
        try simp only [Act.put, List.setIfInBounds_toArray, List.set_cons_zero, List.set_cons_succ]
        refine take_lit (i := 5) (v := ?_) rfl (by kernel_rfl) (by kernel_rfl) (by kernel_rfl) (fun _ _ _ h => h) (by rfl) (fun w hSw => ?_) hHeld ?_
        rotate_left
        · go_simp; try with_reducible rfl
        try simp only [Act.put, List.setIfInBounds_toArray, List.set_cons_zero, List.set_cons_succ]
        refine take_lit (i := 6) (v := ?_) rfl (by kernel_rfl) (by kernel_rfl) (by kernel_rfl) (fun _ _ _ h => h) (by rfl) (fun w hSw => ?_) hHeld ?_
        rotate_left
        · go_simp; try with_reducible rfl
        try simp only [Act.put, List.setIfInBounds_toArray, List.set_cons_zero, List.set_cons_succ]
        refine take_no (i := 7) rfl (by kernel_rfl) (by kernel_rfl) (by kernel_rfl) (fun _ _ _ h => h) (by rfl) hHeld ?_
        try simp only [Act.put, List.setIfInBounds_toArray, List.set_cons_zero, List.set_cons_succ]
        refine take_no (i := 8) rfl (by kernel_rfl) (by kernel_rfl) (by kernel_rfl) (fun _ _ _ h => h) (by rfl) hHeld ?_
        try simp only [Act.put, List.setIfInBounds_toArray, List.set_cons_zero, List.set_cons_succ]
        refine take_no (i := 9) rfl (by kernel_rfl) (by kernel_rfl) (by kernel_rfl) (fun _ _ _ h => h) (by rfl) hHeld ?_
        try simp only [Act.put, List.setIfInBounds_toArray, List.set_cons_zero, List.set_cons_succ]
        refine take_no (i := 10) rfl (by kernel_rfl) (by kernel_rfl) (by kernel_rfl) (fun _ _ _ h => h) (by rfl) hHeld ?_
        try simp only [Act.put, List.setIfInBounds_toArray, List.set_cons_zero, List.set_cons_succ]
        refine take_no (i := 11) rfl (by kernel_rfl) (by kernel_rfl) (by kernel_rfl) (fun _ _ _ h => h) (by rfl) hHeld ?_
        try simp only [Act.put, List.setIfInBounds_toArray, List.set_cons_zero, List.set_cons_succ]
        refine take_no (i := 12) rfl (by kernel_rfl) (by kernel_rfl) (by kernel_rfl) (fun _ _ _ h => h) (by rfl) hHeld ?_
        try simp only [Act.put, List.setIfInBounds_toArray, List.set_cons_zero, List.set_cons_succ]
        refine take_no (i := 13) rfl (by kernel_rfl) (by kernel_rfl) (by kernel_rfl) (fun _ _ _ h => h) (by rfl) hHeld ?_
        try simp only [Act.put, List.setIfInBounds_toArray, List.set_cons_zero, List.set_cons_succ]
        refine take_no (i := 14) rfl (by kernel_rfl) (by kernel_rfl) (by kernel_rfl) (fun _ _ _ h => h) (by rfl) hHeld ?_
        try simp only [Act.put, List.setIfInBounds_toArray, List.set_cons_zero, List.set_cons_succ]
        refine take_no (i := 15) rfl (by kernel_rfl) (by kernel_rfl) (by kernel_rfl) (fun _ _ _ h => h) (by rfl) hHeld ?_
        try simp only [Act.put, List.setIfInBounds_toArray, List.set_cons_zero, List.set_cons_succ]
        refine take_no (i := 16) rfl (by kernel_rfl) (by kernel_rfl) (by kernel_rfl) (fun _ _ _ h => h) (by rfl) hHeld ?_
        try simp only [Act.put, List.setIfInBounds_toArray, List.set_cons_zero, List.set_cons_succ]
        refine take_no (i := 17) rfl (by kernel_rfl) (by kernel_rfl) (by kernel_rfl) (fun _ _ _ h => h) (by rfl) hHeld ?_
        try simp only [Act.put, List.setIfInBounds_toArray, List.set_cons_zero, List.set_cons_succ]
        refine take_no (i := 18) rfl (by kernel_rfl) (by kernel_rfl) (by kernel_rfl) (fun _ _ _ h => h) (by rfl) hHeld ?_
        try simp only [Act.put, List.setIfInBounds_toArray, List.set_cons_zero, List.set_cons_succ]
        refine take_no (i := 19) rfl (by kernel_rfl) (by kernel_rfl) (by kernel_rfl) (fun _ _ _ h => h) (by rfl) hHeld ?_
        try simp only [Act.put, List.setIfInBounds_toArray, List.set_cons_zero, List.set_cons_succ]
        refine take_no (i := 20) rfl (by kernel_rfl) (by kernel_rfl) (by kernel_rfl) (fun _ _ _ h => h) (by rfl) hHeld ?_
        try simp only [Act.put, List.setIfInBounds_toArray, List.set_cons_zero, List.set_cons_succ]
        refine take_no (i := 21) rfl (by kernel_rfl) (by kernel_rfl) (by kernel_rfl) (fun _ _ _ h => h) (by rfl) hHeld ?_
        try simp only [Act.put, List.setIfInBounds_toArray, List.set_cons_zero, List.set_cons_succ]
        refine take_lit (i := 22) (v := ?_) rfl (by kernel_rfl) (by kernel_rfl) (by kernel_rfl) (fun _ _ _ h => h) (by rfl) (fun w hSw => ?_) hHeld ?_
        rotate_left
        · go_simp; try with_reducible rfl
        try simp only [Act.put, List.setIfInBounds_toArray, List.set_cons_zero, List.set_cons_succ]
        refine wpAnyH_done (by kernel_rfl) ?_ _
        have HH := Lib.hid hHeld
        clear hHeld c1' c2' g0'
        go_wp2_with fail
        go_roundw
        case rel => exact ⟨k + 1, by omega, by go_num, HX.out.2.1 (fun h => absurd h (by omega)), HX.out.2.2.trans (HH.out.mono HX.out.2.2.size)⟩
        case measure => simp [intOf]; omega
    · obtain rfl : k = a.length := by omega
      rw [List.take_length] at hal
      have HR := Lib.hid (And.intro hal ht)
      clear hal ht
      go_wp2_with fail
      go_loopw [6] (fun i w2 => ∃ j : Nat, j ≤ 4 ∧ i = .int .i64 (j : Int) ∧ (∀ q : Nat, q < j → ColsOk a b q) ∧ Below w.heap.size w w2) (fun i _ => 4 - (intOf i).toNat)
      case atStart => exact ⟨0, by omega, rfl, fun q h => absurd h (by omega), HR.out.2⟩
      case round =>
        obtain ⟨j, hj, rfl, hcol, ht⟩ := hrel
        rename World => w2
        have HJ := Lib.hid (And.intro hcol ht)
        clear hcol ht
        have hj0 : (0 : Int) ≤ (j : Int) := by omega
        by_cases hjl : j < 4
        · go_wp2_with fail
          refine (begins_ok w2 F _ a j (ClRd.below H.out.1 HJ.out.2) (fun c hc => ga.fits c hc) (by omega)).mono ?_
          rintro e w3 ⟨v7, rfl, hr7, hb7⟩
          have h23 := HJ.out.2.trans (hb7.mono HJ.out.2.size)
          have H7 := Lib.hid (And.intro hr7 h23)
          clear hr7 hb7 h23
          go_wp2_with fail
          refine (begins_ok w3 G _ b j (ClRd.below H.out.2 H7.out.2) (fun c hc => gb.fits c hc) (by omega)).mono ?_
          rintro e w4 ⟨v8, rfl, hr8, hb8⟩
          have h24 := H7.out.2.trans (hb8.mono H7.out.2.size)
          have hba := begS_le a hla j
          have hbb := begS_le b hlb j
          have hr7 := IntRd.below H7.out.1 hb8
          obtain ⟨ba, eba⟩ : ∃ ba, begS a j = ba := ⟨_, rfl⟩
          obtain ⟨bb, ebb⟩ : ∃ bb, begS b j = bb := ⟨_, rfl⟩
          rw [eba] at hba hr7
          rw [ebb] at hbb hr8
          obtain ⟨A8, c8, rfl, hn8, hm8, _⟩ := id hr8
          have H8 := Lib.hid (And.intro hr8 (And.intro hr7 (And.intro h24 (And.intro eba ebb))))
          clear hr8 hb8 hr7 h24 eba ebb H7
          go_wp2_with fail
          go_loopw [7, 9] (fun v i w5 => ∃ m : Nat, m ≤ bb.length ∧ i = .int .i64 (m : Int) ∧ IntRd w5 v ((bb.take m).foldl putS ba) ∧ Below w4.heap.size w4 w5) (fun _ i _ => bb.length - (intOf i).toNat)
          case atStart => exact ⟨0, Nat.zero_le _, rfl, H8.out.2.1, Below.refl _ _⟩
          case round =>
            obtain ⟨m, hm, rfl, hrd, hbl⟩ := hrel
            rename World => w5
            by_cases hml : m < bb.length
            · obtain ⟨x, hx⟩ : ∃ x, bb[m]? = some x := ⟨_, List.getElem?_eq_getElem hml⟩
              obtain ⟨b8, o8, rfl, d8⟩ := H8.out.1.cell hx
              have l8 : b8 < w4.heap.size := World.block_lt_of_cell? w4 _ d8
              have d8' := (hbl.cell (p := ⟨b8, o8 + m, none⟩) l8).trans d8
              have hpl := putAll_len (bb.take m) ba
              rw [List.length_take] at hpl
              have hsn : (bb.take (m + 1)).foldl putS ba = putS ((bb.take m).foldl putS ba) x := by rw [take_snoc hx, List.foldl_append]; rfl
              obtain ⟨acc, hacc⟩ : ∃ acc, (bb.take m).foldl putS ba = acc := ⟨_, rfl⟩
              rw [hacc] at hrd hpl hsn
              have HM := Lib.hid (And.intro hsn (And.intro hrd hbl))
              clear hx d8 hsn hacc hrd hbl
              go_wp2_with fail
              refine (put_ok w5 _ acc x HM.out.2.1 (by omega)).mono ?_
              rintro e w6 ⟨v6, rfl, hr6, hb6⟩
              have H6 := Lib.hid (And.intro hr6 hb6)
              clear hr6 hb6
              go_wp2_with fail
              go_roundw
              case rel =>
                refine ⟨m + 1, by omega, by go_num, ?_, HM.out.2.2.trans (H6.out.2.mono HM.out.2.2.size)⟩
                rw [HM.out.1]
                exact H6.out.1
              case measure => simp [intOf]; omega
            · obtain rfl : m = bb.length := by omega
              rw [List.take_length] at hrd
              have hpl := putAll_len bb ba
              obtain ⟨at_, hat⟩ : ∃ at_, bb.foldl putS ba = at_ := ⟨_, rfl⟩
              have hmem : ∀ x, x ∈ at_ ↔ x ∈ begS a j ∨ x ∈ begS b j := fun x => by rw [← hat, putAll_mem, H8.out.2.2.2.1, H8.out.2.2.2.2]
              rw [hat] at hrd hpl
              obtain ⟨A7, c7, rfl, hn7, hm7, _⟩ := id hrd
              have h5 := H8.out.2.2.1.trans (hbl.mono H8.out.2.2.1.size)
              have H5 := Lib.hid (And.intro hrd (And.intro h5 hmem))
              clear hrd h5 hmem hat hbl
              go_wp2_with fail
              go_loopw [10] (fun i w6 => ∃ q : Nat, q ≤ at_.length ∧ i = .int .i64 (q : Int) ∧ (∀ x ∈ at_.take q, lev a (j, [], x) ≤ lev b (j, [], x)) ∧ Below w5.heap.size w5 w6) (fun i _ => at_.length - (intOf i).toNat)
              case atStart => exact ⟨0, Nat.zero_le _, rfl, by simp, Below.refl _ _⟩
              case round =>
                obtain ⟨q, hq, rfl, hal, ht⟩ := hrel
                rename World => w6
                by_cases hql : q < at_.length
                · obtain ⟨x, hx⟩ : ∃ x, at_[q]? = some x := ⟨_, List.getElem?_eq_getElem hql⟩
                  obtain ⟨b7, o7, rfl, d7⟩ := H5.out.1.cell hx
                  have l7 : b7 < w5.heap.size := World.block_lt_of_cell? w5 _ d7
                  have l7r : b7 < w6.heap.size := Nat.lt_of_lt_of_le l7 ht.size
                  have c7' := (ht.cell (p := ⟨b7, o7 + q, none⟩) l7).trans d7
                  have h6 := H5.out.2.1.trans (ht.mono H5.out.2.1.size)
                  have HB4 := Lib.hid (And.intro (ClRd.below H.out.1 h6) (ClRd.below H.out.2 h6))
                  have hxm := (H5.out.2.2 x).1 (List.mem_of_getElem? hx)
                  have next : lev a (j, [], x) ≤ lev b (j, [], x) → ∀ x ∈ at_.take (q + 1), lev a (j, [], x) ≤ lev b (j, [], x) := by
                    intro hn c hc
                    rw [take_snoc hx] at hc
                    rcases List.mem_append.1 hc with hc | hc
                    · exact hal c hc
                    · simp at hc; subst hc; exact hn
                  obtain ⟨ra, hra⟩ : ∃ ra, lev a ((j : Int), [], x) = ra := ⟨_, rfl⟩
                  obtain ⟨rb, hrb⟩ : ∃ rb, lev b ((j : Int), [], x) = rb := ⟨_, rfl⟩
                  have HRR := Lib.hid (And.intro hra hrb)
                  have q0 : (0 : Int) ≤ (q : Int) := by omega
                  have q1 : (q : Int) < (at_.length : Int) := by omega
                  have HX := Lib.hid (And.intro hxm (And.intro next (And.intro h6 ht)))
                  clear hx d7 h6 hxm next hal ht
                  go_upto_region 18 with fail
                  refine wp_region_held_drew (S := (fun w' => Below w6.heap.size w6 w')) (by kernel_rfl) (Below.refl _ _).drew (fun hHeld => ?_)
                  refine take_lit (i := 0) (v := ?_) rfl (by kernel_rfl) (by kernel_rfl) (by kernel_rfl) (fun _ _ _ h => h) (by rfl) (fun w hSw => ?_) hHeld ?_
                  rotate_left
                  · go_simp; try with_reducible rfl
                  try simp only [Act.put, List.setIfInBounds_toArray, List.set_cons_zero, List.set_cons_succ]
                  refine take_lit (i := 1) (v := ?_) rfl (by kernel_rfl) (by kernel_rfl) (by kernel_rfl) (fun _ _ _ h => h) (by rfl) (fun w hSw => ?_) hHeld ?_
                  rotate_left
                  · go_simp; try with_reducible rfl
                  try simp only [Act.put, List.setIfInBounds_toArray, List.set_cons_zero, List.set_cons_succ]
                  refine take_lit (i := 2) (v := ?_) rfl (by kernel_rfl) (by kernel_rfl) (by kernel_rfl) (fun _ _ _ h => h) (by rfl) (fun w hSw => ?_) hHeld ?_
                  rotate_left
                  · go_simp; try with_reducible rfl
                  try simp only [Act.put, List.setIfInBounds_toArray, List.set_cons_zero, List.set_cons_succ]
                  refine take_lit (i := 3) (v := ?_) rfl (by kernel_rfl) (by kernel_rfl) (by kernel_rfl) (fun _ _ _ h => h) (by rfl) (fun w hSw => ?_) hHeld ?_
                  rotate_left
                  · go_simp; try with_reducible rfl
                  try simp only [Act.put, List.setIfInBounds_toArray, List.set_cons_zero, List.set_cons_succ]
                  refine take_lit (i := 4) (v := ?_) rfl (by kernel_rfl) (by kernel_rfl) (by kernel_rfl) (fun _ _ _ h => h) (by rfl) (fun w hSw => ?_) hHeld ?_
                  rotate_left
                  · go_simp; try with_reducible rfl
                  try simp only [Act.put, List.setIfInBounds_toArray, List.set_cons_zero, List.set_cons_succ]
                  refine take_lit (i := 5) (v := ?_) rfl (by kernel_rfl) (by kernel_rfl) (by kernel_rfl) (fun _ _ _ h => h) (by rfl) (fun w hSw => ?_) hHeld ?_
                  rotate_left
                  · have z0 := (hSw.cell (p := ⟨b7, o7 + q, none⟩) l7r).trans c7'; go_simp; try with_reducible rfl
                  try simp only [Act.put, List.setIfInBounds_toArray, List.set_cons_zero, List.set_cons_succ]
                  refine take_lit (i := 7) (v := ?_) rfl (by kernel_rfl) (by kernel_rfl) (by kernel_rfl) (fun _ _ _ h => h) (by rfl) (fun w hSw => ?_) hHeld ?_
                  rotate_left
                  · go_simp; try with_reducible rfl
                  try simp only [Act.put, List.setIfInBounds_toArray, List.set_cons_zero, List.set_cons_succ]
                  refine take_lit (i := 8) (v := ?_) rfl (by kernel_rfl) (by kernel_rfl) (by kernel_rfl) (fun _ _ _ h => h) (by rfl) (fun w hSw => ?_) hHeld ?_
                  rotate_left
                  · go_simp; try with_reducible rfl
                  try simp only [Act.put, List.setIfInBounds_toArray, List.set_cons_zero, List.set_cons_succ]
                  refine take_lit (i := 9) (v := ?_) rfl (by kernel_rfl) (by kernel_rfl) (by kernel_rfl) (fun _ _ _ h => h) (by rfl) (fun w hSw => ?_) hHeld ?_
                  rotate_left
                  · go_simp; try with_reducible rfl
                  try simp only [Act.put, List.setIfInBounds_toArray, List.set_cons_zero, List.set_cons_succ]
                  refine take_lit (i := 10) (v := ?_) rfl (by kernel_rfl) (by kernel_rfl) (by kernel_rfl) (fun _ _ _ h => h) (by rfl) (fun w hSw => ?_) hHeld ?_
                  rotate_left
                  · go_simp; try with_reducible rfl
                  try simp only [Act.put, List.setIfInBounds_toArray, List.set_cons_zero, List.set_cons_succ]
                  refine take_lit (i := 11) (v := ?_) rfl (by kernel_rfl) (by kernel_rfl) (by kernel_rfl) (fun _ _ _ h => h) (by rfl) (fun w hSw => ?_) hHeld ?_
                  rotate_left
                  · go_simp; try with_reducible rfl
                  try simp only [Act.put, List.setIfInBounds_toArray, List.set_cons_zero, List.set_cons_succ]
                  refine take_lit (i := 12) (v := ?_) rfl (by kernel_rfl) (by kernel_rfl) (by kernel_rfl) (fun _ _ _ h => h) (by rfl) (fun w hSw => ?_) hHeld ?_
                  rotate_left
                  · have z0 := (hSw.cell (p := ⟨b7, o7 + q, none⟩) l7r).trans c7'; go_simp; try with_reducible rfl
                  try simp only [Act.put, List.setIfInBounds_toArray, List.set_cons_zero, List.set_cons_succ]
                  refine wpAnyH_ready (rs := [6]) (by kernel_rfl) (by simp) (cons_lit (i := 6) rfl (fun K hK => ?_) AllReadyH.nil)
                  go_simp
                  refine (refValue_ok _ G _ b (j : Int) x (ClRd.below HB4.out.2 hHeld) gb (by omega) hj0).mono ?_
                  rintro e wn ⟨rfl, rfl⟩
                  try go_simp
                  refine hK.out _ _ (hHeld) (fun hHeld2 => ?_)
                  clear hK K hHeld
                  have hHeld := hHeld2
                  clear hHeld2
                  try simp only [Act.put, List.setIfInBounds_toArray, List.set_cons_zero, List.set_cons_succ]
                  refine wpAnyH_ready (rs := [13]) (by kernel_rfl) (by simp) (cons_lit (i := 13) rfl (fun K hK => ?_) AllReadyH.nil)
                  go_simp
                  refine (refValue_ok _ F _ a (j : Int) x (ClRd.below HB4.out.1 hHeld) ga (by omega) hj0).mono ?_
                  rintro e wn ⟨rfl, rfl⟩
                  try go_simp
                  refine hK.out _ _ (hHeld) (fun hHeld2 => ?_)
                  clear hK K hHeld
                  have hHeld := hHeld2
                  clear hHeld2
                  try simp only [Act.put, List.setIfInBounds_toArray, List.set_cons_zero, List.set_cons_succ]
                  refine take_lit (i := 14) (v := ?_) rfl (by kernel_rfl) (by kernel_rfl) (by kernel_rfl) (fun _ _ _ h => h) (by rfl) (fun w hSw => ?_) hHeld ?_
                  rotate_left
                  · go_simp; try with_reducible rfl
                  try simp only [Act.put, List.setIfInBounds_toArray, List.set_cons_zero, List.set_cons_succ]
                  refine wpAnyH_done (by kernel_rfl) ?_ _
                  have HH := Lib.hid hHeld
                  clear hHeld c7' hra hrb
                  by_cases g1 : rb < ra
                  · go_wp2_with fail
                    go_ret
                    refine BoolP.no (fun hh => ?_) (HX.out.2.2.1.trans (HH.out.mono HX.out.2.2.1.size))
                    have := ((within_begins ga gb).1 hh).2 j hjl x HX.out.1
                    rw [HRR.out.1, HRR.out.2] at this
                    omega
                  · go_wp2_with fail
                    go_roundw
                    case rel => exact ⟨q + 1, by omega, by go_num, HX.out.2.1 (by rw [HRR.out.1, HRR.out.2]; omega), HX.out.2.2.2.trans (HH.out.mono HX.out.2.2.2.size)⟩
                    case measure => simp [intOf]; omega
                · obtain rfl : q = at_.length := by omega
                  rw [List.take_length] at hal
                  have HA := Lib.hid (And.intro hal ht)
                  clear hal ht
                  go_wp2_with fail
                  go_roundw
                  case rel =>
                    refine ⟨j + 1, by omega, by go_num, fun r hr => ?_, H5.out.2.1.trans (HA.out.2.mono H5.out.2.1.size)⟩
                    by_cases hrj : r < j
                    · exact HJ.out.1 r hrj
                    · obtain rfl : r = j := by omega
                      exact fun x hx => HA.out.1 x ((H5.out.2.2 x).2 hx)
                  case measure => simp [intOf]; omega
        · obtain rfl : j = 4 := by omega
          go_wp2_with fail
          go_ret
          exact BoolP.yes ((within_begins ga gb).2 ⟨HR.out.1, HJ.out.1⟩) HJ.out.2

end Go.Proofs.Ytdmpdlpfanfjoaa
