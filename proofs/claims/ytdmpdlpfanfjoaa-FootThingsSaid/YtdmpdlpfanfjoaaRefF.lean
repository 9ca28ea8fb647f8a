/- breviaryref09: Normal. -/
import Derived.Test.YtdmpdlpfanfjoaaRefE
import Derived.Sort.Walk0
namespace Go.Proofs.Ytdmpdlpfanfjoaa
open Go.RowKit

def KRise (ks : List (List UInt8)) : Prop := ks.Pairwise (· < ·)
theorem rise_insert {ks : List (List UInt8)} {n : Nat} {x : List UInt8} (h : KRise ks) (h1 : ∀ y ∈ ks.take n, y < x) (h2 : ∀ y, ks[n]? = some y → x < y) : KRise (ks.take n ++ [x] ++ ks.drop n) := by
  unfold KRise at *
  have e : ks = ks.take n ++ ks.drop n := (List.take_append_drop n ks).symm
  rw [e, List.pairwise_append] at h
  obtain ⟨a1, a2, a3⟩ := h
  rw [List.pairwise_append, List.pairwise_append]
  have hd : ∀ y ∈ ks.drop n, x < y := by
    intro y hy
    cases hh : ks.drop n with
    | nil => rw [hh] at hy; simp at hy
    | cons z r =>
      have hz : ks[n]? = some z := by rw [← List.head?_drop, hh]; rfl
      rw [hh] at hy a2
      rcases List.mem_cons.1 hy with rfl | hy
      · exact h2 _ hz
      · exact List.lt_trans (h2 _ hz) ((List.pairwise_cons.1 a2).1 y hy)
  refine ⟨⟨a1, by simp, fun a ha b hb => by simp at hb; subst hb; exact h1 a ha⟩, a2, fun a ha b hb => ?_⟩
  rcases List.mem_append.1 ha with ha | ha
  · exact a3 a ha b hb
  · simp at ha; subst ha; exact hd b hb
theorem mem_insert {ks : List (List UInt8)} {n : Nat} {x key : List UInt8} : key ∈ ks.take n ++ [x] ++ ks.drop n ↔ key ∈ ks ∨ key = x := by
  have e : key ∈ ks ↔ key ∈ ks.take n ∨ key ∈ ks.drop n := by rw [← List.mem_append, List.take_append_drop]
  rw [e, List.mem_append, List.mem_append, List.mem_singleton]
  constructor
  · rintro ((h | h) | h)
    · exact .inl (.inl h)
    · exact .inr h
    · exact .inl (.inr h)
  · rintro ((h | h) | h)
    · exact .inl (.inl h)
    · exact .inr h
    · exact .inl (.inr h)
theorem row_mem_snoc {l : List Cl} {x : Cl} (h : x.col < 0) {key : List UInt8} : ((∃ c ∈ l, c.col < 0 ∧ c.key = key) ∨ key = x.key) ↔ ∃ c ∈ l ++ [x], c.col < 0 ∧ c.key = key := by
  constructor
  · rintro (⟨c, hc, h1⟩ | rfl)
    · exact ⟨c, by simp [hc], h1⟩
    · exact ⟨x, by simp, h, rfl⟩
  · rintro ⟨c, hc, h1, h2⟩
    rcases List.mem_append.1 hc with hc | hc
    · exact .inl ⟨c, hc, h1, h2⟩
    · simp at hc; subst hc; exact .inr h2.symm
theorem row_mem_same {l : List Cl} {x : Cl} {ks : List (List UInt8)} (hm : ∀ key, key ∈ ks ↔ ∃ c ∈ l, c.col < 0 ∧ c.key = key) (h : ¬ x.col < 0 ∨ x.key ∈ ks) (key : List UInt8) : key ∈ ks ↔ ∃ c ∈ l ++ [x], c.col < 0 ∧ c.key = key := by
  rw [hm]
  constructor
  · rintro ⟨c, hc, h1⟩; exact ⟨c, by simp [hc], h1⟩
  · rintro ⟨c, hc, h1, h2⟩
    rcases List.mem_append.1 hc with hc | hc
    · exact ⟨c, hc, h1, h2⟩
    · simp at hc
      subst hc
      rcases h with h | h
      · exact absurd h1 h
      · rw [← h2]; exact (hm _).1 h
theorem key_tri {a b : List UInt8} (h : ¬ a < b) (hne : a ≠ b) : b < a := by
  rcases Decidable.em (b < a) with h1 | h1
  · exact h1
  · exact absurd (List.le_antisymm (List.not_lt.1 h1) (List.not_lt.1 h)) hne
def rowN (l : List Cl) (key : List UInt8) : Cl := rowC (lev l (-1, key, 0) == 2, key)
theorem clrd_take {w : World} {F : Nat → Prop} {A : Option Addr} {m c : Nat} {l : List Cl} (h : ClRd w F (.slice A m c) l) {n : Nat} (hn : n ≤ l.length) : ClRd w F (.slice A n c) (l.take n) := by
  obtain ⟨A', m', c', hv, hl, hc, hm, hx⟩ := h
  injection hv with h1 h2 h3
  subst h1 h2 h3
  simp at hl
  refine ⟨A, n, c, rfl, by simp; omega, by omega, hm, fun h0 => ?_⟩
  obtain ⟨b, o, e, hF, hu⟩ := hx (by omega)
  refine ⟨b, o, e, hF, fun i x hi => hu i x ?_⟩
  have hil : i < n := by have := (List.getElem?_eq_some_iff.1 hi).1; simp at this; omega
  rw [List.map_take, List.getElem?_take_of_lt hil] at hi
  exact hi
theorem clrd_drop {w : World} {F : Nat → Prop} {b o m c : Nat} {l : List Cl} (h : ClRd w F (.slice (some ⟨b, o, none⟩) m c) l) {n : Nat} (hn : n ≤ l.length) : ClRd w F (.slice (some ⟨b, o + n * 5, none⟩) (m - n) (c - n)) (l.drop n) := by
  obtain ⟨A', m', c', hv, hl, hc, hm, hx⟩ := h
  injection hv with h1 h2 h3
  subst h1 h2 h3
  simp at hl
  refine ⟨_, _, _, rfl, by simp; omega, by omega, by omega, fun h0 => ?_⟩
  obtain ⟨b', o', e, hF, hu⟩ := hx (by omega)
  injection e with e
  injection e with e1 e2
  subst e1 e2
  refine ⟨b, o + n * 5, rfl, hF, fun i x hi j u hj => ?_⟩
  have := hu (n + i) x (by rw [List.map_drop, List.getElem?_drop] at hi; exact hi) j u hj
  rw [← this]
  congr 2
  rw [Nat.add_mul]
  omega
theorem fresh_rd' {w' : World} {base n : Nat} {A : Option Addr} {c : Nat} {l : List Cl} {ks : List (List UInt8)} (h : w'.ownsRow base 28 5 (.slice A ks.length c) ks.length ((ks.map (rowN l)).map Cl.cells).flatten) (hn : ks.length = n) : ClRd w' (fun _ => True) (.slice A n c) (ks.map (rowN l)) := by
  subst hn
  have : (ks.map (rowN l)).length = ks.length := by simp
  rw [← this] at h ⊢
  exact fresh_rd h
theorem clrd_cap {w : World} {F : Nat → Prop} {A : Option Addr} {n c : Nat} {l : List Cl} (h : ClRd w F (.slice A n c) l) : n ≤ c ∧ c ≤ maxLen := by
  obtain ⟨A', n', c', hv, _, hc, hm, _⟩ := h
  injection hv with h1 h2 h3
  subst h2 h3
  exact ⟨hc, hm⟩
theorem clrd_none {w : World} {F : Nat → Prop} {b o : Nat} : ClRd w F (.slice (some ⟨b, o, none⟩) 0 0) [] := ⟨_, _, _, rfl, rfl, Nat.le_refl _, by simp [maxLen], fun h => absurd h (by omega)⟩

theorem colS_len (l : List Cl) (hl : l.length ≤ 1000) (col does : Int) : (colS l col does).length ≤ 4000 := by
  have h1 := col_len (f := fun n => lev l (col, [], n) == does) (begS l col) ([], none)
  have h2 := begS_len col l []
  unfold colS colSt
  unfold begS at h1 ⊢
  simp [outOf] at h1 h2 ⊢
  omega
theorem cols_len (l : List Cl) (hl : l.length ≤ 1000) : ∀ j : Nat, (cols (fun i => colS l i 2) (fun i => colS l i 1) j).length ≤ j * 8000
  | 0 => by simp [cols]
  | j + 1 => by
    have := cols_len l hl j
    have h2 := colS_len l hl (j : Int) 2
    have h1 := colS_len l hl (j : Int) 1
    show (cols _ _ j ++ colC _ _ _).length ≤ _
    simp [colC]
    omega
theorem normal_form {l : List Cl} (hg : Good l) {ks : List (List UInt8)} (hr : KRise ks) (hm : ∀ key, key ∈ ks ↔ ∃ c ∈ l, c.col < 0 ∧ c.key = key) {rows : List Cl} (he : ks.map (rowN l) = rows) : IsForm l (rows ++ cols (fun i => colS l i 2) (fun i => colS l i 1) 4) := by
  have e : rows ++ cols (fun i => colS l i 2) (fun i => colS l i 1) 4 = formOf (ks.map fun k => (lev l (-1, k, 0) == 2, k)) (fun i => colS l i 2) (fun i => colS l i 1) := by
    rw [formOf_cols, ← he, List.map_map]
    rfl
  rw [e]
  have hpos : ∀ key, key ∈ ks ↔ 1 ≤ lev l (-1, key, 0) := by
    intro key
    rw [hm, lev_pos]
    constructor
    · rintro ⟨c, hc, h⟩; exact ⟨c, hc, (has_row_iff (hg.ok c hc) key).2 h⟩
    · rintro ⟨c, hc, h⟩; exact ⟨c, hc, (has_row_iff (hg.ok c hc) key).1 h⟩
  refine form_is hg.ok ?_ ?_ ?_ ?_ ?_
  · rw [List.pairwise_map]; exact hr
  · intro k
    rw [← hpos]
    constructor
    · rintro ⟨b, hb⟩
      obtain ⟨k', hk', e⟩ := List.mem_map.1 hb
      injection e with _ e
      subst e
      exact hk'
    · intro h; exact ⟨_, List.mem_map.2 ⟨k, h, rfl⟩⟩
  · intro k
    constructor
    · intro hb
      obtain ⟨k', hk', e⟩ := List.mem_map.1 hb
      injection e with e1 e
      subst e
      simpa using e1
    · intro h
      refine List.mem_map.2 ⟨k, (hpos k).2 (by omega), ?_⟩
      rw [h]
      rfl
  · intro i h0 h4
    obtain ⟨n1, n2⟩ := colS_norm hg h0 (does := 2) (by decide)
    exact ⟨n1, fun n => by rw [n2, inS_spansOf hg.ok h0, lev_two]⟩
  · intro i h0 h4
    obtain ⟨n1, n2⟩ := colS_norm hg h0 (does := 1) (by decide)
    obtain ⟨_, m2⟩ := colS_norm hg h0 (does := 2) (by decide)
    refine ⟨n1, fun n => ?_⟩
    rw [n2, m2, inS_spansOf hg.ok h0]
    have hb := lev_bd l (i, [], n)
    constructor
    · intro h
      obtain ⟨c, hc, hh⟩ := lev_pos.1 (show 1 ≤ lev l (i, [], n) by omega)
      refine ⟨⟨c, hc, hh, ?_⟩, by omega⟩
      cases hw : c.wr
      · rfl
      · have := lev_two.2 ⟨c, hc, hh, hw⟩
        omega
    · rintro ⟨⟨c, hc, hh, _⟩, h2⟩
      have := lev_pos.2 ⟨c, hc, hh⟩
      omega

/-- While the rows are laid. -/
def RowsR (w : World) (l : List Cl) (k : Nat) (v3 : Value) (wr : World) : Prop :=
  ∃ ks, KRise ks ∧ (∀ key, key ∈ ks ↔ ∃ c ∈ l.take k, c.col < 0 ∧ c.key = key) ∧ ks.length ≤ k ∧ wr.ownsRow w.heap.size 28 5 v3 ks.length ((ks.map (rowN l)).map Cl.cells).flatten ∧ Below w.heap.size w wr

set_option maxRecDepth 100000 in
set_option maxHeartbeats 4000000 in
theorem normal_ok (w : World) (F : Nat → Prop) (v : Value) (l : List Cl) (h : ClRd w F v l) (hg : Good l) (hl : l.length ≤ 1000) :
    Calls Try.prog 25 #[v] w (fun e w' => ∃ out, IsForm l out ∧ FreshC out w e w') := by
  obtain ⟨i2, hi2, hy0, hy1, hy2⟩ := info_parts Try.info28
  obtain ⟨A, c, rfl, hnc, hcm⟩ := h.slice
  have H := Lib.hid h
  have HHI2 := Lib.hid hi2
  clear h hi2
  go_enter Try.func25, Try.ntmps25
  go_wp2_with fail
  go_loopw [3, 4] (fun v3 i wr => ∃ k : Nat, k ≤ l.length ∧ i = .int .i64 (k : Int) ∧ RowsR w l k v3 wr) (fun _ i _ => l.length - (intOf i).toNat)
  case atStart => exact ⟨0, Nat.zero_le _, rfl, [], List.Pairwise.nil, by simp, by simp, World.ownsRow_nil _ _ _ _, Below.refl _ _⟩
  case round =>
    obtain ⟨k, hk, rfl, ks, hrise, hmem, hkl, hown, hbl⟩ := hrel
    by_cases hlt : k < l.length
    · obtain ⟨x, hx⟩ : ∃ x, l[k]? = some x := ⟨_, List.getElem?_eq_getElem hlt⟩
      obtain ⟨b, o, rfl, hFb, c0, c1, c2, c3, c4⟩ := H.out.at_ hx
      have hb : b < w.heap.size := World.block_lt_of_cell? w _ c0
      have d1 := (hbl.cell (p := ⟨b, o + k * 5 + 1, none⟩) hb).trans c1
      have HK := Lib.hid (And.intro hrise hmem)
      have HX := Lib.hid hx
      clear hrise hmem hx c0 c1 c3 c4
      by_cases g0 : x.col < 0
      · have g0' : ¬ 0 ≤ x.col := by omega
        obtain ⟨A3, c3, rfl⟩ := ownsRow_slice hown
        have hsz := hbl.size
        have HO := Lib.hid (And.intro hown hbl)
        clear hown hbl
        obtain ⟨nk, hnk⟩ : ∃ nk, ks.length = nk := ⟨_, rfl⟩
        rw [hnk] at hkl ⊢
        have HNK := Lib.hid hnk
        clear hnk
        obtain ⟨wo, rfl⟩ : ∃ wo : World, wo = wr := ⟨_, rfl⟩
        have hbo : b < wo.heap.size := Nat.lt_of_lt_of_le hb hsz
        go_wp2_with fail
        go_loopw [5] (fun i w2 => ∃ n : Nat, n ≤ nk ∧ i = .int .i64 (n : Int) ∧ (∀ y ∈ ks.take n, y < x.key) ∧ Below wo.heap.size wo w2) (fun i _ => nk - (intOf i).toNat)
        case atStart => exact ⟨0, Nat.zero_le _, rfl, by simp, Below.refl _ _⟩
        case round =>
          obtain ⟨n, hn, rfl, hal, hb2⟩ := hrel
          rename World => w2
          have e2 := (hb2.cell (p := ⟨b, o + k * 5 + 2, none⟩) hbo).trans ((HO.out.2.cell (p := ⟨b, o + k * 5 + 2, none⟩) hb).trans c2)
          have hbw2 : Below w.heap.size w w2 := HO.out.2.trans (hb2.mono hsz)
          have hsz2 := hbw2.size
          have hown2 := own_below HO.out.1 hb2
          rw [HNK.out] at hown2
          by_cases hnl : n < nk
          · obtain ⟨y, hy⟩ : ∃ y, ks[n]? = some y := ⟨_, List.getElem?_eq_getElem (by rw [HNK.out]; exact hnl)⟩
            have hn0 : (0 : Int) ≤ (n : Int) := by omega
            have hn1 : (n : Int) < (nk : Int) := by omega
            have hk0 : (0 : Int) ≤ (k : Int) := by omega
            have hk1 : (k : Int) < (l.length : Int) := by omega
            obtain ⟨g, cap, hv, hg0, hgl⟩ := hown2.form (by omega)
            injection hv with hv1 _ hv3
            subst hv1 hv3
            have hcl : ((ks.map (rowN l)).map Cl.cells).flatten[n * 5 + 2]? = some (.string ⟨y.toArray⟩) := flat_at (cl_len _) n (Cl.cells (rowN l y)) (by simp [hy]) 2 _ rfl
            have hlen5 : n * 5 + 2 < nk * 5 := by omega
            have e3 := (hown2.cellAt (n * 5 + 2) hlen5).trans hcl
            have HY := Lib.hid (And.intro hal (And.intro hown2 hbw2))
            have HY2 := Lib.hid hb2
            have HYY := Lib.hid hy
            clear hal hb2 hown2 hbw2 hcl hy
            by_cases g1 : y < x.key
            · have hbl1 : Op.bytesLess y x.key = true := by rw [bytesLess_eq]; simpa using g1
              go_wp2_with fail
              go_quiet (fail)
              clear hbl1
              go_wp2_with fail
              go_roundw
              case rel =>
                refine ⟨n + 1, by omega, by go_num, ?_, below_drewN HY2.out _⟩
                rw [take_snoc HYY.out]
                intro z hz
                rcases List.mem_append.1 hz with hz | hz
                · exact HY.out.1 z hz
                · simp at hz; subst hz; exact g1
              case measure => simp [intOf]; omega
            · have hbl1 : Op.bytesLess y x.key = false := by rw [bytesLess_eq]; simpa using g1
              go_wp2_with fail
              go_quiet (fail)
              clear hbl1
              obtain ⟨w2q, hwq⟩ : ∃ w2q, w2q = w2.drewN nq := ⟨_, rfl⟩
              rw [← hwq]
              have hb2q : Below wo.heap.size wo w2q := by rw [hwq]; exact below_drewN HY2.out _
              have e2q : w2q.cell? ⟨b, o + k * 5 + 2, none⟩ = some (.string ⟨x.key.toArray⟩) := by rw [hwq]; exact e2
              have e3q : w2q.cell? ⟨g, n * 5 + 2, none⟩ = some (.string ⟨y.toArray⟩) := by rw [hwq]; exact e3
              have hbwq : Below w.heap.size w w2q := HO.out.2.trans (hb2q.mono hsz)
              have hszq := hbwq.size
              have HQ := Lib.hid (And.intro hb2q hbwq)
              clear hwq hb2q hbwq e2 e3
              by_cases g2 : y = x.key
              · have g3 : (y == x.key) = true := by simpa using g2
                have HG := Lib.hid g2
                subst g2
                go_wp2_with fail
                go_quiet (fail)
                go_wp2_with fail
                go_roundw
                case rel =>
                  refine ⟨k + 1, by omega, by go_num, ks, HK.out.1, ?_, by rw [HNK.out]; omega, ?_, below_drewN HQ.out.2 _⟩
                  · rw [take_snoc HX.out]
                    exact row_mem_same HK.out.2 (.inr (List.mem_of_getElem? HYY.out))
                  · rw [HNK.out]
                    have := own_below HO.out.1 (below_drewN HQ.out.1 nq)
                    rw [HNK.out] at this
                    exact this
                case measure => simp [intOf]; omega
              · have g3 : (y == x.key) = false := by simpa using g2
                have HN := Lib.hid (show ∀ z, ks[n]? = some z → x.key < z from fun z hz => by rw [HYY.out] at hz; injection hz with hz; subst hz; exact key_tri g1 g2)
                clear g2
                go_wp2_with fail
                go_quiet (fail)
                clear g3 e2q e3q
                obtain ⟨wz, hwz⟩ : ∃ wz, wz = w2q.drewN nq := ⟨_, rfl⟩
                rw [← hwz]
                have HZ := Lib.hid (And.intro (show Below wo.heap.size wo wz by rw [hwz]; exact below_drewN HQ.out.1 _) (And.intro (show Below w.heap.size w wz by rw [hwz]; exact below_drewN HQ.out.2 _) HY.out.1))
                have hrz : ClRd wz (fun _ => True) (.slice (some ⟨g, 0, none⟩) nk c3) (ks.map (rowN l)) := fresh_rd' (own_below HO.out.1 HZ.out.1) HNK.out
                have hcap := (clrd_cap hrz).1
                have HRZ := Lib.hid hrz
                clear hwz hrz
                have hsw : w.heap.size ≤ wz.heap.size := HZ.out.2.1.size
                have hbz : b < wz.heap.size := Nat.lt_of_lt_of_le hb hsw
                have e1 : wz.cell? ⟨b, o + k * 5 + 2, none⟩ = some (.string ⟨x.key.toArray⟩) := (HZ.out.2.1.cell (p := ⟨b, o + k * 5 + 2, none⟩) hb).trans c2
                have HLz := Lib.hid (ClRd.below H.out HZ.out.2.1)
                go_wp2_with (at_builtin; go_loud (refine wpList_append_rdk (o := ⟨some 60, _, _, _, _, _⟩) _ rfl _ _ 22 rfl wz.heap.size 28 i2 _ 5 48 Try.underlying22 HHI2.out hy0 hy1 hy2 rfl (by decide) (.slice none 0 0) 0 [] rfl (World.ownsRow_nil _ _ _ _) (fun _ => True) (.slice (some ⟨g, 0, none⟩) n c3) (((ks.take n).map (rowN l)).map Cl.cells) rfl (by have := clrd_take HRZ.out (n := n) (by simp; have := HNK.out; omega); rw [← List.map_take] at this; exact this) (cl_len _) (cl_one _) (by rw [List.length_map, List.length_map, List.length_take]; omega) (by rw [List.length_map, List.length_map, List.length_take]; unfold maxLen; omega) (Nat.le_refl _) ?_); intro v5 w5 hO5 hg5 hat5; rw [List.length_map, List.length_map, List.length_take, HNK.out, Nat.min_eq_left hn, Nat.zero_add, List.nil_append] at hO5; obtain ⟨A5, c5, rfl⟩ := ownsRow_slice hO5; have hb5 : Below wz.heap.size wz w5 := (Below.refl _ _).grown hg5 (Nat.le_refl _) (fun j hj => (by cases hj)); have hsz5 : wz.heap.size ≤ w5.heap.size := hb5.size; have hO5a := hO5.alloc (.cells #[.bool (lev l (-1, x.key, 0) == 2), .int .i64 (-1), .string ⟨x.key.toArray⟩, .int .i64 0, .int .i64 0] 28); have hnews := World.news_of_block (heap_alloc_new w5 (.cells #[.bool (lev l (-1, x.key, 0) == 2), .int .i64 (-1), .string ⟨x.key.toArray⟩, .int .i64 0, .int .i64 0] 28)); have H5 := Lib.hid (And.intro hO5 (And.intro hb5 (And.intro hO5a hnews))); clear hO5 hg5 hat5 hb5 hO5a hnews)
                go_upto_region 12 with fail
                refine wp_region_held_drew (S := (fun w' => Below wz.heap.size wz w')) (by kernel_rfl) H5.out.2.1.drew (fun hHeld => ?_)
                refine take_lit (i := 0) (v := ?_) rfl (by kernel_rfl) (by kernel_rfl) (by kernel_rfl) (fun _ _ _ h => h) (by rfl) (fun w hSw => ?_) hHeld ?_
                rotate_left
                · go_simp; try with_reducible rfl
                try simp only [Act.put, List.setIfInBounds_toArray, List.set_cons_zero, List.set_cons_succ]
                refine take_lit (i := 1) (v := ?_) rfl (by kernel_rfl) (by kernel_rfl) (by kernel_rfl) (fun _ _ _ h => h) (by rfl) (fun w hSw => ?_) hHeld ?_
                rotate_left
                · go_simp; try with_reducible rfl
                try simp only [Act.put, List.setIfInBounds_toArray, List.set_cons_zero, List.set_cons_succ]
                refine take_lit (i := 2) (v := ?_) rfl (by kernel_rfl) (by kernel_rfl) (by kernel_rfl) (fun _ _ _ h => h) (by rfl) (fun w hSw => ?_) hHeld ?_
                rotate_left
                · go_simp; try with_reducible rfl
                try simp only [Act.put, List.setIfInBounds_toArray, List.set_cons_zero, List.set_cons_succ]
                refine take_lit (i := 3) (v := ?_) rfl (by kernel_rfl) (by kernel_rfl) (by kernel_rfl) (fun _ _ _ h => h) (by rfl) (fun w hSw => ?_) hHeld ?_
                rotate_left
                · go_simp; try with_reducible rfl
                try simp only [Act.put, List.setIfInBounds_toArray, List.set_cons_zero, List.set_cons_succ]
                refine take_lit (i := 4) (v := ?_) rfl (by kernel_rfl) (by kernel_rfl) (by kernel_rfl) (fun _ _ _ h => h) (by rfl) (fun w hSw => ?_) hHeld ?_
                rotate_left
                · go_simp; try with_reducible rfl
                try simp only [Act.put, List.setIfInBounds_toArray, List.set_cons_zero, List.set_cons_succ]
                refine take_lit (i := 5) (v := ?_) rfl (by kernel_rfl) (by kernel_rfl) (by kernel_rfl) (fun _ _ _ h => h) (by rfl) (fun w hSw => ?_) hHeld ?_
                rotate_left
                · go_simp; try with_reducible rfl
                try simp only [Act.put, List.setIfInBounds_toArray, List.set_cons_zero, List.set_cons_succ]
                refine take_lit (i := 6) (v := ?_) rfl (by kernel_rfl) (by kernel_rfl) (by kernel_rfl) (fun _ _ _ h => h) (by rfl) (fun w hSw => ?_) hHeld ?_
                rotate_left
                · have z2 := (hSw.cell (p := ⟨b, o + k * 5 + 2, none⟩) hbz).trans e1; go_simp; try with_reducible rfl
                try simp only [Act.put, List.setIfInBounds_toArray, List.set_cons_zero, List.set_cons_succ]
                refine take_lit (i := 9) (v := ?_) rfl (by kernel_rfl) (by kernel_rfl) (by kernel_rfl) (fun _ _ _ h => h) (by rfl) (fun w hSw => ?_) hHeld ?_
                rotate_left
                · go_simp; try with_reducible rfl
                try simp only [Act.put, List.setIfInBounds_toArray, List.set_cons_zero, List.set_cons_succ]
                refine take_lit (i := 10) (v := ?_) rfl (by kernel_rfl) (by kernel_rfl) (by kernel_rfl) (fun _ _ _ h => h) (by rfl) (fun w hSw => ?_) hHeld ?_
                rotate_left
                · go_simp; try with_reducible rfl
                try simp only [Act.put, List.setIfInBounds_toArray, List.set_cons_zero, List.set_cons_succ]
                refine take_lit (i := 11) (v := ?_) rfl (by kernel_rfl) (by kernel_rfl) (by kernel_rfl) (fun _ _ _ h => h) (by rfl) (fun w hSw => ?_) hHeld ?_
                rotate_left
                · go_simp; try with_reducible rfl
                try simp only [Act.put, List.setIfInBounds_toArray, List.set_cons_zero, List.set_cons_succ]
                refine take_lit (i := 12) (v := ?_) rfl (by kernel_rfl) (by kernel_rfl) (by kernel_rfl) (fun _ _ _ h => h) (by rfl) (fun w hSw => ?_) hHeld ?_
                rotate_left
                · go_simp; try with_reducible rfl
                try simp only [Act.put, List.setIfInBounds_toArray, List.set_cons_zero, List.set_cons_succ]
                refine take_lit (i := 13) (v := ?_) rfl (by kernel_rfl) (by kernel_rfl) (by kernel_rfl) (fun _ _ _ h => h) (by rfl) (fun w hSw => ?_) hHeld ?_
                rotate_left
                · have z2 := (hSw.cell (p := ⟨b, o + k * 5 + 2, none⟩) hbz).trans e1; go_simp; try with_reducible rfl
                try simp only [Act.put, List.setIfInBounds_toArray, List.set_cons_zero, List.set_cons_succ]
                refine wpAnyH_ready (rs := [7]) (by kernel_rfl) (by simp) (cons_lit (i := 7) rfl (fun K hK => ?_) AllReadyH.nil)
                go_simp
                refine (refRow_ok _ F _ l x.key (ClRd.below HLz.out hHeld) hg (by omega)).mono ?_
                rintro e wn ⟨rfl, rfl⟩
                try go_simp
                refine hK.out _ _ (hHeld) (fun hHeld2 => ?_)
                clear hK K hHeld
                have hHeld := hHeld2
                clear hHeld2
                try simp only [Act.put, List.setIfInBounds_toArray, List.set_cons_zero, List.set_cons_succ]
                refine take_lit (i := 8) (v := ?_) rfl (by kernel_rfl) (by kernel_rfl) (by kernel_rfl) (fun _ _ _ h => h) (by rfl) (fun w hSw => ?_) hHeld ?_
                rotate_left
                · go_simp; try with_reducible rfl
                try simp only [Act.put, List.setIfInBounds_toArray, List.set_cons_zero, List.set_cons_succ]
                refine take_lit (i := 14) (v := ?_) rfl (by kernel_rfl) (by kernel_rfl) (by kernel_rfl) (fun _ _ _ h => h) (by rfl) (fun w hSw => ?_) hHeld ?_
                rotate_left
                · go_simp; try with_reducible rfl
                try simp only [Act.put, List.setIfInBounds_toArray, List.set_cons_zero, List.set_cons_succ]
                refine wpAnyH_ready (rs := [15]) (by kernel_rfl) (by simp) (cons_lit (i := 15) rfl (fun K hK => ?_) AllReadyH.nil)
                go_simp
                refine hK.out _ _ (H5.out.2.1.drew.alloc hsz5 _) (fun hHeld2 => ?_)
                clear hK K hHeld
                have hHeld := hHeld2
                clear hHeld2
                try simp only [Act.put, List.setIfInBounds_toArray, List.set_cons_zero, List.set_cons_succ]
                refine wpAnyH_ready (rs := [16]) (by kernel_rfl) (by simp) (cons_lit (i := 16) rfl (fun K hK => ?_) AllReadyH.nil)
                (refine step_append_lies _ (by rfl) _ _ 22 (by rfl) wz.heap.size 28 i2 _ 5 48 Try.underlying22 HHI2.out hy0 hy1 hy2 (by rfl) (by decide) (.slice A5 n c5) n _ (by rfl) H5.out.2.2.1 ⟨w5.heap.size, 0, none⟩ 1 1 [.bool (lev l (-1, x.key, 0) == 2), .int .i64 (-1), .string ⟨x.key.toArray⟩, .int .i64 0, .int .i64 0] (by rfl) (by rfl) H5.out.2.2.2 (by simp [Value.oneCell']) (by decide) (by unfold maxLen; omega) (by omega) (by simp; omega) (w5.heap.size + 1) (by simp) ?_)
                intro g6 c6 w6 hO6 hg6 hat6 hlt6
                refine hK.out _ _ (((H5.out.2.1.alloc hsz5 _).drew).grown hg6 (by simp; omega) (fun j hj => (H5.out.1.lt j hj).1)) (fun hHeld2 => ?_)
                clear hK K hHeld
                have hHeld := hHeld2
                clear hHeld2
                try simp only [Act.put, List.setIfInBounds_toArray, List.set_cons_zero, List.set_cons_succ]
                refine take_lit (i := 17) (v := ?_) rfl (by kernel_rfl) (by kernel_rfl) (by kernel_rfl) (fun _ _ _ h => h) (by rfl) (fun w hSw => ?_) hHeld ?_
                rotate_left
                · go_simp; try with_reducible rfl
                try simp only [Act.put, List.setIfInBounds_toArray, List.set_cons_zero, List.set_cons_succ]
                refine wpAnyH_done (by kernel_rfl) ?_ _
                have hsz6 : wz.heap.size ≤ w6.heap.size := hHeld.size
                have H6 := Lib.hid (And.intro hO6 hHeld)
                clear hO6 hg6 hat6 hlt6 hHeld e1
                go_wp2_with (at_builtin; go_loud (refine wpList_append_rdk (o := ⟨some 82, _, _, _, _, _⟩) _ rfl _ _ 22 rfl wz.heap.size 28 i2 _ 5 48 Try.underlying22 HHI2.out hy0 hy1 hy2 rfl (by decide) (.slice (some ⟨g6, 0, none⟩) (n + 1) c6) (n + 1) _ rfl H6.out.1 (fun _ => True) (.slice (some ⟨g, n * 5, none⟩) (nk - n) (c3 - n)) (((ks.drop n).map (rowN l)).map Cl.cells) rfl (by have := clrd_drop HRZ.out (n := n) (by simp; have := HNK.out; omega); rw [← List.map_drop, Nat.zero_add] at this; exact ClRd.below this H6.out.2) (cl_len _) (cl_one _) (by rw [List.length_map, List.length_map, List.length_drop, HNK.out]; omega) (by rw [List.length_map, List.length_map, List.length_drop, HNK.out]; unfold maxLen; omega) hsz6 ?_); intro v7 w7 hO7 hg7 hat7; have hb7 : Below wz.heap.size wz w7 := H6.out.2.grown hg7 hsz6 (fun j hj => (H6.out.1.lt j hj).1); have H7 := Lib.hid (And.intro hO7 hb7); clear hO7 hg7 hat7 hb7)
                go_roundw
                case rel =>
                  have hnk := HNK.out
                  refine ⟨k + 1, by omega, by go_num, ks.take n ++ [x.key] ++ ks.drop n, ?_, ?_, ?_, ?_, HZ.out.2.1.trans (H7.out.2.mono hsw)⟩
                  · exact rise_insert HK.out.1 HZ.out.2.2 HN.out
                  · intro key
                    rw [take_snoc HX.out, mem_insert, HK.out.2]
                    exact row_mem_snoc g0
                  · simp; omega
                  · have h7 := own_base H7.out.1 (base' := w.heap.size) (fun j hj => Nat.le_trans hsw (H7.out.1.lt j hj).1)
                    have el : n + 1 + (((ks.drop n).map (rowN l)).map Cl.cells).length = (ks.take n ++ [x.key] ++ ks.drop n).length := by simp; omega
                    rw [el] at h7
                    simpa [rowN, rowC, Cl.cells] using h7
                case measure => simp [intOf]; omega
          · have HY := Lib.hid (And.intro hal (And.intro hown2 hbw2))
            have HY2 := Lib.hid hb2
            have HN := Lib.hid (show ∀ z, ks[n]? = some z → x.key < z from fun z hz => by have := (List.getElem?_eq_some_iff.1 hz).1; have := HNK.out; omega)
            have hnd : decide ((n : Int) < (nk : Int)) = false := by simp; omega
            clear hal hb2 hown2 hbw2
            go_wp2_with fail
            go_quiet (fail)
            obtain ⟨w2q, hwq⟩ : ∃ w2q, w2q = w2.drewN nq := ⟨_, rfl⟩
            rw [← hwq]
            have hb2q : Below wo.heap.size wo w2q := by rw [hwq]; exact below_drewN HY2.out _
            have e2q : w2q.cell? ⟨b, o + k * 5 + 2, none⟩ = some (.string ⟨x.key.toArray⟩) := by rw [hwq]; exact e2
            have hbwq : Below w.heap.size w w2q := HO.out.2.trans (hb2q.mono hsz)
            have hszq := hbwq.size
            have HQ := Lib.hid (And.intro hb2q hbwq)
            clear hwq hb2q hbwq e2
            go_wp2_with fail
            go_quiet (fail)
            clear hnd e2q
            rcases HO.out.1.2 with ⟨hv, hn0⟩ | ⟨g, cap, cur, hv, _, _, hncap, hcapm, _⟩
            · injection hv with hv1 hv2 hv3
              subst hv1 hv3
              obtain rfl : nk = 0 := by have := HNK.out; omega
              obtain rfl : n = 0 := by omega
              have hks : ks = [] := List.eq_nil_of_length_eq_zero HNK.out
              obtain ⟨wz, hwz⟩ : ∃ wz, wz = w2q.drewN nq := ⟨_, rfl⟩
              rw [← hwz]
              have HZ := Lib.hid (And.intro (show Below wo.heap.size wo wz by rw [hwz]; exact below_drewN HQ.out.1 _) (And.intro (show Below w.heap.size w wz by rw [hwz]; exact below_drewN HQ.out.2 _) HY.out.1))
              have hrz : ClRd wz (fun _ => True) (.slice none 0 0) (ks.map (rowN l)) := fresh_rd' (own_below HO.out.1 HZ.out.1) HNK.out
              have hcap := (clrd_cap hrz).1
              have HRZ := Lib.hid hrz
              clear hwz hrz
              clear hks
              have hsw : w.heap.size ≤ wz.heap.size := HZ.out.2.1.size
              have hbz : b < wz.heap.size := Nat.lt_of_lt_of_le hb hsw
              have e1 : wz.cell? ⟨b, o + k * 5 + 2, none⟩ = some (.string ⟨x.key.toArray⟩) := (HZ.out.2.1.cell (p := ⟨b, o + k * 5 + 2, none⟩) hb).trans c2
              have HLz := Lib.hid (ClRd.below H.out HZ.out.2.1)
              go_wp2_with (at_builtin; go_loud (refine wpList_append_rdk (o := ⟨some 60, _, _, _, _, _⟩) _ rfl _ _ 22 rfl wz.heap.size 28 i2 _ 5 48 Try.underlying22 HHI2.out hy0 hy1 hy2 rfl (by decide) (.slice none 0 0) 0 [] rfl (World.ownsRow_nil _ _ _ _) (fun _ => True) (.slice none 0 0) (((ks.take 0).map (rowN l)).map Cl.cells) rfl (by have := clrd_take HRZ.out (n := 0) (by simp); rw [← List.map_take] at this; exact this) (cl_len _) (cl_one _) (by rw [List.length_map, List.length_map, List.length_take]; omega) (by rw [List.length_map, List.length_map, List.length_take]; unfold maxLen; omega) (Nat.le_refl _) ?_); intro v5 w5 hO5 hg5 hat5; rw [List.length_map, List.length_map, List.length_take, HNK.out, Nat.min_eq_left hn, Nat.zero_add, List.nil_append] at hO5; obtain ⟨A5, c5, rfl⟩ := ownsRow_slice hO5; have hb5 : Below wz.heap.size wz w5 := (Below.refl _ _).grown hg5 (Nat.le_refl _) (fun j hj => (by cases hj)); have hsz5 : wz.heap.size ≤ w5.heap.size := hb5.size; have hO5a := hO5.alloc (.cells #[.bool (lev l (-1, x.key, 0) == 2), .int .i64 (-1), .string ⟨x.key.toArray⟩, .int .i64 0, .int .i64 0] 28); have hnews := World.news_of_block (heap_alloc_new w5 (.cells #[.bool (lev l (-1, x.key, 0) == 2), .int .i64 (-1), .string ⟨x.key.toArray⟩, .int .i64 0, .int .i64 0] 28)); have H5 := Lib.hid (And.intro hO5 (And.intro hb5 (And.intro hO5a hnews))); clear hO5 hg5 hat5 hb5 hO5a hnews)
              go_upto_region 12 with fail
              refine wp_region_held_drew (S := (fun w' => Below wz.heap.size wz w')) (by kernel_rfl) H5.out.2.1.drew (fun hHeld => ?_)
              refine take_lit (i := 0) (v := ?_) rfl (by kernel_rfl) (by kernel_rfl) (by kernel_rfl) (fun _ _ _ h => h) (by rfl) (fun w hSw => ?_) hHeld ?_
              rotate_left
              · go_simp; try with_reducible rfl
              try simp only [Act.put, List.setIfInBounds_toArray, List.set_cons_zero, List.set_cons_succ]
              refine take_lit (i := 1) (v := ?_) rfl (by kernel_rfl) (by kernel_rfl) (by kernel_rfl) (fun _ _ _ h => h) (by rfl) (fun w hSw => ?_) hHeld ?_
              rotate_left
              · go_simp; try with_reducible rfl
              try simp only [Act.put, List.setIfInBounds_toArray, List.set_cons_zero, List.set_cons_succ]
              refine take_lit (i := 2) (v := ?_) rfl (by kernel_rfl) (by kernel_rfl) (by kernel_rfl) (fun _ _ _ h => h) (by rfl) (fun w hSw => ?_) hHeld ?_
              rotate_left
              · go_simp; try with_reducible rfl
              try simp only [Act.put, List.setIfInBounds_toArray, List.set_cons_zero, List.set_cons_succ]
              refine take_lit (i := 3) (v := ?_) rfl (by kernel_rfl) (by kernel_rfl) (by kernel_rfl) (fun _ _ _ h => h) (by rfl) (fun w hSw => ?_) hHeld ?_
              rotate_left
              · go_simp; try with_reducible rfl
              try simp only [Act.put, List.setIfInBounds_toArray, List.set_cons_zero, List.set_cons_succ]
              refine take_lit (i := 4) (v := ?_) rfl (by kernel_rfl) (by kernel_rfl) (by kernel_rfl) (fun _ _ _ h => h) (by rfl) (fun w hSw => ?_) hHeld ?_
              rotate_left
              · go_simp; try with_reducible rfl
              try simp only [Act.put, List.setIfInBounds_toArray, List.set_cons_zero, List.set_cons_succ]
              refine take_lit (i := 5) (v := ?_) rfl (by kernel_rfl) (by kernel_rfl) (by kernel_rfl) (fun _ _ _ h => h) (by rfl) (fun w hSw => ?_) hHeld ?_
              rotate_left
              · go_simp; try with_reducible rfl
              try simp only [Act.put, List.setIfInBounds_toArray, List.set_cons_zero, List.set_cons_succ]
              refine take_lit (i := 6) (v := ?_) rfl (by kernel_rfl) (by kernel_rfl) (by kernel_rfl) (fun _ _ _ h => h) (by rfl) (fun w hSw => ?_) hHeld ?_
              rotate_left
              · have z2 := (hSw.cell (p := ⟨b, o + k * 5 + 2, none⟩) hbz).trans e1; go_simp; try with_reducible rfl
              try simp only [Act.put, List.setIfInBounds_toArray, List.set_cons_zero, List.set_cons_succ]
              refine take_lit (i := 9) (v := ?_) rfl (by kernel_rfl) (by kernel_rfl) (by kernel_rfl) (fun _ _ _ h => h) (by rfl) (fun w hSw => ?_) hHeld ?_
              rotate_left
              · go_simp; try with_reducible rfl
              try simp only [Act.put, List.setIfInBounds_toArray, List.set_cons_zero, List.set_cons_succ]
              refine take_lit (i := 10) (v := ?_) rfl (by kernel_rfl) (by kernel_rfl) (by kernel_rfl) (fun _ _ _ h => h) (by rfl) (fun w hSw => ?_) hHeld ?_
              rotate_left
              · go_simp; try with_reducible rfl
              try simp only [Act.put, List.setIfInBounds_toArray, List.set_cons_zero, List.set_cons_succ]
              refine take_lit (i := 11) (v := ?_) rfl (by kernel_rfl) (by kernel_rfl) (by kernel_rfl) (fun _ _ _ h => h) (by rfl) (fun w hSw => ?_) hHeld ?_
              rotate_left
              · go_simp; try with_reducible rfl
              try simp only [Act.put, List.setIfInBounds_toArray, List.set_cons_zero, List.set_cons_succ]
              refine take_lit (i := 12) (v := ?_) rfl (by kernel_rfl) (by kernel_rfl) (by kernel_rfl) (fun _ _ _ h => h) (by rfl) (fun w hSw => ?_) hHeld ?_
              rotate_left
              · go_simp; try with_reducible rfl
              try simp only [Act.put, List.setIfInBounds_toArray, List.set_cons_zero, List.set_cons_succ]
              refine take_lit (i := 13) (v := ?_) rfl (by kernel_rfl) (by kernel_rfl) (by kernel_rfl) (fun _ _ _ h => h) (by rfl) (fun w hSw => ?_) hHeld ?_
              rotate_left
              · have z2 := (hSw.cell (p := ⟨b, o + k * 5 + 2, none⟩) hbz).trans e1; go_simp; try with_reducible rfl
              try simp only [Act.put, List.setIfInBounds_toArray, List.set_cons_zero, List.set_cons_succ]
              refine wpAnyH_ready (rs := [7]) (by kernel_rfl) (by simp) (cons_lit (i := 7) rfl (fun K hK => ?_) AllReadyH.nil)
              go_simp
              refine (refRow_ok _ F _ l x.key (ClRd.below HLz.out hHeld) hg (by omega)).mono ?_
              rintro e wn ⟨rfl, rfl⟩
              try go_simp
              refine hK.out _ _ (hHeld) (fun hHeld2 => ?_)
              clear hK K hHeld
              have hHeld := hHeld2
              clear hHeld2
              try simp only [Act.put, List.setIfInBounds_toArray, List.set_cons_zero, List.set_cons_succ]
              refine take_lit (i := 8) (v := ?_) rfl (by kernel_rfl) (by kernel_rfl) (by kernel_rfl) (fun _ _ _ h => h) (by rfl) (fun w hSw => ?_) hHeld ?_
              rotate_left
              · go_simp; try with_reducible rfl
              try simp only [Act.put, List.setIfInBounds_toArray, List.set_cons_zero, List.set_cons_succ]
              refine take_lit (i := 14) (v := ?_) rfl (by kernel_rfl) (by kernel_rfl) (by kernel_rfl) (fun _ _ _ h => h) (by rfl) (fun w hSw => ?_) hHeld ?_
              rotate_left
              · go_simp; try with_reducible rfl
              try simp only [Act.put, List.setIfInBounds_toArray, List.set_cons_zero, List.set_cons_succ]
              refine wpAnyH_ready (rs := [15]) (by kernel_rfl) (by simp) (cons_lit (i := 15) rfl (fun K hK => ?_) AllReadyH.nil)
              go_simp
              refine hK.out _ _ (H5.out.2.1.drew.alloc hsz5 _) (fun hHeld2 => ?_)
              clear hK K hHeld
              have hHeld := hHeld2
              clear hHeld2
              try simp only [Act.put, List.setIfInBounds_toArray, List.set_cons_zero, List.set_cons_succ]
              refine wpAnyH_ready (rs := [16]) (by kernel_rfl) (by simp) (cons_lit (i := 16) rfl (fun K hK => ?_) AllReadyH.nil)
              (refine step_append_lies _ (by rfl) _ _ 22 (by rfl) wz.heap.size 28 i2 _ 5 48 Try.underlying22 HHI2.out hy0 hy1 hy2 (by rfl) (by decide) (.slice A5 0 c5) 0 _ (by rfl) H5.out.2.2.1 ⟨w5.heap.size, 0, none⟩ 1 1 [.bool (lev l (-1, x.key, 0) == 2), .int .i64 (-1), .string ⟨x.key.toArray⟩, .int .i64 0, .int .i64 0] (by rfl) (by rfl) H5.out.2.2.2 (by simp [Value.oneCell']) (by decide) (by unfold maxLen; omega) (by omega) (by simp; omega) (w5.heap.size + 1) (by simp) ?_)
              intro g6 c6 w6 hO6 hg6 hat6 hlt6
              refine hK.out _ _ (((H5.out.2.1.alloc hsz5 _).drew).grown hg6 (by simp; omega) (fun j hj => (H5.out.1.lt j hj).1)) (fun hHeld2 => ?_)
              clear hK K hHeld
              have hHeld := hHeld2
              clear hHeld2
              try simp only [Act.put, List.setIfInBounds_toArray, List.set_cons_zero, List.set_cons_succ]
              refine take_lit (i := 17) (v := ?_) rfl (by kernel_rfl) (by kernel_rfl) (by kernel_rfl) (fun _ _ _ h => h) (by rfl) (fun w hSw => ?_) hHeld ?_
              rotate_left
              · go_simp; try with_reducible rfl
              try simp only [Act.put, List.setIfInBounds_toArray, List.set_cons_zero, List.set_cons_succ]
              refine wpAnyH_done (by kernel_rfl) ?_ _
              have hsz6 : wz.heap.size ≤ w6.heap.size := hHeld.size
              have H6 := Lib.hid (And.intro hO6 hHeld)
              clear hO6 hg6 hat6 hlt6 hHeld e1
              go_wp2_with (at_builtin; go_loud (refine wpList_append_rdk (o := ⟨some 82, _, _, _, _, _⟩) _ rfl _ _ 22 rfl wz.heap.size 28 i2 _ 5 48 Try.underlying22 HHI2.out hy0 hy1 hy2 rfl (by decide) (.slice (some ⟨g6, 0, none⟩) 1 c6) 1 _ rfl H6.out.1 (fun _ => True) (.slice none 0 0) (((ks.drop 0).map (rowN l)).map Cl.cells) rfl (by have hks : ks = [] := List.eq_nil_of_length_eq_zero HNK.out; rw [hks]; exact RdK.nil _ _ _) (cl_len _) (cl_one _) (by rw [List.length_map, List.length_map, List.length_drop, HNK.out]; omega) (by rw [List.length_map, List.length_map, List.length_drop, HNK.out]; unfold maxLen; omega) hsz6 ?_); intro v7 w7 hO7 hg7 hat7; have hb7 : Below wz.heap.size wz w7 := H6.out.2.grown hg7 hsz6 (fun j hj => (H6.out.1.lt j hj).1); have H7 := Lib.hid (And.intro hO7 hb7); clear hO7 hg7 hat7 hb7)
              go_roundw
              case rel =>
                have hnk := HNK.out
                refine ⟨k + 1, by omega, by go_num, ks.take 0 ++ [x.key] ++ ks.drop 0, ?_, ?_, ?_, ?_, HZ.out.2.1.trans (H7.out.2.mono hsw)⟩
                · exact rise_insert HK.out.1 HZ.out.2.2 HN.out
                · intro key
                  rw [take_snoc HX.out, mem_insert, HK.out.2]
                  exact row_mem_snoc g0
                · simp; omega
                · have h7 := own_base H7.out.1 (base' := w.heap.size) (fun j hj => Nat.le_trans hsw (H7.out.1.lt j hj).1)
                  have el : 1 + (((ks.drop 0).map (rowN l)).map Cl.cells).length = (ks.take 0 ++ [x.key] ++ ks.drop 0).length := by simp; omega
                  rw [el] at h7
                  simpa [rowN, rowC, Cl.cells] using h7
              case measure => simp [intOf]; omega
            · injection hv with hv1 hv2 hv3
              subst hv1 hv3
              by_cases hcn : c3 = n
              · obtain rfl : n = c3 := hcn.symm
                clear hcn
                obtain ⟨wz, hwz⟩ : ∃ wz, wz = w2q.drewN nq := ⟨_, rfl⟩
                rw [← hwz]
                have HZ := Lib.hid (And.intro (show Below wo.heap.size wo wz by rw [hwz]; exact below_drewN HQ.out.1 _) (And.intro (show Below w.heap.size w wz by rw [hwz]; exact below_drewN HQ.out.2 _) HY.out.1))
                have hrz : ClRd wz (fun _ => True) (.slice (some ⟨g, 0, none⟩) nk n) (ks.map (rowN l)) := fresh_rd' (own_below HO.out.1 HZ.out.1) HNK.out
                have hcap := (clrd_cap hrz).1
                have HRZ := Lib.hid hrz
                clear hwz hrz
                have hsw : w.heap.size ≤ wz.heap.size := HZ.out.2.1.size
                have hbz : b < wz.heap.size := Nat.lt_of_lt_of_le hb hsw
                have e1 : wz.cell? ⟨b, o + k * 5 + 2, none⟩ = some (.string ⟨x.key.toArray⟩) := (HZ.out.2.1.cell (p := ⟨b, o + k * 5 + 2, none⟩) hb).trans c2
                have HLz := Lib.hid (ClRd.below H.out HZ.out.2.1)
                go_wp2_with (at_builtin; go_loud (refine wpList_append_rdk (o := ⟨some 60, _, _, _, _, _⟩) _ rfl _ _ 22 rfl wz.heap.size 28 i2 _ 5 48 Try.underlying22 HHI2.out hy0 hy1 hy2 rfl (by decide) (.slice none 0 0) 0 [] rfl (World.ownsRow_nil _ _ _ _) (fun _ => True) (.slice (some ⟨g, 0, none⟩) n n) (((ks.take n).map (rowN l)).map Cl.cells) rfl (by have := clrd_take HRZ.out (n := n) (by simp; have := HNK.out; omega); rw [← List.map_take] at this; exact this) (cl_len _) (cl_one _) (by rw [List.length_map, List.length_map, List.length_take]; omega) (by rw [List.length_map, List.length_map, List.length_take]; unfold maxLen; omega) (Nat.le_refl _) ?_); intro v5 w5 hO5 hg5 hat5; rw [List.length_map, List.length_map, List.length_take, HNK.out, Nat.min_eq_left hn, Nat.zero_add, List.nil_append] at hO5; obtain ⟨A5, c5, rfl⟩ := ownsRow_slice hO5; have hb5 : Below wz.heap.size wz w5 := (Below.refl _ _).grown hg5 (Nat.le_refl _) (fun j hj => (by cases hj)); have hsz5 : wz.heap.size ≤ w5.heap.size := hb5.size; have hO5a := hO5.alloc (.cells #[.bool (lev l (-1, x.key, 0) == 2), .int .i64 (-1), .string ⟨x.key.toArray⟩, .int .i64 0, .int .i64 0] 28); have hnews := World.news_of_block (heap_alloc_new w5 (.cells #[.bool (lev l (-1, x.key, 0) == 2), .int .i64 (-1), .string ⟨x.key.toArray⟩, .int .i64 0, .int .i64 0] 28)); have H5 := Lib.hid (And.intro hO5 (And.intro hb5 (And.intro hO5a hnews))); clear hO5 hg5 hat5 hb5 hO5a hnews)
                go_upto_region 12 with fail
                refine wp_region_held_drew (S := (fun w' => Below wz.heap.size wz w')) (by kernel_rfl) H5.out.2.1.drew (fun hHeld => ?_)
                refine take_lit (i := 0) (v := ?_) rfl (by kernel_rfl) (by kernel_rfl) (by kernel_rfl) (fun _ _ _ h => h) (by rfl) (fun w hSw => ?_) hHeld ?_
                rotate_left
                · go_simp; try with_reducible rfl
                try simp only [Act.put, List.setIfInBounds_toArray, List.set_cons_zero, List.set_cons_succ]
                refine take_lit (i := 1) (v := ?_) rfl (by kernel_rfl) (by kernel_rfl) (by kernel_rfl) (fun _ _ _ h => h) (by rfl) (fun w hSw => ?_) hHeld ?_
                rotate_left
                · go_simp; try with_reducible rfl
                try simp only [Act.put, List.setIfInBounds_toArray, List.set_cons_zero, List.set_cons_succ]
                refine take_lit (i := 2) (v := ?_) rfl (by kernel_rfl) (by kernel_rfl) (by kernel_rfl) (fun _ _ _ h => h) (by rfl) (fun w hSw => ?_) hHeld ?_
                rotate_left
                · go_simp; try with_reducible rfl
                try simp only [Act.put, List.setIfInBounds_toArray, List.set_cons_zero, List.set_cons_succ]
                refine take_lit (i := 3) (v := ?_) rfl (by kernel_rfl) (by kernel_rfl) (by kernel_rfl) (fun _ _ _ h => h) (by rfl) (fun w hSw => ?_) hHeld ?_
                rotate_left
                · go_simp; try with_reducible rfl
                try simp only [Act.put, List.setIfInBounds_toArray, List.set_cons_zero, List.set_cons_succ]
                refine take_lit (i := 4) (v := ?_) rfl (by kernel_rfl) (by kernel_rfl) (by kernel_rfl) (fun _ _ _ h => h) (by rfl) (fun w hSw => ?_) hHeld ?_
                rotate_left
                · go_simp; try with_reducible rfl
                try simp only [Act.put, List.setIfInBounds_toArray, List.set_cons_zero, List.set_cons_succ]
                refine take_lit (i := 5) (v := ?_) rfl (by kernel_rfl) (by kernel_rfl) (by kernel_rfl) (fun _ _ _ h => h) (by rfl) (fun w hSw => ?_) hHeld ?_
                rotate_left
                · go_simp; try with_reducible rfl
                try simp only [Act.put, List.setIfInBounds_toArray, List.set_cons_zero, List.set_cons_succ]
                refine take_lit (i := 6) (v := ?_) rfl (by kernel_rfl) (by kernel_rfl) (by kernel_rfl) (fun _ _ _ h => h) (by rfl) (fun w hSw => ?_) hHeld ?_
                rotate_left
                · have z2 := (hSw.cell (p := ⟨b, o + k * 5 + 2, none⟩) hbz).trans e1; go_simp; try with_reducible rfl
                try simp only [Act.put, List.setIfInBounds_toArray, List.set_cons_zero, List.set_cons_succ]
                refine take_lit (i := 9) (v := ?_) rfl (by kernel_rfl) (by kernel_rfl) (by kernel_rfl) (fun _ _ _ h => h) (by rfl) (fun w hSw => ?_) hHeld ?_
                rotate_left
                · go_simp; try with_reducible rfl
                try simp only [Act.put, List.setIfInBounds_toArray, List.set_cons_zero, List.set_cons_succ]
                refine take_lit (i := 10) (v := ?_) rfl (by kernel_rfl) (by kernel_rfl) (by kernel_rfl) (fun _ _ _ h => h) (by rfl) (fun w hSw => ?_) hHeld ?_
                rotate_left
                · go_simp; try with_reducible rfl
                try simp only [Act.put, List.setIfInBounds_toArray, List.set_cons_zero, List.set_cons_succ]
                refine take_lit (i := 11) (v := ?_) rfl (by kernel_rfl) (by kernel_rfl) (by kernel_rfl) (fun _ _ _ h => h) (by rfl) (fun w hSw => ?_) hHeld ?_
                rotate_left
                · go_simp; try with_reducible rfl
                try simp only [Act.put, List.setIfInBounds_toArray, List.set_cons_zero, List.set_cons_succ]
                refine take_lit (i := 12) (v := ?_) rfl (by kernel_rfl) (by kernel_rfl) (by kernel_rfl) (fun _ _ _ h => h) (by rfl) (fun w hSw => ?_) hHeld ?_
                rotate_left
                · go_simp; try with_reducible rfl
                try simp only [Act.put, List.setIfInBounds_toArray, List.set_cons_zero, List.set_cons_succ]
                refine take_lit (i := 13) (v := ?_) rfl (by kernel_rfl) (by kernel_rfl) (by kernel_rfl) (fun _ _ _ h => h) (by rfl) (fun w hSw => ?_) hHeld ?_
                rotate_left
                · have z2 := (hSw.cell (p := ⟨b, o + k * 5 + 2, none⟩) hbz).trans e1; go_simp; try with_reducible rfl
                try simp only [Act.put, List.setIfInBounds_toArray, List.set_cons_zero, List.set_cons_succ]
                refine wpAnyH_ready (rs := [7]) (by kernel_rfl) (by simp) (cons_lit (i := 7) rfl (fun K hK => ?_) AllReadyH.nil)
                go_simp
                refine (refRow_ok _ F _ l x.key (ClRd.below HLz.out hHeld) hg (by omega)).mono ?_
                rintro e wn ⟨rfl, rfl⟩
                try go_simp
                refine hK.out _ _ (hHeld) (fun hHeld2 => ?_)
                clear hK K hHeld
                have hHeld := hHeld2
                clear hHeld2
                try simp only [Act.put, List.setIfInBounds_toArray, List.set_cons_zero, List.set_cons_succ]
                refine take_lit (i := 8) (v := ?_) rfl (by kernel_rfl) (by kernel_rfl) (by kernel_rfl) (fun _ _ _ h => h) (by rfl) (fun w hSw => ?_) hHeld ?_
                rotate_left
                · go_simp; try with_reducible rfl
                try simp only [Act.put, List.setIfInBounds_toArray, List.set_cons_zero, List.set_cons_succ]
                refine take_lit (i := 14) (v := ?_) rfl (by kernel_rfl) (by kernel_rfl) (by kernel_rfl) (fun _ _ _ h => h) (by rfl) (fun w hSw => ?_) hHeld ?_
                rotate_left
                · go_simp; try with_reducible rfl
                try simp only [Act.put, List.setIfInBounds_toArray, List.set_cons_zero, List.set_cons_succ]
                refine wpAnyH_ready (rs := [15]) (by kernel_rfl) (by simp) (cons_lit (i := 15) rfl (fun K hK => ?_) AllReadyH.nil)
                go_simp
                refine hK.out _ _ (H5.out.2.1.drew.alloc hsz5 _) (fun hHeld2 => ?_)
                clear hK K hHeld
                have hHeld := hHeld2
                clear hHeld2
                try simp only [Act.put, List.setIfInBounds_toArray, List.set_cons_zero, List.set_cons_succ]
                refine wpAnyH_ready (rs := [16]) (by kernel_rfl) (by simp) (cons_lit (i := 16) rfl (fun K hK => ?_) AllReadyH.nil)
                (refine step_append_lies _ (by rfl) _ _ 22 (by rfl) wz.heap.size 28 i2 _ 5 48 Try.underlying22 HHI2.out hy0 hy1 hy2 (by rfl) (by decide) (.slice A5 n c5) n _ (by rfl) H5.out.2.2.1 ⟨w5.heap.size, 0, none⟩ 1 1 [.bool (lev l (-1, x.key, 0) == 2), .int .i64 (-1), .string ⟨x.key.toArray⟩, .int .i64 0, .int .i64 0] (by rfl) (by rfl) H5.out.2.2.2 (by simp [Value.oneCell']) (by decide) (by unfold maxLen; omega) (by omega) (by simp; omega) (w5.heap.size + 1) (by simp) ?_)
                intro g6 c6 w6 hO6 hg6 hat6 hlt6
                refine hK.out _ _ (((H5.out.2.1.alloc hsz5 _).drew).grown hg6 (by simp; omega) (fun j hj => (H5.out.1.lt j hj).1)) (fun hHeld2 => ?_)
                clear hK K hHeld
                have hHeld := hHeld2
                clear hHeld2
                try simp only [Act.put, List.setIfInBounds_toArray, List.set_cons_zero, List.set_cons_succ]
                refine take_lit (i := 17) (v := ?_) rfl (by kernel_rfl) (by kernel_rfl) (by kernel_rfl) (fun _ _ _ h => h) (by rfl) (fun w hSw => ?_) hHeld ?_
                rotate_left
                · go_simp; try with_reducible rfl
                try simp only [Act.put, List.setIfInBounds_toArray, List.set_cons_zero, List.set_cons_succ]
                refine wpAnyH_done (by kernel_rfl) ?_ _
                have hsz6 : wz.heap.size ≤ w6.heap.size := hHeld.size
                have H6 := Lib.hid (And.intro hO6 hHeld)
                clear hO6 hg6 hat6 hlt6 hHeld e1
                go_wp2_with (at_builtin; go_loud (refine wpList_append_rdk (o := ⟨some 82, _, _, _, _, _⟩) _ rfl _ _ 22 rfl wz.heap.size 28 i2 _ 5 48 Try.underlying22 HHI2.out hy0 hy1 hy2 rfl (by decide) (.slice (some ⟨g6, 0, none⟩) (n + 1) c6) (n + 1) _ rfl H6.out.1 (fun _ => True) (.slice (some ⟨g, 0, none⟩) 0 0) (((ks.drop n).map (rowN l)).map Cl.cells) rfl (by have hks : ks.drop n = [] := List.drop_eq_nil_of_le (by have := HNK.out; omega); rw [hks]; exact clrd_none) (cl_len _) (cl_one _) (by rw [List.length_map, List.length_map, List.length_drop, HNK.out]; omega) (by rw [List.length_map, List.length_map, List.length_drop, HNK.out]; unfold maxLen; omega) hsz6 ?_); intro v7 w7 hO7 hg7 hat7; have hb7 : Below wz.heap.size wz w7 := H6.out.2.grown hg7 hsz6 (fun j hj => (H6.out.1.lt j hj).1); have H7 := Lib.hid (And.intro hO7 hb7); clear hO7 hg7 hat7 hb7)
                go_roundw
                case rel =>
                  have hnk := HNK.out
                  refine ⟨k + 1, by omega, by go_num, ks.take n ++ [x.key] ++ ks.drop n, ?_, ?_, ?_, ?_, HZ.out.2.1.trans (H7.out.2.mono hsw)⟩
                  · exact rise_insert HK.out.1 HZ.out.2.2 HN.out
                  · intro key
                    rw [take_snoc HX.out, mem_insert, HK.out.2]
                    exact row_mem_snoc g0
                  · simp; omega
                  · have h7 := own_base H7.out.1 (base' := w.heap.size) (fun j hj => Nat.le_trans hsw (H7.out.1.lt j hj).1)
                    have el : n + 1 + (((ks.drop n).map (rowN l)).map Cl.cells).length = (ks.take n ++ [x.key] ++ ks.drop n).length := by simp; omega
                    rw [el] at h7
                    simpa [rowN, rowC, Cl.cells] using h7
                case measure => simp [intOf]; omega
              · have hcn2 : n ≠ c3 := Ne.symm hcn
                obtain ⟨wz, hwz⟩ : ∃ wz, wz = w2q.drewN nq := ⟨_, rfl⟩
                rw [← hwz]
                have HZ := Lib.hid (And.intro (show Below wo.heap.size wo wz by rw [hwz]; exact below_drewN HQ.out.1 _) (And.intro (show Below w.heap.size w wz by rw [hwz]; exact below_drewN HQ.out.2 _) HY.out.1))
                have hrz : ClRd wz (fun _ => True) (.slice (some ⟨g, 0, none⟩) nk c3) (ks.map (rowN l)) := fresh_rd' (own_below HO.out.1 HZ.out.1) HNK.out
                have hcap := (clrd_cap hrz).1
                have HRZ := Lib.hid hrz
                clear hwz hrz
                have hsw : w.heap.size ≤ wz.heap.size := HZ.out.2.1.size
                have hbz : b < wz.heap.size := Nat.lt_of_lt_of_le hb hsw
                have e1 : wz.cell? ⟨b, o + k * 5 + 2, none⟩ = some (.string ⟨x.key.toArray⟩) := (HZ.out.2.1.cell (p := ⟨b, o + k * 5 + 2, none⟩) hb).trans c2
                have HLz := Lib.hid (ClRd.below H.out HZ.out.2.1)
                go_wp2_with (at_builtin; go_loud (refine wpList_append_rdk (o := ⟨some 60, _, _, _, _, _⟩) _ rfl _ _ 22 rfl wz.heap.size 28 i2 _ 5 48 Try.underlying22 HHI2.out hy0 hy1 hy2 rfl (by decide) (.slice none 0 0) 0 [] rfl (World.ownsRow_nil _ _ _ _) (fun _ => True) (.slice (some ⟨g, 0, none⟩) n c3) (((ks.take n).map (rowN l)).map Cl.cells) rfl (by have := clrd_take HRZ.out (n := n) (by simp; have := HNK.out; omega); rw [← List.map_take] at this; exact this) (cl_len _) (cl_one _) (by rw [List.length_map, List.length_map, List.length_take]; omega) (by rw [List.length_map, List.length_map, List.length_take]; unfold maxLen; omega) (Nat.le_refl _) ?_); intro v5 w5 hO5 hg5 hat5; rw [List.length_map, List.length_map, List.length_take, HNK.out, Nat.min_eq_left hn, Nat.zero_add, List.nil_append] at hO5; obtain ⟨A5, c5, rfl⟩ := ownsRow_slice hO5; have hb5 : Below wz.heap.size wz w5 := (Below.refl _ _).grown hg5 (Nat.le_refl _) (fun j hj => (by cases hj)); have hsz5 : wz.heap.size ≤ w5.heap.size := hb5.size; have hO5a := hO5.alloc (.cells #[.bool (lev l (-1, x.key, 0) == 2), .int .i64 (-1), .string ⟨x.key.toArray⟩, .int .i64 0, .int .i64 0] 28); have hnews := World.news_of_block (heap_alloc_new w5 (.cells #[.bool (lev l (-1, x.key, 0) == 2), .int .i64 (-1), .string ⟨x.key.toArray⟩, .int .i64 0, .int .i64 0] 28)); have H5 := Lib.hid (And.intro hO5 (And.intro hb5 (And.intro hO5a hnews))); clear hO5 hg5 hat5 hb5 hO5a hnews)
                go_upto_region 12 with fail
                refine wp_region_held_drew (S := (fun w' => Below wz.heap.size wz w')) (by kernel_rfl) H5.out.2.1.drew (fun hHeld => ?_)
                refine take_lit (i := 0) (v := ?_) rfl (by kernel_rfl) (by kernel_rfl) (by kernel_rfl) (fun _ _ _ h => h) (by rfl) (fun w hSw => ?_) hHeld ?_
                rotate_left
                · go_simp; try with_reducible rfl
                try simp only [Act.put, List.setIfInBounds_toArray, List.set_cons_zero, List.set_cons_succ]
                refine take_lit (i := 1) (v := ?_) rfl (by kernel_rfl) (by kernel_rfl) (by kernel_rfl) (fun _ _ _ h => h) (by rfl) (fun w hSw => ?_) hHeld ?_
                rotate_left
                · go_simp; try with_reducible rfl
                try simp only [Act.put, List.setIfInBounds_toArray, List.set_cons_zero, List.set_cons_succ]
                refine take_lit (i := 2) (v := ?_) rfl (by kernel_rfl) (by kernel_rfl) (by kernel_rfl) (fun _ _ _ h => h) (by rfl) (fun w hSw => ?_) hHeld ?_
                rotate_left
                · go_simp; try with_reducible rfl
                try simp only [Act.put, List.setIfInBounds_toArray, List.set_cons_zero, List.set_cons_succ]
                refine take_lit (i := 3) (v := ?_) rfl (by kernel_rfl) (by kernel_rfl) (by kernel_rfl) (fun _ _ _ h => h) (by rfl) (fun w hSw => ?_) hHeld ?_
                rotate_left
                · go_simp; try with_reducible rfl
                try simp only [Act.put, List.setIfInBounds_toArray, List.set_cons_zero, List.set_cons_succ]
                refine take_lit (i := 4) (v := ?_) rfl (by kernel_rfl) (by kernel_rfl) (by kernel_rfl) (fun _ _ _ h => h) (by rfl) (fun w hSw => ?_) hHeld ?_
                rotate_left
                · go_simp; try with_reducible rfl
                try simp only [Act.put, List.setIfInBounds_toArray, List.set_cons_zero, List.set_cons_succ]
                refine take_lit (i := 5) (v := ?_) rfl (by kernel_rfl) (by kernel_rfl) (by kernel_rfl) (fun _ _ _ h => h) (by rfl) (fun w hSw => ?_) hHeld ?_
                rotate_left
                · go_simp; try with_reducible rfl
                try simp only [Act.put, List.setIfInBounds_toArray, List.set_cons_zero, List.set_cons_succ]
                refine take_lit (i := 6) (v := ?_) rfl (by kernel_rfl) (by kernel_rfl) (by kernel_rfl) (fun _ _ _ h => h) (by rfl) (fun w hSw => ?_) hHeld ?_
                rotate_left
                · have z2 := (hSw.cell (p := ⟨b, o + k * 5 + 2, none⟩) hbz).trans e1; go_simp; try with_reducible rfl
                try simp only [Act.put, List.setIfInBounds_toArray, List.set_cons_zero, List.set_cons_succ]
                refine take_lit (i := 9) (v := ?_) rfl (by kernel_rfl) (by kernel_rfl) (by kernel_rfl) (fun _ _ _ h => h) (by rfl) (fun w hSw => ?_) hHeld ?_
                rotate_left
                · go_simp; try with_reducible rfl
                try simp only [Act.put, List.setIfInBounds_toArray, List.set_cons_zero, List.set_cons_succ]
                refine take_lit (i := 10) (v := ?_) rfl (by kernel_rfl) (by kernel_rfl) (by kernel_rfl) (fun _ _ _ h => h) (by rfl) (fun w hSw => ?_) hHeld ?_
                rotate_left
                · go_simp; try with_reducible rfl
                try simp only [Act.put, List.setIfInBounds_toArray, List.set_cons_zero, List.set_cons_succ]
                refine take_lit (i := 11) (v := ?_) rfl (by kernel_rfl) (by kernel_rfl) (by kernel_rfl) (fun _ _ _ h => h) (by rfl) (fun w hSw => ?_) hHeld ?_
                rotate_left
                · go_simp; try with_reducible rfl
                try simp only [Act.put, List.setIfInBounds_toArray, List.set_cons_zero, List.set_cons_succ]
                refine take_lit (i := 12) (v := ?_) rfl (by kernel_rfl) (by kernel_rfl) (by kernel_rfl) (fun _ _ _ h => h) (by rfl) (fun w hSw => ?_) hHeld ?_
                rotate_left
                · go_simp; try with_reducible rfl
                try simp only [Act.put, List.setIfInBounds_toArray, List.set_cons_zero, List.set_cons_succ]
                refine take_lit (i := 13) (v := ?_) rfl (by kernel_rfl) (by kernel_rfl) (by kernel_rfl) (fun _ _ _ h => h) (by rfl) (fun w hSw => ?_) hHeld ?_
                rotate_left
                · have z2 := (hSw.cell (p := ⟨b, o + k * 5 + 2, none⟩) hbz).trans e1; go_simp; try with_reducible rfl
                try simp only [Act.put, List.setIfInBounds_toArray, List.set_cons_zero, List.set_cons_succ]
                refine wpAnyH_ready (rs := [7]) (by kernel_rfl) (by simp) (cons_lit (i := 7) rfl (fun K hK => ?_) AllReadyH.nil)
                go_simp
                refine (refRow_ok _ F _ l x.key (ClRd.below HLz.out hHeld) hg (by omega)).mono ?_
                rintro e wn ⟨rfl, rfl⟩
                try go_simp
                refine hK.out _ _ (hHeld) (fun hHeld2 => ?_)
                clear hK K hHeld
                have hHeld := hHeld2
                clear hHeld2
                try simp only [Act.put, List.setIfInBounds_toArray, List.set_cons_zero, List.set_cons_succ]
                refine take_lit (i := 8) (v := ?_) rfl (by kernel_rfl) (by kernel_rfl) (by kernel_rfl) (fun _ _ _ h => h) (by rfl) (fun w hSw => ?_) hHeld ?_
                rotate_left
                · go_simp; try with_reducible rfl
                try simp only [Act.put, List.setIfInBounds_toArray, List.set_cons_zero, List.set_cons_succ]
                refine take_lit (i := 14) (v := ?_) rfl (by kernel_rfl) (by kernel_rfl) (by kernel_rfl) (fun _ _ _ h => h) (by rfl) (fun w hSw => ?_) hHeld ?_
                rotate_left
                · go_simp; try with_reducible rfl
                try simp only [Act.put, List.setIfInBounds_toArray, List.set_cons_zero, List.set_cons_succ]
                refine wpAnyH_ready (rs := [15]) (by kernel_rfl) (by simp) (cons_lit (i := 15) rfl (fun K hK => ?_) AllReadyH.nil)
                go_simp
                refine hK.out _ _ (H5.out.2.1.drew.alloc hsz5 _) (fun hHeld2 => ?_)
                clear hK K hHeld
                have hHeld := hHeld2
                clear hHeld2
                try simp only [Act.put, List.setIfInBounds_toArray, List.set_cons_zero, List.set_cons_succ]
                refine wpAnyH_ready (rs := [16]) (by kernel_rfl) (by simp) (cons_lit (i := 16) rfl (fun K hK => ?_) AllReadyH.nil)
                (refine step_append_lies _ (by rfl) _ _ 22 (by rfl) wz.heap.size 28 i2 _ 5 48 Try.underlying22 HHI2.out hy0 hy1 hy2 (by rfl) (by decide) (.slice A5 n c5) n _ (by rfl) H5.out.2.2.1 ⟨w5.heap.size, 0, none⟩ 1 1 [.bool (lev l (-1, x.key, 0) == 2), .int .i64 (-1), .string ⟨x.key.toArray⟩, .int .i64 0, .int .i64 0] (by rfl) (by rfl) H5.out.2.2.2 (by simp [Value.oneCell']) (by decide) (by unfold maxLen; omega) (by omega) (by simp; omega) (w5.heap.size + 1) (by simp) ?_)
                intro g6 c6 w6 hO6 hg6 hat6 hlt6
                refine hK.out _ _ (((H5.out.2.1.alloc hsz5 _).drew).grown hg6 (by simp; omega) (fun j hj => (H5.out.1.lt j hj).1)) (fun hHeld2 => ?_)
                clear hK K hHeld
                have hHeld := hHeld2
                clear hHeld2
                try simp only [Act.put, List.setIfInBounds_toArray, List.set_cons_zero, List.set_cons_succ]
                refine take_lit (i := 17) (v := ?_) rfl (by kernel_rfl) (by kernel_rfl) (by kernel_rfl) (fun _ _ _ h => h) (by rfl) (fun w hSw => ?_) hHeld ?_
                rotate_left
                · go_simp; try with_reducible rfl
                try simp only [Act.put, List.setIfInBounds_toArray, List.set_cons_zero, List.set_cons_succ]
                refine wpAnyH_done (by kernel_rfl) ?_ _
                have hsz6 : wz.heap.size ≤ w6.heap.size := hHeld.size
                have H6 := Lib.hid (And.intro hO6 hHeld)
                clear hO6 hg6 hat6 hlt6 hHeld e1
                go_wp2_with (at_builtin; go_loud (refine wpList_append_rdk (o := ⟨some 82, _, _, _, _, _⟩) _ rfl _ _ 22 rfl wz.heap.size 28 i2 _ 5 48 Try.underlying22 HHI2.out hy0 hy1 hy2 rfl (by decide) (.slice (some ⟨g6, 0, none⟩) (n + 1) c6) (n + 1) _ rfl H6.out.1 (fun _ => True) (.slice (some ⟨g, n * 5, none⟩) (nk - n) (c3 - n)) (((ks.drop n).map (rowN l)).map Cl.cells) rfl (by have := clrd_drop HRZ.out (n := n) (by simp; have := HNK.out; omega); rw [← List.map_drop, Nat.zero_add] at this; exact ClRd.below this H6.out.2) (cl_len _) (cl_one _) (by rw [List.length_map, List.length_map, List.length_drop, HNK.out]; omega) (by rw [List.length_map, List.length_map, List.length_drop, HNK.out]; unfold maxLen; omega) hsz6 ?_); intro v7 w7 hO7 hg7 hat7; have hb7 : Below wz.heap.size wz w7 := H6.out.2.grown hg7 hsz6 (fun j hj => (H6.out.1.lt j hj).1); have H7 := Lib.hid (And.intro hO7 hb7); clear hO7 hg7 hat7 hb7)
                go_roundw
                case rel =>
                  have hnk := HNK.out
                  refine ⟨k + 1, by omega, by go_num, ks.take n ++ [x.key] ++ ks.drop n, ?_, ?_, ?_, ?_, HZ.out.2.1.trans (H7.out.2.mono hsw)⟩
                  · exact rise_insert HK.out.1 HZ.out.2.2 HN.out
                  · intro key
                    rw [take_snoc HX.out, mem_insert, HK.out.2]
                    exact row_mem_snoc g0
                  · simp; omega
                  · have h7 := own_base H7.out.1 (base' := w.heap.size) (fun j hj => Nat.le_trans hsw (H7.out.1.lt j hj).1)
                    have el : n + 1 + (((ks.drop n).map (rowN l)).map Cl.cells).length = (ks.take n ++ [x.key] ++ ks.drop n).length := by simp; omega
                    rw [el] at h7
                    simpa [rowN, rowC, Cl.cells] using h7
                case measure => simp [intOf]; omega
      · have g0' : 0 ≤ x.col := by omega
        have HO := Lib.hid (And.intro hown hbl)
        clear hown hbl
        go_wp2_with fail
        go_roundw
        case rel =>
          refine ⟨k + 1, by omega, by go_num, ks, HK.out.1, ?_, by omega, HO.out.1, HO.out.2⟩
          rw [take_snoc HX.out]
          exact row_mem_same HK.out.2 (.inl (by omega))
        case measure => simp [intOf]; omega
    · have hkl2 : k = l.length := by omega
      subst hkl2
      rw [List.take_length] at hmem
      have HK := Lib.hid (And.intro hrise hmem)
      obtain ⟨rows, hrows⟩ : ∃ rows, ks.map (rowN l) = rows := ⟨_, rfl⟩
      have hrl : rows.length = ks.length := by rw [← hrows]; simp
      rw [hrows, ← hrl] at hown
      have hrl2 : rows.length ≤ 1000 := by omega
      have HO := Lib.hid (And.intro hown (And.intro hbl hrows))
      clear hrise hmem hown hbl hrows hrl
      go_wp2_with fail
      go_loopw [3, 7] (fun v3 i w2 => ∃ j : Nat, j ≤ 4 ∧ i = .int .i64 (j : Int) ∧ w2.ownsRow w.heap.size 28 5 v3 (rows ++ cols (fun i => colS l i 2) (fun i => colS l i 1) j).length ((rows ++ cols (fun i => colS l i 2) (fun i => colS l i 1) j).map Cl.cells).flatten ∧ Below w.heap.size w w2) (fun _ i _ => 4 - (intOf i).toNat)
      case atStart => exact ⟨0, by omega, rfl, by simpa [cols] using HO.out.1, HO.out.2.1⟩
      case round =>
        obtain ⟨j, hj, rfl, hown, hbl⟩ := hrel
        rename World => w2
        by_cases hj4 : j < 4
        · have hlen : (rows ++ cols (fun i => colS l i 2) (fun i => colS l i 1) j).length ≤ 1000 + j * 8000 := by
            have := cols_len l hl j
            simp; omega
          obtain ⟨A3, c3, rfl⟩ := ownsRow_slice hown
          have hcs : cols (fun i => colS l i 2) (fun i => colS l i 1) (j + 1) = cols (fun i => colS l i 2) (fun i => colS l i 1) j ++ ((colS l j 2).map (spCl j true) ++ (colS l j 1).map (spCl j false)) := rfl
          obtain ⟨out, hout⟩ : ∃ out, rows ++ cols (fun i => colS l i 2) (fun i => colS l i 1) j = out := ⟨_, rfl⟩
          rw [hout] at hown hlen ⊢
          have hl2 := colS_len l hl (j : Int) 2
          have hl1 := colS_len l hl (j : Int) 1
          have hj0 : (0 : Int) ≤ (j : Int) := by omega
          have HC := Lib.hid (And.intro hcs hout)
          have HO2 := Lib.hid (And.intro hown hbl)
          clear hcs hout hown hbl
          go_wp2_with fail
          refine (column_ok w2 F _ l (j : Int) 2 (ClRd.below H.out HO2.out.2) hg (by omega) hj0).mono ?_
          rintro e w3 ⟨A5, c5, rfl, hO5, hb5⟩
          obtain ⟨C1, hC1⟩ : ∃ C1, (colS l j 2).map (spCl j ((2 : Int) == 2)) = C1 := ⟨_, rfl⟩
          rw [hC1] at hO5 ⊢
          have hc1 : C1.length ≤ 4000 := by rw [← hC1]; simpa using hl2
          have hbw3 : Below w.heap.size w w3 := HO2.out.2.trans (hb5.mono HO2.out.2.size)
          have hs3 := hbw3.size
          have H3 := Lib.hid (And.intro (own_below HO2.out.1 hb5) (And.intro (fresh_rd hO5) (And.intro hbw3 hC1)))
          clear hO5 hb5 hbw3 hC1
          go_wp2_with (at_builtin; go_loud (refine wpList_append_rdk (o := ⟨some 91, _, _, _, _, _⟩) _ rfl _ _ 22 rfl w.heap.size 28 i2 _ 5 48 Try.underlying22 HHI2.out hy0 hy1 hy2 rfl (by decide) (.slice A3 out.length c3) out.length _ rfl H3.out.1 (fun _ => True) (.slice A5 C1.length c5) (C1.map Cl.cells) rfl H3.out.2.1 (cl_len _) (cl_one _) (by rw [List.length_map]; omega) (by rw [List.length_map]; unfold maxLen; omega) hs3 ?_); intro v6 w6 hO6 hg6 hat6; have hO6' : w6.ownsRow w.heap.size 28 5 v6 (out ++ C1).length ((out ++ C1).map Cl.cells).flatten := (by simpa using hO6); obtain ⟨out1, hout1⟩ : ∃ out1, out ++ C1 = out1 := ⟨_, rfl⟩; rw [hout1] at hO6'; have hol1 : out1.length ≤ 5000 + j * 8000 := (by rw [← hout1]; simp; omega); obtain ⟨A6, c6, rfl⟩ := ownsRow_slice hO6'; have hb6 : Below w.heap.size w w6 := H3.out.2.2.1.grown hg6 hs3 (fun i hi => (H3.out.1.lt i hi).1); have H6 := Lib.hid (And.intro hO6' (And.intro hb6 hout1)); clear hO6 hO6' hg6 hat6 hb6 hout1)
          refine (column_ok w6 F _ l (j : Int) 1 (ClRd.below H.out H6.out.2.1) hg (by omega) hj0).mono ?_
          rintro e w7 ⟨A8, c8, rfl, hO8, hb8⟩
          obtain ⟨C2, hC2⟩ : ∃ C2, (colS l j 1).map (spCl j ((1 : Int) == 2)) = C2 := ⟨_, rfl⟩
          rw [hC2] at hO8 ⊢
          have hc2 : C2.length ≤ 4000 := by rw [← hC2]; simpa using hl1
          have hbw7 : Below w.heap.size w w7 := H6.out.2.1.trans (hb8.mono H6.out.2.1.size)
          have hs7 := hbw7.size
          have H7 := Lib.hid (And.intro (own_below H6.out.1 hb8) (And.intro (fresh_rd hO8) (And.intro hbw7 hC2)))
          clear hO8 hb8 hbw7 hC2
          go_wp2_with (at_builtin; go_loud (refine wpList_append_rdk (o := ⟨some 96, _, _, _, _, _⟩) _ rfl _ _ 22 rfl w.heap.size 28 i2 _ 5 48 Try.underlying22 HHI2.out hy0 hy1 hy2 rfl (by decide) (.slice A6 out1.length c6) out1.length _ rfl H7.out.1 (fun _ => True) (.slice A8 C2.length c8) (C2.map Cl.cells) rfl H7.out.2.1 (cl_len _) (cl_one _) (by rw [List.length_map]; omega) (by rw [List.length_map]; unfold maxLen; omega) hs7 ?_); intro v9 w9 hO9 hg9 hat9)
          go_roundw
          case rel =>
            have hb9 : Below w.heap.size w w9 := H7.out.2.2.1.grown hg9 hs7 (fun i hi => (H7.out.1.lt i hi).1)
            refine ⟨j + 1, by omega, by go_num, ?_, hb9⟩
            have e : rows ++ cols (fun i => colS l i 2) (fun i => colS l i 1) (j + 1) = out1 ++ C2 := by
              rw [HC.out.1, ← List.append_assoc, HC.out.2, ← H6.out.2.2, ← H3.out.2.2.2, ← H7.out.2.2.2]
              simp
            rw [e]
            simpa using hO9
          case measure => simp [intOf]; omega
        · obtain rfl : j = 4 := by omega
          have HO2 := Lib.hid (And.intro hown hbl)
          clear hown hbl
          go_wp2_with fail
          go_ret
          refine ⟨rows ++ cols (fun i => colS l i 2) (fun i => colS l i 1) 4, ?_, ?_⟩
          · exact normal_form hg HK.out.1 HK.out.2 HO.out.2.2
          · obtain ⟨A3, c3, rfl⟩ := ownsRow_slice HO2.out.1
            exact ⟨A3, c3, rfl, HO2.out.1, HO2.out.2⟩

end Go.Proofs.Ytdmpdlpfanfjoaa
