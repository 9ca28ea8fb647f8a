/- breviaryref09: Check, Row, Value: what claims do with a thing. -/
import Derived.Test.YtdmpdlpfanfjoaaFootX
namespace Go.Proofs.Ytdmpdlpfanfjoaa
open Go.RowKit

set_option maxRecDepth 100000 in
set_option maxHeartbeats 1000000 in
theorem refCheck_ok (w : World) (c : Cl) :
    Calls Try.prog 20 #[c.val] w fun e w' => e = .returned (.int .i64 (chk c)) ∧ Below w.heap.size w w' := by
  obtain ⟨wr, col, key, lo, hi⟩ := c
  unfold Cl.val chk keyErr
  simp only
  by_cases h1 : col < -1
  · rw [if_pos (.inl h1)]
    go_enter Try.func20, Try.ntmps20
    go_wp2_with fail
    go_ret
    exact ⟨rfl, (Below.refl _ _).alloc (Nat.le_refl _) _⟩
  · by_cases h2 : 3 < col
    · rw [if_pos (.inr (by omega))]
      go_enter Try.func20, Try.ntmps20
      go_wp2_with fail
      go_ret
      exact ⟨rfl, (Below.refl _ _).alloc (Nat.le_refl _) _⟩
    · rw [if_neg (by omega)]
      by_cases h3 : 0 ≤ col
      · rw [if_pos h3]
        by_cases h5 : key ≠ []
        · rw [if_pos (.inl h5)]
          go_enter Try.func20, Try.ntmps20
          go_wp2_with fail
          go_ret
          exact ⟨rfl, (Below.refl _ _).alloc (Nat.le_refl _) _⟩
        · have h6 : key = [] := by simpa using h5
          subst h6
          clear h5
          by_cases h7 : hi < lo
          · rw [if_pos (.inr h7)]
            go_enter Try.func20, Try.ntmps20
            go_wp2_with fail
            go_ret
            exact ⟨rfl, (Below.refl _ _).alloc (Nat.le_refl _) _⟩
          · rw [if_neg (by simpa using h7)]
            have h8 : ¬ col < 0 := by omega
            go_enter Try.func20, Try.ntmps20
            go_wp2_with fail
            go_ret
            exact ⟨rfl, (Below.refl _ _).alloc (Nat.le_refl _) _⟩
      · rw [if_neg h3]
        have h8 : col < 0 := by omega
        by_cases h5 : lo ≠ 0
        · rw [if_pos (.inl h5)]
          go_enter Try.func20, Try.ntmps20
          go_wp2_with fail
          go_ret
          exact ⟨rfl, (Below.refl _ _).alloc (Nat.le_refl _) _⟩
        · have h6 : lo = 0 := by simpa using h5
          subst h6
          clear h5
          by_cases h5 : hi ≠ 0
          · rw [if_pos (.inr h5)]
            go_enter Try.func20, Try.ntmps20
            go_wp2_with fail
            go_ret
            exact ⟨rfl, (Below.refl _ _).alloc (Nat.le_refl _) _⟩
          · have h6 : hi = 0 := by simpa using h5
            subst h6
            clear h5
            rw [if_neg (by simp)]
            by_cases k1 : key.length < 1
            · rw [if_pos (.inl k1)]
              go_enter Try.func20, Try.ntmps20
              go_wp2_with fail
              go_ret
              exact ⟨rfl, (Below.refl _ _).alloc (Nat.le_refl _) _⟩
            · by_cases k2 : 16 < key.length
              · rw [if_pos (.inr k2)]
                go_enter Try.func20, Try.ntmps20
                go_wp2_with fail
                go_ret
                exact ⟨rfl, (Below.refl _ _).alloc (Nat.le_refl _) _⟩
              · rw [if_neg (by omega)]
                go_enter Try.func20, Try.ntmps20
                go_wp2_with fail
                go_ret
                exact ⟨rfl, (Below.refl _ _).alloc (Nat.le_refl _) _⟩

theorem has_row_iff {x : Cl} (h : Ok x) (key : List UInt8) : x.has (-1, key, 0) ↔ x.col < 0 ∧ x.key = key := by
  rcases h.parts with ⟨h1, h2, h3, _⟩ | ⟨h1, h2, h3, _⟩
  · exact ⟨fun hh => ⟨by omega, hh.2.1⟩, fun hh => ⟨h1, hh.2, by simp only; omega, by simp only; omega⟩⟩
  · exact ⟨fun hh => by have := hh.1; simp only at this; omega, fun hh => by omega⟩
theorem has_val_iff {x : Cl} (h : Ok x) {col : Int} (hc : 0 ≤ col) (n : Int) : x.has (col, [], n) ↔ x.col = col ∧ x.lo ≤ n ∧ n ≤ x.hi := by
  rcases h.parts with ⟨h1, h2, h3, _⟩ | ⟨h1, h2, h3, _⟩
  · exact ⟨fun hh => ⟨hh.1, hh.2.2⟩, fun hh => by omega⟩
  · exact ⟨fun hh => ⟨hh.1, hh.2.2⟩, fun hh => ⟨hh.1, h3, hh.2⟩⟩

set_option maxRecDepth 100000 in
set_option maxHeartbeats 1000000 in
theorem refRow_ok (w : World) (F : Nat → Prop) (v : Value) (l : List Cl) (key : List UInt8) (h : ClRd w F v l) (hg : Good l) (hl : l.length ≤ 1000000) :
    Calls Try.prog 55 #[v, .string ⟨key.toArray⟩] w fun e w' => e = .returned (.int .i64 (lev l (-1, key, 0))) ∧ w = w' := by
  obtain ⟨A, c, rfl, hnc, hcm⟩ := h.slice
  have H := Lib.hid h
  clear h
  go_enter Try.func55, Try.ntmps55
  go_wp2_with fail
  go_loop [5, 6] (fun r i => ∃ k : Nat, k ≤ l.length ∧ i = .int .i64 (k : Int) ∧ r = .int .i64 (lev (l.take k) (-1, key, 0))) (fun _ i => l.length - (intOf i).toNat)
  case atStart => exact ⟨0, Nat.zero_le _, rfl, by simp [lev_nil]⟩
  case round =>
    obtain ⟨k, hk, rfl, rfl⟩ := hrel
    have hbd := lev_bd (l.take k) (-1, key, 0)
    by_cases hlt : k < l.length
    · obtain ⟨x, hx⟩ : ∃ x, l[k]? = some x := ⟨_, List.getElem?_eq_getElem hlt⟩
      obtain ⟨b, o, rfl, hFb, c0, c1, c2, c3, c4⟩ := H.out.at_ hx
      have hxo := hg.ok x (List.mem_of_getElem? hx)
      have hsn := lev_snoc (l.take k) x (-1, key, 0)
      rw [← take_snoc hx] at hsn
      obtain ⟨r, hr⟩ : ∃ r, lev (l.take k) (-1, key, 0) = r := ⟨_, rfl⟩
      rw [hr] at hsn hbd ⊢
      have hif := has_row_iff hxo key
      have HX := Lib.hid (And.intro hsn (And.intro hif hx))
      clear hx hsn hif hr c3 c4
      by_cases g1 : x.col < 0
      · by_cases g2 : x.key = key
        · rw [g2] at c2
          have HH := Lib.hid (HX.out.2.1.2 ⟨g1, g2⟩)
          clear g2
          cases hw : x.wr with
          | true =>
            rw [hw] at c0
            have HW := Lib.hid hw
            clear hw
            go_wp2_with fail
            go_round
            case rel => exact ⟨k + 1, by omega, by go_num, by rw [HX.out.1, if_pos HH.out, if_pos HW.out]⟩
            case measure => simp [intOf]; omega
          | false =>
            rw [hw] at c0
            have HW := Lib.hid hw
            clear hw
            go_wp2_with fail
            go_round
            case rel => exact ⟨k + 1, by omega, by go_num, by rw [HX.out.1, if_pos HH.out, if_neg (by rw [HW.out]; decide)]⟩
            case measure => simp [intOf]; omega
        · have g3 : (x.key == key) = false := by simpa using g2
          have HH := Lib.hid (fun hh => g2 (HX.out.2.1.1 hh).2)
          go_wp2_with fail
          go_round
          case rel => exact ⟨k + 1, by omega, by go_num, by rw [HX.out.1, if_neg HH.out]⟩
          case measure => simp [intOf]; omega
      · have HH := Lib.hid (fun hh => g1 (HX.out.2.1.1 hh).1)
        go_wp2_with fail
        go_round
        case rel => exact ⟨k + 1, by omega, by go_num, by rw [HX.out.1, if_neg HH.out]⟩
        case measure => simp [intOf]; omega
    · have hkl : k = l.length := by omega
      subst hkl
      rw [List.take_length]
      go_wp2_with fail
      go_ret
      exact ⟨rfl, rfl⟩

set_option maxRecDepth 100000 in
set_option maxHeartbeats 1000000 in
theorem refValue_ok (w : World) (F : Nat → Prop) (v : Value) (l : List Cl) (col n : Int) (h : ClRd w F v l) (hg : Good l) (hl : l.length ≤ 1000000) (hc : 0 ≤ col) :
    Calls Try.prog 61 #[v, .int .i64 col, .int .i64 n] w fun e w' => e = .returned (.int .i64 (lev l (col, [], n))) ∧ w = w' := by
  obtain ⟨A, c, rfl, hnc, hcm⟩ := h.slice
  have H := Lib.hid h
  clear h
  go_enter Try.func61, Try.ntmps61
  go_wp2_with fail
  go_loop [7, 8] (fun r i => ∃ k : Nat, k ≤ l.length ∧ i = .int .i64 (k : Int) ∧ r = .int .i64 (lev (l.take k) (col, [], n))) (fun _ i => l.length - (intOf i).toNat)
  case atStart => exact ⟨0, Nat.zero_le _, rfl, by simp [lev_nil]⟩
  case round =>
    obtain ⟨k, hk, rfl, rfl⟩ := hrel
    have hbd := lev_bd (l.take k) (col, [], n)
    by_cases hlt : k < l.length
    · obtain ⟨x, hx⟩ : ∃ x, l[k]? = some x := ⟨_, List.getElem?_eq_getElem hlt⟩
      obtain ⟨b, o, rfl, hFb, c0, c1, c2, c3, c4⟩ := H.out.at_ hx
      have hxo := hg.ok x (List.mem_of_getElem? hx)
      have hsn := lev_snoc (l.take k) x (col, [], n)
      rw [← take_snoc hx] at hsn
      obtain ⟨r, hr⟩ : ∃ r, lev (l.take k) (col, [], n) = r := ⟨_, rfl⟩
      rw [hr] at hsn hbd ⊢
      have hif := has_val_iff hxo hc n
      have HX := Lib.hid (And.intro hsn (And.intro hif hx))
      clear hx hsn hif hr c2
      by_cases g1 : x.col = col
      · rw [g1] at c1
        by_cases g2 : x.lo ≤ n
        · by_cases g4 : n ≤ x.hi
          · have HH := Lib.hid (HX.out.2.1.2 ⟨g1, g2, g4⟩)
            clear g1
            cases hw : x.wr with
            | true =>
              rw [hw] at c0
              have HW := Lib.hid hw
              clear hw
              go_wp2_with fail
              go_round
              case rel => exact ⟨k + 1, by omega, by go_num, by rw [HX.out.1, if_pos HH.out, if_pos HW.out]⟩
              case measure => simp [intOf]; omega
            | false =>
              rw [hw] at c0
              have HW := Lib.hid hw
              clear hw
              go_wp2_with fail
              go_round
              case rel => exact ⟨k + 1, by omega, by go_num, by rw [HX.out.1, if_pos HH.out, if_neg (by rw [HW.out]; decide)]⟩
              case measure => simp [intOf]; omega
          · have HH := Lib.hid (fun hh => g4 (HX.out.2.1.1 hh).2.2)
            clear g1
            go_wp2_with fail
            go_round
            case rel => exact ⟨k + 1, by omega, by go_num, by rw [HX.out.1, if_neg HH.out]⟩
            case measure => simp [intOf]; omega
        · have HH := Lib.hid (fun hh => g2 (HX.out.2.1.1 hh).2.1)
          clear g1
          go_wp2_with fail
          go_round
          case rel => exact ⟨k + 1, by omega, by go_num, by rw [HX.out.1, if_neg HH.out]⟩
          case measure => simp [intOf]; omega
      · have g3 : (x.col == col) = false := by simpa using g1
        have HH := Lib.hid (fun hh => g1 (HX.out.2.1.1 hh).1)
        clear g1
        go_wp2_with fail
        go_round
        case rel => exact ⟨k + 1, by omega, by go_num, by rw [HX.out.1, if_neg HH.out]⟩
        case measure => simp [intOf]; omega
    · have hkl : k = l.length := by omega
      subst hkl
      rw [List.take_length]
      go_wp2_with fail
      go_ret
      exact ⟨rfl, rfl⟩

end Go.Proofs.Ytdmpdlpfanfjoaa
