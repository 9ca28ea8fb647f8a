/- breviaryref09: Conflict. -/
import Derived.Test.YtihjcfifakcpgaaRefF
namespace Go.Proofs.Ytihjcfifakcpgaa
open Go.RowKit

theorem _root_.Go.RowKit.Below.box2 {w w' : World} (h : Below w.heap.size w w') {o1 o2 : Obj} : Below w.heap.size w ((w'.alloc o1).alloc o2) := (h.alloc h.size _).alloc (by have := h.size; simp; omega) _

/-- Two claims of the document's answer clash just if they do. -/
theorem clash_iff {x y : Cl} (hx : Ok x) (hy : Ok y) : clash x y ↔ (x.wr = true ∨ y.wr = true) ∧ x.col = y.col ∧ ((x.col < 0 ∧ x.key = y.key) ∨ (0 ≤ x.col ∧ x.lo ≤ y.hi ∧ y.lo ≤ x.hi)) := by
  unfold clash
  rcases hx.parts with hp | hp <;> rcases hy.parts with hq | hq
  · constructor
    · rintro ⟨h1, h2, h3, _⟩; exact ⟨h1, h2, .inl ⟨by omega, h3⟩⟩
    · rintro ⟨h1, h2, ⟨_, h3⟩ | ⟨h3, _⟩⟩
      · exact ⟨h1, h2, h3, by omega, by omega⟩
      · omega
  · constructor
    · rintro ⟨h1, h2, _⟩; omega
    · rintro ⟨h1, h2, _⟩; omega
  · constructor
    · rintro ⟨h1, h2, _⟩; omega
    · rintro ⟨h1, h2, _⟩; omega
  · constructor
    · rintro ⟨h1, h2, h3, h4⟩; exact ⟨h1, h2, .inr ⟨by omega, h4⟩⟩
    · rintro ⟨h1, h2, ⟨h3, _⟩ | ⟨_, h3⟩⟩
      · omega
      · exact ⟨h1, h2, by rw [hp.2.2.1, hq.2.2.1], h3⟩

set_option maxRecDepth 100000 in
set_option maxHeartbeats 2000000 in
theorem refConflict_ok (w : World) (F G : Nat → Prop) (v u : Value) (a b : List Cl) (ha : ClRd w F v a) (hb : ClRd w G u b) (hla : a.length ≤ 1000000) (hlb : b.length ≤ 1000000) (ga : Good a) (gb : Good b) :
    Calls Try.prog 32 #[v, u] w (BoolP (ConflP a b) w) := by
  obtain ⟨A, c, rfl, hnc, hcm⟩ := ha.slice
  obtain ⟨B, d, rfl, hnd, hdm⟩ := hb.slice
  have H := Lib.hid (And.intro ha hb)
  clear ha hb
  go_enter Try.func32, Try.ntmps32
  go_wp2_with fail
  go_loopw [5] (fun i wr => ∃ k : Nat, k ≤ a.length ∧ i = .int .i64 (k : Int) ∧ (∀ c ∈ a.take k, ∀ d ∈ b, ¬ clash c d) ∧ Below w.heap.size w wr) (fun i _ => a.length - (intOf i).toNat)
  case atStart => exact ⟨0, Nat.zero_le _, rfl, by simp, Below.refl _ _⟩
  case round =>
    obtain ⟨k, hk, rfl, hal, ht⟩ := hrel
    by_cases hlt : k < a.length
    · obtain ⟨x, hx⟩ : ∃ x, a[k]? = some x := ⟨_, List.getElem?_eq_getElem hlt⟩
      obtain ⟨b1, o1, rfl, hF1, c0, c1, c2, c3, c4⟩ := H.out.1.at_ hx
      have l1 : b1 < w.heap.size := World.block_lt_of_cell? w _ c0
      have hmx := List.mem_of_getElem? hx
      have HX := Lib.hid (And.intro hx (And.intro hal hmx))
      have HT := Lib.hid ht
      clear hx hal hmx ht
      obtain ⟨wo, rfl⟩ : ∃ wo : World, wo = wr := ⟨_, rfl⟩
      go_wp2_with fail
      go_loopw [6] (fun i w2 => ∃ m : Nat, m ≤ b.length ∧ i = .int .i64 (m : Int) ∧ (∀ d ∈ b.take m, ¬ clash x d) ∧ Below w.heap.size w w2) (fun i _ => b.length - (intOf i).toNat)
      case atStart => exact ⟨0, Nat.zero_le _, rfl, by simp, HT.out⟩
      case round =>
        obtain ⟨m, hm, rfl, hno, ht⟩ := hrel
        rename World => w2
        by_cases hml : m < b.length
        · obtain ⟨y, hy⟩ : ∃ y, b[m]? = some y := ⟨_, List.getElem?_eq_getElem hml⟩
          obtain ⟨b2, o2, rfl, hF2, d0, d1, d2, d3, d4⟩ := H.out.2.at_ hy
          have l2 : b2 < w.heap.size := World.block_lt_of_cell? w _ d0
          have l2r : b2 < w2.heap.size := Nat.lt_of_lt_of_le l2 ht.size
          have c0' := (ht.cell (p := ⟨b1, o1 + k * 5, none⟩) l1).trans c0
          have c1' := (ht.cell (p := ⟨b1, o1 + k * 5 + 1, none⟩) l1).trans c1
          have c2' := (ht.cell (p := ⟨b1, o1 + k * 5 + 2, none⟩) l1).trans c2
          have c3' := (ht.cell (p := ⟨b1, o1 + k * 5 + 3, none⟩) l1).trans c3
          have c4' := (ht.cell (p := ⟨b1, o1 + k * 5 + 4, none⟩) l1).trans c4
          have d0' := (ht.cell (p := ⟨b2, o2 + m * 5, none⟩) l2).trans d0
          have d1' := (ht.cell (p := ⟨b2, o2 + m * 5 + 1, none⟩) l2).trans d1
          have d2' := (ht.cell (p := ⟨b2, o2 + m * 5 + 2, none⟩) l2).trans d2
          have d3' := (ht.cell (p := ⟨b2, o2 + m * 5 + 3, none⟩) l2).trans d3
          have d4' := (ht.cell (p := ⟨b2, o2 + m * 5 + 4, none⟩) l2).trans d4
          have skip : ¬ clash x y → ∀ d ∈ b.take (m + 1), ¬ clash x d := by
            intro hn d hd
            rw [take_snoc hy] at hd
            rcases List.mem_append.1 hd with hd | hd
            · exact hno d hd
            · simp at hd; subst hd; exact hn
          have hci := clash_iff (ga.ok x HX.out.2.2) (gb.ok y (List.mem_of_getElem? hy))
          have HY := Lib.hid (And.intro hy (And.intro skip ht))
          have HCI := Lib.hid hci
          clear d0 d1 d2 d3 d4 hy hno ht skip hci
          by_cases g1 : x.col = y.col
          · by_cases g0 : x.wr = true ∨ y.wr = true
            · rw [← g1] at d1'
              by_cases gc : x.col < 0
              · by_cases g2 : x.key = y.key
                · have HG := Lib.hid (HCI.out.2 ⟨g0, g1, .inl ⟨gc, g2⟩⟩)
                  rw [← g2] at d2'
                  clear g1 g2
                  cases hxw : x.wr with
                  | true =>
                    rw [hxw] at c0'
                    clear g0 hxw
                    go_wp2_with fail
                    go_ret
                    exact BoolP.yes ⟨x, HX.out.2.2, y, List.mem_of_getElem? HY.out.1, HG.out⟩ HY.out.2.2.box2
                  | false =>
                    have hyw : y.wr = true := g0.resolve_left (by rw [hxw]; decide)
                    rw [hxw] at c0'
                    rw [hyw] at d0'
                    clear g0 hxw hyw
                    go_wp2_with fail
                    go_ret
                    exact BoolP.yes ⟨x, HX.out.2.2, y, List.mem_of_getElem? HY.out.1, HG.out⟩ HY.out.2.2.box2
                · have g3 : (x.key == y.key) = false := by simpa using g2
                  have gc' : ¬ 0 ≤ x.col := by omega
                  have HC := Lib.hid (show ¬ clash x y from fun h => by rcases (HCI.out.1 h).2.2 with h | h; exact g2 h.2; omega)
                  clear g1
                  cases hxw : x.wr with
                  | true =>
                    rw [hxw] at c0'
                    clear g0 hxw
                    go_wp2_with fail
                    go_roundw
                    case rel => exact ⟨m + 1, by omega, by go_num, HY.out.2.1 HC.out, HY.out.2.2.box2⟩
                    case measure => simp [intOf]; omega
                  | false =>
                    have hyw : y.wr = true := g0.resolve_left (by rw [hxw]; decide)
                    rw [hxw] at c0'
                    rw [hyw] at d0'
                    clear g0 hxw hyw
                    go_wp2_with fail
                    go_roundw
                    case rel => exact ⟨m + 1, by omega, by go_num, HY.out.2.1 HC.out, HY.out.2.2.box2⟩
                    case measure => simp [intOf]; omega
              · have gc' : 0 ≤ x.col := by omega
                by_cases g3 : x.lo ≤ y.hi
                · by_cases g4 : y.lo ≤ x.hi
                  · have HG := Lib.hid (HCI.out.2 ⟨g0, g1, .inr ⟨gc', g3, g4⟩⟩)
                    clear g1
                    cases hxw : x.wr with
                    | true =>
                      rw [hxw] at c0'
                      clear g0 hxw
                      go_wp2_with fail
                      go_ret
                      exact BoolP.yes ⟨x, HX.out.2.2, y, List.mem_of_getElem? HY.out.1, HG.out⟩ HY.out.2.2.box2
                    | false =>
                      have hyw : y.wr = true := g0.resolve_left (by rw [hxw]; decide)
                      rw [hxw] at c0'
                      rw [hyw] at d0'
                      clear g0 hxw hyw
                      go_wp2_with fail
                      go_ret
                      exact BoolP.yes ⟨x, HX.out.2.2, y, List.mem_of_getElem? HY.out.1, HG.out⟩ HY.out.2.2.box2
                  · have HC := Lib.hid (show ¬ clash x y from fun h => by rcases (HCI.out.1 h).2.2 with h | h; omega; exact g4 h.2.2)
                    clear g1
                    cases hxw : x.wr with
                    | true =>
                      rw [hxw] at c0'
                      clear g0 hxw
                      go_wp2_with fail
                      go_roundw
                      case rel => exact ⟨m + 1, by omega, by go_num, HY.out.2.1 HC.out, HY.out.2.2.box2⟩
                      case measure => simp [intOf]; omega
                    | false =>
                      have hyw : y.wr = true := g0.resolve_left (by rw [hxw]; decide)
                      rw [hxw] at c0'
                      rw [hyw] at d0'
                      clear g0 hxw hyw
                      go_wp2_with fail
                      go_roundw
                      case rel => exact ⟨m + 1, by omega, by go_num, HY.out.2.1 HC.out, HY.out.2.2.box2⟩
                      case measure => simp [intOf]; omega
                · have HC := Lib.hid (show ¬ clash x y from fun h => by rcases (HCI.out.1 h).2.2 with h | h; omega; exact g3 h.2.1)
                  clear g1
                  cases hxw : x.wr with
                  | true =>
                    rw [hxw] at c0'
                    clear g0 hxw
                    go_wp2_with fail
                    go_roundw
                    case rel => exact ⟨m + 1, by omega, by go_num, HY.out.2.1 HC.out, HY.out.2.2.box2⟩
                    case measure => simp [intOf]; omega
                  | false =>
                    have hyw : y.wr = true := g0.resolve_left (by rw [hxw]; decide)
                    rw [hxw] at c0'
                    rw [hyw] at d0'
                    clear g0 hxw hyw
                    go_wp2_with fail
                    go_roundw
                    case rel => exact ⟨m + 1, by omega, by go_num, HY.out.2.1 HC.out, HY.out.2.2.box2⟩
                    case measure => simp [intOf]; omega
            · have hxw : x.wr = false := Bool.eq_false_iff.2 (fun h => g0 (.inl h))
              have hyw : y.wr = false := Bool.eq_false_iff.2 (fun h => g0 (.inr h))
              have HC := Lib.hid (show ¬ clash x y from fun h => g0 (HCI.out.1 h).1)
              rw [hxw] at c0'
              rw [hyw] at d0'
              rw [← g1] at d1'
              clear g0 hxw hyw g1
              go_wp2_with fail
              go_roundw
              case rel => exact ⟨m + 1, by omega, by go_num, HY.out.2.1 HC.out, HY.out.2.2.box2⟩
              case measure => simp [intOf]; omega
          · have g3 : (x.col == y.col) = false := by simpa using g1
            have g4 : (x.col != y.col) = true := by simpa using g1
            have HC := Lib.hid (show ¬ clash x y from fun h => g1 (HCI.out.1 h).2.1)
            clear g1
            go_wp2_with fail
            go_roundw
            case rel => exact ⟨m + 1, by omega, by go_num, HY.out.2.1 HC.out, HY.out.2.2.box2⟩
            case measure => simp [intOf]; omega
        · have hmb : m = b.length := by omega
          subst hmb
          rw [List.take_length] at hno
          have HY := Lib.hid (And.intro hno ht)
          clear hno ht
          go_wp2_with fail
          go_roundw
          case rel =>
            refine ⟨k + 1, by omega, by go_num, ?_, HY.out.2⟩
            intro c hc
            rw [take_snoc HX.out.1] at hc
            rcases List.mem_append.1 hc with hc | hc
            · exact HX.out.2.1 c hc
            · simp at hc; subst hc; exact HY.out.1
          case measure => simp [intOf]; omega
    · have hkl : k = a.length := by omega
      subst hkl
      rw [List.take_length] at hal
      have HX := Lib.hid (And.intro hal ht)
      clear hal ht
      go_wp2_with fail
      go_ret
      exact BoolP.no (fun ⟨c, hc, d, hd, h⟩ => HX.out.1 c hc d hd h) HX.out.2

end Go.Proofs.Ytihjcfifakcpgaa
