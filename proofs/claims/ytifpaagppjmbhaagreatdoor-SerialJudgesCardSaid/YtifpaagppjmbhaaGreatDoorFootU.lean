/- Within and Conflict. -/
import Derived.Test.YtifpaagppjmbhaaGreatDoorFootT
namespace Go.Proofs.YtifpaagppjmbhaaGreatDoor
set_option maxRecDepth 100000
open Go.RowKit

def WithinP (a b : List Cl) : Prop := ∀ c ∈ a, CovP c b
/-- Two claims of which one writes what the other one has. -/
def clash (c d : Cl) : Prop := (c.wr = true ∨ d.wr = true) ∧ c.col = d.col ∧ c.key = d.key ∧ c.lo ≤ d.hi ∧ d.lo ≤ c.hi
def ConflP (a b : List Cl) : Prop := ∃ c ∈ a, ∃ d ∈ b, clash c d

/-- Two boxes with two slices. -/
def Two (w : World) (v u : Value) (w' : World) : Prop := Below w.heap.size w w' ∧ w'.heap[w.heap.size]? = some (.cells #[v] 109 (0, 0)) ∧ w'.heap[w.heap.size + 1]? = some (.cells #[u] 109 (0, 0))
theorem Two.start (w : World) (v u : Value) : Two w v u ((w.alloc (.cells #[v] 109)).alloc (.cells #[u] 109)) := by
  refine ⟨((Below.refl _ _).alloc (Nat.le_refl _) _).alloc (by simp) _, ?_, ?_⟩
  · rw [Below.heap_alloc _ _ _ (by simp)]; exact heap_alloc_new _ _
  · have e : w.heap.size + 1 = (w.alloc (.cells #[v] 109)).heap.size := by simp
    rw [e]; exact heap_alloc_new _ _
theorem Two.below {w w1 w2 : World} {v u : Value} (h : Two w v u w1) (hb : Below w1.heap.size w1 w2) : Two w v u w2 := by
  refine ⟨h.1.trans (hb.mono h.1.size), ?_, ?_⟩
  · rw [hb.block _ (Array.getElem?_eq_some_iff.1 h.2.1).1]; exact h.2.1
  · rw [hb.block _ (Array.getElem?_eq_some_iff.1 h.2.2).1]; exact h.2.2
theorem Two.alloc {w w1 : World} {v u : Value} (h : Two w v u w1) (o : Obj) : Two w v u (w1.alloc o) := h.below ((Below.refl _ _).alloc (Nat.le_refl _) _)

set_option maxRecDepth 100000 in
set_option maxHeartbeats 1000000 in
theorem within_ok (w : World) (F G : Nat → Prop) (v u : Value) (a b : List Cl) (ha : ClRd w F v a) (hb : ClRd w G u b) (hla : a.length ≤ 1000000) (hlb : b.length ≤ 1000000) (hpa : ∀ c ∈ a, c.lo ≤ c.hi) (hfa : ∀ c ∈ a, c.fits) (hfb : ∀ c ∈ b, c.fits) :
    Calls Tryz.prog 86 #[.agg #[v], .agg #[u]] w (BoolP (WithinP a b) w) := by
  obtain ⟨A, c, rfl, hnc, hcm⟩ := ha.slice
  obtain ⟨B, d, rfl, hnd, hdm⟩ := hb.slice
  have H := Lib.hid (And.intro ha (And.intro hb (Two.start w (.slice A a.length c) (.slice B b.length d))))
  clear ha hb
  go_enter Tryz.func86, Tryz.ntmps86
  go_wp2_with fail
  go_loopw [10] (fun i wr => ∃ k : Nat, k ≤ a.length ∧ i = .int .i64 (k : Int) ∧ (∀ c ∈ a.take k, CovP c b) ∧ Two w (.slice A a.length c) (.slice B b.length d) wr) (fun i _ => a.length - (intOf i).toNat)
  case atStart => exact ⟨0, Nat.zero_le _, rfl, by simp, H.out.2.2⟩
  case round =>
    obtain ⟨k, hk, rfl, hal, ht⟩ := hrel
    by_cases hlt : k < a.length
    · obtain ⟨x, hx⟩ : ∃ x, a[k]? = some x := ⟨_, List.getElem?_eq_getElem hlt⟩
      obtain ⟨b1, o1, rfl, hF1, c0, c1, c2, c3, c4⟩ := H.out.1.at_ hx
      have l1 : b1 < w.heap.size := World.block_lt_of_cell? w _ c0
      have c0' := (ht.1.cell (p := ⟨b1, o1 + k * 5, none⟩) l1).trans c0
      have c1' := (ht.1.cell (p := ⟨b1, o1 + k * 5 + 1, none⟩) l1).trans c1
      have c2' := (ht.1.cell (p := ⟨b1, o1 + k * 5 + 2, none⟩) l1).trans c2
      have c3' := (ht.1.cell (p := ⟨b1, o1 + k * 5 + 3, none⟩) l1).trans c3
      have c4' := (ht.1.cell (p := ⟨b1, o1 + k * 5 + 4, none⟩) l1).trans c4
      have q1 := blk_cell ht.2.2
      have hsz : w.heap.size + 1 < wr.heap.size := (Array.getElem?_eq_some_iff.1 ht.2.2).1
      have hmx := List.mem_of_getElem? hx
      have hbl : Below w.heap.size w (wr.alloc (.cells #[.bool x.wr, .int .i64 x.col, .string ⟨x.key.toArray⟩, .int .i64 x.lo, .int .i64 x.hi] 119)) := (ht.alloc _).1
      have HX := Lib.hid (And.intro hx (And.intro hal (And.intro ht (And.intro hmx hbl))))
      clear c0 c1 c2 c3 c4 hx hal ht hmx hbl
      go_wp2_with fail
      refine (covered_ok _ G _ x b (RdK.below H.out.2.1 HX.out.2.2.2.2) hlb (hpa x HX.out.2.2.2.1) (hfa x HX.out.2.2.2.1).2.2.1.2 hfb).mono ?_
      rintro e w2 ⟨r, hr, rfl, hb2⟩
      have ht2 := (HX.out.2.2.1.alloc _).below hb2
      cases r with
      | true =>
        have HT := Lib.hid (And.intro (hr.1 rfl) ht2)
        clear hr ht2 hb2
        go_wp2_with fail
        go_roundw
        case rel =>
          refine ⟨k + 1, by omega, by go_num, ?_, HT.out.2⟩
          intro c hc
          rw [take_snoc HX.out.1] at hc
          rcases List.mem_append.1 hc with hc | hc
          · exact HX.out.2.1 c hc
          · simp at hc; subst hc; exact HT.out.1
        case measure => simp [intOf]; omega
      | false =>
        have hnc : ¬ CovP x b := fun h => by have := hr.2 h; cases this
        have HT := Lib.hid (And.intro hnc ht2)
        clear hr ht2 hb2 hnc
        go_wp2_with fail
        go_ret
        exact BoolP.no (fun hh => HT.out.1 (hh x HX.out.2.2.2.1)) HT.out.2.1
    · have hkl : k = a.length := by omega
      subst hkl
      rw [List.take_length] at hal
      have HX := Lib.hid (And.intro hal ht)
      clear hal ht
      go_wp2_with fail
      go_ret
      exact BoolP.yes HX.out.1 HX.out.2.1

/-- A box with a claim. -/
def BoxC (B : Nat) (x : Cl) (w : World) : Prop := w.heap[B]? = some (.cells #[.bool x.wr, .int .i64 x.col, .string ⟨x.key.toArray⟩, .int .i64 x.lo, .int .i64 x.hi] 119 (0, 0))
theorem BoxC.alloc {B : Nat} {x : Cl} {w : World} (h : BoxC B x w) (o : Obj) : BoxC B x (w.alloc o) := by
  unfold BoxC; rw [Below.heap_alloc _ _ _ (Array.getElem?_eq_some_iff.1 h).1]; exact h

set_option maxRecDepth 100000 in
set_option maxHeartbeats 1000000 in
theorem conflict_ok (w : World) (F G : Nat → Prop) (v u : Value) (a b : List Cl) (ha : ClRd w F v a) (hb : ClRd w G u b) (hla : a.length ≤ 1000000) (hlb : b.length ≤ 1000000) :
    Calls Tryz.prog 229 #[.agg #[v], .agg #[u]] w (BoolP (ConflP a b) w) := by
  obtain ⟨A, c, rfl, hnc, hcm⟩ := ha.slice
  obtain ⟨B, d, rfl, hnd, hdm⟩ := hb.slice
  have H := Lib.hid (And.intro ha (And.intro hb (Two.start w (.slice A a.length c) (.slice B b.length d))))
  clear ha hb
  go_enter Tryz.func229, Tryz.ntmps229
  go_wp2_with fail
  go_loopw [12] (fun i wr => ∃ k : Nat, k ≤ a.length ∧ i = .int .i64 (k : Int) ∧ (∀ c ∈ a.take k, ∀ d ∈ b, ¬ clash c d) ∧ Two w (.slice A a.length c) (.slice B b.length d) wr) (fun i _ => a.length - (intOf i).toNat)
  case atStart => exact ⟨0, Nat.zero_le _, rfl, by simp, H.out.2.2⟩
  case round =>
    obtain ⟨k, hk, rfl, hal, ht⟩ := hrel
    by_cases hlt : k < a.length
    · obtain ⟨x, hx⟩ : ∃ x, a[k]? = some x := ⟨_, List.getElem?_eq_getElem hlt⟩
      obtain ⟨b1, o1, rfl, hF1, c0, c1, c2, c3, c4⟩ := H.out.1.at_ hx
      have l1 : b1 < w.heap.size := World.block_lt_of_cell? w _ c0
      have c0' := (ht.1.cell (p := ⟨b1, o1 + k * 5, none⟩) l1).trans c0
      have c1' := (ht.1.cell (p := ⟨b1, o1 + k * 5 + 1, none⟩) l1).trans c1
      have c2' := (ht.1.cell (p := ⟨b1, o1 + k * 5 + 2, none⟩) l1).trans c2
      have c3' := (ht.1.cell (p := ⟨b1, o1 + k * 5 + 3, none⟩) l1).trans c3
      have c4' := (ht.1.cell (p := ⟨b1, o1 + k * 5 + 4, none⟩) l1).trans c4
      have q1 := blk_cell ht.2.2
      have hsz : w.heap.size + 1 < wr.heap.size := (Array.getElem?_eq_some_iff.1 ht.2.2).1
      have hmx := List.mem_of_getElem? hx
      have HX := Lib.hid (And.intro hx (And.intro hal (And.intro ht hmx)))
      clear c0 c1 c2 c3 c4 hx hal ht hmx
      obtain ⟨wo, rfl⟩ : ∃ wo : World, wo = wr := ⟨_, rfl⟩
      go_wp2_with fail
      go_loopw [19] (fun i w2 => ∃ m : Nat, m ≤ b.length ∧ i = .int .i64 (m : Int) ∧ (∀ d ∈ b.take m, ¬ clash x d) ∧ BoxC wo.heap.size x w2 ∧ Two w (.slice (some ⟨b1, o1, none⟩) a.length c) (.slice B b.length d) w2) (fun i _ => b.length - (intOf i).toNat)
      case atStart => exact ⟨0, Nat.zero_le _, rfl, by simp, heap_alloc_new _ _, HX.out.2.2.1.alloc _⟩
      case round =>
        obtain ⟨m, hm, rfl, hno, hbx, ht⟩ := hrel
        rename World => w2
        by_cases hml : m < b.length
        · obtain ⟨y, hy⟩ : ∃ y, b[m]? = some y := ⟨_, List.getElem?_eq_getElem hml⟩
          obtain ⟨b2, o2, rfl, hF2, d0, d1, d2, d3, d4⟩ := H.out.2.1.at_ hy
          have l2 : b2 < w.heap.size := World.block_lt_of_cell? w _ d0
          have d0' := (ht.1.cell (p := ⟨b2, o2 + m * 5, none⟩) l2).trans d0
          have d1' := (ht.1.cell (p := ⟨b2, o2 + m * 5 + 1, none⟩) l2).trans d1
          have d2' := (ht.1.cell (p := ⟨b2, o2 + m * 5 + 2, none⟩) l2).trans d2
          have d3' := (ht.1.cell (p := ⟨b2, o2 + m * 5 + 3, none⟩) l2).trans d3
          have d4' := (ht.1.cell (p := ⟨b2, o2 + m * 5 + 4, none⟩) l2).trans d4
          obtain ⟨q0, q1, q2, q3, q4⟩ := blk_cell5 hbx
          have hbz : wo.heap.size < w2.heap.size := (Array.getElem?_eq_some_iff.1 hbx).1
          have skip : ¬ clash x y → ∀ d ∈ b.take (m + 1), ¬ clash x d := by
            intro hn d hd
            rw [take_snoc hy] at hd
            rcases List.mem_append.1 hd with hd | hd
            · exact hno d hd
            · simp at hd; subst hd; exact hn
          have HY := Lib.hid (And.intro hy (And.intro skip (And.intro hbx ht)))
          clear d0 d1 d2 d3 d4 hy hno hbx ht skip
          by_cases hcl : clash x y
          · obtain ⟨g0, g1, g2, g3, g4⟩ := hcl
            have HG := Lib.hid (And.intro g0 (And.intro g1 (And.intro g2 (And.intro g3 g4))))
            rw [← g1] at d1'
            rw [← g2] at d2'
            clear g1 g2
            cases hxw : x.wr with
            | true =>
              rw [hxw] at q0
              clear g0 hxw
              go_wp2_with fail
              go_ret
              exact BoolP.yes ⟨x, HX.out.2.2.2, y, List.mem_of_getElem? HY.out.1, HG.out⟩ (HY.out.2.2.2.alloc _).1
            | false =>
              have hyw : y.wr = true := g0.resolve_left (by rw [hxw]; decide)
              rw [hxw] at q0
              rw [hyw] at d0'
              clear g0 hxw hyw
              go_wp2_with fail
              go_ret
              exact BoolP.yes ⟨x, HX.out.2.2.2, y, List.mem_of_getElem? HY.out.1, HG.out⟩ (HY.out.2.2.2.alloc _).1
          · have HC := Lib.hid hcl
            by_cases g0 : x.wr = true ∨ y.wr = true
            · by_cases g1 : x.col = y.col
              · rw [← g1] at d1'
                by_cases g2 : x.key = y.key
                · rw [← g2] at d2'
                  have g5 : ¬ (x.lo ≤ y.hi ∧ y.lo ≤ x.hi) := fun h => hcl ⟨g0, g1, g2, h.1, h.2⟩
                  clear g1 g2 hcl
                  by_cases g3 : x.lo ≤ y.hi
                  · have g4 : ¬ y.lo ≤ x.hi := fun h => g5 ⟨g3, h⟩
                    clear g5
                    cases hxw : x.wr with
                    | true =>
                      rw [hxw] at q0
                      clear g0 hxw
                      go_wp2_with fail
                      go_roundw
                      case rel => exact ⟨m + 1, by omega, by go_num, HY.out.2.1 HC.out, HY.out.2.2.1.alloc _, HY.out.2.2.2.alloc _⟩
                      case measure => simp [intOf]; omega
                    | false =>
                      have hyw : y.wr = true := g0.resolve_left (by rw [hxw]; decide)
                      rw [hxw] at q0
                      rw [hyw] at d0'
                      clear g0 hxw hyw
                      go_wp2_with fail
                      go_roundw
                      case rel => exact ⟨m + 1, by omega, by go_num, HY.out.2.1 HC.out, HY.out.2.2.1.alloc _, HY.out.2.2.2.alloc _⟩
                      case measure => simp [intOf]; omega
                  · clear g5
                    cases hxw : x.wr with
                    | true =>
                      rw [hxw] at q0
                      clear g0 hxw
                      go_wp2_with fail
                      go_roundw
                      case rel => exact ⟨m + 1, by omega, by go_num, HY.out.2.1 HC.out, HY.out.2.2.1.alloc _, HY.out.2.2.2.alloc _⟩
                      case measure => simp [intOf]; omega
                    | false =>
                      have hyw : y.wr = true := g0.resolve_left (by rw [hxw]; decide)
                      rw [hxw] at q0
                      rw [hyw] at d0'
                      clear g0 hxw hyw
                      go_wp2_with fail
                      go_roundw
                      case rel => exact ⟨m + 1, by omega, by go_num, HY.out.2.1 HC.out, HY.out.2.2.1.alloc _, HY.out.2.2.2.alloc _⟩
                      case measure => simp [intOf]; omega
                · have g3 : (x.key == y.key) = false := by simpa using g2
                  clear hcl g1
                  cases hxw : x.wr with
                  | true =>
                    rw [hxw] at q0
                    clear g0 hxw
                    go_wp2_with fail
                    go_roundw
                    case rel => exact ⟨m + 1, by omega, by go_num, HY.out.2.1 HC.out, HY.out.2.2.1.alloc _, HY.out.2.2.2.alloc _⟩
                    case measure => simp [intOf]; omega
                  | false =>
                    have hyw : y.wr = true := g0.resolve_left (by rw [hxw]; decide)
                    rw [hxw] at q0
                    rw [hyw] at d0'
                    clear g0 hxw hyw
                    go_wp2_with fail
                    go_roundw
                    case rel => exact ⟨m + 1, by omega, by go_num, HY.out.2.1 HC.out, HY.out.2.2.1.alloc _, HY.out.2.2.2.alloc _⟩
                    case measure => simp [intOf]; omega
              · have g3 : (x.col == y.col) = false := by simpa using g1
                have g4 : (x.col != y.col) = true := by simpa using g1
                clear hcl g1
                cases hxw : x.wr with
                | true =>
                  rw [hxw] at q0
                  clear g0 hxw
                  go_wp2_with fail
                  go_roundw
                  case rel => exact ⟨m + 1, by omega, by go_num, HY.out.2.1 HC.out, HY.out.2.2.1.alloc _, HY.out.2.2.2.alloc _⟩
                  case measure => simp [intOf]; omega
                | false =>
                  have hyw : y.wr = true := g0.resolve_left (by rw [hxw]; decide)
                  rw [hxw] at q0
                  rw [hyw] at d0'
                  clear g0 hxw hyw
                  go_wp2_with fail
                  go_roundw
                  case rel => exact ⟨m + 1, by omega, by go_num, HY.out.2.1 HC.out, HY.out.2.2.1.alloc _, HY.out.2.2.2.alloc _⟩
                  case measure => simp [intOf]; omega
            · have hxw : x.wr = false := Bool.eq_false_iff.2 (fun h => g0 (.inl h))
              have hyw : y.wr = false := Bool.eq_false_iff.2 (fun h => g0 (.inr h))
              rw [hxw] at q0
              rw [hyw] at d0'
              clear g0 hxw hyw hcl
              go_wp2_with fail
              go_roundw
              case rel => exact ⟨m + 1, by omega, by go_num, HY.out.2.1 HC.out, HY.out.2.2.1.alloc _, HY.out.2.2.2.alloc _⟩
              case measure => simp [intOf]; omega
        · have hmb : m = b.length := by omega
          subst hmb
          rw [List.take_length] at hno
          have HY := Lib.hid (And.intro hno ht)
          clear hno ht hbx
          go_wp2_with fail
          go_roundw
          case rel =>
            refine ⟨k + 1, by omega, by go_num, ?_, HY.out.2⟩
            intro c hc
            rw [take_snoc HX.out.1] at hc
            rcases List.mem_append.1 hc with hc | hc
            · exact HX.out.2.1 c hc
            · simp at hc; subst hc; exact HY.out.1
          case measure => simp [intOf]; omega
    · have hkl : k = a.length := by omega
      subst hkl
      rw [List.take_length] at hal
      have HX := Lib.hid (And.intro hal ht)
      clear hal ht
      go_wp2_with fail
      go_ret
      exact BoolP.no (fun ⟨c, hc, d, hd, h⟩ => HX.out.1 c hc d hd h) HX.out.2.1

end Go.Proofs.YtifpaagppjmbhaaGreatDoor
