/- covered, Within, Conflict. -/
import Derived.Test.YtifpaagppjmbhaaGreatDoorFootS
import Derived.ScopeJumps
namespace Go.Proofs.YtifpaagppjmbhaaGreatDoor
set_option maxRecDepth 100000
open Go.RowKit

theorem blk_cell5 {w : World} {b : Nat} {v0 v1 v2 v3 v4 : Value} {t : TypeId} (h : w.heap[b]? = some (.cells #[v0, v1, v2, v3, v4] t (0, 0))) :
    w.cell? ⟨b, 0, none⟩ = some v0 ∧ w.cell? ⟨b, 1, none⟩ = some v1 ∧ w.cell? ⟨b, 2, none⟩ = some v2 ∧ w.cell? ⟨b, 3, none⟩ = some v3 ∧ w.cell? ⟨b, 4, none⟩ = some v4 := by
  simp [World.cell?, h]
/-- A claim that has a number of another one, at least so. -/
def covers (c d : Cl) (n : Int) : Prop := d.col = c.col ∧ d.key = c.key ∧ (c.wr = true → d.wr = true) ∧ d.lo ≤ n ∧ n ≤ d.hi
def CovP (c : Cl) (l : List Cl) : Prop := ∀ n, c.lo ≤ n → n ≤ c.hi → ∃ d ∈ l, covers c d n
/-- What covered has: all numbers ahead of one are covered. -/
def CovJ (w : World) (c : Cl) (l : List Cl) (fr : Int) (w' : World) : Prop :=
  Below w.heap.size w w' ∧ w'.heap[w.heap.size]? = some (.cells #[.bool c.wr, .int .i64 c.col, .string ⟨c.key.toArray⟩, .int .i64 c.lo, .int .i64 c.hi] 119 (0, 0)) ∧
    c.lo ≤ fr ∧ fr ≤ c.hi ∧ ∀ n, c.lo ≤ n → n < fr → ∃ d ∈ l, covers c d n
theorem CovJ.start (w : World) (c : Cl) (l : List Cl) (hc : c.lo ≤ c.hi) : CovJ w c l c.lo (w.alloc (.cells #[.bool c.wr, .int .i64 c.col, .string ⟨c.key.toArray⟩, .int .i64 c.lo, .int .i64 c.hi] 119)) :=
  ⟨(Below.refl _ _).alloc (Nat.le_refl _) _, heap_alloc_new _ _, Int.le_refl _, hc, fun n h1 h2 => absurd h2 (by omega)⟩
theorem CovJ.box {w : World} {c : Cl} {l : List Cl} {fr : Int} {w' : World} (h : CovJ w c l fr w') {o : Obj} : CovJ w c l fr (w'.alloc o) :=
  ⟨h.1.alloc h.1.size _, by rw [Below.heap_alloc _ _ _ (Array.getElem?_eq_some_iff.1 h.2.1).1]; exact h.2.1, h.2.2⟩
theorem CovJ.next {w : World} {c x : Cl} {l : List Cl} {fr : Int} {w' : World} {k : Nat} {o : Obj} (h : CovJ w c l fr w') (hx : l[k]? = some x) (h1 : x.col = c.col) (h2 : x.key = c.key) (h3 : c.wr = true → x.wr = true) (h4 : x.lo ≤ fr) (h5 : fr ≤ x.hi) (h6 : x.hi < c.hi) : CovJ w c l (x.hi + 1) (w'.alloc o) := by
  refine ⟨h.box.1, h.box.2.1, by have := h.2.2.1; omega, by omega, fun n a b => ?_⟩
  by_cases hn : n < fr
  · exact h.2.2.2.2 n a hn
  · exact ⟨x, List.mem_of_getElem? hx, h1, h2, h3, by omega, by omega⟩

-- COV BEGIN
set_option maxRecDepth 100000 in
set_option maxHeartbeats 2000000 in
theorem covered_ok (w : World) (F : Nat → Prop) (v : Value) (c : Cl) (l : List Cl) (h : ClRd w F v l) (hl : l.length ≤ 1000000) (hc : c.lo ≤ c.hi) (hch : c.hi ≤ 9223372036854775807) (hfit : ∀ d ∈ l, d.fits) :
    Calls Tryz.prog 135 #[.agg #[.bool c.wr, .int .i64 c.col, .string ⟨c.key.toArray⟩, .int .i64 c.lo, .int .i64 c.hi], v] w (BoolP (CovP c l) w) := by
  obtain ⟨A, cp, rfl, hnc, hcm⟩ := h.slice
  have H := Lib.hid h
  clear h
  go_enter Tryz.func135, Tryz.ntmps135
  go_wp2_with fail
  refine wp_scope_jumps 0 (fun a' w' => ∃ (fr : Int) (u0 u3 u6 u7 u8 u9 u10 u11 u12 u13 u14 u15 u16 u17 u18 u19 u20 u21 u22 u23 u24 u25 u26 u27 u28 u29 u30 u31 u32 u33 u34 u35 u36 u37 u38 u39 u40 u41 u42 u43 u44 u45 u46 u47 u48 u49 u50 u51 u52 u53 u54 u55 : Value), a' = { tmps := #[u0, .slice A l.length cp, .pointer (some ⟨w.heap.size, 0, none⟩), u3, .bool false, .int .i64 fr, u6, u7, u8, u9, u10, u11, u12, u13, u14, u15, u16, u17, u18, u19, u20, u21, u22, u23, u24, u25, u26, u27, u28, u29, u30, u31, u32, u33, u34, u35, u36, u37, u38, u39, u40, u41, u42, u43, u44, u45, u46, u47, u48, u49, u50, u51, u52, u53, u54, u55], defers := [] } ∧ CovJ w c l fr w') (fun a' _ => (c.hi - intOf (a'.tmps.getD 5 undef)).toNat) rfl ?_ ?_
  · obtain ⟨fr, hfr⟩ : ∃ fr, c.lo = fr := ⟨_, rfl⟩
    have HJ := Lib.hid (CovJ.start w c l hc)
    rw [hfr] at HJ ⊢
    clear hc
    have hc : fr ≤ c.hi := HJ.out.2.2.2.1
    have HFR := Lib.hid hfr
    clear hfr
    go_wp2_with fail
    go_step3
    go_wp2_with fail
    go_loopw [4, 5, 12] (fun v4 v5 i wr => v4 = .bool false ∧ v5 = .int .i64 fr ∧ ∃ k : Nat, k ≤ l.length ∧ i = .int .i64 (k : Int) ∧ (∀ d ∈ l.take k, ¬ covers c d fr) ∧ CovJ w c l fr wr) (fun _ _ i _ => l.length - (intOf i).toNat)
    case atStart => exact ⟨rfl, rfl, 0, Nat.zero_le _, rfl, by simp, HJ.out⟩
    case round =>
      obtain ⟨rfl, rfl, k, hk, rfl, hno, hj⟩ := hrel
      rename World => w3
      by_cases hlt : k < l.length
      · obtain ⟨x, hx⟩ : ∃ x, l[k]? = some x := ⟨_, List.getElem?_eq_getElem hlt⟩
        obtain ⟨b, o, rfl, hFb, c0, c1, c2, c3, c4⟩ := H.out.at_ hx
        have hb : b < w.heap.size := World.block_lt_of_cell? w _ c0
        have c0' := (hj.1.cell (p := ⟨b, o + k * 5, none⟩) hb).trans c0
        have c1' := (hj.1.cell (p := ⟨b, o + k * 5 + 1, none⟩) hb).trans c1
        have c2' := (hj.1.cell (p := ⟨b, o + k * 5 + 2, none⟩) hb).trans c2
        have c3' := (hj.1.cell (p := ⟨b, o + k * 5 + 3, none⟩) hb).trans c3
        have c4' := (hj.1.cell (p := ⟨b, o + k * 5 + 4, none⟩) hb).trans c4
        obtain ⟨q0, q1, q2, q3, q4⟩ := blk_cell5 hj.2.1
        have hxf := hfit x (List.mem_of_getElem? hx)
        have hs3 := hj.1.size
        have hbz : w.heap.size < w3.heap.size := (Array.getElem?_eq_some_iff.1 hj.2.1).1
        have hfr1 := hj.2.2.1
        have hfr2 := hj.2.2.2.1
        have hxl1 := hxf.2.1.1
        have hxl2 := hxf.2.1.2
        have hxh1 := hxf.2.2.1.1
        have hxh2 := hxf.2.2.1.2
        have HX := Lib.hid (And.intro hx (And.intro hno hj))
        clear c0 c1 c2 c3 c4 hx hno hj hxf
        have skip : ¬ covers c x fr → ∀ d ∈ l.take (k + 1), ¬ covers c d fr := by
          intro hn d hd
          rw [take_snoc HX.out.1] at hd
          rcases List.mem_append.1 hd with hd | hd
          · exact HX.out.2.1 d hd
          · simp at hd; subst hd; exact hn
        have HS := Lib.hid skip
        clear skip
        by_cases g1 : x.col = c.col
        · rw [g1] at c1'
          by_cases g2 : x.key = c.key
          · rw [g2] at c2'
            have HG := Lib.hid (And.intro g1 g2)
            clear g1 g2
            cases hcw : c.wr with
            | true =>
              cases hxw : x.wr with
              | false =>
                rw [hcw] at q0
                rw [hxw] at c0'
                have HW := Lib.hid (And.intro hcw hxw)
                clear hcw hxw
                go_wp2_with fail
                go_roundw
                case rel => exact ⟨rfl, rfl, k + 1, by omega, by go_num, HS.out (fun hh => by have := hh.2.2.1 HW.out.1; rw [HW.out.2] at this; cases this), HX.out.2.2.box⟩
                case measure => simp [intOf]; omega
              | true =>
                rw [hcw] at q0
                rw [hxw] at c0'
                have HW := Lib.hid (fun (_ : c.wr = true) => hxw)
                clear hcw hxw
                by_cases g5 : fr < x.lo
                · go_wp2_with fail
                  go_roundw
                  case rel => exact ⟨rfl, rfl, k + 1, by omega, by go_num, HS.out (fun hh => by have := hh.2.2.2.1; omega), HX.out.2.2.box⟩
                  case measure => simp [intOf]; omega
                · by_cases g6 : x.hi < fr
                  · go_wp2_with fail
                    go_roundw
                    case rel => exact ⟨rfl, rfl, k + 1, by omega, by go_num, HS.out (fun hh => by have := hh.2.2.2.2; omega), HX.out.2.2.box⟩
                    case measure => simp [intOf]; omega
                  · by_cases g7 : c.hi ≤ x.hi
                    · go_wp2_with fail
                      simp only [Exit.jump]
                      go_ret
                      refine BoolP.yes (fun n h1 h2 => ?_) HX.out.2.2.box.1
                      by_cases h3 : n < fr
                      · exact HX.out.2.2.2.2.2.2 n h1 h3
                      · exact ⟨x, List.mem_of_getElem? HX.out.1, HG.out.1, HG.out.2, HW.out, by omega, by omega⟩
                    · go_wp2_with fail
                      go_step3
                      refine ⟨rfl, x.hi + 1, _, _, _, _, _, _, _, _, _, _, _, _, _, _, _, _, _, _, _, _, _, _, _, _, _, _, _, _, _, _, _, _, _, _, _, _, _, _, _, _, _, _, _, _, _, _, _, _, _, _, _, _, rfl, HX.out.2.2.next HX.out.1 HG.out.1 HG.out.2 HW.out (by omega) (by omega) (by omega)⟩
            | false =>
              rw [hcw] at q0
              have HW := Lib.hid (show c.wr = true → x.wr = true from fun h => by rw [hcw] at h; cases h)
              clear hcw
              by_cases g5 : fr < x.lo
              · go_wp2_with fail
                go_roundw
                case rel => exact ⟨rfl, rfl, k + 1, by omega, by go_num, HS.out (fun hh => by have := hh.2.2.2.1; omega), HX.out.2.2.box⟩
                case measure => simp [intOf]; omega
              · by_cases g6 : x.hi < fr
                · go_wp2_with fail
                  go_roundw
                  case rel => exact ⟨rfl, rfl, k + 1, by omega, by go_num, HS.out (fun hh => by have := hh.2.2.2.2; omega), HX.out.2.2.box⟩
                  case measure => simp [intOf]; omega
                · by_cases g7 : c.hi ≤ x.hi
                  · go_wp2_with fail
                    simp only [Exit.jump]
                    go_ret
                    refine BoolP.yes (fun n h1 h2 => ?_) HX.out.2.2.box.1
                    by_cases h3 : n < fr
                    · exact HX.out.2.2.2.2.2.2 n h1 h3
                    · exact ⟨x, List.mem_of_getElem? HX.out.1, HG.out.1, HG.out.2, HW.out, by omega, by omega⟩
                  · go_wp2_with fail
                    go_step3
                    refine ⟨rfl, x.hi + 1, _, _, _, _, _, _, _, _, _, _, _, _, _, _, _, _, _, _, _, _, _, _, _, _, _, _, _, _, _, _, _, _, _, _, _, _, _, _, _, _, _, _, _, _, _, _, _, _, _, _, _, _, rfl, HX.out.2.2.next HX.out.1 HG.out.1 HG.out.2 HW.out (by omega) (by omega) (by omega)⟩
          · have g3 : (x.key == c.key) = false := by simpa using g2
            have g4 : x.key.isEmpty = x.key.isEmpty := rfl
            clear g4
            have HG := Lib.hid g2
            go_wp2_with fail
            go_roundw
            case rel => exact ⟨rfl, rfl, k + 1, by omega, by go_num, HS.out (fun hh => HG.out hh.2.1), HX.out.2.2.box⟩
            case measure => simp [intOf]; omega
        · have g3 : (x.col == c.col) = false := by simpa using g1
          have g4 : (x.col != c.col) = true := by simpa using g1
          have HG := Lib.hid g1
          clear g1
          go_wp2_with fail
          go_roundw
          case rel => exact ⟨rfl, rfl, k + 1, by omega, by go_num, HS.out (fun hh => HG.out hh.1), HX.out.2.2.box⟩
          case measure => simp [intOf]; omega
      · have hkl : k = l.length := by omega
        subst hkl
        rw [List.take_length] at hno
        have HX := Lib.hid (And.intro hno hj)
        clear hno hj
        go_wp2_with fail
        simp only [Exit.jump]
        go_ret
        refine BoolP.no (fun hh => ?_) HX.out.2.1
        obtain ⟨d, hd, hcv⟩ := hh fr HX.out.2.2.2.1 HX.out.2.2.2.2.1
        exact HX.out.1 d hd hcv

  · rintro a' w' ⟨fr, u0, u3, u6, u7, u8, u9, u10, u11, u12, u13, u14, u15, u16, u17, u18, u19, u20, u21, u22, u23, u24, u25, u26, u27, u28, u29, u30, u31, u32, u33, u34, u35, u36, u37, u38, u39, u40, u41, u42, u43, u44, u45, u46, u47, u48, u49, u50, u51, u52, u53, u54, u55, rfl, hj⟩
    have HJ := Lib.hid hj
    clear hj
    go_wp2_with fail
    go_loopw [4, 5, 12] (fun v4 v5 i wr => v4 = .bool false ∧ v5 = .int .i64 fr ∧ ∃ k : Nat, k ≤ l.length ∧ i = .int .i64 (k : Int) ∧ (∀ d ∈ l.take k, ¬ covers c d fr) ∧ CovJ w c l fr wr) (fun _ _ i _ => l.length - (intOf i).toNat)
    case atStart => exact ⟨rfl, rfl, 0, Nat.zero_le _, rfl, by simp, HJ.out⟩
    case round =>
      obtain ⟨rfl, rfl, k, hk, rfl, hno, hj⟩ := hrel
      rename World => w3
      by_cases hlt : k < l.length
      · obtain ⟨x, hx⟩ : ∃ x, l[k]? = some x := ⟨_, List.getElem?_eq_getElem hlt⟩
        obtain ⟨b, o, rfl, hFb, c0, c1, c2, c3, c4⟩ := H.out.at_ hx
        have hb : b < w.heap.size := World.block_lt_of_cell? w _ c0
        have c0' := (hj.1.cell (p := ⟨b, o + k * 5, none⟩) hb).trans c0
        have c1' := (hj.1.cell (p := ⟨b, o + k * 5 + 1, none⟩) hb).trans c1
        have c2' := (hj.1.cell (p := ⟨b, o + k * 5 + 2, none⟩) hb).trans c2
        have c3' := (hj.1.cell (p := ⟨b, o + k * 5 + 3, none⟩) hb).trans c3
        have c4' := (hj.1.cell (p := ⟨b, o + k * 5 + 4, none⟩) hb).trans c4
        obtain ⟨q0, q1, q2, q3, q4⟩ := blk_cell5 hj.2.1
        have hxf := hfit x (List.mem_of_getElem? hx)
        have hs3 := hj.1.size
        have hbz : w.heap.size < w3.heap.size := (Array.getElem?_eq_some_iff.1 hj.2.1).1
        have hfr1 := hj.2.2.1
        have hfr2 := hj.2.2.2.1
        have hxl1 := hxf.2.1.1
        have hxl2 := hxf.2.1.2
        have hxh1 := hxf.2.2.1.1
        have hxh2 := hxf.2.2.1.2
        have HX := Lib.hid (And.intro hx (And.intro hno hj))
        clear c0 c1 c2 c3 c4 hx hno hj hxf
        have skip : ¬ covers c x fr → ∀ d ∈ l.take (k + 1), ¬ covers c d fr := by
          intro hn d hd
          rw [take_snoc HX.out.1] at hd
          rcases List.mem_append.1 hd with hd | hd
          · exact HX.out.2.1 d hd
          · simp at hd; subst hd; exact hn
        have HS := Lib.hid skip
        clear skip
        by_cases g1 : x.col = c.col
        · rw [g1] at c1'
          by_cases g2 : x.key = c.key
          · rw [g2] at c2'
            have HG := Lib.hid (And.intro g1 g2)
            clear g1 g2
            cases hcw : c.wr with
            | true =>
              cases hxw : x.wr with
              | false =>
                rw [hcw] at q0
                rw [hxw] at c0'
                have HW := Lib.hid (And.intro hcw hxw)
                clear hcw hxw
                go_wp2_with fail
                go_roundw
                case rel => exact ⟨rfl, rfl, k + 1, by omega, by go_num, HS.out (fun hh => by have := hh.2.2.1 HW.out.1; rw [HW.out.2] at this; cases this), HX.out.2.2.box⟩
                case measure => simp [intOf]; omega
              | true =>
                rw [hcw] at q0
                rw [hxw] at c0'
                have HW := Lib.hid (fun (_ : c.wr = true) => hxw)
                clear hcw hxw
                by_cases g5 : fr < x.lo
                · go_wp2_with fail
                  go_roundw
                  case rel => exact ⟨rfl, rfl, k + 1, by omega, by go_num, HS.out (fun hh => by have := hh.2.2.2.1; omega), HX.out.2.2.box⟩
                  case measure => simp [intOf]; omega
                · by_cases g6 : x.hi < fr
                  · go_wp2_with fail
                    go_roundw
                    case rel => exact ⟨rfl, rfl, k + 1, by omega, by go_num, HS.out (fun hh => by have := hh.2.2.2.2; omega), HX.out.2.2.box⟩
                    case measure => simp [intOf]; omega
                  · by_cases g7 : c.hi ≤ x.hi
                    · go_wp2_with fail
                      simp only [Exit.jump]
                      go_ret
                      refine BoolP.yes (fun n h1 h2 => ?_) HX.out.2.2.box.1
                      by_cases h3 : n < fr
                      · exact HX.out.2.2.2.2.2.2 n h1 h3
                      · exact ⟨x, List.mem_of_getElem? HX.out.1, HG.out.1, HG.out.2, HW.out, by omega, by omega⟩
                    · go_wp2_with fail
                      go_step3
                      refine ⟨rfl, ⟨x.hi + 1, _, _, _, _, _, _, _, _, _, _, _, _, _, _, _, _, _, _, _, _, _, _, _, _, _, _, _, _, _, _, _, _, _, _, _, _, _, _, _, _, _, _, _, _, _, _, _, _, _, _, _, _, rfl, HX.out.2.2.next HX.out.1 HG.out.1 HG.out.2 HW.out (by omega) (by omega) (by omega)⟩, by simp [intOf]; omega⟩
            | false =>
              rw [hcw] at q0
              have HW := Lib.hid (show c.wr = true → x.wr = true from fun h => by rw [hcw] at h; cases h)
              clear hcw
              by_cases g5 : fr < x.lo
              · go_wp2_with fail
                go_roundw
                case rel => exact ⟨rfl, rfl, k + 1, by omega, by go_num, HS.out (fun hh => by have := hh.2.2.2.1; omega), HX.out.2.2.box⟩
                case measure => simp [intOf]; omega
              · by_cases g6 : x.hi < fr
                · go_wp2_with fail
                  go_roundw
                  case rel => exact ⟨rfl, rfl, k + 1, by omega, by go_num, HS.out (fun hh => by have := hh.2.2.2.2; omega), HX.out.2.2.box⟩
                  case measure => simp [intOf]; omega
                · by_cases g7 : c.hi ≤ x.hi
                  · go_wp2_with fail
                    simp only [Exit.jump]
                    go_ret
                    refine BoolP.yes (fun n h1 h2 => ?_) HX.out.2.2.box.1
                    by_cases h3 : n < fr
                    · exact HX.out.2.2.2.2.2.2 n h1 h3
                    · exact ⟨x, List.mem_of_getElem? HX.out.1, HG.out.1, HG.out.2, HW.out, by omega, by omega⟩
                  · go_wp2_with fail
                    go_step3
                    refine ⟨rfl, ⟨x.hi + 1, _, _, _, _, _, _, _, _, _, _, _, _, _, _, _, _, _, _, _, _, _, _, _, _, _, _, _, _, _, _, _, _, _, _, _, _, _, _, _, _, _, _, _, _, _, _, _, _, _, _, _, _, rfl, HX.out.2.2.next HX.out.1 HG.out.1 HG.out.2 HW.out (by omega) (by omega) (by omega)⟩, by simp [intOf]; omega⟩
          · have g3 : (x.key == c.key) = false := by simpa using g2
            have g4 : x.key.isEmpty = x.key.isEmpty := rfl
            clear g4
            have HG := Lib.hid g2
            go_wp2_with fail
            go_roundw
            case rel => exact ⟨rfl, rfl, k + 1, by omega, by go_num, HS.out (fun hh => HG.out hh.2.1), HX.out.2.2.box⟩
            case measure => simp [intOf]; omega
        · have g3 : (x.col == c.col) = false := by simpa using g1
          have g4 : (x.col != c.col) = true := by simpa using g1
          have HG := Lib.hid g1
          clear g1
          go_wp2_with fail
          go_roundw
          case rel => exact ⟨rfl, rfl, k + 1, by omega, by go_num, HS.out (fun hh => HG.out hh.1), HX.out.2.2.box⟩
          case measure => simp [intOf]; omega
      · have hkl : k = l.length := by omega
        subst hkl
        rw [List.take_length] at hno
        have HX := Lib.hid (And.intro hno hj)
        clear hno hj
        go_wp2_with fail
        simp only [Exit.jump]
        go_ret
        refine BoolP.no (fun hh => ?_) HX.out.2.1
        obtain ⟨d, hd, hcv⟩ := hh fr HX.out.2.2.2.1 HX.out.2.2.2.2.1
        exact HX.out.1 d hd hcv

-- COV END

end Go.Proofs.YtifpaagppjmbhaaGreatDoor
