/- slices.Equal of ops and of numbers. -/
import Derived.Test.YtihjcfifakcpgaaGreatDoorPrc
import Derived.Test.YtihjcfifakcpgaaGreatDoorFtS
namespace Go.Proofs.YtihjcfifakcpgaaGreatDoor
set_option maxRecDepth 100000
open Go.RowKit

theorem eq_op (x y : POp) (w : World) : (Op.equalIn 10000 51 (.agg #[.int .i64 x.d, .int .i64 x.a, .int .i64 x.b, .int .i64 x.c, .int .i64 x.n]) (.agg #[.int .i64 y.d, .int .i64 y.a, .int .i64 y.b, .int .i64 y.c, .int .i64 y.n])).run Tryz.prog w = .ok (decide (x = y)) w := by
  have hs : Tryz.prog.stoodInHeld 51 = false := by kernel_rfl
  have hf : Tryz.prog.underlying 51 = some (.struct (Tryz.prog.fieldsOf 51)) := by unfold Program.fieldsOf; rw [Tryz.underlying51]
  obtain ⟨a1, a2, a3, a4, a5⟩ := x
  obtain ⟨b1, b2, b3, b4, b5⟩ := y
  rw [run_equalIn_agg w 9999 51 _ _ hf hs]
  unfold Program.fieldsOf
  rw [Tryz.underlying51]
  simp [Op.eqFields, go_sem, Tryz.underlying3]
  by_cases h1 : a1 = b1 <;> by_cases h2 : a2 = b2 <;> by_cases h3 : a3 = b3 <;> by_cases h4 : a4 = b4 <;> by_cases h5 : a5 = b5 <;> simp [h1, h2, h3, h4, h5]
theorem Tryz.guardOp : Tryz.prog.eqGuardType Tryz.prog.depth 51 = false := by kernel_rfl

set_option maxRecDepth 100000 in
set_option maxHeartbeats 400000 in
theorem equalO_ok (w : World) (F G : Nat → Prop) (v u : Value) (a b : List POp) (ha : OpRd w F v a) (hb : OpRd w G u b) (hl : a.length ≤ 1000000) :
    Calls Tryz.prog 62 #[v, u] w (BoolP (a = b) w) := by
  obtain ⟨A, c, rfl, hnc, hcm⟩ := ha.slice
  obtain ⟨B, d, rfl, hnd, hdm⟩ := hb.slice
  have HA := Lib.hid ha
  have HB := Lib.hid hb
  clear ha hb
  by_cases hlen : a.length = b.length
  · obtain ⟨n, hn⟩ : ∃ n, a.length = n := ⟨_, rfl⟩
    have hn2 : b.length = n := by omega
    rw [hn] at HA hl hnc ⊢
    rw [hn2] at HB hnd ⊢
    have HN := Lib.hid (And.intro hn hn2)
    clear hn hn2 hlen
    go_enter Tryz.func62, Tryz.ntmps62
    go_wp2_with fail
    go_loopw [13] (fun i wr => ∃ k : Nat, k ≤ n ∧ i = .int .i64 (k : Int) ∧ a.take k = b.take k ∧ Below w.heap.size w wr) (fun i _ => n - (intOf i).toNat)
    case atStart => exact ⟨0, Nat.zero_le _, rfl, by simp, Below.refl _ _⟩
    case round =>
      obtain ⟨k, hk, rfl, htk, hbl⟩ := hrel
      by_cases hlt : k < n
      · obtain ⟨x, hx⟩ : ∃ x, a[k]? = some x := ⟨_, List.getElem?_eq_getElem (by rw [HN.out.1]; exact hlt)⟩
        obtain ⟨y, hy⟩ : ∃ y, b[k]? = some y := ⟨_, List.getElem?_eq_getElem (by rw [HN.out.2]; exact hlt)⟩
        obtain ⟨b1, o1, rfl, hF1, c0, c1, c2, c3, c4⟩ := HA.out.at_ hx
        obtain ⟨b2, o2, rfl, hF2, d0, d1, d2, d3, d4⟩ := HB.out.at_ hy
        have l1 : b1 < w.heap.size := World.block_lt_of_cell? w _ c0
        have l2 : b2 < w.heap.size := World.block_lt_of_cell? w _ d0
        have c0' := (hbl.cell (p := ⟨b1, o1 + k * 5, none⟩) l1).trans c0
        have c1' := (hbl.cell (p := ⟨b1, o1 + k * 5 + 1, none⟩) l1).trans c1
        have c2' := (hbl.cell (p := ⟨b1, o1 + k * 5 + 2, none⟩) l1).trans c2
        have c3' := (hbl.cell (p := ⟨b1, o1 + k * 5 + 3, none⟩) l1).trans c3
        have c4' := (hbl.cell (p := ⟨b1, o1 + k * 5 + 4, none⟩) l1).trans c4
        have d0' := (hbl.cell (p := ⟨b2, o2 + k * 5, none⟩) l2).trans d0
        have d1' := (hbl.cell (p := ⟨b2, o2 + k * 5 + 1, none⟩) l2).trans d1
        have d2' := (hbl.cell (p := ⟨b2, o2 + k * 5 + 2, none⟩) l2).trans d2
        have d3' := (hbl.cell (p := ⟨b2, o2 + k * 5 + 3, none⟩) l2).trans d3
        have d4' := (hbl.cell (p := ⟨b2, o2 + k * 5 + 4, none⟩) l2).trans d4
        have HX := Lib.hid (And.intro hx (And.intro hy (And.intro htk hbl)))
        clear c0 c1 c2 c3 c4 d0 d1 d2 d3 d4 hx hy htk hbl
        have heq := eq_op x y
        have hgd := Tryz.guardOp
        by_cases hxy : x = y
        · have hd : decide (x = y) = true := by simpa using hxy
          rw [hd] at heq
          have HXY := Lib.hid hxy
          clear hd hxy
          go_wp2_with fail
          go_quiet (fail)
          clear heq hgd
          go_wp2_with fail
          go_roundw
          case rel => exact ⟨k + 1, by omega, by go_num, by rw [take_snoc HX.out.1, take_snoc HX.out.2.1, HX.out.2.2.1, HXY.out], below_drewN HX.out.2.2.2 _⟩
          case measure => simp [intOf]; omega
        · have hd : decide (x = y) = false := by simpa using hxy
          rw [hd] at heq
          have HXY := Lib.hid hxy
          clear hd hxy
          go_wp2_with fail
          go_quiet (fail)
          clear heq hgd
          go_wp2_with fail
          go_ret
          exact BoolP.no (fun e => HXY.out (by have h1 := HX.out.1; rw [e, HX.out.2.1] at h1; injection h1 with h1; exact h1.symm)) (below_drewN HX.out.2.2.2 _)
      · have hkn : k = n := by omega
        subst hkn
        have HX := Lib.hid (And.intro htk hbl)
        clear htk hbl
        go_wp2_with fail
        go_ret
        refine BoolP.yes ?_ HX.out.2
        have := HX.out.1
        rw [List.take_of_length_le (by rw [HN.out.1]; exact Nat.le_refl _), List.take_of_length_le (by rw [HN.out.2]; exact Nat.le_refl _)] at this
        exact this
  · have hne : ((a.length : Int) == (b.length : Int)) = false := by simp; omega
    have hne2 : ((a.length : Int) != (b.length : Int)) = true := by simp; omega
    have HL := Lib.hid hlen
    go_enter Tryz.func62, Tryz.ntmps62
    go_wp2_with fail
    go_ret
    exact BoolP.no (fun e => HL.out (by rw [e])) (Below.refl _ _)

def ivs (l : List Int) : List Value := l.map (Value.int .i64)
theorem ivs_at {w : World} {F : Nat → Prop} {A : Option Addr} {n c : Nat} {xs : List Int} (h : Rd w F (.slice A n c) (ivs xs)) : xs.length = n ∧ n ≤ c ∧ c ≤ maxLen ∧ ∀ j x, xs[j]? = some x → ∃ b o, A = some ⟨b, o, none⟩ ∧ F b ∧ w.cell? ⟨b, o + j, none⟩ = some (.int .i64 x) := by
  obtain ⟨A', n', c', hv, hl, h1, h2, h3⟩ := h
  injection hv with e1 e2 e3
  subst e1 e2 e3
  simp [ivs] at hl
  refine ⟨hl, h1, h2, fun j x hj => ?_⟩
  have hlt := (List.getElem?_eq_some_iff.1 hj).1
  obtain ⟨b, o, e, hF, hu⟩ := h3 (by omega)
  exact ⟨b, o, e, hF, hu j (.int .i64 x) (by simp [ivs, hj])⟩
theorem ivs_slice {w : World} {F : Nat → Prop} {v : Value} {xs : List Int} (h : Rd w F v (ivs xs)) : ∃ A c, v = .slice A xs.length c ∧ xs.length ≤ c ∧ c ≤ maxLen := by
  obtain ⟨A', n', c', hv, hl, h1, h2, _⟩ := h
  simp [ivs] at hl
  exact ⟨A', c', by rw [hl]; exact hv, by omega, h2⟩
set_option maxRecDepth 100000 in
set_option maxHeartbeats 400000 in
theorem equalI_ok (w : World) (F G : Nat → Prop) (va vb : Value) (xs ys : List Int) (ha : Rd w F va (ivs xs)) (hb : Rd w G vb (ivs ys)) :
    Calls Tryz.prog 63 #[va, vb] w (BoolP (xs = ys) w) := by
  obtain ⟨A, c, rfl, _, _⟩ := ivs_slice ha
  obtain ⟨A', c', rfl, _, _⟩ := ivs_slice hb
  obtain ⟨_, hc, hm, hx⟩ := ivs_at ha
  obtain ⟨_, hc', hm', hx'⟩ := ivs_at hb
  unfold maxLen at hm hm'
  have HX := Lib.hid hx
  have HX' := Lib.hid hx'
  clear hx hx' ha hb
  by_cases hlen : xs.length = ys.length
  · rw [← hlen]
    have HL := Lib.hid hlen
    clear hlen
    go_enter Tryz.func63, Tryz.ntmps63
    go_wp2_with fail
    go_loopw [13] (fun i wr => ∃ k : Nat, k ≤ xs.length ∧ i = .int .i64 (k : Int) ∧ xs.take k = ys.take k ∧ ∃ m, wr = w.drewN m) (fun i _ => xs.length - (intOf i).toNat)
    case atStart => exact ⟨0, Nat.zero_le _, rfl, rfl, 0, rfl⟩
    case round =>
      obtain ⟨k, hk, rfl, heq, m, rfl⟩ := hrel
      have HE := Lib.hid heq
      clear heq
      by_cases hlt : k < xs.length
      · obtain ⟨x, hxk⟩ : ∃ x, xs[k]? = some x := ⟨_, List.getElem?_eq_getElem hlt⟩
        obtain ⟨y, hyk⟩ : ∃ y, ys[k]? = some y := ⟨_, List.getElem?_eq_getElem (by rw [← HL.out]; exact hlt)⟩
        obtain ⟨b, o, rfl, _, c1⟩ := HX.out k x hxk
        obtain ⟨b', o', rfl, _, c2⟩ := HX'.out k y hyk
        have i1 : (0 : Int) ≤ (k : Int) := by omega
        have i2 : (k : Int) < (xs.length : Int) := by omega
        have HK := Lib.hid (And.intro hxk hyk)
        clear HX HX' hxk hyk
        go_wp2_with fail
        by_cases hxy : x = y
        · subst hxy
          go_quiet (fail)
          go_wp2_with fail
          go_roundw
          case rel => exact ⟨k + 1, by omega, by go_num, by rw [List.take_add_one, List.take_add_one, HK.out.1, HK.out.2, HE.out], _, rfl⟩
          case measure => simp [intOf]; omega
        · have hne : (x != y) = true := by simpa using hxy
          have HN := Lib.hid hxy
          clear hxy
          go_quiet (fail)
          go_wp2_with fail
          go_ret
          refine BoolP.no (fun h => HN.out ?_) (below_drewN (below_drewN (Below.refl _ _) _) _)
          have h1 := HK.out.1
          rw [h, HK.out.2] at h1
          injection h1 with h1
          exact h1.symm
      · obtain rfl : k = xs.length := by omega
        go_wp2_with fail
        go_ret
        refine BoolP.yes ?_ (below_drewN (Below.refl _ _) _)
        have := HE.out
        rw [List.take_length, HL.out, List.take_length] at this
        exact this
  · have hne : ((xs.length : Int) != (ys.length : Int)) = true := by simp; omega
    have HL := Lib.hid hlen
    clear hlen
    go_enter Tryz.func63, Tryz.ntmps63
    go_wp2_with fail
    go_ret
    exact BoolP.no (fun h => HL.out (by rw [h])) (Below.refl _ _)
end Go.Proofs.YtihjcfifakcpgaaGreatDoor
