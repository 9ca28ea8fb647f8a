/- Proved: LocksFirst returns true for every input: releases of two that are both ready, in either order, leave the same ones ready; no condition. -/
import Derived.Test.YtdmpdlpfanfjoaaLockO
namespace Go.Proofs.Ytdmpdlpfanfjoaa
open Go.ChangeShapes Go.WideShapes Go.ChangeAt Go.RowKit

/-- While the footprints come, into two Locks alike. -/
def FirstR (w1 : World) (bx b2 : Nat) (k : Nat) (wr : World) : Prop :=
  ∃ F G C l n sm la, One w1 wr F C bx sm la l n ∧ One w1 wr G C b2 sm la l n ∧ (∀ k, F k → ¬ G k) ∧ l.length = k ∧ (sm = true → la < (k : Int)) ∧ n ≤ 100 * k

theorem idx_mod {x n : Int} (hn : 0 < n) : ∃ r : Int, ∃ j : Nat, x.tmod n = r ∧ (r + n).tmod n = (j : Int) ∧ (j : Int) < n ∧ -n < r ∧ r < n := by
  have h1 : -n < x.tmod n := by
    have := Int.lt_tmod_of_pos x hn
    omega
  have h2 : x.tmod n < n := Int.tmod_lt_of_pos x hn
  have h3 : 0 ≤ x.tmod n + n := by omega
  have h4 : (x.tmod n + n).tmod n = (x.tmod n + n) % n := Int.tmod_eq_emod_of_nonneg h3
  have h5 := Int.emod_nonneg (x.tmod n + n) (show n ≠ 0 by omega)
  have h6 := Int.emod_lt_of_pos (x.tmod n + n) hn
  exact ⟨x.tmod n, ((x.tmod n + n) % n).toNat, rfl, by rw [h4]; omega, by omega, h1, h2⟩

set_option maxRecDepth 100000 in
set_option maxHeartbeats 1000000 in
theorem lfirst_many (w0 : World) (v0 : Value) (ls : List (List Cl)) (x0 x1 : Int) (h0 : RowsC w0 v0 ls) (hl : 20 < ls.length) :
    Calls Try.prog 11 #[v0, .agg #[.int .i64 x0, .int .i64 x1]] w0 fun e w' => e = .returned (.bool true) ∧ Below w0.heap.size w0 w' := by
  obtain ⟨A0, c0, rfl, hlm⟩ := h0.slice
  unfold maxLen at hlm
  clear h0
  go_enter Try.func11, Try.ntmps11
  go_wp2_with fail
  refine (awake10_ok _).mono ?_
  rintro e w1 ⟨rfl, hb⟩
  have HB := Lib.hid (unbox1 hb)
  clear hb
  go_wp2_with fail
  go_ret
  exact ⟨rfl, HB.out⟩

set_option maxRecDepth 100000 in
set_option maxHeartbeats 4000000 in
theorem lfirst_ok (w0 : World) (v0 : Value) (ls : List (List Cl)) (x0 x1 : Int) (h0 : RowsC w0 v0 ls) (hl : ls.length ≤ 20) (i0 : I64 x0) (i1 : I64 x1) :
    Calls Try.prog 11 #[v0, .agg #[.int .i64 x0, .int .i64 x1]] w0 fun e w' => e = .returned (.bool true) ∧ Below w0.heap.size w0 w' := by
  obtain ⟨A0, c0, rfl, hlm⟩ := h0.slice
  have hb0 := box1 w0 (.cells #[.int .i64 x0, .int .i64 x1] 54)
  have hbn := heap_alloc_new w0 (.cells #[.int .i64 x0, .int .i64 x1] 54)
  have hr := h0.below hb0
  have hsz : w0.heap.size < (w0.alloc (.cells #[.int .i64 x0, .int .i64 x1] 54)).heap.size := by simp
  have HI := Lib.hid (And.intro i0 i1)
  clear h0 hlm i0 i1
  go_enter Try.func11, Try.ntmps11
  go_upto_region 1 with fail
  generalize w0.alloc (.cells #[.int .i64 x0, .int .i64 x1] 54) = wz at hb0 hbn hr hsz ⊢
  have HZ := Lib.hid (And.intro hb0 (And.intro hbn (And.intro hr hsz)))
  clear hb0 hbn hr hsz
  go_wp2_with fail
  refine (lnew_ok wz).mono ?_
  rintro e w1 ⟨b1, rfl, hb1, hl1⟩
  have HX := Lib.hid (One.start hb1 hl1)
  clear hb1 hl1
  go_wp2_with fail
  refine (lnew_ok w1).mono ?_
  rintro e w2 ⟨b2, rfl, hb2, hl2⟩
  have hy : One wz w2 (New w1 w2) (fun _ => False) b2 false 0 [] 0 := ⟨hl2, fun k hk => Nat.le_trans HX.out.2.2.size hk.1, HX.out.2.2.trans (hb2.mono HX.out.2.2.size)⟩
  have hap : ∀ k, New wz w1 k → ¬ New w1 w2 k := fun k h1 h2 => by have := h1.2; have := h2.1; omega
  have HS := Lib.hid (show FirstR wz b1 b2 0 w2 from ⟨_, _, _, [], 0, false, 0, HX.out.below hb2, hy, hap, rfl, (fun h => by cases h), Nat.zero_le _⟩)
  clear HX hy hap hb2 hl2
  go_wp2_with fail
  go_loopw [7] (fun i wr => ∃ k : Nat, k ≤ ls.length ∧ i = .int .i64 (k : Int) ∧ FirstR wz b1 b2 k wr) (fun i _ => ls.length - (intOf i).toNat)
  case atStart => exact ⟨0, Nat.zero_le _, rfl, HS.out⟩
  case round =>
    obtain ⟨k, hk, rfl, F, G, C, l, n, sm, la, hx, hy, hap, hlk, hsm, hn⟩ := hrel
    by_cases hlt : k < ls.length
    · obtain ⟨q, hq⟩ : ∃ q, ls[k]? = some q := ⟨_, List.getElem?_eq_getElem hlt⟩
      obtain ⟨br, or_, Ar, cr, rfl, hcr, hrd, hfit⟩ := RowsC.at_ HZ.out.2.2.1 hq
      have hcr' := (hx.2.2.cell (p := ⟨br, or_ + k, none⟩) (World.block_lt_of_cell? _ _ hcr)).trans hcr
      have hqm : q.length ≤ 9223372036854775807 := by have := RdK.length_le hrd; simp [maxLen] at this; omega
      have HQ := Lib.hid (And.intro hrd (And.intro hfit hq))
      have HL := Lib.hid (And.intro hx (And.intro hy (And.intro hap (And.intro hlk (And.intro hsm hn)))))
      clear hcr hrd hfit hq hx hy hap hlk hsm hn
      by_cases hq20 : 20 < q.length
      · go_wp2_with fail
        refine (awake10_ok _).mono ?_
        rintro e w3 ⟨rfl, hb⟩
        have HB := Lib.hid (HZ.out.1.trans ((HL.out.1.2.2.trans (hb.mono HL.out.1.2.2.size)).mono HZ.out.1.size))
        clear hb
        go_wp2_with fail
        go_ret
        exact ⟨rfl, HB.out⟩
      · go_wp2_with fail
        refine (new_ok wr (fun _ => True) _ q (RdK.below HQ.out.1 HL.out.1.2.2) (by omega) HQ.out.2.1).mono ?_
        intro e w3 hnp
        obtain ⟨u1, n1, rfl, hnv⟩ := hnp.named
        have hb3 := hnv.1
        rcases hnv.cases with ⟨hn0, rfl⟩ | ⟨rfl, he0, out, hf, h64, A3, c3, rfl, hO⟩
        · have e1 : (n1 == 0) = false := by simpa using hn0
          have e2 : (n1 != 0) = true := by simpa using hn0
          have HB3 := Lib.hid hb3
          clear hn0 hb3 hnv hnp
          go_wp2_with fail
          refine (awake10_ok _).mono ?_
          rintro e w4 ⟨rfl, hb⟩
          have hb' := unbox1 hb
          have HB := Lib.hid (HZ.out.1.trans ((HL.out.1.2.2.trans ((HB3.out.trans (hb'.mono HB3.out.size)).mono HL.out.1.2.2.size)).mono HZ.out.1.size))
          clear hb hb'
          go_wp2_with fail
          go_ret
          exact ⟨rfl, HB.out⟩
        · have hft := FtC.box (C := C) hb3 hO (Nat.le_refl _)
          have hbx : Below wr.heap.size wr (w3.alloc (.cells #[.slice A3 out.length c3] 30)) := hb3.alloc hb3.size _
          clear hO hnv hnp hb3 hf he0
          go_upto_region 13 with fail
          generalize w3.alloc (.cells #[.slice A3 out.length c3] 30) = w4 at hft hbx ⊢
          obtain ⟨D, hD⟩ : ∃ D, Mor C wr w4 = D := ⟨_, rfl⟩
          have hx4 := HL.out.1.mor hbx
          have hy4 := HL.out.2.1.mor hbx
          rw [hD] at hx4 hy4 hft
          have FQ := Lib.hid hft
          have fb := FQ.out.cell
          have HX4 := Lib.hid (And.intro hx4 hy4)
          clear hx4 hy4 hft hbx hD
          have hlk := HL.out.2.2.2.1
          have hn5 := HL.out.2.2.2.2.2
          have hl5 : l.length ≤ 100000 := by omega
          have hn6 : n ≤ 1000000000 := by omega
          have HLK := Lib.hid hlk
          clear hlk
          go_wp2_with fail
          refine (enq_ok w4 F D b1 n sm la l (k : Int) (.slice A3 out.length c3) out HX4.out.1.1 hl5 hn6 (by unfold I64; omega) FQ.out.2.2 (by omega)).mono ?_
          intro e w5 hq5
          obtain ⟨rfl, hoF, F', hx5, hF'⟩ := hq5.next HX4.out.1 HL.out.2.2.2.2.1
          have hy5 := HX4.out.2.other HX4.out.1 hoF HL.out.2.2.1
          have hap5 := HX4.out.2.apart2 HL.out.2.2.1 hF'
          have FQ5 := Lib.hid (FQ.out.only hoF HX4.out.1.cF)
          have fb5 := FQ5.out.cell
          have HX5 := Lib.hid (And.intro hx5 (And.intro hy5 hap5))
          clear hq5 hoF hF' hx5 hy5 hap5 fb
          go_wp2_with fail
          refine (enq_ok w5 G D b2 n sm la l (k : Int) (.slice A3 out.length c3) out HX5.out.2.1.1 hl5 hn6 (by unfold I64; omega) FQ5.out.2.2 (by omega)).mono ?_
          intro e w6 hq6
          obtain ⟨rfl, hoG, G', hy6, hG'⟩ := hq6.next HX5.out.2.1 HL.out.2.2.2.2.1
          have hx6 := HX5.out.1.other HX5.out.2.1 hoG (fun k hG hF => HX5.out.2.2 k hF hG)
          have hap6 := HX5.out.1.apart2 (fun k hG hF => HX5.out.2.2 k hF hG) hG'
          have HX6 := Lib.hid (And.intro hx6 (And.intro hy6 hap6))
          clear hq6 hoG hG' hx6 hy6 hap6 fb5
          go_wp2_with fail
          go_roundw
          case rel => exact ⟨k + 1, by omega, by go_num, F', G', D, _, _, true, (k : Int), HX6.out.1, HX6.out.2.1, fun k hF hG => HX6.out.2.2 k hG hF, by simp [HLK.out], fun _ => by omega, by have := HLK.out; omega⟩
          case measure => simp [intOf]; omega
    · have hkl : k = ls.length := by omega
      subst hkl
      have HL := Lib.hid (And.intro hx (And.intro hy (And.intro hap hlk)))
      have hl5 : l.length ≤ 20 := by omega
      have hn6 : n ≤ 1000000 := by omega
      clear hx hy hap hlk hsm hn HS
      go_wp2_with fail
      refine (lkReady_ok wr F C b1 n sm la l HL.out.1.1 (by omega)).mono ?_
      rintro e w3 ⟨v3, rfl, hf3⟩
      have hb3 := hf3.below
      have hx3 := HL.out.1.below hb3
      have hy3 := HL.out.2.1.below hb3
      have hri := hf3.rd
      obtain ⟨A3, c3, rfl, _⟩ := hri.ints_slice
      have hrl : (ready l).length ≤ l.length := by
        unfold ready
        refine Nat.le_trans (List.length_filter_le _ _) ?_
        simp [nums]
      obtain ⟨rs, hrs⟩ : ∃ rs, ready l = rs := ⟨_, rfl⟩
      rw [hrs] at hri hrl ⊢
      have H3 := Lib.hid (And.intro hx3 (And.intro hy3 (And.intro hri.ints_at.2 hrs)))
      clear hf3 hb3 hx3 hy3 hri hrs
      by_cases hz : rs = []
      · have hle : l = [] := Classical.byContradiction fun hh => ready_ne HL.out.1.1.line.1 hh (by rw [H3.out.2.2.2]; exact hz)
        have hl0 : ls.length = 0 := by rw [← HL.out.2.2.2, hle]; rfl
        subst hz
        have HB0 := Lib.hid hle
        clear hle
        rw [hl0] at *
        go_wp2_with fail
        refine (awake10_ok _).mono ?_
        rintro e w4 ⟨rfl, hb⟩
        have HB := Lib.hid (HZ.out.1.trans ((H3.out.1.2.2.trans (hb.mono H3.out.1.2.2.size)).mono HZ.out.1.size))
        clear hb
        go_wp2_with fail
        go_ret
        exact ⟨rfl, HB.out⟩
      · have hpos := List.length_pos_iff.2 hz
        obtain ⟨m, hm⟩ : ∃ m, rs.length = m := ⟨_, rfl⟩
        rw [hm] at hpos hrl ⊢
        have HM := Lib.hid (And.intro hm hz)
        clear hm hz
        obtain ⟨r0, j0, e00, e01, e02, e03, e04⟩ := idx_mod (x := x0) (n := (m : Int)) (by omega)
        obtain ⟨r1, j1, e10, e11, e12, e13, e14⟩ := idx_mod (x := x1) (n := (m : Int)) (by omega)
        obtain ⟨a, ha⟩ : ∃ a, rs[j0]? = some a := ⟨_, List.getElem?_eq_getElem (by rw [HM.out.1]; omega)⟩
        obtain ⟨bb, hb⟩ : ∃ bb, rs[j1]? = some bb := ⟨_, List.getElem?_eq_getElem (by rw [HM.out.1]; omega)⟩
        obtain ⟨bl, ol, rfl, ca⟩ := H3.out.2.2.1 j0 a ha
        obtain ⟨bl', ol', hAe, cb⟩ := H3.out.2.2.1 j1 bb hb
        injection hAe with hAe
        injection hAe with hAe1 hAe2
        subst hAe1 hAe2
        have hia : I64 a := by
          have h1 : a ∈ ready l := by rw [H3.out.2.2.2]; exact List.mem_of_getElem? ha
          obtain ⟨f, hf⟩ := mem_nums.1 (mem_ready.1 h1).1
          exact HL.out.1.1.line.2.2 _ hf
        have hib : I64 bb := by
          have h1 : bb ∈ ready l := by rw [H3.out.2.2.2]; exact List.mem_of_getElem? hb
          obtain ⟨f, hf⟩ := mem_nums.1 (mem_ready.1 h1).1
          exact HL.out.1.1.line.2.2 _ hf
        have HAB := Lib.hid (And.intro ha (And.intro hb (And.intro hia hib)))
        clear ha hb hia hib
        have tb : w3.heap[w0.heap.size]? = some (.cells #[.int .i64 x0, .int .i64 x1] 54 (0, 0)) := by rw [H3.out.1.2.2.block _ HZ.out.2.2.2]; exact HZ.out.2.1
        obtain ⟨t0, t1, _, _⟩ := blk_cell2 tb
        clear tb
        have hmz : ¬ ((m : Int) = 0) := by omega
        have hmz' : ((m : Int) == 0) = false := by simpa using hmz
        go_upto_region 21 with fail
        go_upto_region 23 with fail
        clear ca cb t0 t1 hmz hmz' e00 e01 e02 e03 e04 e10 e11 e12 e13 e14
        by_cases hab : a = bb
        · go_wp2_with fail
          refine (awake10_ok _).mono ?_
          rintro e w4 ⟨rfl, hb⟩
          have HB := Lib.hid (HZ.out.1.trans ((H3.out.1.2.2.trans (hb.mono H3.out.1.2.2.size)).mono HZ.out.1.size))
          clear hb
          go_wp2_with fail
          go_ret
          exact ⟨rfl, HB.out⟩
        · have hra : a ∈ ready l := by rw [H3.out.2.2.2]; exact List.mem_of_getElem? HAB.out.1
          have hrb : bb ∈ ready l := by rw [H3.out.2.2.2]; exact List.mem_of_getElem? HAB.out.2.1
          have hrise := HL.out.1.1.line.1
          have hrab := ready_out (id := a) hrb (fun e => hab e.symm)
          have hrba := ready_out (id := bb) hra hab
          have hlo1 := outL_len hrise (mem_ready.1 hra).1
          have hlo2 := outL_len (hrise.out a) (mem_ready.1 hrab).1
          have hcomm := outL_comm l a bb
          have hl1 : (outL l a).length ≤ 20 := by omega
          have hl2 : (outL l bb).length ≤ 20 := by have := outL_le l bb; omega
          obtain ⟨la_, hla_⟩ : ∃ z, (outL l a) = z := ⟨_, rfl⟩
          obtain ⟨lb_, hlb_⟩ : ∃ z, (outL l bb) = z := ⟨_, rfl⟩
          obtain ⟨lz, hlz⟩ : ∃ z, outL (outL l a) bb = z := ⟨_, rfl⟩
          have hlen : ls.length = lz.length + 2 := by rw [← hlz, ← HL.out.2.2.2]; omega
          have hap := HL.out.2.2.1
          have HR := Lib.hid (And.intro hra (And.intro hrb (And.intro hrab (And.intro hrba (And.intro hcomm (And.intro hlz (And.intro hlen hap)))))))
          rw [hla_] at hl1
          rw [hlb_] at hl2
          have HE := Lib.hid (And.intro hla_ hlb_)
          have hlz20 : lz.length ≤ 20 := by omega
          have hab' : ¬ (bb = a) := fun e => hab e.symm
          clear hra hrb hrise hrab hrba hlo1 hlo2 hcomm hlz hlen hap hla_ hlb_
          go_wp2_with fail
          refine (rel_ok w3 F C b1 n sm la l a H3.out.1.1 (by omega) (by omega) HAB.out.2.2.1).mono ?_
          intro e w4 hq
          obtain ⟨rfl, hoF, hx4⟩ := hq.yes H3.out.1 HR.out.1
          have hy4 := H3.out.2.1.other H3.out.1 hoF HR.out.2.2.2.2.2.2.2
          have H4 := Lib.hid (And.intro hx4 hy4)
          clear hq hoF hx4 hy4
          go_wp2_with fail
          refine (rel_ok w4 F C b1 _ sm la (outL l a) bb H4.out.1.1 (by rw [HE.out.1]; omega) (by omega) HAB.out.2.2.2).mono ?_
          intro e w5 hq
          obtain ⟨rfl, hoF, hx5⟩ := hq.yes H4.out.1 HR.out.2.2.1
          rw [HR.out.2.2.2.2.2.1] at hx5
          have hy5 := H4.out.2.other H4.out.1 hoF HR.out.2.2.2.2.2.2.2
          have H5 := Lib.hid (And.intro hx5 hy5)
          clear hq hoF hx5 hy5 H4
          go_wp2_with fail
          refine (rel_ok w5 G C b2 n sm la l bb H5.out.2.1 (by omega) (by omega) HAB.out.2.2.2).mono ?_
          intro e w6 hq
          obtain ⟨rfl, hoG, hy6⟩ := hq.yes H5.out.2 HR.out.2.1
          have hx6 := H5.out.1.other H5.out.2 hoG (fun k hG hF => HR.out.2.2.2.2.2.2.2 k hF hG)
          have H6 := Lib.hid (And.intro hx6 hy6)
          clear hq hoG hx6 hy6 H5
          go_wp2_with fail
          refine (rel_ok w6 G C b2 _ sm la (outL l bb) a H6.out.2.1 (by rw [HE.out.2]; omega) (by omega) HAB.out.2.2.1).mono ?_
          intro e w7 hq
          obtain ⟨rfl, hoG, hy7⟩ := hq.yes H6.out.2 HR.out.2.2.2.1
          rw [← HR.out.2.2.2.2.1, HR.out.2.2.2.2.2.1] at hy7
          have hx7 := H6.out.1.other H6.out.2 hoG (fun k hG hF => HR.out.2.2.2.2.2.2.2 k hF hG)
          have H7 := Lib.hid (And.intro hx7 hy7)
          clear hq hoG hx7 hy7 H6
          have hlsz := HR.out.2.2.2.2.2.2.1
          go_wp2_with fail
          refine (lkReady_ok w7 F C b1 _ sm la lz H7.out.1.1 (by omega)).mono ?_
          rintro e w8 ⟨v8, rfl, hf8⟩
          have H8 := Lib.hid (And.intro (H7.out.1.below hf8.below) (And.intro (H7.out.2.below hf8.below) hf8.rd))
          clear hf8 H7
          go_wp2_with fail
          refine (lkReady_ok w8 G C b2 _ sm la lz H8.out.2.1.1 (by omega)).mono ?_
          rintro e w9 ⟨v9, rfl, hf9⟩
          have H9 := Lib.hid (And.intro (H8.out.1.below hf9.below) (And.intro (H8.out.2.1.below hf9.below) (And.intro (H8.out.2.2.below hf9.below) hf9.rd)))
          clear hf9 H8
          go_wp2_with fail
          have hrl9 : (ready lz).length ≤ 1000000 := by
            have : (ready lz).length ≤ lz.length := by
              unfold ready
              refine Nat.le_trans (List.length_filter_le _ _) ?_
              simp [nums]
            omega
          refine (ints_ok w9 _ _ v8 v9 (ready lz) (ready lz) H9.out.2.2.1 H9.out.2.2.2 hrl9).mono ?_
          rintro e w10 ⟨r, hr, rfl, hb10⟩
          obtain rfl : r = true := hr.2 rfl
          have H10 := Lib.hid (And.intro (H9.out.1.below hb10) (H9.out.2.1.below hb10))
          clear hr hb10 H9 hrl9
          go_wp2_with fail
          refine (lkLen_ok w10 F C b1 _ sm la lz H10.out.1.1).mono ?_
          rintro e w11 ⟨rfl, rfl⟩
          go_wp2_with fail
          refine (lkLen_ok w10 G C b2 _ sm la lz H10.out.2.1).mono ?_
          rintro e w11 ⟨rfl, rfl⟩
          go_wp2_with fail
          refine (lkLen_ok w10 F C b1 _ sm la lz H10.out.1.1).mono ?_
          rintro e w11 ⟨rfl, rfl⟩
          go_wp2_with fail
          refine (awake10_ok _).mono ?_
          rintro e w12 ⟨rfl, hb⟩
          have HB := Lib.hid (HZ.out.1.trans ((H10.out.1.2.2.trans (hb.mono H10.out.1.2.2.size)).mono HZ.out.1.size))
          clear hb
          go_wp2_with fail
          go_ret
          exact ⟨rfl, HB.out⟩

set_option maxRecDepth 100000 in
theorem locksFirst_lifted (os : Os) (started : os.Started) (H : Type) (enc : TypeId × Value → H) :
    ReturnsInHanded {} Try.checked os 11 .any (Rows.locksFirstSpec.pre6 enc Try.prog Try.f11 Rows.locksFirstRow.domain false) (Rows.locksFirstSpec.post enc Try.prog Try.f11 false true false false) := by
  refine law_lifted os started H enc 11 Try.f11 Rows.locksFirstSpec (by kernel_rfl) Try.func11 rfl (by kernel_rfl) ?_ ?_
    (ChangeSpec.witness6 (enc := enc) (C := Try.checked) false ⟨#[], #[.slice none 0 0, .agg #[.int .i64 0, .int .i64 0]], []⟩ 8 (by kernel_rfl) (by kernel_rfl) (by kernel_rfl) (by kernel_rfl)) ?_
  · rw [Try.params11]
    intro t ht
    simp at ht
    rcases ht with rfl | rfl
    · exact ⟨by kernel_rfl, of_decide_eq_true (by kernel_rfl)⟩
    · exact ⟨by kernel_rfl, of_decide_eq_true (by kernel_rfl)⟩
  · intro ds hl
    rw [Try.params11] at hl
    match ds, hl with
    | [d1, d2], _ => exact ⟨rfl, rfl, rfl⟩
  · intro W base args ds p hval hA
    rw [Try.params11] at hA hval
    obtain ⟨v0, v1, d0, d1, p0, p1, hargs, rfl, rfl, h0, h1⟩ := trodAll_two hA
    subst hargs
    obtain ⟨x0, q0⟩ := open_rows (hval 0 44 v0 rfl rfl) h0
    obtain ⟨x1, q1⟩ := open_two (hval 1 54 v1 rfl rfl) h1
    obtain ⟨y1, rfl, hy0, hy1⟩ := q1
    by_cases hl : x0.length ≤ 20
    · exact lfirst_ok W v0 x0 x1 y1 q0 hl hy0 hy1
    · exact lfirst_many W v0 x0 x1 y1 q0 (by omega)

theorem locksFirst_holds : Rows.LocksFirstSaid :=
  OpenClaim.holds_of_wide 11 Try.f11 rfl rfl rfl rfl rfl rfl rfl ⟨rfl, rfl, rfl, rfl, rfl⟩ rfl rfl rfl rfl rfl (by kernel_rfl) Try.func11 (by kernel_rfl)
    (of_decide_eq_true (by kernel_rfl)) (by unfold Func.isWrapper; rw [if_neg (of_decide_eq_false (by kernel_rfl))]; exact ⟨rfl, rfl⟩)
    (fun os started H enc _ => locksFirst_lifted os started H enc)

#print axioms locksFirst_holds

end Go.Proofs.Ytdmpdlpfanfjoaa
