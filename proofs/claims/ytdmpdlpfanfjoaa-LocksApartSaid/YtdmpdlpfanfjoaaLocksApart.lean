/- Proved: LocksApart returns true for every input: numbers of two kinds that never conflict are ready together just as each kind alone; no condition. -/
import Derived.Test.YtdmpdlpfanfjoaaLocksApartP
namespace Go.Proofs.Ytdmpdlpfanfjoaa
open Go.ChangeShapes Go.WideShapes Go.ChangeAt Go.RowKit

set_option maxRecDepth 100000 in
set_option maxHeartbeats 2000000 in
theorem lapart_far (w0 : World) (v0 : Value) (ls : List (List Cl)) (kd tm : Int) (h0 : RowsC w0 v0 ls)
    (hh : 20 < ls.length ∨ (ls.length ≤ 20 ∧ (kd < 0 ∨ (0 ≤ kd ∧ (tm < 0 ∨ (0 ≤ tm ∧ 20 < tm)))))) :
    Calls Try.prog 12 #[v0, .int .i64 kd, .int .i64 tm] w0 fun e w' => e = .returned (.bool true) ∧ Below w0.heap.size w0 w' := by
  obtain ⟨A0, c0, rfl, hlm⟩ := h0.slice
  unfold maxLen at hlm
  clear h0
  have HB0 := Lib.hid (Below.refl w0.heap.size w0)
  rcases hh with hh | ⟨hh, hh2 | ⟨hh2, hh3 | ⟨hh3, hh4⟩⟩⟩
  · skip
    go_enter Try.func12, Try.ntmps12
    go_wp2_with fail
    refine (awake10_ok _).mono ?_
    rintro e wq ⟨rfl, hb⟩
    have HB := Lib.hid (HB0.out.trans (hb.mono HB0.out.size))
    clear hb
    go_wp2_with fail
    go_ret
    exact ⟨rfl, HB.out⟩
  · skip
    go_enter Try.func12, Try.ntmps12
    go_wp2_with fail
    refine (awake10_ok _).mono ?_
    rintro e wq ⟨rfl, hb⟩
    have HB := Lib.hid (HB0.out.trans (hb.mono HB0.out.size))
    clear hb
    go_wp2_with fail
    go_ret
    exact ⟨rfl, HB.out⟩
  · skip
    go_enter Try.func12, Try.ntmps12
    go_wp2_with fail
    refine (awake10_ok _).mono ?_
    rintro e wq ⟨rfl, hb⟩
    have HB := Lib.hid (HB0.out.trans (hb.mono HB0.out.size))
    clear hb
    go_wp2_with fail
    go_ret
    exact ⟨rfl, HB.out⟩
  · skip
    go_enter Try.func12, Try.ntmps12
    go_wp2_with fail
    refine (awake10_ok _).mono ?_
    rintro e wq ⟨rfl, hb⟩
    have HB := Lib.hid (HB0.out.trans (hb.mono HB0.out.size))
    clear hb
    go_wp2_with fail
    go_ret
    exact ⟨rfl, HB.out⟩

set_option maxRecDepth 100000 in
set_option maxHeartbeats 8000000 in
theorem lapart_ok (w0 : World) (v0 : Value) (ls : List (List Cl)) (kd : Int) (tm : Nat) (h0 : RowsC w0 v0 ls) (hl : ls.length ≤ 20) (hkd0 : 0 ≤ kd) (hkd1 : kd ≤ 9223372036854775807) (htm : tm ≤ 20) :
    Calls Try.prog 12 #[v0, .int .i64 kd, .int .i64 (tm : Int)] w0 fun e w' => e = .returned (.bool true) ∧ Below w0.heap.size w0 w' := by
  obtain ⟨i0, hi, hz0, hz1, hz2⟩ := info_parts Try.info28
  have HHI := Lib.hid hi
  obtain ⟨A0, c0, rfl, hlm⟩ := h0.slice
  have HZ := Lib.hid h0
  clear h0 hlm hi
  go_enter Try.func12, Try.ntmps12
  go_wp2_with fail
  refine (lnew_ok w0).mono ?_
  rintro e w1 ⟨b1, rfl, hb1, hl1⟩
  have HX := Lib.hid (One.start hb1 hl1)
  clear hb1 hl1
  go_wp2_with fail
  refine (lnew_ok w1).mono ?_
  rintro e w2 ⟨b2, rfl, hb2, hl2⟩
  have hy : One w0 w2 (New w1 w2) (fun _ => False) b2 false 0 [] 0 := ⟨hl2, fun k hk => Nat.le_trans HX.out.2.2.size hk.1, HX.out.2.2.trans (hb2.mono HX.out.2.2.size)⟩
  have HY := Lib.hid (And.intro (HX.out.below hb2) (And.intro hy hb2.size))
  clear HX hy hb2 hl2
  go_wp2_with fail
  refine (lnew_ok w2).mono ?_
  rintro e w3 ⟨b3, rfl, hb3, hl3⟩
  have hz : One w0 w3 (New w2 w3) (fun _ => False) b3 false 0 [] 0 := ⟨hl3, fun k hk => Nat.le_trans HY.out.1.2.2.size hk.1, HY.out.1.2.2.trans (hb3.mono HY.out.1.2.2.size)⟩
  have hst : Tri w0 b1 b2 b3 (fun _ => False) 0 0 0 0 [] [] [] w3 := ⟨New w0 w1, New w1 w2, New w2 w3, 0, 0, 0, false, false, false, 0, 0, 0, HY.out.1.below hb3, HY.out.2.1.below hb3, hz, (fun k h1 h2 => by have := h1.2; have := h2.1; omega), (fun k h1 h2 => by have := h1.2; have := h2.1; omega), (fun k h1 h2 => by have := h1.1; have := h2.2; have := HY.out.2.2; omega), (fun h => by cases h), (fun h => by cases h), (fun h => by cases h), Nat.le_refl _, Nat.le_refl _, Nat.le_refl _⟩
  have HS := Lib.hid hst
  clear HY hb3 hl3 hz hst
  go_wp2_with fail
  go_loopw [1, 10] (fun s i wr => ∃ (k : Nat) (kd : Int), k ≤ ls.length ∧ i = .int .i64 (k : Int) ∧ s = .int .i64 kd ∧ 0 ≤ kd ∧ kd ≤ 9223372036854775807 ∧ ∃ C lb lo lt, Tri w0 b1 b2 b3 C (k : Int) (k : Int) (k : Int) (100 * k) lb lo lt wr ∧ Mix lb lo lt ∧ lb.length ≤ k) (fun _ i _ => ls.length - (intOf i).toNat)
  case atStart => exact ⟨0, kd, Nat.zero_le _, rfl, rfl, hkd0, hkd1, _, [], [], [], HS.out, Mix.nil, Nat.le_refl _⟩
  case round =>
    clear hkd0 hkd1
    obtain ⟨k, kd, hk, rfl, rfl, hkd0, hkd1, C, lb, lo, lt, hT, hM, hlk⟩ := hrel
    have hll := hM.len
    have HL := Lib.hid (And.intro hT (And.intro hM hll))
    have hlb20 : lb.length ≤ 20 := by omega
    have hlo20 : lo.length ≤ 20 := by omega
    have hlt20 : lt.length ≤ 20 := by omega
    clear hT hM HS hll
    by_cases hlt : k < ls.length
    · obtain ⟨q, hq⟩ : ∃ q, ls[k]? = some q := ⟨_, List.getElem?_eq_getElem hlt⟩
      obtain ⟨br, or_, Ar, cr, rfl, hcr, hrd, hfit⟩ := RowsC.at_ HZ.out hq
      have hcr' := (HL.out.1.bel.cell (p := ⟨br, or_ + k, none⟩) (World.block_lt_of_cell? _ _ hcr)).trans hcr
      have hqm : q.length ≤ 9223372036854775807 := by have := RdK.length_le hrd; simp [maxLen] at this; omega
      have HQ := Lib.hid (And.intro hrd (And.intro hfit hq))
      clear hcr hrd hfit hq
      by_cases hq20 : 20 < q.length
      · have HB1 := Lib.hid HL.out.1.bel
        go_wp2_with fail
        refine (awake10_ok _).mono ?_
        rintro e wq ⟨rfl, hb⟩
        have HB := Lib.hid (HB1.out.trans (hb.mono HB1.out.size))
        clear hb
        go_wp2_with fail
        go_ret
        exact ⟨rfl, HB.out⟩
      · by_cases hpar : kd.tmod 2 = 0
        · skip
          have HP := Lib.hid hpar
          go_wp2_with fail
          go_loopw [11, 12] (fun v i w3 => ∃ j : Nat, j ≤ q.length ∧ i = .int .i64 (j : Int) ∧ ∃ A5 c5, v = .slice A5 (apL 120 (q.take j)).length c5 ∧ w3.ownsRow wr.heap.size 28 5 (.slice A5 (apL 120 (q.take j)).length c5) (apL 120 (q.take j)).length ((apL 120 (q.take j)).map Cl.cells).flatten ∧ Below wr.heap.size wr w3) (fun _ i _ => q.length - (intOf i).toNat)
          case atStart => exact ⟨0, Nat.zero_le _, rfl, none, 0, rfl, World.ownsRow_nil _ _ _ _, Below.refl _ _⟩
          case round =>
            obtain ⟨j, hj, rfl, A5, c5, rfl, ho5, hb3⟩ := hrel
            rename World => w3
            have hcr3 := (hb3.cell (p := ⟨br, or_ + k, none⟩) (World.block_lt_of_cell? _ _ hcr')).trans hcr'
            have hal : (apL 120 (q.take j)).length ≤ 20 := Nat.le_trans (apL_len _ _) (by simp; omega)
            obtain ⟨ap, hap⟩ : ∃ ap, apL 120 (q.take j) = ap := ⟨_, rfl⟩
            rw [hap] at ho5 hal ⊢
            have hb03 := HL.out.1.bel.trans (hb3.mono HL.out.1.bel.size)
            have HA := Lib.hid (And.intro ho5 (And.intro hb3 (And.intro hap hb03)))
            clear ho5 hb3 hap hb03
            by_cases hlt2 : j < q.length
            · obtain ⟨c, hc⟩ : ∃ c, q[j]? = some c := ⟨_, List.getElem?_eq_getElem hlt2⟩
              obtain ⟨bx, ox, rfl, _, d0, d1, d2, d3, d4⟩ := ClRd.at_ HQ.out.1 hc
              have hbb := World.block_lt_of_cell? _ _ d0
              have d0' := (HA.out.2.2.2.cell (p := ⟨bx, ox + j * 5, none⟩) hbb).trans d0
              have d1' := (HA.out.2.2.2.cell (p := ⟨bx, ox + j * 5 + 1, none⟩) hbb).trans d1
              have d2' := (HA.out.2.2.2.cell (p := ⟨bx, ox + j * 5 + 2, none⟩) hbb).trans d2
              have d3' := (HA.out.2.2.2.cell (p := ⟨bx, ox + j * 5 + 3, none⟩) hbb).trans d3
              have d4' := (HA.out.2.2.2.cell (p := ⟨bx, ox + j * 5 + 4, none⟩) hbb).trans d4
              have HC := Lib.hid hc
              have hkl : c.key.length ≤ 9223372036854775807 := by have := (HQ.out.2.1 c (List.mem_of_getElem? hc)).2.2.2; unfold maxLen at this; omega
              clear d0 d1 d2 d3 d4 hc
              by_cases hcol : 0 ≤ c.col
              · go_wp2_with fail
                go_roundw
                case rel =>
                  have hno : apK c = false := by simp [apK]; omega
                  exact ⟨j + 1, by omega, by go_num, A5, c5, by rw [apL_snoc_no HC.out hno, HA.out.2.2.1], by rw [apL_snoc_no HC.out hno, HA.out.2.2.1]; exact own_below HA.out.1 (box1 _ _), HA.out.2.1.alloc HA.out.2.1.size _⟩
                case measure => simp [intOf]; omega
              · by_cases hkey : 15 < c.key.length
                · go_wp2_with fail
                  go_roundw
                  case rel =>
                    have hno : apK c = false := by simp [apK]; omega
                    exact ⟨j + 1, by omega, by go_num, A5, c5, by rw [apL_snoc_no HC.out hno, HA.out.2.2.1], by rw [apL_snoc_no HC.out hno, HA.out.2.2.1]; exact own_below HA.out.1 (box1 _ _), HA.out.2.1.alloc HA.out.2.1.size _⟩
                  case measure => simp [intOf]; omega
                · go_upto_region 22 with fail
                  obtain ⟨sk, hsk⟩ : ∃ sk : ByteArray, (({ data := #[120] } : ByteArray) ++ ({ data := c.key.toArray } : ByteArray)) = sk := ⟨_, rfl⟩
                  have hsk2 : sk = ⟨((120 : UInt8) :: c.key).toArray⟩ := by
                    rw [← hsk]
                    apply ByteArray.ext
                    simp [ByteArray.data_append]
                  rw [hsk]
                  clear hsk d0' d1' d2' d3' d4'
                  have hwa := heap_alloc_new w3 (.cells #[.bool c.wr, .int .i64 c.col, .string sk, .int .i64 c.lo, .int .i64 c.hi] 28)
                  have hba := box1 w3 (.cells #[.bool c.wr, .int .i64 c.col, .string sk, .int .i64 c.lo, .int .i64 c.hi] 28)
                  generalize w3.alloc (.cells #[.bool c.wr, .int .i64 c.col, .string sk, .int .i64 c.lo, .int .i64 c.hi] 28) = wa at hwa hba ⊢
                  obtain ⟨y0, y1, y2, y3, y4⟩ := blk_cell5 hwa
                  have hoa := own_below HA.out.1 hba
                  have hn5 := World.news_of_block (heap_alloc_new wa (.cells #[.bool c.wr, .int .i64 c.col, .string sk, .int .i64 c.lo, .int .i64 c.hi] 28))
                  have hsz := HA.out.2.1.size
                  have hsz2 := hba.size
                  have HD := Lib.hid (And.intro (hoa.alloc (.cells #[.bool c.wr, .int .i64 c.col, .string sk, .int .i64 c.lo, .int .i64 c.hi] 28)) (And.intro hn5 (And.intro hsk2 (And.intro hoa hba))))
                  clear hwa hba hoa hn5 hsk2
                  go_wp2_with (at_builtin; go_loud (refine wpList_append_lies _ rfl _ _ 22 rfl wr.heap.size 28 i0 _ 5 48 Try.underlying22 HHI.out hz0 hz1 hz2 rfl (by decide) (.slice A5 ap.length c5) ap.length _ rfl HD.out.1 ⟨wa.heap.size, 0, none⟩ 1 1 [.bool c.wr, .int .i64 c.col, .string sk, .int .i64 c.lo, .int .i64 c.hi] rfl rfl HD.out.2.1 (by simp [Value.oneCell']) (by decide) (by unfold maxLen; omega) (by omega) (by simp; omega) _ rfl ?_); intro g cap w5 hown5 hgrow5 hat5 hlt5)
                  go_roundw
                  case rel =>
                    have hyes : apK c = true := by simp [apK]; omega
                    have hrow : apL 120 (q.take (j + 1)) = ap ++ [apCl 120 c] := by rw [apL_snoc_yes HC.out hyes, HA.out.2.2.1]
                    refine ⟨j + 1, by omega, by go_num, some ⟨g, 0, none⟩, cap, by rw [hrow]; simp, ?_, ?_⟩
                    · rw [hrow]
                      have h1 := hown5
                      rw [HD.out.2.2.1] at h1
                      simpa [apCl, Cl.cells] using h1
                    · exact ((HA.out.2.1.trans (HD.out.2.2.2.2.mono hsz)).alloc (by omega) _).grown hgrow5 (by simp; omega) (fun j hj => (HA.out.1.lt j hj).1)
                  case measure => simp [intOf]; omega
            · have hj' : j = q.length := by omega
              subst hj'
              have hap2 := HA.out.2.2.1
              rw [List.take_length] at hap2
              have hfa : ∀ c ∈ ap, c.fits := by rw [← hap2]; exact apL_fits HQ.out.2.1
              have hrda : ClRd w3 (fun _ => True) (.slice A5 ap.length c5) ap := RdK.of_own HA.out.1 (cl_len _) (by decide) (fun _ _ => trivial)
              have HE := Lib.hid (And.intro hrda (And.intro hfa hap2))
              clear hrda hfa hap2
              go_upto_region 23 with fail
              go_wp2_with fail
              refine (new_ok w3 (fun _ => True) _ ap HE.out.1 (by omega) HE.out.2.1).mono ?_
              intro e w4 hnp
              obtain ⟨u1, n1, rfl, hnv⟩ := hnp.named
              have hb4 := hnv.1
              rcases hnv.cases with ⟨hn0, rfl⟩ | ⟨rfl, he0, out, hf, h64, A3, c3, rfl, hO⟩
              · have e1 : (n1 == 0) = false := by simpa using hn0
                have e2 : (n1 != 0) = true := by simpa using hn0
                have HB3 := Lib.hid (HA.out.2.2.2.trans ((hb4.alloc hb4.size (.cells #[.slice none 0 0] 30)).mono HA.out.2.2.2.size))
                clear hn0 hb4 hnv hnp
                go_wp2_with fail
                refine (awake10_ok _).mono ?_
                rintro e wq ⟨rfl, hb⟩
                have HB := Lib.hid (HB3.out.trans (hb.mono HB3.out.size))
                clear hb
                go_wp2_with fail
                go_ret
                exact ⟨rfl, HB.out⟩
              · have hkn : Knd 120 out := knd_form (l := q) (by rw [HE.out.2.2]; exact ok_of_errOf he0) (by rw [HE.out.2.2]; exact HE.out.2.1) (by rw [HE.out.2.2]; exact hf)
                have hft := FtC.box (C := Mor C wr w3) hb4 hO (Nat.le_refl _)
                have hbx : Below w3.heap.size w3 (w4.alloc (.cells #[.slice A3 out.length c3] 30)) := hb4.alloc hb4.size _
                clear hO hnv hnp hb4 hf he0
                go_upto_region 24 with fail
                generalize w4.alloc (.cells #[.slice A3 out.length c3] 30) = w5 at hft hbx ⊢
                have hT5 := (HL.out.1.mor HA.out.2.1).mor hbx
                obtain ⟨D, hD⟩ : ∃ D, Mor (Mor C wr w3) w3 w5 = D := ⟨_, rfl⟩
                rw [hD] at hft hT5
                have H5 := Lib.hid (And.intro hT5 (And.intro hft hkn))
                have fb := H5.out.2.1.cell
                clear hft hT5 hbx hD hkn
                go_wp2_with fail
                refine (H5.out.1.enq (id := (k : Int)) (f := out) (Int.le_refl _) (by unfold I64; omega) (by omega) (by omega) H5.out.2.1.2.2 h64).mono ?_
                rintro e w6 ⟨rfl, hT6, hL6⟩
                have H6 := Lib.hid (And.intro hT6 (hL6.ft H5.out.2.1))
                have fb6 := H6.out.2.cell
                clear hT6 hL6 fb
                go_wp2_with fail
                refine (H6.out.1.rot.enq (id := (k : Int)) (f := out) (Int.le_refl _) (by unfold I64; omega) (by omega) (by omega) H6.out.2.2.2 h64).mono ?_
                rintro e w7 ⟨rfl, hT7, hL7⟩
                have H7 := Lib.hid hT7.rot.rot
                clear hT7 hL7 fb6
                have hq1 : kd.tdiv 2 = kd / 2 := Int.tdiv_eq_ediv_of_nonneg hkd0
                obtain ⟨kd2, hkd2⟩ : ∃ kd2, kd.tdiv 2 = kd2 := ⟨_, rfl⟩
                have hk20 : 0 ≤ kd2 := by omega
                have hk21 : kd2 ≤ 9223372036854775807 := by omega
                clear hq1
                go_wp2_with fail
                go_roundw
                case rel => exact ⟨k + 1, kd2, by omega, by go_num, rfl, hk20, hk21, D, _, _, _, H7.out.mono (N' := 100 * (k + 1)) (by omega) (by omega) (by omega) (by omega), HL.out.2.1.snocX (e := ((k : Int), out)) H5.out.2.2, by simp; omega⟩
                case measure => simp [intOf]; omega
        · have hpar : kd.tmod 2 = 1 := by
            have h1 := Int.tmod_eq_emod_of_nonneg (b := 2) hkd0
            omega
          have HP := Lib.hid hpar
          go_wp2_with fail
          go_loopw [11, 12] (fun v i w3 => ∃ j : Nat, j ≤ q.length ∧ i = .int .i64 (j : Int) ∧ ∃ A5 c5, v = .slice A5 (apL 121 (q.take j)).length c5 ∧ w3.ownsRow wr.heap.size 28 5 (.slice A5 (apL 121 (q.take j)).length c5) (apL 121 (q.take j)).length ((apL 121 (q.take j)).map Cl.cells).flatten ∧ Below wr.heap.size wr w3) (fun _ i _ => q.length - (intOf i).toNat)
          case atStart => exact ⟨0, Nat.zero_le _, rfl, none, 0, rfl, World.ownsRow_nil _ _ _ _, Below.refl _ _⟩
          case round =>
            obtain ⟨j, hj, rfl, A5, c5, rfl, ho5, hb3⟩ := hrel
            rename World => w3
            have hcr3 := (hb3.cell (p := ⟨br, or_ + k, none⟩) (World.block_lt_of_cell? _ _ hcr')).trans hcr'
            have hal : (apL 121 (q.take j)).length ≤ 20 := Nat.le_trans (apL_len _ _) (by simp; omega)
            obtain ⟨ap, hap⟩ : ∃ ap, apL 121 (q.take j) = ap := ⟨_, rfl⟩
            rw [hap] at ho5 hal ⊢
            have hb03 := HL.out.1.bel.trans (hb3.mono HL.out.1.bel.size)
            have HA := Lib.hid (And.intro ho5 (And.intro hb3 (And.intro hap hb03)))
            clear ho5 hb3 hap hb03
            by_cases hlt2 : j < q.length
            · obtain ⟨c, hc⟩ : ∃ c, q[j]? = some c := ⟨_, List.getElem?_eq_getElem hlt2⟩
              obtain ⟨bx, ox, rfl, _, d0, d1, d2, d3, d4⟩ := ClRd.at_ HQ.out.1 hc
              have hbb := World.block_lt_of_cell? _ _ d0
              have d0' := (HA.out.2.2.2.cell (p := ⟨bx, ox + j * 5, none⟩) hbb).trans d0
              have d1' := (HA.out.2.2.2.cell (p := ⟨bx, ox + j * 5 + 1, none⟩) hbb).trans d1
              have d2' := (HA.out.2.2.2.cell (p := ⟨bx, ox + j * 5 + 2, none⟩) hbb).trans d2
              have d3' := (HA.out.2.2.2.cell (p := ⟨bx, ox + j * 5 + 3, none⟩) hbb).trans d3
              have d4' := (HA.out.2.2.2.cell (p := ⟨bx, ox + j * 5 + 4, none⟩) hbb).trans d4
              have HC := Lib.hid hc
              have hkl : c.key.length ≤ 9223372036854775807 := by have := (HQ.out.2.1 c (List.mem_of_getElem? hc)).2.2.2; unfold maxLen at this; omega
              clear d0 d1 d2 d3 d4 hc
              by_cases hcol : 0 ≤ c.col
              · go_wp2_with fail
                go_roundw
                case rel =>
                  have hno : apK c = false := by simp [apK]; omega
                  exact ⟨j + 1, by omega, by go_num, A5, c5, by rw [apL_snoc_no HC.out hno, HA.out.2.2.1], by rw [apL_snoc_no HC.out hno, HA.out.2.2.1]; exact own_below HA.out.1 (box1 _ _), HA.out.2.1.alloc HA.out.2.1.size _⟩
                case measure => simp [intOf]; omega
              · by_cases hkey : 15 < c.key.length
                · go_wp2_with fail
                  go_roundw
                  case rel =>
                    have hno : apK c = false := by simp [apK]; omega
                    exact ⟨j + 1, by omega, by go_num, A5, c5, by rw [apL_snoc_no HC.out hno, HA.out.2.2.1], by rw [apL_snoc_no HC.out hno, HA.out.2.2.1]; exact own_below HA.out.1 (box1 _ _), HA.out.2.1.alloc HA.out.2.1.size _⟩
                  case measure => simp [intOf]; omega
                · go_upto_region 22 with fail
                  obtain ⟨sk, hsk⟩ : ∃ sk : ByteArray, (({ data := #[121] } : ByteArray) ++ ({ data := c.key.toArray } : ByteArray)) = sk := ⟨_, rfl⟩
                  have hsk2 : sk = ⟨((121 : UInt8) :: c.key).toArray⟩ := by
                    rw [← hsk]
                    apply ByteArray.ext
                    simp [ByteArray.data_append]
                  rw [hsk]
                  clear hsk d0' d1' d2' d3' d4'
                  have hwa := heap_alloc_new w3 (.cells #[.bool c.wr, .int .i64 c.col, .string sk, .int .i64 c.lo, .int .i64 c.hi] 28)
                  have hba := box1 w3 (.cells #[.bool c.wr, .int .i64 c.col, .string sk, .int .i64 c.lo, .int .i64 c.hi] 28)
                  generalize w3.alloc (.cells #[.bool c.wr, .int .i64 c.col, .string sk, .int .i64 c.lo, .int .i64 c.hi] 28) = wa at hwa hba ⊢
                  obtain ⟨y0, y1, y2, y3, y4⟩ := blk_cell5 hwa
                  have hoa := own_below HA.out.1 hba
                  have hn5 := World.news_of_block (heap_alloc_new wa (.cells #[.bool c.wr, .int .i64 c.col, .string sk, .int .i64 c.lo, .int .i64 c.hi] 28))
                  have hsz := HA.out.2.1.size
                  have hsz2 := hba.size
                  have HD := Lib.hid (And.intro (hoa.alloc (.cells #[.bool c.wr, .int .i64 c.col, .string sk, .int .i64 c.lo, .int .i64 c.hi] 28)) (And.intro hn5 (And.intro hsk2 (And.intro hoa hba))))
                  clear hwa hba hoa hn5 hsk2
                  go_wp2_with (at_builtin; go_loud (refine wpList_append_lies _ rfl _ _ 22 rfl wr.heap.size 28 i0 _ 5 48 Try.underlying22 HHI.out hz0 hz1 hz2 rfl (by decide) (.slice A5 ap.length c5) ap.length _ rfl HD.out.1 ⟨wa.heap.size, 0, none⟩ 1 1 [.bool c.wr, .int .i64 c.col, .string sk, .int .i64 c.lo, .int .i64 c.hi] rfl rfl HD.out.2.1 (by simp [Value.oneCell']) (by decide) (by unfold maxLen; omega) (by omega) (by simp; omega) _ rfl ?_); intro g cap w5 hown5 hgrow5 hat5 hlt5)
                  go_roundw
                  case rel =>
                    have hyes : apK c = true := by simp [apK]; omega
                    have hrow : apL 121 (q.take (j + 1)) = ap ++ [apCl 121 c] := by rw [apL_snoc_yes HC.out hyes, HA.out.2.2.1]
                    refine ⟨j + 1, by omega, by go_num, some ⟨g, 0, none⟩, cap, by rw [hrow]; simp, ?_, ?_⟩
                    · rw [hrow]
                      have h1 := hown5
                      rw [HD.out.2.2.1] at h1
                      simpa [apCl, Cl.cells] using h1
                    · exact ((HA.out.2.1.trans (HD.out.2.2.2.2.mono hsz)).alloc (by omega) _).grown hgrow5 (by simp; omega) (fun j hj => (HA.out.1.lt j hj).1)
                  case measure => simp [intOf]; omega
            · have hj' : j = q.length := by omega
              subst hj'
              have hap2 := HA.out.2.2.1
              rw [List.take_length] at hap2
              have hfa : ∀ c ∈ ap, c.fits := by rw [← hap2]; exact apL_fits HQ.out.2.1
              have hrda : ClRd w3 (fun _ => True) (.slice A5 ap.length c5) ap := RdK.of_own HA.out.1 (cl_len _) (by decide) (fun _ _ => trivial)
              have HE := Lib.hid (And.intro hrda (And.intro hfa hap2))
              clear hrda hfa hap2
              go_upto_region 23 with fail
              go_wp2_with fail
              refine (new_ok w3 (fun _ => True) _ ap HE.out.1 (by omega) HE.out.2.1).mono ?_
              intro e w4 hnp
              obtain ⟨u1, n1, rfl, hnv⟩ := hnp.named
              have hb4 := hnv.1
              rcases hnv.cases with ⟨hn0, rfl⟩ | ⟨rfl, he0, out, hf, h64, A3, c3, rfl, hO⟩
              · have e1 : (n1 == 0) = false := by simpa using hn0
                have e2 : (n1 != 0) = true := by simpa using hn0
                have HB3 := Lib.hid (HA.out.2.2.2.trans ((hb4.alloc hb4.size (.cells #[.slice none 0 0] 30)).mono HA.out.2.2.2.size))
                clear hn0 hb4 hnv hnp
                go_wp2_with fail
                refine (awake10_ok _).mono ?_
                rintro e wq ⟨rfl, hb⟩
                have HB := Lib.hid (HB3.out.trans (hb.mono HB3.out.size))
                clear hb
                go_wp2_with fail
                go_ret
                exact ⟨rfl, HB.out⟩
              · have hkn : Knd 121 out := knd_form (l := q) (by rw [HE.out.2.2]; exact ok_of_errOf he0) (by rw [HE.out.2.2]; exact HE.out.2.1) (by rw [HE.out.2.2]; exact hf)
                have hft := FtC.box (C := Mor C wr w3) hb4 hO (Nat.le_refl _)
                have hbx : Below w3.heap.size w3 (w4.alloc (.cells #[.slice A3 out.length c3] 30)) := hb4.alloc hb4.size _
                clear hO hnv hnp hb4 hf he0
                go_upto_region 24 with fail
                generalize w4.alloc (.cells #[.slice A3 out.length c3] 30) = w5 at hft hbx ⊢
                have hT5 := (HL.out.1.mor HA.out.2.1).mor hbx
                obtain ⟨D, hD⟩ : ∃ D, Mor (Mor C wr w3) w3 w5 = D := ⟨_, rfl⟩
                rw [hD] at hft hT5
                have H5 := Lib.hid (And.intro hT5 (And.intro hft hkn))
                have fb := H5.out.2.1.cell
                clear hft hT5 hbx hD hkn
                go_wp2_with fail
                refine (H5.out.1.enq (id := (k : Int)) (f := out) (Int.le_refl _) (by unfold I64; omega) (by omega) (by omega) H5.out.2.1.2.2 h64).mono ?_
                rintro e w6 ⟨rfl, hT6, hL6⟩
                have H6 := Lib.hid (And.intro hT6 (hL6.ft H5.out.2.1))
                have fb6 := H6.out.2.cell
                clear hT6 hL6 fb
                go_wp2_with fail
                refine (H6.out.1.rot.rot.enq (id := (k : Int)) (f := out) (Int.le_refl _) (by unfold I64; omega) (by omega) (by omega) H6.out.2.2.2 h64).mono ?_
                rintro e w7 ⟨rfl, hT7, hL7⟩
                have H7 := Lib.hid hT7.rot
                clear hT7 hL7 fb6
                have hq1 : kd.tdiv 2 = kd / 2 := Int.tdiv_eq_ediv_of_nonneg hkd0
                obtain ⟨kd2, hkd2⟩ : ∃ kd2, kd.tdiv 2 = kd2 := ⟨_, rfl⟩
                have hk20 : 0 ≤ kd2 := by omega
                have hk21 : kd2 ≤ 9223372036854775807 := by omega
                clear hq1
                go_wp2_with fail
                go_roundw
                case rel => exact ⟨k + 1, kd2, by omega, by go_num, rfl, hk20, hk21, D, _, _, _, H7.out.mono (N' := 100 * (k + 1)) (by omega) (by omega) (by omega) (by omega), HL.out.2.1.snocY (e := ((k : Int), out)) H5.out.2.2, by simp; omega⟩
                case measure => simp [intOf]; omega
    · have hkl : k = ls.length := by omega
      subst hkl
      have HR0 := Lib.hid (show ∃ C lb lo lt, Tri w0 b1 b2 b3 C (ls.length : Int) (ls.length : Int) (ls.length : Int) (3000 + 100 * 0) lb lo lt wr ∧ Mix lb lo lt ∧ lb.length ≤ 20 from ⟨C, lb, lo, lt, HL.out.1.mono (by omega) (Int.le_refl _) (Int.le_refl _) (Int.le_refl _), HL.out.2.1, by omega⟩)
      clear HL hlk hlb20 hlo20 hlt20
      go_wp2_with fail
      go_loopw [16] (fun i w4 => ∃ k : Nat, k ≤ tm ∧ i = .int .i64 (k : Int) ∧ ∃ C lb lo lt, Tri w0 b1 b2 b3 C (ls.length : Int) (ls.length : Int) (ls.length : Int) (3000 + 100 * k) lb lo lt w4 ∧ Mix lb lo lt ∧ lb.length ≤ 20) (fun i _ => tm - (intOf i).toNat)
      case atStart => exact ⟨0, Nat.zero_le _, rfl, HR0.out⟩
      case round =>
        clear HR0 C lb lo lt
        obtain ⟨k, hk, rfl, C, lb, lo, lt, hT, hM, hlb⟩ := hrel
        rename World => w4
        have hll := hM.len
        have hlo20 : lo.length ≤ 20 := by omega
        have hlt20 : lt.length ≤ 20 := by omega
        have HV := Lib.hid (And.intro hT (And.intro hM hll))
        clear hT hM hll
        by_cases hltk : k < tm
        · go_wp2_with fail
          refine (HV.out.1.ready (by omega)).mono ?_
          rintro e w5 ⟨A5, c5, rfl, hr5, hb5⟩
          have H5 := Lib.hid (And.intro (HV.out.1.mor hb5) (show Rd w5 (Mor C w4 w5) _ _ from hr5.mono (fun _ h => .inr h)))
          clear hr5 hb5
          go_wp2_with fail
          refine (H5.out.1.rot.ready (by omega)).mono ?_
          rintro e w6 ⟨A6, c6, rfl, hr6, hb6⟩
          have H6 := Lib.hid (And.intro (H5.out.1.mor hb6) (And.intro (show Rd w6 (Mor (Mor C w4 w5) w5 w6) _ _ from (H5.out.2.below hb6).mono (fun _ h => .inl h)) (hr6.mono (G := fun _ => True) (fun _ _ => trivial))))
          clear hr6 hb6 H5
          go_wp2_with fail
          refine (H6.out.1.rot.rot.ready (by omega)).mono ?_
          rintro e w7 ⟨A7, c7, rfl, hr7, hb7⟩
          obtain ⟨D, hD⟩ : ∃ D, Mor (Mor C w4 w5) w5 w6 = D := ⟨_, rfl⟩
          have hT7 := H6.out.1.below hb7
          have hR7 := H6.out.2.1.below hb7
          rw [hD] at hT7 hR7
          have hrl := HV.out.2.1.ready_len HV.out.1.line.1 HV.out.1.rot.line.1 HV.out.1.rot.rot.line.1
          have hrm : ∀ i, i ∈ ready lb → (i ∈ ready lo ∧ i ∉ nums lt) ∨ (i ∉ nums lo ∧ i ∈ ready lt) := fun i hi => HV.out.2.1.ready_mem HV.out.1.line.1 HV.out.1.rot.line.1 HV.out.1.rot.rot.line.1 hi
          have hro : (ready lo).length ≤ lo.length := by
            unfold ready
            refine Nat.le_trans (List.length_filter_le _ _) ?_
            simp [nums]
          have hrt : (ready lt).length ≤ lt.length := by
            unfold ready
            refine Nat.le_trans (List.length_filter_le _ _) ?_
            simp [nums]
          obtain ⟨ra, hra⟩ : ∃ ra, ready lb = ra := ⟨_, rfl⟩
          obtain ⟨rb, hrb⟩ : ∃ rb, ready lo = rb := ⟨_, rfl⟩
          obtain ⟨rc, hrc⟩ : ∃ rc, ready lt = rc := ⟨_, rfl⟩
          have hR6 := H6.out.2.2.below hb7
          have hR7c := hr7.mono (G := fun _ => True) (fun _ _ => trivial)
          rw [hra] at hR7 hrl
          rw [hrb] at hR6 hrl hro
          rw [hrc] at hR7c hrl hrt
          rw [hra, hrb, hrc]
          have H7 := Lib.hid (And.intro hT7 (And.intro hR7 (And.intro hR6 (And.intro hR7c (And.intro hrm (And.intro hra (And.intro hrb (And.intro hrc hrl))))))))
          rw [hrl] at hR7 ⊢
          have HR7 := Lib.hid hR7
          clear hT7 hR7 hR6 hR7c hrm hra hrb hrc hrl hr7 hb7 hD H6
          go_wp2_with fail
          go_loopw [20] (fun i w8 => ∃ k4 : Nat, k4 ≤ rb.length + rc.length ∧ i = .int .i64 (k4 : Int) ∧ Tri w0 b1 b2 b3 D (ls.length : Int) (ls.length : Int) (ls.length : Int) (3000 + 100 * k) lb lo lt w8 ∧ Rd w8 D (.slice A5 (rb.length + rc.length) c5) (ra.map (Value.int .i64)) ∧ Rd w8 (fun _ => True) (.slice A6 rb.length c6) (rb.map (Value.int .i64)) ∧ Rd w8 (fun _ => True) (.slice A7 rc.length c7) (rc.map (Value.int .i64))) (fun i _ => rb.length + rc.length - (intOf i).toNat)
          case atStart => exact ⟨0, Nat.zero_le _, rfl, H7.out.1, HR7.out, H7.out.2.2.1, H7.out.2.2.2.1⟩
          case round =>
            obtain ⟨k4, hk4, rfl, hT8, hA8, hB8, hC8⟩ := hrel
            rename World => w8
            have H8 := Lib.hid (And.intro hT8 (And.intro hA8 (And.intro hB8 hC8)))
            clear hT8 hA8 hB8 hC8 HR7
            by_cases hlt4 : k4 < rb.length + rc.length
            · obtain ⟨y, hy⟩ : ∃ y, ra[k4]? = some y := ⟨_, List.getElem?_eq_getElem (by rw [H7.out.2.2.2.2.2.2.2.2]; exact hlt4)⟩
              obtain ⟨bl, ol, rfl, cy⟩ := H8.out.2.1.ints_at.2 k4 _ hy
              have hym : y ∈ ready lb := by rw [H7.out.2.2.2.2.2.1]; exact List.mem_of_getElem? hy
              rcases H7.out.2.2.2.2.1 y hym with ⟨hin, _⟩ | ⟨hnin, hin⟩
              · rw [H7.out.2.2.2.2.2.2.1] at hin
                have HIN := Lib.hid hin
                clear hin hym hy
                go_wp2_with fail
                refine (in_ok w8 _ _ rb y H8.out.2.2.1 (by omega)).mono ?_
                rintro e w9 ⟨r, hr, rfl, hb9⟩
                obtain rfl : r = true := hr.2 HIN.out
                have H9 := Lib.hid (And.intro (H8.out.1.below hb9) (And.intro (H8.out.2.1.below hb9) (And.intro (H8.out.2.2.1.below hb9) (H8.out.2.2.2.below hb9))))
                clear hr hb9 cy
                go_wp2_with fail
                go_roundw
                case rel => exact ⟨k4 + 1, by omega, by go_num, H9.out.1, H9.out.2.1, H9.out.2.2.1, H9.out.2.2.2⟩
                case measure => simp [intOf]; omega
              · rw [H7.out.2.2.2.2.2.2.2.1] at hin
                have hnb : y ∉ rb := fun hh => hnin (by rw [← H7.out.2.2.2.2.2.2.1] at hh; exact (mem_ready.1 hh).1)
                have HIN := Lib.hid (And.intro hin hnb)
                clear hin hym hnin hnb hy
                go_wp2_with fail
                refine (in_ok w8 _ _ rb y H8.out.2.2.1 (by omega)).mono ?_
                rintro e w9 ⟨r, hr, rfl, hb9⟩
                obtain rfl : r = false := Bool.eq_false_iff.2 (fun hh => HIN.out.2 (hr.1 hh))
                have H9 := Lib.hid (And.intro (H8.out.1.below hb9) (And.intro (H8.out.2.1.below hb9) (And.intro (H8.out.2.2.1.below hb9) (H8.out.2.2.2.below hb9))))
                have cy9 := (hb9.cell (p := ⟨bl, ol + k4, none⟩) (World.block_lt_of_cell? _ _ cy)).trans cy
                clear hr hb9 cy
                go_wp2_with fail
                refine (in_ok w9 _ _ rc y H9.out.2.2.2 (by omega)).mono ?_
                rintro e w10 ⟨r, hr, rfl, hb10⟩
                obtain rfl : r = true := hr.2 HIN.out.1
                have H10 := Lib.hid (And.intro (H9.out.1.below hb10) (And.intro (H9.out.2.1.below hb10) (And.intro (H9.out.2.2.1.below hb10) (H9.out.2.2.2.below hb10))))
                clear hr hb10 cy9
                go_wp2_with fail
                go_roundw
                case rel => exact ⟨k4 + 1, by omega, by go_num, H10.out.1, H10.out.2.1, H10.out.2.2.1, H10.out.2.2.2⟩
                case measure => simp [intOf]; omega
            · have hk4' : k4 = rb.length + rc.length := by omega
              subst hk4'
              by_cases hz : rb.length + rc.length = 0
              · have hz1 : rb.length = 0 := by omega
                have hz2 : rc.length = 0 := by omega
                rw [hz1, hz2] at *
                clear hz1 hz2
                have HF1 := Lib.hid (H8.out.1)
                have hln := (HV.out.2.1).len
                obtain ⟨nb, hnb⟩ : ∃ nb, lb.length = nb := ⟨_, rfl⟩
                have HLN := Lib.hid (And.intro hln hnb)
                clear hln hnb
                go_wp2_with fail
                refine HF1.out.len.mono ?_
                rintro e wf ⟨rfl, rfl⟩
                go_wp2_with fail
                refine HF1.out.rot.len.mono ?_
                rintro e wf ⟨rfl, rfl⟩
                go_wp2_with fail
                refine HF1.out.rot.rot.len.mono ?_
                rintro e wf ⟨rfl, rfl⟩
                rw [HLN.out.1]
                have HBF := Lib.hid HF1.out.bel
                go_wp2_with fail
                refine (awake10_ok _).mono ?_
                rintro e wq ⟨rfl, hb⟩
                have HB := Lib.hid (HBF.out.trans (hb.mono HBF.out.size))
                clear hb
                go_wp2_with fail
                go_ret
                exact ⟨rfl, HB.out⟩
              · obtain ⟨a0, ha0⟩ : ∃ y, ra[0]? = some y := ⟨_, List.getElem?_eq_getElem (by rw [H7.out.2.2.2.2.2.2.2.2]; omega)⟩
                have ham : a0 ∈ ready lb := by rw [H7.out.2.2.2.2.2.1]; exact List.mem_of_getElem? ha0
                obtain ⟨bl, ol, rfl, c0_⟩ := H8.out.2.1.ints_at.2 0 _ ha0
                have hia : I64 a0 := by
                  obtain ⟨f, hf⟩ := mem_nums.1 (mem_ready.1 ham).1
                  exact HV.out.1.line.2 _ hf
                have hcases := H7.out.2.2.2.2.1 a0 ham
                have HA0 := Lib.hid (And.intro ha0 (And.intro ham (And.intro hia hcases)))
                have hzi : ¬ ((rb.length : Int) + (rc.length : Int) = 0) := by omega
                have hzb : ((rb.length : Int) + (rc.length : Int) == 0) = false := by simpa using hzi
                have hzp : 0 < rb.length + rc.length := by omega
                have hzp2 : (0 : Int) < (rb.length : Int) + (rc.length : Int) := by omega
                clear ha0 ham hia hcases
                simp only [Nat.add_zero] at c0_
                go_wp2_with fail
                refine (H8.out.1.relY HA0.out.2.2.1 HA0.out.2.1 (by omega) (by omega)).mono ?_
                rintro e w9 ⟨rfl, hT9, hL9⟩
                have hR9 := hL9.rd H8.out.2.1
                obtain ⟨_, _, he9, c9_⟩ := hR9.ints_at.2 0 _ HA0.out.1
                injection he9 with he9
                injection he9 with he9 he9'
                subst he9 he9'
                simp only [Nat.add_zero] at c9_
                have H9 := Lib.hid (And.intro hT9 hR9)
                clear hT9 hR9 hL9 c0_
                rcases HA0.out.2.2.2 with ⟨hx, hny⟩ | ⟨hnx, hy⟩
                · have HXY := Lib.hid (And.intro hx hny)
                  clear hx hny
                  go_wp2_with fail
                  refine (H9.out.1.rot.relY HA0.out.2.2.1 HXY.out.1 (by omega) (by omega)).mono ?_
                  rintro e w10 ⟨rfl, hT10, hL10⟩
                  have hR10 := hL10.rd H9.out.2
                  obtain ⟨_, _, he9, c10_⟩ := hR10.ints_at.2 0 _ HA0.out.1
                  injection he9 with he9
                  injection he9 with he9 he9'
                  subst he9 he9'
                  simp only [Nat.add_zero] at c10_
                  have H10 := Lib.hid hT10.rot.rot
                  clear hT10 hR10 hL10 c9_
                  go_wp2_with fail
                  refine (H10.out.rot.rot.relN HA0.out.2.2.1 HXY.out.2 (by omega) (by omega)).mono ?_
                  rintro e w11 ⟨rfl, hT11, _⟩
                  have H11 := Lib.hid hT11.rot
                  clear hT11 c10_
                  go_wp2_with fail
                  go_roundw
                  case rel =>
                    have hm := HV.out.2.1.out a0
                    rw [outL_same HXY.out.2] at hm
                    exact ⟨k + 1, by omega, by go_num, D, _, _, _, H11.out.mono (by omega) (Int.le_refl _) (Int.le_refl _) (Int.le_refl _), hm, by have := outL_le lb a0; omega⟩
                  case measure => simp [intOf]; omega
                · have HXY := Lib.hid (And.intro hnx hy)
                  clear hnx hy
                  go_wp2_with fail
                  refine (H9.out.1.rot.relN HA0.out.2.2.1 HXY.out.1 (by omega) (by omega)).mono ?_
                  rintro e w10 ⟨rfl, hT10, hL10⟩
                  have hR10 := hL10.rd H9.out.2
                  obtain ⟨_, _, he9, c10_⟩ := hR10.ints_at.2 0 _ HA0.out.1
                  injection he9 with he9
                  injection he9 with he9 he9'
                  subst he9 he9'
                  simp only [Nat.add_zero] at c10_
                  have H10 := Lib.hid hT10.rot.rot
                  clear hT10 hR10 hL10 c9_
                  go_wp2_with fail
                  refine (H10.out.rot.rot.relY HA0.out.2.2.1 HXY.out.2 (by omega) (by omega)).mono ?_
                  rintro e w11 ⟨rfl, hT11, _⟩
                  have H11 := Lib.hid hT11.rot
                  clear hT11 c10_
                  go_wp2_with fail
                  go_roundw
                  case rel =>
                    have hm := HV.out.2.1.out a0
                    rw [outL_same HXY.out.1] at hm
                    exact ⟨k + 1, by omega, by go_num, D, _, _, _, H11.out.mono (by omega) (Int.le_refl _) (Int.le_refl _) (Int.le_refl _), hm, by have := outL_le lb a0; omega⟩
                  case measure => simp [intOf]; omega
        · skip
          have HF1 := Lib.hid (HV.out.1)
          have hln := (HV.out.2.1).len
          obtain ⟨nb, hnb⟩ : ∃ nb, lb.length = nb := ⟨_, rfl⟩
          have HLN := Lib.hid (And.intro hln hnb)
          clear hln hnb
          go_wp2_with fail
          refine HF1.out.len.mono ?_
          rintro e wf ⟨rfl, rfl⟩
          go_wp2_with fail
          refine HF1.out.rot.len.mono ?_
          rintro e wf ⟨rfl, rfl⟩
          go_wp2_with fail
          refine HF1.out.rot.rot.len.mono ?_
          rintro e wf ⟨rfl, rfl⟩
          rw [HLN.out.1]
          have HBF := Lib.hid HF1.out.bel
          go_wp2_with fail
          refine (awake10_ok _).mono ?_
          rintro e wq ⟨rfl, hb⟩
          have HB := Lib.hid (HBF.out.trans (hb.mono HBF.out.size))
          clear hb
          go_wp2_with fail
          go_ret
          exact ⟨rfl, HB.out⟩

set_option maxRecDepth 100000 in
theorem locksApart_lifted (os : Os) (started : os.Started) (H : Type) (enc : TypeId × Value → H) :
    ReturnsInHanded {} Try.checked os 12 .any (Rows.locksApartSpec.pre6 enc Try.prog Try.f12 Rows.locksApartRow.domain false) (Rows.locksApartSpec.post enc Try.prog Try.f12 false true false false) := by
  refine law_lifted os started H enc 12 Try.f12 Rows.locksApartSpec (by kernel_rfl) Try.func12 rfl (by kernel_rfl) ?_ ?_
    (ChangeSpec.witness6 (enc := enc) (C := Try.checked) false ⟨#[], #[.slice none 0 0, .int .i64 0, .int .i64 0], []⟩ 8 (by kernel_rfl) (by kernel_rfl) (by kernel_rfl) (by kernel_rfl)) ?_
  · rw [Try.params12]
    intro t ht
    simp at ht
    rcases ht with rfl | rfl
    · exact ⟨by kernel_rfl, of_decide_eq_true (by kernel_rfl)⟩
    · exact ⟨by kernel_rfl, of_decide_eq_true (by kernel_rfl)⟩
  · intro ds hl
    rw [Try.params12] at hl
    match ds, hl with
    | [d1, d2, d3], _ => exact ⟨rfl, rfl, rfl⟩
  · intro W base args ds p hval hA
    rw [Try.params12] at hA hval
    obtain ⟨v0, v1, v2, d0, d1, d2, p0, p1, p2, hargs, rfl, rfl, h0, h1, h2⟩ := trodAll_three hA
    subst hargs
    obtain ⟨x0, q0⟩ := open_rows (hval 0 44 v0 rfl rfl) h0
    obtain ⟨n1, rfl, rfl, rfl, wn1⟩ := open_int Try.underlying3 (hval 1 3 v1 rfl rfl) h1
    have b1 := bounds_i64 wn1
    obtain ⟨n2, rfl, rfl, rfl, wn2⟩ := open_int Try.underlying3 (hval 2 3 v2 rfl rfl) h2
    have b2 := bounds_i64 wn2
    by_cases hh : 20 < x0.length ∨ (x0.length ≤ 20 ∧ (n1 < 0 ∨ (0 ≤ n1 ∧ (n2 < 0 ∨ (0 ≤ n2 ∧ 20 < n2)))))
    · exact lapart_far W v0 x0 n1 n2 q0 hh
    · obtain ⟨t, rfl⟩ : ∃ t : Nat, n2 = (t : Int) := ⟨n2.toNat, by omega⟩
      exact lapart_ok W v0 x0 n1 t q0 (by omega) (by omega) b1.2 (by omega)

theorem locksApart_holds : Rows.LocksApartSaid :=
  OpenClaim.holds_of_wide 12 Try.f12 rfl rfl rfl rfl rfl rfl rfl ⟨rfl, rfl, rfl, rfl, rfl⟩ rfl rfl rfl rfl rfl (by kernel_rfl) Try.func12 (by kernel_rfl)
    (of_decide_eq_true (by kernel_rfl)) (by unfold Func.isWrapper; rw [if_neg (of_decide_eq_false (by kernel_rfl))]; exact ⟨rfl, rfl⟩)
    (fun os started H enc _ => locksApart_lifted os started H enc)

#print axioms locksApart_holds

end Go.Proofs.Ytdmpdlpfanfjoaa
