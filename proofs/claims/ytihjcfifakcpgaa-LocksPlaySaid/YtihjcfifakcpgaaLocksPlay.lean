/- Proved: LocksPlay returns true for every input: each call answers what the document's row of footprints answers, the same numbers are ready, and there are as many; no condition. -/
import Derived.Test.YtihjcfifakcpgaaLocksPlayP
namespace Go.Proofs.Ytihjcfifakcpgaa
open Go.ChangeShapes Go.WideShapes Go.ChangeAt Go.RowKit

theorem ok_of_err {l : List Cl} (h : errOf l = 0) : ∀ c ∈ l, Ok c := by
  unfold errOf at h
  split at h
  · rename_i c hc
    have := List.find?_some hc
    simp at this
    exact absurd h this
  · rename_i hc
    rw [List.find?_eq_none] at hc
    intro c hcm
    have := hc c hcm
    simpa [Ok] using this

set_option maxRecDepth 100000 in
set_option maxHeartbeats 1000000 in
theorem lplay_far (w0 : World) (v0 : Value) (ops : List LOp) (h0 : OpsRd w0 v0 ops) (hf : ¬ Few10 ops) :
    Calls Try.prog 3 #[v0] w0 fun e w' => e = .returned (.bool true) ∧ Below w0.heap.size w0 w' := by
  have HF := Lib.hid (few10_ok w0 v0 ops h0)
  have HN := Lib.hid hf
  clear h0 hf
  go_enter Try.func3, Try.ntmps3
  go_wp2_with fail
  refine HF.out.mono ?_
  rintro e w1 ⟨r, hr, rfl, hb1⟩
  obtain rfl : r = false := Bool.eq_false_iff.2 (fun hh => HN.out (hr.1 hh))
  have HB1 := Lib.hid hb1
  clear hr hb1
  go_wp2_with fail
  refine (awake10_ok _).mono ?_
  rintro e wq ⟨rfl, hb⟩
  have HB := Lib.hid ((HB1.out).trans (hb.mono (HB1.out).size))
  clear hb
  go_wp2_with fail
  go_ret
  exact ⟨rfl, HB.out⟩

set_option maxRecDepth 100000 in
set_option maxHeartbeats 8000000 in
theorem lplay_ok (w0 : World) (v0 : Value) (ops : List LOp) (h0 : OpsRd w0 v0 ops) (hf : Few10 ops) :
    Calls Try.prog 3 #[v0] w0 fun e w' => e = .returned (.bool true) ∧ Below w0.heap.size w0 w' := by
  have HF := Lib.hid (few10_ok w0 v0 ops h0)
  obtain ⟨A0, c0, rfl, _⟩ := h0.slice
  have hlen : ops.length ≤ 60 := hf.2
  have HN := Lib.hid (And.intro hf h0)
  clear h0 hf
  go_enter Try.func3, Try.ntmps3
  go_wp2_with fail
  refine HF.out.mono ?_
  rintro e wa ⟨r, hr, rfl, hba⟩
  obtain rfl : r = true := hr.2 HN.out.1
  have HBA := Lib.hid hba
  clear hr hba
  go_wp2_with fail
  refine (lnew_ok wa).mono ?_
  rintro e w1 ⟨b1, rfl, hb1, hl1⟩
  have HS := Lib.hid (play_start hb1 hl1)
  have HB1 := Lib.hid hb1
  clear hb1 hl1
  have hsz1 := HB1.out.size
  go_wp2_with fail
  go_loopw [5] (fun i wr => ∃ k : Nat, k ≤ ops.length ∧ i = .int .i64 (k : Int) ∧ PlayR wa b1 w1.heap.size k wr) (fun i _ => ops.length - (intOf i).toNat)
  case atStart => exact ⟨0, Nat.zero_le _, rfl, HS.out⟩
  case round =>
    obtain ⟨b2, hb2⟩ : ∃ b, w1.heap.size = b := ⟨_, rfl⟩
    rw [hb2] at hrel ⊢
    clear HS HB1 hsz1 hb2
    obtain ⟨k, hk, rfl, F, G, C, n, s, hP, hsl, hn⟩ := hrel
    have HP := Lib.hid hP
    have hB0 : Below w0.heap.size w0 wr := HBA.out.trans (hP.bl.mono HBA.out.size)
    have HB0 := Lib.hid hB0
    clear hP
    by_cases hlt : k < ops.length
    · obtain ⟨x, hx⟩ : ∃ x, ops[k]? = some x := ⟨_, List.getElem?_eq_getElem hlt⟩
      obtain ⟨bo, oo, A2, c2, rfl, _, q0, q1, q2, hrd, hfit, _, hid, hxl⟩ := HN.out.2.at_ hx
      have hf20 := HN.out.1.1 x (List.mem_of_getElem? hx)
      obtain ⟨ask, hask⟩ : ∃ a, x.ask = a := ⟨_, rfl⟩
      obtain ⟨id, hide⟩ : ∃ a, x.id = a := ⟨_, rfl⟩
      obtain ⟨q, hq⟩ : ∃ q, x.l = q := ⟨_, rfl⟩
      rw [hask] at q0
      rw [hide] at q1 hid
      rw [hq] at q2 hrd hfit hxl hf20
      have r0 := (hB0.cell (p := ⟨bo, oo + k * 3, none⟩) (World.block_lt_of_cell? _ _ q0)).trans q0
      have r1 := (hB0.cell (p := ⟨bo, oo + k * 3 + 1, none⟩) (World.block_lt_of_cell? _ _ q1)).trans q1
      have r2 := (hB0.cell (p := ⟨bo, oo + k * 3 + 2, none⟩) (World.block_lt_of_cell? _ _ q2)).trans q2
      have hq20 : q.length ≤ 20 := hf20.1
      have HX := Lib.hid (And.intro hrd (And.intro hfit hid))
      clear hx hask hide hq q0 q1 q2 hrd hfit hid hf20 hB0
      by_cases ha0 : ask = 0
      · subst ha0
        go_upto_region 17 with fail
        have hbx := box1 wr (.cells #[.int .i64 0, .int .i64 id, .slice A2 q.length c2] 33)
        have cb1 : (wr.alloc (.cells #[.int .i64 0, .int .i64 id, .slice A2 q.length c2] 33)).cell? ⟨wr.heap.size, 1, none⟩ = some (.int .i64 id) := by simp
        have cb2 : (wr.alloc (.cells #[.int .i64 0, .int .i64 id, .slice A2 q.length c2] 33)).cell? ⟨wr.heap.size, 2, none⟩ = some (.slice A2 q.length c2) := by simp
        have HFB := Lib.hid HP.out.flt
        have hlb : wr.heap.size < (wr.alloc (.cells #[.int .i64 0, .int .i64 id, .slice A2 q.length c2] 33)).heap.size := by simp
        generalize wr.alloc (.cells #[.int .i64 0, .int .i64 id, .slice A2 q.length c2] 33) = wb at hbx cb1 cb2 hlb ⊢
        have HPb := Lib.hid (HP.out.below hbx)
        have HRb := Lib.hid (And.intro (RdK.below (RdK.below HX.out.1 HB0.out) hbx) hbx)
        obtain ⟨B6, hB6⟩ : ∃ B, wr.heap.size = B := ⟨_, rfl⟩
        rw [hB6] at HFB cb1 cb2 hlb ⊢
        have HB6 := Lib.hid hB6
        clear hbx hB6 r0 r1 r2
        go_wp2_with fail
        refine (new_ok wb (fun _ => True) _ q HRb.out.1 (by omega) HX.out.2.1).mono ?_
        intro e w3 hnp
        obtain ⟨u1, n1, rfl, hnv⟩ := hnp.named
        have hb3 := hnv.1
        have cc1 := (hb3.cell (p := ⟨B6, 1, none⟩) hlb).trans cb1
        rcases hnv.cases with ⟨hn0, rfl⟩ | ⟨rfl, he0, out, hf, h64, A3, c3, rfl, hO⟩
        · have e1 : (n1 == 0) = false := by simpa using hn0
          have hb4 : Below wb.heap.size wb (w3.alloc (.cells #[.slice none 0 0] 35)) := hb3.alloc hb3.size _
          clear hn0 hb3 hnv hnp cc1
          go_upto_region 18 with fail
          generalize w3.alloc (.cells #[.slice none 0 0] 35) = w4 at hb4 ⊢
          have HPc := Lib.hid (HPb.out.below hb4)
          clear hb4
          refine wp_region_held_drew (S := (fun w' => Below w4.heap.size w4 w')) (by kernel_rfl) (Below.refl _ _).drew (fun hHeld => ?_)
          refine takeL (i := 0) (v := ?_) rfl (by kernel_rfl) (by kernel_rfl) (by kernel_rfl) (fun _ _ _ h => h) (by rfl) (fun wS hSw => ?_) hHeld ?_
          rotate_left
          · go_simp; try with_reducible rfl
          try simp only [Act.put, List.setIfInBounds_toArray, List.set_cons_zero, List.set_cons_succ]
          refine takeL (i := 1) (v := ?_) rfl (by kernel_rfl) (by kernel_rfl) (by kernel_rfl) (fun _ _ _ h => h) (by rfl) (fun wS hSw => ?_) hHeld ?_
          rotate_left
          · go_simp; try with_reducible rfl
          try simp only [Act.put, List.setIfInBounds_toArray, List.set_cons_zero, List.set_cons_succ]
          refine takeL (i := 2) (v := ?_) rfl (by kernel_rfl) (by kernel_rfl) (by kernel_rfl) (fun _ _ _ h => h) (by rfl) (fun wS hSw => ?_) hHeld ?_
          rotate_left
          · go_simp; try with_reducible rfl
          try simp only [Act.put, List.setIfInBounds_toArray, List.set_cons_zero, List.set_cons_succ]
          refine take_no (i := 3) rfl (by kernel_rfl) (by kernel_rfl) (by kernel_rfl) (fun _ _ _ h => h) (by rfl) hHeld ?_
          try simp only [Act.put, List.setIfInBounds_toArray, List.set_cons_zero, List.set_cons_succ]
          refine take_no (i := 4) rfl (by kernel_rfl) (by kernel_rfl) (by kernel_rfl) (fun _ _ _ h => h) (by rfl) hHeld ?_
          try simp only [Act.put, List.setIfInBounds_toArray, List.set_cons_zero, List.set_cons_succ]
          refine take_no (i := 5) rfl (by kernel_rfl) (by kernel_rfl) (by kernel_rfl) (fun _ _ _ h => h) (by rfl) hHeld ?_
          try simp only [Act.put, List.setIfInBounds_toArray, List.set_cons_zero, List.set_cons_succ]
          refine take_no (i := 6) rfl (by kernel_rfl) (by kernel_rfl) (by kernel_rfl) (fun _ _ _ h => h) (by rfl) hHeld ?_
          try simp only [Act.put, List.setIfInBounds_toArray, List.set_cons_zero, List.set_cons_succ]
          refine take_no (i := 7) rfl (by kernel_rfl) (by kernel_rfl) (by kernel_rfl) (fun _ _ _ h => h) (by rfl) hHeld ?_
          try simp only [Act.put, List.setIfInBounds_toArray, List.set_cons_zero, List.set_cons_succ]
          refine take_no (i := 8) rfl (by kernel_rfl) (by kernel_rfl) (by kernel_rfl) (fun _ _ _ h => h) (by rfl) hHeld ?_
          try simp only [Act.put, List.setIfInBounds_toArray, List.set_cons_zero, List.set_cons_succ]
          refine take_no (i := 9) rfl (by kernel_rfl) (by kernel_rfl) (by kernel_rfl) (fun _ _ _ h => h) (by rfl) hHeld ?_
          try simp only [Act.put, List.setIfInBounds_toArray, List.set_cons_zero, List.set_cons_succ]
          refine take_no (i := 10) rfl (by kernel_rfl) (by kernel_rfl) (by kernel_rfl) (fun _ _ _ h => h) (by rfl) hHeld ?_
          try simp only [Act.put, List.setIfInBounds_toArray, List.set_cons_zero, List.set_cons_succ]
          refine take_no (i := 11) rfl (by kernel_rfl) (by kernel_rfl) (by kernel_rfl) (fun _ _ _ h => h) (by rfl) hHeld ?_
          try simp only [Act.put, List.setIfInBounds_toArray, List.set_cons_zero, List.set_cons_succ]
          refine take_no (i := 12) rfl (by kernel_rfl) (by kernel_rfl) (by kernel_rfl) (fun _ _ _ h => h) (by rfl) hHeld ?_
          try simp only [Act.put, List.setIfInBounds_toArray, List.set_cons_zero, List.set_cons_succ]
          refine take_no (i := 13) rfl (by kernel_rfl) (by kernel_rfl) (by kernel_rfl) (fun _ _ _ h => h) (by rfl) hHeld ?_
          try simp only [Act.put, List.setIfInBounds_toArray, List.set_cons_zero, List.set_cons_succ]
          refine take_no (i := 14) rfl (by kernel_rfl) (by kernel_rfl) (by kernel_rfl) (fun _ _ _ h => h) (by rfl) hHeld ?_
          try simp only [Act.put, List.setIfInBounds_toArray, List.set_cons_zero, List.set_cons_succ]
          refine takeL (i := 15) (v := ?_) rfl (by kernel_rfl) (by kernel_rfl) (by kernel_rfl) (fun _ _ _ h => h) (by rfl) (fun wS hSw => ?_) hHeld ?_
          rotate_left
          · go_simp; try with_reducible rfl
          try simp only [Act.put, List.setIfInBounds_toArray, List.set_cons_zero, List.set_cons_succ]
          refine wpAnyH_done (by kernel_rfl) ?_ _
          have HT := Lib.hid (HPc.out.below hHeld)
          have hls : s.2.2.length ≤ k + 1 := by omega
          have hln : n ≤ 200 * (k + 1) := by omega
          clear hHeld
          generalize w4.drew = wt at HT ⊢
          have hrl : (ready s.2.2).length ≤ 1000000 := Nat.le_trans (List.length_filter_le _ _) (by simp [nums]; omega)
          obtain ⟨A9, c9, hq9⟩ : ∃ A c, wt.cell? ⟨b2, 0, none⟩ = some (.slice A s.2.2.length c) := by
            obtain ⟨lv, xs, hh⟩ := HT.out.rw
            obtain ⟨A, c, rfl⟩ := ownsRow_slice hh.own
            exact ⟨A, c, hh.cells.1⟩
          have hb2l : b2 < wt.heap.size := World.block_lt_of_cell? _ _ hq9
          have HRL := Lib.hid hrl
          clear hrl
          go_wp2_with fail
          refine wp_region_held_drew (S := (fun w' => Below wt.heap.size wt w')) (by kernel_rfl) (Below.refl _ _).drew (fun hHeld => ?_)
          refine takeL (i := 0) (v := ?_) rfl (by kernel_rfl) (by kernel_rfl) (by kernel_rfl) (fun _ _ _ h => h) (by rfl) (fun wS hSw => ?_) hHeld ?_
          rotate_left
          · go_simp; try with_reducible rfl
          try simp only [Act.put, List.setIfInBounds_toArray, List.set_cons_zero, List.set_cons_succ]
          refine takeL (i := 2) (v := ?_) rfl (by kernel_rfl) (by kernel_rfl) (by kernel_rfl) (fun _ _ _ h => h) (by rfl) (fun wS hSw => ?_) hHeld ?_
          rotate_left
          · go_simp; try with_reducible rfl
          try simp only [Act.put, List.setIfInBounds_toArray, List.set_cons_zero, List.set_cons_succ]
          refine wpAnyH_ready (rs := [1]) (by kernel_rfl) (by simp) (consL (i := 1) rfl (fun K hK => ?_) AllReadyH.nil)
          go_simp
          refine (lkReady_ok _ F C b1 n s.1 s.2.1 s.2.2 (HT.out.lk.below hHeld) (by omega)).mono ?_
          rintro e wn ⟨v1, rfl, hfi1⟩
          have hbn := hfi1.below
          have HI1 := Lib.hid hfi1.rd
          clear hfi1
          try go_simp
          refine hK.out _ _ (hHeld.trans (hbn.mono hHeld.size)) (fun hHeld2 => ?_)
          clear hK K hHeld
          have hHeld := hHeld2
          clear hHeld2
          try simp only [Act.put, List.setIfInBounds_toArray, List.set_cons_zero, List.set_cons_succ]
          refine wpAnyH_ready (rs := [3]) (by kernel_rfl) (by simp) (consL (i := 3) rfl (fun K hK => ?_) AllReadyH.nil)
          go_simp
          refine (rready_ok _ G C b2 s.1 s.2.1 s.2.2 (HT.out.rw.below hHeld) (by omega) HT.out.lk.line.1).mono ?_
          rintro e wn ⟨v2, rfl, hfi2⟩
          have hbn := hfi2.below
          have HI2 := Lib.hid (And.intro (HI1.out.below hbn) hfi2.rd)
          clear hfi2
          try go_simp
          refine hK.out _ _ (hHeld.trans (hbn.mono hHeld.size)) (fun hHeld2 => ?_)
          clear hK K hHeld
          have hHeld := hHeld2
          clear hHeld2
          try simp only [Act.put, List.setIfInBounds_toArray, List.set_cons_zero, List.set_cons_succ]
          refine wpAnyH_ready (rs := [4]) (by kernel_rfl) (by simp) (consL (i := 4) rfl (fun K hK => ?_) AllReadyH.nil)
          go_simp
          refine (ints_ok _ _ _ _ _ (ready s.2.2) (ready s.2.2) HI2.out.1 HI2.out.2 HRL.out).mono ?_
          rintro e wn ⟨r3, hr3, rfl, hbn⟩
          obtain rfl : r3 = true := hr3.2 rfl
          clear hr3
          try go_simp
          refine hK.out _ _ (hHeld.trans (hbn.mono hHeld.size)) (fun hHeld2 => ?_)
          clear hK K hHeld
          have hHeld := hHeld2
          clear hHeld2
          try simp only [Act.put, List.setIfInBounds_toArray, List.set_cons_zero, List.set_cons_succ]
          refine takeL (i := 5) (v := ?_) rfl (by kernel_rfl) (by kernel_rfl) (by kernel_rfl) (fun _ _ _ h => h) (by rfl) (fun wS hSw => ?_) hHeld ?_
          rotate_left
          · go_simp; try with_reducible rfl
          try simp only [Act.put, List.setIfInBounds_toArray, List.set_cons_zero, List.set_cons_succ]
          refine takeL (i := 6) (v := ?_) rfl (by kernel_rfl) (by kernel_rfl) (by kernel_rfl) (fun _ _ _ h => h) (by rfl) (fun wS hSw => ?_) hHeld ?_
          rotate_left
          · go_simp; try with_reducible rfl
          try simp only [Act.put, List.setIfInBounds_toArray, List.set_cons_zero, List.set_cons_succ]
          refine takeL (i := 7) (v := ?_) rfl (by kernel_rfl) (by kernel_rfl) (by kernel_rfl) (fun _ _ _ h => h) (by rfl) (fun wS hSw => ?_) hHeld ?_
          rotate_left
          · go_simp; try with_reducible rfl
          try simp only [Act.put, List.setIfInBounds_toArray, List.set_cons_zero, List.set_cons_succ]
          refine takeL (i := 9) (v := ?_) rfl (by kernel_rfl) (by kernel_rfl) (by kernel_rfl) (fun _ _ _ h => h) (by rfl) (fun wS hSw => ?_) hHeld ?_
          rotate_left
          · go_simp; try with_reducible rfl
          try simp only [Act.put, List.setIfInBounds_toArray, List.set_cons_zero, List.set_cons_succ]
          refine takeL (i := 10) (v := ?_) rfl (by kernel_rfl) (by kernel_rfl) (by kernel_rfl) (fun _ _ _ h => h) (by rfl) (fun wS hSw => ?_) hHeld ?_
          rotate_left
          · go_simp; try with_reducible rfl
          try simp only [Act.put, List.setIfInBounds_toArray, List.set_cons_zero, List.set_cons_succ]
          refine takeL (i := 11) (v := ?_) rfl (by kernel_rfl) (by kernel_rfl) (by kernel_rfl) (fun _ _ _ h => h) (by rfl) (fun wS hSw => ?_) hHeld ?_
          rotate_left
          · go_simp; try with_reducible rfl
          try simp only [Act.put, List.setIfInBounds_toArray, List.set_cons_zero, List.set_cons_succ]
          refine takeL (i := 12) (v := ?_) rfl (by kernel_rfl) (by kernel_rfl) (by kernel_rfl) (fun _ _ _ h => h) (by rfl) (fun wS hSw => ?_) hHeld ?_
          rotate_left
          · have s1 := (Below.cell hSw (p := ⟨b2, 0, none⟩) hb2l).trans hq9; go_simp; try with_reducible rfl
          try simp only [Act.put, List.setIfInBounds_toArray, List.set_cons_zero, List.set_cons_succ]
          refine takeL (i := 13) (v := ?_) rfl (by kernel_rfl) (by kernel_rfl) (by kernel_rfl) (fun _ _ _ h => h) (by rfl) (fun wS hSw => ?_) hHeld ?_
          rotate_left
          · go_simp; try with_reducible rfl
          try simp only [Act.put, List.setIfInBounds_toArray, List.set_cons_zero, List.set_cons_succ]
          refine wpAnyH_ready (rs := [8]) (by kernel_rfl) (by simp) (consL (i := 8) rfl (fun K hK => ?_) AllReadyH.nil)
          go_simp
          refine (lkLen_ok _ F C b1 n s.1 s.2.1 s.2.2 (HT.out.lk.below hHeld)).mono ?_
          rintro e wn ⟨rfl, rfl⟩
          try go_simp
          refine hK.out _ _ (hHeld) (fun hHeld2 => ?_)
          clear hK K hHeld
          have hHeld := hHeld2
          clear hHeld2
          try simp only [Act.put, List.setIfInBounds_toArray, List.set_cons_zero, List.set_cons_succ]
          refine takeL (i := 14) (v := ?_) rfl (by kernel_rfl) (by kernel_rfl) (by kernel_rfl) (fun _ _ _ h => h) (by rfl) (fun wS hSw => ?_) hHeld ?_
          rotate_left
          · go_simp; try with_reducible rfl
          try simp only [Act.put, List.setIfInBounds_toArray, List.set_cons_zero, List.set_cons_succ]
          refine takeL (i := 15) (v := ?_) rfl (by kernel_rfl) (by kernel_rfl) (by kernel_rfl) (fun _ _ _ h => h) (by rfl) (fun wS hSw => ?_) hHeld ?_
          rotate_left
          · go_simp; try with_reducible rfl
          try simp only [Act.put, List.setIfInBounds_toArray, List.set_cons_zero, List.set_cons_succ]
          refine wpAnyH_done (by kernel_rfl) ?_ _
          go_wp2_with fail
          go_roundw
          case rel => exact ⟨k + 1, by omega, by go_num, F, G, C, n, s, HT.out.below hHeld, hls, hln⟩
          case measure => simp [intOf]; omega
        · have hft := FtC.box (C := C) hb3 hO (Nat.le_refl _)
          have hbx : Below wb.heap.size wb (w3.alloc (.cells #[.slice A3 out.length c3] 35)) := hb3.alloc hb3.size _
          have HG := Lib.hid (form_good hf (fun c hc => ⟨ok_of_err he0 c hc, HX.out.2.1 c hc⟩))
          have hl3 : B6 < w3.heap.size := Nat.lt_of_lt_of_le hlb hb3.size
          have cc4 := cell_alloc_any cc1 (.cells #[.slice A3 out.length c3] 35)
          clear hO hnv hnp hb3 hf he0 cc1
          go_upto_region 18 with fail
          have hl4 : w3.heap.size < (w3.alloc (.cells #[.slice A3 out.length c3] 35)).heap.size := by simp
          generalize w3.alloc (.cells #[.slice A3 out.length c3] 35) = w4 at hft hbx cc4 hl4 ⊢
          obtain ⟨D, hD⟩ : ∃ D, Mor C wb w4 = D := ⟨_, rfl⟩
          have hp4 := HPb.out.mor hbx
          rw [hD] at hp4 hft
          have FQ := Lib.hid hft
          have HP4 := Lib.hid hp4
          clear hp4 hft hbx hD
          have hl5 : s.2.2.length ≤ 60 := by omega
          have hn5 : n ≤ 100000 := by omega
          refine wp_region_held_drew (S := (fun w' => w'.cell? ⟨B6, 1, none⟩ = some (.int .i64 id) ∧ w'.cell? ⟨w3.heap.size, 0, none⟩ = some (.slice A3 out.length c3))) (by kernel_rfl) ⟨(((Below.refl _ _).drew).cell (p := ⟨B6, 1, none⟩) (Nat.lt_trans hl3 hl4)).trans cc4, (((Below.refl _ _).drew).cell (p := ⟨w3.heap.size, 0, none⟩) FQ.out.lt).trans FQ.out.cell⟩ (fun hHeld => ?_)
          refine takeL (i := 0) (v := ?_) rfl (by kernel_rfl) (by kernel_rfl) (by kernel_rfl) (fun _ _ _ h => h) (by rfl) (fun wS hSw => ?_) hHeld ?_
          rotate_left
          · obtain ⟨s0, s1⟩ := hSw; go_simp; try with_reducible rfl
          try simp only [Act.put, List.setIfInBounds_toArray, List.set_cons_zero, List.set_cons_succ]
          refine takeL (i := 1) (v := ?_) rfl (by kernel_rfl) (by kernel_rfl) (by kernel_rfl) (fun _ _ _ h => h) (by rfl) (fun wS hSw => ?_) hHeld ?_
          rotate_left
          · obtain ⟨s0, s1⟩ := hSw; go_simp; try with_reducible rfl
          try simp only [Act.put, List.setIfInBounds_toArray, List.set_cons_zero, List.set_cons_succ]
          refine takeL (i := 2) (v := ?_) rfl (by kernel_rfl) (by kernel_rfl) (by kernel_rfl) (fun _ _ _ h => h) (by rfl) (fun wS hSw => ?_) hHeld ?_
          rotate_left
          · obtain ⟨s0, s1⟩ := hSw; go_simp; try with_reducible rfl
          try simp only [Act.put, List.setIfInBounds_toArray, List.set_cons_zero, List.set_cons_succ]
          refine takeL (i := 3) (v := ?_) rfl (by kernel_rfl) (by kernel_rfl) (by kernel_rfl) (fun _ _ _ h => h) (by rfl) (fun wS hSw => ?_) hHeld ?_
          rotate_left
          · obtain ⟨s0, s1⟩ := hSw; go_simp; try with_reducible rfl
          try simp only [Act.put, List.setIfInBounds_toArray, List.set_cons_zero, List.set_cons_succ]
          refine takeL (i := 4) (v := ?_) rfl (by kernel_rfl) (by kernel_rfl) (by kernel_rfl) (fun _ _ _ h => h) (by rfl) (fun wS hSw => ?_) hHeld ?_
          rotate_left
          · obtain ⟨s0, s1⟩ := hSw; go_simp; try with_reducible rfl
          try simp only [Act.put, List.setIfInBounds_toArray, List.set_cons_zero, List.set_cons_succ]
          refine takeL (i := 5) (v := ?_) rfl (by kernel_rfl) (by kernel_rfl) (by kernel_rfl) (fun _ _ _ h => h) (by rfl) (fun wS hSw => ?_) hHeld ?_
          rotate_left
          · obtain ⟨s0, s1⟩ := hSw; go_simp; try with_reducible rfl
          try simp only [Act.put, List.setIfInBounds_toArray, List.set_cons_zero, List.set_cons_succ]
          refine takeL (i := 6) (v := ?_) rfl (by kernel_rfl) (by kernel_rfl) (by kernel_rfl) (fun _ _ _ h => h) (by rfl) (fun wS hSw => ?_) hHeld ?_
          rotate_left
          · obtain ⟨s0, s1⟩ := hSw; go_simp; try with_reducible rfl
          try simp only [Act.put, List.setIfInBounds_toArray, List.set_cons_zero, List.set_cons_succ]
          refine takeL (i := 8) (v := ?_) rfl (by kernel_rfl) (by kernel_rfl) (by kernel_rfl) (fun _ _ _ h => h) (by rfl) (fun wS hSw => ?_) hHeld ?_
          rotate_left
          · obtain ⟨s0, s1⟩ := hSw; go_simp; try with_reducible rfl
          try simp only [Act.put, List.setIfInBounds_toArray, List.set_cons_zero, List.set_cons_succ]
          refine takeL (i := 9) (v := ?_) rfl (by kernel_rfl) (by kernel_rfl) (by kernel_rfl) (fun _ _ _ h => h) (by rfl) (fun wS hSw => ?_) hHeld ?_
          rotate_left
          · obtain ⟨s0, s1⟩ := hSw; go_simp; try with_reducible rfl
          try simp only [Act.put, List.setIfInBounds_toArray, List.set_cons_zero, List.set_cons_succ]
          refine takeL (i := 10) (v := ?_) rfl (by kernel_rfl) (by kernel_rfl) (by kernel_rfl) (fun _ _ _ h => h) (by rfl) (fun wS hSw => ?_) hHeld ?_
          rotate_left
          · obtain ⟨s0, s1⟩ := hSw; go_simp; try with_reducible rfl
          try simp only [Act.put, List.setIfInBounds_toArray, List.set_cons_zero, List.set_cons_succ]
          refine takeL (i := 11) (v := ?_) rfl (by kernel_rfl) (by kernel_rfl) (by kernel_rfl) (fun _ _ _ h => h) (by rfl) (fun wS hSw => ?_) hHeld ?_
          rotate_left
          · obtain ⟨s0, s1⟩ := hSw; go_simp; try with_reducible rfl
          try simp only [Act.put, List.setIfInBounds_toArray, List.set_cons_zero, List.set_cons_succ]
          refine wpAnyH_ready (rs := [7]) (by kernel_rfl) (by simp) (consL (i := 7) rfl (fun K hK => ?_) AllReadyH.nil)
          go_simp
          refine (enq_ok _ F D b1 n s.1 s.2.1 s.2.2 id (.slice A3 out.length c3) out (HP4.out.lk.below (Below.refl _ _).drew) (by omega) (by omega) HX.out.2.2 (RdK.below FQ.out.2.2 (Below.refl _ _).drew) (by omega)).mono ?_
          rintro e wn hq1
          obtain ⟨rfl, F1, n1, hP1, ho1, hn1⟩ := (HP4.out.below (Below.refl _ _).drew).enq hq1
          have HP1 := Lib.hid hP1
          have HO1 := Lib.hid ho1
          have HQ1 := Lib.hid (RdK.only (RdK.below FQ.out.2.2 (Below.refl _ _).drew) ho1 (fun k hk => (HP4.out.lk.clt k hk).2))
          clear hq1 hP1 ho1
          try go_simp
          refine hK.out _ _ (⟨HO1.out.cell hHeld.1 (fun hF => absurd (HFB.out _ (.inl hF)) (Nat.lt_irrefl B6)), HO1.out.cell hHeld.2 (fun hF => Nat.lt_asymm hl3 (HFB.out _ (.inl hF)))⟩) (fun hHeld2 => ?_)
          clear hK K hHeld
          have hHeld := hHeld2
          clear hHeld2
          try simp only [Act.put, List.setIfInBounds_toArray, List.set_cons_zero, List.set_cons_succ]
          refine wpAnyH_ready (rs := [12]) (by kernel_rfl) (by simp) (consL (i := 12) rfl (fun K hK => ?_) AllReadyH.nil)
          go_simp
          refine (claims_ok _ D (.slice A3 out.length c3) out HQ1.out (by omega)).mono ?_
          rintro e wn ⟨A5, c5, rfl, hO5, hb5⟩
          obtain ⟨D2, hP2, hcl2⟩ := HP1.out.claims hb5 hO5
          have HP2 := Lib.hid (And.intro hP2 (And.intro hcl2 hb5))
          clear hO5 hb5 hP2 hcl2
          try go_simp
          refine hK.out _ _ (⟨(HP2.out.2.2.cell (p := ⟨B6, 1, none⟩) (World.block_lt_of_cell? _ _ hHeld.1)).trans hHeld.1, (HP2.out.2.2.cell (p := ⟨w3.heap.size, 0, none⟩) (World.block_lt_of_cell? _ _ hHeld.2)).trans hHeld.2⟩) (fun hHeld2 => ?_)
          clear hK K hHeld
          have hHeld := hHeld2
          clear hHeld2
          try simp only [Act.put, List.setIfInBounds_toArray, List.set_cons_zero, List.set_cons_succ]
          refine wpAnyH_ready (rs := [13]) (by kernel_rfl) (by simp) (consL (i := 13) rfl (fun K hK => ?_) AllReadyH.nil)
          go_simp
          refine (rput_ok _ G D2 b2 s.1 s.2.1 s.2.2 id A5 c5 out HP2.out.1.rw (by omega) HX.out.2.2 HP2.out.2.1 (by omega) HG.out).mono ?_
          rintro e wn hq3
          obtain ⟨rfl, G3, hP3, ho3⟩ := HP2.out.1.put hq3
          have HP3 := Lib.hid hP3
          have HO3 := Lib.hid ho3
          clear hq3 hP3 ho3
          try go_simp
          refine hK.out _ _ (⟨HO3.out.cell hHeld.1 (fun hF => absurd (HFB.out _ (.inr hF)) (Nat.lt_irrefl B6)), HO3.out.cell hHeld.2 (fun hF => Nat.lt_asymm hl3 (HFB.out _ (.inr hF)))⟩) (fun hHeld2 => ?_)
          clear hK K hHeld
          have hHeld := hHeld2
          clear hHeld2
          try simp only [Act.put, List.setIfInBounds_toArray, List.set_cons_zero, List.set_cons_succ]
          refine takeL (i := 14) (v := ?_) rfl (by kernel_rfl) (by kernel_rfl) (by kernel_rfl) (fun _ _ _ h => h) (by rfl) (fun wS hSw => ?_) hHeld ?_
          rotate_left
          · obtain ⟨s0, s1⟩ := hSw; go_simp; try with_reducible rfl
          try simp only [Act.put, List.setIfInBounds_toArray, List.set_cons_zero, List.set_cons_succ]
          refine takeL (i := 15) (v := ?_) rfl (by kernel_rfl) (by kernel_rfl) (by kernel_rfl) (fun _ _ _ h => h) (by rfl) (fun wS hSw => ?_) hHeld ?_
          rotate_left
          · obtain ⟨s0, s1⟩ := hSw; go_simp; try with_reducible rfl
          try simp only [Act.put, List.setIfInBounds_toArray, List.set_cons_zero, List.set_cons_succ]
          refine wpAnyH_done (by kernel_rfl) ?_ _
          have hls0 := enqS_len s id out
          obtain ⟨s1, hs1⟩ : ∃ s1, enqS s id out = s1 := ⟨_, rfl⟩
          rw [hs1] at HP3 hls0
          have hls : s1.2.2.length ≤ k + 1 := by omega
          have hln : n1 ≤ 200 * (k + 1) := by omega
          have HT := HP3
          clear hHeld hs1 hls0 HP3 HO3 HP2 HP1 HO1 HQ1 FQ HP4 cc4 hl4 hl3
          generalize wn = wt at HT ⊢
          have hrl : (ready s1.2.2).length ≤ 1000000 := Nat.le_trans (List.length_filter_le _ _) (by simp [nums]; omega)
          obtain ⟨A9, c9, hq9⟩ : ∃ A c, wt.cell? ⟨b2, 0, none⟩ = some (.slice A s1.2.2.length c) := by
            obtain ⟨lv, xs, hh⟩ := HT.out.rw
            obtain ⟨A, c, rfl⟩ := ownsRow_slice hh.own
            exact ⟨A, c, hh.cells.1⟩
          have hb2l : b2 < wt.heap.size := World.block_lt_of_cell? _ _ hq9
          have HRL := Lib.hid hrl
          clear hrl
          go_wp2_with fail
          refine wp_region_held_drew (S := (fun w' => Below wt.heap.size wt w')) (by kernel_rfl) (Below.refl _ _).drew (fun hHeld => ?_)
          refine takeL (i := 0) (v := ?_) rfl (by kernel_rfl) (by kernel_rfl) (by kernel_rfl) (fun _ _ _ h => h) (by rfl) (fun wS hSw => ?_) hHeld ?_
          rotate_left
          · go_simp; try with_reducible rfl
          try simp only [Act.put, List.setIfInBounds_toArray, List.set_cons_zero, List.set_cons_succ]
          refine takeL (i := 2) (v := ?_) rfl (by kernel_rfl) (by kernel_rfl) (by kernel_rfl) (fun _ _ _ h => h) (by rfl) (fun wS hSw => ?_) hHeld ?_
          rotate_left
          · go_simp; try with_reducible rfl
          try simp only [Act.put, List.setIfInBounds_toArray, List.set_cons_zero, List.set_cons_succ]
          refine wpAnyH_ready (rs := [1]) (by kernel_rfl) (by simp) (consL (i := 1) rfl (fun K hK => ?_) AllReadyH.nil)
          go_simp
          refine (lkReady_ok _ F1 D2 b1 n1 s1.1 s1.2.1 s1.2.2 (HT.out.lk.below hHeld) (by omega)).mono ?_
          rintro e wn ⟨v1, rfl, hfi1⟩
          have hbn := hfi1.below
          have HI1 := Lib.hid hfi1.rd
          clear hfi1
          try go_simp
          refine hK.out _ _ (hHeld.trans (hbn.mono hHeld.size)) (fun hHeld2 => ?_)
          clear hK K hHeld
          have hHeld := hHeld2
          clear hHeld2
          try simp only [Act.put, List.setIfInBounds_toArray, List.set_cons_zero, List.set_cons_succ]
          refine wpAnyH_ready (rs := [3]) (by kernel_rfl) (by simp) (consL (i := 3) rfl (fun K hK => ?_) AllReadyH.nil)
          go_simp
          refine (rready_ok _ G3 D2 b2 s1.1 s1.2.1 s1.2.2 (HT.out.rw.below hHeld) (by omega) HT.out.lk.line.1).mono ?_
          rintro e wn ⟨v2, rfl, hfi2⟩
          have hbn := hfi2.below
          have HI2 := Lib.hid (And.intro (HI1.out.below hbn) hfi2.rd)
          clear hfi2
          try go_simp
          refine hK.out _ _ (hHeld.trans (hbn.mono hHeld.size)) (fun hHeld2 => ?_)
          clear hK K hHeld
          have hHeld := hHeld2
          clear hHeld2
          try simp only [Act.put, List.setIfInBounds_toArray, List.set_cons_zero, List.set_cons_succ]
          refine wpAnyH_ready (rs := [4]) (by kernel_rfl) (by simp) (consL (i := 4) rfl (fun K hK => ?_) AllReadyH.nil)
          go_simp
          refine (ints_ok _ _ _ _ _ (ready s1.2.2) (ready s1.2.2) HI2.out.1 HI2.out.2 HRL.out).mono ?_
          rintro e wn ⟨r3, hr3, rfl, hbn⟩
          obtain rfl : r3 = true := hr3.2 rfl
          clear hr3
          try go_simp
          refine hK.out _ _ (hHeld.trans (hbn.mono hHeld.size)) (fun hHeld2 => ?_)
          clear hK K hHeld
          have hHeld := hHeld2
          clear hHeld2
          try simp only [Act.put, List.setIfInBounds_toArray, List.set_cons_zero, List.set_cons_succ]
          refine takeL (i := 5) (v := ?_) rfl (by kernel_rfl) (by kernel_rfl) (by kernel_rfl) (fun _ _ _ h => h) (by rfl) (fun wS hSw => ?_) hHeld ?_
          rotate_left
          · go_simp; try with_reducible rfl
          try simp only [Act.put, List.setIfInBounds_toArray, List.set_cons_zero, List.set_cons_succ]
          refine takeL (i := 6) (v := ?_) rfl (by kernel_rfl) (by kernel_rfl) (by kernel_rfl) (fun _ _ _ h => h) (by rfl) (fun wS hSw => ?_) hHeld ?_
          rotate_left
          · go_simp; try with_reducible rfl
          try simp only [Act.put, List.setIfInBounds_toArray, List.set_cons_zero, List.set_cons_succ]
          refine takeL (i := 7) (v := ?_) rfl (by kernel_rfl) (by kernel_rfl) (by kernel_rfl) (fun _ _ _ h => h) (by rfl) (fun wS hSw => ?_) hHeld ?_
          rotate_left
          · go_simp; try with_reducible rfl
          try simp only [Act.put, List.setIfInBounds_toArray, List.set_cons_zero, List.set_cons_succ]
          refine takeL (i := 9) (v := ?_) rfl (by kernel_rfl) (by kernel_rfl) (by kernel_rfl) (fun _ _ _ h => h) (by rfl) (fun wS hSw => ?_) hHeld ?_
          rotate_left
          · go_simp; try with_reducible rfl
          try simp only [Act.put, List.setIfInBounds_toArray, List.set_cons_zero, List.set_cons_succ]
          refine takeL (i := 10) (v := ?_) rfl (by kernel_rfl) (by kernel_rfl) (by kernel_rfl) (fun _ _ _ h => h) (by rfl) (fun wS hSw => ?_) hHeld ?_
          rotate_left
          · go_simp; try with_reducible rfl
          try simp only [Act.put, List.setIfInBounds_toArray, List.set_cons_zero, List.set_cons_succ]
          refine takeL (i := 11) (v := ?_) rfl (by kernel_rfl) (by kernel_rfl) (by kernel_rfl) (fun _ _ _ h => h) (by rfl) (fun wS hSw => ?_) hHeld ?_
          rotate_left
          · go_simp; try with_reducible rfl
          try simp only [Act.put, List.setIfInBounds_toArray, List.set_cons_zero, List.set_cons_succ]
          refine takeL (i := 12) (v := ?_) rfl (by kernel_rfl) (by kernel_rfl) (by kernel_rfl) (fun _ _ _ h => h) (by rfl) (fun wS hSw => ?_) hHeld ?_
          rotate_left
          · have s1 := (Below.cell hSw (p := ⟨b2, 0, none⟩) hb2l).trans hq9; go_simp; try with_reducible rfl
          try simp only [Act.put, List.setIfInBounds_toArray, List.set_cons_zero, List.set_cons_succ]
          refine takeL (i := 13) (v := ?_) rfl (by kernel_rfl) (by kernel_rfl) (by kernel_rfl) (fun _ _ _ h => h) (by rfl) (fun wS hSw => ?_) hHeld ?_
          rotate_left
          · go_simp; try with_reducible rfl
          try simp only [Act.put, List.setIfInBounds_toArray, List.set_cons_zero, List.set_cons_succ]
          refine wpAnyH_ready (rs := [8]) (by kernel_rfl) (by simp) (consL (i := 8) rfl (fun K hK => ?_) AllReadyH.nil)
          go_simp
          refine (lkLen_ok _ F1 D2 b1 n1 s1.1 s1.2.1 s1.2.2 (HT.out.lk.below hHeld)).mono ?_
          rintro e wn ⟨rfl, rfl⟩
          try go_simp
          refine hK.out _ _ (hHeld) (fun hHeld2 => ?_)
          clear hK K hHeld
          have hHeld := hHeld2
          clear hHeld2
          try simp only [Act.put, List.setIfInBounds_toArray, List.set_cons_zero, List.set_cons_succ]
          refine takeL (i := 14) (v := ?_) rfl (by kernel_rfl) (by kernel_rfl) (by kernel_rfl) (fun _ _ _ h => h) (by rfl) (fun wS hSw => ?_) hHeld ?_
          rotate_left
          · go_simp; try with_reducible rfl
          try simp only [Act.put, List.setIfInBounds_toArray, List.set_cons_zero, List.set_cons_succ]
          refine takeL (i := 15) (v := ?_) rfl (by kernel_rfl) (by kernel_rfl) (by kernel_rfl) (fun _ _ _ h => h) (by rfl) (fun wS hSw => ?_) hHeld ?_
          rotate_left
          · go_simp; try with_reducible rfl
          try simp only [Act.put, List.setIfInBounds_toArray, List.set_cons_zero, List.set_cons_succ]
          refine wpAnyH_done (by kernel_rfl) ?_ _
          go_wp2_with fail
          go_roundw
          case rel => exact ⟨k + 1, by omega, by go_num, F1, G3, D2, n1, s1, HT.out.below hHeld, hls, hln⟩
          case measure => simp [intOf]; omega
      · have e0 : (ask == 0) = false := by simpa using ha0
        by_cases ha1 : ask = 1
        · subst ha1
          clear ha0 e0
          go_upto_region 21 with fail
          have hbx := box1 wr (.cells #[.int .i64 1, .int .i64 id, .slice A2 q.length c2] 33)
          have cb1 : (wr.alloc (.cells #[.int .i64 1, .int .i64 id, .slice A2 q.length c2] 33)).cell? ⟨wr.heap.size, 1, none⟩ = some (.int .i64 id) := by simp
          have HFB := Lib.hid HP.out.flt
          have hlb : wr.heap.size < (wr.alloc (.cells #[.int .i64 1, .int .i64 id, .slice A2 q.length c2] 33)).heap.size := by simp
          generalize wr.alloc (.cells #[.int .i64 1, .int .i64 id, .slice A2 q.length c2] 33) = wb at hbx cb1 hlb ⊢
          have HPb := Lib.hid (HP.out.below hbx)
          obtain ⟨B6, hB6⟩ : ∃ B, wr.heap.size = B := ⟨_, rfl⟩
          rw [hB6] at HFB cb1 hlb ⊢
          clear hbx hB6 r0 r1 r2
          have hl5 : s.2.2.length ≤ 60 := by omega
          have hn5 : n ≤ 100000 := by omega
          refine wp_region_held_drew (S := (fun w' => w'.cell? ⟨B6, 1, none⟩ = some (.int .i64 id) ∧ True)) (by kernel_rfl) ⟨(((Below.refl _ _).drew).cell (p := ⟨B6, 1, none⟩) hlb).trans cb1, trivial⟩ (fun hHeld => ?_)
          refine takeL (i := 0) (v := ?_) rfl (by kernel_rfl) (by kernel_rfl) (by kernel_rfl) (fun _ _ _ h => h) (by rfl) (fun wS hSw => ?_) hHeld ?_
          rotate_left
          · obtain ⟨s0, s1⟩ := hSw; go_simp; try with_reducible rfl
          try simp only [Act.put, List.setIfInBounds_toArray, List.set_cons_zero, List.set_cons_succ]
          refine takeL (i := 1) (v := ?_) rfl (by kernel_rfl) (by kernel_rfl) (by kernel_rfl) (fun _ _ _ h => h) (by rfl) (fun wS hSw => ?_) hHeld ?_
          rotate_left
          · obtain ⟨s0, s1⟩ := hSw; go_simp; try with_reducible rfl
          try simp only [Act.put, List.setIfInBounds_toArray, List.set_cons_zero, List.set_cons_succ]
          refine takeL (i := 2) (v := ?_) rfl (by kernel_rfl) (by kernel_rfl) (by kernel_rfl) (fun _ _ _ h => h) (by rfl) (fun wS hSw => ?_) hHeld ?_
          rotate_left
          · obtain ⟨s0, s1⟩ := hSw; go_simp; try with_reducible rfl
          try simp only [Act.put, List.setIfInBounds_toArray, List.set_cons_zero, List.set_cons_succ]
          refine takeL (i := 4) (v := ?_) rfl (by kernel_rfl) (by kernel_rfl) (by kernel_rfl) (fun _ _ _ h => h) (by rfl) (fun wS hSw => ?_) hHeld ?_
          rotate_left
          · obtain ⟨s0, s1⟩ := hSw; go_simp; try with_reducible rfl
          try simp only [Act.put, List.setIfInBounds_toArray, List.set_cons_zero, List.set_cons_succ]
          refine takeL (i := 5) (v := ?_) rfl (by kernel_rfl) (by kernel_rfl) (by kernel_rfl) (fun _ _ _ h => h) (by rfl) (fun wS hSw => ?_) hHeld ?_
          rotate_left
          · obtain ⟨s0, s1⟩ := hSw; go_simp; try with_reducible rfl
          try simp only [Act.put, List.setIfInBounds_toArray, List.set_cons_zero, List.set_cons_succ]
          refine takeL (i := 6) (v := ?_) rfl (by kernel_rfl) (by kernel_rfl) (by kernel_rfl) (fun _ _ _ h => h) (by rfl) (fun wS hSw => ?_) hHeld ?_
          rotate_left
          · obtain ⟨s0, s1⟩ := hSw; go_simp; try with_reducible rfl
          try simp only [Act.put, List.setIfInBounds_toArray, List.set_cons_zero, List.set_cons_succ]
          refine wpAnyH_ready (rs := [3]) (by kernel_rfl) (by simp) (consL (i := 3) rfl (fun K hK => ?_) AllReadyH.nil)
          go_simp
          refine (rel_ok _ F C b1 n s.1 s.2.1 s.2.2 id (HPb.out.lk.below (Below.refl _ _).drew) (by omega) (by omega) HX.out.2.2).mono ?_
          rintro e wn hq1
          obtain ⟨rfl, F1, n1, hP1, ho1, hn1⟩ := (HPb.out.below (Below.refl _ _).drew).rel hq1
          have HP1 := Lib.hid hP1
          have HO1 := Lib.hid ho1
          clear hq1 hP1 ho1
          try go_simp
          refine hK.out _ _ (⟨HO1.out.cell hHeld.1 (fun hF => absurd (HFB.out _ (.inl hF)) (Nat.lt_irrefl B6)), trivial⟩) (fun hHeld2 => ?_)
          clear hK K hHeld
          have hHeld := hHeld2
          clear hHeld2
          try simp only [Act.put, List.setIfInBounds_toArray, List.set_cons_zero, List.set_cons_succ]
          refine wpAnyH_ready (rs := [7]) (by kernel_rfl) (by simp) (consL (i := 7) rfl (fun K hK => ?_) AllReadyH.nil)
          go_simp
          refine (rout_ok _ G C b2 s.1 s.2.1 s.2.2 id HP1.out.rw (by omega) HPb.out.lk.line.1).mono ?_
          rintro e wn hq3
          obtain ⟨rfl, G3, hP3, ho3⟩ := HP1.out.out hq3
          have HP3 := Lib.hid hP3
          have HO3 := Lib.hid ho3
          clear hq3 hP3 ho3
          try go_simp
          refine hK.out _ _ (⟨HO3.out.cell hHeld.1 (fun hF => absurd (HFB.out _ (.inr hF)) (Nat.lt_irrefl B6)), trivial⟩) (fun hHeld2 => ?_)
          clear hK K hHeld
          have hHeld := hHeld2
          clear hHeld2
          try simp only [Act.put, List.setIfInBounds_toArray, List.set_cons_zero, List.set_cons_succ]
          refine takeL (i := 8) (v := ?_) rfl (by kernel_rfl) (by kernel_rfl) (by kernel_rfl) (fun _ _ _ h => h) (by rfl) (fun wS hSw => ?_) hHeld ?_
          rotate_left
          · obtain ⟨s0, s1⟩ := hSw; go_simp; try with_reducible rfl
          try simp only [Act.put, List.setIfInBounds_toArray, List.set_cons_zero, List.set_cons_succ]
          refine wpAnyH_done (by kernel_rfl) ?_ _
          have hls0 := relS_len s id
          obtain ⟨s1, hs1⟩ : ∃ s1, relS s id = s1 := ⟨_, rfl⟩
          rw [hs1] at HP3 hls0
          have hls : s1.2.2.length ≤ k + 1 := by omega
          have hln : n1 ≤ 200 * (k + 1) := by omega
          have HT := HP3
          clear hHeld hs1 hls0 HP3 HO3 HP1 HO1
          generalize wn = wt at HT ⊢
          have hrl : (ready s1.2.2).length ≤ 1000000 := Nat.le_trans (List.length_filter_le _ _) (by simp [nums]; omega)
          obtain ⟨A9, c9, hq9⟩ : ∃ A c, wt.cell? ⟨b2, 0, none⟩ = some (.slice A s1.2.2.length c) := by
            obtain ⟨lv, xs, hh⟩ := HT.out.rw
            obtain ⟨A, c, rfl⟩ := ownsRow_slice hh.own
            exact ⟨A, c, hh.cells.1⟩
          have hb2l : b2 < wt.heap.size := World.block_lt_of_cell? _ _ hq9
          have HRL := Lib.hid hrl
          clear hrl
          go_wp2_with fail
          refine wp_region_held_drew (S := (fun w' => Below wt.heap.size wt w')) (by kernel_rfl) (Below.refl _ _).drew (fun hHeld => ?_)
          refine takeL (i := 0) (v := ?_) rfl (by kernel_rfl) (by kernel_rfl) (by kernel_rfl) (fun _ _ _ h => h) (by rfl) (fun wS hSw => ?_) hHeld ?_
          rotate_left
          · go_simp; try with_reducible rfl
          try simp only [Act.put, List.setIfInBounds_toArray, List.set_cons_zero, List.set_cons_succ]
          refine takeL (i := 2) (v := ?_) rfl (by kernel_rfl) (by kernel_rfl) (by kernel_rfl) (fun _ _ _ h => h) (by rfl) (fun wS hSw => ?_) hHeld ?_
          rotate_left
          · go_simp; try with_reducible rfl
          try simp only [Act.put, List.setIfInBounds_toArray, List.set_cons_zero, List.set_cons_succ]
          refine wpAnyH_ready (rs := [1]) (by kernel_rfl) (by simp) (consL (i := 1) rfl (fun K hK => ?_) AllReadyH.nil)
          go_simp
          refine (lkReady_ok _ F1 C b1 n1 s1.1 s1.2.1 s1.2.2 (HT.out.lk.below hHeld) (by omega)).mono ?_
          rintro e wn ⟨v1, rfl, hfi1⟩
          have hbn := hfi1.below
          have HI1 := Lib.hid hfi1.rd
          clear hfi1
          try go_simp
          refine hK.out _ _ (hHeld.trans (hbn.mono hHeld.size)) (fun hHeld2 => ?_)
          clear hK K hHeld
          have hHeld := hHeld2
          clear hHeld2
          try simp only [Act.put, List.setIfInBounds_toArray, List.set_cons_zero, List.set_cons_succ]
          refine wpAnyH_ready (rs := [3]) (by kernel_rfl) (by simp) (consL (i := 3) rfl (fun K hK => ?_) AllReadyH.nil)
          go_simp
          refine (rready_ok _ G3 C b2 s1.1 s1.2.1 s1.2.2 (HT.out.rw.below hHeld) (by omega) HT.out.lk.line.1).mono ?_
          rintro e wn ⟨v2, rfl, hfi2⟩
          have hbn := hfi2.below
          have HI2 := Lib.hid (And.intro (HI1.out.below hbn) hfi2.rd)
          clear hfi2
          try go_simp
          refine hK.out _ _ (hHeld.trans (hbn.mono hHeld.size)) (fun hHeld2 => ?_)
          clear hK K hHeld
          have hHeld := hHeld2
          clear hHeld2
          try simp only [Act.put, List.setIfInBounds_toArray, List.set_cons_zero, List.set_cons_succ]
          refine wpAnyH_ready (rs := [4]) (by kernel_rfl) (by simp) (consL (i := 4) rfl (fun K hK => ?_) AllReadyH.nil)
          go_simp
          refine (ints_ok _ _ _ _ _ (ready s1.2.2) (ready s1.2.2) HI2.out.1 HI2.out.2 HRL.out).mono ?_
          rintro e wn ⟨r3, hr3, rfl, hbn⟩
          obtain rfl : r3 = true := hr3.2 rfl
          clear hr3
          try go_simp
          refine hK.out _ _ (hHeld.trans (hbn.mono hHeld.size)) (fun hHeld2 => ?_)
          clear hK K hHeld
          have hHeld := hHeld2
          clear hHeld2
          try simp only [Act.put, List.setIfInBounds_toArray, List.set_cons_zero, List.set_cons_succ]
          refine takeL (i := 5) (v := ?_) rfl (by kernel_rfl) (by kernel_rfl) (by kernel_rfl) (fun _ _ _ h => h) (by rfl) (fun wS hSw => ?_) hHeld ?_
          rotate_left
          · go_simp; try with_reducible rfl
          try simp only [Act.put, List.setIfInBounds_toArray, List.set_cons_zero, List.set_cons_succ]
          refine takeL (i := 6) (v := ?_) rfl (by kernel_rfl) (by kernel_rfl) (by kernel_rfl) (fun _ _ _ h => h) (by rfl) (fun wS hSw => ?_) hHeld ?_
          rotate_left
          · go_simp; try with_reducible rfl
          try simp only [Act.put, List.setIfInBounds_toArray, List.set_cons_zero, List.set_cons_succ]
          refine takeL (i := 7) (v := ?_) rfl (by kernel_rfl) (by kernel_rfl) (by kernel_rfl) (fun _ _ _ h => h) (by rfl) (fun wS hSw => ?_) hHeld ?_
          rotate_left
          · go_simp; try with_reducible rfl
          try simp only [Act.put, List.setIfInBounds_toArray, List.set_cons_zero, List.set_cons_succ]
          refine takeL (i := 9) (v := ?_) rfl (by kernel_rfl) (by kernel_rfl) (by kernel_rfl) (fun _ _ _ h => h) (by rfl) (fun wS hSw => ?_) hHeld ?_
          rotate_left
          · go_simp; try with_reducible rfl
          try simp only [Act.put, List.setIfInBounds_toArray, List.set_cons_zero, List.set_cons_succ]
          refine takeL (i := 10) (v := ?_) rfl (by kernel_rfl) (by kernel_rfl) (by kernel_rfl) (fun _ _ _ h => h) (by rfl) (fun wS hSw => ?_) hHeld ?_
          rotate_left
          · go_simp; try with_reducible rfl
          try simp only [Act.put, List.setIfInBounds_toArray, List.set_cons_zero, List.set_cons_succ]
          refine takeL (i := 11) (v := ?_) rfl (by kernel_rfl) (by kernel_rfl) (by kernel_rfl) (fun _ _ _ h => h) (by rfl) (fun wS hSw => ?_) hHeld ?_
          rotate_left
          · go_simp; try with_reducible rfl
          try simp only [Act.put, List.setIfInBounds_toArray, List.set_cons_zero, List.set_cons_succ]
          refine takeL (i := 12) (v := ?_) rfl (by kernel_rfl) (by kernel_rfl) (by kernel_rfl) (fun _ _ _ h => h) (by rfl) (fun wS hSw => ?_) hHeld ?_
          rotate_left
          · have s1 := (Below.cell hSw (p := ⟨b2, 0, none⟩) hb2l).trans hq9; go_simp; try with_reducible rfl
          try simp only [Act.put, List.setIfInBounds_toArray, List.set_cons_zero, List.set_cons_succ]
          refine takeL (i := 13) (v := ?_) rfl (by kernel_rfl) (by kernel_rfl) (by kernel_rfl) (fun _ _ _ h => h) (by rfl) (fun wS hSw => ?_) hHeld ?_
          rotate_left
          · go_simp; try with_reducible rfl
          try simp only [Act.put, List.setIfInBounds_toArray, List.set_cons_zero, List.set_cons_succ]
          refine wpAnyH_ready (rs := [8]) (by kernel_rfl) (by simp) (consL (i := 8) rfl (fun K hK => ?_) AllReadyH.nil)
          go_simp
          refine (lkLen_ok _ F1 C b1 n1 s1.1 s1.2.1 s1.2.2 (HT.out.lk.below hHeld)).mono ?_
          rintro e wn ⟨rfl, rfl⟩
          try go_simp
          refine hK.out _ _ (hHeld) (fun hHeld2 => ?_)
          clear hK K hHeld
          have hHeld := hHeld2
          clear hHeld2
          try simp only [Act.put, List.setIfInBounds_toArray, List.set_cons_zero, List.set_cons_succ]
          refine takeL (i := 14) (v := ?_) rfl (by kernel_rfl) (by kernel_rfl) (by kernel_rfl) (fun _ _ _ h => h) (by rfl) (fun wS hSw => ?_) hHeld ?_
          rotate_left
          · go_simp; try with_reducible rfl
          try simp only [Act.put, List.setIfInBounds_toArray, List.set_cons_zero, List.set_cons_succ]
          refine takeL (i := 15) (v := ?_) rfl (by kernel_rfl) (by kernel_rfl) (by kernel_rfl) (fun _ _ _ h => h) (by rfl) (fun wS hSw => ?_) hHeld ?_
          rotate_left
          · go_simp; try with_reducible rfl
          try simp only [Act.put, List.setIfInBounds_toArray, List.set_cons_zero, List.set_cons_succ]
          refine wpAnyH_done (by kernel_rfl) ?_ _
          go_wp2_with fail
          go_roundw
          case rel => exact ⟨k + 1, by omega, by go_num, F1, G3, C, n1, s1, HT.out.below hHeld, hls, hln⟩
          case measure => simp [intOf]; omega
        · have e1 : (ask == 1) = false := by simpa using ha1
          have HA0 := Lib.hid (And.intro ha0 ha1)
          clear ha0 ha1
          go_upto_region 12 with fail
          have hbx := box1 wr (.cells #[.int .i64 ask, .int .i64 id, .slice A2 q.length c2] 33)
          have cb1 : (wr.alloc (.cells #[.int .i64 ask, .int .i64 id, .slice A2 q.length c2] 33)).cell? ⟨wr.heap.size, 1, none⟩ = some (.int .i64 id) := by simp
          have HFB := Lib.hid HP.out.flt
          have hlb : wr.heap.size < (wr.alloc (.cells #[.int .i64 ask, .int .i64 id, .slice A2 q.length c2] 33)).heap.size := by simp
          generalize wr.alloc (.cells #[.int .i64 ask, .int .i64 id, .slice A2 q.length c2] 33) = wb at hbx cb1 hlb ⊢
          have HPb := Lib.hid (HP.out.below hbx)
          obtain ⟨B6, hB6⟩ : ∃ B, wr.heap.size = B := ⟨_, rfl⟩
          rw [hB6] at HFB cb1 hlb ⊢
          clear hbx hB6 r0 r1 r2
          have hl5 : s.2.2.length ≤ 60 := by omega
          have hls : s.2.2.length ≤ k + 1 := by omega
          have hln : n ≤ 200 * (k + 1) := by omega
          go_wp2_with fail
          refine (lkWaits_ok wb F C b1 n s.1 s.2.1 s.2.2 id HPb.out.lk (by omega) HX.out.2.2).mono ?_
          rintro e w5 ⟨hb5, ⟨hnot, rfl⟩ | ⟨hin, v5, rfl, hfi5⟩⟩
          · have cb1' := (hb5.cell (p := ⟨B6, 1, none⟩) hlb).trans cb1
            have HP5 := Lib.hid (HPb.out.below hb5)
            have HNO := Lib.hid hnot
            clear hb5 cb1 hnot
            go_wp2_with fail
            refine (rat_ok w5 G C b2 s.1 s.2.1 s.2.2 id HP5.out.rw (by omega)).mono ?_
            rintro e w6 ⟨rfl, ⟨j, f, hj, rfl⟩ | ⟨_, rfl⟩⟩
            · exact absurd (mem_nums.2 ⟨f, List.mem_of_getElem? hj⟩) HNO.out
            · go_upto_region 23 with fail
              have HT := HP5
              clear cb1'
              generalize w5 = wt at HT ⊢
              have hrl : (ready s.2.2).length ≤ 1000000 := Nat.le_trans (List.length_filter_le _ _) (by simp [nums]; omega)
              obtain ⟨A9, c9, hq9⟩ : ∃ A c, wt.cell? ⟨b2, 0, none⟩ = some (.slice A s.2.2.length c) := by
                obtain ⟨lv, xs, hh⟩ := HT.out.rw
                obtain ⟨A, c, rfl⟩ := ownsRow_slice hh.own
                exact ⟨A, c, hh.cells.1⟩
              have hb2l : b2 < wt.heap.size := World.block_lt_of_cell? _ _ hq9
              have HRL := Lib.hid hrl
              clear hrl
              go_wp2_with fail
              refine wp_region_held_drew (S := (fun w' => Below wt.heap.size wt w')) (by kernel_rfl) (Below.refl _ _).drew (fun hHeld => ?_)
              refine takeL (i := 0) (v := ?_) rfl (by kernel_rfl) (by kernel_rfl) (by kernel_rfl) (fun _ _ _ h => h) (by rfl) (fun wS hSw => ?_) hHeld ?_
              rotate_left
              · go_simp; try with_reducible rfl
              try simp only [Act.put, List.setIfInBounds_toArray, List.set_cons_zero, List.set_cons_succ]
              refine takeL (i := 2) (v := ?_) rfl (by kernel_rfl) (by kernel_rfl) (by kernel_rfl) (fun _ _ _ h => h) (by rfl) (fun wS hSw => ?_) hHeld ?_
              rotate_left
              · go_simp; try with_reducible rfl
              try simp only [Act.put, List.setIfInBounds_toArray, List.set_cons_zero, List.set_cons_succ]
              refine wpAnyH_ready (rs := [1]) (by kernel_rfl) (by simp) (consL (i := 1) rfl (fun K hK => ?_) AllReadyH.nil)
              go_simp
              refine (lkReady_ok _ F C b1 n s.1 s.2.1 s.2.2 (HT.out.lk.below hHeld) (by omega)).mono ?_
              rintro e wn ⟨v1, rfl, hfi1⟩
              have hbn := hfi1.below
              have HI1 := Lib.hid hfi1.rd
              clear hfi1
              try go_simp
              refine hK.out _ _ (hHeld.trans (hbn.mono hHeld.size)) (fun hHeld2 => ?_)
              clear hK K hHeld
              have hHeld := hHeld2
              clear hHeld2
              try simp only [Act.put, List.setIfInBounds_toArray, List.set_cons_zero, List.set_cons_succ]
              refine wpAnyH_ready (rs := [3]) (by kernel_rfl) (by simp) (consL (i := 3) rfl (fun K hK => ?_) AllReadyH.nil)
              go_simp
              refine (rready_ok _ G C b2 s.1 s.2.1 s.2.2 (HT.out.rw.below hHeld) (by omega) HT.out.lk.line.1).mono ?_
              rintro e wn ⟨v2, rfl, hfi2⟩
              have hbn := hfi2.below
              have HI2 := Lib.hid (And.intro (HI1.out.below hbn) hfi2.rd)
              clear hfi2
              try go_simp
              refine hK.out _ _ (hHeld.trans (hbn.mono hHeld.size)) (fun hHeld2 => ?_)
              clear hK K hHeld
              have hHeld := hHeld2
              clear hHeld2
              try simp only [Act.put, List.setIfInBounds_toArray, List.set_cons_zero, List.set_cons_succ]
              refine wpAnyH_ready (rs := [4]) (by kernel_rfl) (by simp) (consL (i := 4) rfl (fun K hK => ?_) AllReadyH.nil)
              go_simp
              refine (ints_ok _ _ _ _ _ (ready s.2.2) (ready s.2.2) HI2.out.1 HI2.out.2 HRL.out).mono ?_
              rintro e wn ⟨r3, hr3, rfl, hbn⟩
              obtain rfl : r3 = true := hr3.2 rfl
              clear hr3
              try go_simp
              refine hK.out _ _ (hHeld.trans (hbn.mono hHeld.size)) (fun hHeld2 => ?_)
              clear hK K hHeld
              have hHeld := hHeld2
              clear hHeld2
              try simp only [Act.put, List.setIfInBounds_toArray, List.set_cons_zero, List.set_cons_succ]
              refine takeL (i := 5) (v := ?_) rfl (by kernel_rfl) (by kernel_rfl) (by kernel_rfl) (fun _ _ _ h => h) (by rfl) (fun wS hSw => ?_) hHeld ?_
              rotate_left
              · go_simp; try with_reducible rfl
              try simp only [Act.put, List.setIfInBounds_toArray, List.set_cons_zero, List.set_cons_succ]
              refine takeL (i := 6) (v := ?_) rfl (by kernel_rfl) (by kernel_rfl) (by kernel_rfl) (fun _ _ _ h => h) (by rfl) (fun wS hSw => ?_) hHeld ?_
              rotate_left
              · go_simp; try with_reducible rfl
              try simp only [Act.put, List.setIfInBounds_toArray, List.set_cons_zero, List.set_cons_succ]
              refine takeL (i := 7) (v := ?_) rfl (by kernel_rfl) (by kernel_rfl) (by kernel_rfl) (fun _ _ _ h => h) (by rfl) (fun wS hSw => ?_) hHeld ?_
              rotate_left
              · go_simp; try with_reducible rfl
              try simp only [Act.put, List.setIfInBounds_toArray, List.set_cons_zero, List.set_cons_succ]
              refine takeL (i := 9) (v := ?_) rfl (by kernel_rfl) (by kernel_rfl) (by kernel_rfl) (fun _ _ _ h => h) (by rfl) (fun wS hSw => ?_) hHeld ?_
              rotate_left
              · go_simp; try with_reducible rfl
              try simp only [Act.put, List.setIfInBounds_toArray, List.set_cons_zero, List.set_cons_succ]
              refine takeL (i := 10) (v := ?_) rfl (by kernel_rfl) (by kernel_rfl) (by kernel_rfl) (fun _ _ _ h => h) (by rfl) (fun wS hSw => ?_) hHeld ?_
              rotate_left
              · go_simp; try with_reducible rfl
              try simp only [Act.put, List.setIfInBounds_toArray, List.set_cons_zero, List.set_cons_succ]
              refine takeL (i := 11) (v := ?_) rfl (by kernel_rfl) (by kernel_rfl) (by kernel_rfl) (fun _ _ _ h => h) (by rfl) (fun wS hSw => ?_) hHeld ?_
              rotate_left
              · go_simp; try with_reducible rfl
              try simp only [Act.put, List.setIfInBounds_toArray, List.set_cons_zero, List.set_cons_succ]
              refine takeL (i := 12) (v := ?_) rfl (by kernel_rfl) (by kernel_rfl) (by kernel_rfl) (fun _ _ _ h => h) (by rfl) (fun wS hSw => ?_) hHeld ?_
              rotate_left
              · have s1 := (Below.cell hSw (p := ⟨b2, 0, none⟩) hb2l).trans hq9; go_simp; try with_reducible rfl
              try simp only [Act.put, List.setIfInBounds_toArray, List.set_cons_zero, List.set_cons_succ]
              refine takeL (i := 13) (v := ?_) rfl (by kernel_rfl) (by kernel_rfl) (by kernel_rfl) (fun _ _ _ h => h) (by rfl) (fun wS hSw => ?_) hHeld ?_
              rotate_left
              · go_simp; try with_reducible rfl
              try simp only [Act.put, List.setIfInBounds_toArray, List.set_cons_zero, List.set_cons_succ]
              refine wpAnyH_ready (rs := [8]) (by kernel_rfl) (by simp) (consL (i := 8) rfl (fun K hK => ?_) AllReadyH.nil)
              go_simp
              refine (lkLen_ok _ F C b1 n s.1 s.2.1 s.2.2 (HT.out.lk.below hHeld)).mono ?_
              rintro e wn ⟨rfl, rfl⟩
              try go_simp
              refine hK.out _ _ (hHeld) (fun hHeld2 => ?_)
              clear hK K hHeld
              have hHeld := hHeld2
              clear hHeld2
              try simp only [Act.put, List.setIfInBounds_toArray, List.set_cons_zero, List.set_cons_succ]
              refine takeL (i := 14) (v := ?_) rfl (by kernel_rfl) (by kernel_rfl) (by kernel_rfl) (fun _ _ _ h => h) (by rfl) (fun wS hSw => ?_) hHeld ?_
              rotate_left
              · go_simp; try with_reducible rfl
              try simp only [Act.put, List.setIfInBounds_toArray, List.set_cons_zero, List.set_cons_succ]
              refine takeL (i := 15) (v := ?_) rfl (by kernel_rfl) (by kernel_rfl) (by kernel_rfl) (fun _ _ _ h => h) (by rfl) (fun wS hSw => ?_) hHeld ?_
              rotate_left
              · go_simp; try with_reducible rfl
              try simp only [Act.put, List.setIfInBounds_toArray, List.set_cons_zero, List.set_cons_succ]
              refine wpAnyH_done (by kernel_rfl) ?_ _
              go_wp2_with fail
              go_roundw
              case rel => exact ⟨k + 1, by omega, by go_num, F, G, C, n, s, HT.out.below hHeld, hls, hln⟩
              case measure => simp [intOf]; omega
          · have cb1' := (hb5.cell (p := ⟨B6, 1, none⟩) hlb).trans cb1
            have HP5 := Lib.hid (HPb.out.below hb5)
            obtain ⟨A5, c5, rfl, _⟩ := hfi5.rd.ints_slice
            have HI5 := Lib.hid (And.intro hfi5.rd hin)
            clear hb5 cb1 hin hfi5
            go_wp2_with fail
            refine (rat_ok w5 G C b2 s.1 s.2.1 s.2.2 id HP5.out.rw (by omega)).mono ?_
            rintro e w6 ⟨rfl, ⟨j, f, hj, rfl⟩ | ⟨hno, rfl⟩⟩
            · have hj0 : ¬ (j : Int) < 0 := by omega
              have hj1 : (0 : Int) ≤ (j : Int) := by omega
              have HJ := Lib.hid hj
              clear cb1' hj
              go_wp2_with fail
              refine (rwaits_ok w5 G C b2 s.1 s.2.1 s.2.2 j (id, f) HP5.out.rw (by omega) HP5.out.lk.line.1 HJ.out).mono ?_
              rintro e w7 ⟨v7, rfl, hfi7⟩
              have HI7 := Lib.hid (And.intro hfi7.rd (And.intro (HI5.out.1.below hfi7.below) hfi7.below))
              obtain ⟨A7, c7, rfl, _⟩ := hfi7.rd.ints_slice
              have hwl : (waits s.2.2 id).length ≤ 1000000 := Nat.le_trans (List.length_filter_le _ _) (by simp [nums]; omega)
              have HWL := Lib.hid hwl
              clear hfi7 hwl
              go_wp2_with fail
              refine (ints_ok w7 _ _ _ _ (waits s.2.2 id) (waits s.2.2 id) HI7.out.2.1 HI7.out.1 HWL.out).mono ?_
              rintro e w8 ⟨r8, hr8, rfl, hb8⟩
              obtain rfl : r8 = true := hr8.2 rfl
              have HT := Lib.hid ((HP5.out.below HI7.out.2.2).below hb8)
              clear hr8 hb8
              go_upto_region 23 with fail
              generalize w8 = wt at HT ⊢
              have hrl : (ready s.2.2).length ≤ 1000000 := Nat.le_trans (List.length_filter_le _ _) (by simp [nums]; omega)
              obtain ⟨A9, c9, hq9⟩ : ∃ A c, wt.cell? ⟨b2, 0, none⟩ = some (.slice A s.2.2.length c) := by
                obtain ⟨lv, xs, hh⟩ := HT.out.rw
                obtain ⟨A, c, rfl⟩ := ownsRow_slice hh.own
                exact ⟨A, c, hh.cells.1⟩
              have hb2l : b2 < wt.heap.size := World.block_lt_of_cell? _ _ hq9
              have HRL := Lib.hid hrl
              clear hrl
              go_wp2_with fail
              refine wp_region_held_drew (S := (fun w' => Below wt.heap.size wt w')) (by kernel_rfl) (Below.refl _ _).drew (fun hHeld => ?_)
              refine takeL (i := 0) (v := ?_) rfl (by kernel_rfl) (by kernel_rfl) (by kernel_rfl) (fun _ _ _ h => h) (by rfl) (fun wS hSw => ?_) hHeld ?_
              rotate_left
              · go_simp; try with_reducible rfl
              try simp only [Act.put, List.setIfInBounds_toArray, List.set_cons_zero, List.set_cons_succ]
              refine takeL (i := 2) (v := ?_) rfl (by kernel_rfl) (by kernel_rfl) (by kernel_rfl) (fun _ _ _ h => h) (by rfl) (fun wS hSw => ?_) hHeld ?_
              rotate_left
              · go_simp; try with_reducible rfl
              try simp only [Act.put, List.setIfInBounds_toArray, List.set_cons_zero, List.set_cons_succ]
              refine wpAnyH_ready (rs := [1]) (by kernel_rfl) (by simp) (consL (i := 1) rfl (fun K hK => ?_) AllReadyH.nil)
              go_simp
              refine (lkReady_ok _ F C b1 n s.1 s.2.1 s.2.2 (HT.out.lk.below hHeld) (by omega)).mono ?_
              rintro e wn ⟨v1, rfl, hfi1⟩
              have hbn := hfi1.below
              have HI1 := Lib.hid hfi1.rd
              clear hfi1
              try go_simp
              refine hK.out _ _ (hHeld.trans (hbn.mono hHeld.size)) (fun hHeld2 => ?_)
              clear hK K hHeld
              have hHeld := hHeld2
              clear hHeld2
              try simp only [Act.put, List.setIfInBounds_toArray, List.set_cons_zero, List.set_cons_succ]
              refine wpAnyH_ready (rs := [3]) (by kernel_rfl) (by simp) (consL (i := 3) rfl (fun K hK => ?_) AllReadyH.nil)
              go_simp
              refine (rready_ok _ G C b2 s.1 s.2.1 s.2.2 (HT.out.rw.below hHeld) (by omega) HT.out.lk.line.1).mono ?_
              rintro e wn ⟨v2, rfl, hfi2⟩
              have hbn := hfi2.below
              have HI2 := Lib.hid (And.intro (HI1.out.below hbn) hfi2.rd)
              clear hfi2
              try go_simp
              refine hK.out _ _ (hHeld.trans (hbn.mono hHeld.size)) (fun hHeld2 => ?_)
              clear hK K hHeld
              have hHeld := hHeld2
              clear hHeld2
              try simp only [Act.put, List.setIfInBounds_toArray, List.set_cons_zero, List.set_cons_succ]
              refine wpAnyH_ready (rs := [4]) (by kernel_rfl) (by simp) (consL (i := 4) rfl (fun K hK => ?_) AllReadyH.nil)
              go_simp
              refine (ints_ok _ _ _ _ _ (ready s.2.2) (ready s.2.2) HI2.out.1 HI2.out.2 HRL.out).mono ?_
              rintro e wn ⟨r3, hr3, rfl, hbn⟩
              obtain rfl : r3 = true := hr3.2 rfl
              clear hr3
              try go_simp
              refine hK.out _ _ (hHeld.trans (hbn.mono hHeld.size)) (fun hHeld2 => ?_)
              clear hK K hHeld
              have hHeld := hHeld2
              clear hHeld2
              try simp only [Act.put, List.setIfInBounds_toArray, List.set_cons_zero, List.set_cons_succ]
              refine takeL (i := 5) (v := ?_) rfl (by kernel_rfl) (by kernel_rfl) (by kernel_rfl) (fun _ _ _ h => h) (by rfl) (fun wS hSw => ?_) hHeld ?_
              rotate_left
              · go_simp; try with_reducible rfl
              try simp only [Act.put, List.setIfInBounds_toArray, List.set_cons_zero, List.set_cons_succ]
              refine takeL (i := 6) (v := ?_) rfl (by kernel_rfl) (by kernel_rfl) (by kernel_rfl) (fun _ _ _ h => h) (by rfl) (fun wS hSw => ?_) hHeld ?_
              rotate_left
              · go_simp; try with_reducible rfl
              try simp only [Act.put, List.setIfInBounds_toArray, List.set_cons_zero, List.set_cons_succ]
              refine takeL (i := 7) (v := ?_) rfl (by kernel_rfl) (by kernel_rfl) (by kernel_rfl) (fun _ _ _ h => h) (by rfl) (fun wS hSw => ?_) hHeld ?_
              rotate_left
              · go_simp; try with_reducible rfl
              try simp only [Act.put, List.setIfInBounds_toArray, List.set_cons_zero, List.set_cons_succ]
              refine takeL (i := 9) (v := ?_) rfl (by kernel_rfl) (by kernel_rfl) (by kernel_rfl) (fun _ _ _ h => h) (by rfl) (fun wS hSw => ?_) hHeld ?_
              rotate_left
              · go_simp; try with_reducible rfl
              try simp only [Act.put, List.setIfInBounds_toArray, List.set_cons_zero, List.set_cons_succ]
              refine takeL (i := 10) (v := ?_) rfl (by kernel_rfl) (by kernel_rfl) (by kernel_rfl) (fun _ _ _ h => h) (by rfl) (fun wS hSw => ?_) hHeld ?_
              rotate_left
              · go_simp; try with_reducible rfl
              try simp only [Act.put, List.setIfInBounds_toArray, List.set_cons_zero, List.set_cons_succ]
              refine takeL (i := 11) (v := ?_) rfl (by kernel_rfl) (by kernel_rfl) (by kernel_rfl) (fun _ _ _ h => h) (by rfl) (fun wS hSw => ?_) hHeld ?_
              rotate_left
              · go_simp; try with_reducible rfl
              try simp only [Act.put, List.setIfInBounds_toArray, List.set_cons_zero, List.set_cons_succ]
              refine takeL (i := 12) (v := ?_) rfl (by kernel_rfl) (by kernel_rfl) (by kernel_rfl) (fun _ _ _ h => h) (by rfl) (fun wS hSw => ?_) hHeld ?_
              rotate_left
              · have s1 := (Below.cell hSw (p := ⟨b2, 0, none⟩) hb2l).trans hq9; go_simp; try with_reducible rfl
              try simp only [Act.put, List.setIfInBounds_toArray, List.set_cons_zero, List.set_cons_succ]
              refine takeL (i := 13) (v := ?_) rfl (by kernel_rfl) (by kernel_rfl) (by kernel_rfl) (fun _ _ _ h => h) (by rfl) (fun wS hSw => ?_) hHeld ?_
              rotate_left
              · go_simp; try with_reducible rfl
              try simp only [Act.put, List.setIfInBounds_toArray, List.set_cons_zero, List.set_cons_succ]
              refine wpAnyH_ready (rs := [8]) (by kernel_rfl) (by simp) (consL (i := 8) rfl (fun K hK => ?_) AllReadyH.nil)
              go_simp
              refine (lkLen_ok _ F C b1 n s.1 s.2.1 s.2.2 (HT.out.lk.below hHeld)).mono ?_
              rintro e wn ⟨rfl, rfl⟩
              try go_simp
              refine hK.out _ _ (hHeld) (fun hHeld2 => ?_)
              clear hK K hHeld
              have hHeld := hHeld2
              clear hHeld2
              try simp only [Act.put, List.setIfInBounds_toArray, List.set_cons_zero, List.set_cons_succ]
              refine takeL (i := 14) (v := ?_) rfl (by kernel_rfl) (by kernel_rfl) (by kernel_rfl) (fun _ _ _ h => h) (by rfl) (fun wS hSw => ?_) hHeld ?_
              rotate_left
              · go_simp; try with_reducible rfl
              try simp only [Act.put, List.setIfInBounds_toArray, List.set_cons_zero, List.set_cons_succ]
              refine takeL (i := 15) (v := ?_) rfl (by kernel_rfl) (by kernel_rfl) (by kernel_rfl) (fun _ _ _ h => h) (by rfl) (fun wS hSw => ?_) hHeld ?_
              rotate_left
              · go_simp; try with_reducible rfl
              try simp only [Act.put, List.setIfInBounds_toArray, List.set_cons_zero, List.set_cons_succ]
              refine wpAnyH_done (by kernel_rfl) ?_ _
              go_wp2_with fail
              go_roundw
              case rel => exact ⟨k + 1, by omega, by go_num, F, G, C, n, s, HT.out.below hHeld, hls, hln⟩
              case measure => simp [intOf]; omega
            · exact absurd HI5.out.2 hno
    · have hkl : k = ops.length := by omega
      subst hkl
      go_wp2_with fail
      refine (awake10_ok _).mono ?_
      rintro e wq ⟨rfl, hb⟩
      have HB := Lib.hid ((HB0.out).trans (hb.mono (HB0.out).size))
      clear hb
      go_wp2_with fail
      go_ret
      exact ⟨rfl, HB.out⟩

set_option maxRecDepth 100000 in
theorem locksPlay_lifted (os : Os) (started : os.Started) (H : Type) (enc : TypeId × Value → H) :
    ReturnsInHanded {} Try.checked os 3 .any (Rows.locksPlaySpec.pre6 enc Try.prog Try.f3 Rows.locksPlayRow.domain false) (Rows.locksPlaySpec.post enc Try.prog Try.f3 false true false false) := by
  refine law_lifted os started H enc 3 Try.f3 Rows.locksPlaySpec (by kernel_rfl) Try.func3 rfl (by kernel_rfl) ?_ ?_
    (ChangeSpec.witness6 (enc := enc) (C := Try.checked) false ⟨#[], #[.slice none 0 0], []⟩ 8 (by kernel_rfl) (by kernel_rfl) (by kernel_rfl) (by kernel_rfl)) ?_
  · rw [Try.params3]
    intro t ht
    simp at ht
    subst ht
    exact ⟨by kernel_rfl, of_decide_eq_true (by kernel_rfl)⟩
  · intro ds hl
    rw [Try.params3] at hl
    match ds, hl with
    | [d1], _ => exact ⟨rfl, rfl, rfl⟩
  · intro W base args ds p hval hA
    rw [Try.params3] at hA hval
    obtain ⟨v0, d0, hargs, rfl, h0⟩ := trodAll_one hA
    subst hargs
    obtain ⟨x0, q0⟩ := open_ops (hval 0 22 v0 rfl rfl) h0
    by_cases hf : Few10 x0
    · exact lplay_ok W v0 x0 q0 hf
    · exact lplay_far W v0 x0 q0 hf

theorem locksPlay_holds : Rows.LocksPlaySaid :=
  OpenClaim.holds_of_wide 3 Try.f3 rfl rfl rfl rfl rfl rfl rfl ⟨rfl, rfl, rfl, rfl, rfl⟩ rfl rfl rfl rfl rfl (by kernel_rfl) Try.func3 (by kernel_rfl)
    (of_decide_eq_true (by kernel_rfl)) (by unfold Func.isWrapper; rw [if_neg (of_decide_eq_false (by kernel_rfl))]; exact ⟨rfl, rfl⟩)
    (fun os started H enc _ => locksPlay_lifted os started H enc)

#print axioms locksPlay_holds

end Go.Proofs.Ytihjcfifakcpgaa
