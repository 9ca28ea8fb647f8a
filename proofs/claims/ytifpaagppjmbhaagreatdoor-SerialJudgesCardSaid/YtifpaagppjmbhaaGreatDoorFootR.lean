/- foot.New: the footprint of claims. -/
import Derived.Test.YtifpaagppjmbhaaGreatDoorFootO
namespace Go.Proofs.YtifpaagppjmbhaaGreatDoor
set_option maxRecDepth 100000
open Go.RowKit Go.Maps Go.WideShapes

set_option maxRecDepth 100000 in
set_option maxHeartbeats 1000000 in
theorem new_ok (w : World) (F : Nat → Prop) (v : Value) (l : List Cl) (h : ClRd w F v l) (hl : l.length ≤ 1000) (hfit : ∀ c ∈ l, c.fits) :
    Calls Tryz.prog 47 #[v] w (NewP l w) := by
  obtain ⟨i0, hi, hz0, hz1, hz2⟩ := info_parts Tryz.info81
  obtain ⟨i2, hi2, hy0, hy1, hy2⟩ := info_parts Tryz.info28
  obtain ⟨A, c, rfl, hnc, hcm⟩ := h.slice
  have H := Lib.hid h
  have HHI := Lib.hid hi
  clear h hi
  have hmm := @run_makeMap Tryz.prog
  go_enter Tryz.func47, Tryz.ntmps47
  go_wp2_with fail
  go_step3
  go_wp2_with fail
  go_step3
  go_wp2_with fail
  go_loopw [7, 16] (fun e i wr => e = .int .i64 0 ∧ ∃ k, k ≤ l.length ∧ i = .int .i64 (k : Int) ∧ (∀ c ∈ l.take k, Ok c) ∧ LoopR w l k wr) (fun _ i _ => l.length - (intOf i).toNat)
  case atStart => exact ⟨rfl, 0, Nat.zero_le _, rfl, by simp, start_loop w l⟩
  case round =>
    obtain ⟨rfl, k, hk, rfl, hok, D, rs, hD, hC⟩ := hrel
    by_cases hlt : k < l.length
    · obtain ⟨x, hx⟩ : ∃ x, l[k]? = some x := ⟨_, List.getElem?_eq_getElem hlt⟩
      obtain ⟨b, o, rfl, hFb, c0, c1, c2, c3, c4⟩ := H.out.at_ hx
      have hb : b < w.heap.size := World.block_lt_of_cell? w _ c0
      have hbl := hC.2.2.2.2.2
      have c0' := (hbl.cell (p := ⟨b, o + k * 5, none⟩) hb).trans c0
      have c1' := (hbl.cell (p := ⟨b, o + k * 5 + 1, none⟩) hb).trans c1
      have c2' := (hbl.cell (p := ⟨b, o + k * 5 + 2, none⟩) hb).trans c2
      have c3' := (hbl.cell (p := ⟨b, o + k * 5 + 3, none⟩) hb).trans c3
      have c4' := (hbl.cell (p := ⟨b, o + k * 5 + 4, none⟩) hb).trans c4
      have hcon := fun W => check_ok W x
      have hxf := hfit x (List.mem_of_getElem? hx)
      have hs := hbl.size
      have HL := Lib.hid (And.intro hok (And.intro hD (And.intro hC (And.intro hbl hx))))
      clear hok hD hC hbl hx c0 c1 c2 c3 c4
      unfold Cl.val at hcon
      by_cases he : chk x = 0
      · have hokx : Ok x := he
        rw [he] at hcon
        clear he
        go_wp2_with fail
        refine (hcon _).mono ?_
        rintro e w2 ⟨rfl, hb2⟩
        have hbx : w2.heap[wr.heap.size]? = some (.cells #[.bool x.wr, .int .i64 x.col, .string ⟨x.key.toArray⟩, .int .i64 x.lo, .int .i64 x.hi] 119 (0, 0)) := by
          rw [hb2.block wr.heap.size (by simp)]; exact heap_alloc_new _ _
        have hbw : Below wr.heap.size wr w2 := ((Below.refl _ _).alloc (Nat.le_refl _) _).trans (hb2.mono (by simp))
        have hC2 := HL.out.2.2.1.below hbw
        obtain ⟨q0, q1, q2, q3, q4⟩ := blk_cells5 hbx
        have hml := hC2.1.lt
        have hs2 := hbw.size
        have hbz : wr.heap.size < w2.heap.size := (Array.getElem?_eq_some_iff.1 hbx).1
        have HC := Lib.hid hC2
        have HBX := Lib.hid hbx
        clear hb2 hcon hbw hC2 c0' c1' c2' c3' c4' hbx
        rcases hokx.parts with ⟨e1, e2, e3, e4, e5⟩ | ⟨e1, e2, e3, e4⟩
        · have hkey := keyOf_row (k := x.key) (by unfold maxLen; omega)
          unfold rowV at hkey
          have HK := Lib.hid (And.intro hkey (And.intro e2 (And.intro e3 e1)))
          rw [e1] at q1
          clear hkey e1 e2 e3 q3 q4
          cases hw : x.wr with
          | true =>
            rw [hw] at q0
            have HW := Lib.hid hw
            clear hw
            go_wp2_with (at_mapUpdate; go_loud (refine wpList_mapUpdate_own _ rfl _ _ _ 195 rfl 200 3 lawK Tryz.underlying195 _ (w.heap.size + 1) k D rfl HC.out.1 (by unfold maxLen; omega) _ _ _ rfl rfl HK.out.1 _ [] (plainElem_int Tryz.underlying3 (by decide)) ?_); intro w3 hown3 hgrow3)
            go_roundw
            case rel =>
              refine ⟨rfl, k + 1, by omega, by go_num, ok_snoc HL.out.1 HL.out.2.2.2.2 hokx, _, rs, ?_, ((HC.out.map hgrow3 hown3).lists (fun j hj => ?_))⟩
              · rw [take_snoc HL.out.2.2.2.2]
                refine HL.out.2.1.put HC.out.1.isMap (by decide) ?_ (fun k' hk' => ?_)
                · rw [lev_row HK.out.2.2.2 HK.out.2.1 HK.out.2.2.1, if_pos rfl, if_pos HW.out]
                · rw [lev_row HK.out.2.2.2 HK.out.2.1 HK.out.2.2.1, if_neg hk']
              · rw [take_snoc HL.out.2.2.2.2]
                exact spans_row HK.out.2.2.2 j hj
            case measure => simp [intOf]; omega
          | false =>
            rw [hw] at q0
            have HW := Lib.hid hw
            clear hw
            obtain ⟨r, hlk, hat, hwr⟩ := HC.out.1.drew.lookup_int lawK Tryz.underlying195 Tryz.underlying3 (Tryz.zero3 _) HK.out.1
            have hrl : r = lev (l.take k) (-1, x.key, 0) := by
              have h := (HL.out.2.1 x.key).1
              rw [hat] at h
              simpa using h
            have hbd := lev_bd (l.take k) (-1, x.key, 0)
            rw [← hrl] at hbd
            have HR := Lib.hid hrl
            clear hat hrl hwr
            go_upto_region 13 with fail
            go_still_tail 10, (by kernel_rfl)
            change wpList _ _ _ _ _ w2.drew
            generalize hmx : (max r 1 : Int) = mx
            have hwf : (Lit.int .i64 mx).wf = true := by
              have : mx = 1 ∨ mx = 2 := by omega
              rcases this with rfl | rfl <;> decide
            have HM := Lib.hid hmx
            clear hmx hlk
            go_wp2_with (at_mapUpdate; go_loud (refine wpList_mapUpdate_own _ rfl _ _ _ 195 rfl 200 3 lawK Tryz.underlying195 _ (w.heap.size + 1) k D rfl HC.out.1.drew (by unfold maxLen; omega) _ _ _ rfl rfl HK.out.1 _ [] (plainElem_int Tryz.underlying3 hwf) ?_); intro w3 hown3 hgrow3)
            go_roundw
            case rel =>
              have hm1 : mx ≠ 0 := by have := HM.out; omega
              have hgrow : w2.grownBy w3 (some (w.heap.size + 1)) := ⟨hgrow3.os, hgrow3.tape, hgrow3.output, hgrow3.size, hgrow3.block⟩
              refine ⟨rfl, k + 1, by omega, by go_num, ok_snoc HL.out.1 HL.out.2.2.2.2 hokx, _, rs, ?_, ((HC.out.map hgrow hown3).lists (fun j hj => ?_))⟩
              · rw [take_snoc HL.out.2.2.2.2]
                refine HL.out.2.1.put HC.out.1.isMap hm1 ?_ (fun k' hk' => ?_)
                · rw [lev_row HK.out.2.2.2 HK.out.2.1 HK.out.2.2.1, if_pos rfl, if_neg (by rw [HW.out]; decide), ← HR.out]
                  exact HM.out
                · rw [lev_row HK.out.2.2.2 HK.out.2.1 HK.out.2.2.1, if_neg hk']
              · rw [take_snoc HL.out.2.2.2.2]
                exact spans_row HK.out.2.2.2 j hj
            case measure => simp [intOf]; omega
        · obtain ⟨j, hj⟩ : ∃ j : Nat, x.col = (j : Int) := ⟨x.col.toNat, by omega⟩
          have hj4 : j < 4 := by omega
          have hj0 : (0 : Int) ≤ (j : Int) := by omega
          have hj5 : (j : Int) < 4 := by omega
          rw [hj] at q1
          have HJ := Lib.hid (And.intro hj (And.intro e1 e3))
          clear hj e1 e2 e3 q2
          cases hw : x.wr with
          | true =>
            rw [hw] at q0
            have hi8 : 4 + j < 8 := by omega
            obtain ⟨a0, a1⟩ := arr_cells HC.out.2.2.2.1 j hj4
            have hown := HC.out.2.2.2.2.1.1 (4 + j) hi8
            obtain ⟨A', c', hv⟩ := ownsRow_slice hown
            have hll : (lists (l.take k) (4 + j)).length ≤ 1000 := by
              have := lists_len (l.take k) (4 + j)
              simp at this
              omega
            simp only [hv] at a0
            obtain ⟨nl, hnl⟩ : ∃ nl, (lists (l.take k) (4 + j)).length = nl := ⟨_, rfl⟩
            rw [hnl] at a0 hll
            have hown2 := hown.alloc (.cells #[.int .i64 x.lo, .int .i64 x.hi] 202)
            rw [hv, hnl] at hown2
            have hnews := World.news_of_block (heap_alloc_new w2 (.cells #[.int .i64 x.lo, .int .i64 x.hi] 202))
            have hl3 := (Array.getElem?_eq_some_iff.1 HC.out.2.2.1).1
            have hl5 := (Array.getElem?_eq_some_iff.1 HL.out.2.2.1.2.2.2.1).1
            have hn1 : w.heap.size + 1 + 1 ≠ wr.heap.size := by omega
            have hn2 : w.heap.size + 1 + 1 + 1 ≠ wr.heap.size := by omega
            have hl4 := (Array.getElem?_eq_some_iff.1 HC.out.2.2.2.1).1
            have hgn : ∀ g, Value.ownBlock (.slice A' nl c') = some g → w.heap.size + 1 + 1 + 1 + 1 ≤ g ∧ g < w2.heap.size := fun g hg => by
              rw [← hnl, ← hv] at hg
              exact hown.lt g hg
            have hbn : ∀ g, Value.ownBlock (.slice A' nl c') = some g → g ≠ wr.heap.size := fun g hg e => by
              rw [← hnl, ← hv] at hg
              subst e
              exact own_blk_ne hown HBX.out (by decide) hg
            have HW := Lib.hid (And.intro hw (And.intro hv hnl))
            have HO := Lib.hid (And.intro hown2 (And.intro hnews (And.intro hgn hbn)))
            clear hw hv hnl hown hown2 hnews hgn hbn
            go_upto_region 15 with fail
            refine wp_region_held_drew (S := (fun w' => w'.cell? ⟨wr.heap.size, 1, none⟩ = some (.int .i64 (j : Int)) ∧ w'.cell? ⟨wr.heap.size, 3, none⟩ = some (.int .i64 x.lo) ∧ w'.cell? ⟨wr.heap.size, 4, none⟩ = some (.int .i64 x.hi))) (by kernel_rfl) ⟨q1, q3, q4⟩ (fun hHeld => ?_)
            refine take_lit (i := 0) (v := ?_) rfl (by kernel_rfl) (by kernel_rfl) (by kernel_rfl) (fun _ _ _ h => h) (by rfl) (fun w hSw => ?_) hHeld ?_
            rotate_left
            · obtain ⟨s1, s3, s4⟩ := hSw; go_simp; try with_reducible rfl
            try simp only [Act.put, List.setIfInBounds_toArray, List.set_cons_zero, List.set_cons_succ]
            refine take_lit (i := 1) (v := ?_) rfl (by kernel_rfl) (by kernel_rfl) (by kernel_rfl) (fun _ _ _ h => h) (by rfl) (fun w hSw => ?_) hHeld ?_
            rotate_left
            · obtain ⟨s1, s3, s4⟩ := hSw; go_simp; try with_reducible rfl
            try simp only [Act.put, List.setIfInBounds_toArray, List.set_cons_zero, List.set_cons_succ]
            refine take_lit (i := 2) (v := ?_) rfl (by kernel_rfl) (by kernel_rfl) (by kernel_rfl) (fun _ _ _ h => h) (by rfl) (fun w hSw => ?_) hHeld ?_
            rotate_left
            · obtain ⟨s1, s3, s4⟩ := hSw; go_simp; try with_reducible rfl
            try simp only [Act.put, List.setIfInBounds_toArray, List.set_cons_zero, List.set_cons_succ]
            refine take_lit (i := 3) (v := ?_) rfl (by kernel_rfl) (by kernel_rfl) (by kernel_rfl) (fun _ _ _ h => h) (by rfl) (fun w hSw => ?_) hHeld ?_
            rotate_left
            · obtain ⟨s1, s3, s4⟩ := hSw; go_simp; try with_reducible rfl
            try simp only [Act.put, List.setIfInBounds_toArray, List.set_cons_zero, List.set_cons_succ]
            refine take_lit (i := 4) (v := ?_) rfl (by kernel_rfl) (by kernel_rfl) (by kernel_rfl) (fun _ _ _ h => h) (by rfl) (fun w hSw => ?_) hHeld ?_
            rotate_left
            · obtain ⟨s1, s3, s4⟩ := hSw; go_simp; try with_reducible rfl
            try simp only [Act.put, List.setIfInBounds_toArray, List.set_cons_zero, List.set_cons_succ]
            refine take_lit (i := 6) (v := ?_) rfl (by kernel_rfl) (by kernel_rfl) (by kernel_rfl) (fun _ _ _ h => h) (by rfl) (fun w hSw => ?_) hHeld ?_
            rotate_left
            · obtain ⟨s1, s3, s4⟩ := hSw; go_simp; try with_reducible rfl
            try simp only [Act.put, List.setIfInBounds_toArray, List.set_cons_zero, List.set_cons_succ]
            refine take_lit (i := 7) (v := ?_) rfl (by kernel_rfl) (by kernel_rfl) (by kernel_rfl) (fun _ _ _ h => h) (by rfl) (fun w hSw => ?_) hHeld ?_
            rotate_left
            · obtain ⟨s1, s3, s4⟩ := hSw; go_simp; try with_reducible rfl
            try simp only [Act.put, List.setIfInBounds_toArray, List.set_cons_zero, List.set_cons_succ]
            refine take_lit (i := 8) (v := ?_) rfl (by kernel_rfl) (by kernel_rfl) (by kernel_rfl) (fun _ _ _ h => h) (by rfl) (fun w hSw => ?_) hHeld ?_
            rotate_left
            · obtain ⟨s1, s3, s4⟩ := hSw; go_simp; try with_reducible rfl
            try simp only [Act.put, List.setIfInBounds_toArray, List.set_cons_zero, List.set_cons_succ]
            refine take_lit (i := 9) (v := ?_) rfl (by kernel_rfl) (by kernel_rfl) (by kernel_rfl) (fun _ _ _ h => h) (by rfl) (fun w hSw => ?_) hHeld ?_
            rotate_left
            · obtain ⟨s1, s3, s4⟩ := hSw; go_simp; try with_reducible rfl
            try simp only [Act.put, List.setIfInBounds_toArray, List.set_cons_zero, List.set_cons_succ]
            refine take_lit (i := 10) (v := ?_) rfl (by kernel_rfl) (by kernel_rfl) (by kernel_rfl) (fun _ _ _ h => h) (by rfl) (fun w hSw => ?_) hHeld ?_
            rotate_left
            · obtain ⟨s1, s3, s4⟩ := hSw; go_simp; try with_reducible rfl
            try simp only [Act.put, List.setIfInBounds_toArray, List.set_cons_zero, List.set_cons_succ]
            refine wpAnyH_ready (rs := [5, 11]) (by kernel_rfl) (by simp) ?_
            refine cons_lit (i := 5) rfl (fun K hK => ?_) (cons_lit (i := 11) rfl (fun K hK => ?_) AllReadyH.nil)
            · go_simp
              refine hK.out _ _ hHeld (fun hHeld => ?_)
              clear hK K
              try simp only [Act.put, List.setIfInBounds_toArray, List.set_cons_zero, List.set_cons_succ]
              refine wpAnyH_ready (rs := [11]) (by kernel_rfl) (by simp) (cons_lit (i := 11) rfl (fun K hK => ?_) AllReadyH.nil)
              go_simp
              refine hK.out _ _ (by obtain ⟨s1, s3, s4⟩ := hHeld; refine ⟨?_, ?_, ?_⟩ <;> simp [*, World.cell?_alloc_some]) (fun hHeld => ?_)
              clear hK K
              try simp only [Act.put, List.setIfInBounds_toArray, List.set_cons_zero, List.set_cons_succ]
              refine wpAnyH_ready (rs := [12]) (by kernel_rfl) (by simp) (cons_lit (i := 12) rfl (fun K hK => ?_) AllReadyH.nil)
              (refine step_append_lies _ (by rfl) _ _ 196 (by rfl) (w.heap.size + 1 + 1 + 1 + 1) 202 i0 _ 2 16 Tryz.underlying196 HHI.out hz0 hz1 hz2 (by rfl) (by decide) (.slice A' nl c') nl _ (by rfl) HO.out.1 ⟨w2.heap.size, 0, none⟩ 1 1 [.int .i64 x.lo, .int .i64 x.hi] (by rfl) (by rfl) HO.out.2.1 (by simp [Value.oneCell']) (by decide) (by unfold maxLen; omega) (by omega) (by simp; omega) (w2.heap.size + 1) (by simp) ?_)
              intro g3 cap3 w3 hown3 hgrow3 hat3 hlt3
              obtain ⟨b0, b1⟩ := after_append (o := .cells #[.int .i64 x.lo, .int .i64 x.hi] 202) (w2 := w2) hgrow3 rfl a0 a1 (fun e => by have := (HO.out.2.2.1 _ e.symm).1; omega)
              refine hK.out _ _ ⟨(hgrow3.cell_far _ (by simp; omega) (fun e => (HO.out.2.2.2 _ e.symm) rfl)).trans hHeld.1, (hgrow3.cell_far _ (by simp; omega) (fun e => (HO.out.2.2.2 _ e.symm) rfl)).trans hHeld.2.1, (hgrow3.cell_far _ (by simp; omega) (fun e => (HO.out.2.2.2 _ e.symm) rfl)).trans hHeld.2.2⟩ (fun hHeld => ?_)
              clear hK K
              try simp only [Act.put, List.setIfInBounds_toArray, List.set_cons_zero, List.set_cons_succ]
              refine take_lit (i := 13) (v := ?_) rfl (by kernel_rfl) (by kernel_rfl) (by kernel_rfl) (fun _ _ _ h => h) (by rfl) (fun w hSw => ?_) hHeld ?_
              rotate_left
              · obtain ⟨s1, s3, s4⟩ := hSw; go_simp; try with_reducible rfl
              try simp only [Act.put, List.setIfInBounds_toArray, List.set_cons_zero, List.set_cons_succ]
              refine wpAnyH_ready (rs := [14]) (by kernel_rfl) (by simp) (cons_lit (i := 14) rfl (fun K hK => ?_) AllReadyH.nil)
              go_simp
              refine hK.out _ _ (by obtain ⟨s1, s3, s4⟩ := hHeld; refine ⟨?_, ?_, ?_⟩ <;> simp [*, World.cell?_setCell_far]) (fun hHeld => ?_)
              clear hK K
              try simp only [Act.put, List.setIfInBounds_toArray, List.set_cons_zero, List.set_cons_succ]
              refine wpAnyH_done (by kernel_rfl) ?_ _
              have HG := Lib.hid (And.intro hown3 (And.intro hgrow3 hat3))
              clear hHeld hown3 hgrow3 hat3 b0 b1 a0 a1
              go_wp2_with fail
              go_roundw
              case rel => exact ⟨rfl, k + 1, by omega, by go_num, ok_snoc HL.out.1 HL.out.2.2.2.2 hokx, arm_close HC.out HL.out.2.2.2.2 HL.out.2.1 HJ.out.1 hj4 (by rw [HW.out.1]; rfl) HW.out.2.1 HW.out.2.2 HG.out.1 HG.out.2.1 HG.out.2.2 (.inr ⟨by omega, rfl, rfl⟩)⟩
              case measure => simp [intOf]; omega
            · go_simp
              refine hK.out _ _ (by obtain ⟨s1, s3, s4⟩ := hHeld; refine ⟨?_, ?_, ?_⟩ <;> simp [*, World.cell?_alloc_some]) (fun hHeld => ?_)
              clear hK K
              try simp only [Act.put, List.setIfInBounds_toArray, List.set_cons_zero, List.set_cons_succ]
              refine wpAnyH_ready (rs := [5]) (by kernel_rfl) (by simp) (cons_lit (i := 5) rfl (fun K hK => ?_) AllReadyH.nil)
              go_simp
              refine hK.out _ _ hHeld (fun hHeld => ?_)
              clear hK K
              try simp only [Act.put, List.setIfInBounds_toArray, List.set_cons_zero, List.set_cons_succ]
              refine wpAnyH_ready (rs := [12]) (by kernel_rfl) (by simp) (cons_lit (i := 12) rfl (fun K hK => ?_) AllReadyH.nil)
              (refine step_append_lies _ (by rfl) _ _ 196 (by rfl) (w.heap.size + 1 + 1 + 1 + 1) 202 i0 _ 2 16 Tryz.underlying196 HHI.out hz0 hz1 hz2 (by rfl) (by decide) (.slice A' nl c') nl _ (by rfl) HO.out.1 ⟨w2.heap.size, 0, none⟩ 1 1 [.int .i64 x.lo, .int .i64 x.hi] (by rfl) (by rfl) HO.out.2.1 (by simp [Value.oneCell']) (by decide) (by unfold maxLen; omega) (by omega) (by simp; omega) (w2.heap.size + 1) (by simp) ?_)
              intro g3 cap3 w3 hown3 hgrow3 hat3 hlt3
              obtain ⟨b0, b1⟩ := after_append (o := .cells #[.int .i64 x.lo, .int .i64 x.hi] 202) (w2 := w2) hgrow3 rfl a0 a1 (fun e => by have := (HO.out.2.2.1 _ e.symm).1; omega)
              refine hK.out _ _ ⟨(hgrow3.cell_far _ (by simp; omega) (fun e => (HO.out.2.2.2 _ e.symm) rfl)).trans hHeld.1, (hgrow3.cell_far _ (by simp; omega) (fun e => (HO.out.2.2.2 _ e.symm) rfl)).trans hHeld.2.1, (hgrow3.cell_far _ (by simp; omega) (fun e => (HO.out.2.2.2 _ e.symm) rfl)).trans hHeld.2.2⟩ (fun hHeld => ?_)
              clear hK K
              try simp only [Act.put, List.setIfInBounds_toArray, List.set_cons_zero, List.set_cons_succ]
              refine take_lit (i := 13) (v := ?_) rfl (by kernel_rfl) (by kernel_rfl) (by kernel_rfl) (fun _ _ _ h => h) (by rfl) (fun w hSw => ?_) hHeld ?_
              rotate_left
              · obtain ⟨s1, s3, s4⟩ := hSw; go_simp; try with_reducible rfl
              try simp only [Act.put, List.setIfInBounds_toArray, List.set_cons_zero, List.set_cons_succ]
              refine wpAnyH_ready (rs := [14]) (by kernel_rfl) (by simp) (cons_lit (i := 14) rfl (fun K hK => ?_) AllReadyH.nil)
              go_simp
              refine hK.out _ _ (by obtain ⟨s1, s3, s4⟩ := hHeld; refine ⟨?_, ?_, ?_⟩ <;> simp [*, World.cell?_setCell_far]) (fun hHeld => ?_)
              clear hK K
              try simp only [Act.put, List.setIfInBounds_toArray, List.set_cons_zero, List.set_cons_succ]
              refine wpAnyH_done (by kernel_rfl) ?_ _
              have HG := Lib.hid (And.intro hown3 (And.intro hgrow3 hat3))
              clear hHeld hown3 hgrow3 hat3 b0 b1 a0 a1
              go_wp2_with fail
              go_roundw
              case rel => exact ⟨rfl, k + 1, by omega, by go_num, ok_snoc HL.out.1 HL.out.2.2.2.2 hokx, arm_close HC.out HL.out.2.2.2.2 HL.out.2.1 HJ.out.1 hj4 (by rw [HW.out.1]; rfl) HW.out.2.1 HW.out.2.2 HG.out.1 HG.out.2.1 HG.out.2.2 (.inr ⟨by omega, rfl, rfl⟩)⟩
              case measure => simp [intOf]; omega
          | false =>
            rw [hw] at q0
            have hi8 : j < 8 := by omega
            obtain ⟨a0, a1⟩ := arr_cells HC.out.2.2.1 j hj4
            have hown := HC.out.2.2.2.2.1.1 (j) hi8
            obtain ⟨A', c', hv⟩ := ownsRow_slice hown
            have hll : (lists (l.take k) (j)).length ≤ 1000 := by
              have := lists_len (l.take k) (j)
              simp at this
              omega
            simp only [hv] at a0
            obtain ⟨nl, hnl⟩ : ∃ nl, (lists (l.take k) (j)).length = nl := ⟨_, rfl⟩
            rw [hnl] at a0 hll
            have hown2 := hown.alloc (.cells #[.int .i64 x.lo, .int .i64 x.hi] 202)
            rw [hv, hnl] at hown2
            have hnews := World.news_of_block (heap_alloc_new w2 (.cells #[.int .i64 x.lo, .int .i64 x.hi] 202))
            have hl3 := (Array.getElem?_eq_some_iff.1 HC.out.2.2.1).1
            have hl5 := (Array.getElem?_eq_some_iff.1 HL.out.2.2.1.2.2.2.1).1
            have hn1 : w.heap.size + 1 + 1 ≠ wr.heap.size := by omega
            have hn2 : w.heap.size + 1 + 1 + 1 ≠ wr.heap.size := by omega
            have hl4 := (Array.getElem?_eq_some_iff.1 HC.out.2.2.2.1).1
            have hgn : ∀ g, Value.ownBlock (.slice A' nl c') = some g → w.heap.size + 1 + 1 + 1 + 1 ≤ g ∧ g < w2.heap.size := fun g hg => by
              rw [← hnl, ← hv] at hg
              exact hown.lt g hg
            have hbn : ∀ g, Value.ownBlock (.slice A' nl c') = some g → g ≠ wr.heap.size := fun g hg e => by
              rw [← hnl, ← hv] at hg
              subst e
              exact own_blk_ne hown HBX.out (by decide) hg
            have HW := Lib.hid (And.intro hw (And.intro hv hnl))
            have HO := Lib.hid (And.intro hown2 (And.intro hnews (And.intro hgn hbn)))
            clear hw hv hnl hown hown2 hnews hgn hbn
            go_upto_region 9 with fail
            refine wp_region_held_drew (S := (fun w' => w'.cell? ⟨wr.heap.size, 1, none⟩ = some (.int .i64 (j : Int)) ∧ w'.cell? ⟨wr.heap.size, 3, none⟩ = some (.int .i64 x.lo) ∧ w'.cell? ⟨wr.heap.size, 4, none⟩ = some (.int .i64 x.hi))) (by kernel_rfl) ⟨q1, q3, q4⟩ (fun hHeld => ?_)
            refine take_lit (i := 0) (v := ?_) rfl (by kernel_rfl) (by kernel_rfl) (by kernel_rfl) (fun _ _ _ h => h) (by rfl) (fun w hSw => ?_) hHeld ?_
            rotate_left
            · obtain ⟨s1, s3, s4⟩ := hSw; go_simp; try with_reducible rfl
            try simp only [Act.put, List.setIfInBounds_toArray, List.set_cons_zero, List.set_cons_succ]
            refine take_lit (i := 1) (v := ?_) rfl (by kernel_rfl) (by kernel_rfl) (by kernel_rfl) (fun _ _ _ h => h) (by rfl) (fun w hSw => ?_) hHeld ?_
            rotate_left
            · obtain ⟨s1, s3, s4⟩ := hSw; go_simp; try with_reducible rfl
            try simp only [Act.put, List.setIfInBounds_toArray, List.set_cons_zero, List.set_cons_succ]
            refine take_lit (i := 2) (v := ?_) rfl (by kernel_rfl) (by kernel_rfl) (by kernel_rfl) (fun _ _ _ h => h) (by rfl) (fun w hSw => ?_) hHeld ?_
            rotate_left
            · obtain ⟨s1, s3, s4⟩ := hSw; go_simp; try with_reducible rfl
            try simp only [Act.put, List.setIfInBounds_toArray, List.set_cons_zero, List.set_cons_succ]
            refine take_lit (i := 3) (v := ?_) rfl (by kernel_rfl) (by kernel_rfl) (by kernel_rfl) (fun _ _ _ h => h) (by rfl) (fun w hSw => ?_) hHeld ?_
            rotate_left
            · obtain ⟨s1, s3, s4⟩ := hSw; go_simp; try with_reducible rfl
            try simp only [Act.put, List.setIfInBounds_toArray, List.set_cons_zero, List.set_cons_succ]
            refine take_lit (i := 4) (v := ?_) rfl (by kernel_rfl) (by kernel_rfl) (by kernel_rfl) (fun _ _ _ h => h) (by rfl) (fun w hSw => ?_) hHeld ?_
            rotate_left
            · obtain ⟨s1, s3, s4⟩ := hSw; go_simp; try with_reducible rfl
            try simp only [Act.put, List.setIfInBounds_toArray, List.set_cons_zero, List.set_cons_succ]
            refine take_lit (i := 6) (v := ?_) rfl (by kernel_rfl) (by kernel_rfl) (by kernel_rfl) (fun _ _ _ h => h) (by rfl) (fun w hSw => ?_) hHeld ?_
            rotate_left
            · obtain ⟨s1, s3, s4⟩ := hSw; go_simp; try with_reducible rfl
            try simp only [Act.put, List.setIfInBounds_toArray, List.set_cons_zero, List.set_cons_succ]
            refine take_lit (i := 7) (v := ?_) rfl (by kernel_rfl) (by kernel_rfl) (by kernel_rfl) (fun _ _ _ h => h) (by rfl) (fun w hSw => ?_) hHeld ?_
            rotate_left
            · obtain ⟨s1, s3, s4⟩ := hSw; go_simp; try with_reducible rfl
            try simp only [Act.put, List.setIfInBounds_toArray, List.set_cons_zero, List.set_cons_succ]
            refine take_lit (i := 8) (v := ?_) rfl (by kernel_rfl) (by kernel_rfl) (by kernel_rfl) (fun _ _ _ h => h) (by rfl) (fun w hSw => ?_) hHeld ?_
            rotate_left
            · obtain ⟨s1, s3, s4⟩ := hSw; go_simp; try with_reducible rfl
            try simp only [Act.put, List.setIfInBounds_toArray, List.set_cons_zero, List.set_cons_succ]
            refine take_lit (i := 9) (v := ?_) rfl (by kernel_rfl) (by kernel_rfl) (by kernel_rfl) (fun _ _ _ h => h) (by rfl) (fun w hSw => ?_) hHeld ?_
            rotate_left
            · obtain ⟨s1, s3, s4⟩ := hSw; go_simp; try with_reducible rfl
            try simp only [Act.put, List.setIfInBounds_toArray, List.set_cons_zero, List.set_cons_succ]
            refine take_lit (i := 10) (v := ?_) rfl (by kernel_rfl) (by kernel_rfl) (by kernel_rfl) (fun _ _ _ h => h) (by rfl) (fun w hSw => ?_) hHeld ?_
            rotate_left
            · obtain ⟨s1, s3, s4⟩ := hSw; go_simp; try with_reducible rfl
            try simp only [Act.put, List.setIfInBounds_toArray, List.set_cons_zero, List.set_cons_succ]
            refine wpAnyH_ready (rs := [5, 11]) (by kernel_rfl) (by simp) ?_
            refine cons_lit (i := 5) rfl (fun K hK => ?_) (cons_lit (i := 11) rfl (fun K hK => ?_) AllReadyH.nil)
            · go_simp
              refine hK.out _ _ hHeld (fun hHeld => ?_)
              clear hK K
              try simp only [Act.put, List.setIfInBounds_toArray, List.set_cons_zero, List.set_cons_succ]
              refine wpAnyH_ready (rs := [11]) (by kernel_rfl) (by simp) (cons_lit (i := 11) rfl (fun K hK => ?_) AllReadyH.nil)
              go_simp
              refine hK.out _ _ (by obtain ⟨s1, s3, s4⟩ := hHeld; refine ⟨?_, ?_, ?_⟩ <;> simp [*, World.cell?_alloc_some]) (fun hHeld => ?_)
              clear hK K
              try simp only [Act.put, List.setIfInBounds_toArray, List.set_cons_zero, List.set_cons_succ]
              refine wpAnyH_ready (rs := [12]) (by kernel_rfl) (by simp) (cons_lit (i := 12) rfl (fun K hK => ?_) AllReadyH.nil)
              (refine step_append_lies _ (by rfl) _ _ 196 (by rfl) (w.heap.size + 1 + 1 + 1 + 1) 202 i0 _ 2 16 Tryz.underlying196 HHI.out hz0 hz1 hz2 (by rfl) (by decide) (.slice A' nl c') nl _ (by rfl) HO.out.1 ⟨w2.heap.size, 0, none⟩ 1 1 [.int .i64 x.lo, .int .i64 x.hi] (by rfl) (by rfl) HO.out.2.1 (by simp [Value.oneCell']) (by decide) (by unfold maxLen; omega) (by omega) (by simp; omega) (w2.heap.size + 1) (by simp) ?_)
              intro g3 cap3 w3 hown3 hgrow3 hat3 hlt3
              obtain ⟨b0, b1⟩ := after_append (o := .cells #[.int .i64 x.lo, .int .i64 x.hi] 202) (w2 := w2) hgrow3 rfl a0 a1 (fun e => by have := (HO.out.2.2.1 _ e.symm).1; omega)
              refine hK.out _ _ ⟨(hgrow3.cell_far _ (by simp; omega) (fun e => (HO.out.2.2.2 _ e.symm) rfl)).trans hHeld.1, (hgrow3.cell_far _ (by simp; omega) (fun e => (HO.out.2.2.2 _ e.symm) rfl)).trans hHeld.2.1, (hgrow3.cell_far _ (by simp; omega) (fun e => (HO.out.2.2.2 _ e.symm) rfl)).trans hHeld.2.2⟩ (fun hHeld => ?_)
              clear hK K
              try simp only [Act.put, List.setIfInBounds_toArray, List.set_cons_zero, List.set_cons_succ]
              refine take_lit (i := 13) (v := ?_) rfl (by kernel_rfl) (by kernel_rfl) (by kernel_rfl) (fun _ _ _ h => h) (by rfl) (fun w hSw => ?_) hHeld ?_
              rotate_left
              · obtain ⟨s1, s3, s4⟩ := hSw; go_simp; try with_reducible rfl
              try simp only [Act.put, List.setIfInBounds_toArray, List.set_cons_zero, List.set_cons_succ]
              refine wpAnyH_ready (rs := [14]) (by kernel_rfl) (by simp) (cons_lit (i := 14) rfl (fun K hK => ?_) AllReadyH.nil)
              go_simp
              refine hK.out _ _ (by obtain ⟨s1, s3, s4⟩ := hHeld; refine ⟨?_, ?_, ?_⟩ <;> simp [*, World.cell?_setCell_far]) (fun hHeld => ?_)
              clear hK K
              try simp only [Act.put, List.setIfInBounds_toArray, List.set_cons_zero, List.set_cons_succ]
              refine wpAnyH_done (by kernel_rfl) ?_ _
              have HG := Lib.hid (And.intro hown3 (And.intro hgrow3 hat3))
              clear hHeld hown3 hgrow3 hat3 b0 b1 a0 a1
              go_wp2_with fail
              go_roundw
              case rel => exact ⟨rfl, k + 1, by omega, by go_num, ok_snoc HL.out.1 HL.out.2.2.2.2 hokx, arm_close HC.out HL.out.2.2.2.2 HL.out.2.1 HJ.out.1 hj4 (by rw [HW.out.1]; rfl) HW.out.2.1 HW.out.2.2 HG.out.1 HG.out.2.1 HG.out.2.2 (.inl ⟨hj4, rfl, rfl⟩)⟩
              case measure => simp [intOf]; omega
            · go_simp
              refine hK.out _ _ (by obtain ⟨s1, s3, s4⟩ := hHeld; refine ⟨?_, ?_, ?_⟩ <;> simp [*, World.cell?_alloc_some]) (fun hHeld => ?_)
              clear hK K
              try simp only [Act.put, List.setIfInBounds_toArray, List.set_cons_zero, List.set_cons_succ]
              refine wpAnyH_ready (rs := [5]) (by kernel_rfl) (by simp) (cons_lit (i := 5) rfl (fun K hK => ?_) AllReadyH.nil)
              go_simp
              refine hK.out _ _ hHeld (fun hHeld => ?_)
              clear hK K
              try simp only [Act.put, List.setIfInBounds_toArray, List.set_cons_zero, List.set_cons_succ]
              refine wpAnyH_ready (rs := [12]) (by kernel_rfl) (by simp) (cons_lit (i := 12) rfl (fun K hK => ?_) AllReadyH.nil)
              (refine step_append_lies _ (by rfl) _ _ 196 (by rfl) (w.heap.size + 1 + 1 + 1 + 1) 202 i0 _ 2 16 Tryz.underlying196 HHI.out hz0 hz1 hz2 (by rfl) (by decide) (.slice A' nl c') nl _ (by rfl) HO.out.1 ⟨w2.heap.size, 0, none⟩ 1 1 [.int .i64 x.lo, .int .i64 x.hi] (by rfl) (by rfl) HO.out.2.1 (by simp [Value.oneCell']) (by decide) (by unfold maxLen; omega) (by omega) (by simp; omega) (w2.heap.size + 1) (by simp) ?_)
              intro g3 cap3 w3 hown3 hgrow3 hat3 hlt3
              obtain ⟨b0, b1⟩ := after_append (o := .cells #[.int .i64 x.lo, .int .i64 x.hi] 202) (w2 := w2) hgrow3 rfl a0 a1 (fun e => by have := (HO.out.2.2.1 _ e.symm).1; omega)
              refine hK.out _ _ ⟨(hgrow3.cell_far _ (by simp; omega) (fun e => (HO.out.2.2.2 _ e.symm) rfl)).trans hHeld.1, (hgrow3.cell_far _ (by simp; omega) (fun e => (HO.out.2.2.2 _ e.symm) rfl)).trans hHeld.2.1, (hgrow3.cell_far _ (by simp; omega) (fun e => (HO.out.2.2.2 _ e.symm) rfl)).trans hHeld.2.2⟩ (fun hHeld => ?_)
              clear hK K
              try simp only [Act.put, List.setIfInBounds_toArray, List.set_cons_zero, List.set_cons_succ]
              refine take_lit (i := 13) (v := ?_) rfl (by kernel_rfl) (by kernel_rfl) (by kernel_rfl) (fun _ _ _ h => h) (by rfl) (fun w hSw => ?_) hHeld ?_
              rotate_left
              · obtain ⟨s1, s3, s4⟩ := hSw; go_simp; try with_reducible rfl
              try simp only [Act.put, List.setIfInBounds_toArray, List.set_cons_zero, List.set_cons_succ]
              refine wpAnyH_ready (rs := [14]) (by kernel_rfl) (by simp) (cons_lit (i := 14) rfl (fun K hK => ?_) AllReadyH.nil)
              go_simp
              refine hK.out _ _ (by obtain ⟨s1, s3, s4⟩ := hHeld; refine ⟨?_, ?_, ?_⟩ <;> simp [*, World.cell?_setCell_far]) (fun hHeld => ?_)
              clear hK K
              try simp only [Act.put, List.setIfInBounds_toArray, List.set_cons_zero, List.set_cons_succ]
              refine wpAnyH_done (by kernel_rfl) ?_ _
              have HG := Lib.hid (And.intro hown3 (And.intro hgrow3 hat3))
              clear hHeld hown3 hgrow3 hat3 b0 b1 a0 a1
              go_wp2_with fail
              go_roundw
              case rel => exact ⟨rfl, k + 1, by omega, by go_num, ok_snoc HL.out.1 HL.out.2.2.2.2 hokx, arm_close HC.out HL.out.2.2.2.2 HL.out.2.1 HJ.out.1 hj4 (by rw [HW.out.1]; rfl) HW.out.2.1 HW.out.2.2 HG.out.1 HG.out.2.1 HG.out.2.2 (.inl ⟨hj4, rfl, rfl⟩)⟩
              case measure => simp [intOf]; omega
      · obtain ⟨er, her⟩ : ∃ er, chk x = er := ⟨_, rfl⟩
        rw [her] at hcon he
        have he1 : (er == 0) = false := by simpa using he
        have he2 : (er != 0) = true := by simpa using he
        have HE := Lib.hid (And.intro her he)
        clear her he
        go_wp2_with fail
        refine (hcon _).mono ?_
        rintro e w2 ⟨rfl, hb2⟩
        have hC2 := HL.out.2.2.1.below (((Below.refl _ _).alloc (Nat.le_refl _) _).trans (hb2.mono (by simp)))
        have hcR := blk_cell hC2.2.1
        have hfR := blk_frozen hC2.2.1
        have HC := Lib.hid hC2
        clear hb2 hcon hC2
        go_wp2_with fail
        rw [Exit.noGoto_ret]
        have hh := heap_setCell_same w2 w.heap.size 0 _ _ (.slice none 0 0) HC.out.2.1
        refine bodyPost_ret (results_cell_row2 rfl _ _ _ _ _ _ _ rfl hh Tryz.underlying109 rfl (by kernel_rfl)) rfl ⟨HC.out.2.2.2.2.2.setCell (Nat.le_refl _) _, .inl ?_⟩
        have e1 := errOf_at HL.out.1 HL.out.2.2.2.2 (by rw [HE.out.1]; exact HE.out.2)
        rw [HE.out.1] at e1
        rw [e1]
        exact ⟨HE.out.2, rfl⟩
    · have hkl : k = l.length := by omega
      subst hkl
      rw [List.take_length] at hok hD hC
      have hsz : Maps.size D ≤ 1000 := Nat.le_trans hC.1.size_le hl
      have HC := Lib.hid (And.intro hok (And.intro hD (And.intro hC hsz)))
      have HHI2 := Lib.hid hi2
      clear hok hD hC hsz hi2
      go_wp2_with fail
      refine (ofRows_ok wr _ _ D _ HC.out.2.2.1.1 HC.out.2.1 HC.out.2.2.2).mono ?_
      rintro e w2 ⟨ks, hkl, hnd, hks, A10, c10, rfl, hrow, hb2⟩
      obtain ⟨rows, hrows⟩ : ∃ rows, (ks.mergeSort fun x y => decide (x ≤ y)).map (rowCl fun key => lev l (-1, key, 0)) = rows := ⟨_, rfl⟩
      have hrl : rows.length = ks.length := by rw [← hrows]; simp
      rw [hrows] at hrow
      have hinv : Inv w rs (lists l) rows (.slice A10 rows.length c10) (fun _ => True) w2 := by
        obtain ⟨h1, h2, h3, h4, h5, h6⟩ := HC.out.2.2.1.below hb2
        exact ⟨h2, h3, h4, fun j hj _ => h5.1 j hj, own_base hrow (fun g hg => by have := (hrow.lt g hg).1; have := HC.out.2.2.1.2.2.2.2.2.size; omega), h6⟩
      have hdist : Dist rs := HC.out.2.2.1.2.2.2.2.1.2
      rw [hrows]
      have HK := Lib.hid (And.intro hnd (And.intro hks (And.intro hrows (And.intro hrl (And.intro hinv (And.intro hdist hkl))))))
      clear hnd hks hrows hrl hinv hdist hrow hb2 hkl
      go_wp2_with fail
      go_loopw [10, 88] (fun v i wr => ∃ k : Nat, k ≤ 4 ∧ i = .int .i64 (k : Int) ∧ ColsR w l rs rows k v wr) (fun _ i _ => 4 - (intOf i).toNat)
      case atStart =>
        obtain ⟨_, _, _, hrl, hinv, _, hkl⟩ := HK.out
        exact ⟨0, by omega, rfl, fun _ => [], fun _ => [], fun i hi => absurd hi (by omega), by simp [cols]; omega, by simpa [cols] using hinv.mono (fun _ _ => trivial)⟩
      case round =>
        obtain ⟨k, hk, rfl, W, R, hco, hlen, hinv⟩ := hrel
        rename World => w3
        by_cases hlt : k < 4
        · obtain ⟨a0, _⟩ := arr_cells hinv.2.2.1 k hlt
          obtain ⟨a2, _⟩ := arr_cells hinv.2.1 k hlt
          have hk0 : (0 : Int) ≤ (k : Int) := by omega
          have hk4 : (k : Int) < 4 := by omega
          have hA6 : w.heap.size + 1 + 1 + 1 < w3.heap.size := (Array.getElem?_eq_some_iff.1 hinv.2.2.1).1
          obtain ⟨vW, hvW⟩ : ∃ vW, rs (4 + k) = vW := ⟨_, rfl⟩
          simp only [hvW] at a0
          have h46 : (4 + k) % 4 = k := by omega
          have hrowW := hinv.2.2.2.1 (4 + k) (by omega) (by omega)
          have hlW : lists l (4 + k) = spansOf l (k : Int) true := by unfold lists; rw [if_neg (by omega)]; congr 1; omega
          have hlR : lists l k = spansOf l (k : Int) false := by unfold lists; rw [if_pos hlt]
          have hl8 := fun j => lists_len l j
          have hf8 := fun j => lists_fit hfit j
          obtain ⟨A10, c10, rfl⟩ := ownsRow_slice hinv.2.2.2.2.1
          have hconU := united_ok w3 vW (lists l (4 + k)) (own_base (by rw [← hvW]; exact hrowW) (fun _ _ => Nat.zero_le _)) (Nat.le_trans (hl8 _) hl) (hf8 _)
          have HI := Lib.hid (And.intro hco (And.intro hlen (And.intro hinv (And.intro hvW (And.intro hlW (And.intro hlR (And.intro hl8 (And.intro hf8 hrowW))))))))
          clear hco hlen hinv hvW hlW hlR hl8 hf8 hrowW h46
          go_wp2_with fail
          refine hconU.mono ?_
          rintro e w4 ⟨s, hs1, hs2, AW, cW, rfl, hW4, ho4⟩
          have hinv4 := HI.out.2.2.1.united HK.out.2.2.2.2.2.1 (i := 4 + k) (by omega) (by omega) (by rw [HI.out.2.2.2.1]; exact ho4)
          have hsl : s.length ≤ 1000 := by rw [hs1.length_eq]; exact Nat.le_trans (HI.out.2.2.2.2.2.2.1 _) hl
          have hjl : (joinS s).length ≤ 1000 := Nat.le_trans (joinS_len s) hsl
          have hjf : SpFit (joinS s) := joinS_fit (fun x hx => HI.out.2.2.2.2.2.2.2.1 _ x (hs1.mem_iff.1 hx))
          have hrdW : SpRd w4 (fun _ => True) (.slice AW (joinS s).length cW) (joinS s) := RdK.of_own hW4 (spc_len _) (by decide) (fun _ _ => trivial)
          obtain ⟨out, hout⟩ : ∃ out, rows ++ cols W R k = out := ⟨_, rfl⟩
          rw [hout]
          rw [hout] at hinv4
          have holen : out.length ≤ 1000 + k * 1002000 := by rw [← hout]; exact HI.out.2.1
          have HJ := Lib.hid (And.intro hs1 (And.intro hs2 (And.intro hW4 (And.intro ho4 (And.intro hinv4 (And.intro hjf (And.intro hrdW hout)))))))
          clear hs1 hs2 hW4 ho4 hinv4 hjf hrdW hout hconU
          go_wp2_with fail
          refine (ofSpans_ok w4 (fun _ => True) _ true _ _ HJ.out.2.2.2.2.2.2.1 (by omega)).mono ?_
          rintro e w5 ⟨A5, c5, rfl, hO5, hb5⟩
          obtain ⟨C1, hC1⟩ : ∃ C1, (joinS s).map (spCl (k : Int) true) = C1 := ⟨_, rfl⟩
          rw [hC1] at hO5 ⊢
          have hc1l : C1.length ≤ 1000 := by rw [← hC1]; simpa using hjl
          have hrd5 : ClRd w5 (fun _ => True) (.slice A5 C1.length c5) C1 := RdK.of_own hO5 (cl_len _) (by decide) (fun _ _ => trivial)
          have hinv5 := HJ.out.2.2.2.2.1.below hb5
          have hW5 := own_below HJ.out.2.2.1 hb5
          have hs5 := hinv5.2.2.2.2.2.size
          have H5 := Lib.hid (And.intro hC1 (And.intro hrd5 (And.intro hinv5 hW5)))
          clear hC1 hrd5 hinv5 hW5 hO5 hb5
          go_wp2_with (at_builtin; go_loud (refine wpList_append_rdk _ rfl _ _ 65 rfl w.heap.size 119 i2 _ 5 48 Tryz.underlying65 HHI2.out hy0 hy1 hy2 rfl (by decide) (.slice A10 out.length c10) out.length _ rfl H5.out.2.2.1.2.2.2.2.1 (fun _ => True) (.slice A5 C1.length c5) (C1.map Cl.cells) rfl H5.out.2.1 (cl_len _) (cl_one _) (by simp; omega) (by simp; unfold maxLen; omega) hs5 ?_); intro v6 w6 hO6 hg6 hat6; have hO6' : w6.ownsRow w.heap.size 119 5 v6 (out ++ C1).length ((out ++ C1).map Cl.cells).flatten := (by simpa using hO6); obtain ⟨out1, hout1⟩ : ∃ out1, out ++ C1 = out1 := ⟨_, rfl⟩; rw [hout1] at hO6'; have hinv6 := H5.out.2.2.1.append hg6 hO6'; have hW6 := own_kept_ne H5.out.2.2.2 H5.out.2.2.1.2.2.2.2.1 (by decide) hg6; obtain ⟨a6, _⟩ := arr_cells hinv6.2.1 k hlt; have hsz6 := hg6.size; have hol1 : out1.length ≤ 2000 + k * 1002000 := (by rw [← hout1]; simp; omega); have HO1 := Lib.hid hout1; have H6 := Lib.hid (And.intro hinv6 hW6); clear hO6 hO6' hinv6 hW6 hg6 hat6 hout1)
          have hown6 := H6.out.1.2.2.2.1 k (by omega) (by omega)
          obtain ⟨A6, c6, rfl⟩ := ownsRow_slice H6.out.1.2.2.2.2.1
          refine (united_ok w6 (rs k) (lists l k) (own_base hown6 (fun _ _ => Nat.zero_le _)) (Nat.le_trans (HI.out.2.2.2.2.2.2.1 _) hl) (HI.out.2.2.2.2.2.2.2.1 _)).mono ?_
          rintro e w7 ⟨s', ht1, ht2, AR, cR, rfl, hR7, ho7⟩
          have hinv7 := H6.out.1.united HK.out.2.2.2.2.2.1 (i := k) (by omega) (by omega) ho7
          have hs7 : s'.length ≤ 1000 := by rw [ht1.length_eq]; exact Nat.le_trans (HI.out.2.2.2.2.2.2.1 _) hl
          have hj7 : (joinS s').length ≤ 1000 := Nat.le_trans (joinS_len s') hs7
          have hf7 : SpFit (joinS s') := joinS_fit (fun x hx => HI.out.2.2.2.2.2.2.2.1 _ x (ht1.mem_iff.1 hx))
          have hrdR : SpRd w7 (fun _ => True) (.slice AR (joinS s').length cR) (joinS s') := RdK.of_own hR7 (spc_len _) (by decide) (fun _ _ => trivial)
          have hrk3 := HI.out.2.2.1.2.2.2.1 k (by omega) (by omega)
          have hW7 := own_only H6.out.2 ho7 (fun g hg e => by have h1 := (H6.out.2.lt g hg).1; have h2 := (hrk3.lt g e).2; omega)
          have hrdW7 : SpRd w7 (fun _ => True) (.slice AW (joinS s).length cW) (joinS s) := RdK.of_own hW7 (spc_len _) (by decide) (fun _ _ => trivial)
          have hlw := withoutS_len (joinS s') (joinS s)
          have hlw2 : (joinS s').length * ((joinS s).length + 1) ≤ 1000 * 1001 := Nat.mul_le_mul hj7 (by omega)
          have H7 := Lib.hid (And.intro ht1 (And.intro ht2 (And.intro hinv7 (And.intro hf7 (And.intro hrdR hrdW7)))))
          clear ht1 ht2 hinv7 hf7 hrdR hrdW7 hR7 ho7 hown6 hrk3 hW7
          go_wp2_with fail
          refine (without_ok w7 (fun _ => True) _ _ _ _ H7.out.2.2.2.2.1 H7.out.2.2.2.2.2 hj7 hjl H7.out.2.2.2.1 HJ.out.2.2.2.2.2.1).mono ?_
          rintro e w8 ⟨A8, c8, rfl, hO8, hb8⟩
          have hrd8 : SpRd w8 (fun _ => True) (.slice A8 (withoutS (joinS s') (joinS s)).length c8) (withoutS (joinS s') (joinS s)) := RdK.of_own hO8 (spc_len _) (by decide) (fun _ _ => trivial)
          have hinv8 := H7.out.2.2.1.below hb8
          obtain ⟨X, hX⟩ : ∃ X, withoutS (joinS s') (joinS s) = X := ⟨_, rfl⟩
          rw [hX] at hrd8 hlw ⊢
          have hxl : X.length ≤ 1001000 := by omega
          have H8 := Lib.hid (And.intro hX (And.intro hrd8 hinv8))
          clear hX hrd8 hinv8 hO8 hb8 hlw
          go_wp2_with fail
          refine (ofSpans_ok w8 (fun _ => True) _ false _ _ H8.out.2.1 (by omega)).mono ?_
          rintro e w9 ⟨A9, c9, rfl, hO9, hb9⟩
          obtain ⟨C2, hC2⟩ : ∃ C2, X.map (spCl (k : Int) false) = C2 := ⟨_, rfl⟩
          rw [hC2] at hO9 ⊢
          have hc2l : C2.length ≤ 1001000 := by rw [← hC2]; simpa using hxl
          have hrd9 : ClRd w9 (fun _ => True) (.slice A9 C2.length c9) C2 := RdK.of_own hO9 (cl_len _) (by decide) (fun _ _ => trivial)
          have hinv9 := H8.out.2.2.below hb9
          have hs9 := hinv9.2.2.2.2.2.size
          have H9 := Lib.hid (And.intro hC2 (And.intro hrd9 (And.intro hinv9 HO1.out)))
          clear hC2 hrd9 hinv9 hO9 hb9
          go_wp2_with (at_builtin; go_loud (refine wpList_append_rdk _ rfl _ _ 65 rfl w.heap.size 119 i2 _ 5 48 Tryz.underlying65 HHI2.out hy0 hy1 hy2 rfl (by decide) (.slice A6 out1.length c6) out1.length _ rfl H9.out.2.2.1.2.2.2.2.1 (fun _ => True) (.slice A9 C2.length c9) (C2.map Cl.cells) rfl H9.out.2.1 (cl_len _) (cl_one _) (by simp; omega) (by simp; unfold maxLen; omega) hs9 ?_); intro vZ wZ hOZ hgZ hatZ)
          go_roundw
          case rel =>
            have hOZ' : wZ.ownsRow w.heap.size 119 5 vZ (out1 ++ C2).length ((out1 ++ C2).map Cl.cells).flatten := by simpa using hOZ
            have hinvZ := H9.out.2.2.1.append hgZ hOZ'
            refine ⟨k + 1, by omega, by go_num, updI W k (joinS s), updI R k X, ?_, ?_, ?_⟩
            · intro i hi
              by_cases e : i = k
              · subst e
                rw [updI_same, updI_same, ← H8.out.1]
                exact colOk_of HC.out.1 (by rw [← HI.out.2.2.2.2.1]; exact HJ.out.1) (by rw [← HI.out.2.2.2.2.2.1]; exact H7.out.1) HJ.out.2.1 H7.out.2.1
              · rw [updI_other e, updI_other e]
                exact HI.out.1 i (by omega)
            · rw [cols_step, ← List.append_assoc, HJ.out.2.2.2.2.2.2.2, H5.out.1, H9.out.1]
              have := H9.out.2.2.2
              rw [← List.append_assoc, this]
              simp; omega
            · have e : rows ++ cols (updI W k (joinS s)) (updI R k X) (k + 1) = out1 ++ C2 := by
                rw [cols_step, ← List.append_assoc, HJ.out.2.2.2.2.2.2.2, H5.out.1, H9.out.1, ← List.append_assoc, H9.out.2.2.2]
              rw [e]
              exact hinvZ.mono (fun j hj => ⟨⟨by omega, by omega⟩, by omega⟩)
          case measure => simp [intOf]; omega
        · obtain rfl : k = 4 := by omega
          have hform := isForm_of HC.out.1 HK.out.1 HK.out.2.1 HK.out.2.2.1 hco
          obtain ⟨out, hout⟩ : ∃ out, rows ++ cols W R 4 = out := ⟨_, rfl⟩
          rw [hout] at hform hinv hlen
          obtain ⟨AZ, cZ, rfl⟩ := ownsRow_slice hinv.2.2.2.2.1
          have hcR := blk_cell hinv.1
          have hfR := blk_frozen hinv.1
          have HF := Lib.hid (And.intro hform (And.intro hinv hout))
          clear hform hinv hout hco
          by_cases h64 : 64 < out.length
          · go_wp2_with fail
            rw [Exit.noGoto_ret]
            have hh := heap_setCell_same w3 w.heap.size 0 _ _ (.slice none 0 0) HF.out.2.1.1
            exact bodyPost_ret (results_cell_row2 rfl _ _ _ _ _ _ _ rfl hh Tryz.underlying109 rfl (by kernel_rfl)) rfl ⟨HF.out.2.1.2.2.2.2.2.setCell (Nat.le_refl _) _, .inr ⟨errOf_ok HC.out.1, out, HF.out.1, .inl ⟨h64, rfl⟩⟩⟩
          · go_wp2_with fail
            rw [Exit.noGoto_ret]
            have hh := heap_setCell_same w3 w.heap.size 0 _ _ (.slice AZ out.length cZ) HF.out.2.1.1
            refine bodyPost_ret (results_cell_row2 rfl _ _ _ _ _ _ _ rfl hh Tryz.underlying109 rfl (by kernel_rfl)) rfl ⟨HF.out.2.1.2.2.2.2.2.setCell (Nat.le_refl _) _, .inr ⟨errOf_ok HC.out.1, out, HF.out.1, .inr ⟨by omega, AZ, cZ, rfl, ?_⟩⟩⟩
            exact own_only HF.out.2.1.2.2.2.2.1 (Only.set1 w3 w.heap.size 0 _) (fun g hg e => by subst e; exact own_blk_ne HF.out.2.1.2.2.2.2.1 HF.out.2.1.1 (by decide) hg)

end Go.Proofs.YtifpaagppjmbhaaGreatDoor
