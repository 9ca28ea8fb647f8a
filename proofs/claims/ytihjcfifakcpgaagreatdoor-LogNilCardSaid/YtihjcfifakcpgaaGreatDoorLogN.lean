/- LogNil, walked. -/
import Derived.Test.YtihjcfifakcpgaaGreatDoorLogH
namespace Go.Proofs.YtihjcfifakcpgaaGreatDoor
set_option maxRecDepth 100000
open Go.RowKit Go.Shelf

attribute [local go_sem] Oper.semAt_some

theorem nilAt_ok (w : World) (i : Int) : Calls Tryz.prog 32 #[.pointer none, .int .i64 i] w fun e w' => e = .returned (.tuple #[.slice none 0 0, .int .i64 2]) ∧ w = w' := by
  go_enter Tryz.func32, Tryz.ntmps32
  go_wp2_with fail
  go_ret2
  exact ⟨rfl, rfl⟩
theorem nilPrefix_ok (w : World) (i : Int) : Calls Tryz.prog 33 #[.pointer none, .int .i64 i] w fun e w' => e = .returned (.tuple #[.pointer none, .int .i64 2]) ∧ w = w' := by
  go_enter Tryz.func33, Tryz.ntmps33
  go_wp2_with fail
  go_ret2
  exact ⟨rfl, rfl⟩
theorem nilLen_ok (w : World) : Calls Tryz.prog 35 #[.pointer none] w fun e w' => e = .returned (.int .i64 0) ∧ w = w' := by
  go_enter Tryz.func35, Tryz.ntmps35
  go_wp2_with fail
  go_ret
  exact ⟨rfl, rfl⟩
theorem nilBytes_ok (w : World) : Calls Tryz.prog 28 #[.pointer none] w fun e w' => e = .returned (.slice none 0 0) ∧ w = w' := by
  go_enter Tryz.func28, Tryz.ntmps28
  go_wp2_with fail
  go_ret
  exact ⟨rfl, rfl⟩
theorem nilAll_ok (w : World) : Calls Tryz.prog 34 #[.pointer none] w fun e w' => e = .returned (.func (.func 65) #[] #[.pointer (some ⟨w.heap.size, 0, none⟩)]) ∧ w' = w.alloc (.cells #[.slice none 0 0] 55) := by
  go_enter Tryz.func34, Tryz.ntmps34
  go_wp2_with fail
  go_ret
  exact ⟨rfl, rfl⟩
set_option maxRecDepth 100000 in
theorem nilEntry_ok (w : World) (i : Int) : Calls Tryz.prog 30 #[.pointer none, .int .i64 i] w fun en w' => en = .returned (.tuple #[zeroE, .int .i64 2]) ∧ Below w.heap.size w w' := by
  have hb1 := one_box w (.cells #[.int .i64 0, .slice none 0 0, .slice none 0 0, .slice none 0 0] 26)
  have k1 := heap_alloc_new w (.cells #[.int .i64 0, .slice none 0 0, .slice none 0 0, .slice none 0 0] 26)
  have HB := Lib.hid hb1
  clear hb1
  go_enter Tryz.func30, Tryz.ntmps30
  go_wp2_with fail
  generalize w.alloc (.cells #[.int .i64 0, .slice none 0 0, .slice none 0 0, .slice none 0 0] 26) = w1 at k1 HB ⊢
  obtain ⟨R, hR⟩ : ∃ R, w.heap.size = R := ⟨_, rfl⟩
  rw [hR] at k1 ⊢
  have HR := Lib.hid hR
  clear hR
  refine (nilAt_ok _ i).mono ?_
  rintro en w2 ⟨rfl, rfl⟩
  obtain ⟨⟨z0, z1, z2, z3⟩, y0, y1, y2, y3⟩ := blk4 k1
  go_wp2_with fail
  refine bodyPost_ret (results_cell_row2 rfl _ _ _ _ _ _ _ rfl (put4 k1 _ _ _ _) Tryz.underlying26 rfl (by kernel_rfl)) rfl ⟨?_, below4 HB.out (by rw [HR.out]; exact Nat.le_refl _) _ _ _ _⟩
  exact rfl
set_option maxRecDepth 100000 in
theorem lnil_long (w : World) (v : Value) (bs : List UInt8) (i : Int) (hr : Rd w (fun _ => True) v (bs.map B8)) (hl : 20 < bs.length) :
    Calls Tryz.prog 9 #[v, .int .i64 i] w fun e w' => e = .returned (.bool true) ∧ Below w.heap.size w w' := by
  obtain ⟨A, c, rfl, hc, hm⟩ := rd_len hr
  unfold maxLen at hm
  have hl' : (20 : Int) < (bs.length : Int) := by omega
  have hb1 := one_box w (.cells #[.bool false] 4)
  have k1 := heap_alloc_new w (.cells #[.bool false] 4)
  have HB := Lib.hid hb1
  clear hb1 hr
  refine calls_marks Tryz.func9 rfl ?_
  simp only [Tryz.ntmps9, List.size_toArray, List.length_cons, List.length_nil, Nat.reduceAdd, Nat.reduceSub, Array.replicate_succ, Array.replicate_zero, List.push_toArray, List.append_toArray, List.nil_append, List.cons_append]
  go_wp2_with fail
  generalize w.alloc (.cells #[.bool false] 4) = w1 at k1 HB ⊢
  obtain ⟨R, hR⟩ : ∃ R, w.heap.size = R := ⟨_, rfl⟩
  rw [hR] at k1 ⊢
  have HR := Lib.hid hR
  clear hR
  refine (awake14_ok _).mono ?_
  rintro en w2 ⟨rfl, hb2⟩
  have k2 := (Only.of_below hb2 (fun _ => False)).heap k1 (fun h => h)
  have HB2 := Lib.hid (HB.out.trans (hb2.mono HB.out.size))
  have hrc := blk_cell k2
  have hrf := blk_frozen k2
  clear hb2 k1
  go_wp2_with fail
  have hc2 : (w2.setCell ⟨R, 0, none⟩ (.bool true)).cell? ⟨R, 0, none⟩ = some (.bool true) := World.cell?_setCell_same' _ _ _ (by rw [hrc]; rfl)
  exact ⟨.bool true, by simp [results, Tryz.results9, go_sem, hc2], rfl, HB2.out.setCell (p := ⟨R, 0, none⟩) (by rw [HR.out]; exact Nat.le_refl _) _⟩
set_option maxRecDepth 100000 in
set_option maxHeartbeats 4000000 in
theorem lnil_short (w : World) (v : Value) (bs : List UInt8) (i : Int) (hr : Rd w (fun _ => True) v (bs.map B8)) (hl : bs.length ≤ 20) :
    Calls Tryz.prog 9 #[v, .int .i64 i] w fun e w' => e = .returned (.bool true) ∧ Below w.heap.size w w' := by
  obtain ⟨A, c, rfl, hc, hm⟩ := rd_len hr
  unfold maxLen at hm
  have hl' : ¬ (20 : Int) < (bs.length : Int) := by omega
  have hb1 := one_box w (.cells #[.bool false] 4)
  have k1 := heap_alloc_new w (.cells #[.bool false] 4)
  have HB := Lib.hid hb1
  have HRD := Lib.hid hr
  clear hb1 hr
  refine calls_marks Tryz.func9 rfl ?_
  simp only [Tryz.ntmps9, List.size_toArray, List.length_cons, List.length_nil, Nat.reduceAdd, Nat.reduceSub, Array.replicate_succ, Array.replicate_zero, List.push_toArray, List.append_toArray, List.nil_append, List.cons_append]
  go_wp2_with fail
  generalize w.alloc (.cells #[.bool false] 4) = w1 at k1 HB ⊢
  obtain ⟨R, hR⟩ : ∃ R, w.heap.size = R := ⟨_, rfl⟩
  rw [hR] at k1 ⊢
  have HR := Lib.hid hR
  clear hR
  refine (append_nil w1 _).mono ?_
  rintro en w2 ⟨rfl, rfl⟩
  go_wp2_with fail
  refine (nilAt_ok w1 i).mono ?_
  rintro en w2 ⟨rfl, rfl⟩
  go_wp2_with fail
  refine (nilEntry_ok w1 i).mono ?_
  rintro en w2 ⟨rfl, hb2⟩
  have hb2' := hb2.alloc hb2.size (.cells #[.int .i64 0, .slice none 0 0, .slice none 0 0, .slice none 0 0] 26)
  have kx := heap_alloc_new w2 (.cells #[.int .i64 0, .slice none 0 0, .slice none 0 0, .slice none 0 0] 26)
  have k2 := (Only.of_below hb2' (fun _ => False)).heap k1 (fun h => h)
  have HB2 := Lib.hid (HB.out.trans (hb2'.mono HB.out.size))
  have HRl := Lib.hid (show R < w2.heap.size from Nat.lt_of_lt_of_le (Array.getElem?_eq_some_iff.1 k1).1 hb2.size)
  clear hb2 hb2' k1
  unfold zeroE
  go_wp2_with fail
  generalize w2.alloc (.cells #[.int .i64 0, .slice none 0 0, .slice none 0 0, .slice none 0 0] 26) = w3 at kx k2 HB2 ⊢
  obtain ⟨X, hX⟩ : ∃ X, w2.heap.size = X := ⟨_, rfl⟩
  rw [hX] at kx ⊢
  have HX := Lib.hid hX
  clear hX
  refine (nilPrefix_ok w3 i).mono ?_
  rintro en w4 ⟨rfl, rfl⟩
  go_wp2_with fail
  refine (nilAll_ok w3).mono ?_
  rintro en w4 ⟨rfl, rfl⟩
  have hfn := all_not_nil w3.heap.size
  have hb4 := one_box w3 (.cells #[.slice none 0 0] 55)
  have ka := heap_alloc_new w3 (.cells #[.slice none 0 0] 55)
  have kx4 := (Only.of_below hb4 (fun _ => False)).heap kx (fun h => h)
  have k4 := (Only.of_below hb4 (fun _ => False)).heap k2 (fun h => h)
  have HB4 := Lib.hid (HB2.out.trans (hb4.mono HB2.out.size))
  clear hb4 kx k2
  generalize w3.alloc (.cells #[.slice none 0 0] 55) = w4 at ka kx4 k4 HB4 ⊢
  obtain ⟨Bs, hBs⟩ : ∃ X, w3.heap.size = X := ⟨_, rfl⟩
  rw [hBs] at ka hfn ⊢
  clear hBs
  go_wp2_with fail
  have hsB : Bs < w4.heap.size := (Array.getElem?_eq_some_iff.1 ka).1
  have HKK := Lib.hid (And.intro k4 kx4)
  clear hfn
  refine range_law2 (fun t _ _ => t) rfl (enters_of Tryz.func65 (by kernel_rfl) rfl) (all_seq w4 (fun k => k = Bs) Bs _ [] (by simp) rfl (blk_cell ka) (RowsRd.nil _ _)) (fun k hk => by omega) (logPre_only [])
    (fun pre U W => U = (fun _ => False) ∧ Only (fun _ => False) w4 W)
    (fun _ _ _ _ => False) ?hJ (fun _ => Stable.none _) (fun _ => False) ⟨rfl, Only.refl _ _⟩ (fun k hk e => e) ?hassign ?hbody ?hdone ?hstop
  case hJ =>
    refine ⟨?_, ?_⟩
    · rintro pre U A ⟨rfl, _⟩ k hk
      exact hk.elim
    · rintro pre U A B S' ⟨rfl, ho⟩ hS hd
      refine ⟨rfl, ⟨hS.os.trans ho.os, hS.tape.trans ho.tape, hS.output.trans ho.output, Nat.le_trans ho.size hS.size, fun k hk _ => (hS.block k (Nat.lt_of_lt_of_le hk ho.size) (fun hs => by have := (hd k hs).1; omega)).trans (ho.block k hk (fun h => h))⟩⟩
  case hassign =>
    intro l v0 v1' W K hK
    gi_wp2
    exact hK
  case hbody =>
    rintro l pre x v0 v1' U W ⟨rfl, ho⟩ ⟨rfl, A', c', F', rfl, hpx, _⟩
    simp at hpx
  case hstop =>
    intro D c' pre U W _ _ _ h
    exact h.elim
  case hdone =>
    rintro D xs U W hD hUD hxs ⟨rfl, ho⟩ - - hK
    have hblW : Below w.heap.size w W := HB4.out.trans (ho.belowN HB4.out.size (fun k hk e => e))
    have hres := ho.heap HKK.out.1 (fun h => h)
    have hbx := ho.heap HKK.out.2 (fun h => h)
    obtain ⟨⟨x0, x1, x2, x3⟩, _⟩ := blk4 hbx
    have HW := Lib.hid (And.intro hblW (And.intro hres (And.intro hK hD)))
    clear hblW hres hbx hK hD hUD ho hxs k4 kx4 ka
    go_wp2_with fail
    refine (nilLen_ok W).mono ?_
    rintro en w5 ⟨rfl, rfl⟩
    go_wp2_with fail
    refine (nilBytes_ok W).mono ?_
    rintro en w5 ⟨rfl, rfl⟩
    clear x0 x1 x2 x3
    go_wp2_with fail
    refine (log_new W (fun _ => False) _ [] (RowsRd.nil _ _) (fun _ h => h.elim) (by simp)).mono ?_
    rintro en w5 ⟨hb5, hnew⟩
    rw [if_pos (by simp)] at hnew
    obtain ⟨b, rfl, hlog⟩ := hnew
    have H5 := Lib.hid (And.intro hb5 hlog)
    clear hb5 hlog
    go_wp2_with fail
    go_loopw [17, 18, 19] (fun i _ _ wr => ∃ k : Nat, k ≤ 1024 ∧ i = .int .i64 (k : Int) ∧ Below W.heap.size W wr ∧ ∃ F, LogAt wr F b (List.replicate k bs) ∧ ∀ j, F j → W.heap.size ≤ j) (fun i _ _ _ => 1024 - (intOf i).toNat)
    case atStart => exact ⟨0, by omega, rfl, H5.out.1, _, H5.out.2, fun j hj => hj⟩
    case round =>
      obtain ⟨k, hk, rfl, hbl, F, hlog, hF⟩ := hrel
      have hrd := HRD.out.below (HW.out.1.trans (hbl.mono HW.out.1.size))
      have HL := Lib.hid (And.intro hbl (And.intro hlog (And.intro hF hrd)))
      clear hbl hlog hF hrd
      by_cases hlt : k < 1024
      · go_wp2_with fail
        refine (append_ok wr F b _ HL.out.2.1 (by simp; omega) _ A bs.length c bs HL.out.2.2.2 (by omega)).mono ?_
        rintro en w6 ⟨rfl, ho6, F6, hlog6, hF6⟩
        rw [List.length_replicate]
        have hbl6 : Below W.heap.size W w6 := HL.out.1.trans (ho6.belowN HL.out.1.size (fun j hj e => by have := HL.out.2.2.1 j e; omega))
        have hsz := HL.out.1.size
        have HL6 := Lib.hid (And.intro hbl6 (And.intro hlog6 (show ∀ j, F6 j → W.heap.size ≤ j from fun j hj => by rcases hF6 j hj with h | h; exact HL.out.2.2.1 j h; omega)))
        clear hbl6 hlog6 hF6 ho6 hsz
        go_wp2_with fail
        go_roundw
        case rel => exact ⟨k + 1, by omega, by go_num, HL6.out.1, F6, by rw [List.replicate_succ']; exact HL6.out.2.1, HL6.out.2.2⟩
        case measure => simp [intOf]; omega
      · obtain rfl : k = 1024 := by omega
        have hsl : bs.length ≤ 8192 := by omega
        go_wp2_with fail
        refine (append_full wr F b _ HL.out.2.1 (by simp) A bs.length c hsl).mono ?_
        rintro en w6 ⟨rfl, rfl⟩
        go_wp2_with fail
        refine (loglen_ok wr F b _ HL.out.2.1).mono ?_
        rintro en w6 ⟨rfl, rfl⟩
        rw [List.length_replicate]
        go_wp2_with fail
        refine (awake14_ok wr).mono ?_
        rintro en w6 ⟨rfl, hb6⟩
        have hbl6 := HL.out.1.trans (hb6.mono HL.out.1.size)
        have hres' : w6.heap[R]? = some (.cells #[.bool false] 4 (0, 0)) := (Only.of_below (w := W) (w' := w6) ⟨hbl6.os, hbl6.tape, hbl6.output, hbl6.size, hbl6.block⟩ (fun _ => False)).heap HW.out.2.1 (fun h => h)
        have hrc := blk_cell hres'
        have hrf := blk_frozen hres'
        have hKr : w6.heap[D]? = some (.deferred (some [])) := (hbl6.block _ (Array.getElem?_eq_some_iff.1 HW.out.2.2.1).1).trans HW.out.2.2.1
        have HR6 := Lib.hid (And.intro hres' (And.intro hKr hbl6))
        clear hres' hKr hb6 hbl6
        go_wp2_with fail
        have hRD : R ≠ D := by
          have h1 := HRl.out
          have h2 := HX.out
          have h3 := HW.out.2.2.2
          have h4 := (Array.getElem?_eq_some_iff.1 HKK.out.2).1
          omega
        have hK2 : (w6.setCell ⟨R, 0, none⟩ (.bool true)).heap[D]? = some (.deferred (some [])) := (Below.heap_setCell _ _ _ _ (Ne.symm hRD)).trans HR6.out.2.1
        have hc2 : ((w6.setCell ⟨R, 0, none⟩ (.bool true)).putObj D (.deferred none)).cell? ⟨R, 0, none⟩ = some (.bool true) := by
          rw [World.cell?_of_block (World.putObj_heap_other hRD)]
          exact World.cell?_setCell_same' _ _ _ (by rw [hrc]; rfl)
        refine leave_mark (v := .bool true) hK2 (by simp [results, Tryz.results9, go_sem, hc2]) ⟨rfl, ?_⟩
        have b1 : Below w.heap.size w w6 := HW.out.1.trans (HR6.out.2.2.mono HW.out.1.size)
        have hDl : w.heap.size ≤ D := by have := HW.out.2.2.2; have := HB4.out.size; omega
        exact (b1.setCell (p := ⟨R, 0, none⟩) (by rw [HR.out]; exact Nat.le_refl _) _).trans (((Only.putObj _ D _).belowN (by have := b1.size; simp [World.setCell]; omega) (fun k hk e => by omega)))
theorem lnil_law (w : World) (v : Value) (bs : List UInt8) (i : Int) (hr : Rd w (fun _ => True) v (bs.map B8)) :
    Calls Tryz.prog 9 #[v, .int .i64 i] w fun e w' => e = .returned (.bool true) ∧ Below w.heap.size w w' := by
  by_cases h : bs.length ≤ 20
  · exact lnil_short w v bs i hr h
  · exact lnil_long w v bs i hr (by omega)
end Go.Proofs.YtihjcfifakcpgaaGreatDoor
