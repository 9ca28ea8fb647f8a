/- sched.New: a board of so many workers. -/
import Derived.Test.YtiacbhnkcllpjaaGreatDoorSchB
import Derived.Test.YtiacbhnkcllpjaaGreatDoorHeld
namespace Go.Proofs.YtiacbhnkcllpjaaGreatDoor
set_option maxRecDepth 100000
open Go.RowKit

theorem Tryz.infoChan : (Tryz.prog.info? 142).map (fun i => (i.zero, i.size, i.bytes)) = some (some (.chan none), 1, 8) := by kernel_rfl
theorem Tryz.infoIntB : ∃ i, Tryz.prog.info? 3 = some i ∧ i.bytes = 8 := by
  have h : (Tryz.prog.info? 3).map (·.bytes) = some 8 := by kernel_rfl
  obtain ⟨i, hi, hb⟩ := Option.map_eq_some_iff.1 h
  exact ⟨i, hi, hb⟩
theorem mkChan1 (w : World) : (Instr.makeChan 142 (.int .i64 1)).run Tryz.prog w = .ok (.chan (some w.heap.size)) (w.alloc (.chan 1 #[] false 0 0 false)) := by
  obtain ⟨i, hi, hb⟩ := Tryz.infoIntB
  simpa using Go.Conc.run_makeChan (P := Tryz.prog) (w := w) Tryz.underlying142 hi .i64 1 (by omega) (by rw [hb]; omega)
/-- So many slots are made. -/
def SlotsI (w : World) (B SB n k : Nat) (wr : World) : Prop := Below w.heap.size w wr ∧ w.heap.size ≤ SB ∧ wr.heap[B]? = some (.cells #[.slice (some ⟨SB, 0, none⟩) n n] 141 (0, 0)) ∧
  ∃ cs : Array Value, wr.heap[SB]? = some (.cells cs 142 (0, 0)) ∧ cs.size = n ∧ ∀ i, i < k → ∃ c, cs[i]? = some (.chan (some c)) ∧ SlotE wr c
theorem SlotsI.ne {w wr : World} {B SB n k : Nat} (h : SlotsI w B SB n k wr) : B ≠ SB := by
  obtain ⟨_, _, h3, cs, h4, _⟩ := h
  rintro rfl
  rw [h3] at h4
  injection h4 with e
  injection e with _ e
  exact absurd e (by decide)
theorem SlotsI.more {w wr : World} {B SB n k : Nat} (h : SlotsI w B SB n k wr) (hk : k < n) : SlotsI w B SB n (k + 1) ((wr.alloc (.chan 1 #[] false 0 0 false)).setCell ⟨SB, k, none⟩ (.chan (some wr.heap.size))).drew := by
  have hne := h.ne
  obtain ⟨h1, h2, h3, cs, h4, h5, h6⟩ := h
  have hd : Below wr.heap.size wr (wr.alloc (.chan 1 #[] false 0 0 false)) := (Below.refl _ _).alloc (Nat.le_refl _) _
  have h3' := (Only.of_below hd (fun _ => False)).heap h3 (fun h => h)
  have h4' := (Only.of_below hd (fun _ => False)).heap h4 (fun h => h)
  have hlt := (Array.getElem?_eq_some_iff.1 h4).1
  have ho := Only.set1 (wr.alloc (.chan 1 #[] false 0 0 false)) SB k (.chan (some wr.heap.size))
  refine ⟨((h1.trans (hd.mono h1.size)).setCell (p := ⟨SB, k, none⟩) h2 _).drew, h2, ho.heap h3' hne, cs.setIfInBounds k (.chan (some wr.heap.size)), by simp [World.drew, World.setCell, Array.getElem?_modify, h4'], by simpa using h5, fun i hi => ?_⟩
  by_cases hik : i = k
  · subst hik
    exact ⟨wr.heap.size, by rw [Array.getElem?_setIfInBounds, if_pos rfl, if_pos (by omega)], 0, 0, ho.heap (heap_alloc_new wr _) (Nat.ne_of_gt hlt)⟩
  · obtain ⟨c, e, s, r, hc⟩ := h6 i (by omega)
    refine ⟨c, by rw [Array.getElem?_setIfInBounds, if_neg (by omega)]; exact e, s, r, ho.heap ((Only.of_below hd (fun _ => False)).heap hc (fun h => h)) ?_⟩
    rintro rfl
    rw [hc] at h4
    cases h4
theorem SlotsI.all {w wr : World} {B SB n : Nat} (h : SlotsI w B SB n n wr) : BoardE wr B n := by
  obtain ⟨_, _, h3, cs, h4, h5, h6⟩ := h
  exact ⟨SB, h3, cs, h4, h5, h6⟩
theorem brd_cell {w : World} {B : Nat} {v : Value} {t : TypeId} (h : w.heap[B]? = some (.cells #[v] t (0, 0))) : w.cell? ⟨B, 0, none⟩ = some v := by simp [World.cell?, h]
def wkErr (k : Int) : Int := if k < 1 ∨ 16 < k then 23 else 0
/-- What New answers. -/
def SchNew (w : World) (k : Int) (x : Ending) (w' : World) : Prop := Below w.heap.size w w' ∧ (wkErr k = 0 → ∃ B n, x = .returned (.tuple #[.pointer (some ⟨B, 0, none⟩), .int .i64 0]) ∧ n ≤ 16 ∧ w.heap.size ≤ B ∧ BoardE w' B n) ∧
  (wkErr k ≠ 0 → x = .returned (.tuple #[.pointer none, .int .i64 (wkErr k)]))
set_option maxRecDepth 100000 in
set_option maxHeartbeats 1000000 in
theorem schNew_ok (w : World) (k : Int) : Calls Tryz.prog 14 #[.int .i64 k] w (SchNew w k) := by
  by_cases h1 : k < 1
  · have H := Lib.hid (show wkErr k = 23 by unfold wkErr; rw [if_pos (.inl h1)])
    go_enter Tryz.func14, Tryz.ntmps14
    go_wp2_with fail
    go_ret2
    exact ⟨Below.refl _ _, fun h => absurd (H.out.symm.trans h) (by decide), fun _ => by rw [H.out]; rfl⟩
  by_cases h2 : 16 < k
  · have H := Lib.hid (show wkErr k = 23 by unfold wkErr; rw [if_pos (.inr h2)])
    go_enter Tryz.func14, Tryz.ntmps14
    go_wp2_with fail
    go_ret2
    exact ⟨Below.refl _ _, fun h => absurd (H.out.symm.trans h) (by decide), fun _ => by rw [H.out]; rfl⟩
  have H := Lib.hid (show wkErr k = 0 by unfold wkErr; rw [if_neg (by omega)])
  obtain ⟨n, rfl⟩ : ∃ n : Nat, k = (n : Int) := ⟨k.toNat, by omega⟩
  obtain ⟨i0, hi, hz0, hz1, hz2⟩ := info_parts Tryz.infoChan
  have hms : ∀ wx : World, (Instr.makeSlice 139 (.int .i64 (n : Int)) (.int .i64 (n : Int))).run Tryz.prog wx = .ok (.slice (some ⟨wx.heap.size, 0, none⟩) n n) (wx.alloc (.cells (madeCells #[.chan none] n) 142)) := fun wx => by
    have := run_make (P := Tryz.prog) wx 139 142 i0 _ (by kernel_rfl) hi hz0 .i64 .i64 (n : Int) (n : Int) (by omega) (by omega) (by rw [hz2]; omega) (by omega)
    rw [hz1] at this
    simp only [Int.toNat_natCast, Nat.mul_one] at this
    exact this
  have hb1 := new_box w (.cells (madeCells #[.chan none] n) 142)
  have k1 := heap_alloc_new w (.cells (madeCells #[.chan none] n) 142)
  have hb2 := new_box (w.alloc (.cells (madeCells #[.chan none] n) 142)) (.cells #[.slice (some ⟨w.heap.size, 0, none⟩) n n] 141)
  have k2 := heap_alloc_new (w.alloc (.cells (madeCells #[.chan none] n) 142)) (.cells #[.slice (some ⟨w.heap.size, 0, none⟩) n n] 141)
  rw [show (w.alloc (.cells (madeCells #[.chan none] n) 142)).heap.size = w.heap.size + 1 by simp] at k2
  have k1' := (Only.of_below hb2 (fun _ => False)).heap k1 (fun h => h)
  have hb := hb1.trans (hb2.mono hb1.size)
  have hn := Lib.hid (show n ≤ 16 by omega)
  clear hb1 hb2 k1 hi hz0 hz1 hz2
  go_enter Tryz.func14, Tryz.ntmps14
  go_upto_region 4 with fail
  generalize (w.alloc (.cells (madeCells #[.chan none] n) 142)).alloc (.cells #[.slice (some ⟨w.heap.size, 0, none⟩) n n] 141) = w1 at hb k2 k1' ⊢
  obtain ⟨B, hB⟩ : ∃ x, w.heap.size + 1 = x := ⟨_, rfl⟩
  rw [hB] at k2 ⊢
  obtain ⟨SB, hSB⟩ : ∃ x, w.heap.size = x := ⟨_, rfl⟩
  rw [hSB] at k2 k1' ⊢
  have HS := Lib.hid (And.intro (show SlotsI w B SB n 0 w1 from ⟨hb, by omega, k2, _, k1', by simp [madeCells], fun i hi => by omega⟩) (show w.heap.size ≤ B by omega))
  have z0 := brd_cell k2
  clear hb k2 k1' hB hSB hms
  go_wp2_with fail
  clear z0
  go_loopw [21] (fun i wr => ∃ k : Nat, k ≤ n ∧ i = .int .i64 (k : Int) ∧ SlotsI w B SB n k wr) (fun i _ => n - (intOf i).toNat)
  case atStart => exact ⟨0, Nat.zero_le _, rfl, HS.out.1⟩
  case round =>
    obtain ⟨k, hk, rfl, hR⟩ := hrel
    by_cases hlt : k < n
    · have HR := Lib.hid hR
      have hne := hR.ne
      obtain ⟨_, _, h3, cs, h4, h5, _⟩ := hR
      have hd : Below wr.heap.size wr (wr.alloc (.chan 1 #[] false 0 0 false)) := (Below.refl _ _).alloc (Nat.le_refl _) _
      have h4' := (Only.of_below hd (fun _ => False)).heap h4 (fun h => h)
      obtain ⟨cv, hcv⟩ : ∃ v, cs[k]? = some v := ⟨_, Array.getElem?_eq_getElem (by omega)⟩
      have y1 : (wr.alloc (.chan 1 #[] false 0 0 false)).cell? ⟨SB, k, none⟩ = some cv := by simp [World.cell?, h4', hcv]
      have y2 : (wr.alloc (.chan 1 #[] false 0 0 false)).frozen? ⟨SB, k, none⟩ = false := by simp [World.frozen?, h4']
      have hmc := mkChan1
      have i1 : (0 : Int) ≤ (k : Int) := by omega
      have i2 : (k : Int) < (n : Int) := by omega
      have H3 := Lib.hid (And.intro h3 hne)
      clear h3 h4 h4' h5 hcv hd hne
      go_wp2_with fail
      refine wp_region_held_drew (S := (fun w' => True ∧ w'.heap[B]? = some (.cells #[.slice (some ⟨SB, 0, none⟩) n n] 141 (0, 0)))) (by kernel_rfl) ⟨trivial, H3.out.1⟩ (fun hHeld => ?_)
      refine takeS (i := 0) (v := ?_) rfl (by kernel_rfl) (by kernel_rfl) (by kernel_rfl) (fun _ _ _ h => h) (by rfl) (fun w hSw => ?_) hHeld ?_
      rotate_left
      · obtain ⟨s0, s1⟩ := hSw; go_simp; try with_reducible rfl
      try simp only [Act.put, List.setIfInBounds_toArray, List.set_cons_zero, List.set_cons_succ]
      refine takeS (i := 1) (v := ?_) rfl (by kernel_rfl) (by kernel_rfl) (by kernel_rfl) (fun _ _ _ h => h) (by rfl) (fun w hSw => ?_) hHeld ?_
      rotate_left
      · obtain ⟨s0, s1⟩ := hSw; go_simp; try with_reducible rfl
      try simp only [Act.put, List.setIfInBounds_toArray, List.set_cons_zero, List.set_cons_succ]
      refine takeS (i := 2) (v := ?_) rfl (by kernel_rfl) (by kernel_rfl) (by kernel_rfl) (fun _ _ _ h => h) (by rfl) (fun w hSw => ?_) hHeld ?_
      rotate_left
      · obtain ⟨s0, s1⟩ := hSw; go_simp; try with_reducible rfl
      try simp only [Act.put, List.setIfInBounds_toArray, List.set_cons_zero, List.set_cons_succ]
      refine takeS (i := 3) (v := ?_) rfl (by kernel_rfl) (by kernel_rfl) (by kernel_rfl) (fun _ _ _ h => h) (by rfl) (fun w hSw => ?_) hHeld ?_
      rotate_left
      · obtain ⟨s0, s1⟩ := hSw; have s2 := brd_cell s1; go_simp; try with_reducible rfl
      try simp only [Act.put, List.setIfInBounds_toArray, List.set_cons_zero, List.set_cons_succ]
      refine takeS (i := 4) (v := ?_) rfl (by kernel_rfl) (by kernel_rfl) (by kernel_rfl) (fun _ _ _ h => h) (by rfl) (fun w hSw => ?_) hHeld ?_
      rotate_left
      · obtain ⟨s0, s1⟩ := hSw; go_simp; try with_reducible rfl
      try simp only [Act.put, List.setIfInBounds_toArray, List.set_cons_zero, List.set_cons_succ]
      refine wpAnyH_ready (rs := [5]) (by kernel_rfl) (by simp) (consS (i := 5) rfl (fun K hK => ?_) AllReadyH.nil)
      go_simp
      refine hK.out _ _ (⟨trivial, (Only.of_below (new_box _ _) (fun _ => False)).heap hHeld.2 (fun h => h)⟩) (fun hHeld2 => ?_)
      clear hK K hHeld
      have hHeld := hHeld2
      clear hHeld2
      try simp only [Act.put, List.setIfInBounds_toArray, List.set_cons_zero, List.set_cons_succ]
      refine takeS (i := 6) (v := ?_) rfl (by kernel_rfl) (by kernel_rfl) (by kernel_rfl) (fun _ _ _ h => h) (by rfl) (fun w hSw => ?_) hHeld ?_
      rotate_left
      · obtain ⟨s0, s1⟩ := hSw; go_simp; try with_reducible rfl
      try simp only [Act.put, List.setIfInBounds_toArray, List.set_cons_zero, List.set_cons_succ]
      refine wpAnyH_ready (rs := [7]) (by kernel_rfl) (by simp) (consS (i := 7) rfl (fun K hK => ?_) AllReadyH.nil)
      go_simp
      refine hK.out _ _ (⟨trivial, (Only.set1 (wr.alloc (.chan 1 #[] false 0 0 false)) SB k _).heap hHeld.2 H3.out.2⟩) (fun hHeld2 => ?_)
      clear hK K hHeld
      have hHeld := hHeld2
      clear hHeld2
      try simp only [Act.put, List.setIfInBounds_toArray, List.set_cons_zero, List.set_cons_succ]
      refine wpAnyH_done (by kernel_rfl) ?_ _
      go_wp2_with fail
      go_roundw
      case rel => exact ⟨k + 1, by omega, by go_num, HR.out.more hlt⟩
      case measure => simp [intOf]; omega
    · obtain rfl : k = n := by omega
      have HR := Lib.hid hR
      clear hR
      go_wp2_with fail
      go_ret2
      exact ⟨HR.out.1, fun _ => ⟨B, k, rfl, hn.out, HS.out.2, HR.out.all⟩, fun h => absurd H.out h⟩
end Go.Proofs.YtiacbhnkcllpjaaGreatDoor
