/- exec over a log without pieces: Step, Drive, Admitted, Outcomes, Table; copies of tables without keys. -/
import Derived.Test.YtiacbhnkcllpjaaGreatDoorExecA
namespace Go.Proofs.YtiacbhnkcllpjaaGreatDoor
set_option maxRecDepth 100000
open Go.RowKit

theorem treO_cells {w : World} {T : Nat} {a b c : Value} {t : TypeId} (h : w.heap[T]? = some (.cells #[a, b, c] t (0, 0))) : w.cell? ⟨T, 0, none⟩ = some a ∧ w.cell? ⟨T, 1, none⟩ = some b ∧ w.cell? ⟨T, 2, none⟩ = some c := by
  refine ⟨?_, ?_, ?_⟩ <;> simp [World.cell?, h]
set_option maxRecDepth 100000 in
set_option maxHeartbeats 1000000 in
theorem exStep0_ok (w : World) (R : Nat) (k : Int) (h : RepE w R) : Calls Tryz.prog 15 #[.pointer (some ⟨R, 0, none⟩), .int .i64 k] w fun e w' => e = .returned (.tuple #[.agg #[.int .i64 0, .int .i64 0, .int .i64 0], .int .i64 14]) ∧ Below w.heap.size w w' := by
  have hb := new_box w (.cells #[.int .i64 0, .int .i64 0, .int .i64 0] 37)
  have k0 := heap_alloc_new w (.cells #[.int .i64 0, .int .i64 0, .int .i64 0] 37)
  go_enter Tryz.func15, Tryz.ntmps15
  go_upto_region 1 with fail
  have h1 := h.below hb
  generalize w.alloc (.cells #[.int .i64 0, .int .i64 0, .int .i64 0] 37) = w1 at hb k0 h1 ⊢
  obtain ⟨C, hC⟩ : ∃ x, w.heap.size = x := ⟨_, rfl⟩
  rw [hC] at k0 ⊢
  have HB := Lib.hid (And.intro hb (And.intro k0 (Nat.le_of_eq hC)))
  have HA := Lib.hid (exActs0_ok w1 R h1)
  clear hb k0 hC h h1
  go_wp2_with fail
  refine HA.out.mono ?_
  rintro e w2 ⟨rfl, hb2⟩
  have HB2 := Lib.hid (And.intro (HB.out.1.trans (hb2.mono HB.out.1.size)) (And.intro ((Only.of_below hb2 (fun _ => False)).heap HB.out.2.1 (fun h => h)) HB.out.2.2))
  clear hb2 HA
  go_wp2_with fail
  refine (pick0_ok w2 k).mono ?_
  rintro e w3 ⟨rfl, hb3⟩
  have hx := new_box w3 (.cells #[.int .i64 0, .int .i64 0, .int .i64 0] 37)
  have kC := (Only.of_below (hb3.trans (hx.mono hb3.size)) (fun _ => False)).heap HB2.out.2.1 (fun h => h)
  have HB3 := Lib.hid (And.intro (HB2.out.1.trans ((hb3.trans (hx.mono hb3.size)).mono HB2.out.1.size)) (And.intro kC HB2.out.2.2))
  have z0 : (w3.alloc (.cells #[.int .i64 0, .int .i64 0, .int .i64 0] 37)).cell? ⟨C, 0, none⟩ = some (.int .i64 0) := by simp [World.cell?, kC]
  have z1 : (w3.alloc (.cells #[.int .i64 0, .int .i64 0, .int .i64 0] 37)).cell? ⟨C, 1, none⟩ = some (.int .i64 0) := by simp [World.cell?, kC]
  have z2 : (w3.alloc (.cells #[.int .i64 0, .int .i64 0, .int .i64 0] 37)).cell? ⟨C, 2, none⟩ = some (.int .i64 0) := by simp [World.cell?, kC]
  have y0 : (w3.alloc (.cells #[.int .i64 0, .int .i64 0, .int .i64 0] 37)).frozen? ⟨C, 0, none⟩ = false := by simp [World.frozen?, kC]
  have y1 : (w3.alloc (.cells #[.int .i64 0, .int .i64 0, .int .i64 0] 37)).frozen? ⟨C, 1, none⟩ = false := by simp [World.frozen?, kC]
  have y2 : (w3.alloc (.cells #[.int .i64 0, .int .i64 0, .int .i64 0] 37)).frozen? ⟨C, 2, none⟩ = false := by simp [World.frozen?, kC]
  clear hb3 hx kC
  go_wp2_with fail
  have hp := put3r (v0 := .int .i64 0) (v1 := .int .i64 0) (v2 := .int .i64 0) HB3.out.2.1
  exact bodyPost_ret (results_cell_row2 rfl _ _ _ _ _ _ _ rfl hp Tryz.underlying37 rfl (by kernel_rfl)) rfl ⟨rfl, ((HB3.out.1.setCell (p := ⟨C, 0, none⟩) HB3.out.2.2 _).setCell (p := ⟨C, 1, none⟩) HB3.out.2.2 _).setCell (p := ⟨C, 2, none⟩) HB3.out.2.2 _⟩
set_option maxRecDepth 100000 in
set_option maxHeartbeats 1000000 in
theorem exDrive0_ok (w : World) (R : Nat) (v : Value) (l : List Int) (h : RepE w R) (hp : Rd w (fun _ => True) v (l.map (Value.int .i64))) : Calls Tryz.prog 16 #[.pointer (some ⟨R, 0, none⟩), v] w fun e w' => e = .returned (.tuple #[.int .i64 0, .int .i64 0]) ∧ Below w.heap.size w w' := by
  have hp' := hp
  obtain ⟨A, n, c, rfl, hl, hnc, hcm, hx⟩ := hp'
  have hlen : l.length = n := by simpa using hl
  have HX := Lib.hid (And.intro h (And.intro hx hlen))
  clear h hp hx hl
  go_enter Tryz.func16, Tryz.ntmps16
  go_wp2_with fail
  go_step3
  go_wp2_with fail
  go_step3
  go_wp2_with fail
  go_loopw [6] (fun i wr => i = .int .i64 0 ∧ wr = w) (fun _ _ => 0)
  case atStart => exact ⟨rfl, rfl⟩
  case round =>
    obtain ⟨rfl, rfl⟩ := hrel
    by_cases h0 : 0 < n
    · obtain ⟨b, o, rfl, -, hcx⟩ := HX.out.2.1 h0
      obtain ⟨x, hx⟩ : ∃ x, l[0]? = some x := ⟨_, List.getElem?_eq_getElem (by rw [HX.out.2.2]; exact h0)⟩
      have z0 : wr.cell? ⟨b, o, none⟩ = some (.int .i64 x) := by simpa using hcx 0 (.int .i64 x) (by simp [hx])
      have i1 : (0 : Int) < (n : Int) := by omega
      have HS := Lib.hid (exStep0_ok _ R x HX.out.1)
      clear hcx hx
      go_wp2_with fail
      refine HS.out.mono ?_
      rintro e w2 ⟨rfl, hb⟩
      have HB := Lib.hid (hb.trans ((new_box w2 (.cells #[.int .i64 0, .int .i64 0, .int .i64 0] 37)).mono hb.size))
      clear hb
      go_wp2_with fail
      rw [Exit.noGoto_ret]
      go_ret2
      exact ⟨rfl, HB.out⟩
    · obtain rfl : n = 0 := by omega
      have HS := Lib.hid (exStep0_ok _ R 0 HX.out.1)
      clear h0
      go_wp2_with fail
      refine HS.out.mono ?_
      rintro e w2 ⟨rfl, hb⟩
      have HB := Lib.hid (hb.trans ((new_box w2 (.cells #[.int .i64 0, .int .i64 0, .int .i64 0] 37)).mono hb.size))
      clear hb
      go_wp2_with fail
      rw [Exit.noGoto_ret]
      go_ret2
      exact ⟨rfl, HB.out⟩
set_option maxRecDepth 100000 in
theorem exAdmitted0_ok (w : World) (R : Nat) (h : RepE w R) : Calls Tryz.prog 21 #[.pointer (some ⟨R, 0, none⟩)] w fun e w' => e = .returned (.int .i64 0) ∧ Below w.heap.size w w' := by
  obtain ⟨L, f, T, Kl, B, m1, m2, n, most, nn, h0, -⟩ := h
  obtain ⟨r0, r2, r3, r4, r6, r7⟩ := repO_cells h0
  clear h0
  go_enter Tryz.func21, Tryz.ntmps21
  go_wp2_with fail
  go_ret
  exact ⟨rfl, Below.refl _ _⟩
set_option maxRecDepth 100000 in
theorem exOutcomes0_ok (w : World) (R : Nat) (h : RepE w R) : Calls Tryz.prog 20 #[.pointer (some ⟨R, 0, none⟩)] w fun e w' => e = .returned (.slice none 0 0) ∧ Below w.heap.size w w' := by
  obtain ⟨L, f, T, Kl, B, m1, m2, n, most, nn, h0, -⟩ := h
  obtain ⟨r0, r2, r3, r4, r6, r7⟩ := repO_cells h0
  clear h0
  go_enter Tryz.func20, Tryz.ntmps20
  go_wp2_with fail
  go_loopw [3, 13] (fun v i wr => v = .slice none 0 0 ∧ i = .int .i64 0 ∧ wr = w) (fun _ _ _ => 0)
  case atStart => exact ⟨rfl, rfl, rfl⟩
  case round =>
    obtain ⟨rfl, rfl, rfl⟩ := hrel
    go_wp2_with fail
    go_ret
    exact ⟨rfl, Below.refl _ _⟩
set_option maxRecDepth 100000 in
theorem clonePairs0_ok (w : World) : Calls Tryz.prog 223 #[.slice none 0 0] w fun e w' => e = .returned (.slice none 0 0) ∧ w' = w := by
  have hnil := fun w => Lib.run_eql_slice_nil (P := Tryz.prog) w 333 340 none 0 0 0 0 Tryz.underlying333
  go_enter Tryz.func223, Tryz.ntmps223
  go_wp2_with fail
  go_ret
  exact ⟨rfl, rfl⟩
def NodeE (w : World) (N : Nat) : Prop := w.heap[N]? = some (.cells #[.slice none 0 0, .slice none 0 0] 336 (0, 0))
set_option maxRecDepth 100000 in
theorem nodeCopy0_ok (w : World) (N : Nat) (h : NodeE w N) : Calls Tryz.prog 155 #[.pointer (some ⟨N, 0, none⟩)] w fun e w' => ∃ a, e = .returned (.pointer (some a)) ∧ Below w.heap.size w w' := by
  unfold NodeE at h
  have z0 : w.cell? ⟨N, 0, none⟩ = some (.slice none 0 0) := by simp [World.cell?, h]
  have hx := new_box w (.cells #[.slice none 0 0, .slice none 0 0] 336)
  have hk := (Only.of_below hx (fun _ => False)).heap h (fun h => h)
  have z1 : (w.alloc (.cells #[.slice none 0 0, .slice none 0 0] 336)).cell? ⟨N, 1, none⟩ = some (.slice none 0 0) := by simp [World.cell?, hk]
  have HB := Lib.hid hx
  clear hx hk h
  go_enter Tryz.func155, Tryz.ntmps155
  go_wp2_with fail
  refine (clonePairs0_ok w).mono ?_
  rintro e w2 ⟨rfl, rfl⟩
  go_wp2_with fail
  go_loopw [18] (fun i wr => i = .int .i64 0 ∧ wr = w2.alloc (.cells #[.slice none 0 0, .slice none 0 0] 336)) (fun _ _ => 0)
  case atStart => exact ⟨rfl, rfl⟩
  case round =>
    obtain ⟨rfl, rfl⟩ := hrel
    go_wp2_with fail
    go_ret
    exact ⟨_, rfl, HB.out⟩
set_option maxRecDepth 100000 in
theorem treeCopy0_ok (w : World) (T : Nat) (n : Int) (h : TreeE w T n) : Calls Tryz.prog 98 #[.pointer (some ⟨T, 0, none⟩)] w fun e w' => ∃ a, e = .returned (.pointer (some a)) ∧ Below w.heap.size w w' := by
  obtain ⟨N, h1, h2⟩ := h
  have HN := Lib.hid (show NodeE w N from h2)
  have H1 := Lib.hid h1
  clear h1 h2
  go_enter Tryz.func98, Tryz.ntmps98
  go_wp2_with fail
  refine wp_region_held_drew (S := (fun w' => Below w.heap.size w w' ∧ w'.heap[T]? = some (.cells #[.int .i64 n, .int .i64 0, .pointer (some ⟨N, 0, none⟩)] 301 (0, 0)))) (by kernel_rfl) ⟨(Below.refl _ _).drew, H1.out⟩ (fun hHeld => ?_)
  refine takeS (i := 0) (v := ?_) rfl (by kernel_rfl) (by kernel_rfl) (by kernel_rfl) (fun _ _ _ h => h) (by rfl) (fun wS hSw => ?_) hHeld ?_
  rotate_left
  · obtain ⟨s0, s1⟩ := hSw; go_simp; try with_reducible rfl
  try simp only [Act.put, List.setIfInBounds_toArray, List.set_cons_zero, List.set_cons_succ]
  refine takeS (i := 1) (v := ?_) rfl (by kernel_rfl) (by kernel_rfl) (by kernel_rfl) (fun _ _ _ h => h) (by rfl) (fun wS hSw => ?_) hHeld ?_
  rotate_left
  · obtain ⟨s0, s1⟩ := hSw; go_simp; try with_reducible rfl
  try simp only [Act.put, List.setIfInBounds_toArray, List.set_cons_zero, List.set_cons_succ]
  refine takeS (i := 2) (v := ?_) rfl (by kernel_rfl) (by kernel_rfl) (by kernel_rfl) (fun _ _ _ h => h) (by rfl) (fun wS hSw => ?_) hHeld ?_
  rotate_left
  · obtain ⟨s0, s1⟩ := hSw; go_simp; try with_reducible rfl
  try simp only [Act.put, List.setIfInBounds_toArray, List.set_cons_zero, List.set_cons_succ]
  refine takeS (i := 3) (v := ?_) rfl (by kernel_rfl) (by kernel_rfl) (by kernel_rfl) (fun _ _ _ h => h) (by rfl) (fun wS hSw => ?_) hHeld ?_
  rotate_left
  · obtain ⟨s0, s1⟩ := hSw; obtain ⟨q0, q1, q2⟩ := treO_cells s1; go_simp; try with_reducible rfl
  try simp only [Act.put, List.setIfInBounds_toArray, List.set_cons_zero, List.set_cons_succ]
  refine takeS (i := 4) (v := ?_) rfl (by kernel_rfl) (by kernel_rfl) (by kernel_rfl) (fun _ _ _ h => h) (by rfl) (fun wS hSw => ?_) hHeld ?_
  rotate_left
  · obtain ⟨s0, s1⟩ := hSw; go_simp; try with_reducible rfl
  try simp only [Act.put, List.setIfInBounds_toArray, List.set_cons_zero, List.set_cons_succ]
  refine takeS (i := 5) (v := ?_) rfl (by kernel_rfl) (by kernel_rfl) (by kernel_rfl) (fun _ _ _ h => h) (by rfl) (fun wS hSw => ?_) hHeld ?_
  rotate_left
  · obtain ⟨s0, s1⟩ := hSw; go_simp; try with_reducible rfl
  try simp only [Act.put, List.setIfInBounds_toArray, List.set_cons_zero, List.set_cons_succ]
  refine takeS (i := 6) (v := ?_) rfl (by kernel_rfl) (by kernel_rfl) (by kernel_rfl) (fun _ _ _ h => h) (by rfl) (fun wS hSw => ?_) hHeld ?_
  rotate_left
  · obtain ⟨s0, s1⟩ := hSw; go_simp; try with_reducible rfl
  try simp only [Act.put, List.setIfInBounds_toArray, List.set_cons_zero, List.set_cons_succ]
  refine takeS (i := 7) (v := ?_) rfl (by kernel_rfl) (by kernel_rfl) (by kernel_rfl) (fun _ _ _ h => h) (by rfl) (fun wS hSw => ?_) hHeld ?_
  rotate_left
  · obtain ⟨s0, s1⟩ := hSw; obtain ⟨q0, q1, q2⟩ := treO_cells s1; go_simp; try with_reducible rfl
  try simp only [Act.put, List.setIfInBounds_toArray, List.set_cons_zero, List.set_cons_succ]
  refine takeS (i := 8) (v := ?_) rfl (by kernel_rfl) (by kernel_rfl) (by kernel_rfl) (fun _ _ _ h => h) (by rfl) (fun wS hSw => ?_) hHeld ?_
  rotate_left
  · obtain ⟨s0, s1⟩ := hSw; go_simp; try with_reducible rfl
  try simp only [Act.put, List.setIfInBounds_toArray, List.set_cons_zero, List.set_cons_succ]
  refine takeS (i := 9) (v := ?_) rfl (by kernel_rfl) (by kernel_rfl) (by kernel_rfl) (fun _ _ _ h => h) (by rfl) (fun wS hSw => ?_) hHeld ?_
  rotate_left
  · obtain ⟨s0, s1⟩ := hSw; go_simp; try with_reducible rfl
  try simp only [Act.put, List.setIfInBounds_toArray, List.set_cons_zero, List.set_cons_succ]
  refine takeS (i := 10) (v := ?_) rfl (by kernel_rfl) (by kernel_rfl) (by kernel_rfl) (fun _ _ _ h => h) (by rfl) (fun wS hSw => ?_) hHeld ?_
  rotate_left
  · obtain ⟨s0, s1⟩ := hSw; go_simp; try with_reducible rfl
  try simp only [Act.put, List.setIfInBounds_toArray, List.set_cons_zero, List.set_cons_succ]
  refine takeS (i := 11) (v := ?_) rfl (by kernel_rfl) (by kernel_rfl) (by kernel_rfl) (fun _ _ _ h => h) (by rfl) (fun wS hSw => ?_) hHeld ?_
  rotate_left
  · obtain ⟨s0, s1⟩ := hSw; obtain ⟨q0, q1, q2⟩ := treO_cells s1; go_simp; try with_reducible rfl
  try simp only [Act.put, List.setIfInBounds_toArray, List.set_cons_zero, List.set_cons_succ]
  refine wpAnyH_ready (rs := [12]) (by kernel_rfl) (by simp) (consS (i := 12) rfl (fun K hK => ?_) AllReadyH.nil)
  go_simp
  refine (nodeCopy0_ok _ N ((Only.of_below hHeld.1 (fun _ => False)).heap HN.out (fun h => h))).mono ?_
  rintro e wn ⟨a1, rfl, hbn⟩
  try go_simp
  refine hK.out _ _ (heldB1 hHeld hbn) (fun hHeld2 => ?_)
  clear hK K hHeld hbn
  have hHeld := hHeld2
  clear hHeld2
  try simp only [Act.put, List.setIfInBounds_toArray, List.set_cons_zero, List.set_cons_succ]
  refine takeS (i := 13) (v := ?_) rfl (by kernel_rfl) (by kernel_rfl) (by kernel_rfl) (fun _ _ _ h => h) (by rfl) (fun wS hSw => ?_) hHeld ?_
  rotate_left
  · obtain ⟨s0, s1⟩ := hSw; go_simp; try with_reducible rfl
  try simp only [Act.put, List.setIfInBounds_toArray, List.set_cons_zero, List.set_cons_succ]
  refine wpAnyH_ready (rs := [14]) (by kernel_rfl) (by simp) (consS (i := 14) rfl (fun K hK => ?_) AllReadyH.nil)
  go_simp
  refine hK.out _ _ (heldB1 hHeld (new_box _ _)) (fun hHeld2 => ?_)
  clear hK K hHeld 
  have hHeld := hHeld2
  clear hHeld2
  try simp only [Act.put, List.setIfInBounds_toArray, List.set_cons_zero, List.set_cons_succ]
  refine takeS (i := 15) (v := ?_) rfl (by kernel_rfl) (by kernel_rfl) (by kernel_rfl) (fun _ _ _ h => h) (by rfl) (fun wS hSw => ?_) hHeld ?_
  rotate_left
  · obtain ⟨s0, s1⟩ := hSw; go_simp; try with_reducible rfl
  try simp only [Act.put, List.setIfInBounds_toArray, List.set_cons_zero, List.set_cons_succ]
  refine wpAnyH_done (by kernel_rfl) ?_ _
  have HZ := Lib.hid hHeld.1
  clear hHeld
  go_wp2_with fail
  go_ret
  exact ⟨_, rfl, HZ.out⟩
theorem Tryz.idx5_0 (a0 a1 a2 a3 a4 : Nat) (W : World) : (Instr.index 215 (.agg #[.pointer (some ⟨a0, 0, none⟩), .pointer (some ⟨a1, 0, none⟩), .pointer (some ⟨a2, 0, none⟩), .pointer (some ⟨a3, 0, none⟩), .pointer (some ⟨a4, 0, none⟩)]) (.int .i64 0)).run Tryz.prog W = .ok (.pointer (some ⟨a0, 0, none⟩)) W := by kernel_rfl
theorem Tryz.idx5_1 (a0 a1 a2 a3 a4 : Nat) (W : World) : (Instr.index 215 (.agg #[.pointer (some ⟨a0, 0, none⟩), .pointer (some ⟨a1, 0, none⟩), .pointer (some ⟨a2, 0, none⟩), .pointer (some ⟨a3, 0, none⟩), .pointer (some ⟨a4, 0, none⟩)]) (.int .i64 1)).run Tryz.prog W = .ok (.pointer (some ⟨a1, 0, none⟩)) W := by kernel_rfl
theorem Tryz.idx5_2 (a0 a1 a2 a3 a4 : Nat) (W : World) : (Instr.index 215 (.agg #[.pointer (some ⟨a0, 0, none⟩), .pointer (some ⟨a1, 0, none⟩), .pointer (some ⟨a2, 0, none⟩), .pointer (some ⟨a3, 0, none⟩), .pointer (some ⟨a4, 0, none⟩)]) (.int .i64 2)).run Tryz.prog W = .ok (.pointer (some ⟨a2, 0, none⟩)) W := by kernel_rfl
theorem Tryz.idx5_3 (a0 a1 a2 a3 a4 : Nat) (W : World) : (Instr.index 215 (.agg #[.pointer (some ⟨a0, 0, none⟩), .pointer (some ⟨a1, 0, none⟩), .pointer (some ⟨a2, 0, none⟩), .pointer (some ⟨a3, 0, none⟩), .pointer (some ⟨a4, 0, none⟩)]) (.int .i64 3)).run Tryz.prog W = .ok (.pointer (some ⟨a3, 0, none⟩)) W := by kernel_rfl
theorem Tryz.idx5_4 (a0 a1 a2 a3 a4 : Nat) (W : World) : (Instr.index 215 (.agg #[.pointer (some ⟨a0, 0, none⟩), .pointer (some ⟨a1, 0, none⟩), .pointer (some ⟨a2, 0, none⟩), .pointer (some ⟨a3, 0, none⟩), .pointer (some ⟨a4, 0, none⟩)]) (.int .i64 4)).run Tryz.prog W = .ok (.pointer (some ⟨a4, 0, none⟩)) W := by kernel_rfl
/-- While a table is copied. -/
def CopI (w : World) (C : Nat) (wr : World) : Prop := Below w.heap.size w wr ∧ w.heap.size ≤ C ∧ ∃ cs : Array Value, wr.heap[C]? = some (.cells cs 217 (0, 0)) ∧ cs.size = 6
theorem CopI.below {w wr w' : World} {C : Nat} (h : CopI w C wr) (hb : Below wr.heap.size wr w') : CopI w C w' := by
  obtain ⟨h1, h2, cs, h3, h4⟩ := h
  exact ⟨h1.trans (hb.mono h1.size), h2, cs, (Only.of_below hb (fun _ => False)).heap h3 (fun h => h), h4⟩
theorem CopI.set {w wr : World} {C : Nat} (h : CopI w C wr) (j : Nat) (v : Value) : CopI w C (wr.setCell ⟨C, j, none⟩ v) := by
  obtain ⟨h1, h2, cs, h3, h4⟩ := h
  exact ⟨h1.setCell (p := ⟨C, j, none⟩) h2 _, h2, cs.setIfInBounds j v, by simp [World.setCell, Array.getElem?_modify, h3], by simpa using h4⟩
theorem CopI.drew {w wr : World} {C : Nat} (h : CopI w C wr) : CopI w C wr.drew := h.below (Below.refl _ _).drew
theorem CopI.cell {w wr : World} {C : Nat} (h : CopI w C wr) (j : Nat) (hj : j < 6) : ∃ v, wr.cell? ⟨C, j, none⟩ = some v ∧ wr.frozen? ⟨C, j, none⟩ = false := by
  obtain ⟨h1, h2, cs, h3, h4⟩ := h
  obtain ⟨v, hv⟩ : ∃ v, cs[j]? = some v := ⟨_, Array.getElem?_eq_getElem (by omega)⟩
  exact ⟨v, by simp [World.cell?, h3, hv], by simp [World.frozen?, h3]⟩
set_option maxRecDepth 100000 in
set_option maxHeartbeats 4000000 in
theorem tableCopy0_ok (w : World) (T L : Nat) (most n : Int) (h : TableE w T most n L) : Calls Tryz.prog 58 #[.pointer (some ⟨T, 0, none⟩)] w fun e w' => ∃ a, e = .returned (.pointer (some a)) ∧ Below w.heap.size w w' := by
  obtain ⟨t0, t1, t2, t3, t4, h0, ⟨_, b0⟩, ⟨_, b1⟩, ⟨_, b2⟩, ⟨_, b3⟩, ⟨_, b4⟩⟩ := h
  have z0 : w.cell? ⟨T, 0, none⟩ = some (.int .i64 most) := by simp [World.cell?, h0]
  have hx := new_box w (.cells #[.int .i64 most, .pointer none, .pointer none, .pointer none, .pointer none, .pointer none] 217)
  have kx := heap_alloc_new w (.cells #[.int .i64 most, .pointer none, .pointer none, .pointer none, .pointer none, .pointer none] 217)
  have hk := (Only.of_below hx (fun _ => False)).heap h0 (fun h => h)
  go_enter Tryz.func58, Tryz.ntmps58
  go_upto_region 4 with fail
  generalize w.alloc (.cells #[.int .i64 most, .pointer none, .pointer none, .pointer none, .pointer none, .pointer none] 217) = w1 at hx kx hk ⊢
  obtain ⟨C, hC⟩ : ∃ x, w.heap.size = x := ⟨_, rfl⟩
  rw [hC] at kx ⊢
  have HC := Lib.hid (show CopI w C w1 from ⟨hx, Nat.le_of_eq hC, _, kx, rfl⟩)
  have HT := Lib.hid (And.intro b0 (And.intro b1 (And.intro b2 (And.intro b3 b4))))
  have q1 : w1.cell? ⟨T, 1, none⟩ = some (.pointer (some ⟨t0, 0, none⟩)) := by simp [World.cell?, hk]
  have q2 : w1.cell? ⟨T, 2, none⟩ = some (.pointer (some ⟨t1, 0, none⟩)) := by simp [World.cell?, hk]
  have q3 : w1.cell? ⟨T, 3, none⟩ = some (.pointer (some ⟨t2, 0, none⟩)) := by simp [World.cell?, hk]
  have q4 : w1.cell? ⟨T, 4, none⟩ = some (.pointer (some ⟨t3, 0, none⟩)) := by simp [World.cell?, hk]
  have q5 : w1.cell? ⟨T, 5, none⟩ = some (.pointer (some ⟨t4, 0, none⟩)) := by simp [World.cell?, hk]
  clear z0 hx kx hk hC h0 b0 b1 b2 b3 b4
  go_wp2_with fail
  clear q1 q2 q3 q4 q5
  go_loopw [18] (fun i wr => ∃ k : Nat, k ≤ 5 ∧ i = .int .i64 (k : Int) ∧ CopI w C wr) (fun i _ => 5 - (intOf i).toNat)
  case atStart => exact ⟨0, by decide, rfl, HC.out⟩
  case round =>
    obtain ⟨k, hk, rfl, hR⟩ := hrel
    have HR := Lib.hid hR
    clear hR
    have hk6 : k = 0 ∨ k = 1 ∨ k = 2 ∨ k = 3 ∨ k = 4 ∨ k = 5 := by omega
    clear hk
    rcases hk6 with rfl | rfl | rfl | rfl | rfl | rfl
    · have hix := Tryz.idx5_0 t0 t1 t2 t3 t4
      go_wp2_with fail
      refine wp_region_held_drew (S := (fun w' => CopI w C w')) (by kernel_rfl) HR.out.drew (fun hHeld => ?_)
      refine takeS (i := 0) (v := ?_) rfl (by kernel_rfl) (by kernel_rfl) (by kernel_rfl) (fun _ _ _ h => h) (by rfl) (fun wS hSw => ?_) hHeld ?_
      rotate_left
      · go_simp; try with_reducible rfl
      try simp only [Act.put, List.setIfInBounds_toArray, List.set_cons_zero, List.set_cons_succ]
      refine takeS (i := 1) (v := ?_) rfl (by kernel_rfl) (by kernel_rfl) (by kernel_rfl) (fun _ _ _ h => h) (by rfl) (fun wS hSw => ?_) hHeld ?_
      rotate_left
      · go_simp; try with_reducible rfl
      try simp only [Act.put, List.setIfInBounds_toArray, List.set_cons_zero, List.set_cons_succ]
      refine takeS (i := 2) (v := ?_) rfl (by kernel_rfl) (by kernel_rfl) (by kernel_rfl) (fun _ _ _ h => h) (by rfl) (fun wS hSw => ?_) hHeld ?_
      rotate_left
      · go_simp; try with_reducible rfl
      try simp only [Act.put, List.setIfInBounds_toArray, List.set_cons_zero, List.set_cons_succ]
      refine takeS (i := 4) (v := ?_) rfl (by kernel_rfl) (by kernel_rfl) (by kernel_rfl) (fun _ _ _ h => h) (by rfl) (fun wS hSw => ?_) hHeld ?_
      rotate_left
      · go_simp; try with_reducible rfl
      try simp only [Act.put, List.setIfInBounds_toArray, List.set_cons_zero, List.set_cons_succ]
      refine takeS (i := 5) (v := ?_) rfl (by kernel_rfl) (by kernel_rfl) (by kernel_rfl) (fun _ _ _ h => h) (by rfl) (fun wS hSw => ?_) hHeld ?_
      rotate_left
      · go_simp; try with_reducible rfl
      try simp only [Act.put, List.setIfInBounds_toArray, List.set_cons_zero, List.set_cons_succ]
      refine wpAnyH_ready (rs := [3]) (by kernel_rfl) (by simp) (consS (i := 3) rfl (fun K hK => ?_) AllReadyH.nil)
      go_simp
      refine (treeCopy0_ok _ t0 n ((HT.out.1).below hHeld.1)).mono ?_
      rintro e wn ⟨a1, rfl, hbn⟩
      try go_simp
      refine hK.out _ _ (hHeld.below hbn) (fun hHeld2 => ?_)
      clear hK K hHeld hbn
      have hHeld := hHeld2
      clear hHeld2
      try simp only [Act.put, List.setIfInBounds_toArray, List.set_cons_zero, List.set_cons_succ]
      refine takeS (i := 6) (v := ?_) rfl (by kernel_rfl) (by kernel_rfl) (by kernel_rfl) (fun _ _ _ h => h) (by rfl) (fun wS hSw => ?_) hHeld ?_
      rotate_left
      · go_simp; try with_reducible rfl
      try simp only [Act.put, List.setIfInBounds_toArray, List.set_cons_zero, List.set_cons_succ]
      refine wpAnyH_ready (rs := [7]) (by kernel_rfl) (by simp) (consS (i := 7) rfl (fun K hK => ?_) AllReadyH.nil)
      obtain ⟨cv, y1, y2⟩ := hHeld.cell 1 (by decide)
      go_simp
      refine hK.out _ _ (hHeld.set 1 _) (fun hHeld2 => ?_)
      clear hK K hHeld y1 y2
      have hHeld := hHeld2
      clear hHeld2
      try simp only [Act.put, List.setIfInBounds_toArray, List.set_cons_zero, List.set_cons_succ]
      refine wpAnyH_done (by kernel_rfl) ?_ _
      have HZ := Lib.hid hHeld
      clear hHeld
      go_wp2_with fail
      go_roundw
      case rel => exact ⟨1, by decide, by go_num, HZ.out⟩
      case measure => simp [intOf]
    · have hix := Tryz.idx5_1 t0 t1 t2 t3 t4
      go_wp2_with fail
      refine wp_region_held_drew (S := (fun w' => CopI w C w')) (by kernel_rfl) HR.out.drew (fun hHeld => ?_)
      refine takeS (i := 0) (v := ?_) rfl (by kernel_rfl) (by kernel_rfl) (by kernel_rfl) (fun _ _ _ h => h) (by rfl) (fun wS hSw => ?_) hHeld ?_
      rotate_left
      · go_simp; try with_reducible rfl
      try simp only [Act.put, List.setIfInBounds_toArray, List.set_cons_zero, List.set_cons_succ]
      refine takeS (i := 1) (v := ?_) rfl (by kernel_rfl) (by kernel_rfl) (by kernel_rfl) (fun _ _ _ h => h) (by rfl) (fun wS hSw => ?_) hHeld ?_
      rotate_left
      · go_simp; try with_reducible rfl
      try simp only [Act.put, List.setIfInBounds_toArray, List.set_cons_zero, List.set_cons_succ]
      refine takeS (i := 2) (v := ?_) rfl (by kernel_rfl) (by kernel_rfl) (by kernel_rfl) (fun _ _ _ h => h) (by rfl) (fun wS hSw => ?_) hHeld ?_
      rotate_left
      · go_simp; try with_reducible rfl
      try simp only [Act.put, List.setIfInBounds_toArray, List.set_cons_zero, List.set_cons_succ]
      refine takeS (i := 4) (v := ?_) rfl (by kernel_rfl) (by kernel_rfl) (by kernel_rfl) (fun _ _ _ h => h) (by rfl) (fun wS hSw => ?_) hHeld ?_
      rotate_left
      · go_simp; try with_reducible rfl
      try simp only [Act.put, List.setIfInBounds_toArray, List.set_cons_zero, List.set_cons_succ]
      refine takeS (i := 5) (v := ?_) rfl (by kernel_rfl) (by kernel_rfl) (by kernel_rfl) (fun _ _ _ h => h) (by rfl) (fun wS hSw => ?_) hHeld ?_
      rotate_left
      · go_simp; try with_reducible rfl
      try simp only [Act.put, List.setIfInBounds_toArray, List.set_cons_zero, List.set_cons_succ]
      refine wpAnyH_ready (rs := [3]) (by kernel_rfl) (by simp) (consS (i := 3) rfl (fun K hK => ?_) AllReadyH.nil)
      go_simp
      refine (treeCopy0_ok _ t1 n ((HT.out.2.1).below hHeld.1)).mono ?_
      rintro e wn ⟨a1, rfl, hbn⟩
      try go_simp
      refine hK.out _ _ (hHeld.below hbn) (fun hHeld2 => ?_)
      clear hK K hHeld hbn
      have hHeld := hHeld2
      clear hHeld2
      try simp only [Act.put, List.setIfInBounds_toArray, List.set_cons_zero, List.set_cons_succ]
      refine takeS (i := 6) (v := ?_) rfl (by kernel_rfl) (by kernel_rfl) (by kernel_rfl) (fun _ _ _ h => h) (by rfl) (fun wS hSw => ?_) hHeld ?_
      rotate_left
      · go_simp; try with_reducible rfl
      try simp only [Act.put, List.setIfInBounds_toArray, List.set_cons_zero, List.set_cons_succ]
      refine wpAnyH_ready (rs := [7]) (by kernel_rfl) (by simp) (consS (i := 7) rfl (fun K hK => ?_) AllReadyH.nil)
      obtain ⟨cv, y1, y2⟩ := hHeld.cell 2 (by decide)
      go_simp
      refine hK.out _ _ (hHeld.set 2 _) (fun hHeld2 => ?_)
      clear hK K hHeld y1 y2
      have hHeld := hHeld2
      clear hHeld2
      try simp only [Act.put, List.setIfInBounds_toArray, List.set_cons_zero, List.set_cons_succ]
      refine wpAnyH_done (by kernel_rfl) ?_ _
      have HZ := Lib.hid hHeld
      clear hHeld
      go_wp2_with fail
      go_roundw
      case rel => exact ⟨2, by decide, by go_num, HZ.out⟩
      case measure => simp [intOf]
    · have hix := Tryz.idx5_2 t0 t1 t2 t3 t4
      go_wp2_with fail
      refine wp_region_held_drew (S := (fun w' => CopI w C w')) (by kernel_rfl) HR.out.drew (fun hHeld => ?_)
      refine takeS (i := 0) (v := ?_) rfl (by kernel_rfl) (by kernel_rfl) (by kernel_rfl) (fun _ _ _ h => h) (by rfl) (fun wS hSw => ?_) hHeld ?_
      rotate_left
      · go_simp; try with_reducible rfl
      try simp only [Act.put, List.setIfInBounds_toArray, List.set_cons_zero, List.set_cons_succ]
      refine takeS (i := 1) (v := ?_) rfl (by kernel_rfl) (by kernel_rfl) (by kernel_rfl) (fun _ _ _ h => h) (by rfl) (fun wS hSw => ?_) hHeld ?_
      rotate_left
      · go_simp; try with_reducible rfl
      try simp only [Act.put, List.setIfInBounds_toArray, List.set_cons_zero, List.set_cons_succ]
      refine takeS (i := 2) (v := ?_) rfl (by kernel_rfl) (by kernel_rfl) (by kernel_rfl) (fun _ _ _ h => h) (by rfl) (fun wS hSw => ?_) hHeld ?_
      rotate_left
      · go_simp; try with_reducible rfl
      try simp only [Act.put, List.setIfInBounds_toArray, List.set_cons_zero, List.set_cons_succ]
      refine takeS (i := 4) (v := ?_) rfl (by kernel_rfl) (by kernel_rfl) (by kernel_rfl) (fun _ _ _ h => h) (by rfl) (fun wS hSw => ?_) hHeld ?_
      rotate_left
      · go_simp; try with_reducible rfl
      try simp only [Act.put, List.setIfInBounds_toArray, List.set_cons_zero, List.set_cons_succ]
      refine takeS (i := 5) (v := ?_) rfl (by kernel_rfl) (by kernel_rfl) (by kernel_rfl) (fun _ _ _ h => h) (by rfl) (fun wS hSw => ?_) hHeld ?_
      rotate_left
      · go_simp; try with_reducible rfl
      try simp only [Act.put, List.setIfInBounds_toArray, List.set_cons_zero, List.set_cons_succ]
      refine wpAnyH_ready (rs := [3]) (by kernel_rfl) (by simp) (consS (i := 3) rfl (fun K hK => ?_) AllReadyH.nil)
      go_simp
      refine (treeCopy0_ok _ t2 n ((HT.out.2.2.1).below hHeld.1)).mono ?_
      rintro e wn ⟨a1, rfl, hbn⟩
      try go_simp
      refine hK.out _ _ (hHeld.below hbn) (fun hHeld2 => ?_)
      clear hK K hHeld hbn
      have hHeld := hHeld2
      clear hHeld2
      try simp only [Act.put, List.setIfInBounds_toArray, List.set_cons_zero, List.set_cons_succ]
      refine takeS (i := 6) (v := ?_) rfl (by kernel_rfl) (by kernel_rfl) (by kernel_rfl) (fun _ _ _ h => h) (by rfl) (fun wS hSw => ?_) hHeld ?_
      rotate_left
      · go_simp; try with_reducible rfl
      try simp only [Act.put, List.setIfInBounds_toArray, List.set_cons_zero, List.set_cons_succ]
      refine wpAnyH_ready (rs := [7]) (by kernel_rfl) (by simp) (consS (i := 7) rfl (fun K hK => ?_) AllReadyH.nil)
      obtain ⟨cv, y1, y2⟩ := hHeld.cell 3 (by decide)
      go_simp
      refine hK.out _ _ (hHeld.set 3 _) (fun hHeld2 => ?_)
      clear hK K hHeld y1 y2
      have hHeld := hHeld2
      clear hHeld2
      try simp only [Act.put, List.setIfInBounds_toArray, List.set_cons_zero, List.set_cons_succ]
      refine wpAnyH_done (by kernel_rfl) ?_ _
      have HZ := Lib.hid hHeld
      clear hHeld
      go_wp2_with fail
      go_roundw
      case rel => exact ⟨3, by decide, by go_num, HZ.out⟩
      case measure => simp [intOf]
    · have hix := Tryz.idx5_3 t0 t1 t2 t3 t4
      go_wp2_with fail
      refine wp_region_held_drew (S := (fun w' => CopI w C w')) (by kernel_rfl) HR.out.drew (fun hHeld => ?_)
      refine takeS (i := 0) (v := ?_) rfl (by kernel_rfl) (by kernel_rfl) (by kernel_rfl) (fun _ _ _ h => h) (by rfl) (fun wS hSw => ?_) hHeld ?_
      rotate_left
      · go_simp; try with_reducible rfl
      try simp only [Act.put, List.setIfInBounds_toArray, List.set_cons_zero, List.set_cons_succ]
      refine takeS (i := 1) (v := ?_) rfl (by kernel_rfl) (by kernel_rfl) (by kernel_rfl) (fun _ _ _ h => h) (by rfl) (fun wS hSw => ?_) hHeld ?_
      rotate_left
      · go_simp; try with_reducible rfl
      try simp only [Act.put, List.setIfInBounds_toArray, List.set_cons_zero, List.set_cons_succ]
      refine takeS (i := 2) (v := ?_) rfl (by kernel_rfl) (by kernel_rfl) (by kernel_rfl) (fun _ _ _ h => h) (by rfl) (fun wS hSw => ?_) hHeld ?_
      rotate_left
      · go_simp; try with_reducible rfl
      try simp only [Act.put, List.setIfInBounds_toArray, List.set_cons_zero, List.set_cons_succ]
      refine takeS (i := 4) (v := ?_) rfl (by kernel_rfl) (by kernel_rfl) (by kernel_rfl) (fun _ _ _ h => h) (by rfl) (fun wS hSw => ?_) hHeld ?_
      rotate_left
      · go_simp; try with_reducible rfl
      try simp only [Act.put, List.setIfInBounds_toArray, List.set_cons_zero, List.set_cons_succ]
      refine takeS (i := 5) (v := ?_) rfl (by kernel_rfl) (by kernel_rfl) (by kernel_rfl) (fun _ _ _ h => h) (by rfl) (fun wS hSw => ?_) hHeld ?_
      rotate_left
      · go_simp; try with_reducible rfl
      try simp only [Act.put, List.setIfInBounds_toArray, List.set_cons_zero, List.set_cons_succ]
      refine wpAnyH_ready (rs := [3]) (by kernel_rfl) (by simp) (consS (i := 3) rfl (fun K hK => ?_) AllReadyH.nil)
      go_simp
      refine (treeCopy0_ok _ t3 n ((HT.out.2.2.2.1).below hHeld.1)).mono ?_
      rintro e wn ⟨a1, rfl, hbn⟩
      try go_simp
      refine hK.out _ _ (hHeld.below hbn) (fun hHeld2 => ?_)
      clear hK K hHeld hbn
      have hHeld := hHeld2
      clear hHeld2
      try simp only [Act.put, List.setIfInBounds_toArray, List.set_cons_zero, List.set_cons_succ]
      refine takeS (i := 6) (v := ?_) rfl (by kernel_rfl) (by kernel_rfl) (by kernel_rfl) (fun _ _ _ h => h) (by rfl) (fun wS hSw => ?_) hHeld ?_
      rotate_left
      · go_simp; try with_reducible rfl
      try simp only [Act.put, List.setIfInBounds_toArray, List.set_cons_zero, List.set_cons_succ]
      refine wpAnyH_ready (rs := [7]) (by kernel_rfl) (by simp) (consS (i := 7) rfl (fun K hK => ?_) AllReadyH.nil)
      obtain ⟨cv, y1, y2⟩ := hHeld.cell 4 (by decide)
      go_simp
      refine hK.out _ _ (hHeld.set 4 _) (fun hHeld2 => ?_)
      clear hK K hHeld y1 y2
      have hHeld := hHeld2
      clear hHeld2
      try simp only [Act.put, List.setIfInBounds_toArray, List.set_cons_zero, List.set_cons_succ]
      refine wpAnyH_done (by kernel_rfl) ?_ _
      have HZ := Lib.hid hHeld
      clear hHeld
      go_wp2_with fail
      go_roundw
      case rel => exact ⟨4, by decide, by go_num, HZ.out⟩
      case measure => simp [intOf]
    · have hix := Tryz.idx5_4 t0 t1 t2 t3 t4
      go_wp2_with fail
      refine wp_region_held_drew (S := (fun w' => CopI w C w')) (by kernel_rfl) HR.out.drew (fun hHeld => ?_)
      refine takeS (i := 0) (v := ?_) rfl (by kernel_rfl) (by kernel_rfl) (by kernel_rfl) (fun _ _ _ h => h) (by rfl) (fun wS hSw => ?_) hHeld ?_
      rotate_left
      · go_simp; try with_reducible rfl
      try simp only [Act.put, List.setIfInBounds_toArray, List.set_cons_zero, List.set_cons_succ]
      refine takeS (i := 1) (v := ?_) rfl (by kernel_rfl) (by kernel_rfl) (by kernel_rfl) (fun _ _ _ h => h) (by rfl) (fun wS hSw => ?_) hHeld ?_
      rotate_left
      · go_simp; try with_reducible rfl
      try simp only [Act.put, List.setIfInBounds_toArray, List.set_cons_zero, List.set_cons_succ]
      refine takeS (i := 2) (v := ?_) rfl (by kernel_rfl) (by kernel_rfl) (by kernel_rfl) (fun _ _ _ h => h) (by rfl) (fun wS hSw => ?_) hHeld ?_
      rotate_left
      · go_simp; try with_reducible rfl
      try simp only [Act.put, List.setIfInBounds_toArray, List.set_cons_zero, List.set_cons_succ]
      refine takeS (i := 4) (v := ?_) rfl (by kernel_rfl) (by kernel_rfl) (by kernel_rfl) (fun _ _ _ h => h) (by rfl) (fun wS hSw => ?_) hHeld ?_
      rotate_left
      · go_simp; try with_reducible rfl
      try simp only [Act.put, List.setIfInBounds_toArray, List.set_cons_zero, List.set_cons_succ]
      refine takeS (i := 5) (v := ?_) rfl (by kernel_rfl) (by kernel_rfl) (by kernel_rfl) (fun _ _ _ h => h) (by rfl) (fun wS hSw => ?_) hHeld ?_
      rotate_left
      · go_simp; try with_reducible rfl
      try simp only [Act.put, List.setIfInBounds_toArray, List.set_cons_zero, List.set_cons_succ]
      refine wpAnyH_ready (rs := [3]) (by kernel_rfl) (by simp) (consS (i := 3) rfl (fun K hK => ?_) AllReadyH.nil)
      go_simp
      refine (treeCopy0_ok _ t4 n ((HT.out.2.2.2.2).below hHeld.1)).mono ?_
      rintro e wn ⟨a1, rfl, hbn⟩
      try go_simp
      refine hK.out _ _ (hHeld.below hbn) (fun hHeld2 => ?_)
      clear hK K hHeld hbn
      have hHeld := hHeld2
      clear hHeld2
      try simp only [Act.put, List.setIfInBounds_toArray, List.set_cons_zero, List.set_cons_succ]
      refine takeS (i := 6) (v := ?_) rfl (by kernel_rfl) (by kernel_rfl) (by kernel_rfl) (fun _ _ _ h => h) (by rfl) (fun wS hSw => ?_) hHeld ?_
      rotate_left
      · go_simp; try with_reducible rfl
      try simp only [Act.put, List.setIfInBounds_toArray, List.set_cons_zero, List.set_cons_succ]
      refine wpAnyH_ready (rs := [7]) (by kernel_rfl) (by simp) (consS (i := 7) rfl (fun K hK => ?_) AllReadyH.nil)
      obtain ⟨cv, y1, y2⟩ := hHeld.cell 5 (by decide)
      go_simp
      refine hK.out _ _ (hHeld.set 5 _) (fun hHeld2 => ?_)
      clear hK K hHeld y1 y2
      have hHeld := hHeld2
      clear hHeld2
      try simp only [Act.put, List.setIfInBounds_toArray, List.set_cons_zero, List.set_cons_succ]
      refine wpAnyH_done (by kernel_rfl) ?_ _
      have HZ := Lib.hid hHeld
      clear hHeld
      go_wp2_with fail
      go_roundw
      case rel => exact ⟨5, by decide, by go_num, HZ.out⟩
      case measure => simp [intOf]
    · go_wp2_with fail
      go_ret
      exact ⟨_, rfl, HR.out.1⟩
end Go.Proofs.YtiacbhnkcllpjaaGreatDoor
