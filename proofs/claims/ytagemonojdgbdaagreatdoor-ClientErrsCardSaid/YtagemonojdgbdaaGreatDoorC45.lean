import Derived.Test.YtagemonojdgbdaaGreatDoorC21
import Derived.Test.YtagemonojdgbdaaGreatDoorC42
import Derived.Test.YtagemonojdgbdaaGreatDoorC44
namespace Go.Proofs.YtagemonojdgbdaaGreatDoor
set_option maxRecDepth 100000
open Go.RowKit
section
open Go.RowKit Go.Maps Go.WideShapes
theorem predictNil_ok (w : World) (A1 A2 : Option Addr) (n1 c1 n2 c2 : Nat) (f : Int) : Calls Tryz.prog 76 #[.slice A1 n1 c1, .slice A2 n2 c2, .pointer none, .int .i64 f] w fun e w' =>
  e = .returned (.tuple #[.agg #[.int .i64 0, .int .i64 0, .slice none 0 0, .int .i64 0], .int .i64 2]) ∧ Below w.heap.size w w' := by
 have hb := new_box w (.cells #[.int .i64 0, .int .i64 0, .slice none 0 0, .int .i64 0] 89)
 have k0 := heap_alloc_new w (.cells #[.int .i64 0, .int .i64 0, .slice none 0 0, .int .i64 0] 89)
 go_enter Tryz.func76, Tryz.ntmps76
 go_upto_region 1 with fail
 generalize w.alloc (.cells #[.int .i64 0, .int .i64 0, .slice none 0 0, .int .i64 0] 89) = w1 at hb k0 ⊢
 obtain ⟨C, hC⟩ : ∃ x, w.heap.size = x := ⟨_, rfl⟩
 rw [hC] at k0 ⊢
 have HB := Lib.hid (And.intro hb (And.intro k0 (show w.heap.size ≤ C from Nat.le_of_eq hC)))
 clear hb hC
 have y0 : w1.frozen? ⟨C, 0, none⟩ = false := by simp [World.frozen?, k0]
 have y1 : w1.frozen? ⟨C, 1, none⟩ = false := by simp [World.frozen?, k0]
 have y2 : w1.frozen? ⟨C, 2, none⟩ = false := by simp [World.frozen?, k0]
 have y3 : w1.frozen? ⟨C, 3, none⟩ = false := by simp [World.frozen?, k0]
 have z0 : w1.cell? ⟨C, 0, none⟩ = some (.int .i64 0) := by simp [World.cell?, k0]
 have z1 : w1.cell? ⟨C, 1, none⟩ = some (.int .i64 0) := by simp [World.cell?, k0]
 have z2 : w1.cell? ⟨C, 2, none⟩ = some (.slice none 0 0) := by simp [World.cell?, k0]
 have z3 : w1.cell? ⟨C, 3, none⟩ = some (.int .i64 0) := by simp [World.cell?, k0]
 clear k0
 go_wp2_with fail
 have hp := put4s (v0 := .int .i64 0) (v1 := .int .i64 0) (v2 := .slice none 0 0) (v3 := .int .i64 0) HB.out.2.1
 exact bodyPost_ret (results_cell_row2 rfl _ _ _ _ _ _ _ rfl hp Tryz.underlying89 rfl (by kernel_rfl)) rfl ⟨rfl, (((HB.out.1.setCell (p := ⟨C, 0, none⟩) HB.out.2.2 _).setCell (p := ⟨C, 1, none⟩) HB.out.2.2 _).setCell (p := ⟨C, 2, none⟩) HB.out.2.2 _).setCell (p := ⟨C, 3, none⟩) HB.out.2.2 _⟩
def planZ : Value := .agg #[.int .i64 0, .slice none 0 0, .slice none 0 0, .slice none 0 0, .int .i64 0, .int .i64 0, .slice none 0 0, .int .i64 0]
set_option maxHeartbeats 4000000 in
theorem makeNil_ok (w : World) (A1 A2 : Option Addr) (n1 c1 n2 c2 : Nat) (id f : Int) : Calls Tryz.prog 46 #[.int .i64 id, .slice A1 n1 c1, .slice A2 n2 c2, .pointer none, .int .i64 f] w fun e w' =>
  e = .returned (.tuple #[planZ, .int .i64 2]) ∧ Below w.heap.size w w' := by
 have hb := new_box w (.cells #[.int .i64 0, .slice none 0 0, .slice none 0 0, .slice none 0 0, .int .i64 0, .int .i64 0, .slice none 0 0, .int .i64 0] 131)
 have k0 := heap_alloc_new w (.cells #[.int .i64 0, .slice none 0 0, .slice none 0 0, .slice none 0 0, .int .i64 0, .int .i64 0, .slice none 0 0, .int .i64 0] 131)
 go_enter Tryz.func46, Tryz.ntmps46
 go_upto_region 1 with fail
 generalize w.alloc (.cells #[.int .i64 0, .slice none 0 0, .slice none 0 0, .slice none 0 0, .int .i64 0, .int .i64 0, .slice none 0 0, .int .i64 0] 131) = w1 at hb k0 ⊢
 obtain ⟨C, hC⟩ : ∃ x, w.heap.size = x := ⟨_, rfl⟩
 rw [hC] at k0 ⊢
 have HB := Lib.hid (And.intro hb (And.intro k0 (show w.heap.size ≤ C from Nat.le_of_eq hC)))
 clear hb hC k0
 have HP := Lib.hid (predictNil_ok w1 A1 A2 n1 c1 n2 c2 f)
 go_wp2_with fail
 refine HP.out.mono ?_
 rintro e w2 ⟨rfl, hb2⟩
 have hbx := new_box w2 (.cells #[.int .i64 0, .int .i64 0, .slice none 0 0, .int .i64 0] 89)
 have H2 := Lib.hid (hb2.trans (hbx.mono hb2.size))
 have k2 := (Only.of_below H2.out (fun _ => False)).heap HB.out.2.1 (fun h => h)
 clear hb2 hbx HP
 have y0 : (w2.alloc (.cells #[.int .i64 0, .int .i64 0, .slice none 0 0, .int .i64 0] 89)).frozen? ⟨C, 0, none⟩ = false := by simp [World.frozen?, k2]
 have y1 : (w2.alloc (.cells #[.int .i64 0, .int .i64 0, .slice none 0 0, .int .i64 0] 89)).frozen? ⟨C, 1, none⟩ = false := by simp [World.frozen?, k2]
 have y2 : (w2.alloc (.cells #[.int .i64 0, .int .i64 0, .slice none 0 0, .int .i64 0] 89)).frozen? ⟨C, 2, none⟩ = false := by simp [World.frozen?, k2]
 have y3 : (w2.alloc (.cells #[.int .i64 0, .int .i64 0, .slice none 0 0, .int .i64 0] 89)).frozen? ⟨C, 3, none⟩ = false := by simp [World.frozen?, k2]
 have y4 : (w2.alloc (.cells #[.int .i64 0, .int .i64 0, .slice none 0 0, .int .i64 0] 89)).frozen? ⟨C, 4, none⟩ = false := by simp [World.frozen?, k2]
 have y5 : (w2.alloc (.cells #[.int .i64 0, .int .i64 0, .slice none 0 0, .int .i64 0] 89)).frozen? ⟨C, 5, none⟩ = false := by simp [World.frozen?, k2]
 have y6 : (w2.alloc (.cells #[.int .i64 0, .int .i64 0, .slice none 0 0, .int .i64 0] 89)).frozen? ⟨C, 6, none⟩ = false := by simp [World.frozen?, k2]
 have y7 : (w2.alloc (.cells #[.int .i64 0, .int .i64 0, .slice none 0 0, .int .i64 0] 89)).frozen? ⟨C, 7, none⟩ = false := by simp [World.frozen?, k2]
 have z0 : (w2.alloc (.cells #[.int .i64 0, .int .i64 0, .slice none 0 0, .int .i64 0] 89)).cell? ⟨C, 0, none⟩ = some ((.int .i64 0)) := by simp [World.cell?, k2]
 have z1 : (w2.alloc (.cells #[.int .i64 0, .int .i64 0, .slice none 0 0, .int .i64 0] 89)).cell? ⟨C, 1, none⟩ = some ((.slice none 0 0)) := by simp [World.cell?, k2]
 have z2 : (w2.alloc (.cells #[.int .i64 0, .int .i64 0, .slice none 0 0, .int .i64 0] 89)).cell? ⟨C, 2, none⟩ = some ((.slice none 0 0)) := by simp [World.cell?, k2]
 have z3 : (w2.alloc (.cells #[.int .i64 0, .int .i64 0, .slice none 0 0, .int .i64 0] 89)).cell? ⟨C, 3, none⟩ = some ((.slice none 0 0)) := by simp [World.cell?, k2]
 have z4 : (w2.alloc (.cells #[.int .i64 0, .int .i64 0, .slice none 0 0, .int .i64 0] 89)).cell? ⟨C, 4, none⟩ = some ((.int .i64 0)) := by simp [World.cell?, k2]
 have z5 : (w2.alloc (.cells #[.int .i64 0, .int .i64 0, .slice none 0 0, .int .i64 0] 89)).cell? ⟨C, 5, none⟩ = some ((.int .i64 0)) := by simp [World.cell?, k2]
 have z6 : (w2.alloc (.cells #[.int .i64 0, .int .i64 0, .slice none 0 0, .int .i64 0] 89)).cell? ⟨C, 6, none⟩ = some ((.slice none 0 0)) := by simp [World.cell?, k2]
 have z7 : (w2.alloc (.cells #[.int .i64 0, .int .i64 0, .slice none 0 0, .int .i64 0] 89)).cell? ⟨C, 7, none⟩ = some ((.int .i64 0)) := by simp [World.cell?, k2]
 have K2 := Lib.hid k2
 clear k2
 go_wp2_with fail
 have hp := put8c (v0 := .int .i64 0) (v1 := .slice none 0 0) (v2 := .slice none 0 0) (v3 := .slice none 0 0) (v4 := .int .i64 0) (v5 := .int .i64 0) (v6 := .slice none 0 0) (v7 := .int .i64 0) K2.out
 have hle := HB.out.2.2
 have hb := HB.out.1.trans (H2.out.mono HB.out.1.size)
 exact bodyPost_ret (results_cell_row2 rfl _ _ _ _ _ _ _ rfl hp Tryz.underlying131 rfl (by kernel_rfl)) rfl ⟨rfl, (((((((hb.setCell (p := ⟨C, 0, none⟩) hle _).setCell (p := ⟨C, 1, none⟩) hle _).setCell (p := ⟨C, 2, none⟩) hle _).setCell (p := ⟨C, 3, none⟩) hle _).setCell (p := ⟨C, 4, none⟩) hle _).setCell (p := ⟨C, 5, none⟩) hle _).setCell (p := ⟨C, 6, none⟩) hle _).setCell (p := ⟨C, 7, none⟩) hle _⟩
set_option maxHeartbeats 4000000 in
theorem cliTryNil_ok (w : World) (R L : Nat) (f tr : Int) (m A Q : Nat) (A1 A2 : Option Addr) (n1 c1 n2 c2 : Nat) (pl : Value) (k v : Int) (h : CliQ w R L f tr m A Q (.slice A1 n1 c1) (.slice A2 n2 c2) 1 pl k v) :
  Calls Tryz.prog 19 #[.pointer (some ⟨R, 0, none⟩), .int .i64 0, .pointer none] w fun e w' => e = .returned (.tuple #[.int .i64 0, .int .i64 2]) ∧ Below w.heap.size w w' := by
 have H := Lib.hid h
 clear h
 go_enter Tryz.func19, Tryz.ntmps19
 go_wp2_with fail
 refine (find1c_ok w R L f tr m A Q _ _ 1 pl k v H.out).mono ?_
 rintro e w1 ⟨rfl, rfl⟩
 obtain ⟨⟨c, g1⟩, g2, g3⟩ := H.out
 obtain ⟨⟨r0, r1, r2, r3, r4⟩, -⟩ := cliO_cells g1
 obtain ⟨⟨q0, q1, q2, q3, q4, q5⟩, -⟩ := reqO_cells g3
 have HZ := Lib.hid (And.intro q0 (And.intro q1 r1))
 clear g1 g2 g3 r0 r1 r2 r3 r4 q0 q1 q3 q4 q5
 go_wp2_with fail
 refine wp_region_held_drew (S := (fun w' => Below w.heap.size w w')) (by kernel_rfl) ((Below.refl _ _).drew) (fun hHeld => ?_)
 refine goLS [0, 1, 2, 3] ?_
 iterate 4 (refine tlS (v := ?_) (fun wS hSw => ?_) hHeld ?_; rotate_left; (go_simp; try with_reducible rfl); try simp only [pS1, pS2, pS3, pS4])
 refine goES ?_
 refine tkS 4 (v := ?_) (fun wS hSw => ?_) hHeld ?_
 rotate_left
 ·have c0 := (hSw.cell (World.block_lt_of_cell? _ _ HZ.out.1)).trans HZ.out.1; go_simp; try with_reducible rfl
 try simp only [pS1, pS2, pS3, pS4]
 refine goLS [5, 6, 7] ?_
 iterate 3 (refine tlS (v := ?_) (fun wS hSw => ?_) hHeld ?_; rotate_left; (go_simp; try with_reducible rfl); try simp only [pS1, pS2, pS3, pS4])
 refine goES ?_
 refine tkS 8 (v := ?_) (fun wS hSw => ?_) hHeld ?_
 rotate_left
 ·have c0 := (hSw.cell (World.block_lt_of_cell? _ _ HZ.out.2.1)).trans HZ.out.2.1; go_simp; try with_reducible rfl
 try simp only [pS1, pS2, pS3, pS4]
 refine goLS [9, 10, 11, 12] ?_
 iterate 4 (refine tlS (v := ?_) (fun wS hSw => ?_) hHeld ?_; rotate_left; (go_simp; try with_reducible rfl); try simp only [pS1, pS2, pS3, pS4])
 refine goES ?_
 refine tkS 13 (v := ?_) (fun wS hSw => ?_) hHeld ?_
 rotate_left
 ·have c0 := (hSw.cell (World.block_lt_of_cell? _ _ HZ.out.2.2)).trans HZ.out.2.2; go_simp; try with_reducible rfl
 try simp only [pS1, pS2, pS3, pS4]
 refine wpAnyH_ready (rs := [14, 18]) (by kernel_rfl) (by simp) (consS (i := 14) rfl (fun K hK => ?_) (consS (i := 18) rfl (fun K hK => ?_) AllReadyH.nil))
 ·skip
  go_simp
  refine (makeNil_ok _ _ _ _ _ _ _ _ _).mono ?_
  rintro e wn ⟨rfl, hbn⟩
  simp only [planZ]
  have HW := Lib.hid (Nat.le_trans hHeld.size hbn.size)
  try go_simp
  refine hK.out _ _ (hHeld.trans (hbn.mono hHeld.size)) (fun hHeld2 => ?_)
  clear hK K hHeld hbn
  have hHeld := hHeld2
  clear hHeld2
  try simp only [pS1, pS2, pS3, pS4]
  refine goLS [15, 16, 17] ?_
  iterate 3 (refine tlS (v := ?_) (fun wS hSw => ?_) hHeld ?_; rotate_left; (go_simp; try with_reducible rfl); try simp only [pS1, pS2, pS3, pS4])
  refine goES ?_
  refine ckS 18 (fun K hK => ?_)
  go_simp
  refine hK.out _ _ (hHeld.trans ((new_box _ _).mono hHeld.size)) (fun hHeld2 => ?_)
  clear hK K hHeld 
  have hHeld := hHeld2
  clear hHeld2
  try simp only [pS1, pS2, pS3, pS4]
  have kp : (wn.alloc (.cells #[.int .i64 0, .slice none 0 0, .slice none 0 0, .slice none 0 0, .int .i64 0, .int .i64 0, .slice none 0 0, .int .i64 0] 131)).heap[wn.heap.size]? = _ := heap_alloc_new wn (.cells #[.int .i64 0, .slice none 0 0, .slice none 0 0, .slice none 0 0, .int .i64 0, .int .i64 0, .slice none 0 0, .int .i64 0] 131)
  obtain ⟨P, hP⟩ : ∃ x, x = wn.heap.size := ⟨_, rfl⟩
  have hP2 := Lib.hid (show w.heap.size ≤ P by have := HW.out; omega)
  rw [← hP] at kp
  rw [show (⟨wn.heap.size, 0, none⟩ : Addr) = ⟨P, 0, none⟩ by rw [hP]]
  generalize wn.alloc (.cells #[.int .i64 0, .slice none 0 0, .slice none 0 0, .slice none 0 0, .int .i64 0, .int .i64 0, .slice none 0 0, .int .i64 0] 131) = wn at kp hHeld ⊢
  have KP := Lib.hid kp
  clear kp hP
  refine ckS 19 (fun K hK => ?_)
  have kP := KP.out
  have y0 : wn.frozen? ⟨P, 0, none⟩ = false := by simp [World.frozen?, kP]
  have y1 : wn.frozen? ⟨P, 1, none⟩ = false := by simp [World.frozen?, kP]
  have y2 : wn.frozen? ⟨P, 2, none⟩ = false := by simp [World.frozen?, kP]
  have y3 : wn.frozen? ⟨P, 3, none⟩ = false := by simp [World.frozen?, kP]
  have y4 : wn.frozen? ⟨P, 4, none⟩ = false := by simp [World.frozen?, kP]
  have y5 : wn.frozen? ⟨P, 5, none⟩ = false := by simp [World.frozen?, kP]
  have y6 : wn.frozen? ⟨P, 6, none⟩ = false := by simp [World.frozen?, kP]
  have y7 : wn.frozen? ⟨P, 7, none⟩ = false := by simp [World.frozen?, kP]
  have x0 : wn.cell? ⟨P, 0, none⟩ = some ((.int .i64 0)) := by simp [World.cell?, kP]
  have x1 : wn.cell? ⟨P, 1, none⟩ = some ((.slice none 0 0)) := by simp [World.cell?, kP]
  have x2 : wn.cell? ⟨P, 2, none⟩ = some ((.slice none 0 0)) := by simp [World.cell?, kP]
  have x3 : wn.cell? ⟨P, 3, none⟩ = some ((.slice none 0 0)) := by simp [World.cell?, kP]
  have x4 : wn.cell? ⟨P, 4, none⟩ = some ((.int .i64 0)) := by simp [World.cell?, kP]
  have x5 : wn.cell? ⟨P, 5, none⟩ = some ((.int .i64 0)) := by simp [World.cell?, kP]
  have x6 : wn.cell? ⟨P, 6, none⟩ = some ((.slice none 0 0)) := by simp [World.cell?, kP]
  have x7 : wn.cell? ⟨P, 7, none⟩ = some ((.int .i64 0)) := by simp [World.cell?, kP]
  have hP3 := hP2.out
  go_simp
  refine hK.out _ _ (((((((((hHeld.setCell (p := ⟨P, 0, none⟩) hP3 _).setCell (p := ⟨P, 1, none⟩) hP3 _).setCell (p := ⟨P, 2, none⟩) hP3 _).setCell (p := ⟨P, 3, none⟩) hP3 _).setCell (p := ⟨P, 4, none⟩) hP3 _).setCell (p := ⟨P, 5, none⟩) hP3 _).setCell (p := ⟨P, 6, none⟩) hP3 _).setCell (p := ⟨P, 7, none⟩) hP3 _)) (fun hHeld2 => ?_)
  clear hK K hHeld y0 x0 y1 x1 y2 x2 y3 x3 y4 x4 y5 x5 y6 x6 y7 x7 kP hP3
  have hHeld := hHeld2
  clear hHeld2
  try simp only [pS1, pS2, pS3, pS4]
  have kp := put8c (v0 := .int .i64 0) (v1 := .slice none 0 0) (v2 := .slice none 0 0) (v3 := .slice none 0 0) (v4 := .int .i64 0) (v5 := .int .i64 0) (v6 := .slice none 0 0) (v7 := .int .i64 0) KP.out
  generalize ((((((((wn.setCell ⟨P, 0, none⟩ (.int .i64 0)).setCell ⟨P, 1, none⟩ (.slice none 0 0)).setCell ⟨P, 2, none⟩ (.slice none 0 0)).setCell ⟨P, 3, none⟩ (.slice none 0 0)).setCell ⟨P, 4, none⟩ (.int .i64 0)).setCell ⟨P, 5, none⟩ (.int .i64 0)).setCell ⟨P, 6, none⟩ (.slice none 0 0)).setCell ⟨P, 7, none⟩ (.int .i64 0)) = wz at kp hHeld ⊢
  have KP := Lib.hid kp
  clear kp
  refine tkS 20 (v := ?_) (fun wS hSw => ?_) hHeld ?_
  rotate_left
  ·go_simp; try with_reducible rfl
  try simp only [pS1, pS2, pS3, pS4]
  refine wpAnyH_done (by kernel_rfl) ?_ _
  go_wp2_with fail
  go_ret2
  exact ⟨rfl, hHeld⟩
 ·skip
  go_simp
  refine hK.out _ _ (hHeld.trans ((new_box _ _).mono hHeld.size)) (fun hHeld2 => ?_)
  clear hK K hHeld 
  have hHeld := hHeld2
  clear hHeld2
  try simp only [pS1, pS2, pS3, pS4]
  have kp : ((w.alloc (.cells #[.int .i64 0, .slice none 0 0, .slice none 0 0, .slice none 0 0, .int .i64 0, .int .i64 0, .slice none 0 0, .int .i64 0] 131)).drew).heap[w.heap.size]? = _ := heap_alloc_new w (.cells #[.int .i64 0, .slice none 0 0, .slice none 0 0, .slice none 0 0, .int .i64 0, .int .i64 0, .slice none 0 0, .int .i64 0] 131)
  obtain ⟨P, hP⟩ : ∃ x, x = w.heap.size := ⟨_, rfl⟩
  have hP2 := Lib.hid (show w.heap.size ≤ P by omega)
  rw [← hP] at kp
  rw [show (⟨w.heap.size, 0, none⟩ : Addr) = ⟨P, 0, none⟩ by rw [hP]]
  generalize (w.alloc (.cells #[.int .i64 0, .slice none 0 0, .slice none 0 0, .slice none 0 0, .int .i64 0, .int .i64 0, .slice none 0 0, .int .i64 0] 131)).drew = wn at kp hHeld ⊢
  have KP := Lib.hid kp
  clear kp hP
  refine ckS 14 (fun K hK => ?_)
  go_simp
  refine (makeNil_ok _ _ _ _ _ _ _ _ _).mono ?_
  rintro e wn ⟨rfl, hbn⟩
  simp only [planZ]
  have HW := Lib.hid (Nat.le_trans hHeld.size hbn.size)
  have KP := Lib.hid ((Only.of_below hbn (fun _ => False)).heap KP.out (fun h => h))
  try go_simp
  refine hK.out _ _ (hHeld.trans (hbn.mono hHeld.size)) (fun hHeld2 => ?_)
  clear hK K hHeld hbn
  have hHeld := hHeld2
  clear hHeld2
  try simp only [pS1, pS2, pS3, pS4]
  refine goLS [15, 16, 17] ?_
  iterate 3 (refine tlS (v := ?_) (fun wS hSw => ?_) hHeld ?_; rotate_left; (go_simp; try with_reducible rfl); try simp only [pS1, pS2, pS3, pS4])
  refine goES ?_
  refine ckS 19 (fun K hK => ?_)
  have kP := KP.out
  have y0 : wn.frozen? ⟨P, 0, none⟩ = false := by simp [World.frozen?, kP]
  have y1 : wn.frozen? ⟨P, 1, none⟩ = false := by simp [World.frozen?, kP]
  have y2 : wn.frozen? ⟨P, 2, none⟩ = false := by simp [World.frozen?, kP]
  have y3 : wn.frozen? ⟨P, 3, none⟩ = false := by simp [World.frozen?, kP]
  have y4 : wn.frozen? ⟨P, 4, none⟩ = false := by simp [World.frozen?, kP]
  have y5 : wn.frozen? ⟨P, 5, none⟩ = false := by simp [World.frozen?, kP]
  have y6 : wn.frozen? ⟨P, 6, none⟩ = false := by simp [World.frozen?, kP]
  have y7 : wn.frozen? ⟨P, 7, none⟩ = false := by simp [World.frozen?, kP]
  have x0 : wn.cell? ⟨P, 0, none⟩ = some ((.int .i64 0)) := by simp [World.cell?, kP]
  have x1 : wn.cell? ⟨P, 1, none⟩ = some ((.slice none 0 0)) := by simp [World.cell?, kP]
  have x2 : wn.cell? ⟨P, 2, none⟩ = some ((.slice none 0 0)) := by simp [World.cell?, kP]
  have x3 : wn.cell? ⟨P, 3, none⟩ = some ((.slice none 0 0)) := by simp [World.cell?, kP]
  have x4 : wn.cell? ⟨P, 4, none⟩ = some ((.int .i64 0)) := by simp [World.cell?, kP]
  have x5 : wn.cell? ⟨P, 5, none⟩ = some ((.int .i64 0)) := by simp [World.cell?, kP]
  have x6 : wn.cell? ⟨P, 6, none⟩ = some ((.slice none 0 0)) := by simp [World.cell?, kP]
  have x7 : wn.cell? ⟨P, 7, none⟩ = some ((.int .i64 0)) := by simp [World.cell?, kP]
  have hP3 := hP2.out
  go_simp
  refine hK.out _ _ (((((((((hHeld.setCell (p := ⟨P, 0, none⟩) hP3 _).setCell (p := ⟨P, 1, none⟩) hP3 _).setCell (p := ⟨P, 2, none⟩) hP3 _).setCell (p := ⟨P, 3, none⟩) hP3 _).setCell (p := ⟨P, 4, none⟩) hP3 _).setCell (p := ⟨P, 5, none⟩) hP3 _).setCell (p := ⟨P, 6, none⟩) hP3 _).setCell (p := ⟨P, 7, none⟩) hP3 _)) (fun hHeld2 => ?_)
  clear hK K hHeld y0 x0 y1 x1 y2 x2 y3 x3 y4 x4 y5 x5 y6 x6 y7 x7 kP hP3
  have hHeld := hHeld2
  clear hHeld2
  try simp only [pS1, pS2, pS3, pS4]
  have kp := put8c (v0 := .int .i64 0) (v1 := .slice none 0 0) (v2 := .slice none 0 0) (v3 := .slice none 0 0) (v4 := .int .i64 0) (v5 := .int .i64 0) (v6 := .slice none 0 0) (v7 := .int .i64 0) KP.out
  generalize ((((((((wn.setCell ⟨P, 0, none⟩ (.int .i64 0)).setCell ⟨P, 1, none⟩ (.slice none 0 0)).setCell ⟨P, 2, none⟩ (.slice none 0 0)).setCell ⟨P, 3, none⟩ (.slice none 0 0)).setCell ⟨P, 4, none⟩ (.int .i64 0)).setCell ⟨P, 5, none⟩ (.int .i64 0)).setCell ⟨P, 6, none⟩ (.slice none 0 0)).setCell ⟨P, 7, none⟩ (.int .i64 0)) = wz at kp hHeld ⊢
  have KP := Lib.hid kp
  clear kp
  refine tkS 20 (v := ?_) (fun wS hSw => ?_) hHeld ?_
  rotate_left
  ·go_simp; try with_reducible rfl
  try simp only [pS1, pS2, pS3, pS4]
  refine wpAnyH_done (by kernel_rfl) ?_ _
  go_wp2_with fail
  go_ret2
  exact ⟨rfl, hHeld⟩
end
section
open Go.RowKit Go.Maps Go.WideShapes
theorem inside_nil_len : (sealB (inside ⟨0, [], [], []⟩)).length ≤ 8192 := by
 have h1 := encU_len [0, 0]
 have h2 := encU_len [0]
 simp only [seal_len, inside, List.flatMap_nil, List.length_append, List.length_nil, encI]
 simp at h1 h2 ⊢
 omega
def CliApart (FL : Nat → Prop) (R m A Q : Nat) : Prop := ¬ FL R ∧ ¬ FL m ∧ ¬ FL A ∧ ¬ FL Q ∧ m ≠ R ∧ m ≠ A ∧ m ≠ Q ∧ R ≠ Q ∧ A ≠ Q ∧ A ≠ R
def Try1P (FL : Nat → Prop) (R L : Nat) (tr : Int) (m A Q : Nat) (vo va : Value) (k v : Int) (w : World) (e : Ending) (w' : World) : Prop :=
 e = .returned (.tuple #[.int .i64 0, .int .i64 0]) ∧ ∃ g c, CliQ w' R L 100 tr m A Q vo va 2 (.slice (some ⟨g, 0, none⟩) 1 c) k v ∧ w'.cell? ⟨g, 0, none⟩ = some (.int .i64 0) ∧ w.heap.size ≤ g ∧
  MapAt Tryz.prog w' 3 m 1 (updM (fun _ => none) (.int .i64 0) (some (.int .i64 0))) ∧ Only (fun b => FL b ∨ b = m ∨ b = Q) w w'
set_option maxHeartbeats 8000000 in
theorem cliTry1_ok (w : World) (FL F G : Nat → Prop) (R L : Nat) (tr : Int) (m A Q T : Nat) (A1 A2 : Option Addr) (c1 c2 : Nat) (k v : Int) (h : CliQ w R L 100 tr m A Q (.slice A1 0 c1) (.slice A2 0 c2) 1 (.slice none 0 0) k v)
  (ho : OpRd w F (.slice A1 0 c1) []) (ha : Rd w G (.slice A2 0 c2) []) (hm : MapAt Tryz.prog w 3 m 0 (fun _ => none)) (hL : LogAt w FL L []) (hs : ShTab w) (hn : NibTab w) (hap : CliApart FL R m A Q) :
  Calls Tryz.prog 19 #[.pointer (some ⟨R, 0, none⟩), .int .i64 0, .pointer (some ⟨T, 0, none⟩)] w (Try1P FL R L tr m A Q (.slice A1 0 c1) (.slice A2 0 c2) k v w) := by
 obtain ⟨i0, hi, hz0, hz1, hz2⟩ := info_parts Tryz.infoI
 have HHI := Lib.hid (And.intro hi (And.intro hz0 (And.intro hz1 hz2)))
 clear hi hz0 hz1 hz2
 have H := Lib.hid h
 have HN := Lib.hid (And.intro ho (And.intro ha (And.intro hm (And.intro hL (And.intro hs (And.intro hn hap))))))
 clear h ho ha hm hL hs hn hap
 go_enter Tryz.func19, Tryz.ntmps19
 go_wp2_with fail
 refine (find1c_ok w R L 100 tr m A Q _ _ 1 _ k v H.out).mono ?_
 rintro e w1 ⟨rfl, rfl⟩
 obtain ⟨⟨c, g1⟩, g2, g3⟩ := H.out
 obtain ⟨⟨r0, r1, r2, r3, r4⟩, -⟩ := cliO_cells g1
 obtain ⟨⟨q0, q1, q2, q3, q4, q5⟩, -⟩ := reqO_cells g3
 have HZ := Lib.hid (And.intro q0 (And.intro q1 r1))
 clear g1 g2 g3 r0 r1 r2 r3 r4 q0 q1 q3 q4 q5
 go_wp2_with fail
 refine wp_region_held_drew (S := (fun w' => Below w.heap.size w w')) (by kernel_rfl) ((Below.refl _ _).drew) (fun hHeld => ?_)
 refine goLS [0, 1, 2, 3] ?_
 iterate 4 (refine tlS (v := ?_) (fun wS hSw => ?_) hHeld ?_; rotate_left; (go_simp; try with_reducible rfl); try simp only [pS1, pS2, pS3, pS4])
 refine goES ?_
 refine tkS 4 (v := ?_) (fun wS hSw => ?_) hHeld ?_
 rotate_left
 ·have c0 := (hSw.cell (World.block_lt_of_cell? _ _ HZ.out.1)).trans HZ.out.1; go_simp; try with_reducible rfl
 try simp only [pS1, pS2, pS3, pS4]
 refine goLS [5, 6, 7] ?_
 iterate 3 (refine tlS (v := ?_) (fun wS hSw => ?_) hHeld ?_; rotate_left; (go_simp; try with_reducible rfl); try simp only [pS1, pS2, pS3, pS4])
 refine goES ?_
 refine tkS 8 (v := ?_) (fun wS hSw => ?_) hHeld ?_
 rotate_left
 ·have c0 := (hSw.cell (World.block_lt_of_cell? _ _ HZ.out.2.1)).trans HZ.out.2.1; go_simp; try with_reducible rfl
 try simp only [pS1, pS2, pS3, pS4]
 refine goLS [9, 10, 11, 12] ?_
 iterate 4 (refine tlS (v := ?_) (fun wS hSw => ?_) hHeld ?_; rotate_left; (go_simp; try with_reducible rfl); try simp only [pS1, pS2, pS3, pS4])
 refine goES ?_
 refine tkS 13 (v := ?_) (fun wS hSw => ?_) hHeld ?_
 rotate_left
 ·have c0 := (hSw.cell (World.block_lt_of_cell? _ _ HZ.out.2.2)).trans HZ.out.2.2; go_simp; try with_reducible rfl
 try simp only [pS1, pS2, pS3, pS4]
 refine wpAnyH_ready (rs := [14, 18]) (by kernel_rfl) (by simp) (consS (i := 14) rfl (fun K hK => ?_) (consS (i := 18) rfl (fun K hK => ?_) AllReadyH.nil))
 ·skip
  go_simp
  refine (make0_ok _ F G _ _ T (OpRd.nil0 HN.out.1) (Rd.nil0 HN.out.2.1) (HN.out.2.2.2.2.1.below hHeld)).mono ?_
  rintro e wn ⟨B1, d1, B2, d2, B3, d3, A4, d4, rfl, hE, hbn⟩
  have HW := Lib.hid (Nat.le_trans hHeld.size hbn.size)
  have HE := Lib.hid hE
  clear hE
  try go_simp
  refine hK.out _ _ (hHeld.trans (hbn.mono hHeld.size)) (fun hHeld2 => ?_)
  clear hK K hHeld hbn
  have hHeld := hHeld2
  clear hHeld2
  try simp only [pS1, pS2, pS3, pS4]
  refine goLS [15, 16, 17] ?_
  iterate 3 (refine tlS (v := ?_) (fun wS hSw => ?_) hHeld ?_; rotate_left; (go_simp; try with_reducible rfl); try simp only [pS1, pS2, pS3, pS4])
  refine goES ?_
  refine ckS 18 (fun K hK => ?_)
  go_simp
  refine hK.out _ _ (hHeld.trans ((new_box _ _).mono hHeld.size)) (fun hHeld2 => ?_)
  clear hK K hHeld 
  have hHeld := hHeld2
  clear hHeld2
  try simp only [pS1, pS2, pS3, pS4]
  have kp : (wn.alloc (.cells #[.int .i64 0, .slice none 0 0, .slice none 0 0, .slice none 0 0, .int .i64 0, .int .i64 0, .slice none 0 0, .int .i64 0] 131)).heap[wn.heap.size]? = _ := heap_alloc_new wn (.cells #[.int .i64 0, .slice none 0 0, .slice none 0 0, .slice none 0 0, .int .i64 0, .int .i64 0, .slice none 0 0, .int .i64 0] 131)
  obtain ⟨P, hP⟩ : ∃ x, x = wn.heap.size := ⟨_, rfl⟩
  have hP2 := Lib.hid (show w.heap.size ≤ P by have := HW.out; omega)
  rw [← hP] at kp
  rw [show (⟨wn.heap.size, 0, none⟩ : Addr) = ⟨P, 0, none⟩ by rw [hP]]
  generalize wn.alloc (.cells #[.int .i64 0, .slice none 0 0, .slice none 0 0, .slice none 0 0, .int .i64 0, .int .i64 0, .slice none 0 0, .int .i64 0] 131) = wn at kp hHeld ⊢
  have KP := Lib.hid kp
  clear kp hP
  refine ckS 19 (fun K hK => ?_)
  have kP := KP.out
  have y0 : wn.frozen? ⟨P, 0, none⟩ = false := by simp [World.frozen?, kP]
  have y1 : wn.frozen? ⟨P, 1, none⟩ = false := by simp [World.frozen?, kP]
  have y2 : wn.frozen? ⟨P, 2, none⟩ = false := by simp [World.frozen?, kP]
  have y3 : wn.frozen? ⟨P, 3, none⟩ = false := by simp [World.frozen?, kP]
  have y4 : wn.frozen? ⟨P, 4, none⟩ = false := by simp [World.frozen?, kP]
  have y5 : wn.frozen? ⟨P, 5, none⟩ = false := by simp [World.frozen?, kP]
  have y6 : wn.frozen? ⟨P, 6, none⟩ = false := by simp [World.frozen?, kP]
  have y7 : wn.frozen? ⟨P, 7, none⟩ = false := by simp [World.frozen?, kP]
  have x0 : wn.cell? ⟨P, 0, none⟩ = some ((.int .i64 0)) := by simp [World.cell?, kP]
  have x1 : wn.cell? ⟨P, 1, none⟩ = some ((.slice none 0 0)) := by simp [World.cell?, kP]
  have x2 : wn.cell? ⟨P, 2, none⟩ = some ((.slice none 0 0)) := by simp [World.cell?, kP]
  have x3 : wn.cell? ⟨P, 3, none⟩ = some ((.slice none 0 0)) := by simp [World.cell?, kP]
  have x4 : wn.cell? ⟨P, 4, none⟩ = some ((.int .i64 0)) := by simp [World.cell?, kP]
  have x5 : wn.cell? ⟨P, 5, none⟩ = some ((.int .i64 0)) := by simp [World.cell?, kP]
  have x6 : wn.cell? ⟨P, 6, none⟩ = some ((.slice none 0 0)) := by simp [World.cell?, kP]
  have x7 : wn.cell? ⟨P, 7, none⟩ = some ((.int .i64 0)) := by simp [World.cell?, kP]
  have hP3 := hP2.out
  go_simp
  refine hK.out _ _ (((((((((hHeld.setCell (p := ⟨P, 0, none⟩) hP3 _).setCell (p := ⟨P, 1, none⟩) hP3 _).setCell (p := ⟨P, 2, none⟩) hP3 _).setCell (p := ⟨P, 3, none⟩) hP3 _).setCell (p := ⟨P, 4, none⟩) hP3 _).setCell (p := ⟨P, 5, none⟩) hP3 _).setCell (p := ⟨P, 6, none⟩) hP3 _).setCell (p := ⟨P, 7, none⟩) hP3 _)) (fun hHeld2 => ?_)
  clear hK K hHeld y0 x0 y1 x1 y2 x2 y3 x3 y4 x4 y5 x5 y6 x6 y7 x7 kP hP3
  have hHeld := hHeld2
  clear hHeld2
  try simp only [pS1, pS2, pS3, pS4]
  have kp := put8c (v0 := .int .i64 0) (v1 := .slice B1 0 d1) (v2 := .slice B2 0 d2) (v3 := .slice B3 0 d3) (v4 := .int .i64 0) (v5 := .int .i64 0) (v6 := .slice A4 0 d4) (v7 := .int .i64 0) KP.out
  generalize ((((((((wn.setCell ⟨P, 0, none⟩ (.int .i64 0)).setCell ⟨P, 1, none⟩ (.slice B1 0 d1)).setCell ⟨P, 2, none⟩ (.slice B2 0 d2)).setCell ⟨P, 3, none⟩ (.slice B3 0 d3)).setCell ⟨P, 4, none⟩ (.int .i64 0)).setCell ⟨P, 5, none⟩ (.int .i64 0)).setCell ⟨P, 6, none⟩ (.slice A4 0 d4)).setCell ⟨P, 7, none⟩ (.int .i64 0)) = wz at kp hHeld ⊢
  have KP := Lib.hid kp
  clear kp
  refine tkS 20 (v := ?_) (fun wS hSw => ?_) hHeld ?_
  rotate_left
  ·go_simp; try with_reducible rfl
  try simp only [pS1, pS2, pS3, pS4]
  refine wpAnyH_done (by kernel_rfl) ?_ _
  have HW := Lib.hid hHeld
  have p0 : wz.cell? ⟨P, 0, none⟩ = some (.int .i64 0) := by simp [World.cell?, KP.out]
  have p1 : wz.cell? ⟨P, 1, none⟩ = some (.slice B1 0 d1) := by simp [World.cell?, KP.out]
  have p2 : wz.cell? ⟨P, 2, none⟩ = some (.slice B2 0 d2) := by simp [World.cell?, KP.out]
  have p3 : wz.cell? ⟨P, 3, none⟩ = some (.slice B3 0 d3) := by simp [World.cell?, KP.out]
  have hE : EntRd wz (fun _ => True) ⟨0, [], [], []⟩ (.slice B1 0 d1) (.slice B2 0 d2) (.slice B3 0 d3) := ⟨OpRd.nil0 HE.out.1, Rd.nil0 HE.out.2.1, ClRd.nil0 HE.out.2.2.1, HE.out.2.2.2⟩
  have HC := Lib.hid (encode_ok wz _ ⟨0, [], [], []⟩ _ _ _ hE (HN.out.2.2.2.2.1.below hHeld) (HN.out.2.2.2.2.2.1.below hHeld) (by decide))
  clear hHeld KP hP2 hE
  go_wp2_with fail
  refine HC.out.mono ?_
  rintro en w3 ⟨hb3, ⟨hz, _⟩ | ⟨_, A3, c3, rfl, hO⟩⟩
  ·exact absurd entE_nil hz
  have H3 := Lib.hid (And.intro (HW.out.trans (hb3.mono HW.out.size)) (Rd.of_own hO (F := fun _ => True) (fun _ _ => trivial)))
  have hL3 := HN.out.2.2.2.1.below H3.out.1
  have HAp := Lib.hid (append_ok w3 _ L [] hL3 (by simp) _ _ _ _ _ H3.out.2 inside_nil_len)
  have HR3 := Lib.hid (H.out.below H3.out.1)
  obtain ⟨⟨c, g1⟩, g2, g3⟩ := HR3.out
  obtain ⟨⟨r0, r1, r2, r3, r4⟩, -⟩ := cliO_cells g1
  clear g1 g2 g3 r1 r2 r3 r4 hb3 hO hL3 p0 p1 p2 p3 HC
  go_wp2_with fail
  refine HAp.out.mono ?_
  rintro e w4 ⟨rfl, ho4, FL4, hL4, hF4⟩
  rw [show (([] : List (List UInt8)).length : Int) = 0 from rfl]
  obtain ⟨n1, n2, n3, n4, n5, n6, n7, n8, n9, n10⟩ := HN.out.2.2.2.2.2.2
  have hR4 := HR3.out.only ho4 n1 n3 n4
  have hm4 := (HN.out.2.2.1.below H3.out.1).only ho4 n2
  obtain ⟨q4, qf⟩ := reqO_cells hR4.2.2
  have y2 := qf 2
  have q2 := q4.2.2.1
  have H4 := Lib.hid (And.intro hR4 (And.intro hm4 ho4))
  clear r0 hR4 hm4 ho4 hL4 hF4 q4 qf HAp n1 n2 n3 n4 n5 n6 n7 n8 n9 n10
  go_upto_region 21 with fail
  have h5 := Only.set1 w4 Q 2 (.int .i64 2)
  have k5 : (w4.setCell ⟨Q, 2, none⟩ (.int .i64 2)).heap[Q]? = some (reqO (.slice A1 0 c1) (.slice A2 0 c2) 2 (.slice none 0 0) k v) := by have := heap_setCell_same w4 Q 2 _ _ (.int .i64 2) H4.out.1.2.2; simpa [reqO] using this
  generalize w4.setCell ⟨Q, 2, none⟩ (.int .i64 2) = w5 at h5 k5 ⊢
  have H5 := Lib.hid (And.intro h5 k5)
  obtain ⟨⟨-, -, -, q3, -⟩, -⟩ := reqO_cells k5
  clear h5 k5 y2 q2
  have hx := new_box w5 (.cells #[.int .i64 0] 3)
  have HA := Lib.hid (And.intro (World.news_of_block (heap_alloc_new w5 (.cells #[.int .i64 0] 3))) (And.intro (show (w5.alloc (.cells #[.int .i64 0] 3)).ownsRow 0 3 1 (.slice none 0 0) 0 [] from World.ownsRow_nil _ _ _ _) hx))
  clear hx
  go_upto_region 22 with (at_builtin; go_loud (refine wpList_append_lies _ rfl _ _ 51 rfl 0 3 i0 _ 1 8 Tryz.underlying51 HHI.out.1 HHI.out.2.1 HHI.out.2.2.1 HHI.out.2.2.2 rfl (by decide) (.slice none 0 0) 0 [] rfl HA.out.2.1 ⟨w5.heap.size, 0, none⟩ 1 1 [.int .i64 0] rfl rfl HA.out.1 (by simp [Value.oneCell']) (by decide) (by unfold maxLen; omega) (by omega) (Nat.zero_le _) _ rfl ?_); intro g cap w7 hown hgrow hat hlt; have hb7 : Below w5.heap.size w5 w7 := HA.out.2.2.grown hgrow HA.out.2.2.size (fun k hk => by cases hk); have k7 := (Only.of_below hb7 (fun _ => False)).heap H5.out.2 (fun h => h); obtain ⟨⟨-, -, -, q3b, -⟩, qf⟩ := reqO_cells k7; have y3 := qf 3; have H7 := Lib.hid (And.intro hb7 (And.intro k7 (And.intro (own_first hown) (show g = (w5.alloc (.cells #[.int .i64 0] 3)).heap.size from hat.elim (fun h => by cases h) id)))); clear qf hown hgrow hat hb7 k7)
  obtain ⟨n1, n2, n3, n4, n5, n6, n7, n8, n9, n10⟩ := HN.out.2.2.2.2.2.2
  have h8 := Only.set1 w7 Q 3 (.slice (some ⟨g, 0, none⟩) 1 cap)
  have k8 : (w7.setCell ⟨Q, 3, none⟩ (.slice (some ⟨g, 0, none⟩) 1 cap)).heap[Q]? = some (reqO (.slice A1 0 c1) (.slice A2 0 c2) 2 (.slice (some ⟨g, 0, none⟩) 1 cap) k v) := by have := heap_setCell_same w7 Q 3 _ _ (.slice (some ⟨g, 0, none⟩) 1 cap) H7.out.2.1; simpa [reqO] using this
  generalize w7.setCell ⟨Q, 3, none⟩ (.slice (some ⟨g, 0, none⟩) 1 cap) = w8 at h8 k8 ⊢
  have o48 : Only (fun b => b = Q) w4 w8 := (H5.out.1.trans (Only.of_below H7.out.1 _) (fun _ _ h => h)).trans h8 (fun _ _ h => h)
  obtain ⟨⟨cR, gR⟩, gA, -⟩ := H4.out.1
  have gR8 := o48.heap gR n8
  have gA8 := o48.cell gA n9
  obtain ⟨⟨-, -, -, -, r4⟩, -⟩ := cliO_cells gR8
  have HM8 := Lib.hid (H4.out.2.1.only o48 n7)
  have hgs : w.heap.size ≤ g ∧ g ≠ Q := by have e1 := H7.out.2.2.2; have e2 := H3.out.1.size; have e3 := H4.out.2.2.size; have e4 := H5.out.1.size; have e5 := (Array.getElem?_eq_some_iff.1 H5.out.2).1; simp at e1; omega
  have H8 := Lib.hid (And.intro h8 (And.intro k8 (And.intro gR8 (And.intro gA8 (And.intro (h8.cell H7.out.2.2.1 hgs.2) hgs)))))
  clear h8 k8 o48 gR gA gR8 gA8 hgs n1 n2 n3 n4 n5 n6 n7 n8 n9 n10
  go_wp2_with (at_mapUpdate; go_loud (refine wpList_store _ rfl _ _ _ 120 rfl lawI Tryz.underlying120 rfl HM8.out (by unfold maxLen; omega) rfl rfl keyI0 ?_); intro w9 hm9 ho9)
  go_ret2
  obtain ⟨n1, n2, n3, n4, n5, n6, n7, n8, n9, n10⟩ := HN.out.2.2.2.2.2.2
  obtain ⟨h8, k8, gR8, gA8, gg, hg1, hg2⟩ := H8.out
  have hgm : g ≠ m := by have := (HN.out.2.2.1).lt; omega
  have o1 : Only (fun b => FL b ∨ b = m ∨ b = Q) w w4 := (Only.of_below H3.out.1 _).trans H4.out.2.2 (fun k _ h => .inl h)
  have o2 := o1.trans H5.out.1 (fun k _ h => .inr (.inr h))
  have o3 := o2.trans (Only.of_below H7.out.1 (fun b => FL b ∨ b = m ∨ b = Q)) (fun _ _ h => h)
  have o4 := o3.trans h8 (fun k _ h => .inr (.inr h))
  exact ⟨rfl, g, cap, ⟨⟨cR, ho9.heap gR8 (fun e => n5 e.symm)⟩, ho9.cell gA8 (fun e => n6 e.symm), ho9.heap k8 (fun e => n7 e.symm)⟩, ho9.cell gg hgm, hg1, hm9, o4.trans ho9 (fun k _ h => .inr (.inl h))⟩
 ·skip
  go_simp
  refine hK.out _ _ (hHeld.trans ((new_box _ _).mono hHeld.size)) (fun hHeld2 => ?_)
  clear hK K hHeld 
  have hHeld := hHeld2
  clear hHeld2
  try simp only [pS1, pS2, pS3, pS4]
  have kp : ((w.alloc (.cells #[.int .i64 0, .slice none 0 0, .slice none 0 0, .slice none 0 0, .int .i64 0, .int .i64 0, .slice none 0 0, .int .i64 0] 131)).drew).heap[w.heap.size]? = _ := heap_alloc_new w (.cells #[.int .i64 0, .slice none 0 0, .slice none 0 0, .slice none 0 0, .int .i64 0, .int .i64 0, .slice none 0 0, .int .i64 0] 131)
  obtain ⟨P, hP⟩ : ∃ x, x = w.heap.size := ⟨_, rfl⟩
  have hP2 := Lib.hid (show w.heap.size ≤ P by omega)
  rw [← hP] at kp
  rw [show (⟨w.heap.size, 0, none⟩ : Addr) = ⟨P, 0, none⟩ by rw [hP]]
  generalize (w.alloc (.cells #[.int .i64 0, .slice none 0 0, .slice none 0 0, .slice none 0 0, .int .i64 0, .int .i64 0, .slice none 0 0, .int .i64 0] 131)).drew = wn at kp hHeld ⊢
  have KP := Lib.hid kp
  clear kp hP
  refine ckS 14 (fun K hK => ?_)
  go_simp
  refine (make0_ok _ F G _ _ T (OpRd.nil0 HN.out.1) (Rd.nil0 HN.out.2.1) (HN.out.2.2.2.2.1.below hHeld)).mono ?_
  rintro e wn ⟨B1, d1, B2, d2, B3, d3, A4, d4, rfl, hE, hbn⟩
  have HW := Lib.hid (Nat.le_trans hHeld.size hbn.size)
  have HE := Lib.hid hE
  clear hE
  have KP := Lib.hid ((Only.of_below hbn (fun _ => False)).heap KP.out (fun h => h))
  try go_simp
  refine hK.out _ _ (hHeld.trans (hbn.mono hHeld.size)) (fun hHeld2 => ?_)
  clear hK K hHeld hbn
  have hHeld := hHeld2
  clear hHeld2
  try simp only [pS1, pS2, pS3, pS4]
  refine goLS [15, 16, 17] ?_
  iterate 3 (refine tlS (v := ?_) (fun wS hSw => ?_) hHeld ?_; rotate_left; (go_simp; try with_reducible rfl); try simp only [pS1, pS2, pS3, pS4])
  refine goES ?_
  refine ckS 19 (fun K hK => ?_)
  have kP := KP.out
  have y0 : wn.frozen? ⟨P, 0, none⟩ = false := by simp [World.frozen?, kP]
  have y1 : wn.frozen? ⟨P, 1, none⟩ = false := by simp [World.frozen?, kP]
  have y2 : wn.frozen? ⟨P, 2, none⟩ = false := by simp [World.frozen?, kP]
  have y3 : wn.frozen? ⟨P, 3, none⟩ = false := by simp [World.frozen?, kP]
  have y4 : wn.frozen? ⟨P, 4, none⟩ = false := by simp [World.frozen?, kP]
  have y5 : wn.frozen? ⟨P, 5, none⟩ = false := by simp [World.frozen?, kP]
  have y6 : wn.frozen? ⟨P, 6, none⟩ = false := by simp [World.frozen?, kP]
  have y7 : wn.frozen? ⟨P, 7, none⟩ = false := by simp [World.frozen?, kP]
  have x0 : wn.cell? ⟨P, 0, none⟩ = some ((.int .i64 0)) := by simp [World.cell?, kP]
  have x1 : wn.cell? ⟨P, 1, none⟩ = some ((.slice none 0 0)) := by simp [World.cell?, kP]
  have x2 : wn.cell? ⟨P, 2, none⟩ = some ((.slice none 0 0)) := by simp [World.cell?, kP]
  have x3 : wn.cell? ⟨P, 3, none⟩ = some ((.slice none 0 0)) := by simp [World.cell?, kP]
  have x4 : wn.cell? ⟨P, 4, none⟩ = some ((.int .i64 0)) := by simp [World.cell?, kP]
  have x5 : wn.cell? ⟨P, 5, none⟩ = some ((.int .i64 0)) := by simp [World.cell?, kP]
  have x6 : wn.cell? ⟨P, 6, none⟩ = some ((.slice none 0 0)) := by simp [World.cell?, kP]
  have x7 : wn.cell? ⟨P, 7, none⟩ = some ((.int .i64 0)) := by simp [World.cell?, kP]
  have hP3 := hP2.out
  go_simp
  refine hK.out _ _ (((((((((hHeld.setCell (p := ⟨P, 0, none⟩) hP3 _).setCell (p := ⟨P, 1, none⟩) hP3 _).setCell (p := ⟨P, 2, none⟩) hP3 _).setCell (p := ⟨P, 3, none⟩) hP3 _).setCell (p := ⟨P, 4, none⟩) hP3 _).setCell (p := ⟨P, 5, none⟩) hP3 _).setCell (p := ⟨P, 6, none⟩) hP3 _).setCell (p := ⟨P, 7, none⟩) hP3 _)) (fun hHeld2 => ?_)
  clear hK K hHeld y0 x0 y1 x1 y2 x2 y3 x3 y4 x4 y5 x5 y6 x6 y7 x7 kP hP3
  have hHeld := hHeld2
  clear hHeld2
  try simp only [pS1, pS2, pS3, pS4]
  have kp := put8c (v0 := .int .i64 0) (v1 := .slice B1 0 d1) (v2 := .slice B2 0 d2) (v3 := .slice B3 0 d3) (v4 := .int .i64 0) (v5 := .int .i64 0) (v6 := .slice A4 0 d4) (v7 := .int .i64 0) KP.out
  generalize ((((((((wn.setCell ⟨P, 0, none⟩ (.int .i64 0)).setCell ⟨P, 1, none⟩ (.slice B1 0 d1)).setCell ⟨P, 2, none⟩ (.slice B2 0 d2)).setCell ⟨P, 3, none⟩ (.slice B3 0 d3)).setCell ⟨P, 4, none⟩ (.int .i64 0)).setCell ⟨P, 5, none⟩ (.int .i64 0)).setCell ⟨P, 6, none⟩ (.slice A4 0 d4)).setCell ⟨P, 7, none⟩ (.int .i64 0)) = wz at kp hHeld ⊢
  have KP := Lib.hid kp
  clear kp
  refine tkS 20 (v := ?_) (fun wS hSw => ?_) hHeld ?_
  rotate_left
  ·go_simp; try with_reducible rfl
  try simp only [pS1, pS2, pS3, pS4]
  refine wpAnyH_done (by kernel_rfl) ?_ _
  have HW := Lib.hid hHeld
  have p0 : wz.cell? ⟨P, 0, none⟩ = some (.int .i64 0) := by simp [World.cell?, KP.out]
  have p1 : wz.cell? ⟨P, 1, none⟩ = some (.slice B1 0 d1) := by simp [World.cell?, KP.out]
  have p2 : wz.cell? ⟨P, 2, none⟩ = some (.slice B2 0 d2) := by simp [World.cell?, KP.out]
  have p3 : wz.cell? ⟨P, 3, none⟩ = some (.slice B3 0 d3) := by simp [World.cell?, KP.out]
  have hE : EntRd wz (fun _ => True) ⟨0, [], [], []⟩ (.slice B1 0 d1) (.slice B2 0 d2) (.slice B3 0 d3) := ⟨OpRd.nil0 HE.out.1, Rd.nil0 HE.out.2.1, ClRd.nil0 HE.out.2.2.1, HE.out.2.2.2⟩
  have HC := Lib.hid (encode_ok wz _ ⟨0, [], [], []⟩ _ _ _ hE (HN.out.2.2.2.2.1.below hHeld) (HN.out.2.2.2.2.2.1.below hHeld) (by decide))
  clear hHeld KP hP2 hE
  go_wp2_with fail
  refine HC.out.mono ?_
  rintro en w3 ⟨hb3, ⟨hz, _⟩ | ⟨_, A3, c3, rfl, hO⟩⟩
  ·exact absurd entE_nil hz
  have H3 := Lib.hid (And.intro (HW.out.trans (hb3.mono HW.out.size)) (Rd.of_own hO (F := fun _ => True) (fun _ _ => trivial)))
  have hL3 := HN.out.2.2.2.1.below H3.out.1
  have HAp := Lib.hid (append_ok w3 _ L [] hL3 (by simp) _ _ _ _ _ H3.out.2 inside_nil_len)
  have HR3 := Lib.hid (H.out.below H3.out.1)
  obtain ⟨⟨c, g1⟩, g2, g3⟩ := HR3.out
  obtain ⟨⟨r0, r1, r2, r3, r4⟩, -⟩ := cliO_cells g1
  clear g1 g2 g3 r1 r2 r3 r4 hb3 hO hL3 p0 p1 p2 p3 HC
  go_wp2_with fail
  refine HAp.out.mono ?_
  rintro e w4 ⟨rfl, ho4, FL4, hL4, hF4⟩
  rw [show (([] : List (List UInt8)).length : Int) = 0 from rfl]
  obtain ⟨n1, n2, n3, n4, n5, n6, n7, n8, n9, n10⟩ := HN.out.2.2.2.2.2.2
  have hR4 := HR3.out.only ho4 n1 n3 n4
  have hm4 := (HN.out.2.2.1.below H3.out.1).only ho4 n2
  obtain ⟨q4, qf⟩ := reqO_cells hR4.2.2
  have y2 := qf 2
  have q2 := q4.2.2.1
  have H4 := Lib.hid (And.intro hR4 (And.intro hm4 ho4))
  clear r0 hR4 hm4 ho4 hL4 hF4 q4 qf HAp n1 n2 n3 n4 n5 n6 n7 n8 n9 n10
  go_upto_region 21 with fail
  have h5 := Only.set1 w4 Q 2 (.int .i64 2)
  have k5 : (w4.setCell ⟨Q, 2, none⟩ (.int .i64 2)).heap[Q]? = some (reqO (.slice A1 0 c1) (.slice A2 0 c2) 2 (.slice none 0 0) k v) := by have := heap_setCell_same w4 Q 2 _ _ (.int .i64 2) H4.out.1.2.2; simpa [reqO] using this
  generalize w4.setCell ⟨Q, 2, none⟩ (.int .i64 2) = w5 at h5 k5 ⊢
  have H5 := Lib.hid (And.intro h5 k5)
  obtain ⟨⟨-, -, -, q3, -⟩, -⟩ := reqO_cells k5
  clear h5 k5 y2 q2
  have hx := new_box w5 (.cells #[.int .i64 0] 3)
  have HA := Lib.hid (And.intro (World.news_of_block (heap_alloc_new w5 (.cells #[.int .i64 0] 3))) (And.intro (show (w5.alloc (.cells #[.int .i64 0] 3)).ownsRow 0 3 1 (.slice none 0 0) 0 [] from World.ownsRow_nil _ _ _ _) hx))
  clear hx
  go_upto_region 22 with (at_builtin; go_loud (refine wpList_append_lies _ rfl _ _ 51 rfl 0 3 i0 _ 1 8 Tryz.underlying51 HHI.out.1 HHI.out.2.1 HHI.out.2.2.1 HHI.out.2.2.2 rfl (by decide) (.slice none 0 0) 0 [] rfl HA.out.2.1 ⟨w5.heap.size, 0, none⟩ 1 1 [.int .i64 0] rfl rfl HA.out.1 (by simp [Value.oneCell']) (by decide) (by unfold maxLen; omega) (by omega) (Nat.zero_le _) _ rfl ?_); intro g cap w7 hown hgrow hat hlt; have hb7 : Below w5.heap.size w5 w7 := HA.out.2.2.grown hgrow HA.out.2.2.size (fun k hk => by cases hk); have k7 := (Only.of_below hb7 (fun _ => False)).heap H5.out.2 (fun h => h); obtain ⟨⟨-, -, -, q3b, -⟩, qf⟩ := reqO_cells k7; have y3 := qf 3; have H7 := Lib.hid (And.intro hb7 (And.intro k7 (And.intro (own_first hown) (show g = (w5.alloc (.cells #[.int .i64 0] 3)).heap.size from hat.elim (fun h => by cases h) id)))); clear qf hown hgrow hat hb7 k7)
  obtain ⟨n1, n2, n3, n4, n5, n6, n7, n8, n9, n10⟩ := HN.out.2.2.2.2.2.2
  have h8 := Only.set1 w7 Q 3 (.slice (some ⟨g, 0, none⟩) 1 cap)
  have k8 : (w7.setCell ⟨Q, 3, none⟩ (.slice (some ⟨g, 0, none⟩) 1 cap)).heap[Q]? = some (reqO (.slice A1 0 c1) (.slice A2 0 c2) 2 (.slice (some ⟨g, 0, none⟩) 1 cap) k v) := by have := heap_setCell_same w7 Q 3 _ _ (.slice (some ⟨g, 0, none⟩) 1 cap) H7.out.2.1; simpa [reqO] using this
  generalize w7.setCell ⟨Q, 3, none⟩ (.slice (some ⟨g, 0, none⟩) 1 cap) = w8 at h8 k8 ⊢
  have o48 : Only (fun b => b = Q) w4 w8 := (H5.out.1.trans (Only.of_below H7.out.1 _) (fun _ _ h => h)).trans h8 (fun _ _ h => h)
  obtain ⟨⟨cR, gR⟩, gA, -⟩ := H4.out.1
  have gR8 := o48.heap gR n8
  have gA8 := o48.cell gA n9
  obtain ⟨⟨-, -, -, -, r4⟩, -⟩ := cliO_cells gR8
  have HM8 := Lib.hid (H4.out.2.1.only o48 n7)
  have hgs : w.heap.size ≤ g ∧ g ≠ Q := by have e1 := H7.out.2.2.2; have e2 := H3.out.1.size; have e3 := H4.out.2.2.size; have e4 := H5.out.1.size; have e5 := (Array.getElem?_eq_some_iff.1 H5.out.2).1; simp at e1; omega
  have H8 := Lib.hid (And.intro h8 (And.intro k8 (And.intro gR8 (And.intro gA8 (And.intro (h8.cell H7.out.2.2.1 hgs.2) hgs)))))
  clear h8 k8 o48 gR gA gR8 gA8 hgs n1 n2 n3 n4 n5 n6 n7 n8 n9 n10
  go_wp2_with (at_mapUpdate; go_loud (refine wpList_store _ rfl _ _ _ 120 rfl lawI Tryz.underlying120 rfl HM8.out (by unfold maxLen; omega) rfl rfl keyI0 ?_); intro w9 hm9 ho9)
  go_ret2
  obtain ⟨n1, n2, n3, n4, n5, n6, n7, n8, n9, n10⟩ := HN.out.2.2.2.2.2.2
  obtain ⟨h8, k8, gR8, gA8, gg, hg1, hg2⟩ := H8.out
  have hgm : g ≠ m := by have := (HN.out.2.2.1).lt; omega
  have o1 : Only (fun b => FL b ∨ b = m ∨ b = Q) w w4 := (Only.of_below H3.out.1 _).trans H4.out.2.2 (fun k _ h => .inl h)
  have o2 := o1.trans H5.out.1 (fun k _ h => .inr (.inr h))
  have o3 := o2.trans (Only.of_below H7.out.1 (fun b => FL b ∨ b = m ∨ b = Q)) (fun _ _ h => h)
  have o4 := o3.trans h8 (fun k _ h => .inr (.inr h))
  exact ⟨rfl, g, cap, ⟨⟨cR, ho9.heap gR8 (fun e => n5 e.symm)⟩, ho9.cell gA8 (fun e => n6 e.symm), ho9.heap k8 (fun e => n7 e.symm)⟩, ho9.cell gg hgm, hg1, hm9, o4.trans ho9 (fun k _ h => .inr (.inl h))⟩
end
section
open Go.RowKit Go.Maps Go.WideShapes
theorem Tryz.zeroI19 (w : World) : (zeroValue 3).run Tryz.prog w = .ok (.int .i64 0) w := by kernel_rfl
noncomputable def wait0 : Value → Option Value := updM (fun _ => none) (.int .i64 0) (some (.int .i64 0))
theorem wait0_at : wait0 (.int .i64 0) = some (.int .i64 0) := updM_same _ _ _
set_option maxHeartbeats 4000000 in
theorem waiter1_ok (w : World) (R L : Nat) (f tr : Int) (m A Q : Nat) (vo va : Value) (st : Int) (pl : Value) (k v : Int) (h : CliQ w R L f tr m A Q vo va st pl k v) (hm : MapAt Tryz.prog w 3 m 1 wait0) :
  Calls Tryz.prog 49 #[.pointer (some ⟨R, 0, none⟩), .int .i64 0] w fun e w' => e = .returned (.tuple #[.int .i64 0, .bool true]) ∧ Below w.heap.size w w' := by
 obtain ⟨⟨c, g1⟩, g2, g3⟩ := h
 obtain ⟨⟨-, -, -, r3, r4⟩, -⟩ := cliO_cells g1
 have HM := Lib.hid hm
 clear g1 g2 g3 hm
 go_enter Tryz.func49, Tryz.ntmps49
 go_wp2_with fail
 go_step3
 go_wp2_with fail
 go_step3
 go_wp2_with fail
 go_loopw [16] (fun i wr => i = .int .i64 0 ∧ wr = w) (fun _ _ => 0)
 case atStart => exact ⟨rfl, rfl⟩
 case round =>
  obtain ⟨rfl, rfl⟩ := hrel
  go_wp2_with (at_lookup; go_loud (refine wpList_look_ok (key := .int .i64 0) _ rfl _ _ 120 rfl lawI Tryz.underlying120 (Tryz.zeroI19 _) rfl HM.out rfl keyI0 (.int .i64 0) true (by rw [wait0_at]; rfl) (by rw [wait0_at]; rfl) ?_))
  rw [Exit.noGoto_ret]
  go_ret2
  exact ⟨rfl, Below.refl _ _⟩
set_option maxHeartbeats 4000000 in
theorem tell1_ok (w : World) (R L : Nat) (f : Int) (m A Q : Nat) (vo va : Value) (g c : Nat) (k v : Int) (h : CliQ w R L f 1 m A Q vo va 2 (.slice (some ⟨g, 0, none⟩) 1 c) k v) (hm : MapAt Tryz.prog w 3 m 1 wait0)
  (n5 : m ≠ R) (n6 : m ≠ A) (n7 : m ≠ Q) (n8 : R ≠ Q) (n9 : A ≠ Q) :
  Calls Tryz.prog 23 #[.pointer (some ⟨R, 0, none⟩), .int .i64 0, .agg #[.int .i64 3, .int .i64 0, .int .i64 0]] w fun e w' => e = .returned (.int .i64 0) ∧ CliQ w' R L f 1 m A Q vo va 3 (.slice (some ⟨g, 0, none⟩) 1 c) 8 0 ∧ Only (fun b => b = m ∨ b = Q) w w' := by
 have hb := new_box w (.cells #[.int .i64 3, .int .i64 0, .int .i64 0] 76)
 have k0 := heap_alloc_new w (.cells #[.int .i64 3, .int .i64 0, .int .i64 0] 76)
 have H := Lib.hid (And.intro h (And.intro hm (And.intro n5 (And.intro n6 (And.intro n7 (And.intro n8 n9))))))
 clear h hm n5 n6 n7 n8 n9
 go_enter Tryz.func23, Tryz.ntmps23
 go_upto_region 1 with fail
 generalize w.alloc (.cells #[.int .i64 3, .int .i64 0, .int .i64 0] 76) = w1 at hb k0 ⊢
 obtain ⟨C, hC⟩ : ∃ x, w.heap.size = x := ⟨_, rfl⟩
 rw [hC] at k0 ⊢
 have HB := Lib.hid (And.intro hb (And.intro k0 hC))
 clear hb k0 hC
 have HW := Lib.hid (waiter1_ok w1 R L f 1 m A Q vo va 2 _ k v (H.out.1.below HB.out.1) (H.out.2.1.below HB.out.1))
 go_wp2_with fail
 refine HW.out.mono ?_
 rintro e w2 ⟨rfl, hb2⟩
 have H2 := Lib.hid (HB.out.1.trans (hb2.mono HB.out.1.size))
 have hC2 := H.out.1.below H2.out
 obtain ⟨⟨cR, g1⟩, g2, g3⟩ := id hC2
 obtain ⟨⟨-, -, r2, r3, r4⟩, -⟩ := cliO_cells g1
 obtain ⟨w3, hrun, hm3, ho3⟩ := (H.out.2.1.below H2.out).drop lawI Tryz.underlying120 keyI0 0
 obtain ⟨-, -, n5, n6, n7, n8, n9⟩ := H.out
 have hC3 := hC2.only ho3 (fun e => n5 e.symm) (fun e => n6 e.symm) (fun e => n7 e.symm)
 have kC := ho3.heap ((Only.of_below hb2 (fun _ => False)).heap HB.out.2.1 (fun h => h)) (fun e => by have := H.out.2.1.lt; have := HB.out.2.2; omega)
 have H3 := Lib.hid (And.intro hC3 (And.intro kC ho3))
 clear hm3 ho3 n5 n6 n7 n8 n9 hC2 hC3 kC g1 g2 g3 hb2 HW
 go_upto_region 7 with fail
 clear hrun r2 r3 r4
 go_wp2_with fail
 refine (find1c_ok w3 R L f 1 m A Q vo va 2 _ k v H3.out.1).mono ?_
 rintro e w4 ⟨rfl, rfl⟩
 obtain ⟨⟨cR, g1⟩, g2, g3⟩ := H3.out.1
 obtain ⟨⟨-, -, r2, -, -⟩, -⟩ := cliO_cells g1
 obtain ⟨⟨-, -, q2, q3, q4, q5⟩, qf⟩ := reqO_cells g3
 have y2 := qf 2
 have y4 := qf 4
 have y5 := qf 5
 obtain ⟨d0, d1, d2⟩ : w3.cell? ⟨C, 0, none⟩ = some (.int .i64 3) ∧ w3.cell? ⟨C, 1, none⟩ = some (.int .i64 0) ∧ w3.cell? ⟨C, 2, none⟩ = some (.int .i64 0) := by
  refine ⟨?_, ?_, ?_⟩ <;> simp [World.cell?, H3.out.2.1]
 clear g1 g2 g3 qf
 go_wp2_with fail
 go_quiet (fail)
 go_wp2_with fail
 go_quiet (fail)
 go_wp2_with fail
 go_ret
 obtain ⟨-, -, n5, n6, n7, n8, n9⟩ := H.out
 obtain ⟨⟨cQ, g1⟩, g2, g3⟩ := H3.out.1
 have hs : ∀ d, Only (fun b => b = Q) w3 ((((w3.drewN d).setCell ⟨Q, 2, none⟩ (.int .i64 3)).setCell ⟨Q, 4, none⟩ (.int .i64 8)).setCell ⟨Q, 5, none⟩ (.int .i64 0)) := fun d =>
  ((((Only.refl _ w3).drewN d).trans (Only.set1 _ Q 2 _) (fun _ _ h => h)).trans (Only.set1 _ Q 4 _) (fun _ _ h => h)).trans (Only.set1 _ Q 5 _) (fun _ _ h => h)
 have hk : ∀ d, ((((w3.drewN d).setCell ⟨Q, 2, none⟩ (.int .i64 3)).setCell ⟨Q, 4, none⟩ (.int .i64 8)).setCell ⟨Q, 5, none⟩ (.int .i64 0)).heap[Q]? = some (reqO vo va 3 (.slice (some ⟨g, 0, none⟩) 1 c) 8 0) := fun d => by
  have a1 := heap_setCell_same (w3.drewN d) Q 2 _ _ (.int .i64 3) g3
  have a2 := heap_setCell_same _ Q 4 _ _ (.int .i64 8) a1
  have a3 := heap_setCell_same _ Q 5 _ _ (.int .i64 0) a2
  simpa [reqO] using a3
 exact ⟨rfl, ⟨⟨cQ, (hs _).heap g1 n8⟩, (hs _).cell g2 n9, hk _⟩, ((Only.of_below H2.out _).trans H3.out.2.2 (fun _ _ h => .inl h)).trans (hs _) (fun _ _ h => .inr h)⟩
end
section
open Go.RowKit Go.Maps Go.WideShapes
set_option maxHeartbeats 4000000 in
theorem reply1_ok (w : World) (R L : Nat) (f tr : Int) (m A Q : Nat) (vo va : Value) (g c : Nat) (h : CliQ w R L f tr m A Q vo va 3 (.slice (some ⟨g, 0, none⟩) 1 c) 8 0) :
  Calls Tryz.prog 21 #[.pointer (some ⟨R, 0, none⟩), .int .i64 0] w fun e w' => e = .returned (.tuple #[.agg #[.int .i64 8, .int .i64 0, .int .i64 1], .int .i64 0]) ∧ Below w.heap.size w w' := by
 have hb := new_box w (.cells #[.int .i64 0, .int .i64 0, .int .i64 0] 68)
 have k0 := heap_alloc_new w (.cells #[.int .i64 0, .int .i64 0, .int .i64 0] 68)
 have hQl := lt_heap h.2.2
 have H := Lib.hid (h.below hb)
 clear h
 go_enter Tryz.func21, Tryz.ntmps21
 go_upto_region 1 with fail
 generalize w.alloc (.cells #[.int .i64 0, .int .i64 0, .int .i64 0] 68) = w1 at hb k0 H ⊢
 obtain ⟨C, hC⟩ : ∃ x, w.heap.size = x := ⟨_, rfl⟩
 rw [hC] at k0 ⊢
 have HB := Lib.hid (And.intro hb (And.intro k0 (show w.heap.size ≤ C from Nat.le_of_eq hC)))
 have hQC : ¬ Q = C := by omega
 have hCQ : ¬ C = Q := by omega
 clear hb hC hQl
 go_wp2_with fail
 refine (find1c_ok w1 R L f tr m A Q vo va 3 _ 8 0 H.out).mono ?_
 rintro e w2 ⟨rfl, rfl⟩
 obtain ⟨-, -, g3⟩ := H.out
 obtain ⟨⟨-, -, q2, q3, q4, q5⟩, -⟩ := reqO_cells g3
 have y0 : w1.frozen? ⟨C, 0, none⟩ = false := by simp [World.frozen?, k0]
 have y1 : w1.frozen? ⟨C, 1, none⟩ = false := by simp [World.frozen?, k0]
 have y2 : w1.frozen? ⟨C, 2, none⟩ = false := by simp [World.frozen?, k0]
 have z0 : w1.cell? ⟨C, 0, none⟩ = some (.int .i64 0) := by simp [World.cell?, k0]
 have z1 : w1.cell? ⟨C, 1, none⟩ = some (.int .i64 0) := by simp [World.cell?, k0]
 have z2 : w1.cell? ⟨C, 2, none⟩ = some (.int .i64 0) := by simp [World.cell?, k0]
 clear g3 k0
 go_wp2_with fail
 go_region
 go_wp2_with fail
 have hp := put3r (v0 := .int .i64 8) (v1 := .int .i64 0) (v2 := .int .i64 1) HB.out.2.1
 exact bodyPost_ret (results_cell_row2 rfl _ _ _ _ _ _ _ rfl hp Tryz.underlying68 rfl (by kernel_rfl)) rfl ⟨rfl, ((HB.out.1.drew.setCell (p := ⟨C, 0, none⟩) HB.out.2.2 _).setCell (p := ⟨C, 1, none⟩) HB.out.2.2 _).setCell (p := ⟨C, 2, none⟩) HB.out.2.2 _⟩
attribute [local go_sem] Oper.semAt_some run_store_fnT
theorem nilWaits_ok (w : World) : Calls Tryz.prog 22 #[.pointer none] w fun e w' =>
  ∃ B, e = .returned (.func (.func 48) #[] #[.pointer (some ⟨B, 0, none⟩)]) ∧ Below w.heap.size w w' ∧ w'.heap[B]? = some (.cells #[.slice none 0 0] 136 (0, 0)) := by
 have hb := new_box w (.cells #[.slice none 0 0] 136)
 have k0 := heap_alloc_new w (.cells #[.slice none 0 0] 136)
 go_enter Tryz.func22, Tryz.ntmps22
 go_upto_region 2 with fail
 generalize w.alloc (.cells #[.slice none 0 0] 136) = w1 at hb k0 ⊢
 generalize w.heap.size = B at k0 ⊢
 have HB := Lib.hid (And.intro hb k0)
 clear hb k0
 go_wp2_with fail
 refine (nilLen_ok w1).mono ?_
 rintro e w2 ⟨rfl, rfl⟩
 go_wp2_with fail
 go_loopw [9] (fun i wr => i = .int .i64 0 ∧ wr = w2) (fun i _ => 0)
 case atStart => exact ⟨rfl, rfl⟩
 case round =>
  obtain ⟨rfl, rfl⟩ := hrel
  go_wp2_with fail
  go_ret
  exact ⟨B, rfl, HB.out.1, HB.out.2⟩
theorem nilWaits_seq (w : World) (B : Nat) (h : w.heap[B]? = some (.cells #[.slice none 0 0] 136 (0, 0))) :
  SeqE Tryz.prog 48 #[.pointer (some ⟨B, 0, none⟩)] (fun k => k = B) w := by
 intro l W hag
 have g1 := hag B _ rfl h
 have z0 : W.cell? ⟨B, 0, none⟩ = some (.slice none 0 0) := by simp [World.cell?, g1]
 clear hag h g1
 refine calls_marks Tryz.func48 rfl ?_
 simp only [Tryz.ntmps48, List.size_toArray, List.length_cons, List.length_nil, Nat.reduceAdd, Nat.reduceSub, Array.replicate_succ, Array.replicate_zero, List.push_toArray, List.append_toArray, List.nil_append, List.cons_append]
 go_wp2_with fail
 go_loopw [7] (fun i wr => i = .int .i64 0 ∧ wr = W) (fun i _ => 0)
 case atStart => exact ⟨rfl, rfl⟩
 case round =>
  obtain ⟨rfl, rfl⟩ := hrel
  go_wp2_with fail
  exact ⟨.tuple #[], by simp [results, Tryz.results48, go_sem], ⟨_, rfl⟩, Only.refl _ _⟩
theorem eqRep (x0 x1 x2 y0 y1 y2 : Int) (w : World) : (Op.equalIn 10000 68 (.agg #[.int .i64 x0, .int .i64 x1, .int .i64 x2]) (.agg #[.int .i64 y0, .int .i64 y1, .int .i64 y2])).run Tryz.prog w = .ok (decide (x0 = y0 ∧ x1 = y1 ∧ x2 = y2)) w := by
 have hs : Tryz.prog.stoodInHeld 68 = false := by kernel_rfl
 have hf : Tryz.prog.underlying 68 = some (.struct (Tryz.prog.fieldsOf 68)) := by unfold Program.fieldsOf; rw [Tryz.underlying68]
 rw [run_equalIn_agg w 9999 68 _ _ hf hs]
 unfold Program.fieldsOf
 rw [Tryz.underlying68]
 simp [Op.eqFields, go_sem, Tryz.underlying3]
 by_cases h1 : x0 = y0 <;> by_cases h2 : x1 = y1 <;> by_cases h3 : x2 = y2 <;> simp [h1, h2, h3]
theorem Tryz.guardRep : Tryz.prog.eqGuardType Tryz.prog.depth 68 = false := by kernel_rfl
theorem config19_ok (w : World) : Calls Tryz.prog 40 #[] w fun e w' => e = .returned (cfgV 30 2 100) ∧ Below w.heap.size w w' := by
 have hb := new_box w (.cells #[.int .i64 0, .int .i64 0, .int .i64 0] 53)
 have k0 := heap_alloc_new w (.cells #[.int .i64 0, .int .i64 0, .int .i64 0] 53)
 go_enter Tryz.func40, Tryz.ntmps40
 go_upto_region 1 with fail
 generalize w.alloc (.cells #[.int .i64 0, .int .i64 0, .int .i64 0] 53) = w1 at hb k0 ⊢
 obtain ⟨C, hC⟩ : ∃ x, w.heap.size = x := ⟨_, rfl⟩
 rw [hC] at k0 ⊢
 have y0 : w1.frozen? ⟨C, 0, none⟩ = false := by simp [World.frozen?, k0]
 have y1 : w1.frozen? ⟨C, 1, none⟩ = false := by simp [World.frozen?, k0]
 have y2 : w1.frozen? ⟨C, 2, none⟩ = false := by simp [World.frozen?, k0]
 have z0 : w1.cell? ⟨C, 0, none⟩ = some (.int .i64 0) := by simp [World.cell?, k0]
 have z1 : w1.cell? ⟨C, 1, none⟩ = some (.int .i64 0) := by simp [World.cell?, k0]
 have z2 : w1.cell? ⟨C, 2, none⟩ = some (.int .i64 0) := by simp [World.cell?, k0]
 have HB := Lib.hid (And.intro hb (And.intro k0 hC))
 clear hb k0 hC
 go_wp2_with fail
 have hp := put3r (v0 := .int .i64 30) (v1 := .int .i64 2) (v2 := .int .i64 100) HB.out.2.1
 exact bodyPost_ret (results_cell_row rfl _ _ _ _ _ _ _ rfl hp Tryz.underlying53 rfl (by kernel_rfl)) rfl ⟨rfl, ((HB.out.1.setCell (p := ⟨C, 0, none⟩) (Nat.le_of_eq HB.out.2.2) _).setCell (p := ⟨C, 1, none⟩) (Nat.le_of_eq HB.out.2.2) _).setCell (p := ⟨C, 2, none⟩) (Nat.le_of_eq HB.out.2.2) _⟩
end
section
open Go.RowKit Go.Maps Go.WideShapes
theorem LogE.at_ {w : World} {L : Nat} (h : LogE w L) : LogAt w (fun k => k = L) L [] :=
 ⟨.slice none 0 0, [], h, rfl, World.ownsRow_nil _ _ _ _, fun g hg => by simp [Value.ownBlock] at hg, fun i p hp => by simp at hp⟩
theorem cfgErr19 : cfgErr 30 2 100 = 0 := by decide
theorem cliErr19 : cliErr 30 2 100 1 = 0 := by decide
theorem rd_slice {w : World} {F : Nat → Prop} {v : Value} (h : Rd w F v []) : ∃ A c, v = .slice A 0 c := by
 obtain ⟨A, n, c, rfl, hl, -⟩ := h
 exact ⟨A, c, by rw [← hl]; rfl⟩
set_option maxHeartbeats 4000000 in
theorem awake19_ok (w : World) (hs : ShTab w) (hn : NibTab w) : Calls Tryz.prog 14 #[] w fun e w' => e = .returned (.bool true) ∧ Below w.heap.size w w' := by
 have HT := Lib.hid (And.intro hs hn)
 clear hs hn
 go_enter Tryz.func14, Tryz.ntmps14
 go_wp2_with fail
 refine (logNew0_ok w).mono ?_
 rintro e w1 ⟨L, rfl, hL0, hL, hb1⟩
 have H1 := Lib.hid (And.intro hL0 (And.intro hL hb1))
 clear hL0 hL hb1
 go_wp2_with fail
 refine (config19_ok w1).mono ?_
 rintro e w2 ⟨rfl, hb2⟩
 have H2 := Lib.hid (And.intro (H1.out.2.1.below hb2) (H1.out.2.2.trans (hb2.mono H1.out.2.2.size)))
 clear hb2
 have HC := Lib.hid (cliNew_ok w2 L 30 2 100 1)
 unfold cfgV at HC ⊢
 rw [cliErr19] at HC
 go_wp2_with fail
 refine HC.out.mono ?_
 rintro e w3 ⟨hb3, h, -⟩
 obtain ⟨R, m, rfl, hm0, hmR, hC3⟩ := h rfl
 have H3 := Lib.hid (And.intro hC3 (And.intro hm0 (And.intro hmR (And.intro (H2.out.1.below hb3) (H2.out.2.trans (hb3.mono H2.out.2.size))))))
 clear h hm0 hmR hC3 hb3 HC
 go_wp2_with fail
 refine (config19_ok w3).mono ?_
 rintro e w4 ⟨rfl, hb4⟩
 have H4 := Lib.hid (And.intro (H3.out.1.below hb4) (And.intro (H3.out.2.2.2.1.below hb4) (H3.out.2.2.2.2.trans (hb4.mono H3.out.2.2.2.2.size))))
 clear hb4
 have HE := Lib.hid (serEmpty_ok w4 30 2 100)
 unfold cfgV at HE ⊢
 rw [cfgErr19] at HE
 go_wp2_with fail
 refine HE.out.mono ?_
 rintro e w5 ⟨hb5, h, -⟩
 obtain ⟨T, rfl, -, -⟩ := h rfl
 have H5 := Lib.hid (And.intro (H4.out.1.below hb5) (And.intro (H4.out.2.1.below hb5) (H4.out.2.2.trans (hb5.mono H4.out.2.2.size))))
 clear h hb5 HE
 go_wp2_with fail
 have HS := Lib.hid (cliSubmit_ok w5 (fun _ => True) R L 100 1 m H5.out.1 [] [] (.slice none 0 0) (.slice none 0 0) ⟨RdK.nil _ _ _, Rd.nil _ _, RdK.nil _ _ _, by simp [I64f], by simp, by simp, by simp⟩ (HT.out.1.below H5.out.2.2) (by decide) (by decide))
 refine HS.out.mono ?_
 rintro e w6 (⟨h, -⟩ | ⟨-, rfl, A, Q, vo, va, hQ, hA0, hQ0, hAQ, ho, ha, hon⟩)
 ·exact absurd entE_nil h
 obtain ⟨A1, c1, rfl, -, -⟩ := ho.slice
 obtain ⟨A2, c2, rfl⟩ := rd_slice ha
 have hRl : R < w5.heap.size := (Array.getElem?_eq_some_iff.1 H5.out.1.1).1
 have hLl : L < w1.heap.size := (Array.getElem?_eq_some_iff.1 H1.out.2.1).1
 have hLm : L < m := by have := H3.out.2.1; have := H2.out.2.size; have := (Array.getElem?_eq_some_iff.1 H2.out.1).1; omega
 have hmR := H3.out.2.2.1
 have hap : CliApart (fun k => k = L) R m A Q := ⟨by omega, by omega, by omega, by omega, by omega, by omega, by omega, by omega, by omega, by omega⟩
 have hLs : LogAt w6 (fun k => k = L) L [] := (LogE.at_ (hon.heap H5.out.2.1 (by omega)))
 have hm6 := H5.out.1.2.only hon (by omega)
 have hb5g := H5.out.2.2
 have hO6 : Below w.heap.size w w6 := hb5g.trans (hon.belowN hb5g.size (fun k hk e => by have := hb5g.size; have := H3.out.2.1; have := H2.out.2.size; omega))
 have H6 := Lib.hid (And.intro hap hO6)
 have HY := Lib.hid (cliTry1_ok w6 _ _ _ R L 1 m A Q T A1 A2 c1 c2 0 0 hQ ho ha hm6 hLs (HT.out.1.below hO6) (HT.out.2.below hO6) hap)
 have HG := Lib.hid (show w.heap.size ≤ L ∧ w.heap.size ≤ m ∧ w.heap.size ≤ Q ∧ L < w6.heap.size ∧ m < w6.heap.size ∧ Q < w6.heap.size from by
  have := H1.out.1
  have := hb5g.size
  have e1 := hm6.lt
  have e2 := (Array.getElem?_eq_some_iff.1 hQ.2.2).1
  exact ⟨by omega, by omega, by omega, by omega, by omega, by omega⟩)
 clear hQ hA0 hQ0 hAQ ho ha hon hRl hLl hLm hmR hap hLs hm6 hb5g hO6 HS
 go_wp2_with fail
 refine HY.out.mono ?_
 rintro e w7 ⟨rfl, g, cg, hQ7, -, hg7, hm7, ho7⟩
 have hb7 : Below w.heap.size w w7 := H6.out.2.trans (ho7.belowN H6.out.2.size (fun k hk e => by have := HG.out; rcases e with e | e | e <;> omega))
 obtain ⟨-, -, -, -, n5, n6, n7, n8, n9, -⟩ := H6.out.1
 have HL := Lib.hid (tell1_ok w7 R L 100 m A Q _ _ g cg 0 0 hQ7 hm7 n5 n6 n7 n8 n9)
 have H7 := Lib.hid hb7
 clear hQ7 hg7 hm7 ho7 hb7 n5 n6 n7 n8 n9 HY
 go_wp2_with fail
 refine HL.out.mono ?_
 rintro e w8 ⟨rfl, hQ8, ho8⟩
 have hb8 : Below w.heap.size w w8 := H7.out.trans (ho8.belowN H7.out.size (fun k hk e => by have := HG.out; rcases e with e | e <;> omega))
 have HR := Lib.hid (reply1_ok w8 R L 100 1 m A Q _ _ g cg hQ8)
 have H8 := Lib.hid hb8
 clear hQ8 ho8 hb8 HL
 go_wp2_with fail
 refine HR.out.mono ?_
 rintro e w9 ⟨rfl, hb9⟩
 have hx := new_box w9 (.cells #[.int .i64 8, .int .i64 0, .int .i64 1] 68)
 have k9 := heap_alloc_new w9 (.cells #[.int .i64 8, .int .i64 0, .int .i64 1] 68)
 go_upto_region 10 with fail
 generalize w9.alloc (.cells #[.int .i64 8, .int .i64 0, .int .i64 1] 68) = wx at hx k9 ⊢
 generalize w9.heap.size = X at k9 ⊢
 have z0 : wx.cell? ⟨X, 0, none⟩ = some (.int .i64 8) := by simp [World.cell?, k9]
 have z1 : wx.cell? ⟨X, 1, none⟩ = some (.int .i64 0) := by simp [World.cell?, k9]
 have z2 : wx.cell? ⟨X, 2, none⟩ = some (.int .i64 1) := by simp [World.cell?, k9]
 have H9 := Lib.hid (H8.out.trans ((hb9.trans (hx.mono hb9.size)).mono H8.out.size))
 clear hx k9 hb9 HR
 have heq := eqRep 8 0 1 8 0 1
 rw [show decide ((8 : Int) = 8 ∧ (0 : Int) = 0 ∧ (1 : Int) = 1) = true from by decide] at heq
 have hgd := Tryz.guardRep
 go_wp2_with fail
 go_ret
 exact ⟨rfl, H9.out⟩
end
section
open Go.RowKit Go.Maps Go.WideShapes
attribute [local go_sem] Oper.semAt_some run_store_fnT
structure CE (w0 : World) (X Rb : Nat) (a b c k : Int) (W : World) : Prop where
 x : W.heap[X]? = some (.cells #[.int .i64 a, .int .i64 b, .int .i64 c, .int .i64 k] 55 (0, 0))
 r : W.heap[Rb]? = some (.cells #[.bool false] 4 (0, 0))
 b : Below w0.heap.size w0 W
 le : w0.heap.size ≤ Rb
section
variable {w0 W W' : World} {X Rb : Nat} {a b c k : Int}
theorem CE.only {S : Nat → Prop} (h : CE w0 X Rb a b c k W) (ho : Only S W W') (h1 : ¬ S X) (h2 : ¬ S Rb) (h3 : ∀ j, S j → w0.heap.size ≤ j) : CE w0 X Rb a b c k W' :=
 ⟨ho.heap h.x h1, ho.heap h.r h2, h.b.trans (ho.belowN h.b.size (fun j hj e => by have := h3 j e; omega)), h.le⟩
theorem CE.below (h : CE w0 X Rb a b c k W) (hb : Below W.heap.size W W') : CE w0 X Rb a b c k W' :=
 h.only (Only.of_below hb (fun _ => False)) (fun h => h) (fun h => h) (fun _ h => h.elim)
theorem CE.cells (h : CE w0 X Rb a b c k W) : W.cell? ⟨X, 0, none⟩ = some (.int .i64 a) ∧ W.cell? ⟨X, 1, none⟩ = some (.int .i64 b) ∧ W.cell? ⟨X, 2, none⟩ = some (.int .i64 c) ∧ W.cell? ⟨X, 3, none⟩ = some (.int .i64 k) := by
 refine ⟨?_, ?_, ?_, ?_⟩ <;> simp [World.cell?, h.x]
theorem CE.res (h : CE w0 X Rb a b c k W) : W.cell? ⟨Rb, 0, none⟩ = some (.bool false) ∧ W.frozen? ⟨Rb, 0, none⟩ = false := by
 refine ⟨?_, ?_⟩ <;> simp [World.cell?, World.frozen?, h.r]
theorem CE.done (h : CE w0 X Rb a b c k W) : (W.setCell ⟨Rb, 0, none⟩ (.bool true)).cell? ⟨Rb, 0, none⟩ = some (.bool true) ∧ Below w0.heap.size w0 (W.setCell ⟨Rb, 0, none⟩ (.bool true)) :=
 ⟨World.cell?_setCell_same' _ _ _ (by rw [h.res.1]; rfl), h.b.setCell (p := ⟨Rb, 0, none⟩) h.le _⟩
theorem CE.leave {D : Nat} (h : CE w0 X Rb a b c k W) (hk : W.heap[D]? = some (.deferred (some []))) (hD : w0.heap.size ≤ D) :
  (W.setCell ⟨Rb, 0, none⟩ (.bool true)).heap[D]? = some (.deferred (some [])) ∧ ((W.setCell ⟨Rb, 0, none⟩ (.bool true)).putObj D (.deferred none)).cell? ⟨Rb, 0, none⟩ = some (.bool true) ∧
   Below w0.heap.size w0 ((W.setCell ⟨Rb, 0, none⟩ (.bool true)).putObj D (.deferred none)) := by
 have hRD : Rb ≠ D := fun e => by have := h.r; rw [e, hk] at this; cases this
 refine ⟨(Below.heap_setCell _ _ _ _ (Ne.symm hRD)).trans hk, ?_, h.done.2.trans ((Only.putObj _ D _).belowN h.done.2.size (fun j _ e => by omega))⟩
 rw [World.cell?_of_block (World.putObj_heap_other hRD)]
 exact h.done.1
end
theorem run_equalIn_fnil (w : World) (d : Nat) (f : Fn) (x y : Array Value) : (Op.equalIn (d + 1) 72 (.func f x y) .nilFunc).run Tryz.prog w = .ok false w := by
 simp [Op.equalIn, run_underlying Tryz.underlying72]
theorem run_eql_fnil (w : World) (f : Fn) (x y : Array Value) : (binOp .eql 72 (.func f x y) .nilFunc).run Tryz.prog w = .ok (.bool false) w := by
 simp only [binOp]
 simp [Op.equal, Op.maxDepth, run_equalIn_fnil w 9999 f x y]
attribute [local go_sem] run_eql_fnil
set_option maxHeartbeats 8000000 in
theorem clierrs_law (w : World) (G : Nat → Prop) (vo va : Value) (l : List POp) (args : List Int) (a b c k : Int) (hE : EntRd w G ⟨0, l, args, []⟩ vo va (.slice none 0 0)) (hs : ShTab w) (hn : NibTab w) :
  Calls Tryz.prog 4 #[vo, va, .agg #[.int .i64 a, .int .i64 b, .int .i64 c, .int .i64 k]] w fun e w' => e = .returned (.bool true) ∧ Below w.heap.size w w' := by
 obtain ⟨A1, c1, rfl, -, hm1⟩ := hE.1.slice
 obtain ⟨A2, n2, c2, rfl, hl2, -, hm2, -⟩ := id hE.2.1
 have hl2 : args.length = n2 := by simpa [ivs] using hl2
 obtain ⟨n1, hn1⟩ : ∃ n, l.length = n := ⟨_, rfl⟩
 rw [show (FE.mk 0 l args []).ops.length = n1 from hn1] at hE ⊢
 have HE := Lib.hid (And.intro hE (And.intro hs (And.intro hn (And.intro hn1 hl2))))
 clear hE hs hn hn1 hl2 hm1 hm2
 have hb0 := new_box w (.cells #[.int .i64 a, .int .i64 b, .int .i64 c, .int .i64 k] 55)
 have k0 := heap_alloc_new w (.cells #[.int .i64 a, .int .i64 b, .int .i64 c, .int .i64 k] 55)
 have hbx := new_box (w.alloc (.cells #[.int .i64 a, .int .i64 b, .int .i64 c, .int .i64 k] 55)) (.cells #[.bool false] 4)
 have k1 := heap_alloc_new (w.alloc (.cells #[.int .i64 a, .int .i64 b, .int .i64 c, .int .i64 k] 55)) (.cells #[.bool false] 4)
 rw [show (w.alloc (.cells #[.int .i64 a, .int .i64 b, .int .i64 c, .int .i64 k] 55)).heap.size = w.heap.size + 1 by simp] at k1
 have H1 := Lib.hid (show CE w w.heap.size (w.heap.size + 1) a b c k ((w.alloc (.cells #[.int .i64 a, .int .i64 b, .int .i64 c, .int .i64 k] 55)).alloc (.cells #[.bool false] 4)) from ⟨(Only.of_below hbx (fun _ => False)).heap k0 (fun h => h), k1, hb0.trans (hbx.mono hb0.size), by omega⟩)
 clear hb0 k0 hbx k1
 refine calls_marks Tryz.func4 rfl ?_
 simp only [Tryz.ntmps4, List.size_toArray, List.length_cons, List.length_nil, Nat.reduceAdd, Nat.reduceSub, Array.replicate_succ, Array.replicate_zero, List.push_toArray, List.append_toArray, List.nil_append, List.cons_append]
 go_upto_region 1 with fail
 generalize (w.alloc (.cells #[.int .i64 a, .int .i64 b, .int .i64 c, .int .i64 k] 55)).alloc (.cells #[.bool false] 4) = w1 at H1 ⊢
 obtain ⟨X, hX⟩ : ∃ x, w.heap.size = x := ⟨_, rfl⟩
 obtain ⟨Rb, hRb⟩ : ∃ x, w.heap.size + 1 = x := ⟨_, rfl⟩
 rw [hX] at H1 ⊢
 rw [hX] at hRb
 rw [hRb] at H1 ⊢
 have HX := Lib.hid (And.intro hX hRb)
 clear hX hRb
 by_cases g1 : (80 : Int) < (n1 : Int)
 ·go_wp2_with fail
  refine (awake19_ok _ (HE.out.2.1.below H1.out.b) (HE.out.2.2.1.below H1.out.b)).mono ?_
  rintro e wz ⟨rfl, hbz⟩
  have HZ := Lib.hid (H1.out.below hbz)
  obtain ⟨y1, y2⟩ := HZ.out.res
  clear hbz
  go_wp2_with fail
  exact ⟨_, by simp [results, Tryz.results4, go_sem, HZ.out.done.1], rfl, HZ.out.done.2⟩
 by_cases g2 : (20 : Int) < (n2 : Int)
 ·go_wp2_with fail
  refine (awake19_ok _ (HE.out.2.1.below H1.out.b) (HE.out.2.2.1.below H1.out.b)).mono ?_
  rintro e wz ⟨rfl, hbz⟩
  have HZ := Lib.hid (H1.out.below hbz)
  obtain ⟨y1, y2⟩ := HZ.out.res
  clear hbz
  go_wp2_with fail
  exact ⟨_, by simp [results, Tryz.results4, go_sem, HZ.out.done.1], rfl, HZ.out.done.2⟩
 go_wp2_with fail
 refine (logNew0_ok w1).mono ?_
 rintro e w2 ⟨L, rfl, hL0, hL, hb2⟩
 have H2 := Lib.hid (And.intro (H1.out.below hb2) (And.intro hL (And.intro hL0 (lt_heap hL))))
 have HL := Lib.hid (And.intro g1 g2)
 clear hL0 hL hb2 g1 g2
 obtain ⟨z0, z1, z2, z3⟩ := H2.out.1.cells
 have HC := Lib.hid (cliNew_ok w2 L a b c k)
 unfold cfgV at HC
 go_wp2_with fail
 refine HC.out.mono ?_
 rintro e w3 ⟨hb3, he, he'⟩
 obtain ⟨pv, er, rfl, hex⟩ : ∃ (pv : Value) (er : Int), e = .returned (.tuple #[pv, .int .i64 er]) ∧ er = cliErr a b c k ∧ ((er = 0 ∧ ∃ R m, pv = .pointer (some ⟨R, 0, none⟩) ∧ w2.heap.size ≤ m ∧ m < R ∧ CliE w3 R L c k m) ∨ (er ≠ 0 ∧ pv = .pointer none)) := by
  by_cases h0 : cliErr a b c k = 0
  ·obtain ⟨R, m, h, h1, h2, h3⟩ := he h0
   exact ⟨_, 0, h, h0.symm, .inl ⟨rfl, R, m, rfl, h1, h2, h3⟩⟩
  ·exact ⟨_, _, he' h0, rfl, .inr ⟨h0, rfl⟩⟩
 have H3 := Lib.hid (And.intro (H2.out.1.below hb3) (And.intro (H2.out.2.1.below hb3) hex))
 clear z0 z1 z2 z3 hb3 he he' hex HC
 obtain ⟨z0, z1, z2, z3⟩ := H3.out.1.cells
 have HN := Lib.hid (cliNewNil_ok w3 a b c k)
 unfold cfgV at HN
 go_wp2_with fail
 refine HN.out.mono ?_
 rintro e w4 ⟨rfl, hb4⟩
 have H4 := Lib.hid (And.intro (H3.out.1.below hb4) (And.intro (H3.out.2.1.below hb4) hb4))
 clear z0 z1 z2 z3 hb4 HN
 obtain ⟨z0, z1, z2, z3⟩ := H4.out.1.cells
 have HC := Lib.hid (serCheck_ok w4 a b c)
 unfold cfgV at HC
 go_wp2_with fail
 refine HC.out.mono ?_
 rintro e w5 ⟨rfl, hb5⟩
 have H5 := Lib.hid (And.intro (H4.out.1.below hb5) (And.intro (H4.out.2.1.below hb5) (H4.out.2.2.trans (hb5.mono H4.out.2.2.size))))
 clear z0 z1 z2 z3 hb5 HC
 obtain ⟨z0, z1, z2, z3⟩ := H5.out.1.cells
 go_upto_region 7 with fail
 obtain ⟨tb, htb⟩ : ∃ tb : Bool, tb = decide (cfgErr a b c = 0 ∧ (k < 1 ∨ 16 < k)) := ⟨_, rfl⟩
 have HTB := Lib.hid htb
 clear htb
 go_cut [13, 73] from 62 to 73 (fun s13 s73 wx => s13 = .int .i64 (cfgErr a b c) ∧ s73 = .bool tb ∧ wx = w5)
 case first =>
  by_cases h0 : cfgErr a b c = 0
  ·have hq2 : (cfgErr a b c == 0) = true := by simpa using h0
   have HH := Lib.hid h0
   clear h0
   by_cases h1 : k < 1
   ·go_wp2_with fail
    go_meet
    exact ⟨rfl, by rw [HTB.out]; simp [h1, HH.out], rfl⟩
   ·by_cases h2 : 16 < k
    ·go_wp2_with fail
     go_meet
     exact ⟨rfl, by rw [HTB.out]; simp [h2, HH.out], rfl⟩
    ·go_wp2_with fail
     go_meet
     exact ⟨rfl, by rw [HTB.out]; simp [h1, h2], rfl⟩
  ·have hq2 : (cfgErr a b c == 0) = false := by simpa using h0
   go_wp2_with fail
   go_meet
   exact ⟨rfl, by rw [HTB.out]; simp [h0], rfl⟩
 case rest =>
 obtain ⟨rfl, rfl, hwc⟩ := hcut
 obtain rfl := hwc.symm
 go_upto_if 73 with fail
 go_cut [13] from 62 to 73 (fun s13 wx => s13 = .int .i64 er ∧ wx = w5)
 case first =>
  have hq := H3.out.2.2.1
  unfold cliErr at hq
  cases tb with
  | true =>
   have ht := of_decide_eq_true HTB.out.symm
   rw [if_pos ht.1, if_pos ht.2] at hq
   have HQ := Lib.hid hq
   clear hq ht
   go_wp2_with fail
   go_meet
   exact ⟨by rw [HQ.out], rfl⟩
  | false =>
   have ht := of_decide_eq_false HTB.out.symm
   have hq3 : er = cfgErr a b c := by
    rw [hq]
    by_cases h0 : cfgErr a b c = 0
    ·rw [if_pos h0, if_neg (fun h => ht ⟨h0, h⟩), h0]
    ·rw [if_neg h0]
   have HQ := Lib.hid hq3
   clear hq ht hq3
   go_wp2_with fail
   go_meet
   exact ⟨by rw [HQ.out], rfl⟩
 case rest =>
  obtain ⟨rfl, rfl⟩ := hcut
  clear z0 z1 z2 z3
  have HEX := Lib.hid H3.out.2.2.2
  rcases HEX.out with ⟨rfl, R, m, rfl, hm0, hmR, hC⟩ | ⟨her, rfl⟩
  ·have HG := Lib.hid (And.intro (hC.below H5.out.2.2) (And.intro hm0 hmR))
   clear hm0 hmR hC
   go_wp2_with fail
   refine (nilSubmit_ok _ _ _ _ _ _ _).mono ?_
   rintro e wx ⟨rfl, rfl⟩
   go_wp2_with fail
   refine (nilTry_ok _ _ _).mono ?_
   rintro e wx ⟨rfl, rfl⟩
   go_wp2_with fail
   refine (nilState_ok _ _).mono ?_
   rintro e wx ⟨rfl, rfl⟩
   go_wp2_with fail
   refine (nilReply_ok _ _).mono ?_
   rintro e w6 ⟨rfl, hb6⟩
   have hx6 := new_box w6 (.cells #[.int .i64 0, .int .i64 0, .int .i64 0] 68)
   have H6 := Lib.hid (hb6.trans (hx6.mono hb6.size))
   clear hb6 hx6
   go_upto_region 16 with fail
   generalize w6.alloc (.cells #[.int .i64 0, .int .i64 0, .int .i64 0] 68) = w7 at H6 ⊢
   go_wp2_with fail
   refine (nilWaits_ok _).mono ?_
   rintro e w8 ⟨B, rfl, hb8, kB⟩
   have H8 := Lib.hid (And.intro (H6.out.trans (hb8.mono H6.out.size)) kB)
   clear hb8 kB
   go_wp2_with fail
   refine (nilTell_ok _ 0 0 0 0).mono ?_
   rintro e w9 ⟨rfl, hb9⟩
   have H9 := Lib.hid (And.intro (H8.out.1.trans (hb9.mono H8.out.1.size)) ((Only.of_below hb9 (fun _ => False)).heap H8.out.2 (fun h => h)))
   clear hb9
   go_wp2_with fail
   refine (nilPlaces_ok _ _).mono ?_
   rintro e wx ⟨rfl, rfl⟩
   go_wp2_with fail
   refine (nilLen_ok _).mono ?_
   rintro e wx ⟨rfl, rfl⟩
   go_wp2_with fail
   refine range_none rfl (enters_of Tryz.func48 (by kernel_rfl) rfl) (nilWaits_seq _ B H9.out.2) (fun k hk => by rw [hk]; exact lt_heap H9.out.2) ?_
   intro D W hD hoD hk
   have HD := Lib.hid (And.intro (H9.out.1.trans (hoD.belowN H9.out.1.size (fun _ _ h => h.elim))) (And.intro hk (Nat.le_trans H9.out.1.size hD)))
   clear hD hoD hk
   have HC := Lib.hid (show CE w X Rb a b c k W ∧ W.heap[D]? = some (.deferred (some [])) ∧ w.heap.size ≤ D ∧ LogE W L ∧ CliE W R L c k m ∧ R < D from ⟨H5.out.1.below HD.out.1, HD.out.2.1, Nat.le_trans H5.out.1.b.size HD.out.2.2, H5.out.2.1.below HD.out.1, HG.out.1.below HD.out.1, Nat.lt_of_lt_of_le (lt_heap HG.out.1.1) HD.out.2.2⟩)
   clear H6 H8 H9
   have HR := Lib.hid (show X < R ∧ Rb < R ∧ w.heap.size ≤ R ∧ L < R from by
    have e1 := lt_heap H1.out.x
    have e2 := lt_heap H1.out.r
    have e3 := HG.out.2
    have e4 := H2.out.2.2
    have e5 := HX.out
    omega)
   go_wp2_with fail
   refine (cliSubmit_ok W G R L c k m HC.out.2.2.2.2.1 l args _ _ (HE.out.1.below HC.out.1.b) (HE.out.2.1.below HC.out.1.b) (by have := HE.out.2.2.2.1; have := HL.out.1; omega) (by have := HE.out.2.2.2.2; have := HL.out.2; omega)).mono ?_
   obtain ⟨ee, hee⟩ : ∃ ee, entE ⟨0, l, args, []⟩ = ee := ⟨_, rfl⟩
   rintro e wa (⟨h0, rfl, hba⟩ | ⟨h0, rfl, A, Q, vo2, va2, hQ, hA0, hQ0, hAQ, ho, ha, hon⟩)
   ·rw [hee] at h0 ⊢
    have HA := Lib.hid (show CE w X Rb a b c k wa ∧ wa.heap[D]? = some (.deferred (some [])) ∧ w.heap.size ≤ D ∧ CliE wa R L c k m from ⟨HC.out.1.below hba, (Only.of_below hba (fun _ => False)).heap HC.out.2.1 (fun h => h), HC.out.2.2.1, HC.out.2.2.2.2.1.below hba⟩)
    have HF := Lib.hid (fcheck_ok wa G _ _ _ _ (HE.out.1.below HA.out.1.b) (HE.out.2.1.below HA.out.1.b) (by simp))
    unfold entV at HF
    rw [hee] at HF
    clear hba
    go_wp2_with fail
    refine HF.out.mono ?_
    rintro e wb ⟨rfl, hbb⟩
    have HB := Lib.hid (show CE w X Rb a b c k wb ∧ wb.heap[D]? = some (.deferred (some [])) ∧ w.heap.size ≤ D ∧ CliE wb R L c k m from ⟨HA.out.1.below hbb, (Only.of_below hbb (fun _ => False)).heap HA.out.2.1 (fun h => h), HA.out.2.2.1, HA.out.2.2.2.below hbb⟩)
    clear hbb HF
    go_wp2_with fail
    refine (cliTry0_ok wb R L c k m HB.out.2.2.2 none).mono ?_
    rintro e wx ⟨rfl, rfl⟩
    have hq1 : (ee != 0) = true := by simpa using h0
    have hq2 : (ee == 0) = false := by simpa using h0
    go_wp2_with fail
    refine (cliLen0_ok wb R L c k m HB.out.2.2.2).mono ?_
    rintro e wx ⟨rfl, rfl⟩
    go_wp2_with fail
    refine (awake19_ok _ (HE.out.2.1.below HB.out.1.b) (HE.out.2.2.1.below HB.out.1.b)).mono ?_
    rintro e wz ⟨rfl, hbz⟩
    have HZ := Lib.hid (And.intro (HB.out.1.below hbz) ((Only.of_below hbz (fun _ => False)).heap HB.out.2.1 (fun h => h)))
    obtain ⟨y1, y2⟩ := HZ.out.1.res
    clear hbz
    go_wp2_with fail
    obtain ⟨q1, q2, q3⟩ := HZ.out.1.leave HZ.out.2 HB.out.2.2.1
    refine leave_mark (v := .bool true) q1 (by simp [results, Tryz.results4, go_sem, q2]) ⟨rfl, q3⟩
   ·rw [hee] at h0
    subst h0
    have hcw : CE w X Rb a b c k wa := HC.out.1.only hon (by have := HR.out; omega) (by have := HR.out; omega) (fun j e => by have := HR.out; omega)
    obtain ⟨B1, d1, rfl, -, -⟩ := ho.slice
    obtain ⟨B2, e2, d2, rfl, -⟩ := ha
    have HA := Lib.hid (show CE w X Rb a b c k wa ∧ wa.heap[D]? = some (.deferred (some [])) ∧ w.heap.size ≤ D ∧ CliQ wa R L c k m A Q _ _ 1 (.slice none 0 0) 0 0 ∧ LogE wa L from ⟨hcw, hon.heap HC.out.2.1 (by have := HC.out.2.2.2.2.2; omega), HC.out.2.2.1, hQ, hon.heap HC.out.2.2.2.1 (by have := HR.out; omega)⟩)
    have HF := Lib.hid (fcheck_ok wa G _ _ _ _ (HE.out.1.below HA.out.1.b) (HE.out.2.1.below HA.out.1.b) (by simp))
    unfold entV at HF
    rw [hee] at HF
    clear hcw hQ hA0 hQ0 hAQ ho hon
    go_wp2_with fail
    refine HF.out.mono ?_
    rintro e wb ⟨rfl, hbb⟩
    have HB := Lib.hid (show CE w X Rb a b c k wb ∧ wb.heap[D]? = some (.deferred (some [])) ∧ w.heap.size ≤ D ∧ CliQ wb R L c k m A Q _ _ 1 (.slice none 0 0) 0 0 ∧ LogE wb L from ⟨HA.out.1.below hbb, (Only.of_below hbb (fun _ => False)).heap HA.out.2.1 (fun h => h), HA.out.2.2.1, HA.out.2.2.2.1.below hbb, HA.out.2.2.2.2.below hbb⟩)
    clear hbb HF
    go_wp2_with fail
    refine (cliTryNil_ok wb R L c k m A Q _ _ _ _ _ _ _ _ _ HB.out.2.2.2.1).mono ?_
    rintro e wc ⟨rfl, hbc⟩
    have HY := Lib.hid (show CE w X Rb a b c k wc ∧ wc.heap[D]? = some (.deferred (some [])) ∧ w.heap.size ≤ D ∧ CliQ wc R L c k m A Q _ _ 1 (.slice none 0 0) 0 0 ∧ LogE wc L from ⟨HB.out.1.below hbc, (Only.of_below hbc (fun _ => False)).heap HB.out.2.1 (fun h => h), HB.out.2.2.1, HB.out.2.2.2.1.below hbc, HB.out.2.2.2.2.below hbc⟩)
    clear hbc
    go_wp2_with fail
    refine (cliLen1_ok wc R L c k m A Q _ _ _ _ _ _ HY.out.2.2.2.1).mono ?_
    rintro e wx ⟨rfl, rfl⟩
    go_wp2_with fail
    refine (loglen_ok wc _ L [] HY.out.2.2.2.2.at_).mono ?_
    rintro e wx ⟨rfl, rfl⟩
    go_wp2_with fail
    refine (awake19_ok _ (HE.out.2.1.below HY.out.1.b) (HE.out.2.2.1.below HY.out.1.b)).mono ?_
    rintro e wz ⟨rfl, hbz⟩
    have HZ := Lib.hid (And.intro (HY.out.1.below hbz) ((Only.of_below hbz (fun _ => False)).heap HY.out.2.1 (fun h => h)))
    obtain ⟨y1, y2⟩ := HZ.out.1.res
    clear hbz
    go_wp2_with fail
    obtain ⟨q1, q2, q3⟩ := HZ.out.1.leave HZ.out.2 HY.out.2.2.1
    refine leave_mark (v := .bool true) q1 (by simp [results, Tryz.results4, go_sem, q2]) ⟨rfl, q3⟩
  ·have hq1 : (er != 0) = true := by simpa using her
   have hq2 : (er == 0) = false := by simpa using her
   have HZ0 := Lib.hid her
   clear her
   go_wp2_with fail
   refine (nilSubmit_ok _ _ _ _ _ _ _).mono ?_
   rintro e wx ⟨rfl, rfl⟩
   go_wp2_with fail
   refine (nilTry_ok _ _ _).mono ?_
   rintro e wx ⟨rfl, rfl⟩
   go_wp2_with fail
   refine (nilState_ok _ _).mono ?_
   rintro e wx ⟨rfl, rfl⟩
   go_wp2_with fail
   refine (nilReply_ok _ _).mono ?_
   rintro e w6 ⟨rfl, hb6⟩
   have hx6 := new_box w6 (.cells #[.int .i64 0, .int .i64 0, .int .i64 0] 68)
   have H6 := Lib.hid (hb6.trans (hx6.mono hb6.size))
   clear hb6 hx6
   go_upto_region 16 with fail
   generalize w6.alloc (.cells #[.int .i64 0, .int .i64 0, .int .i64 0] 68) = w7 at H6 ⊢
   go_wp2_with fail
   refine (nilWaits_ok _).mono ?_
   rintro e w8 ⟨B, rfl, hb8, kB⟩
   have H8 := Lib.hid (And.intro (H6.out.trans (hb8.mono H6.out.size)) kB)
   clear hb8 kB
   go_wp2_with fail
   refine (nilTell_ok _ 0 0 0 0).mono ?_
   rintro e w9 ⟨rfl, hb9⟩
   have H9 := Lib.hid (And.intro (H8.out.1.trans (hb9.mono H8.out.1.size)) ((Only.of_below hb9 (fun _ => False)).heap H8.out.2 (fun h => h)))
   clear hb9
   go_wp2_with fail
   refine (nilPlaces_ok _ _).mono ?_
   rintro e wx ⟨rfl, rfl⟩
   go_wp2_with fail
   refine (nilLen_ok _).mono ?_
   rintro e wx ⟨rfl, rfl⟩
   go_wp2_with fail
   refine range_none rfl (enters_of Tryz.func48 (by kernel_rfl) rfl) (nilWaits_seq _ B H9.out.2) (fun k hk => by rw [hk]; exact lt_heap H9.out.2) ?_
   intro D W hD hoD hk
   have HD := Lib.hid (And.intro (H9.out.1.trans (hoD.belowN H9.out.1.size (fun _ _ h => h.elim))) (And.intro hk (Nat.le_trans H9.out.1.size hD)))
   clear hD hoD hk
   have HC := Lib.hid (show CE w X Rb a b c k W ∧ W.heap[D]? = some (.deferred (some [])) ∧ w.heap.size ≤ D ∧ True from ⟨H5.out.1.below HD.out.1, HD.out.2.1, Nat.le_trans H5.out.1.b.size HD.out.2.2, trivial⟩)
   go_wp2_with fail
   refine (awake19_ok _ (HE.out.2.1.below HC.out.1.b) (HE.out.2.2.1.below HC.out.1.b)).mono ?_
   rintro e wz ⟨rfl, hbz⟩
   have HZ := Lib.hid (And.intro (HC.out.1.below hbz) ((Only.of_below hbz (fun _ => False)).heap HC.out.2.1 (fun h => h)))
   obtain ⟨y1, y2⟩ := HZ.out.1.res
   clear hbz
   go_wp2_with fail
   obtain ⟨q1, q2, q3⟩ := HZ.out.1.leave HZ.out.2 HC.out.2.2.1
   refine leave_mark (v := .bool true) q1 (by simp [results, Tryz.results4, go_sem, q2]) ⟨rfl, q3⟩
end
end Go.Proofs.YtagemonojdgbdaaGreatDoor
