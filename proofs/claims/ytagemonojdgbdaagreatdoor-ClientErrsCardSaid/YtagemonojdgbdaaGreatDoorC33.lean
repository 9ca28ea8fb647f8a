import Derived.Test.YtagemonojdgbdaaGreatDoorC07
import Derived.Test.YtagemonojdgbdaaGreatDoorC08
import Derived.Test.YtagemonojdgbdaaGreatDoorC32
namespace Go.Proofs.YtagemonojdgbdaaGreatDoor
set_option maxRecDepth 100000
open Go.RowKit
section
open Go.RowKit Go.Maps Go.WideShapes
theorem nilSubmit_ok (w : World) (A1 A2 : Option Addr) (n1 c1 n2 c2 : Nat) : Calls Tryz.prog 18 #[.pointer none, .slice A1 n1 c1, .slice A2 n2 c2] w fun e w' => e = .returned (.tuple #[.int .i64 0, .int .i64 2]) ∧ w' = w := by
 go_enter Tryz.func18, Tryz.ntmps18
 go_wp2_with fail
 go_ret2
 exact ⟨rfl, rfl⟩
theorem nilTry_ok (w : World) (k : Int) (t : Option Addr) : Calls Tryz.prog 19 #[.pointer none, .int .i64 k, .pointer t] w fun e w' => e = .returned (.tuple #[.int .i64 0, .int .i64 2]) ∧ w' = w := by
 go_enter Tryz.func19, Tryz.ntmps19
 go_wp2_with fail
 go_ret2
 exact ⟨rfl, rfl⟩
theorem nilState_ok (w : World) (k : Int) : Calls Tryz.prog 20 #[.pointer none, .int .i64 k] w fun e w' => e = .returned (.tuple #[.int .i64 0, .int .i64 2]) ∧ w' = w := by
 go_enter Tryz.func20, Tryz.ntmps20
 go_wp2_with fail
 go_ret2
 exact ⟨rfl, rfl⟩
theorem nilLen_ok (w : World) : Calls Tryz.prog 25 #[.pointer none] w fun e w' => e = .returned (.int .i64 0) ∧ w' = w := by
 go_enter Tryz.func25, Tryz.ntmps25
 go_wp2_with fail
 go_ret
 exact ⟨rfl, rfl⟩
theorem nilFind_ok (w : World) (k : Int) : Calls Tryz.prog 45 #[.pointer none, .int .i64 k] w fun e w' => e = .returned (.pointer none) ∧ w' = w := by
 go_enter Tryz.func45, Tryz.ntmps45
 go_wp2_with fail
 go_ret
 exact ⟨rfl, rfl⟩
theorem nilPlaces_ok (w : World) (k : Int) : Calls Tryz.prog 24 #[.pointer none, .int .i64 k] w fun e w' => e = .returned (.slice none 0 0) ∧ w' = w := by
 go_enter Tryz.func24, Tryz.ntmps24
 go_wp2_with fail
 refine (nilFind_ok w k).mono ?_
 rintro e w1 ⟨rfl, rfl⟩
 go_wp2_with fail
 go_ret
 exact ⟨rfl, rfl⟩
theorem nilTell_ok (w : World) (k a b c : Int) : Calls Tryz.prog 23 #[.pointer none, .int .i64 k, .agg #[.int .i64 a, .int .i64 b, .int .i64 c]] w fun e w' => e = .returned (.int .i64 2) ∧ Below w.heap.size w w' := by
 have hb := Lib.hid (new_box w (.cells #[.int .i64 a, .int .i64 b, .int .i64 c] 76))
 go_enter Tryz.func23, Tryz.ntmps23
 go_wp2_with fail
 go_ret
 first | exact ⟨rfl, hb.out⟩ | exact ⟨rfl, Below.refl _ _⟩
theorem nilReply_ok (w : World) (k : Int) : Calls Tryz.prog 21 #[.pointer none, .int .i64 k] w fun e w' => e = .returned (.tuple #[.agg #[.int .i64 0, .int .i64 0, .int .i64 0], .int .i64 2]) ∧ Below w.heap.size w w' := by
 have hb := new_box w (.cells #[.int .i64 0, .int .i64 0, .int .i64 0] 68)
 have k0 := heap_alloc_new w (.cells #[.int .i64 0, .int .i64 0, .int .i64 0] 68)
 go_enter Tryz.func21, Tryz.ntmps21
 go_upto_region 1 with fail
 generalize w.alloc (.cells #[.int .i64 0, .int .i64 0, .int .i64 0] 68) = w1 at hb k0 ⊢
 obtain ⟨C, hC⟩ : ∃ x, w.heap.size = x := ⟨_, rfl⟩
 rw [hC] at k0 ⊢
 have z0 : w1.cell? ⟨C, 0, none⟩ = some (.int .i64 0) := by simp [World.cell?, k0]
 have z1 : w1.cell? ⟨C, 1, none⟩ = some (.int .i64 0) := by simp [World.cell?, k0]
 have z2 : w1.cell? ⟨C, 2, none⟩ = some (.int .i64 0) := by simp [World.cell?, k0]
 have y0 : w1.frozen? ⟨C, 0, none⟩ = false := by simp [World.frozen?, k0]
 have y1 : w1.frozen? ⟨C, 1, none⟩ = false := by simp [World.frozen?, k0]
 have y2 : w1.frozen? ⟨C, 2, none⟩ = false := by simp [World.frozen?, k0]
 have HB := Lib.hid (And.intro hb (And.intro k0 hC))
 clear hb k0 hC
 go_wp2_with fail
 have hp := put3r (v0 := .int .i64 0) (v1 := .int .i64 0) (v2 := .int .i64 0) HB.out.2.1
 exact bodyPost_ret (results_cell_row2 rfl _ _ _ _ _ _ _ rfl hp Tryz.underlying68 rfl (by kernel_rfl)) rfl ⟨rfl, ((HB.out.1.setCell (p := ⟨C, 0, none⟩) (Nat.le_of_eq HB.out.2.2) _).setCell (p := ⟨C, 1, none⟩) (Nat.le_of_eq HB.out.2.2) _).setCell (p := ⟨C, 2, none⟩) (Nat.le_of_eq HB.out.2.2) _⟩
theorem cliNewNil_ok (w : World) (most n f k : Int) : Calls Tryz.prog 16 #[.pointer none, cfgV most n f, .int .i64 k] w fun e w' => e = .returned (.tuple #[.pointer none, .int .i64 2]) ∧ Below w.heap.size w w' := by
 unfold cfgV
 have hb := Lib.hid (new_box w (.cells #[.int .i64 most, .int .i64 n, .int .i64 f] 53))
 go_enter Tryz.func16, Tryz.ntmps16
 go_wp2_with fail
 go_ret2
 exact ⟨rfl, hb.out⟩
end
end Go.Proofs.YtagemonojdgbdaaGreatDoor
