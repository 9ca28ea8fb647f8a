/- Locks that hold nothing: New, Ready. -/
import Derived.Test.YtiacbhnkcllpjaaGreatDoorTree
namespace Go.Proofs.YtiacbhnkcllpjaaGreatDoor
set_option maxRecDepth 100000
open Go.RowKit

/-- A Locks that holds nothing. -/
def LkE (w : World) (b : Nat) : Prop := ∃ m1 m2 m3 : Nat, w.heap[b]? = some (.cells #[.bool false, .int .i64 0, .slice none 0 0, .map (some m1), .map (some m2), .map (some m3)] 227 (0, 0))
theorem LkE.below {w w' : World} {b : Nat} (h : LkE w b) (hb : Below w.heap.size w w') : LkE w' b := by
  obtain ⟨m1, m2, m3, h⟩ := h
  exact ⟨m1, m2, m3, (Only.of_below hb (fun _ => False)).heap h (fun h => h)⟩
set_option maxRecDepth 100000 in
theorem lkNew0_ok (w : World) : Calls Tryz.prog 62 #[] w fun e w' => ∃ b, e = .returned (.pointer (some ⟨b, 0, none⟩)) ∧ w.heap.size ≤ b ∧ LkE w' b ∧ Below w.heap.size w w' := by
  have hmm := @run_makeMap Tryz.prog
  have b1 := new_box w (.map #[] 0)
  have b2 := new_box (w.alloc (.map #[] 0)) (.map #[] 0)
  have b3 := new_box ((w.alloc (.map #[] 0)).alloc (.map #[] 0)) (.map #[] 0)
  have b4 := new_box (((w.alloc (.map #[] 0)).alloc (.map #[] 0)).alloc (.map #[] 0)) (.cells #[.bool false, .int .i64 0, .slice none 0 0, .map (some w.heap.size), .map (some (w.heap.size + 1)), .map (some (w.heap.size + 1 + 1))] 227)
  have k4 := heap_alloc_new (((w.alloc (.map #[] 0)).alloc (.map #[] 0)).alloc (.map #[] 0)) (.cells #[.bool false, .int .i64 0, .slice none 0 0, .map (some w.heap.size), .map (some (w.heap.size + 1)), .map (some (w.heap.size + 1 + 1))] 227)
  rw [show (((w.alloc (.map #[] 0)).alloc (.map #[] 0)).alloc (.map #[] 0)).heap.size = w.heap.size + 3 by simp] at k4
  have HB := Lib.hid (And.intro (b1.trans ((b2.trans ((b3.trans (b4.mono (by simp))).mono (by simp))).mono (by simp))) k4)
  clear b1 b2 b3 b4 k4
  go_enter Tryz.func62, Tryz.ntmps62
  go_wp2_with fail
  go_ret
  exact ⟨w.heap.size + 3, by simp, by omega, ⟨_, _, _, HB.out.2⟩, HB.out.1⟩
set_option maxRecDepth 100000 in
theorem those0_ok (w : World) (b : Nat) (f : Value) (h : LkE w b) : Calls Tryz.prog 109 #[.pointer (some ⟨b, 0, none⟩), f] w fun e w' => e = .returned (.slice none 0 0) ∧ w' = w := by
  obtain ⟨m1, m2, m3, h⟩ := h
  have z0 : w.cell? ⟨b, 2, none⟩ = some (.slice none 0 0) := by simp [World.cell?, h]
  clear h
  go_enter Tryz.func109, Tryz.ntmps109
  go_wp2_with fail
  go_step3
  go_wp2_with fail
  go_step3
  go_wp2_with fail
  go_loopw [5, 13] (fun v i wr => v = .slice none 0 0 ∧ i = .int .i64 0 ∧ wr = w) (fun _ _ _ => 0)
  case atStart => exact ⟨rfl, rfl, rfl⟩
  case round =>
    obtain ⟨rfl, rfl, rfl⟩ := hrel
    go_wp2_with fail
    rw [Exit.noGoto_ret]
    go_ret
    exact ⟨rfl, rfl⟩
set_option maxRecDepth 100000 in
theorem lkReady0_ok (w : World) (b : Nat) (h : LkE w b) : Calls Tryz.prog 66 #[.pointer (some ⟨b, 0, none⟩)] w fun e w' => e = .returned (.slice none 0 0) ∧ Below w.heap.size w w' := by
  have H := Lib.hid (fun f => those0_ok w b f h)
  clear h
  go_enter Tryz.func66, Tryz.ntmps66
  go_wp2_with fail
  refine (H.out _).mono ?_
  rintro e w1 ⟨rfl, rfl⟩
  go_wp2_with fail
  go_ret
  exact ⟨rfl, Below.refl _ _⟩
end Go.Proofs.YtiacbhnkcllpjaaGreatDoor
