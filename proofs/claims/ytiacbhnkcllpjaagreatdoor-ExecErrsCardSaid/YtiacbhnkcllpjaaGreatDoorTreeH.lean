/- A table without rows has none of a key. -/
import Derived.Test.YtiacbhnkcllpjaaGreatDoorTreeG
import Derived.Test.YtiacbhnkcllpjaaGreatDoorFoot
namespace Go.Proofs.YtiacbhnkcllpjaaGreatDoor
set_option maxRecDepth 100000
open Go.RowKit

theorem put4r {w : World} {B : Nat} {a0 a1 a2 a3 v0 v1 v2 v3 : Value} {t : TypeId} (h : w.heap[B]? = some (.cells #[a0, a1, a2, a3] t (0, 0))) :
    ((((w.setCell ⟨B, 0, none⟩ v0).setCell ⟨B, 1, none⟩ v1).setCell ⟨B, 2, none⟩ v2).setCell ⟨B, 3, none⟩ v3).heap[B]? = some (.cells #[v0, v1, v2, v3] t (0, 0)) := by
  have h0 := heap_setCell_same w B 0 _ t v0 h
  have h1 := heap_setCell_same _ B 1 _ t v1 h0
  have h2 := heap_setCell_same _ B 2 _ t v2 h1
  have h3 := heap_setCell_same _ B 3 _ t v3 h2
  simpa using h3
def zeroRow : Value := .agg #[.int .i64 0, .int .i64 0, .int .i64 0, .int .i64 0]
set_option maxRecDepth 100000 in
set_option maxHeartbeats 1000000 in
theorem tableGet0_ok (w : World) (T L : Nat) (most n : Int) (s : ByteArray) (hs1 : 1 ≤ s.size) (hs2 : s.size ≤ 16) (h : TableE w T most n L) : Calls Tryz.prog 93 #[.pointer (some ⟨T, 0, none⟩), .string s] w fun e w' => e = .returned (.tuple #[zeroRow, .int .i64 14]) ∧ Below w.heap.size w w' := by
  have hb0 := new_box w (.cells #[.int .i64 0, .int .i64 0, .int .i64 0, .int .i64 0] 82)
  have k0 := heap_alloc_new w (.cells #[.int .i64 0, .int .i64 0, .int .i64 0, .int .i64 0] 82)
  have h1 := h.below hb0
  go_enter Tryz.func93, Tryz.ntmps93
  go_upto_region 1 with fail
  generalize w.alloc (.cells #[.int .i64 0, .int .i64 0, .int .i64 0, .int .i64 0] 82) = w1 at hb0 k0 h1 ⊢
  obtain ⟨R, hR⟩ : ∃ x, w.heap.size = x := ⟨_, rfl⟩
  rw [hR] at k0 ⊢
  have HR := Lib.hid (And.intro hR (And.intro hb0 k0))
  have HC := Lib.hid (And.intro (tableCheck_ok w1 T s hs1 hs2) (look0_ok w1 T L most n s hs1 (by omega) h1))
  clear h h1 hb0 k0 hR hs1 hs2
  go_wp2_with fail
  refine HC.out.1.mono ?_
  rintro e w2 ⟨rfl, rfl⟩
  go_wp2_with fail
  refine HC.out.2.mono ?_
  rintro e w3 ⟨rfl, hb⟩
  have k3 := (Only.of_below hb (fun _ => False)).heap HR.out.2.2 (fun h => h)
  have HB := Lib.hid (And.intro hb k3)
  have z0 : w3.cell? ⟨R, 0, none⟩ = some (.int .i64 0) := by simp [World.cell?, k3]
  have z1 : w3.cell? ⟨R, 1, none⟩ = some (.int .i64 0) := by simp [World.cell?, k3]
  have z2 : w3.cell? ⟨R, 2, none⟩ = some (.int .i64 0) := by simp [World.cell?, k3]
  have z3 : w3.cell? ⟨R, 3, none⟩ = some (.int .i64 0) := by simp [World.cell?, k3]
  have y0 : w3.frozen? ⟨R, 0, none⟩ = false := by simp [World.frozen?, k3]
  have y1 : w3.frozen? ⟨R, 1, none⟩ = false := by simp [World.frozen?, k3]
  have y2 : w3.frozen? ⟨R, 2, none⟩ = false := by simp [World.frozen?, k3]
  have y3 : w3.frozen? ⟨R, 3, none⟩ = false := by simp [World.frozen?, k3]
  clear hb k3
  go_wp2_with fail
  have hp := put4r (v0 := .int .i64 0) (v1 := .int .i64 0) (v2 := .int .i64 0) (v3 := .int .i64 0) HB.out.2
  have hB2 : Below w.heap.size w w3 := HR.out.2.1.trans (HB.out.1.mono HR.out.2.1.size)
  have hRs : w.heap.size ≤ R := Nat.le_of_eq HR.out.1
  exact bodyPost_ret (results_cell_row2 rfl _ _ _ _ _ _ _ rfl hp Tryz.underlying82 rfl (by kernel_rfl)) rfl ⟨rfl, (((hB2.setCell (p := ⟨R, 0, none⟩) hRs _).setCell (p := ⟨R, 1, none⟩) hRs _).setCell (p := ⟨R, 2, none⟩) hRs _).setCell (p := ⟨R, 3, none⟩) hRs _⟩
end Go.Proofs.YtiacbhnkcllpjaaGreatDoor
