import Derived.Test.YtagemonojdgbdaaGreatDoorC02
import Derived.Test.YtagemonojdgbdaaGreatDoorProg
namespace Go.Proofs.YtagemonojdgbdaaGreatDoor
set_option maxRecDepth 100000
open Go.RowKit
def Fresh (e : TypeId) (xs : List Value) (w : World) (en : Ending) (w' : World) : Prop :=
 ∃ A c, en = .returned (.slice A xs.length c) ∧ w'.ownsRow w.heap.size e 1 (.slice A xs.length c) xs.length xs ∧ Below w.heap.size w w'
theorem Tryz.info5 : (Tryz.prog.info? 5).map (fun i => (i.zero, i.size, i.bytes)) = some (some (.int .u8 0), 1, 1) := by kernel_rfl
theorem Tryz.info29 : (Tryz.prog.info? 118).map (fun i => (i.zero, i.size, i.bytes)) = some (some (.slice none 0 0), 1, 24) := by kernel_rfl
set_option maxHeartbeats 400000 in
theorem clone_bytes (v : Value) (xs : List Value) (F : Nat → Prop) (w : World) (hr : Rd w F v xs) (h1 : ∀ u ∈ xs, u.oneCell' = true) (hb : xs.length ≤ 140737488355328) :
  Calls Tryz.prog 75 #[v] w (Fresh 5 xs w) := by
 obtain ⟨i0, hi, hz0, hz1, hz2⟩ := info_parts Tryz.info5
 have hr' := hr
 obtain ⟨A, n, c, rfl, hl, hnc, hcm, hx⟩ := hr'
 have hnil := fun w => Lib.run_eql_slice_nil (P := Tryz.prog) w 118 5 A n c 0 0 Tryz.underlying118
 have HX := Lib.hid hx
 have HL := Lib.hid hl
 clear hx hl
 rcases A with _ | a
 ·go_enter Tryz.func75, Tryz.ntmps75
  go_wp2
  go_ret
  have : xs = [] := by
   rcases Nat.eq_zero_or_pos n with h0 | h0
   ·exact List.eq_nil_of_length_eq_zero (by rw [HL.out, h0])
   ·obtain ⟨_, _, h, _⟩ := HX.out h0
    cases h
  subst this
  exact ⟨none, 0, rfl, World.ownsRow_nil _ _ _ _, Below.refl _ _⟩
 ·have hr2 : Rd (w.alloc (.cells #[] 5)) F (.slice (some a) n c) xs := hr.below ((Below.refl _ _).alloc (Nat.le_refl _) _)
  have hown0 := World.ownsRow_made (e := 5) (base := w.heap.size) (size := 1) w #[] 0 (Nat.le_refl _) (by simp [maxLen]) rfl
  have c1 : (0 + xs.length) * 1 ≤ 140737488355328 := by omega
  have c2 : 0 + xs.length ≤ maxLen := by simp only [maxLen]; omega
  have c3 : w.heap.size ≤ (w.alloc (.cells #[] 5)).heap.size := by simp
  have C := Lib.hid (And.intro c1 (And.intro c2 c3))
  clear c1 c2 c3
  go_enter Tryz.func75, Tryz.ntmps75
  go_wp2_with (at_builtin; go_loud (refine wpList_append_rd _ rfl _ _ 118 rfl w.heap.size 5 i0 (.int .u8 0) 1 Tryz.underlying118 hi hz0 hz1 hz2 rfl _ 0 [] rfl hown0 F _ xs rfl hr2 h1 C.out.1 C.out.2.1 C.out.2.2 ?_); intro v' w1 hown1 hgrow1 _)
  go_ret
  simp only [Nat.zero_add, List.nil_append] at hown1
  obtain ⟨A', c', hv⟩ := ownsRow_slice hown1
  rw [hv] at hown1 ⊢
  exact ⟨A', c', rfl, hown1, ((Below.refl _ _).alloc (Nat.le_refl _) _).grown hgrow1 (by simp) (fun k hk => by have h2 : some w.heap.size = some k := hk; injection h2 with h2; omega)⟩
end Go.Proofs.YtagemonojdgbdaaGreatDoor
