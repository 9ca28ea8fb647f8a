/- A buffer without writes over a table without rows: buffer.New, Get. -/
import Derived.Test.YtfaaigfgfljdkaaGreatDoorTreeH
import Derived.Test.YtfaaigfgfljdkaaGreatDoorLockA
import Derived.StringKeys
namespace Go.Proofs.YtfaaigfgfljdkaaGreatDoor
set_option maxRecDepth 100000
open Go.RowKit Go.Maps Go.WideShapes

theorem lawS : Keyed Tryz.prog 9 := string_keyed Tryz.underlying9
theorem keyS {k : List UInt8} (h : k.length ≤ maxLen) : keyOf Tryz.prog 9 (.string ⟨k.toArray⟩) = some (.string k) := by
  have hsz : (⟨k.toArray⟩ : ByteArray).size ≤ maxLen := by simpa [ByteArray.size] using h
  simpa using WideMaps.keyOf_string_mk (P := Tryz.prog) Tryz.underlying9 hsz
theorem Tryz.zeroPRow (w : World) : (zeroValue 273).run Tryz.prog w = .ok (.pointer none) w := by
  kernel_rfl
/-- A buffer without writes, in block B, over a table without rows, in block T. -/
def BufE (w : World) (B T : Nat) (most n : Int) (L : Nat) : Prop :=
  ∃ m, w.heap[B]? = some (.cells #[.pointer (some ⟨T, 0, none⟩), .map (some m)] 183 (0, 0)) ∧ MapAt Tryz.prog w 9 m 0 (fun _ => none) ∧ TableE w T most n L
theorem BufE.below {w w' : World} {B T L : Nat} {most n : Int} (h : BufE w B T most n L) (hb : Below w.heap.size w w') : BufE w' B T most n L := by
  obtain ⟨m, h1, h2, h3⟩ := h
  exact ⟨m, (Only.of_below hb (fun _ => False)).heap h1 (fun h => h), h2.below hb, h3.below hb⟩
set_option maxRecDepth 100000 in
theorem bufNew_ok (w : World) (T L : Nat) (most n : Int) (h : TableE w T most n L) : Calls Tryz.prog 22 #[.pointer (some ⟨T, 0, none⟩)] w fun e w' =>
    ∃ B, e = .returned (.tuple #[.pointer (some ⟨B, 0, none⟩), .int .i64 0]) ∧ w.heap.size ≤ B ∧ BufE w' B T most n L ∧ Below w.heap.size w w' := by
  have hmm := @run_makeMap Tryz.prog
  have hm := MapAt.made Tryz.prog w 9
  have hb := new_box w (.map #[] 0)
  have hb2 := new_box (w.alloc (.map #[] 0)) (.cells #[.pointer (some ⟨T, 0, none⟩), .map (some w.heap.size)] 183)
  have k2 := heap_alloc_new (w.alloc (.map #[] 0)) (.cells #[.pointer (some ⟨T, 0, none⟩), .map (some w.heap.size)] 183)
  have H := Lib.hid (show ∃ B, B = w.heap.size + 1 ∧ w.heap.size ≤ B ∧ BufE ((w.alloc (.map #[] 0)).alloc (.cells #[.pointer (some ⟨T, 0, none⟩), .map (some w.heap.size)] 183)) B T most n L ∧ Below w.heap.size w ((w.alloc (.map #[] 0)).alloc (.cells #[.pointer (some ⟨T, 0, none⟩), .map (some w.heap.size)] 183)) from
    ⟨_, rfl, by omega, ⟨w.heap.size, by simpa using k2, hm.below hb2, (h.below hb).below hb2⟩, hb.trans (hb2.mono (by simp))⟩)
  clear h hm hb hb2 k2
  go_enter Tryz.func22, Tryz.ntmps22
  go_wp2_with fail
  go_ret2
  obtain ⟨B, e, h3, h4, h5⟩ := H.out
  subst e
  exact ⟨_, rfl, h3, h4, h5⟩
set_option maxRecDepth 100000 in
set_option maxHeartbeats 1000000 in
theorem bufGet0_ok (w : World) (B T L : Nat) (most n : Int) (k : List UInt8) (hs1 : 1 ≤ k.length) (hs2 : k.length ≤ 16) (h : BufE w B T most n L) : Calls Tryz.prog 84 #[.pointer (some ⟨B, 0, none⟩), .string ⟨k.toArray⟩] w fun e w' => e = .returned (.tuple #[zeroRow, .int .i64 14]) ∧ Below w.heap.size w w' := by
  have hb0 := new_box w (.cells #[.int .i64 0, .int .i64 0, .int .i64 0, .int .i64 0] 44)
  have k0 := heap_alloc_new w (.cells #[.int .i64 0, .int .i64 0, .int .i64 0, .int .i64 0] 44)
  have h1 := h.below hb0
  go_enter Tryz.func84, Tryz.ntmps84
  go_upto_region 1 with fail
  generalize w.alloc (.cells #[.int .i64 0, .int .i64 0, .int .i64 0, .int .i64 0] 44) = w1 at hb0 k0 h1 ⊢
  obtain ⟨R, hR⟩ : ∃ x, w.heap.size = x := ⟨_, rfl⟩
  rw [hR] at k0 ⊢
  have HR := Lib.hid (And.intro hR (And.intro hb0 k0))
  obtain ⟨m, g1, g2, g3⟩ := h1
  have d0 : w1.cell? ⟨B, 0, none⟩ = some (.pointer (some ⟨T, 0, none⟩)) := by simp [World.cell?, g1]
  have d1 : w1.cell? ⟨B, 1, none⟩ = some (.map (some m)) := by simp [World.cell?, g1]
  have hke : keyErr k = 0 := by unfold keyErr; rw [if_neg (by omega)]
  have HC := Lib.hid (keyCheck_ok w1 k)
  have HT := Lib.hid (And.intro (tableGet0_ok w1 T L most n ⟨k.toArray⟩ (by simpa [ByteArray.size] using hs1) (by simpa [ByteArray.size] using hs2) g3) (And.intro g2 (keyS (k := k) (by simp [maxLen]; omega))))
  rw [hke] at HC
  clear h hb0 k0 hR hs1 hs2 g1 g2 g3 hke
  go_wp2_with fail
  refine HC.out.mono ?_
  rintro e w2 ⟨rfl, rfl⟩
  go_wp2_with (first | (at_lookup; go_loud (refine wpList_look_ok _ rfl _ _ 181 rfl lawS Tryz.underlying181 (Tryz.zeroPRow _) rfl HT.out.2.1 rfl HT.out.2.2 _ false rfl rfl ?_)) | fail)
  refine HT.out.1.mono ?_
  rintro e w3 ⟨rfl, hb⟩
  have k3 := (Only.of_below hb (fun _ => False)).heap HR.out.2.2 (fun h => h)
  have HB := Lib.hid (And.intro hb k3)
  have z0 : w3.cell? ⟨R, 0, none⟩ = some (.int .i64 0) := by simp [World.cell?, k3]
  have z1 : w3.cell? ⟨R, 1, none⟩ = some (.int .i64 0) := by simp [World.cell?, k3]
  have z2 : w3.cell? ⟨R, 2, none⟩ = some (.int .i64 0) := by simp [World.cell?, k3]
  have z3 : w3.cell? ⟨R, 3, none⟩ = some (.int .i64 0) := by simp [World.cell?, k3]
  have y0 : w3.frozen? ⟨R, 0, none⟩ = false := by simp [World.frozen?, k3]
  have y1 : w3.frozen? ⟨R, 1, none⟩ = false := by simp [World.frozen?, k3]
  have y2 : w3.frozen? ⟨R, 2, none⟩ = false := by simp [World.frozen?, k3]
  have y3 : w3.frozen? ⟨R, 3, none⟩ = false := by simp [World.frozen?, k3]
  clear hb k3
  unfold zeroRow
  go_wp2_with fail
  have hp := put4r (v0 := .int .i64 0) (v1 := .int .i64 0) (v2 := .int .i64 0) (v3 := .int .i64 0) HB.out.2
  have hB2 : Below w.heap.size w w3 := HR.out.2.1.trans (HB.out.1.mono HR.out.2.1.size)
  have hRs : w.heap.size ≤ R := Nat.le_of_eq HR.out.1
  exact bodyPost_ret (results_cell_row2 rfl _ _ _ _ _ _ _ rfl hp Tryz.underlying44 rfl (by kernel_rfl)) rfl ⟨rfl, (((hB2.setCell (p := ⟨R, 0, none⟩) hRs _).setCell (p := ⟨R, 1, none⟩) hRs _).setCell (p := ⟨R, 2, none⟩) hRs _).setCell (p := ⟨R, 3, none⟩) hRs _⟩
end Go.Proofs.YtfaaigfgfljdkaaGreatDoor
