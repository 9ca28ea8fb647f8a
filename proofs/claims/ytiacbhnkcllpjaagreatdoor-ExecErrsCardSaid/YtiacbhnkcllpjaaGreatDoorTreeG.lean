/- A tree without keys has none: sort.Search over nothing, node.find, node.leaf, Tree.check. -/
import Derived.Test.YtiacbhnkcllpjaaGreatDoorTree
import Derived.Deep.QuietTactic
namespace Go.Proofs.YtiacbhnkcllpjaaGreatDoor
set_option maxRecDepth 100000
open Go.RowKit

set_option maxRecDepth 100000 in
theorem search0_ok (w : World) (f : Value) : Calls Tryz.prog 293 #[.int .i64 0, f] w fun e w' => e = .returned (.int .i64 0) ∧ w' = w := by
  go_enter Tryz.func293, Tryz.ntmps293
  go_wp2_with fail
  go_loopw [5, 6] (fun i j wr => i = .int .i64 0 ∧ j = .int .i64 0 ∧ wr = w) (fun _ _ _ => 0)
  case atStart => exact ⟨rfl, rfl, rfl⟩
  case round =>
    obtain ⟨rfl, rfl, rfl⟩ := hrel
    go_wp2_with fail
    go_ret
    exact ⟨rfl, rfl⟩
set_option maxRecDepth 100000 in
theorem leaf0_ok (w : World) (N : Nat) (h : w.heap[N]? = some (.cells #[.slice none 0 0, .slice none 0 0] 336 (0, 0))) : Calls Tryz.prog 239 #[.pointer (some ⟨N, 0, none⟩)] w fun e w' => e = .returned (.bool true) ∧ w' = w := by
  have c0 : w.cell? ⟨N, 0, none⟩ = some (.slice none 0 0) := by simp [World.cell?, h]
  have c1 : w.cell? ⟨N, 1, none⟩ = some (.slice none 0 0) := by simp [World.cell?, h]
  clear h
  go_enter Tryz.func239, Tryz.ntmps239
  go_wp2_with fail
  go_ret
  exact ⟨rfl, rfl⟩
set_option maxRecDepth 100000 in
theorem treeCheck_ok (w : World) (T : Nat) (s : ByteArray) (h1 : 1 ≤ s.size) (h2 : s.size ≤ 64) : Calls Tryz.prog 180 #[.pointer (some ⟨T, 0, none⟩), .string s] w fun e w' => e = .returned (.int .i64 0) ∧ w' = w := by
  have m1 : ¬ (s.size : Int) < 1 := by omega
  have m2 : ¬ (64 : Int) < (s.size : Int) := by omega
  go_enter Tryz.func180, Tryz.ntmps180
  go_wp2_with fail
  go_ret
  exact ⟨rfl, rfl⟩
set_option maxRecDepth 100000 in
set_option maxHeartbeats 1000000 in
theorem find0_ok (w : World) (N : Nat) (s : ByteArray) (h : w.heap[N]? = some (.cells #[.slice none 0 0, .slice none 0 0] 336 (0, 0))) : Calls Tryz.prog 238 #[.pointer (some ⟨N, 0, none⟩), .string s] w fun e w' => e = .returned (.tuple #[.int .i64 0, .bool false]) ∧ Below w.heap.size w w' := by
  have hb1 := new_box w (.cells #[.pointer (some ⟨N, 0, none⟩)] 299)
  have k1 := heap_alloc_new w (.cells #[.pointer (some ⟨N, 0, none⟩)] 299)
  have hN := (Only.of_below hb1 (fun _ => False)).heap h (fun h => h)
  have hb2 := new_box (w.alloc (.cells #[.pointer (some ⟨N, 0, none⟩)] 299)) (.cells #[.string s] 9)
  have k2 := heap_alloc_new (w.alloc (.cells #[.pointer (some ⟨N, 0, none⟩)] 299)) (.cells #[.string s] 9)
  have k1' := (Only.of_below hb2 (fun _ => False)).heap k1 (fun h => h)
  have hN' := (Only.of_below hb2 (fun _ => False)).heap hN (fun h => h)
  have hbb := hb1.trans (hb2.mono (by simp))
  rw [show (w.alloc (.cells #[.pointer (some ⟨N, 0, none⟩)] 299)).heap.size = w.heap.size + 1 by simp] at k2
  go_enter Tryz.func238, Tryz.ntmps238
  go_upto_region 1 with fail
  generalize (w.alloc (.cells #[.pointer (some ⟨N, 0, none⟩)] 299)).alloc (.cells #[.string s] 9) = w2 at k1' k2 hN' hbb ⊢
  obtain ⟨B, hB⟩ : ∃ x, w.heap.size = x := ⟨_, rfl⟩
  rw [hB] at k1' k2 ⊢
  have b0 : w2.cell? ⟨B, 0, none⟩ = some (.pointer (some ⟨N, 0, none⟩)) := by simp [World.cell?, k1']
  have b1 : w2.cell? ⟨B + 1, 0, none⟩ = some (.string s) := by simp [World.cell?, k2]
  have c0 : w2.cell? ⟨N, 0, none⟩ = some (.slice none 0 0) := by simp [World.cell?, hN']
  have HBB := Lib.hid hbb
  clear hb1 k1 hN hb2 k2 k1' hN' hbb hB h
  go_wp2_with fail
  refine (search0_ok w2 _).mono ?_
  rintro e w3 ⟨rfl, rfl⟩
  go_upto_region 2 with fail
  go_region
  go_wp2_with fail
  go_ret2
  exact ⟨rfl, HBB.out.drew⟩
set_option maxRecDepth 100000 in
set_option maxHeartbeats 1000000 in
theorem ceil0_ok (w : World) (T : Nat) (n : Int) (s : ByteArray) (h : TreeE w T n) : Calls Tryz.prog 225 #[.pointer (some ⟨T, 0, none⟩), .string s] w fun e w' => e = .returned (.tuple #[.string ⟨#[]⟩, .string ⟨#[]⟩, .int .i64 14]) ∧ Below w.heap.size w w' := by
  obtain ⟨N, h1, h2⟩ := h
  have c2 : w.cell? ⟨T, 2, none⟩ = some (.pointer (some ⟨N, 0, none⟩)) := by simp [World.cell?, h1]
  have HN := Lib.hid h2
  clear h1 h2
  go_enter Tryz.func225, Tryz.ntmps225
  go_wp2_with fail
  go_step3
  go_wp2_with fail
  go_step3
  go_wp2_with fail
  go_loopw [4, 5, 6, 7] (fun k v e q wr => k = .string ⟨#[]⟩ ∧ v = .string ⟨#[]⟩ ∧ e = .int .i64 14 ∧ q = .pointer (some ⟨N, 0, none⟩) ∧ wr = w) (fun _ _ _ _ _ => 0)
  case atStart => exact ⟨rfl, rfl, rfl, rfl, rfl⟩
  case round =>
    obtain ⟨rfl, rfl, rfl, rfl, rfl⟩ := hrel
    have HF := Lib.hid (find0_ok wr N s HN.out)
    go_wp2_with fail
    refine HF.out.mono ?_
    rintro e w2 ⟨rfl, hb⟩
    have hN := (Only.of_below hb (fun _ => False)).heap HN.out (fun h => h)
    have c0 : w2.cell? ⟨N, 0, none⟩ = some (.slice none 0 0) := by simp [World.cell?, hN]
    have HL := Lib.hid (And.intro (leaf0_ok w2 N hN) hb)
    clear hN hb HF
    go_wp2_with fail
    refine HL.out.1.mono ?_
    rintro e w3 ⟨rfl, rfl⟩
    go_wp2_with fail
    rw [Exit.noGoto_ret]
    go_ret3
    exact ⟨rfl, HL.out.2⟩
set_option maxRecDepth 100000 in
set_option maxHeartbeats 1000000 in
theorem treeGet0_ok (w : World) (T : Nat) (n : Int) (s : ByteArray) (hs1 : 1 ≤ s.size) (hs2 : s.size ≤ 64) (h : TreeE w T n) : Calls Tryz.prog 157 #[.pointer (some ⟨T, 0, none⟩), .string s] w fun e w' => e = .returned (.tuple #[.string ⟨#[]⟩, .int .i64 14]) ∧ Below w.heap.size w w' := by
  have HC := Lib.hid (And.intro (treeCheck_ok w T s hs1 hs2) (ceil0_ok w T n s h))
  clear h hs1 hs2
  go_enter Tryz.func157, Tryz.ntmps157
  go_wp2_with fail
  refine HC.out.1.mono ?_
  rintro e w1 ⟨rfl, rfl⟩
  go_wp2_with fail
  refine HC.out.2.mono ?_
  rintro e w2 ⟨rfl, hb⟩
  have HB := Lib.hid hb
  clear hb
  go_wp2_with fail
  go_ret2
  exact ⟨rfl, HB.out⟩
set_option maxRecDepth 100000 in
theorem keyOk_ok (w : World) (s : ByteArray) (h1 : 1 ≤ s.size) (h2 : s.size ≤ 16) : Calls Tryz.prog 135 #[.string s] w fun e w' => e = .returned (.int .i64 0) ∧ w' = w := by
  have m1 : ¬ (s.size : Int) < 1 := by omega
  have m2 : ¬ (16 : Int) < (s.size : Int) := by omega
  go_enter Tryz.func135, Tryz.ntmps135
  go_wp2_with fail
  go_ret
  exact ⟨rfl, rfl⟩
set_option maxRecDepth 100000 in
theorem tableCheck_ok (w : World) (T : Nat) (s : ByteArray) (h1 : 1 ≤ s.size) (h2 : s.size ≤ 16) : Calls Tryz.prog 128 #[.pointer (some ⟨T, 0, none⟩), .string s] w fun e w' => e = .returned (.int .i64 0) ∧ w' = w := by
  have HC := Lib.hid (keyOk_ok w s h1 h2)
  go_enter Tryz.func128, Tryz.ntmps128
  go_wp2_with fail
  refine HC.out.mono ?_
  rintro e w1 ⟨rfl, rfl⟩
  go_wp2_with fail
  go_ret
  exact ⟨rfl, rfl⟩
set_option maxRecDepth 100000 in
set_option maxHeartbeats 1000000 in
theorem look0_ok (w : World) (T L : Nat) (most n : Int) (s : ByteArray) (hs1 : 1 ≤ s.size) (hs2 : s.size ≤ 64) (h : TableE w T most n L) : Calls Tryz.prog 129 #[.pointer (some ⟨T, 0, none⟩), .string s] w fun e w' => e = .returned (.pointer none) ∧ Below w.heap.size w w' := by
  obtain ⟨t0, t1, t2, t3, t4, h0, ⟨_, e0⟩, _⟩ := h
  have c1 : w.cell? ⟨T, 1, none⟩ = some (.pointer (some ⟨t0, 0, none⟩)) := by simp [World.cell?, h0]
  have HC := Lib.hid (treeGet0_ok w t0 n s hs1 hs2 e0)
  clear h0 e0 hs1 hs2
  go_enter Tryz.func129, Tryz.ntmps129
  go_wp2_with (first | (go_at_call 102; go_in) | fail)
  refine HC.out.mono ?_
  rintro e w2 ⟨rfl, hb⟩
  have HB := Lib.hid hb
  clear hb
  go_wp2_with fail
  go_ret
  exact ⟨rfl, HB.out⟩
end Go.Proofs.YtiacbhnkcllpjaaGreatDoor
