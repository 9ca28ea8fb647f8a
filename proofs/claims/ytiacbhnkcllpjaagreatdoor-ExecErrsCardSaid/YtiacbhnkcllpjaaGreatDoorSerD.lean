/- A log without pieces: log.New, All; serial.Fold of nothing, and of such a log. -/
import Derived.Test.YtiacbhnkcllpjaaGreatDoorTabS
import Derived.Test.YtiacbhnkcllpjaaGreatDoorSerB
import Derived.Test.YtiacbhnkcllpjaaGreatDoorClone
namespace Go.Proofs.YtiacbhnkcllpjaaGreatDoor
set_option maxRecDepth 100000
open Go.RowKit

attribute [local go_sem] Oper.semAt_some run_store_fnT
/-- A log without pieces. -/
def LogE (w : World) (L : Nat) : Prop := w.heap[L]? = some (.cells #[.slice none 0 0] 131 (0, 0))
theorem LogE.below {w w' : World} {L : Nat} (h : LogE w L) (hb : Below w.heap.size w w') : LogE w' L := (Only.of_below hb (fun _ => False)).heap h (fun h => h)
set_option maxRecDepth 100000 in
theorem logNew0_ok (w : World) : Calls Tryz.prog 11 #[.slice none 0 0] w fun e w' => ∃ L, e = .returned (.tuple #[.pointer (some ⟨L, 0, none⟩), .int .i64 0]) ∧ w.heap.size ≤ L ∧ LogE w' L ∧ Below w.heap.size w w' := by
  have hb := new_box w (.cells #[.slice none 0 0] 131)
  have k0 := heap_alloc_new w (.cells #[.slice none 0 0] 131)
  have HB := Lib.hid (And.intro hb k0)
  clear hb k0
  go_enter Tryz.func11, Tryz.ntmps11
  go_wp2_with fail
  go_step3
  go_wp2_with fail
  go_step3
  go_wp2_with fail
  go_loopw [5, 12] (fun e i wr => e = .int .i64 0 ∧ i = .int .i64 0 ∧ wr = w.alloc (.cells #[.slice none 0 0] 131)) (fun _ i _ => 0)
  case atStart => exact ⟨rfl, rfl, rfl⟩
  case round =>
    obtain ⟨rfl, rfl, rfl⟩ := hrel
    go_wp2_with fail
    rw [Exit.noGoto_ret]
    go_ret2
    exact ⟨_, rfl, Nat.le_refl _, HB.out.2, HB.out.1⟩
set_option maxRecDepth 100000 in
set_option maxHeartbeats 1000000 in
theorem logAll0_ok (w : World) (L : Nat) (h : LogE w L) : Calls Tryz.prog 92 #[.pointer (some ⟨L, 0, none⟩)] w fun e w' =>
    ∃ B A c, e = .returned (.func (.func 145) #[] #[.pointer (some ⟨B, 0, none⟩)]) ∧ Below w.heap.size w w' ∧ w'.heap[B]? = some (.cells #[.slice A 0 c] 115 (0, 0)) := by
  have hb := new_box w (.cells #[.slice none 0 0] 115)
  have k0 := heap_alloc_new w (.cells #[.slice none 0 0] 115)
  have g1 := h.below hb
  go_enter Tryz.func92, Tryz.ntmps92
  go_upto_region 2 with fail
  generalize w.alloc (.cells #[.slice none 0 0] 115) = w1 at hb k0 g1 ⊢
  obtain ⟨B, hB⟩ : ∃ x, w.heap.size = x := ⟨_, rfl⟩
  rw [hB] at k0 ⊢
  unfold LogE at g1
  have z0 : w1.cell? ⟨L, 0, none⟩ = some (.slice none 0 0) := by simp [World.cell?, g1]
  have HB := Lib.hid (And.intro hb (And.intro k0 hB))
  clear hb k0 g1 hB h
  have HC := Lib.hid (clone_rows (.slice none 0 0) [] (fun _ => True) w1 (Rd.nil _ _) (fun _ h => by cases h) (by simp))
  go_wp2_with fail
  refine HC.out.mono ?_
  rintro e w2 ⟨A, c, rfl, -, hbl⟩
  have k2 := (Only.of_below hbl (fun _ => False)).heap HB.out.2.1 (fun h => h)
  have y1 : w2.cell? ⟨B, 0, none⟩ = some (.slice none 0 0) := by simp [World.cell?, k2]
  have y2 : w2.frozen? ⟨B, 0, none⟩ = false := by simp [World.frozen?, k2]
  have HK := Lib.hid (And.intro (HB.out.1.trans (hbl.mono HB.out.1.size)) k2)
  clear hbl k2 HC
  go_wp2_with fail
  go_ret
  exact ⟨B, A, c, rfl, HK.out.1.setCell (p := ⟨B, 0, none⟩) (Nat.le_of_eq HB.out.2.2) _, by have := heap_setCell_same w2 B 0 _ _ (.slice A 0 c) HK.out.2; simpa using this⟩
set_option maxRecDepth 100000 in
set_option maxHeartbeats 1000000 in
theorem logAll0_seq (w : World) (B : Nat) (A : Option Addr) (c : Nat) (h : w.heap[B]? = some (.cells #[.slice A 0 c] 115 (0, 0))) :
    SeqE Tryz.prog 145 #[.pointer (some ⟨B, 0, none⟩)] (fun k => k = B) w := by
  intro l W hag
  have g1 := hag B _ rfl h
  have z0 : W.cell? ⟨B, 0, none⟩ = some (.slice A 0 c) := by simp [World.cell?, g1]
  clear hag h g1
  refine calls_marks Tryz.func145 rfl ?_
  simp only [Tryz.ntmps145, List.size_toArray, List.length_cons, List.length_nil, Nat.reduceAdd, Nat.reduceSub, Array.replicate_succ, Array.replicate_zero, List.push_toArray, List.append_toArray, List.nil_append, List.cons_append]
  go_wp2_with fail
  go_loopw [7] (fun i wr => i = .int .i64 0 ∧ wr = W) (fun i _ => 0)
  case atStart => exact ⟨rfl, rfl⟩
  case round =>
    obtain ⟨rfl, rfl⟩ := hrel
    go_wp2_with fail
    exact ⟨.tuple #[], by simp [results, Tryz.results145, go_sem], ⟨_, rfl⟩, Only.refl _ _⟩
set_option maxRecDepth 100000 in
set_option maxHeartbeats 1000000 in
theorem foldNil_ok (w : World) (most n f : Int) : Calls Tryz.prog 52 #[.pointer none, cfgV most n f] w fun e w' => e = .returned (.tuple #[.slice none 0 0, .pointer none, .int .i64 2]) ∧ Below w.heap.size w w' := by
  unfold cfgV
  have hb := Lib.hid (new_box w (.cells #[.int .i64 most, .int .i64 n, .int .i64 f] 23))
  refine calls_marks Tryz.func52 rfl ?_
  simp only [Tryz.ntmps52, List.size_toArray, List.length_cons, List.length_nil, Nat.reduceAdd, Nat.reduceSub, Array.replicate_succ, Array.replicate_zero, List.push_toArray, List.append_toArray, List.nil_append, List.cons_append]
  go_wp2_with fail
  go_step3
  go_wp2_with fail
  exact ⟨_, by simp [results, Tryz.results52, go_sem], rfl, hb.out⟩
end Go.Proofs.YtiacbhnkcllpjaaGreatDoor
