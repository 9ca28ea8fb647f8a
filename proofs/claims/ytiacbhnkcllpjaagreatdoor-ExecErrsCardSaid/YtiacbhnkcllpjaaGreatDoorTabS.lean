/- All over trees and tables without keys; table.Same of such tables. -/
import Derived.Test.YtiacbhnkcllpjaaGreatDoorRangeN
import Derived.Test.YtiacbhnkcllpjaaGreatDoorTreeH
namespace Go.Proofs.YtiacbhnkcllpjaaGreatDoor
set_option maxRecDepth 100000
open Go.RowKit

theorem run_store_fnT {P : Program} {w : World} {a : Addr} {m : Mode} (f : Fn) (x y : Array Value) : (store a (.func f x y) m).run P w = stored P w a (.func f x y) m := run_store P w a _ m rfl
attribute [local go_sem] Oper.semAt_some run_store_fnT
theorem below_left {w w2 W : World} {D : Nat} (h : Below w.heap.size w w2) (hD : w2.heap.size ≤ D) (ho : Only (fun _ => False) w2 W) : Below w.heap.size w (W.putObj D (.deferred none)) :=
  h.trans (((ho.mono (fun _ _ h => h.elim)).trans (T := fun k => k = D) (Only.putObj W D (.deferred none)) (fun _ _ h => h) : Only (fun k => k = D) w2 _).belowN h.size (fun k hk e => by have := h.size; omega))
theorem leave_norm {P : Program} {fn : Func} {R : Ending → World → Prop} {tmps : Array Value} {D : Nat} {w : World} {v : Value} (hK : w.heap[D]? = some (.deferred (some [])))
    (hres : (results fn tmps).run P (w.putObj D (.deferred none)) = .ok v (w.putObj D (.deferred none))) (hR : R (.returned v) (w.putObj D (.deferred none))) :
    bodyPostM Fence.wide 10 P fn R .normal { tmps := tmps, defers := [{ target := .collected D, args := #[] }] } w :=
  ⟨by simp, .inl ⟨_, _, rfl, run_takeDeferred hK, ⟨_, hres, hR⟩⟩⟩
set_option maxRecDepth 100000 in
theorem walk_ok (w : World) (N : Nat) : Calls Tryz.prog 221 #[.pointer (some ⟨N, 0, none⟩)] w fun e w' =>
    e = .returned (.func (.func 267) #[] #[.pointer (some ⟨w.heap.size, 0, none⟩)]) ∧ w' = w.alloc (.cells #[.pointer (some ⟨N, 0, none⟩)] 299) := by
  go_enter Tryz.func221, Tryz.ntmps221
  go_wp2_with fail
  go_ret
  exact ⟨rfl, rfl⟩
set_option maxRecDepth 100000 in
set_option maxHeartbeats 1000000 in
theorem walk0_seq (w : World) (B N : Nat) (h1 : w.heap[B]? = some (.cells #[.pointer (some ⟨N, 0, none⟩)] 299 (0, 0))) (h2 : w.heap[N]? = some (.cells #[.slice none 0 0, .slice none 0 0] 336 (0, 0))) :
    SeqE Tryz.prog 267 #[.pointer (some ⟨B, 0, none⟩)] (fun k => k = B ∨ k = N) w := by
  intro l W hag
  have g1 := hag B _ (.inl rfl) h1
  have g2 := hag N _ (.inr rfl) h2
  clear hag h1 h2
  refine calls_marks Tryz.func267 rfl ?_
  simp only [Tryz.ntmps267, List.size_toArray, List.length_cons, List.length_nil, Nat.reduceAdd, Nat.reduceSub, Array.replicate_succ, Array.replicate_zero, List.push_toArray, List.append_toArray, List.nil_append, List.cons_append]
  have hb := new_box W (.cells #[.func (.yield l) #[] #[]] 376)
  have q1 := (Only.of_below hb (fun _ => False)).heap g1 (fun h => h)
  have q2 := (Only.of_below hb (fun _ => False)).heap g2 (fun h => h)
  have ho : Only (fun _ => False) W (W.alloc (.cells #[.func (.yield l) #[] #[]] 376)) := Only.of_below hb _
  go_upto_region 1 with fail
  generalize W.alloc (.cells #[.func (.yield l) #[] #[]] 376) = W1 at ho q1 q2 ⊢
  have z0 : W1.cell? ⟨B, 0, none⟩ = some (.pointer (some ⟨N, 0, none⟩)) := by simp [World.cell?, q1]
  have z1 : W1.cell? ⟨N, 0, none⟩ = some (.slice none 0 0) := by simp [World.cell?, q2]
  have z2 : W1.cell? ⟨N, 1, none⟩ = some (.slice none 0 0) := by simp [World.cell?, q2]
  have HQ := Lib.hid (And.intro q1 q2)
  have HO := Lib.hid ho
  clear ho q1 q2 g1 g2 hb
  go_wp2_with fail
  clear z0 z1 z2
  go_loopw [12] (fun i wr => ∃ k : Nat, k ≤ 1 ∧ i = .int .i64 (k : Int) ∧ Only (fun _ => False) W1 wr) (fun i _ => 1 - (intOf i).toNat)
  case atStart => exact ⟨0, by decide, rfl, Only.refl _ _⟩
  case round =>
    obtain ⟨k, hk, rfl, hor⟩ := hrel
    by_cases hlt : k < 1
    · obtain rfl : k = 0 := by omega
      have q1 := hor.heap HQ.out.1 (fun h => h)
      have q2 := hor.heap HQ.out.2 (fun h => h)
      have z0 : wr.cell? ⟨B, 0, none⟩ = some (.pointer (some ⟨N, 0, none⟩)) := by simp [World.cell?, q1]
      have z1 : wr.cell? ⟨N, 0, none⟩ = some (.slice none 0 0) := by simp [World.cell?, q2]
      have z2 : wr.cell? ⟨N, 1, none⟩ = some (.slice none 0 0) := by simp [World.cell?, q2]
      have HL := Lib.hid (leaf0_ok wr N q2)
      have HR := Lib.hid hor
      clear hk hlt q1 q2 hor
      go_wp2_with fail
      refine HL.out.mono ?_
      rintro e w2 ⟨rfl, rfl⟩
      go_wp2_with fail
      go_quiet (fail)
      clear z0 z1 z2
      go_wp2_with fail
      go_roundw
      case rel => exact ⟨1, by decide, by go_num, HR.out.drewN _⟩
      case measure => simp [intOf]
    · obtain rfl : k = 1 := by omega
      have HR := Lib.hid (HO.out.trans hor (fun _ _ h => h))
      clear hk hlt hor
      go_wp2_with fail
      exact ⟨.tuple #[], by simp [results, Tryz.results267, go_sem], ⟨_, rfl⟩, HR.out⟩
set_option maxRecDepth 100000 in
set_option maxHeartbeats 1000000 in
theorem treeAll0_ok (w : World) (T : Nat) (n : Int) (h : TreeE w T n) : Calls Tryz.prog 152 #[.pointer (some ⟨T, 0, none⟩)] w fun e w' =>
    ∃ B, e = .returned (.func (.func 222) #[] #[.pointer (some ⟨B, 0, none⟩)]) ∧ Below w.heap.size w w' ∧ w.heap.size ≤ B ∧ w'.heap[B]? = some (.cells #[.slice none 0 0] 333 (0, 0)) := by
  obtain ⟨N, h1, h2⟩ := h
  have hb := new_box w (.cells #[.slice none 0 0] 333)
  have k0 := heap_alloc_new w (.cells #[.slice none 0 0] 333)
  have g1 := (Only.of_below hb (fun _ => False)).heap h1 (fun h => h)
  have g2 := (Only.of_below hb (fun _ => False)).heap h2 (fun h => h)
  refine calls_marks Tryz.func152 rfl ?_
  simp only [Tryz.ntmps152, List.size_toArray, List.length_cons, List.length_nil, Nat.reduceAdd, Nat.reduceSub, Array.replicate_succ, Array.replicate_zero, List.push_toArray, List.append_toArray, List.nil_append, List.cons_append]
  go_upto_region 2 with fail
  generalize w.alloc (.cells #[.slice none 0 0] 333) = w1 at hb k0 g1 g2 ⊢
  obtain ⟨B, hB⟩ : ∃ x, w.heap.size = x := ⟨_, rfl⟩
  rw [hB] at k0 ⊢
  have z0 : w1.cell? ⟨T, 0, none⟩ = some (.int .i64 n) := by simp [World.cell?, g1]
  have z1 : w1.cell? ⟨T, 1, none⟩ = some (.int .i64 0) := by simp [World.cell?, g1]
  have z2 : w1.cell? ⟨T, 2, none⟩ = some (.pointer (some ⟨N, 0, none⟩)) := by simp [World.cell?, g1]
  have HB := Lib.hid (And.intro hb (And.intro k0 (And.intro hB g2)))
  clear hb k0 g1 g2 h1 h2 hB
  go_wp2_with fail
  refine (walk_ok w1 N).mono ?_
  rintro e w2 ⟨rfl, hw2⟩
  have hb2 := new_box w1 (.cells #[.pointer (some ⟨N, 0, none⟩)] 299)
  have k2 := heap_alloc_new w1 (.cells #[.pointer (some ⟨N, 0, none⟩)] 299)
  rw [← hw2] at hb2 k2
  generalize w1.heap.size = Bn at k2 ⊢
  have q1 := (Only.of_below hb2 (fun _ => False)).heap HB.out.2.2.2 (fun h => h)
  have q2 := (Only.of_below hb2 (fun _ => False)).heap HB.out.2.1 (fun h => h)
  have HS := Lib.hid (walk0_seq w2 Bn N k2 q1)
  have HB2 := Lib.hid (And.intro (HB.out.1.trans (hb2.mono HB.out.1.size)) (And.intro q2 (And.intro (Array.getElem?_eq_some_iff.1 k2).1 (Array.getElem?_eq_some_iff.1 q1).1)))
  clear hb2 k2 q1 q2 hw2 z0 z1 z2
  go_wp2_with fail
  refine range_none rfl (enters_of Tryz.func267 (by kernel_rfl) rfl) HS.out (fun k hk => by
    rcases hk with rfl | rfl
    · exact HB2.out.2.2.1
    · exact HB2.out.2.2.2) ?_
  intro D W hD ho hk
  have HD := Lib.hid (And.intro hk (And.intro ho hD))
  clear hk ho hD
  go_wp2_with fail
  have hBD : B ≠ D := by have := (Array.getElem?_eq_some_iff.1 HB2.out.2.1).1; have := HD.out.2.2; omega
  refine leave_mark HD.out.1 (by simp [results, Tryz.results152, go_sem]) ⟨B, rfl, below_left HB2.out.1 HD.out.2.2 HD.out.2.1, Nat.le_of_eq HB.out.2.2.1, (World.putObj_heap_other hBD).trans (HD.out.2.1.heap HB2.out.2.1 (fun h => h))⟩
set_option maxRecDepth 100000 in
set_option maxHeartbeats 1000000 in
theorem treeAll0_seq (w : World) (B : Nat) (h : w.heap[B]? = some (.cells #[.slice none 0 0] 333 (0, 0))) :
    SeqE Tryz.prog 222 #[.pointer (some ⟨B, 0, none⟩)] (fun k => k = B) w := by
  intro l W hag
  have g1 := hag B _ rfl h
  have z0 : W.cell? ⟨B, 0, none⟩ = some (.slice none 0 0) := by simp [World.cell?, g1]
  clear hag h g1
  refine calls_marks Tryz.func222 rfl ?_
  simp only [Tryz.ntmps222, List.size_toArray, List.length_cons, List.length_nil, Nat.reduceAdd, Nat.reduceSub, Array.replicate_succ, Array.replicate_zero, List.push_toArray, List.append_toArray, List.nil_append, List.cons_append]
  go_wp2_with fail
  go_loopw [7] (fun i wr => i = .int .i64 0 ∧ wr = W) (fun i _ => 0)
  case atStart => exact ⟨rfl, rfl⟩
  case round =>
    obtain ⟨rfl, rfl⟩ := hrel
    go_wp2_with fail
    exact ⟨.tuple #[], by simp [results, Tryz.results222, go_sem], ⟨_, rfl⟩, Only.refl _ _⟩
/-- An iterator over a table without rows: its box, and what lies in it. -/
def AllE (w : World) (C B : Nat) : Prop :=
  w.heap[C]? = some (.cells #[.func (.func 222) #[] #[.pointer (some ⟨B, 0, none⟩)]] 296 (0, 0)) ∧ w.heap[B]? = some (.cells #[.slice none 0 0] 333 (0, 0))
set_option maxRecDepth 100000 in
set_option maxHeartbeats 1000000 in
theorem tableAll0_ok (w : World) (T L : Nat) (most n : Int) (h : TableE w T most n L) : Calls Tryz.prog 97 #[.pointer (some ⟨T, 0, none⟩)] w fun e w' =>
    ∃ C B, e = .returned (.func (.func 153) #[] #[.pointer (some ⟨C, 0, none⟩)]) ∧ Below w.heap.size w w' ∧ AllE w' C B := by
  obtain ⟨t0, t1, t2, t3, t4, h0, ⟨_, hT⟩, _⟩ := h
  have z1 : w.cell? ⟨T, 1, none⟩ = some (.pointer (some ⟨t0, 0, none⟩)) := by simp [World.cell?, h0]
  have HT := Lib.hid (treeAll0_ok w t0 n hT)
  clear h0 hT
  go_enter Tryz.func97, Tryz.ntmps97
  go_wp2_with (first | (go_at_call 102; go_in) | fail)
  refine HT.out.mono ?_
  rintro e w1 ⟨B, rfl, hb, -, k1⟩
  have hb1 := new_box w1 (.cells #[.func (.func 222) #[] #[.pointer (some ⟨B, 0, none⟩)]] 296)
  have kc := heap_alloc_new w1 (.cells #[.func (.func 222) #[] #[.pointer (some ⟨B, 0, none⟩)]] 296)
  have HB := Lib.hid (And.intro (hb.trans (hb1.mono hb.size)) (And.intro kc ((Only.of_below hb1 (fun _ => False)).heap k1 (fun h => h))))
  clear hb hb1 kc k1
  go_wp2_with fail
  go_ret
  exact ⟨w1.heap.size, B, rfl, HB.out.1, HB.out.2⟩
set_option maxRecDepth 100000 in
set_option maxHeartbeats 1000000 in
theorem tableAll0_seq (w : World) (C B : Nat) (h : AllE w C B) :
    SeqE Tryz.prog 153 #[.pointer (some ⟨C, 0, none⟩)] (fun k => k = C ∨ k = B) w := by
  intro l W hag
  have g1 := hag C _ (.inl rfl) h.1
  have g2 := hag B _ (.inr rfl) h.2
  have hb := new_box W (.cells #[.func (.yield l) #[] #[]] 294)
  have q1 := (Only.of_below hb (fun _ => False)).heap g1 (fun h => h)
  have q2 := (Only.of_below hb (fun _ => False)).heap g2 (fun h => h)
  clear hag h
  refine calls_marks Tryz.func153 rfl ?_
  simp only [Tryz.ntmps153, List.size_toArray, List.length_cons, List.length_nil, Nat.reduceAdd, Nat.reduceSub, Array.replicate_succ, Array.replicate_zero, List.push_toArray, List.append_toArray, List.nil_append, List.cons_append]
  go_upto_region 1 with fail
  generalize W.alloc (.cells #[.func (.yield l) #[] #[]] 294) = W1 at hb q1 q2 ⊢
  have z0 : W1.cell? ⟨C, 0, none⟩ = some (.func (.func 222) #[] #[.pointer (some ⟨B, 0, none⟩)]) := by simp [World.cell?, q1]
  have HS := Lib.hid (treeAll0_seq W1 B q2)
  have hB := Lib.hid (Array.getElem?_eq_some_iff.1 q2).1
  have HO := Lib.hid hb
  clear q1 q2 g1 g2 hb
  go_wp2_with fail
  refine range_none rfl (enters_of Tryz.func222 (by kernel_rfl) rfl) HS.out (fun k hk => by
    rw [hk]
    exact hB.out) ?_
  intro D W2 hD hoD hk
  have HD := Lib.hid (And.intro hk (And.intro hoD hD))
  clear hk hoD hD
  go_wp2_with fail
  exact leave_norm (v := .tuple #[]) HD.out.1 (by simp [results, Tryz.results153, go_sem]) ⟨⟨_, rfl⟩, Only.of_below (below_left HO.out HD.out.2.2 HD.out.2.1) _⟩
set_option maxRecDepth 100000 in
theorem tableLen0_ok (w : World) (T L : Nat) (most n : Int) (h : TableE w T most n L) : Calls Tryz.prog 60 #[.pointer (some ⟨T, 0, none⟩)] w fun e w' => e = .returned (.int .i64 0) ∧ w' = w := by
  obtain ⟨t0, t1, t2, t3, t4, h0, ⟨_, N, hT, _⟩, _⟩ := h
  have z1 : w.cell? ⟨T, 1, none⟩ = some (.pointer (some ⟨t0, 0, none⟩)) := by simp [World.cell?, h0]
  have z2 : w.cell? ⟨t0, 1, none⟩ = some (.int .i64 0) := by simp [World.cell?, hT]
  clear h0 hT
  go_enter Tryz.func60, Tryz.ntmps60
  go_wp2_with (first | (go_at_call 102; go_in) | (go_at_call 100; go_in) | fail)
  go_ret
  exact ⟨rfl, rfl⟩
set_option maxRecDepth 100000 in
set_option maxHeartbeats 1000000 in
theorem tableSame0_ok (w : World) (T1 T2 L1 L2 : Nat) (m1 n1 m2 n2 : Int) (h1 : TableE w T1 m1 n1 L1) (h2 : TableE w T2 m2 n2 L2) : Calls Tryz.prog 56 #[.pointer (some ⟨T1, 0, none⟩), .pointer (some ⟨T2, 0, none⟩)] w fun e w' => e = .returned (.bool true) ∧ Below w.heap.size w w' := by
  have hb0 := new_box w (.cells #[.pointer (some ⟨T2, 0, none⟩)] 51)
  have k0 := heap_alloc_new w (.cells #[.pointer (some ⟨T2, 0, none⟩)] 51)
  have hb1 := hb0.trans ((new_box (w.alloc (.cells #[.pointer (some ⟨T2, 0, none⟩)] 51)) (.cells #[.bool false] 4)).mono hb0.size)
  have k1 := heap_alloc_new (w.alloc (.cells #[.pointer (some ⟨T2, 0, none⟩)] 51)) (.cells #[.bool false] 4)
  have k0' := (Only.of_below (new_box (w.alloc (.cells #[.pointer (some ⟨T2, 0, none⟩)] 51)) (.cells #[.bool false] 4)) (fun _ => False)).heap k0 (fun h => h)
  refine calls_marks Tryz.func56 rfl ?_
  simp only [Tryz.ntmps56, List.size_toArray, List.length_cons, List.length_nil, Nat.reduceAdd, Nat.reduceSub, Array.replicate_succ, Array.replicate_zero, List.push_toArray, List.append_toArray, List.nil_append, List.cons_append]
  go_upto_region 1 with fail
  generalize (w.alloc (.cells #[.pointer (some ⟨T2, 0, none⟩)] 51)).alloc (.cells #[.bool false] 4) = w1 at hb1 k1 k0' ⊢
  rw [show (w.alloc (.cells #[.pointer (some ⟨T2, 0, none⟩)] 51)).heap.size = w.heap.size + 1 by simp] at k1
  obtain ⟨C, hC⟩ : ∃ x, w.heap.size = x := ⟨_, rfl⟩
  obtain ⟨R, hR⟩ : ∃ x, w.heap.size + 1 = x := ⟨_, rfl⟩
  rw [hR] at k1 ⊢
  rw [hC] at k0' ⊢
  have z0 : w1.cell? ⟨C, 0, none⟩ = some (.pointer (some ⟨T2, 0, none⟩)) := by simp [World.cell?, k0']
  have HH := Lib.hid (And.intro (h1.below hb1) (h2.below hb1))
  have HL1 := Lib.hid (fun d => tableLen0_ok (w1.drewN d) T1 L1 m1 n1 (HH.out.1.below (below_drewN (Below.refl _ _) d)))
  have HL2 := Lib.hid (fun d => tableLen0_ok (w1.drewN d) T2 L2 m2 n2 (HH.out.2.below (below_drewN (Below.refl _ _) d)))
  have HB := Lib.hid (And.intro hb1 (And.intro k1 (show w.heap.size ≤ R by omega)))
  clear hb0 k0 hb1 k1 k0' hC hR h1 h2
  go_quiet (first | (go_at_call 60; first | exact (HL1.out _).mono (fun e w' ⟨h1, h2⟩ => ⟨h1, _, h2⟩) | exact (HL2.out _).mono (fun e w' ⟨h1, h2⟩ => ⟨h1, _, h2⟩)) | fail)
  have HA := Lib.hid (tableAll0_ok (w1.drewN nq) T1 L1 m1 n1 (HH.out.1.below (below_drewN (Below.refl _ _) nq)))
  clear z0
  go_wp2_with fail
  refine HA.out.mono ?_
  rintro e w3 ⟨C2, B, rfl, hb, hE⟩
  have hb' : Below w1.heap.size w1 w3 := (below_drewN (Below.refl _ _) nq).trans hb
  have k3 := (Only.of_below hb' (fun _ => False)).heap HB.out.2.1 (fun h => h)
  have HS := Lib.hid (tableAll0_seq w3 C2 B hE)
  have HB3 := Lib.hid (And.intro (HB.out.1.trans (hb'.mono HB.out.1.size)) (And.intro k3 hE))
  clear hb hb' k3 hE HL1 HL2 HA
  go_wp2_with fail
  refine range_none rfl (enters_of Tryz.func153 (by kernel_rfl) rfl) HS.out (fun k hk => by
    rcases hk with rfl | rfl
    · exact (Array.getElem?_eq_some_iff.1 HB3.out.2.2.1).1
    · exact (Array.getElem?_eq_some_iff.1 HB3.out.2.2.2).1) ?_
  intro D W2 hD hoD hk
  have k4 := hoD.heap HB3.out.2.1 (fun h => h)
  have y1 : W2.cell? ⟨R, 0, none⟩ = some (.bool false) := by simp [World.cell?, k4]
  have y2 : W2.frozen? ⟨R, 0, none⟩ = false := by simp [World.frozen?, k4]
  have HD := Lib.hid (And.intro hk (And.intro hoD (And.intro hD k4)))
  clear hk hoD hD k4
  go_wp2_with fail
  have hRD : R ≠ D := by have := (Array.getElem?_eq_some_iff.1 HB3.out.2.1).1; have := HD.out.2.2.1; omega
  have hK2 : (W2.setCell ⟨R, 0, none⟩ (.bool true)).heap[D]? = some (.deferred (some [])) := (Below.heap_setCell _ _ _ _ (Ne.symm hRD)).trans HD.out.1
  have hc2 : ((W2.setCell ⟨R, 0, none⟩ (.bool true)).putObj D (.deferred none)).cell? ⟨R, 0, none⟩ = some (.bool true) := by
    rw [World.cell?_of_block (World.putObj_heap_other hRD)]
    exact World.cell?_setCell_same' _ _ _ (by rw [y1]; rfl)
  refine leave_mark (v := .bool true) hK2 (by simp [results, Tryz.results56, go_sem, hc2]) ⟨rfl, ?_⟩
  have b1 : Below w.heap.size w W2 := HB3.out.1.trans (HD.out.2.1.belowN HB3.out.1.size (fun _ _ h => h))
  have hDl : w.heap.size ≤ D := Nat.le_trans HB3.out.1.size HD.out.2.2.1
  exact (b1.setCell (p := ⟨R, 0, none⟩) HB.out.2.2 _).trans (((Only.putObj _ D _).belowN (by have := b1.size; simp [World.setCell]; omega) (fun k hk e => by omega)))
end Go.Proofs.YtiacbhnkcllpjaaGreatDoor
