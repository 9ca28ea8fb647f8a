import Derived.Test.YtagemonojdgbdaaGreatDoorC02
import Derived.Test.YtagemonojdgbdaaGreatDoorProg
import Derived.Deep.CutRange
namespace Go.Proofs.YtagemonojdgbdaaGreatDoor
set_option maxRecDepth 100000
open Go.RowKit
def TreeE (w : World) (T : Nat) (n : Int) : Prop :=
 ∃ N, w.heap[T]? = some (.cells #[.int .i64 n, .int .i64 0, .pointer (some ⟨N, 0, none⟩)] 203 (0, 0)) ∧ w.heap[N]? = some (.cells #[.slice none 0 0, .slice none 0 0] 201 (0, 0))
theorem new_box (w : World) (o : Obj) : Below w.heap.size w (w.alloc o) := (Below.refl _ _).alloc (Nat.le_refl _) _
theorem TreeE.only {w w' : World} {S : Nat → Prop} {T : Nat} {n : Int} (h : TreeE w T n) (ho : Only S w w') (hS : ∀ k cs t, S k → w.heap[k]? = some (.cells cs t (0, 0)) → t ≠ 203 ∧ t ≠ 201) : TreeE w' T n := by
 obtain ⟨N, h1, h2⟩ := h
 exact ⟨N, ho.heap h1 (fun hs => (hS _ _ _ hs h1).1 rfl), ho.heap h2 (fun hs => (hS _ _ _ hs h2).2 rfl)⟩
theorem TreeE.below {w w' : World} {T : Nat} {n : Int} (h : TreeE w T n) (hb : Below w.heap.size w w') : TreeE w' T n := by
 obtain ⟨N, h1, h2⟩ := h
 exact ⟨N, (Only.of_below hb (fun _ => False)).heap h1 (fun h => h), (Only.of_below hb (fun _ => False)).heap h2 (fun h => h)⟩
theorem treeNew_ok (w : World) (n : Int) (h1 : 2 ≤ n) (h2 : n ≤ 16) : Calls Tryz.prog 57 #[.int .i64 n] w fun e w' =>
  ∃ T, e = .returned (.tuple #[.pointer (some ⟨T, 0, none⟩), .int .i64 0]) ∧ w.heap.size ≤ T ∧ TreeE w' T n ∧ Below w.heap.size w w' := by
 have hb := new_box w (.cells #[.slice none 0 0, .slice none 0 0] 201)
 have k1 := heap_alloc_new w (.cells #[.slice none 0 0, .slice none 0 0] 201)
 have hb2 := new_box (w.alloc (.cells #[.slice none 0 0, .slice none 0 0] 201)) (.cells #[.int .i64 n, .int .i64 0, .pointer (some ⟨w.heap.size, 0, none⟩)] 203)
 have k2 := heap_alloc_new (w.alloc (.cells #[.slice none 0 0, .slice none 0 0] 201)) (.cells #[.int .i64 n, .int .i64 0, .pointer (some ⟨w.heap.size, 0, none⟩)] 203)
 have H := Lib.hid (show ∃ T, T = w.heap.size + 1 ∧ w.heap.size ≤ T ∧ TreeE ((w.alloc (.cells #[.slice none 0 0, .slice none 0 0] 201)).alloc (.cells #[.int .i64 n, .int .i64 0, .pointer (some ⟨w.heap.size, 0, none⟩)] 203)) T n ∧ Below w.heap.size w ((w.alloc (.cells #[.slice none 0 0, .slice none 0 0] 201)).alloc (.cells #[.int .i64 n, .int .i64 0, .pointer (some ⟨w.heap.size, 0, none⟩)] 203)) from
  ⟨_, rfl, by omega, ⟨w.heap.size, by simpa using k2, (Only.of_below hb2 (fun _ => False)).heap k1 (fun h => h)⟩, hb.trans (hb2.mono (by simp))⟩)
 have h1' : ¬ n < 2 := by omega
 have h2' : ¬ 16 < n := by omega
 clear hb k1 hb2 k2
 go_enter Tryz.func57, Tryz.ntmps57
 go_wp2_with fail
 go_ret2
 obtain ⟨T, e, h3, h4, h5⟩ := H.out
 subst e
 exact ⟨_, rfl, h3, h4, h5⟩
def TableE (w : World) (T : Nat) (most n : Int) (L : Nat) : Prop :=
 ∃ t0 t1 t2 t3 t4 : Nat, w.heap[T]? = some (.cells #[.int .i64 most, .pointer (some ⟨t0, 0, none⟩), .pointer (some ⟨t1, 0, none⟩), .pointer (some ⟨t2, 0, none⟩), .pointer (some ⟨t3, 0, none⟩), .pointer (some ⟨t4, 0, none⟩)] 151 (0, 0)) ∧
  (L ≤ t0 ∧ TreeE w t0 n) ∧ (L ≤ t1 ∧ TreeE w t1 n) ∧ (L ≤ t2 ∧ TreeE w t2 n) ∧ (L ≤ t3 ∧ TreeE w t3 n) ∧ (L ≤ t4 ∧ TreeE w t4 n)
def Trees (w wr : World) (T : Nat) (most n : Int) (k : Nat) : Prop :=
 ∃ cs : Array Value, wr.heap[T]? = some (.cells cs 151 (0, 0)) ∧ cs.size = 6 ∧ cs[0]? = some (.int .i64 most) ∧ T < wr.heap.size ∧ Below w.heap.size w wr ∧ w.heap.size ≤ T ∧
  ∀ j, j < k → ∃ t, cs[j + 1]? = some (.pointer (some ⟨t, 0, none⟩)) ∧ w.heap.size ≤ t ∧ TreeE wr t n
theorem Trees.more {w wr w' : World} {T t : Nat} {most n : Int} {k : Nat} (h : Trees w wr T most n k) (hk : k < 5) (hb : Below wr.heap.size wr w') (ht : wr.heap.size ≤ t) (hE : TreeE w' t n) : Trees w (w'.setCell ⟨T, k + 1, none⟩ (.pointer (some ⟨t, 0, none⟩))) T most n (k + 1) := by
 obtain ⟨cs, h1, h2, h3, h4, h5, h6, h7⟩ := h
 have h1' := (Only.of_below hb (fun _ => False)).heap h1 (fun h => h)
 have ho := Only.set1 w' T (k + 1) (.pointer (some ⟨t, 0, none⟩))
 have hS : ∀ q cs' t', q = T → w'.heap[q]? = some (.cells cs' t' (0, 0)) → t' ≠ 203 ∧ t' ≠ 201 := by
  rintro q cs' t' rfl hq
  rw [h1'] at hq
  injection hq with hq
  injection hq with _ e
  subst e
  exact ⟨by decide, by decide⟩
 refine ⟨cs.setIfInBounds (k + 1) (.pointer (some ⟨t, 0, none⟩)), by simp [World.setCell, Array.getElem?_modify, h1'], by simpa using h2, ?_, Nat.lt_of_lt_of_le h4 (Nat.le_trans hb.size ho.size), (h5.trans (hb.mono h5.size)).setCell (p := ⟨T, k + 1, none⟩) h6 _, h6, fun j hj => ?_⟩
 ·rw [Array.getElem?_setIfInBounds, if_neg (by omega)]
  exact h3
 ·by_cases hjk : j = k
  ·subst hjk
   refine ⟨t, ?_, Nat.le_trans h5.size ht, hE.only ho hS⟩
   rw [Array.getElem?_setIfInBounds, if_pos rfl, if_pos (by omega)]
  ·obtain ⟨t', a1, a2, a3⟩ := h7 j (by omega)
   refine ⟨t', ?_, a2, (a3.below hb).only ho hS⟩
   rw [Array.getElem?_setIfInBounds, if_neg (by omega)]
   exact a1
theorem Trees.all {w wr : World} {T : Nat} {most n : Int} (h : Trees w wr T most n 5) : TableE wr T most n w.heap.size := by
 obtain ⟨⟨l⟩, h1, h2, h3, h4, h5, h6, h7⟩ := h
 match l, h2 with
 | [c0, c1, c2, c3, c4, c5], _ =>
  obtain ⟨t0, a0, b0, d0⟩ := h7 0 (by decide)
  obtain ⟨t1, a1, b1, d1⟩ := h7 1 (by decide)
  obtain ⟨t2, a2, b2, d2⟩ := h7 2 (by decide)
  obtain ⟨t3, a3, b3, d3⟩ := h7 3 (by decide)
  obtain ⟨t4, a4, b4, d4⟩ := h7 4 (by decide)
  simp at h3 a0 a1 a2 a3 a4
  subst h3 a0 a1 a2 a3 a4
  exact ⟨t0, t1, t2, t3, t4, h1, ⟨b0, d0⟩, ⟨b1, d1⟩, ⟨b2, d2⟩, ⟨b3, d3⟩, ⟨b4, d4⟩⟩
set_option maxHeartbeats 1000000 in
theorem tableNew_ok (w : World) (most n : Int) (h1 : 1 ≤ most) (h2 : most ≤ 1024) (h3 : 2 ≤ n) (h4 : n ≤ 16) : Calls Tryz.prog 33 #[.int .i64 most, .int .i64 n] w fun e w' =>
  ∃ T, e = .returned (.tuple #[.pointer (some ⟨T, 0, none⟩), .int .i64 0]) ∧ w.heap.size ≤ T ∧ TableE w' T most n w.heap.size ∧ Below w.heap.size w w' := by
 have hb0 := new_box w (.cells #[.int .i64 most, .pointer none, .pointer none, .pointer none, .pointer none, .pointer none] 151)
 have k0 := heap_alloc_new w (.cells #[.int .i64 most, .pointer none, .pointer none, .pointer none, .pointer none, .pointer none] 151)
 have m1 : ¬ most < 1 := by omega
 have m2 : ¬ 1024 < most := by omega
 have HN := Lib.hid (And.intro h3 h4)
 go_enter Tryz.func33, Tryz.ntmps33
 go_upto_region 4 with fail
 generalize w.alloc (.cells #[.int .i64 most, .pointer none, .pointer none, .pointer none, .pointer none, .pointer none] 151) = w1 at hb0 k0 ⊢
 obtain ⟨T, hT⟩ : ∃ x, w.heap.size = x := ⟨_, rfl⟩
 rw [hT] at k0 ⊢
 have HS := Lib.hid (show Trees w w1 T most n 0 from ⟨_, k0, rfl, rfl, (Array.getElem?_eq_some_iff.1 k0).1, hb0, by omega, fun j hj => by omega⟩)
 clear hb0 k0 hT
 go_wp2_with fail
 go_loopw [19] (fun i wr => ∃ k : Nat, k ≤ 5 ∧ i = .int .i64 (k : Int) ∧ Trees w wr T most n k) (fun i _ => 5 - (intOf i).toNat)
 case atStart => exact ⟨0, by decide, rfl, HS.out⟩
 case round =>
  obtain ⟨k, hk, rfl, hR⟩ := hrel
  by_cases hlt : k < 5
  ·have HR := Lib.hid hR
   have HC := Lib.hid (treeNew_ok wr n HN.out.1 HN.out.2)
   clear hR
   go_wp2_with fail
   refine HC.out.mono ?_
   rintro e w2 ⟨t, rfl, ht, hE, hb⟩
   have hM := HR.out.more hlt hb ht hE
   obtain ⟨cs, q1, q2, _⟩ := HR.out
   have q1' := (Only.of_below hb (fun _ => False)).heap q1 (fun h => h)
   obtain ⟨cv, hcv⟩ : ∃ v, cs[k + 1]? = some v := ⟨_, Array.getElem?_eq_getElem (by omega)⟩
   have z0 : w2.cell? ⟨T, 1 + k, none⟩ = some cv := by rw [Nat.add_comm 1 k]; simp [World.cell?, q1', hcv]
   have z1 : w2.frozen? ⟨T, 1 + k, none⟩ = false := by simp [World.frozen?, q1']
   have i1 : (0 : Int) ≤ (k : Int) := by omega
   have i2 : (k : Int) < 5 := by omega
   have HM := Lib.hid hM
   clear hM q1 q1' q2 hcv ht hE hb HC
   go_wp2_with fail
   go_roundw
   case rel => exact ⟨k + 1, by omega, by go_num, by rw [Nat.add_comm 1 k]; exact HM.out⟩
   case measure => simp [intOf]; omega
  ·obtain rfl : k = 5 := by omega
   have HR := Lib.hid hR
   clear hR
   go_wp2_with fail
   go_ret2
   obtain ⟨cs, q1, q2, q3, q4, q5, q6, q7⟩ := id HR.out
   exact ⟨T, rfl, q6, HR.out.all, q5⟩

def ordErr (n : Int) : Int := if n < 2 ∨ 16 < n then 23 else 0
def tabErr (most n : Int) : Int := if most < 1 ∨ 1024 < most then 23 else ordErr n
def fuelErr (f : Int) : Int := if f < 0 ∨ 10000 < f then 10 else 0
def cfgErr (most n f : Int) : Int := if fuelErr f = 0 then tabErr most n else fuelErr f
theorem treeNew_err (w : World) (n : Int) (h : n < 2 ∨ 16 < n) : Calls Tryz.prog 57 #[.int .i64 n] w fun e w' =>
  e = .returned (.tuple #[.pointer none, .int .i64 23]) ∧ w' = w := by
 by_cases h1 : n < 2
 ·clear h
  go_enter Tryz.func57, Tryz.ntmps57
  go_wp2_with fail
  go_ret2
  exact ⟨rfl, rfl⟩
 ·have h2 : 16 < n := by omega
  clear h
  go_enter Tryz.func57, Tryz.ntmps57
  go_wp2_with fail
  go_ret2
  exact ⟨rfl, rfl⟩
def TabNew (w : World) (e most n : Int) (x : Ending) (w' : World) : Prop :=
 Below w.heap.size w w' ∧ (e = 0 → ∃ T, x = .returned (.tuple #[.pointer (some ⟨T, 0, none⟩), .int .i64 0]) ∧ w.heap.size ≤ T ∧ TableE w' T most n w.heap.size) ∧
  (e ≠ 0 → x = .returned (.tuple #[.pointer none, .int .i64 e]))
set_option maxHeartbeats 1000000 in
theorem tableNew_any (w : World) (most n : Int) : Calls Tryz.prog 33 #[.int .i64 most, .int .i64 n] w (TabNew w (tabErr most n) most n) := by
 by_cases h1 : most < 1
 ·have H := Lib.hid (show tabErr most n = 23 by unfold tabErr; rw [if_pos (.inl h1)])
  go_enter Tryz.func33, Tryz.ntmps33
  go_wp2_with fail
  go_ret2
  exact ⟨Below.refl _ _, fun h => absurd (H.out.symm.trans h) (by decide), fun _ => by rw [H.out]; rfl⟩
 by_cases h2 : 1024 < most
 ·have H := Lib.hid (show tabErr most n = 23 by unfold tabErr; rw [if_pos (.inr h2)])
  go_enter Tryz.func33, Tryz.ntmps33
  go_wp2_with fail
  go_ret2
  exact ⟨Below.refl _ _, fun h => absurd (H.out.symm.trans h) (by decide), fun _ => by rw [H.out]; rfl⟩
 by_cases h3 : n < 2 ∨ 16 < n
 ·have H := Lib.hid (show tabErr most n = 23 by unfold tabErr ordErr; rw [if_neg (by omega), if_pos h3])
  have hb0 := new_box w (.cells #[.int .i64 most, .pointer none, .pointer none, .pointer none, .pointer none, .pointer none] 151)
  go_enter Tryz.func33, Tryz.ntmps33
  go_upto_region 4 with fail
  generalize w.alloc (.cells #[.int .i64 most, .pointer none, .pointer none, .pointer none, .pointer none, .pointer none] 151) = w1 at hb0 ⊢
  have HB := Lib.hid hb0
  generalize w.heap.size = T
  have HC := Lib.hid (treeNew_err w1 n h3)
  clear hb0 h3
  go_wp2_with fail
  go_loopw [19] (fun i wr => i = .int .i64 0 ∧ wr = w1) (fun i _ => 5 - (intOf i).toNat)
  case atStart => exact ⟨rfl, rfl⟩
  case round =>
   obtain ⟨rfl, rfl⟩ := hrel
   go_wp2_with fail
   refine HC.out.mono ?_
   rintro e w2 ⟨rfl, rfl⟩
   go_wp2_with fail
   go_ret2
   exact ⟨HB.out, fun h => absurd (H.out.symm.trans h) (by decide), fun _ => by rw [H.out]; rfl⟩
 ·have H : tabErr most n = 0 := by unfold tabErr ordErr; rw [if_neg (by omega), if_neg h3]
  refine (tableNew_ok w most n (by omega) (by omega) (by omega) (by omega)).mono ?_
  rintro e w' ⟨T, rfl, hT, hE, hb⟩
  exact ⟨hb, fun _ => ⟨T, rfl, hT, hE⟩, fun h => absurd H h⟩
theorem fueled_ok (w : World) (f : Int) : Calls Tryz.prog 74 #[.int .i64 f] w fun e w' => e = .returned (.int .i64 (fuelErr f)) ∧ w' = w := by
 by_cases h1 : f < 0
 ·have H := Lib.hid (show fuelErr f = 10 by unfold fuelErr; rw [if_pos (.inl h1)])
  go_enter Tryz.func74, Tryz.ntmps74
  go_wp2_with fail
  go_ret
  exact ⟨by rw [H.out]; rfl, rfl⟩
 by_cases h2 : 10000 < f
 ·have H := Lib.hid (show fuelErr f = 10 by unfold fuelErr; rw [if_pos (.inr h2)])
  go_enter Tryz.func74, Tryz.ntmps74
  go_wp2_with fail
  go_ret
  exact ⟨by rw [H.out]; rfl, rfl⟩
 ·have H := Lib.hid (show fuelErr f = 0 by unfold fuelErr; rw [if_neg (by omega)])
  go_enter Tryz.func74, Tryz.ntmps74
  go_wp2_with fail
  go_ret
  exact ⟨by rw [H.out]; rfl, rfl⟩
def cfgV (most n f : Int) : Value := .agg #[.int .i64 most, .int .i64 n, .int .i64 f]
theorem TableE.le {w : World} {T L L' : Nat} {most n : Int} (h : TableE w T most n L) (hl : L' ≤ L) : TableE w T most n L' := by
 obtain ⟨t0, t1, t2, t3, t4, h0, ⟨a0, b0⟩, ⟨a1, b1⟩, ⟨a2, b2⟩, ⟨a3, b3⟩, ⟨a4, b4⟩⟩ := h
 exact ⟨t0, t1, t2, t3, t4, h0, ⟨Nat.le_trans hl a0, b0⟩, ⟨Nat.le_trans hl a1, b1⟩, ⟨Nat.le_trans hl a2, b2⟩, ⟨Nat.le_trans hl a3, b3⟩, ⟨Nat.le_trans hl a4, b4⟩⟩
theorem TabNew.of {w w1 : World} {e most n : Int} {x : Ending} {w' : World} (h : TabNew w1 e most n x w') (hb : Below w.heap.size w w1) : TabNew w e most n x w' := by
 refine ⟨hb.trans (h.1.mono hb.size), fun h0 => ?_, h.2.2⟩
 obtain ⟨T, e1, hT, hE⟩ := h.2.1 h0
 exact ⟨T, e1, Nat.le_trans hb.size hT, hE.le hb.size⟩
theorem serEmpty_ok (w : World) (most n f : Int) : Calls Tryz.prog 41 #[cfgV most n f] w (TabNew w (cfgErr most n f) most n) := by
 unfold cfgV
 have hb := Lib.hid (new_box w (.cells #[.int .i64 most, .int .i64 n, .int .i64 f] 53))
 have HF := Lib.hid (fun w => fueled_ok w f)
 have HT := Lib.hid (fun w => tableNew_any w most n)
 by_cases h : fuelErr f = 0
 ·have H := Lib.hid (show cfgErr most n f = tabErr most n by unfold cfgErr; rw [if_pos h])
  rw [h] at HF
  clear h
  go_enter Tryz.func41, Tryz.ntmps41
  go_wp2_with fail
  refine (HF.out _).mono ?_
  rintro e w2 ⟨rfl, rfl⟩
  go_wp2_with fail
  refine (HT.out _).mono ?_
  rintro e w2 h
  replace h := h.of hb.out
  by_cases h0 : tabErr most n = 0
  ·obtain ⟨T, rfl, hT, hE⟩ := h.2.1 h0
   have HB := Lib.hid h.1
   have HE := Lib.hid hE
   have H0 := Lib.hid h0
   clear h h0 hE
   go_wp2_with fail
   go_ret2
   rw [H.out]
   exact ⟨HB.out, fun _ => ⟨T, rfl, hT, HE.out⟩, fun h => absurd H0.out h⟩
  ·obtain rfl := h.2.2 h0
   have HB := Lib.hid h.1
   have H0 := Lib.hid h0
   clear h h0
   go_wp2_with fail
   go_ret2
   rw [H.out]
   exact ⟨HB.out, fun h => absurd h H0.out, fun _ => rfl⟩
 ·have H := Lib.hid (show cfgErr most n f = fuelErr f by unfold cfgErr; rw [if_neg h])
  generalize fuelErr f = x at h H HF
  go_enter Tryz.func41, Tryz.ntmps41
  go_wp2_with fail
  refine (HF.out _).mono ?_
  rintro e w2 ⟨rfl, rfl⟩
  go_wp2_with fail
  go_ret2
  rw [H.out]
  exact ⟨hb.out, fun h' => absurd h' h, fun _ => rfl⟩
end Go.Proofs.YtagemonojdgbdaaGreatDoor
