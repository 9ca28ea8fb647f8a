/- The chapter's example of layer 20; Live without a log. -/
import Derived.Test.YtifpaagppjmbhaaGreatDoorReplB
import Derived.Test.YtifpaagppjmbhaaGreatDoorReplC
namespace Go.Proofs.YtifpaagppjmbhaaGreatDoor
set_option maxRecDepth 100000
open Go.RowKit

theorem one_life {W : World} {b : Nat} {x : LF} {t : TypeId} (h : W.heap[b]? = some (.cells #[.int .i64 x.wk, .int .i64 x.st, x.pv] t (0, 0))) : RdK 3 W (fun _ => True) (.slice (some ⟨b, 0, none⟩) 1 1) ([x].map LF.cells) :=
  ⟨some ⟨b, 0, none⟩, 1, 1, rfl, rfl, Nat.le_refl _, by simp [maxLen], fun _ => ⟨b, 0, rfl, trivial, fun i y hi j u hj => by
    have h0 : i = 0 := by have := (List.getElem?_eq_some_iff.1 hi).1; simp at this; exact this
    subst h0
    simp at hi
    subst hi
    have h3 : j < 3 := (List.getElem?_eq_some_iff.1 hj).1
    have : j = 0 ∨ j = 1 ∨ j = 2 := by omega
    rcases this with rfl | rfl | rfl <;> simp [LF.cells] at hj <;> subst hj <;> simp [World.cell?, h]⟩⟩
theorem play20 : playErr 4 2 9 [⟨1, 0, .slice none 0 0, []⟩] = 0 := by simp [playErr, plErr, liErr, exErr, cfgErr, fuelErr, tabErr, ordErr, wkErr]
set_option maxRecDepth 100000 in
set_option maxHeartbeats 1000000 in
theorem awake20_ok (w : World) : Calls Tryz.prog 42 #[] w fun e w' => e = .returned (.bool true) ∧ Below w.heap.size w w' := by
  go_enter Tryz.func42, Tryz.ntmps42
  go_wp2_with fail
  refine (logNew0_ok w).mono ?_
  rintro e w2 ⟨L, rfl, -, hL, hb2⟩
  have hb3 := new_box w2 (.cells #[.int .i64 1, .int .i64 0, .slice none 0 0] 102)
  have k3 := heap_alloc_new w2 (.cells #[.int .i64 1, .int .i64 0, .slice none 0 0] 102)
  have HP := Lib.hid (play0_ok (w2.alloc (.cells #[.int .i64 1, .int .i64 0, .slice none 0 0] 102)) L 4 2 9 (.slice (some ⟨w2.heap.size, 0, none⟩) 1 1) [⟨1, 0, .slice none 0 0, []⟩] (hL.below hb3)
    (one_life (x := ⟨1, 0, .slice none 0 0, []⟩) k3)
    (fun x hx => by simp at hx; subst hx; exact Rd.nil _ _))
  unfold cfgV at HP
  rw [play20] at HP
  have HB := Lib.hid (hb2.trans (hb3.mono hb2.size))
  clear hb2 hb3 k3 hL
  go_wp2_with fail
  refine HP.out.mono ?_
  rintro e w4 ⟨hb4, he, -⟩
  obtain ⟨a, rfl⟩ := he rfl
  rw [show repV [(⟨1, 0, .slice none 0 0, []⟩ : LF)].length (some a) = .agg #[.slice none 0 0, .int .i64 1, .int .i64 0, .slice none 0 0, .pointer (some a)] from rfl]
  have hb5 := new_box w4 (.cells #[.slice none 0 0, .int .i64 1, .int .i64 0, .slice none 0 0, .pointer (some a)] 97)
  have k5 := heap_alloc_new w4 (.cells #[.slice none 0 0, .int .i64 1, .int .i64 0, .slice none 0 0, .pointer (some a)] 97)
  have HB5 := Lib.hid (HB.out.trans ((hb4.trans (hb5.mono hb4.size)).mono HB.out.size))
  clear he hb4 hb5 HP
  go_upto_region 3 with fail
  generalize w4.alloc (.cells #[.slice none 0 0, .int .i64 1, .int .i64 0, .slice none 0 0, .pointer (some a)] 97) = w5 at k5 HB5 ⊢
  generalize w4.heap.size = D at k5 ⊢
  obtain ⟨d0, d1, d2, d3, d4⟩ := seen_cells k5
  clear k5
  go_wp2_with fail
  refine (agree_ok w5 (.slice none 0 0) (.slice none 0 0) [] [] 1 0 (some a) (RdK.nil _ _ _) (RdK.nil _ _ _)).mono ?_
  rintro e w6 ⟨r, hr, rfl, hb6⟩
  obtain rfl : r = true := hr.2 (fun x hx => by cases hx)
  have HB6 := Lib.hid (HB5.out.trans (hb6.mono HB5.out.size))
  clear hb6 hr
  go_wp2_with fail
  go_ret
  exact ⟨rfl, HB6.out⟩
set_option maxRecDepth 100000 in
set_option maxHeartbeats 1000000 in
theorem liveNil_ok (w : World) (most n f wk st : Int) (A : Option Addr) (m c : Nat) : Calls Tryz.prog 46 #[.pointer none, cfgV most n f, .agg #[.int .i64 wk, .int .i64 st, .slice A m c]] w fun e w' => e = .returned (.tuple #[.pointer none, .int .i64 0, .int .i64 2]) ∧ Below w.heap.size w w' := by
  unfold cfgV
  have hb0 := new_box w (.cells #[.int .i64 most, .int .i64 n, .int .i64 f] 23)
  have k0 := heap_alloc_new w (.cells #[.int .i64 most, .int .i64 n, .int .i64 f] 23)
  have hb1 := new_box (w.alloc (.cells #[.int .i64 most, .int .i64 n, .int .i64 f] 23)) (.cells #[.int .i64 wk, .int .i64 st, .slice A m c] 102)
  have k1 := heap_alloc_new (w.alloc (.cells #[.int .i64 most, .int .i64 n, .int .i64 f] 23)) (.cells #[.int .i64 wk, .int .i64 st, .slice A m c] 102)
  rw [show (w.alloc (.cells #[.int .i64 most, .int .i64 n, .int .i64 f] 23)).heap.size = w.heap.size + 1 by simp] at k1
  have k0 := (Only.of_below hb1 (fun _ => False)).heap k0 (fun h => h)
  have hb := hb0.trans (hb1.mono hb0.size)
  go_enter Tryz.func46, Tryz.ntmps46
  go_upto_region 1 with fail
  generalize (w.alloc (.cells #[.int .i64 most, .int .i64 n, .int .i64 f] 23)).alloc (.cells #[.int .i64 wk, .int .i64 st, .slice A m c] 102) = w1 at hb k0 k1 ⊢
  generalize w.heap.size + 1 = D at k1 ⊢
  obtain ⟨C, hC⟩ : ∃ x, w.heap.size = x := ⟨_, rfl⟩
  rw [hC] at k0 ⊢
  have z0 : w1.cell? ⟨C, 0, none⟩ = some (.int .i64 most) := by simp [World.cell?, k0]
  have z1 : w1.cell? ⟨C, 1, none⟩ = some (.int .i64 n) := by simp [World.cell?, k0]
  have z2 : w1.cell? ⟨C, 2, none⟩ = some (.int .i64 f) := by simp [World.cell?, k0]
  have y0 : w1.cell? ⟨D, 0, none⟩ = some (.int .i64 wk) := by simp [World.cell?, k1]
  have HE := Lib.hid (exNewNil_ok w1 most n f wk)
  have HB := Lib.hid hb
  unfold cfgV at HE
  clear hb k0 k1 hb0 hb1
  go_wp2_with fail
  refine HE.out.mono ?_
  rintro e w2 ⟨rfl, hb2⟩
  have HB2 := Lib.hid (HB.out.trans (hb2.mono HB.out.size))
  clear hb2
  go_wp2_with fail
  go_ret3
  exact ⟨rfl, HB2.out⟩
end Go.Proofs.YtifpaagppjmbhaaGreatDoor
