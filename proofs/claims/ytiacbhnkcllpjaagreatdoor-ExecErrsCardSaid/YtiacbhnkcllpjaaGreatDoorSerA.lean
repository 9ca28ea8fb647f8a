/- serial.Empty, serial.Check: which configurations may be; table.New at whatever numbers. -/
import Derived.Test.YtiacbhnkcllpjaaGreatDoorTree
namespace Go.Proofs.YtiacbhnkcllpjaaGreatDoor
set_option maxRecDepth 100000
open Go.RowKit

/-- What is wrong with an order, and with a table of so many rows. -/
def ordErr (n : Int) : Int := if n < 2 ∨ 16 < n then 23 else 0
def tabErr (most n : Int) : Int := if most < 1 ∨ 1024 < most then 23 else ordErr n
/-- What is wrong with fuel, and with a configuration. -/
def fuelErr (f : Int) : Int := if f < 0 ∨ 10000 < f then 10 else 0
def cfgErr (most n f : Int) : Int := if fuelErr f = 0 then tabErr most n else fuelErr f
set_option maxRecDepth 100000 in
theorem treeNew_err (w : World) (n : Int) (h : n < 2 ∨ 16 < n) : Calls Tryz.prog 127 #[.int .i64 n] w fun e w' =>
    e = .returned (.tuple #[.pointer none, .int .i64 23]) ∧ w' = w := by
  by_cases h1 : n < 2
  · clear h
    go_enter Tryz.func127, Tryz.ntmps127
    go_wp2_with fail
    go_ret2
    exact ⟨rfl, rfl⟩
  · have h2 : 16 < n := by omega
    clear h
    go_enter Tryz.func127, Tryz.ntmps127
    go_wp2_with fail
    go_ret2
    exact ⟨rfl, rfl⟩
/-- What a maker of tables answers. -/
def TabNew (w : World) (e most n : Int) (x : Ending) (w' : World) : Prop :=
  Below w.heap.size w w' ∧ (e = 0 → ∃ T, x = .returned (.tuple #[.pointer (some ⟨T, 0, none⟩), .int .i64 0]) ∧ w.heap.size ≤ T ∧ TableE w' T most n w.heap.size) ∧
    (e ≠ 0 → x = .returned (.tuple #[.pointer none, .int .i64 e]))
set_option maxRecDepth 100000 in
set_option maxHeartbeats 1000000 in
theorem tableNew_any (w : World) (most n : Int) : Calls Tryz.prog 79 #[.int .i64 most, .int .i64 n] w (TabNew w (tabErr most n) most n) := by
  by_cases h1 : most < 1
  · have H := Lib.hid (show tabErr most n = 23 by unfold tabErr; rw [if_pos (.inl h1)])
    go_enter Tryz.func79, Tryz.ntmps79
    go_wp2_with fail
    go_ret2
    exact ⟨Below.refl _ _, fun h => absurd (H.out.symm.trans h) (by decide), fun _ => by rw [H.out]; rfl⟩
  by_cases h2 : 1024 < most
  · have H := Lib.hid (show tabErr most n = 23 by unfold tabErr; rw [if_pos (.inr h2)])
    go_enter Tryz.func79, Tryz.ntmps79
    go_wp2_with fail
    go_ret2
    exact ⟨Below.refl _ _, fun h => absurd (H.out.symm.trans h) (by decide), fun _ => by rw [H.out]; rfl⟩
  by_cases h3 : n < 2 ∨ 16 < n
  · have H := Lib.hid (show tabErr most n = 23 by unfold tabErr ordErr; rw [if_neg (by omega), if_pos h3])
    have hb0 := new_box w (.cells #[.int .i64 most, .pointer none, .pointer none, .pointer none, .pointer none, .pointer none] 217)
    go_enter Tryz.func79, Tryz.ntmps79
    go_upto_region 4 with fail
    generalize w.alloc (.cells #[.int .i64 most, .pointer none, .pointer none, .pointer none, .pointer none, .pointer none] 217) = w1 at hb0 ⊢
    have HB := Lib.hid hb0
    generalize w.heap.size = T
    have HC := Lib.hid (treeNew_err w1 n h3)
    clear hb0 h3
    go_wp2_with fail
    go_loopw [19] (fun i wr => i = .int .i64 0 ∧ wr = w1) (fun i _ => 5 - (intOf i).toNat)
    case atStart => exact ⟨rfl, rfl⟩
    case round =>
      obtain ⟨rfl, rfl⟩ := hrel
      go_wp2_with fail
      refine HC.out.mono ?_
      rintro e w2 ⟨rfl, rfl⟩
      go_wp2_with fail
      go_ret2
      exact ⟨HB.out, fun h => absurd (H.out.symm.trans h) (by decide), fun _ => by rw [H.out]; rfl⟩
  · have H : tabErr most n = 0 := by unfold tabErr ordErr; rw [if_neg (by omega), if_neg h3]
    refine (tableNew_ok w most n (by omega) (by omega) (by omega) (by omega)).mono ?_
    rintro e w' ⟨T, rfl, hT, hE, hb⟩
    exact ⟨hb, fun _ => ⟨T, rfl, hT, hE⟩, fun h => absurd H h⟩
set_option maxRecDepth 100000 in
theorem fueled_ok (w : World) (f : Int) : Calls Tryz.prog 94 #[.int .i64 f] w fun e w' => e = .returned (.int .i64 (fuelErr f)) ∧ w' = w := by
  by_cases h1 : f < 0
  · have H := Lib.hid (show fuelErr f = 10 by unfold fuelErr; rw [if_pos (.inl h1)])
    go_enter Tryz.func94, Tryz.ntmps94
    go_wp2_with fail
    go_ret
    exact ⟨by rw [H.out]; rfl, rfl⟩
  by_cases h2 : 10000 < f
  · have H := Lib.hid (show fuelErr f = 10 by unfold fuelErr; rw [if_pos (.inr h2)])
    go_enter Tryz.func94, Tryz.ntmps94
    go_wp2_with fail
    go_ret
    exact ⟨by rw [H.out]; rfl, rfl⟩
  · have H := Lib.hid (show fuelErr f = 0 by unfold fuelErr; rw [if_neg (by omega)])
    go_enter Tryz.func94, Tryz.ntmps94
    go_wp2_with fail
    go_ret
    exact ⟨by rw [H.out]; rfl, rfl⟩
/-- A configuration. -/
def cfgV (most n f : Int) : Value := .agg #[.int .i64 most, .int .i64 n, .int .i64 f]
theorem TableE.le {w : World} {T L L' : Nat} {most n : Int} (h : TableE w T most n L) (hl : L' ≤ L) : TableE w T most n L' := by
  obtain ⟨t0, t1, t2, t3, t4, h0, ⟨a0, b0⟩, ⟨a1, b1⟩, ⟨a2, b2⟩, ⟨a3, b3⟩, ⟨a4, b4⟩⟩ := h
  exact ⟨t0, t1, t2, t3, t4, h0, ⟨Nat.le_trans hl a0, b0⟩, ⟨Nat.le_trans hl a1, b1⟩, ⟨Nat.le_trans hl a2, b2⟩, ⟨Nat.le_trans hl a3, b3⟩, ⟨Nat.le_trans hl a4, b4⟩⟩
theorem TabNew.of {w w1 : World} {e most n : Int} {x : Ending} {w' : World} (h : TabNew w1 e most n x w') (hb : Below w.heap.size w w1) : TabNew w e most n x w' := by
  refine ⟨hb.trans (h.1.mono hb.size), fun h0 => ?_, h.2.2⟩
  obtain ⟨T, e1, hT, hE⟩ := h.2.1 h0
  exact ⟨T, e1, Nat.le_trans hb.size hT, hE.le hb.size⟩
set_option maxRecDepth 100000 in
theorem serEmpty_ok (w : World) (most n f : Int) : Calls Tryz.prog 57 #[cfgV most n f] w (TabNew w (cfgErr most n f) most n) := by
  unfold cfgV
  have hb := Lib.hid (new_box w (.cells #[.int .i64 most, .int .i64 n, .int .i64 f] 23))
  have HF := Lib.hid (fun w => fueled_ok w f)
  have HT := Lib.hid (fun w => tableNew_any w most n)
  by_cases h : fuelErr f = 0
  · have H := Lib.hid (show cfgErr most n f = tabErr most n by unfold cfgErr; rw [if_pos h])
    rw [h] at HF
    clear h
    go_enter Tryz.func57, Tryz.ntmps57
    go_wp2_with fail
    refine (HF.out _).mono ?_
    rintro e w2 ⟨rfl, rfl⟩
    go_wp2_with fail
    refine (HT.out _).mono ?_
    rintro e w2 h
    replace h := h.of hb.out
    by_cases h0 : tabErr most n = 0
    · obtain ⟨T, rfl, hT, hE⟩ := h.2.1 h0
      have HB := Lib.hid h.1
      have HE := Lib.hid hE
      have H0 := Lib.hid h0
      clear h h0 hE
      go_wp2_with fail
      go_ret2
      rw [H.out]
      exact ⟨HB.out, fun _ => ⟨T, rfl, hT, HE.out⟩, fun h => absurd H0.out h⟩
    · obtain rfl := h.2.2 h0
      have HB := Lib.hid h.1
      have H0 := Lib.hid h0
      clear h h0
      go_wp2_with fail
      go_ret2
      rw [H.out]
      exact ⟨HB.out, fun h => absurd h H0.out, fun _ => rfl⟩
  · have H := Lib.hid (show cfgErr most n f = fuelErr f by unfold cfgErr; rw [if_neg h])
    generalize fuelErr f = x at h H HF
    go_enter Tryz.func57, Tryz.ntmps57
    go_wp2_with fail
    refine (HF.out _).mono ?_
    rintro e w2 ⟨rfl, rfl⟩
    go_wp2_with fail
    go_ret2
    rw [H.out]
    exact ⟨hb.out, fun h' => absurd h' h, fun _ => rfl⟩
end Go.Proofs.YtiacbhnkcllpjaaGreatDoor
