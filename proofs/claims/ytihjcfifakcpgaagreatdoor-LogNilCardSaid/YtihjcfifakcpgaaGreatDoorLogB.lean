/- At, Prefix, and bytes compared one by one. -/
import Derived.Test.YtihjcfifakcpgaaGreatDoorLogA
import Derived.Deep.QuietTactic
import Derived.BigQuiet
namespace Go.Proofs.YtihjcfifakcpgaaGreatDoor
set_option maxRecDepth 100000
open Go.RowKit

theorem LogAt.at_ {w : World} {F : Nat → Prop} {b : Nat} {ps : List (List UInt8)} (h : LogAt w F b ps) : ∃ A c, w.cell? ⟨b, 0, none⟩ = some (.slice A ps.length c) ∧ RowsRd w F (.slice A ps.length c) ps := by
  obtain ⟨v, vs, h1, _, h3, h4, h6⟩ := h
  obtain ⟨A, c, rfl⟩ := ownsRow_slice h3
  refine ⟨A, c, blk_cell h1, vs, Rd.of_own h3 h4, by simpa using h3.1, fun i p hp => ?_⟩
  obtain ⟨x, hx, hr, hf⟩ := h6 i p hp
  obtain ⟨A', c', rfl⟩ := ownsRow_slice hr
  exact ⟨A', c', hx, Rd.of_own hr hf⟩

def AtP (p : List UInt8) (w : World) (e : Ending) (w' : World) : Prop :=
  ∃ A c, e = .returned (.tuple #[.slice A p.length c, .int .i64 0]) ∧ w'.ownsRow w.heap.size 5 1 (.slice A p.length c) p.length (p.map B8) ∧ Below w.heap.size w w'

theorem at_ok (w : World) (F : Nat → Prop) (b : Nat) (ps : List (List UInt8)) (h : LogAt w F b ps) (i : Nat) (p : List UInt8) (hp : ps[i]? = some p) (hlp : p.length ≤ 8192) :
    Calls Tryz.prog 32 #[.pointer (some ⟨b, 0, none⟩), .int .i64 i] w (AtP p w) := by
  obtain ⟨A, c, hc, hrr⟩ := h.at_
  have hi := (List.getElem?_eq_some_iff.1 hp).1
  obtain ⟨A0, c0, he, hc0, hcm, hat⟩ := hrr.at_
  injection he with e1 _ e3
  subst e1 e3
  obtain ⟨b', o, A', c', rfl, hcell, hrd⟩ := hat i p hp
  have HRD := Lib.hid hrd
  have hlen : ps.length ≤ 9223372036854775807 := by unfold maxLen at hcm; omega
  clear hrd hat hrr h hp hc0 hcm
  have hneg : decide ((i : Int) < 0) = false := by simp
  go_enter Tryz.func32, Tryz.ntmps32
  go_wp2_with fail
  refine (clone_bytes _ _ F _ HRD.out (B8_one p) (by simp; omega)).mono ?_
  rintro e w1 ⟨Ax, cx, rfl, hx, hbl⟩
  rw [List.length_map] at hx ⊢
  go_wp2_with fail
  go_ret2
  exact ⟨Ax, cx, rfl, hx, hbl⟩

theorem at_out (w : World) (F : Nat → Prop) (b : Nat) (ps : List (List UInt8)) (h : LogAt w F b ps) (i : Int) (hi : i < 0 ∨ ps.length ≤ i) :
    Calls Tryz.prog 32 #[.pointer (some ⟨b, 0, none⟩), .int .i64 i] w fun e w' => e = .returned (.tuple #[.slice none 0 0, .int .i64 10]) ∧ w = w' := by
  obtain ⟨A, c, hc, hrr⟩ := h.at_
  clear hrr h
  by_cases hneg : i < 0
  · clear hi
    have hd : decide (i < 0) = true := by simpa using hneg
    go_enter Tryz.func32, Tryz.ntmps32
    go_wp2_with fail
    go_ret2
    exact ⟨rfl, rfl⟩
  · have hd : decide (i < 0) = false := by simpa using hneg
    have hge : (ps.length : Int) ≤ i := by omega
    clear hi
    go_enter Tryz.func32, Tryz.ntmps32
    go_wp2_with fail
    go_ret2
    exact ⟨rfl, rfl⟩

theorem RowsRd.take {w : World} {F : Nat → Prop} {A : Option Addr} {n c : Nat} {ps : List (List UInt8)} (h : RowsRd w F (.slice A n c) ps) (k : Nat) (hk : k ≤ n) : RowsRd w F (.slice A k c) (ps.take k) := by
  obtain ⟨vs, ⟨A', n', c', he, hl, hc, hm, hx⟩, hlen, hp⟩ := h
  injection he with e1 e2 e3
  subst e1 e2 e3
  refine ⟨vs.take k, ⟨A, k, c, rfl, by simp; omega, by omega, hm, fun hk0 => ?_⟩, by simp; omega, fun i p hi => ?_⟩
  · obtain ⟨b, o, e, hF, hu⟩ := hx (by omega)
    refine ⟨b, o, e, hF, fun j u hj => hu j u ?_⟩
    rw [List.getElem?_take] at hj
    split at hj
    · exact hj
    · cases hj
  · rw [List.getElem?_take] at hi ⊢
    split at hi
    · rename_i hik
      rw [if_pos hik]
      exact hp i p hi
    · cases hi

theorem prefix_ok (w : World) (F : Nat → Prop) (b : Nat) (ps : List (List UInt8)) (h : LogAt w F b ps) (hF : ∀ k, F k → k < w.heap.size) (n : Nat) (hn : n ≤ ps.length) (h1024 : ps.length ≤ 1024) :
    Calls Tryz.prog 33 #[.pointer (some ⟨b, 0, none⟩), .int .i64 n] w (LogNewP (ps.take n) w) := by
  obtain ⟨A, c, hc, hrr⟩ := h.at_
  obtain ⟨A0, c0, he, hc0, hcm, hat⟩ := hrr.at_
  injection he with e1 _ e3
  subst e1 e3
  have hr2 := hrr.take n hn
  have HR2 := Lib.hid hr2
  have hlen : c ≤ 9223372036854775807 := by unfold maxLen at hcm; omega
  clear hat hrr h hr2 hcm
  have hneg : decide ((n : Int) < 0) = false := by simp
  go_enter Tryz.func33, Tryz.ntmps33
  go_wp2_with fail
  refine (log_new _ F _ _ HR2.out hF (by simp; omega)).mono ?_
  rintro e w1 hP
  have hP2 := hP
  obtain ⟨hbl, hP⟩ := hP
  split at hP
  · obtain ⟨b1, rfl, hlog⟩ := hP
    go_wp2_with fail
    go_ret2
    exact hP2
  · subst hP
    go_wp2_with fail
    go_ret2
    exact hP2

theorem prefix_out (w : World) (F : Nat → Prop) (b : Nat) (ps : List (List UInt8)) (h : LogAt w F b ps) (i : Int) (hi : i < 0 ∨ ps.length < i) :
    Calls Tryz.prog 33 #[.pointer (some ⟨b, 0, none⟩), .int .i64 i] w fun e w' => e = .returned (.tuple #[.pointer none, .int .i64 10]) ∧ w = w' := by
  obtain ⟨A, c, hc, hrr⟩ := h.at_
  clear hrr h
  by_cases hneg : i < 0
  · clear hi
    have hd : decide (i < 0) = true := by simpa using hneg
    go_enter Tryz.func33, Tryz.ntmps33
    go_wp2_with fail
    go_ret2
    exact ⟨rfl, rfl⟩
  · have hd : decide (i < 0) = false := by simpa using hneg
    have hge : (ps.length : Int) < i := by omega
    clear hi
    go_enter Tryz.func33, Tryz.ntmps33
    go_wp2_with fail
    go_ret2
    exact ⟨rfl, rfl⟩

/-- Bytes that are the same are the same. -/
theorem law_bytes (w : World) (F G : Nat → Prop) (va vb : Value) (xs : List UInt8) (ha : Rd w F va (xs.map B8)) (hb : Rd w G vb (xs.map B8)) :
    Calls Tryz.prog 15 #[va, vb] w fun e w' => e = .returned (.bool true) ∧ Below w.heap.size w w' := by
  obtain ⟨A, n, c, rfl, hl, hc, hm, hx⟩ := ha
  obtain ⟨A', n', c', rfl, hl', hc', hm', hx'⟩ := hb
  simp only [List.length_map] at hl hl'
  subst hl hl'
  unfold maxLen at hm hm'
  have HX := Lib.hid hx
  have HX' := Lib.hid hx'
  clear hx hx'
  go_enter Tryz.func15, Tryz.ntmps15
  go_wp2
  go_loopw [5] (fun i wr => ∃ k : Nat, k ≤ xs.length ∧ i = .int .i64 k ∧ ∃ m, wr = w.drewN m) (fun i _ => xs.length - (intOf i).toNat)
  case atStart => exact ⟨0, Nat.zero_le _, rfl, 0, rfl⟩
  case round =>
    obtain ⟨k, hk, rfl, m, rfl⟩ := hrel
    by_cases hlt : k < xs.length
    · have hxk : (xs.map B8)[k]? = some (B8 xs[k]) := by simp [hlt]
      obtain ⟨b, o, rfl, _, hu⟩ := HX.out (by omega)
      obtain ⟨b', o', rfl, _, hu'⟩ := HX'.out (by omega)
      have c1 : w.cell? ⟨b, o + k, none⟩ = some (.int .u8 (xs[k].toNat : Int)) := hu k _ hxk
      have c2 : w.cell? ⟨b', o' + k, none⟩ = some (.int .u8 (xs[k].toNat : Int)) := hu' k _ hxk
      have i1 : (0 : Int) ≤ (k : Int) := by omega
      have i2 : (k : Int) < (xs.length : Int) := by omega
      generalize xs[k] = x at c1 c2
      clear hu hu' HX HX' hxk
      go_wp2_with fail
      go_quiet (fail)
      go_wp2
      go_roundw
      case rel => exact ⟨k + 1, by omega, by go_num, _, rfl⟩
      case measure => simp [intOf]; omega
    · go_wp2
      go_ret
      exact ⟨rfl, below_drewN (Below.refl _ _) _⟩
end Go.Proofs.YtihjcfifakcpgaaGreatDoor
