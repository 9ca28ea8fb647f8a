/- At, Prefix, and bytes compared one by one. -/
import Derived.Test.YtiacbhnkcllpjaaGreatDoorLogA
import Derived.Deep.QuietTactic
import Derived.BigQuiet
namespace Go.Proofs.YtiacbhnkcllpjaaGreatDoor
set_option maxRecDepth 100000
open Go.RowKit

theorem LogAt.at_ {w : World} {F : Nat → Prop} {b : Nat} {ps : List (List UInt8)} (h : LogAt w F b ps) : ∃ A c, w.cell? ⟨b, 0, none⟩ = some (.slice A ps.length c) ∧ RowsRd w F (.slice A ps.length c) ps := by
  obtain ⟨v, vs, h1, _, h3, h4, h6⟩ := h
  obtain ⟨A, c, rfl⟩ := ownsRow_slice h3
  refine ⟨A, c, blk_cell h1, vs, Rd.of_own h3 h4, by simpa using h3.1, fun i p hp => ?_⟩
  obtain ⟨x, hx, hr, hf⟩ := h6 i p hp
  obtain ⟨A', c', rfl⟩ := ownsRow_slice hr
  exact ⟨A', c', hx, Rd.of_own hr hf⟩

def AtP (p : List UInt8) (w : World) (e : Ending) (w' : World) : Prop :=
  ∃ A c, e = .returned (.tuple #[.slice A p.length c, .int .i64 0]) ∧ w'.ownsRow w.heap.size 5 1 (.slice A p.length c) p.length (p.map B8) ∧ Below w.heap.size w w'

theorem at_ok (w : World) (F : Nat → Prop) (b : Nat) (ps : List (List UInt8)) (h : LogAt w F b ps) (i : Nat) (p : List UInt8) (hp : ps[i]? = some p) (hlp : p.length ≤ 8192) :
    Calls Tryz.prog 226 #[.pointer (some ⟨b, 0, none⟩), .int .i64 i] w (AtP p w) := by
  obtain ⟨A, c, hc, hrr⟩ := h.at_
  have hi := (List.getElem?_eq_some_iff.1 hp).1
  obtain ⟨A0, c0, he, hc0, hcm, hat⟩ := hrr.at_
  injection he with e1 _ e3
  subst e1 e3
  obtain ⟨b', o, A', c', rfl, hcell, hrd⟩ := hat i p hp
  have HRD := Lib.hid hrd
  have hlen : ps.length ≤ 9223372036854775807 := by unfold maxLen at hcm; omega
  clear hrd hat hrr h hp hc0 hcm
  have hneg : decide ((i : Int) < 0) = false := by simp
  go_enter Tryz.func226, Tryz.ntmps226
  go_wp2_with fail
  refine (clone_bytes _ _ F _ HRD.out (B8_one p) (by simp; omega)).mono ?_
  rintro e w1 ⟨Ax, cx, rfl, hx, hbl⟩
  rw [List.length_map] at hx ⊢
  go_wp2_with fail
  go_ret2
  exact ⟨Ax, cx, rfl, hx, hbl⟩
end Go.Proofs.YtiacbhnkcllpjaaGreatDoor
