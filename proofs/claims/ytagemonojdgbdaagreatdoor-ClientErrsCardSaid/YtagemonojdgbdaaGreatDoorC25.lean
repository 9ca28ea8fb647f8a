import Derived.Test.YtagemonojdgbdaaGreatDoorC24
import Derived.Deep.RegionHeld3
import Derived.Deep.CutRange
namespace Go.Proofs.YtagemonojdgbdaaGreatDoor
set_option maxRecDepth 100000
open Go.RowKit
@[go_sem] theorem run_store_fn {P : Program} {w : World} {a : Addr} {m : Mode} (f : Fn) (x y : Array Value) : (store a (.func f x y) m).run P w = stored P w a (.func f x y) m := run_store P w a _ m rfl
@[go_sem] theorem run_store_nilfn {P : Program} {w : World} {a : Addr} {m : Mode} : (store a .nilFunc m).run P w = stored P w a .nilFunc m := run_store P w a _ m rfl
structure MS where
 ops : Value
 pc : Int
 reg : Nat → Int
 b : Value
 fuel : Int
 may : Value
 value : Int
 steps : Int
 foot : Value
 e : Int
def fnV (f : FuncId) : Value := .func (.func f) #[] #[]
def MS.cells (s : MS) : Array Value := #[s.ops, .nilFunc, fnV 99, fnV 100, fnV 101, fnV 102, fnV 103, fnV 104, fnV 105, fnV 106, fnV 107, fnV 108, fnV 109, fnV 110, fnV 111, fnV 112, fnV 113,
 .int .i64 s.pc, .int .i64 (s.reg 0), .int .i64 (s.reg 1), .int .i64 (s.reg 2), .int .i64 (s.reg 3), .int .i64 (s.reg 4), .int .i64 (s.reg 5), .int .i64 (s.reg 6), .int .i64 (s.reg 7), s.b, .int .i64 s.fuel, s.may, .int .i64 s.value, .int .i64 s.steps, s.foot, .int .i64 s.e]
def MachAt (w : World) (M : Nat) (s : MS) : Prop := w.heap[M]? = some (.cells s.cells 169 (0, 0))
def updR (f : Nat → Int) (i : Nat) (v : Int) : Nat → Int := fun j => if j = i then v else f j
section
variable {w w' : World} {M : Nat} {s : MS}
theorem MachAt.is (h : MachAt w M s) : w.heap[M]? = some (.cells s.cells 169 (0, 0)) := h
theorem MachAt.lt (h : MachAt w M s) : M < w.heap.size := (Array.getElem?_eq_some_iff.1 h).1
theorem MachAt.only {S : Nat → Prop} (h : MachAt w M s) (ho : Only S w w') (hS : ¬ S M) : MachAt w' M s := ho.heap h hS
theorem MachAt.below (h : MachAt w M s) (hb : Below w.heap.size w w') : MachAt w' M s := h.only (Only.of_below hb fun _ => False) (fun h => h)
theorem MachAt.ops (h : MachAt w M s) : w.cell? ⟨M, 0, none⟩ = some s.ops := by simp [World.cell?, h.is, MS.cells]
theorem MachAt.pc (h : MachAt w M s) : w.cell? ⟨M, 17, none⟩ = some (.int .i64 s.pc) := by simp [World.cell?, h.is, MS.cells]
theorem MachAt.fuel (h : MachAt w M s) : w.cell? ⟨M, 27, none⟩ = some (.int .i64 s.fuel) := by simp [World.cell?, h.is, MS.cells]
theorem MachAt.value (h : MachAt w M s) : w.cell? ⟨M, 29, none⟩ = some (.int .i64 s.value) := by simp [World.cell?, h.is, MS.cells]
theorem MachAt.steps (h : MachAt w M s) : w.cell? ⟨M, 30, none⟩ = some (.int .i64 s.steps) := by simp [World.cell?, h.is, MS.cells]
theorem MachAt.foot (h : MachAt w M s) : w.cell? ⟨M, 31, none⟩ = some s.foot := by simp [World.cell?, h.is, MS.cells]
theorem MachAt.e (h : MachAt w M s) : w.cell? ⟨M, 32, none⟩ = some (.int .i64 s.e) := by simp [World.cell?, h.is, MS.cells]
theorem MachAt.reg (h : MachAt w M s) {i : Nat} (hi : i < 8) : w.cell? ⟨M, 18 + i, none⟩ = some (.int .i64 (s.reg i)) := by
 match i, hi with
 | 0, _ | 1, _ | 2, _ | 3, _ | 4, _ | 5, _ | 6, _ | 7, _ => simp [World.cell?, h.is, MS.cells]
theorem MachAt.free (h : MachAt w M s) (i : Nat) : w.frozen? ⟨M, i, none⟩ = false := by simp [World.frozen?, h.is]
theorem MachAt.set (h : MachAt w M s) (i : Nat) (v : Value) (s' : MS) (e : s.cells.setIfInBounds i v = s'.cells) : MachAt (w.setCell ⟨M, i, none⟩ v) M s' := by
 have := heap_setCell_same w M i _ _ v h
 rw [e] at this
 exact this
theorem MachAt.setReg (h : MachAt w M s) {i : Nat} (hi : i < 8) (v : Int) : MachAt (w.setCell ⟨M, 18 + i, none⟩ (.int .i64 v)) M { s with reg := updR s.reg i v } := by
 refine h.set _ _ _ ?_
 match i, hi with
 | 0, _ | 1, _ | 2, _ | 3, _ | 4, _ | 5, _ | 6, _ | 7, _ => rfl
theorem MachAt.setPc (h : MachAt w M s) (v : Int) : MachAt (w.setCell ⟨M, 17, none⟩ (.int .i64 v)) M { s with pc := v } := h.set _ _ _ rfl
theorem MachAt.setSteps (h : MachAt w M s) (v : Int) : MachAt (w.setCell ⟨M, 30, none⟩ (.int .i64 v)) M { s with steps := v } := h.set _ _ _ rfl
theorem MachAt.setValue (h : MachAt w M s) (v : Int) : MachAt (w.setCell ⟨M, 29, none⟩ (.int .i64 v)) M { s with value := v } := h.set _ _ _ rfl
theorem MachAt.setE (h : MachAt w M s) (v : Int) : MachAt (w.setCell ⟨M, 32, none⟩ (.int .i64 v)) M { s with e := v } := h.set _ _ _ rfl
end
def ActP (S : Nat → Prop) (M : Nat) (n : Int) (s' : MS) (w : World) (e : Ending) (w' : World) : Prop := e = .returned (.int .i64 n) ∧ MachAt w' M s' ∧ Only S w w'
theorem step_ok (w : World) (M : Nat) (s : MS) (h : MachAt w M s) (hs : 0 ≤ s.steps) (hs2 : s.steps ≤ 10000000) (hlt : s.steps < s.fuel) :
  Calls Tryz.prog 114 #[.pointer (some ⟨M, 0, none⟩)] w (ActP (fun k => k = M) M 0 { s with steps := s.steps + 1 } w) := by
 have c1 := h.steps
 have c2 := h.fuel
 have c3 := h.free 30
 have H := Lib.hid h
 have hn : ¬ s.fuel ≤ s.steps := by omega
 clear h
 go_enter Tryz.func114, Tryz.ntmps114
 go_wp2_with fail
 go_quiet (fail)
 go_wp2_with fail
 go_ret
 exact ⟨rfl, H.out.setSteps _, onlyM _ _ _ _ _⟩
theorem step_no (w : World) (M : Nat) (s : MS) (h : MachAt w M s) (hle : s.fuel ≤ s.steps) :
  Calls Tryz.prog 114 #[.pointer (some ⟨M, 0, none⟩)] w (ActP (fun k => k = M) M 20 s w) := by
 have c1 := h.steps
 have c2 := h.fuel
 have H := Lib.hid h
 clear h
 go_enter Tryz.func114, Tryz.ntmps114
 go_wp2_with fail
 go_quiet (fail)
 go_wp2_with fail
 go_ret
 exact ⟨rfl, H.out, (Only.refl _ _).drewN _⟩
end Go.Proofs.YtagemonojdgbdaaGreatDoor
