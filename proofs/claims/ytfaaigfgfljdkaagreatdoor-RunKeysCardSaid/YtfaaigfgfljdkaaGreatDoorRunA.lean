/- The machine of a run in memory ('MachAt'), step, and the ops that do nothing but with registers. -/
import Derived.Test.YtfaaigfgfljdkaaGreatDoorBase
import Derived.Test.YtfaaigfgfljdkaaGreatDoorProg
import Derived.Test.YtfaaigfgfljdkaaGreatDoorProc
import Derived.Deep.QuietTactic
import Derived.BigQuiet
import Derived.Deep.RegionHeld3
import Derived.Deep.CutRange
namespace Go.Proofs.YtfaaigfgfljdkaaGreatDoor
set_option maxRecDepth 100000
open Go.RowKit

@[go_sem] theorem run_store_fn {P : Program} {w : World} {a : Addr} {m : Mode} (f : Fn) (x y : Array Value) : (store a (.func f x y) m).run P w = stored P w a (.func f x y) m := run_store P w a _ m rfl
@[go_sem] theorem run_store_nilfn {P : Program} {w : World} {a : Addr} {m : Mode} : (store a .nilFunc m).run P w = stored P w a .nilFunc m := run_store P w a _ m rfl
/-- A machine's parts. -/
structure MS where
  ops : Value
  pc : Int
  reg : Nat → Int
  b : Value
  fuel : Int
  may : Value
  value : Int
  steps : Int
  foot : Value
  e : Int
def fnV (f : FuncId) : Value := .func (.func f) #[] #[]
def MS.cells (s : MS) : Array Value := #[s.ops, .nilFunc, fnV 169, fnV 170, fnV 171, fnV 172, fnV 173, fnV 174, fnV 175, fnV 176, fnV 177, fnV 178, fnV 179, fnV 180, fnV 181, fnV 182, fnV 183,
  .int .i64 s.pc, .int .i64 (s.reg 0), .int .i64 (s.reg 1), .int .i64 (s.reg 2), .int .i64 (s.reg 3), .int .i64 (s.reg 4), .int .i64 (s.reg 5), .int .i64 (s.reg 6), .int .i64 (s.reg 7), s.b, .int .i64 s.fuel, s.may, .int .i64 s.value, .int .i64 s.steps, s.foot, .int .i64 s.e]
def MachAt (w : World) (M : Nat) (s : MS) : Prop := w.heap[M]? = some (.cells s.cells 262 (0, 0))
def updR (f : Nat → Int) (i : Nat) (v : Int) : Nat → Int := fun j => if j = i then v else f j

section
variable {w w' : World} {M : Nat} {s : MS}
theorem MachAt.is (h : MachAt w M s) : w.heap[M]? = some (.cells s.cells 262 (0, 0)) := h
theorem MachAt.lt (h : MachAt w M s) : M < w.heap.size := (Array.getElem?_eq_some_iff.1 h).1
theorem MachAt.only {S : Nat → Prop} (h : MachAt w M s) (ho : Only S w w') (hS : ¬ S M) : MachAt w' M s := ho.heap h hS
theorem MachAt.below (h : MachAt w M s) (hb : Below w.heap.size w w') : MachAt w' M s := h.only (Only.of_below hb fun _ => False) (fun h => h)
theorem MachAt.ops (h : MachAt w M s) : w.cell? ⟨M, 0, none⟩ = some s.ops := by simp [World.cell?, h.is, MS.cells]
theorem MachAt.pc (h : MachAt w M s) : w.cell? ⟨M, 17, none⟩ = some (.int .i64 s.pc) := by simp [World.cell?, h.is, MS.cells]
theorem MachAt.b (h : MachAt w M s) : w.cell? ⟨M, 26, none⟩ = some s.b := by simp [World.cell?, h.is, MS.cells]
theorem MachAt.fuel (h : MachAt w M s) : w.cell? ⟨M, 27, none⟩ = some (.int .i64 s.fuel) := by simp [World.cell?, h.is, MS.cells]
theorem MachAt.may (h : MachAt w M s) : w.cell? ⟨M, 28, none⟩ = some s.may := by simp [World.cell?, h.is, MS.cells]
theorem MachAt.value (h : MachAt w M s) : w.cell? ⟨M, 29, none⟩ = some (.int .i64 s.value) := by simp [World.cell?, h.is, MS.cells]
theorem MachAt.steps (h : MachAt w M s) : w.cell? ⟨M, 30, none⟩ = some (.int .i64 s.steps) := by simp [World.cell?, h.is, MS.cells]
theorem MachAt.foot (h : MachAt w M s) : w.cell? ⟨M, 31, none⟩ = some s.foot := by simp [World.cell?, h.is, MS.cells]
theorem MachAt.e (h : MachAt w M s) : w.cell? ⟨M, 32, none⟩ = some (.int .i64 s.e) := by simp [World.cell?, h.is, MS.cells]
theorem MachAt.reg (h : MachAt w M s) {i : Nat} (hi : i < 8) : w.cell? ⟨M, 18 + i, none⟩ = some (.int .i64 (s.reg i)) := by
  match i, hi with
  | 0, _ | 1, _ | 2, _ | 3, _ | 4, _ | 5, _ | 6, _ | 7, _ => simp [World.cell?, h.is, MS.cells]
theorem MachAt.free (h : MachAt w M s) (i : Nat) : w.frozen? ⟨M, i, none⟩ = false := by simp [World.frozen?, h.is]
theorem MachAt.set (h : MachAt w M s) (i : Nat) (v : Value) (s' : MS) (e : s.cells.setIfInBounds i v = s'.cells) : MachAt (w.setCell ⟨M, i, none⟩ v) M s' := by
  have := heap_setCell_same w M i _ _ v h
  rw [e] at this
  exact this
theorem MachAt.setReg (h : MachAt w M s) {i : Nat} (hi : i < 8) (v : Int) : MachAt (w.setCell ⟨M, 18 + i, none⟩ (.int .i64 v)) M { s with reg := updR s.reg i v } := by
  refine h.set _ _ _ ?_
  match i, hi with
  | 0, _ | 1, _ | 2, _ | 3, _ | 4, _ | 5, _ | 6, _ | 7, _ => rfl
theorem MachAt.setPc (h : MachAt w M s) (v : Int) : MachAt (w.setCell ⟨M, 17, none⟩ (.int .i64 v)) M { s with pc := v } := h.set _ _ _ rfl
theorem MachAt.setSteps (h : MachAt w M s) (v : Int) : MachAt (w.setCell ⟨M, 30, none⟩ (.int .i64 v)) M { s with steps := v } := h.set _ _ _ rfl
theorem MachAt.setValue (h : MachAt w M s) (v : Int) : MachAt (w.setCell ⟨M, 29, none⟩ (.int .i64 v)) M { s with value := v } := h.set _ _ _ rfl
theorem MachAt.setFoot (h : MachAt w M s) (v : Value) : MachAt (w.setCell ⟨M, 31, none⟩ v) M { s with foot := v } := h.set _ _ _ rfl
theorem MachAt.setE (h : MachAt w M s) (v : Int) : MachAt (w.setCell ⟨M, 32, none⟩ (.int .i64 v)) M { s with e := v } := h.set _ _ _ rfl
theorem MachAt.drew (h : MachAt w M s) : MachAt w.drew M s := h
end
theorem one_new (w : World) (o : Obj) : Below w.heap.size w (w.alloc o) := (Below.refl _ _).alloc (Nat.le_refl _) _
theorem onlyM (w : World) (n M i : Nat) (v : Value) : Only (fun k => k = M) w ((w.drewN n).setCell ⟨M, i, none⟩ v) := ((Only.refl (fun k => k = M) w).drewN n).setCell (p := ⟨M, i, none⟩) (fun _ => rfl) v
theorem only1 (w : World) (M i : Nat) (v : Value) : Only (fun k => k = M) w (w.setCell ⟨M, i, none⟩ v) := (Only.refl (fun k => k = M) w).setCell (p := ⟨M, i, none⟩) (fun _ => rfl) v
theorem Only.from {S : Nat → Prop} {w w1 w' : World} (h : Only S w1 w') (hb : Below w.heap.size w w1) : Only S w w' := (Only.of_below hb S).trans h (fun _ _ h => h)
/-- What an op hands back: how the run ends, and the machine then; blocks outside are as they were. -/
def ActP (S : Nat → Prop) (M : Nat) (n : Int) (s' : MS) (w : World) (e : Ending) (w' : World) : Prop := e = .returned (.int .i64 n) ∧ MachAt w' M s' ∧ Only S w w'

set_option maxRecDepth 100000 in
theorem step_ok (w : World) (M : Nat) (s : MS) (h : MachAt w M s) (hs : 0 ≤ s.steps) (hs2 : s.steps ≤ 10000000) (hlt : s.steps < s.fuel) :
    Calls Tryz.prog 184 #[.pointer (some ⟨M, 0, none⟩)] w (ActP (fun k => k = M) M 0 { s with steps := s.steps + 1 } w) := by
  have c1 := h.steps
  have c2 := h.fuel
  have c3 := h.free 30
  have H := Lib.hid h
  have hn : ¬ s.fuel ≤ s.steps := by omega
  clear h
  go_enter Tryz.func184, Tryz.ntmps184
  go_wp2_with fail
  go_quiet (fail)
  go_wp2_with fail
  go_ret
  exact ⟨rfl, H.out.setSteps _, onlyM _ _ _ _ _⟩
set_option maxRecDepth 100000 in
theorem step_no (w : World) (M : Nat) (s : MS) (h : MachAt w M s) (hle : s.fuel ≤ s.steps) :
    Calls Tryz.prog 184 #[.pointer (some ⟨M, 0, none⟩)] w (ActP (fun k => k = M) M 20 s w) := by
  have c1 := h.steps
  have c2 := h.fuel
  have H := Lib.hid h
  clear h
  go_enter Tryz.func184, Tryz.ntmps184
  go_wp2_with fail
  go_quiet (fail)
  go_wp2_with fail
  go_ret
  exact ⟨rfl, H.out, (Only.refl _ _).drewN _⟩
set_option maxRecDepth 100000 in
theorem set_ok (w : World) (M : Nat) (s : MS) (h : MachAt w M s) (x : POp) (a : Nat) (ha : a < 8) (hxa : x.a = (a : Int)) :
    Calls Tryz.prog 169 #[.pointer (some ⟨M, 0, none⟩), x.val] w (ActP (fun k => k = M) M 0 { s with reg := updR s.reg a x.c } w) := by
  obtain ⟨dk, xa, xb, xc, xn⟩ := x
  simp only at hxa
  subst hxa
  unfold POp.val
  simp only
  have hb := one_new w (.cells #[.int .i64 dk, .int .i64 (a : Int), .int .i64 xb, .int .i64 xc, .int .i64 xn] 160)
  have k0 := heap_alloc_new w (.cells #[.int .i64 dk, .int .i64 (a : Int), .int .i64 xb, .int .i64 xc, .int .i64 xn] 160)
  have i1 : (0 : Int) ≤ (a : Int) := by omega
  have i2 : (a : Int) < 8 := by omega
  go_enter Tryz.func169, Tryz.ntmps169
  go_upto_region 1 with fail
  generalize w.alloc (.cells #[.int .i64 dk, .int .i64 (a : Int), .int .i64 xb, .int .i64 xc, .int .i64 xn] 160) = w1 at hb k0 ⊢
  have h1 := h.below hb
  have hM := h.lt
  have c1 := h1.reg ha
  have c2 := h1.free (18 + a)
  have hs : M < w.heap.size := hM
  obtain ⟨R, hR⟩ : ∃ x, w.heap.size = x := ⟨_, rfl⟩
  rw [hR] at k0 ⊢
  have b1 : w1.cell? ⟨R, 1, none⟩ = some (.int .i64 (a : Int)) := by simp [World.cell?, k0]
  have b3 : w1.cell? ⟨R, 3, none⟩ = some (.int .i64 xc) := by simp [World.cell?, k0]
  have hne : ¬ R = M := by omega
  have H := Lib.hid (And.intro h1 hb)
  clear h h1 hb k0 hR
  go_region
  go_wp2_with fail
  go_ret
  exact ⟨rfl, H.out.1.setReg ha _, (onlyM w1 1 M _ _).from H.out.2⟩
end Go.Proofs.YtfaaigfgfljdkaaGreatDoor
