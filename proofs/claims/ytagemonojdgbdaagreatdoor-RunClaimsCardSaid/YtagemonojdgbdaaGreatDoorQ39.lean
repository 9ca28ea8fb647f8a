import Derived.Test.YtagemonojdgbdaaGreatDoorQ38
import Derived.Deep.RegionHeld3
import Derived.Deep.CutRange
namespace Go.Proofs.YtagemonojdgbdaaGreatDoor
set_option maxRecDepth 100000
open Go.RowKit
@[go_sem] theorem IE {P : Program} {w : World} {a : Addr} {m : Mode} (f : Fn) (x y : Array Value) : (store a (.func f x y) m).run P w = stored P w a (.func f x y) m := run_store P w a _ m rfl
@[go_sem] theorem DL {P : Program} {w : World} {a : Addr} {m : Mode} : (store a .nilFunc m).run P w = stored P w a .nilFunc m := run_store P w a _ m rfl
structure MS where
 ops : Value
 pc : Int
 ij : Nat -> Int
 b : Value
 fuel : Int
 may : Value
 value : Int
 steps : Int
 foot : Value
 e : Int
def mh (f : FuncId) : Value := .func (.func f) #[] #[]
def MS.cells (s : MS) : Array Value := #[s.ops, .nilFunc, mh 99, mh 100, mh 101, mh 102, mh 103, mh 104, mh 105, mh 106, mh 107, mh 108, mh 109, mh 110, mh 111, mh 112, mh 113,
 .int .i64 s.pc, .int .i64 (s.ij 0), .int .i64 (s.ij 1), .int .i64 (s.ij 2), .int .i64 (s.ij 3), .int .i64 (s.ij 4), .int .i64 (s.ij 5), .int .i64 (s.ij 6), .int .i64 (s.ij 7), s.b, .int .i64 s.fuel, s.may, .int .i64 s.value, .int .i64 s.steps, s.foot, .int .i64 s.e]
def aB (w : World) (M : Nat) (s : MS) : Prop := w.heap[M]? = some (.cells s.cells 169 (0, 0))
def nU (f : Nat -> Int) (i : Nat) (v : Int) : Nat -> Int := fun j => if j = i then v else f j
section
variable {w w' : World} {M : Nat} {s : MS}
theorem aB.is (h : aB w M s) : w.heap[M]? = some (.cells s.cells 169 (0, 0)) := h
theorem aB.lt (h : aB w M s) : M < w.heap.size := (Array.getElem?_eq_some_iff.1 h).1
theorem aB.only {S : Nat -> Prop} (h : aB w M s) (ho : Only S w w') (hS : ¬ S M) : aB w' M s := ho.heap h hS
theorem aB.below (h : aB w M s) (hb : Below w.heap.size w w') : aB w' M s := h.only (Only.of_below hb fun _ => False) (fun h => h)
theorem aB.ops (h : aB w M s) : w.cell? ⟨M, 0, none⟩ = some s.ops := by simp [World.cell?, h.is, MS.cells]
theorem aB.pc (h : aB w M s) : w.cell? ⟨M, 17, none⟩ = some (.int .i64 s.pc) := by simp [World.cell?, h.is, MS.cells]
theorem aB.b (h : aB w M s) : w.cell? ⟨M, 26, none⟩ = some s.b := by simp [World.cell?, h.is, MS.cells]
theorem aB.fuel (h : aB w M s) : w.cell? ⟨M, 27, none⟩ = some (.int .i64 s.fuel) := by simp [World.cell?, h.is, MS.cells]
theorem aB.may (h : aB w M s) : w.cell? ⟨M, 28, none⟩ = some s.may := by simp [World.cell?, h.is, MS.cells]
theorem aB.value (h : aB w M s) : w.cell? ⟨M, 29, none⟩ = some (.int .i64 s.value) := by simp [World.cell?, h.is, MS.cells]
theorem aB.steps (h : aB w M s) : w.cell? ⟨M, 30, none⟩ = some (.int .i64 s.steps) := by simp [World.cell?, h.is, MS.cells]
theorem aB.foot (h : aB w M s) : w.cell? ⟨M, 31, none⟩ = some s.foot := by simp [World.cell?, h.is, MS.cells]
theorem aB.e (h : aB w M s) : w.cell? ⟨M, 32, none⟩ = some (.int .i64 s.e) := by simp [World.cell?, h.is, MS.cells]
theorem aB.ij (h : aB w M s) {i : Nat} (hi : i < 8) : w.cell? ⟨M, 18 + i, none⟩ = some (.int .i64 (s.ij i)) := by
 match i, hi with
 | 0, _ | 1, _ | 2, _ | 3, _ | 4, _ | 5, _ | 6, _ | 7, _ => simp [World.cell?, h.is, MS.cells]
theorem aB.free (h : aB w M s) (i : Nat) : w.frozen? ⟨M, i, none⟩ = false := by simp [World.frozen?, h.is]
theorem aB.set (h : aB w M s) (i : Nat) (v : Value) (s' : MS) (e : s.cells.setIfInBounds i v = s'.cells) : aB (w.setCell ⟨M, i, none⟩ v) M s' := by
 have := heap_setCell_same w M i _ _ v h
 rw [e] at this
 exact this
theorem aB.oU (h : aB w M s) {i : Nat} (hi : i < 8) (v : Int) : aB (w.setCell ⟨M, 18 + i, none⟩ (.int .i64 v)) M { s with ij := nU s.ij i v } := by
 refine h.set _ _ _ ?_
 match i, hi with
 | 0, _ | 1, _ | 2, _ | 3, _ | 4, _ | 5, _ | 6, _ | 7, _ => rfl
theorem aB.JB (h : aB w M s) (v : Int) : aB (w.setCell ⟨M, 17, none⟩ (.int .i64 v)) M { s with pc := v } := h.set _ _ _ rfl
theorem aB.FV (h : aB w M s) (v : Int) : aB (w.setCell ⟨M, 30, none⟩ (.int .i64 v)) M { s with steps := v } := h.set _ _ _ rfl
theorem aB.setValue (h : aB w M s) (v : Int) : aB (w.setCell ⟨M, 29, none⟩ (.int .i64 v)) M { s with value := v } := h.set _ _ _ rfl
theorem aB.qg (h : aB w M s) (v : Value) : aB (w.setCell ⟨M, 31, none⟩ v) M { s with foot := v } := h.set _ _ _ rfl
theorem aB.Rb (h : aB w M s) (v : Int) : aB (w.setCell ⟨M, 32, none⟩ (.int .i64 v)) M { s with e := v } := h.set _ _ _ rfl
end
theorem Only.from {S : Nat -> Prop} {w w1 w' : World} (h : Only S w1 w') (hb : Below w.heap.size w w1) : Only S w w' := (Only.of_below hb S).trans h (fun _ _ h => h)
def KY (S : Nat -> Prop) (M : Nat) (n : Int) (s' : MS) (w : World) (e : Ending) (w' : World) : Prop := e = .returned (.int .i64 n) /\ aB w' M s' /\ Only S w w'
theorem IG (w : World) (M : Nat) (s : MS) (h : aB w M s) (hs : 0 <= s.steps) (hs2 : s.steps <= 10000000) (hlt : s.steps < s.fuel) :
  Calls Tryz.prog 114 #[.pointer (some ⟨M, 0, none⟩)] w (KY (fun k => k = M) M 0 { s with steps := s.steps + 1 } w) := by
 have c1 := h.steps
 have c2 := h.fuel
 have c3 := h.free 30
 have H := Lib.hid h
 have hn : ¬ s.fuel <= s.steps := by omega
 clear h
 go_enter Tryz.func114, Tryz.ntmps114
 go_wp2_with fail
 go_quiet (fail)
 go_wp2_with fail
 go_ret
 exact ⟨rfl, H.out.FV _, xt _ _ _ _ _⟩
theorem IH (w : World) (M : Nat) (s : MS) (h : aB w M s) (hle : s.fuel <= s.steps) :
  Calls Tryz.prog 114 #[.pointer (some ⟨M, 0, none⟩)] w (KY (fun k => k = M) M 20 s w) := by
 have c1 := h.steps
 have c2 := h.fuel
 have H := Lib.hid h
 clear h
 go_enter Tryz.func114, Tryz.ntmps114
 go_wp2_with fail
 go_quiet (fail)
 go_wp2_with fail
 go_ret
 exact ⟨rfl, H.out, (Only.refl _ _).drewN _⟩
theorem KZ (w : World) (M : Nat) (s : MS) (h : aB w M s) (x : cC) (a : Nat) (ha : a < 8) (CO : x.a = (a : Int)) :
  Calls Tryz.prog 99 #[.pointer (some ⟨M, 0, none⟩), x.val] w (KY (fun k => k = M) M 0 { s with ij := nU s.ij a x.c } w) := by
 obtain ⟨dk, xa, xb, xc, xn⟩ := x
 simp only at CO
 subst CO
 unfold cC.val
 simp only
 have hb := gA w (.cells #[.int .i64 dk, .int .i64 (a : Int), .int .i64 xb, .int .i64 xc, .int .i64 xn] 104)
 have k0 := heap_alloc_new w (.cells #[.int .i64 dk, .int .i64 (a : Int), .int .i64 xb, .int .i64 xc, .int .i64 xn] 104)
 have i1 : (0 : Int) <= (a : Int) := by omega
 have i2 : (a : Int) < 8 := by omega
 go_enter Tryz.func99, Tryz.ntmps99
 go_upto_region 1 with fail
 generalize w.alloc (.cells #[.int .i64 dk, .int .i64 (a : Int), .int .i64 xb, .int .i64 xc, .int .i64 xn] 104) = w1 at hb k0 ⊢
 have h1 := h.below hb
 have hM := h.lt
 have c1 := h1.ij ha
 have c2 := h1.free (18 + a)
 have hs : M < w.heap.size := hM
 obtain ⟨R, hR⟩ : ∃ x, w.heap.size = x := ⟨_, rfl⟩
 rw [hR] at k0 ⊢
 have b1 : w1.cell? ⟨R, 1, none⟩ = some (.int .i64 (a : Int)) := by simp [World.cell?, k0]
 have b3 : w1.cell? ⟨R, 3, none⟩ = some (.int .i64 xc) := by simp [World.cell?, k0]
 have hne : ¬ R = M := by omega
 have H := Lib.hid (And.intro h1 hb)
 clear h h1 hb k0 hR
 go_region
 go_wp2_with fail
 go_ret
 exact ⟨rfl, H.out.1.oU ha _, (xt w1 1 M _ _).from H.out.2⟩
end Go.Proofs.YtagemonojdgbdaaGreatDoor
