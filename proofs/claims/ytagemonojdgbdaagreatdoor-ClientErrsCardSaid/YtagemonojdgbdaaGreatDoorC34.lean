import Derived.Test.YtagemonojdgbdaaGreatDoorC05
import Derived.Test.YtagemonojdgbdaaGreatDoorC18
import Derived.Deep.Slices
import Derived.Deep.Fields
namespace Go.Proofs.YtagemonojdgbdaaGreatDoor
set_option maxRecDepth 100000
open Go.RowKit
section
open Go.ChangeShapes Go.WideShapes Go.ChangeAt Go.RowKit Go.Deep
theorem Tryz.cellsIc : Tryz.prog.cellsOf 3 = 1 := by kernel_rfl
theorem Tryz.cellsCfg : Tryz.prog.cellsOf 53 = 3 := by kernel_rfl
def I64c (n : Int) : Prop := -9223372036854775808 ≤ n ∧ n ≤ 9223372036854775807
theorem cfg_of_trod {H : Type} {enc : TypeId × Value → H} {W : World} {base : Nat} {sp : Nat → Bool} {hd : Bool} {fuel : Nat} {cs : List Value} {x : DataW H × List MemPlace} (h : DataW.trod enc Tryz.prog W base sp hd fuel 53 cs = some x) :
  ∃ a b c : Int, cs = [.int .i64 a, .int .i64 b, .int .i64 c] ∧ I64c a ∧ I64c b ∧ I64c c := by
 obtain ⟨xs, n, _, _, hlen, hxl, hf⟩ := DataW.trod_struct Tryz.underlying53 h
 rw [Tryz.cellsCfg] at hlen
 match cs, hlen with
 | [v0, v1, v2], _ =>
  have hx : ∀ i, i < 3 → ∃ y, xs[i]? = some y := fun i hi => ⟨_, List.getElem?_eq_getElem (by rw [hxl]; exact hi)⟩
  obtain ⟨y0, e0⟩ := hx 0 (by decide)
  obtain ⟨y1, e1⟩ := hx 1 (by decide)
  obtain ⟨y2, e2⟩ := hx 2 (by decide)
  have f0 := hf 0 _ rfl
  rw [e0] at f0
  change DataW.trod enc Tryz.prog W base sp hd n 3 (List.take (Tryz.prog.cellsOf 3) (List.drop 0 [v0, v1, v2])) = _ at f0
  rw [Tryz.cellsIc] at f0
  have f1 := hf 1 _ rfl
  rw [e1] at f1
  change DataW.trod enc Tryz.prog W base sp hd n 3 (List.take (Tryz.prog.cellsOf 3) (List.drop 1 [v0, v1, v2])) = _ at f1
  rw [Tryz.cellsIc] at f1
  have f2 := hf 2 _ rfl
  rw [e2] at f2
  change DataW.trod enc Tryz.prog W base sp hd n 3 (List.take (Tryz.prog.cellsOf 3) (List.drop 2 [v0, v1, v2])) = _ at f2
  rw [Tryz.cellsIc] at f2
  obtain ⟨n0, h0, _, w0⟩ := DataW.trod_int Tryz.underlying3 f0
  obtain ⟨n1, h1, _, w1⟩ := DataW.trod_int Tryz.underlying3 f1
  obtain ⟨n2, h2, _, w2⟩ := DataW.trod_int Tryz.underlying3 f2
  simp at h0 h1 h2
  subst h0 h1 h2
  exact ⟨n0, n1, n2, rfl, bounds_i64 w0, bounds_i64 w1, bounds_i64 w2⟩
end
end Go.Proofs.YtagemonojdgbdaaGreatDoor
