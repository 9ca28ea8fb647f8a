/- Arguments opened: three numbers. -/
import Derived.Test.YtifpaagppjmbhaaGreatDoorOpenT
namespace Go.Proofs.YtifpaagppjmbhaaGreatDoor
set_option maxRecDepth 100000
open Go.ChangeShapes Go.WideShapes Go.ChangeAt Go.RowKit Go.Deep

set_option maxRecDepth 100000 in
/-- Three numbers. -/
theorem open_three {H : Type} {enc : TypeId × Value → H} {W : World} {v : Value} {d : DataW H} {p : List MemPlace} {base : Nat} (hval : Value.okWide Tryz.prog W .any base 92 v)
    (h : DataW.Trod enc Tryz.prog W 0 (fun _ => true) true 92 v d p) : ∃ x0 x1 x2 : Int, v = .agg #[.int .i64 x0, .int .i64 x1, .int .i64 x2] ∧ I64 x0 ∧ I64 x1 ∧ I64 x2 := by
  obtain ⟨cs, rfl, hs⟩ := okWide_arrayT Tryz.underlying92 hval
  rw [Tryz.cells3T] at hs
  obtain ⟨fuel, hf⟩ := h
  obtain ⟨cl⟩ := cs
  match cl, hs with
  | [c0, c1, c2], _ =>
    obtain ⟨x0, x1, x2, rfl, rfl, rfl, b0⟩ := three_of_trod hf
    exact ⟨x0, x1, x2, rfl, b0⟩
end Go.Proofs.YtifpaagppjmbhaaGreatDoor
