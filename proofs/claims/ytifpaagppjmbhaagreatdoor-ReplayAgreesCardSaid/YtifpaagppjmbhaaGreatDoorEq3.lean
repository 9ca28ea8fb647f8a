/- Two [3]int compared. -/
import Derived.Test.YtifpaagppjmbhaaGreatDoorBase
import Derived.Test.YtifpaagppjmbhaaGreatDoorProg
import Derived.Laws.StructEq
namespace Go.Proofs.YtifpaagppjmbhaaGreatDoor
set_option maxRecDepth 100000
open Go.RowKit
theorem Tryz.sizeI3 : Tryz.prog.cellsOf 3 = 1 := by kernel_rfl
theorem eq3d (w : World) (d : Nat) (x0 x1 x2 y0 y1 y2 : Int) : (Op.equalIn (d + 1 + 1) 92 (.agg #[.int .i64 x0, .int .i64 x1, .int .i64 x2]) (.agg #[.int .i64 y0, .int .i64 y1, .int .i64 y2])).run Tryz.prog w = .ok (decide (x0 = y0 ∧ x1 = y1 ∧ x2 = y2)) w := by
  rw [Op.equalIn]
  simp only [Sem.run_bind, run_underlying Tryz.underlying92, Result.andThen_ok]
  have hs : (sizeOf 3).run Tryz.prog w = .ok 1 w := by kernel_rfl
  rw [hs]
  simp only [Result.andThen_ok]
  rw [Std.Legacy.Range.forIn_eq_forIn_range']
  simp only [Std.Legacy.Range.size, Nat.sub_zero, Nat.add_one_sub_one, Nat.div_one, show List.range' 0 3 = [0, 1, 2] from by decide]
  simp [go_sem, Tryz.underlying3]
  by_cases h0 : x0 = y0 <;> by_cases h1 : x1 = y1 <;> by_cases h2 : x2 = y2 <;> simp [h0, h1, h2]
theorem eq3 (w : World) (x0 x1 x2 y0 y1 y2 : Int) : (Op.equalIn 10000 92 (.agg #[.int .i64 x0, .int .i64 x1, .int .i64 x2]) (.agg #[.int .i64 y0, .int .i64 y1, .int .i64 y2])).run Tryz.prog w = .ok (decide (x0 = y0 ∧ x1 = y1 ∧ x2 = y2)) w := eq3d w 9998 x0 x1 x2 y0 y1 y2
theorem Tryz.guard3 : Tryz.prog.eqGuardType Tryz.prog.depth 92 = false := by kernel_rfl
end Go.Proofs.YtifpaagppjmbhaaGreatDoor
