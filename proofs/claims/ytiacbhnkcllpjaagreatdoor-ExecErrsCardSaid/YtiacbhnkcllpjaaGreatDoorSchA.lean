/- sched: a board whose workers do nothing: lift of an empty slot. -/
import Derived.Test.YtiacbhnkcllpjaaGreatDoorProg
import Derived.Conc.LoneCalls
import Derived.Conc.LoneSelect
import Derived.KernelRfl
import Derived.Laws.Rows
namespace Go.Proofs.YtiacbhnkcllpjaaGreatDoor
set_option maxRecDepth 100000
open Go.Conc Go.RowKit

set_option maxRecDepth 100000 in
/-- lift of a slot that is empty. -/
theorem lift0_ok (w : World) (c s r : Nat) (h : w.heap[c]? = some (.chan 1 #[] false s r false)) : Calls Tryz.prog 164 #[.chan (some c)] w fun e w' => e = .returned (.tuple #[.int .i64 0, .bool false]) ∧ w' = w := by
  refine calls_of_loneTo fun cs => ?_
  have e : Frame.enter Tryz.prog 164 #[.chan (some c)] .normal = (base 164).at ⟨#[.chan (some c), undef, undef, undef, undef, undef, undef, undef, undef, undef, undef], []⟩ [.code (Tryz.f164.body.getD .skip)] := by
    simp [Frame.enter, Frame.at, Tryz.func164, base, Tryz.f164]
  rw [e]
  refine LoneTo.goes (n := 11) ?_
  simp only [Tryz.f164, Option.getD_some]
  s_c stepG_seq
  s_reg
  s_op
  s_op
  s_c stepG_region_end
  s_c stepG_seq
  s_reg
  s_op
  s_c stepG_region_end
  s_c stepG_seq
  s_reg
  s_stop
  refine LoneTo.step (step_lone_select_default (c := c) (z := .int .i64 0) (cap := 1) (s := s) (r := r) (tm := false) (stepG_comm (cases := #[rcase c (.int .i64 0)]) (blocking := false) (shape := .select) (w' := w) rfl rfl (by decide) (by simp [go_sem, execOp, rcase, Act.eval])) h) ?_
  rw [Frame.finish_at]
  walk_nrm
  refine LoneTo.goes (n := 11) ?_
  s_op
  s_op
  s_c stepG_region_end
  s_c stepG_block
  s_cond false
  s_c stepG_seq
  s_reg
  s_op
  s_op
  s_c stepG_region_end
  s_c stepG_ret'
  s_stop
  exact LoneTo.done ⟨.returned (.tuple #[.int .i64 0, .bool false]), _, rfl, ⟨rfl, rfl⟩, rfl, rfl, rfl, rfl, _, Tryz.func164, by simp [results, Tryz.f164, Frame.at]⟩
end Go.Proofs.YtiacbhnkcllpjaaGreatDoor
