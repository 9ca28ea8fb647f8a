import Derived.Test.YtagemonojdgbdaaGreatDoorC03
import Derived.Test.YtagemonojdgbdaaGreatDoorC06
import Derived.Test.YtagemonojdgbdaaGreatDoorC31
namespace Go.Proofs.YtagemonojdgbdaaGreatDoor
set_option maxRecDepth 100000
open Go.RowKit
theorem run_store_fnT {P : Program} {w : World} {a : Addr} {m : Mode} (f : Fn) (x y : Array Value) : (store a (.func f x y) m).run P w = stored P w a (.func f x y) m := run_store P w a _ m rfl
attribute [local go_sem] Oper.semAt_some run_store_fnT
attribute [local go_sem] Oper.semAt_some run_store_fnT
def LogE (w : World) (L : Nat) : Prop := w.heap[L]? = some (.cells #[.slice none 0 0] 117 (0, 0))
theorem LogE.below {w w' : World} {L : Nat} (h : LogE w L) (hb : Below w.heap.size w w') : LogE w' L := (Only.of_below hb (fun _ => False)).heap h (fun h => h)
theorem logNew0_ok (w : World) : Calls Tryz.prog 15 #[.slice none 0 0] w fun e w' => ∃ L, e = .returned (.tuple #[.pointer (some ⟨L, 0, none⟩), .int .i64 0]) ∧ w.heap.size ≤ L ∧ LogE w' L ∧ Below w.heap.size w w' := by
 have hb := new_box w (.cells #[.slice none 0 0] 117)
 have k0 := heap_alloc_new w (.cells #[.slice none 0 0] 117)
 have HB := Lib.hid (And.intro hb k0)
 clear hb k0
 go_enter Tryz.func15, Tryz.ntmps15
 go_wp2_with fail
 go_step3
 go_wp2_with fail
 go_step3
 go_wp2_with fail
 go_loopw [5, 12] (fun e i wr => e = .int .i64 0 ∧ i = .int .i64 0 ∧ wr = w.alloc (.cells #[.slice none 0 0] 117)) (fun _ i _ => 0)
 case atStart => exact ⟨rfl, rfl, rfl⟩
 case round =>
  obtain ⟨rfl, rfl, rfl⟩ := hrel
  go_wp2_with fail
  rw [Exit.noGoto_ret]
  go_ret2
  exact ⟨_, rfl, Nat.le_refl _, HB.out.2, HB.out.1⟩
end Go.Proofs.YtagemonojdgbdaaGreatDoor
