import Derived.Test.YtagemonojdgbdaaGreatDoorC27
import Derived.Lib.BufferRead
import Derived.WalkSmall
namespace Go.Proofs.YtagemonojdgbdaaGreatDoor
set_option maxRecDepth 100000
open Go.RowKit

def zig (n : Int) : Nat := if n < 0 then 2 * (-1 - n).toNat + 1 else 2 * n.toNat
theorem zig_lt {n : Int} (h1 : -9223372036854775808 ≤ n) (h2 : n ≤ 9223372036854775807) : zig n < 18446744073709551616 := by
 unfold zig
 split <;> omega
theorem int_ok (w : World) (F : Nat → Prop) (b : Nat) (bs : List UInt8) (h : WrAt w F b bs) (n : Int) (h1 : -9223372036854775808 ≤ n) (h2 : n ≤ 9223372036854775807) (hlen : bs.length ≤ 1000000000) :
  Calls Tryz.prog 79 #[.pointer (some ⟨b, 0, none⟩), .int .i64 n] w (WroteP 0 F b (bs ++ leb (zig n)) w) := by
 have H := Lib.hid h
 have hz := zig_lt h1 h2
 clear h
 by_cases hn : n < 0
 ·have hg := groups_ok w F b bs H.out (zig n) hz hlen
  have e : ((zig n : Nat) : Int) = 2 * (-1 - n) + 1 := by unfold zig; rw [if_pos hn]; omega
  rw [e] at hg
  have HG := Lib.hid hg
  clear hg hz e
  go_enter Tryz.func79, Tryz.ntmps79
  go_wp2_with fail
  refine HG.out.mono ?_
  rintro e w1 ⟨rfl, ho, F', hw, hF'⟩
  go_wp2_with fail
  go_ret
  exact ⟨rfl, ho, F', hw, hF'⟩
 ·have hg := groups_ok w F b bs H.out (zig n) hz hlen
  have e : ((zig n : Nat) : Int) = 2 * n := by unfold zig; rw [if_neg hn]; omega
  rw [e] at hg
  have HG := Lib.hid hg
  clear hg hz e
  go_enter Tryz.func79, Tryz.ntmps79
  go_wp2_with fail
  refine HG.out.mono ?_
  rintro e w1 ⟨rfl, ho, F', hw, hF'⟩
  go_wp2_with fail
  go_ret
  exact ⟨rfl, ho, F', hw, hF'⟩
end Go.Proofs.YtagemonojdgbdaaGreatDoor
