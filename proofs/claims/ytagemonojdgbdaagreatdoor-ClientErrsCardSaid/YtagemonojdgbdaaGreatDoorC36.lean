import Derived.Test.YtagemonojdgbdaaGreatDoorC07
import Derived.Test.YtagemonojdgbdaaGreatDoorC17
import Derived.Test.YtagemonojdgbdaaGreatDoorC31
import Derived.Test.YtagemonojdgbdaaGreatDoorC35
import Derived.StringKeys
namespace Go.Proofs.YtagemonojdgbdaaGreatDoor
set_option maxRecDepth 100000
open Go.RowKit
theorem one_box (W : World) (o : Obj) : Below W.heap.size W (W.alloc o) := (Below.refl _ _).alloc (Nat.le_refl _) _
def Tells (b : Bool) (p : Prop) : Prop := b = true ↔ p
theorem Tells.pos {p : Prop} (h : Tells true p) : p := h.1 rfl
theorem Tells.neg {p : Prop} (h : Tells false p) : ¬ p := fun e => by have := h.2 e; cases this
theorem ClRd.below {w w' : World} {F : Nat → Prop} {v : Value} {l : List Cl} (h : ClRd w F v l) (hb : Below w.heap.size w w') : ClRd w' F v l := RdK.below h hb
section
open Go.RowKit Go.Maps Go.WideShapes
end

end Go.Proofs.YtagemonojdgbdaaGreatDoor
