/- What a call answers that tells whether something is so. -/
import Derived.Test.YtifpaagppjmbhaaGreatDoorBase
namespace Go.Proofs.YtifpaagppjmbhaaGreatDoor
set_option maxRecDepth 100000
open Go.RowKit

theorem below_drewN {B : Nat} {w w' : World} (h : Below B w w') (n : Nat) : Below B w (w'.drewN n) := ⟨h.os, h.tape, h.output, h.size, h.block⟩
/-- A call that tells whether something is so, and leaves all that was there. -/
def BoolP (p : Prop) (w : World) (e : Ending) (w' : World) : Prop := ∃ b : Bool, (b = true ↔ p) ∧ e = .returned (.bool b) ∧ Below w.heap.size w w'
theorem BoolP.yes {p : Prop} {w w' : World} (h : p) (hb : Below w.heap.size w w') : BoolP p w (.returned (.bool true)) w' := ⟨true, by simp [h], rfl, hb⟩
theorem BoolP.no {p : Prop} {w w' : World} (h : ¬ p) (hb : Below w.heap.size w w') : BoolP p w (.returned (.bool false)) w' := ⟨false, by simp [h], rfl, hb⟩
end Go.Proofs.YtifpaagppjmbhaaGreatDoor
