/- Words for the walks of the laws: footprints that lie in boxes. -/
import Derived.Test.YtifpaagppjmbhaaGreatDoorFootW
import Derived.Test.YtifpaagppjmbhaaGreatDoorFootX
import Derived.Test.YtifpaagppjmbhaaGreatDoorFootL
namespace Go.Proofs.YtifpaagppjmbhaaGreatDoor
set_option maxRecDepth 100000
open Go.RowKit

theorem one_box (W : World) (o : Obj) : Below W.heap.size W (W.alloc o) := (Below.refl _ _).alloc (Nat.le_refl _) _
theorem unbox {W w' : World} {o : Obj} (h : Below (W.alloc o).heap.size (W.alloc o) w') : Below W.heap.size W w' := (one_box W o).trans (h.mono (by simp))
/-- A footprint in a box. -/
def Ft (w : World) (B : Nat) (A : Option Addr) (l : List Cl) (c : Nat) : Prop := w.cell? ⟨B, 0, none⟩ = some (.slice A l.length c) ∧ B < w.heap.size ∧ ClRd w (fun _ => True) (.slice A l.length c) l
theorem Ft.below {w w' : World} {B : Nat} {A : Option Addr} {l : List Cl} {c : Nat} (h : Ft w B A l c) (hb : Below w.heap.size w w') : Ft w' B A l c :=
  ⟨(hb.cell (p := ⟨B, 0, none⟩) h.2.1).trans h.1, Nat.lt_of_lt_of_le h.2.1 hb.size, RdK.below h.2.2 hb⟩
theorem Ft.made {W w' : World} {A : Option Addr} {l : List Cl} {c : Nat} {t : TypeId} (hb : Below (W.alloc (.cells #[.slice A l.length c] t)).heap.size (W.alloc (.cells #[.slice A l.length c] t)) w') (h : ClRd W (fun _ => True) (.slice A l.length c) l) : Ft w' W.heap.size A l c := by
  have hB : w'.heap[W.heap.size]? = some (.cells #[.slice A l.length c] t (0, 0)) := by rw [hb.block _ (by simp)]; exact heap_alloc_new _ _
  exact ⟨blk_cell hB, (Array.getElem?_eq_some_iff.1 hB).1, RdK.below h (unbox hb)⟩

end Go.Proofs.YtifpaagppjmbhaaGreatDoor
