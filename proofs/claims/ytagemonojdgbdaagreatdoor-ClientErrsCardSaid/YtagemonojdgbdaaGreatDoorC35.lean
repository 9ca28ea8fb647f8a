import Derived.Test.YtagemonojdgbdaaGreatDoorC04
import Derived.Test.YtagemonojdgbdaaGreatDoorC18
import Derived.Deep.Slices
import Derived.Deep.Fields
namespace Go.Proofs.YtagemonojdgbdaaGreatDoor
set_option maxRecDepth 100000
open Go.RowKit
section
open Go.ChangeShapes Go.WideShapes Go.ChangeAt Go.RowKit Go.Deep
end
section
open Go.ChangeShapes Go.WideShapes Go.ChangeAt Go.RowKit Go.Deep
theorem slice_of_trod {H : Type} {enc : TypeId × Value → H} {W : World} {α : Type} (S E : TypeId) (hS : Tryz.prog.underlying S = some (.slice E)) (k : Nat) (hk : 0 < k) (hE : Tryz.prog.cellsOf E = k) (cel : α → List Value) (hcel : ∀ y, (cel y).length = k) (P : α → Prop) (dflt : α)
  (hone : ∀ (fuel : Nat) (cs : List Value) (x : DataW H × List MemPlace), DataW.trod enc Tryz.prog W 0 (fun _ => true) true fuel E cs = some x → ∃ y, cs = cel y ∧ P y)
  {fuel : Nat} {cs : List Value} {x : DataW H × List MemPlace} (hf : DataW.trod enc Tryz.prog W 0 (fun _ => true) true fuel S cs = some x) :
  ∃ (v : Value) (l : List α), cs = [v] ∧ RdK k W (fun _ => True) v (l.map cel) ∧ ∀ y ∈ l, P y := by
 rcases open_slice hS hf with ⟨rfl, hx⟩ | ⟨a, len, cap, m, n, D, Pl, rfl, hb, hl, hm, hmm, hx, hi⟩
 ·exact ⟨_, [], rfl, RdK.nil _ _ _, by simp⟩
 ·simp at hmm
  subst hmm
  have key : ∀ i, i < m → ∃ y : α, P y ∧ ∀ j u, (cel y)[j]? = some u → W.cell? (a.add (i * k + j)) = some u := by
   intro i him
   obtain ⟨cs', hc, ht'⟩ := hi i him
   obtain ⟨y, rfl, hP⟩ := hone _ _ _ ht'
   rw [hE] at hc
   obtain ⟨_, hcl, hat⟩ := World.cells?_some hc
   refine ⟨y, hP, fun j u hj => ?_⟩
   have hjl : j < k := by have := (List.getElem?_eq_some_iff.1 hj).1; rw [hcel] at this; exact this
   rw [← Go.Deep.add_add, hat j hjl, hj]
  let g : Nat → α := fun i => if h : i < m then (key i h).choose else dflt
  have hg : ∀ i, i < m → P (g i) ∧ ∀ j u, (cel (g i))[j]? = some u → W.cell? (a.add (i * k + j)) = some u := by
   intro i him
   have := (key i him).choose_spec
   simp only [g, him, dif_pos]
   exact this
  refine ⟨_, (List.range len).map g, rfl, ⟨some a, len, m, rfl, by simp, hl, hm, fun h0 => ?_⟩, ?_⟩
  ·have h00 := (hg 0 (by omega)).2 0 _ (List.getElem?_eq_getElem (by rw [hcel]; exact hk))
   have ha : a = ⟨a.block, a.off, none⟩ := by
    have : a.add (0 * k + 0) = a := by simp [Addr.add]
    rw [this] at h00
    exact addr_of_cell h00
   refine ⟨a.block, a.off, by rw [← ha], trivial, fun i x hi j u hj => ?_⟩
   have hil : i < len := by have := (List.getElem?_eq_some_iff.1 hi).1; simpa using this
   simp [hil] at hi
   subst hi
   have := (hg i (by omega)).2 j u hj
   rw [ha] at this
   unfold Addr.add at this
   split at this
   ·rename_i hz; rw [hz]; simpa using this
   ·simpa using this
  ·intro y hy
   obtain ⟨i, hi, rfl⟩ := List.mem_map.1 hy
   exact (hg i (by have := List.mem_range.1 hi; omega)).1
end
end Go.Proofs.YtagemonojdgbdaaGreatDoor
