/- Arguments opened: slices of what was seen, and of outcomes. -/
import Derived.Test.YtifpaagppjmbhaaGreatDoorReplC
import Derived.Test.YtifpaagppjmbhaaGreatDoorOpenC
import Derived.Test.YtifpaagppjmbhaaGreatDoorTrod
namespace Go.Proofs.YtifpaagppjmbhaaGreatDoor
set_option maxRecDepth 100000
open Go.ChangeShapes Go.WideShapes Go.ChangeAt Go.RowKit Go.Deep

theorem Tryz.cellsOut : Tryz.prog.cellsOf 35 = 3 := by kernel_rfl
theorem Tryz.cellsSeen : Tryz.prog.cellsOf 91 = 5 := by kernel_rfl
set_option maxRecDepth 100000 in
theorem out_of_trod {H : Type} {enc : TypeId × Value → H} {W : World} {fuel : Nat} {cs : List Value} {x : DataW H × List MemPlace} (h : DataW.trod enc Tryz.prog W 0 (fun _ => true) true fuel 35 cs = some x) : ∃ y : OF, cs = y.cells := by
  obtain ⟨xs, n, _, _, hlen, hxl, hf⟩ := DataW.trod_struct Tryz.underlying35 h
  rw [Tryz.cellsOut] at hlen
  match cs, hlen with
  | [v0, v1, v2], _ =>
    have hx : ∀ i, i < 3 → ∃ y, xs[i]? = some y := fun i hi => ⟨_, List.getElem?_eq_getElem (by rw [hxl]; exact hi)⟩
    obtain ⟨y0, e0⟩ := hx 0 (by decide)
    obtain ⟨y1, e1⟩ := hx 1 (by decide)
    obtain ⟨y2, e2⟩ := hx 2 (by decide)
    have f0 := hf 0 _ rfl
    rw [e0] at f0
    change DataW.trod enc Tryz.prog W 0 (fun _ => true) true n 3 (List.take (Tryz.prog.cellsOf 3) (List.drop 0 [v0, v1, v2])) = _ at f0
    rw [Tryz.cellsIc] at f0
    have f1 := hf 1 _ rfl
    rw [e1] at f1
    change DataW.trod enc Tryz.prog W 0 (fun _ => true) true n 3 (List.take (Tryz.prog.cellsOf 3) (List.drop 1 [v0, v1, v2])) = _ at f1
    rw [Tryz.cellsIc] at f1
    have f2 := hf 2 _ rfl
    rw [e2] at f2
    change DataW.trod enc Tryz.prog W 0 (fun _ => true) true n 3 (List.take (Tryz.prog.cellsOf 3) (List.drop 2 [v0, v1, v2])) = _ at f2
    rw [Tryz.cellsIc] at f2
    obtain ⟨n0, h0, _, w0⟩ := DataW.trod_int Tryz.underlying3 f0
    obtain ⟨n1, h1, _, w1⟩ := DataW.trod_int Tryz.underlying3 f1
    obtain ⟨n2, h2, _, w2⟩ := DataW.trod_int Tryz.underlying3 f2
    simp at h0 h1 h2
    subst h0 h1 h2
    exact ⟨⟨n0, n1, n2⟩, rfl⟩
set_option maxRecDepth 100000 in
theorem seen_of_trod {H : Type} {enc : TypeId × Value → H} {W : World} {fuel : Nat} {cs : List Value} {x : DataW H × List MemPlace} (h : DataW.trod enc Tryz.prog W 0 (fun _ => true) true fuel 91 cs = some x) : ∃ y : SF, cs = y.cells := by
  obtain ⟨xs, n, _, _, hlen, hxl, hf⟩ := DataW.trod_struct Tryz.underlying91 h
  rw [Tryz.cellsSeen] at hlen
  match cs, hlen with
  | [v0, v1, v2, v3, v4], _ =>
    have hx : ∀ i, i < 3 → ∃ y, xs[i]? = some y := fun i hi => ⟨_, List.getElem?_eq_getElem (by rw [hxl]; exact hi)⟩
    obtain ⟨y0, e0⟩ := hx 0 (by decide)
    obtain ⟨y1, e1⟩ := hx 1 (by decide)
    obtain ⟨y2, e2⟩ := hx 2 (by decide)
    have f0 := hf 0 _ rfl
    rw [e0] at f0
    change DataW.trod enc Tryz.prog W 0 (fun _ => true) true n 3 (List.take (Tryz.prog.cellsOf 3) (List.drop 0 [v0, v1, v2, v3, v4])) = _ at f0
    rw [Tryz.cellsIc] at f0
    have f1 := hf 1 _ rfl
    rw [e1] at f1
    change DataW.trod enc Tryz.prog W 0 (fun _ => true) true n 3 (List.take (Tryz.prog.cellsOf 3) (List.drop 1 [v0, v1, v2, v3, v4])) = _ at f1
    rw [Tryz.cellsIc] at f1
    have f2 := hf 2 _ rfl
    rw [e2] at f2
    change DataW.trod enc Tryz.prog W 0 (fun _ => true) true n 35 (List.take (Tryz.prog.cellsOf 35) (List.drop 2 [v0, v1, v2, v3, v4])) = _ at f2
    rw [Tryz.cellsOut] at f2
    obtain ⟨n0, h0, _, w0⟩ := DataW.trod_int Tryz.underlying3 f0
    obtain ⟨n1, h1, _, w1⟩ := DataW.trod_int Tryz.underlying3 f1
    obtain ⟨y, h2⟩ := out_of_trod f2
    simp at h0 h1
    simp [OF.cells] at h2
    obtain ⟨h2, h3, h4⟩ := h2
    subst h0 h1 h2 h3 h4
    exact ⟨⟨n0, n1, y.kind, y.id, y.val⟩, rfl⟩
set_option maxRecDepth 100000 in
theorem seens_of_trod {H : Type} {enc : TypeId × Value → H} {W : World} {v : Value} {d : DataW H} {p : List MemPlace} {base : Nat} (hval : Value.okWide Tryz.prog W .any base 87 v)
    (h : DataW.Trod enc Tryz.prog W 0 (fun _ => true) true 87 v d p) : ∃ l : List SF, RdK 5 W (fun _ => True) v (l.map SF.cells) ∧ ∀ x ∈ l, True := by
  obtain ⟨a0, len0, cap0, rfl⟩ := okWide_slice Tryz.underlying87 hval
  obtain ⟨fuel, hf⟩ := h
  obtain ⟨u, l, h1, r, g⟩ := slice_of_trod 87 91 Tryz.underlying87 5 (by decide) Tryz.cellsSeen SF.cells (fun _ => rfl) (fun _ => True) ⟨0, 0, 0, 0, 0⟩ (fun _ _ _ hh => by obtain ⟨y, h⟩ := seen_of_trod hh; exact ⟨y, h, trivial⟩) hf
  simp [Value.cells] at h1
  subst h1
  exact ⟨l, r, g⟩
set_option maxRecDepth 100000 in
theorem outs_of_trod {H : Type} {enc : TypeId × Value → H} {W : World} {v : Value} {d : DataW H} {p : List MemPlace} {base : Nat} (hval : Value.okWide Tryz.prog W .any base 31 v)
    (h : DataW.Trod enc Tryz.prog W 0 (fun _ => true) true 31 v d p) : ∃ l : List OF, RdK 3 W (fun _ => True) v (l.map OF.cells) ∧ ∀ x ∈ l, True := by
  obtain ⟨a0, len0, cap0, rfl⟩ := okWide_slice Tryz.underlying31 hval
  obtain ⟨fuel, hf⟩ := h
  obtain ⟨u, l, h1, r, g⟩ := slice_of_trod 31 35 Tryz.underlying31 3 (by decide) Tryz.cellsOut OF.cells (fun _ => rfl) (fun _ => True) ⟨0, 0, 0⟩ (fun _ _ _ hh => by obtain ⟨y, h⟩ := out_of_trod hh; exact ⟨y, h, trivial⟩) hf
  simp [Value.cells] at h1
  subst h1
  exact ⟨l, r, g⟩
end Go.Proofs.YtifpaagppjmbhaaGreatDoor
