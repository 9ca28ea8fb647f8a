/- Arguments opened: slices of lives. -/
import Derived.Test.YtifpaagppjmbhaaGreatDoorReplA
import Derived.Test.YtifpaagppjmbhaaGreatDoorOpenC
import Derived.Test.YtifpaagppjmbhaaGreatDoorTrod
namespace Go.Proofs.YtifpaagppjmbhaaGreatDoor
set_option maxRecDepth 100000
open Go.ChangeShapes Go.WideShapes Go.ChangeAt Go.RowKit Go.Deep

theorem Tryz.cellsLife : Tryz.prog.cellsOf 102 = 3 := by kernel_rfl
theorem Tryz.cellsIs : Tryz.prog.cellsOf 45 = 1 := by kernel_rfl
def numL (n : Int) : List Value := [.int .i64 n]
theorem RdK_flat1 {W : World} {F : Nat → Prop} {v : Value} {l : List Int} (h : RdK 1 W F v (l.map numL)) : Rd W F v (l.map (Value.int .i64)) := by
  obtain ⟨A, n, c, hv, hl, hnc, hcm, hx⟩ := h
  refine ⟨A, n, c, hv, by simpa using hl, hnc, hcm, fun h0 => ?_⟩
  obtain ⟨b, o, hA, hF, hc⟩ := hx h0
  refine ⟨b, o, hA, hF, fun i x hi => ?_⟩
  obtain ⟨y, hy, rfl⟩ : ∃ y, l[i]? = some y ∧ Value.int .i64 y = x := by
    rw [List.getElem?_map] at hi
    cases hy : l[i]? with
    | none => rw [hy] at hi; cases hi
    | some y => rw [hy] at hi; injection hi with hi; exact ⟨y, rfl, hi⟩
  simpa using hc i (numL y) (by simp [hy]) 0 _ rfl
set_option maxRecDepth 100000 in
theorem life_of_trod {H : Type} {enc : TypeId × Value → H} {W : World} {fuel : Nat} {cs : List Value} {x : DataW H × List MemPlace} (h : DataW.trod enc Tryz.prog W 0 (fun _ => true) true fuel 102 cs = some x) :
    ∃ y : LF, cs = y.cells ∧ LF.rd W y := by
  obtain ⟨xs, n, _, _, hlen, hxl, hf⟩ := DataW.trod_struct Tryz.underlying102 h
  rw [Tryz.cellsLife] at hlen
  match cs, hlen with
  | [v0, v1, v2], _ =>
    have hx : ∀ i, i < 3 → ∃ y, xs[i]? = some y := fun i hi => ⟨_, List.getElem?_eq_getElem (by rw [hxl]; exact hi)⟩
    obtain ⟨y0, e0⟩ := hx 0 (by decide)
    obtain ⟨y1, e1⟩ := hx 1 (by decide)
    obtain ⟨y2, e2⟩ := hx 2 (by decide)
    have f0 := hf 0 _ rfl
    rw [e0] at f0
    change DataW.trod enc Tryz.prog W 0 (fun _ => true) true n 3 (List.take (Tryz.prog.cellsOf 3) (List.drop 0 [v0, v1, v2])) = _ at f0
    rw [Tryz.cellsIc] at f0
    have f1 := hf 1 _ rfl
    rw [e1] at f1
    change DataW.trod enc Tryz.prog W 0 (fun _ => true) true n 3 (List.take (Tryz.prog.cellsOf 3) (List.drop 1 [v0, v1, v2])) = _ at f1
    rw [Tryz.cellsIc] at f1
    have f2 := hf 2 _ rfl
    rw [e2] at f2
    change DataW.trod enc Tryz.prog W 0 (fun _ => true) true n 45 (List.take (Tryz.prog.cellsOf 45) (List.drop 2 [v0, v1, v2])) = _ at f2
    rw [Tryz.cellsIs] at f2
    obtain ⟨n0, h0, _, w0⟩ := DataW.trod_int Tryz.underlying3 f0
    obtain ⟨n1, h1, _, w1⟩ := DataW.trod_int Tryz.underlying3 f1
    obtain ⟨u2, l2, h2, r2, g2⟩ := slice_of_trod 45 3 Tryz.underlying45 1 (by decide) Tryz.cellsIc numL (fun _ => rfl) (fun _ => True) 0 (fun _ cs _ hh => by
      obtain ⟨n, rfl, _, _⟩ := DataW.trod_int Tryz.underlying3 hh
      exact ⟨n, rfl, trivial⟩) f2
    simp at h0 h1 h2
    subst h0 h1 h2
    exact ⟨⟨n0, n1, _, l2⟩, rfl, RdK_flat1 r2⟩
set_option maxRecDepth 100000 in
theorem lives_of_trod {H : Type} {enc : TypeId × Value → H} {W : World} {v : Value} {d : DataW H} {p : List MemPlace} {base : Nat} (hval : Value.okWide Tryz.prog W .any base 100 v)
    (h : DataW.Trod enc Tryz.prog W 0 (fun _ => true) true 100 v d p) : ∃ l : List LF, RdK 3 W (fun _ => True) v (l.map LF.cells) ∧ ∀ x ∈ l, LF.rd W x := by
  obtain ⟨a0, len0, cap0, rfl⟩ := okWide_slice Tryz.underlying100 hval
  obtain ⟨fuel, hf⟩ := h
  obtain ⟨u, l, h1, r, g⟩ := slice_of_trod 100 102 Tryz.underlying100 3 (by decide) Tryz.cellsLife LF.cells (fun _ => rfl) (LF.rd W) ⟨0, 0, .slice none 0 0, []⟩ (fun _ _ _ hh => life_of_trod hh) hf
  simp [Value.cells] at h1
  subst h1
  exact ⟨l, r, g⟩
end Go.Proofs.YtifpaagppjmbhaaGreatDoor
