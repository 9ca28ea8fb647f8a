/- A law's argument that is a slice of claims, opened. -/
import Derived.Test.YtifpaagppjmbhaaGreatDoorLift
import Derived.Test.YtifpaagppjmbhaaGreatDoorFoot
import Derived.Deep.Slices
import Derived.Deep.Fields
namespace Go.Proofs.YtifpaagppjmbhaaGreatDoor
set_option maxRecDepth 100000
open Go.ChangeShapes Go.WideShapes Go.ChangeAt Go.RowKit Go.Deep

theorem Tryz.cellsCl : Tryz.prog.cellsOf 119 = 5 := by kernel_rfl
theorem Tryz.cellsB : Tryz.prog.cellsOf 4 = 1 := by kernel_rfl
theorem Tryz.cellsI : Tryz.prog.cellsOf 3 = 1 := by kernel_rfl
theorem Tryz.cellsSt : Tryz.prog.cellsOf 9 = 1 := by kernel_rfl

set_option maxRecDepth 100000 in
/-- Five cells that read as a claim. -/
theorem claim_of_trod {H : Type} {enc : TypeId × Value → H} {W : World} {base : Nat} {sp : Nat → Bool} {hd : Bool} {fuel : Nat} {cs : List Value} {x : DataW H × List MemPlace} (h : DataW.trod enc Tryz.prog W base sp hd fuel 119 cs = some x) :
    ∃ c : Cl, cs = c.cells ∧ c.fits := by
  obtain ⟨xs, n, _, _, hlen, hxl, hf⟩ := DataW.trod_struct Tryz.underlying119 h
  rw [Tryz.cellsCl] at hlen
  match cs, hlen with
  | [v0, v1, v2, v3, v4], _ =>
    have hx : ∀ i, i < 5 → ∃ y, xs[i]? = some y := fun i hi => ⟨_, List.getElem?_eq_getElem (by rw [hxl]; exact hi)⟩
    obtain ⟨y0, e0⟩ := hx 0 (by decide)
    obtain ⟨y1, e1⟩ := hx 1 (by decide)
    obtain ⟨y2, e2⟩ := hx 2 (by decide)
    obtain ⟨y3, e3⟩ := hx 3 (by decide)
    obtain ⟨y4, e4⟩ := hx 4 (by decide)
    have f0 := hf 0 _ rfl
    rw [e0] at f0
    change DataW.trod enc Tryz.prog W base sp hd n 4 (List.take (Tryz.prog.cellsOf 4) (List.drop 0 [v0, v1, v2, v3, v4])) = _ at f0
    rw [Tryz.cellsB] at f0
    have f1 := hf 1 _ rfl
    rw [e1] at f1
    change DataW.trod enc Tryz.prog W base sp hd n 3 (List.take (Tryz.prog.cellsOf 3) (List.drop 1 [v0, v1, v2, v3, v4])) = _ at f1
    rw [Tryz.cellsI] at f1
    have f2 := hf 2 _ rfl
    rw [e2] at f2
    change DataW.trod enc Tryz.prog W base sp hd n 9 (List.take (Tryz.prog.cellsOf 9) (List.drop 2 [v0, v1, v2, v3, v4])) = _ at f2
    rw [Tryz.cellsSt] at f2
    have f3 := hf 3 _ rfl
    rw [e3] at f3
    change DataW.trod enc Tryz.prog W base sp hd n 3 (List.take (Tryz.prog.cellsOf 3) (List.drop 3 [v0, v1, v2, v3, v4])) = _ at f3
    rw [Tryz.cellsI] at f3
    have f4 := hf 4 _ rfl
    rw [e4] at f4
    change DataW.trod enc Tryz.prog W base sp hd n 3 (List.take (Tryz.prog.cellsOf 3) (List.drop 4 [v0, v1, v2, v3, v4])) = _ at f4
    rw [Tryz.cellsI] at f4
    obtain ⟨b, hb, _⟩ := DataW.trod_bool Tryz.underlying4 f0
    obtain ⟨n1, h1, _, w1⟩ := DataW.trod_int Tryz.underlying3 f1
    obtain ⟨s, h2, _, w2⟩ := DataW.trod_string Tryz.underlying9 f2
    obtain ⟨n3, h3, _, w3⟩ := DataW.trod_int Tryz.underlying3 f3
    obtain ⟨n4, h4, _, w4⟩ := DataW.trod_int Tryz.underlying3 f4
    simp at hb h1 h2 h3 h4
    subst hb h1 h2 h3 h4
    exact ⟨⟨b, n1, s.data.toList, n3, n4⟩, rfl, bounds_i64 w1, bounds_i64 w3, bounds_i64 w4, (by rw [Array.length_toList]; exact w2 : s.data.toList.length ≤ maxLen)⟩

set_option maxRecDepth 100000 in
theorem claims_of_trod {H : Type} {enc : TypeId × Value → H} {W : World} {v : Value} {d : DataW H} {p : List MemPlace} {base : Nat} (hval : Value.okWide Tryz.prog W .any base 65 v)
    (h : DataW.Trod enc Tryz.prog W 0 (fun _ => true) true 65 v d p) : ∃ l : List Cl, ClRd W (fun _ => True) v l ∧ ∀ c ∈ l, c.fits := by
  obtain ⟨a0, len0, cap0, rfl⟩ := okWide_slice Tryz.underlying65 hval
  obtain ⟨fuel, hf⟩ := h
  rcases open_slice Tryz.underlying65 hf with ⟨hcs, hx⟩ | ⟨a, len, cap, m, n, D, Pl, hcs, hb, hl, hm, hmm, hx, hi⟩
  · simp [Value.cells] at hcs
    obtain ⟨rfl, rfl, rfl⟩ := hcs
    exact ⟨[], RdK.nil _ _ _, by simp⟩
  · simp [Value.cells] at hcs
    obtain ⟨rfl, rfl, rfl⟩ := hcs
    simp at hmm
    subst hmm
    have key : ∀ i, i < m → ∃ c : Cl, c.fits ∧ ∀ j u, c.cells[j]? = some u → W.cell? (a.add (i * 5 + j)) = some u := by
      intro i him
      obtain ⟨cs', hc, ht'⟩ := hi i him
      obtain ⟨c, rfl, hfit⟩ := claim_of_trod ht'
      rw [Tryz.cellsCl] at hc
      obtain ⟨_, hcl, hat⟩ := World.cells?_some hc
      refine ⟨c, hfit, fun j u hj => ?_⟩
      have hjl : j < 5 := by have := (List.getElem?_eq_some_iff.1 hj).1; simpa [Cl.cells] using this
      rw [← Go.Deep.add_add, hat j hjl, hj]
    let g : Nat → Cl := fun i => if h : i < m then (key i h).choose else ⟨false, 0, [], 0, 0⟩
    have hg : ∀ i, i < m → (g i).fits ∧ ∀ j u, (g i).cells[j]? = some u → W.cell? (a.add (i * 5 + j)) = some u := by
      intro i him
      have := (key i him).choose_spec
      simp only [g, him, dif_pos]
      exact this
    refine ⟨(List.range len0).map g, ⟨some a, len0, m, rfl, by simp, hl, hm, fun h0 => ?_⟩, ?_⟩
    · have h00 := (hg 0 (by omega)).2 0 _ rfl
      have ha : a = ⟨a.block, a.off, none⟩ := by
        have : a.add (0 * 5 + 0) = a := by simp [Addr.add]
        rw [this] at h00
        exact addr_of_cell h00
      refine ⟨a.block, a.off, by rw [← ha], trivial, fun i x hi j u hj => ?_⟩
      have hil : i < len0 := by have := (List.getElem?_eq_some_iff.1 hi).1; simpa using this
      simp [hil] at hi
      subst hi
      have := (hg i (by omega)).2 j u hj
      rw [ha] at this
      unfold Addr.add at this
      split at this
      · rename_i hz; rw [hz]; simpa using this
      · simpa using this
    · intro c hc
      obtain ⟨i, hi, rfl⟩ := List.mem_map.1 hc
      exact (hg i (by have := List.mem_range.1 hi; omega)).1

end Go.Proofs.YtifpaagppjmbhaaGreatDoor
