/- Arguments opened: a slice of whatever has so many cells, by how one of them is read. -/
import Derived.Test.YtihjcfifakcpgaaGreatDoorFtZ
import Derived.Test.YtihjcfifakcpgaaGreatDoorFrameR
namespace Go.Proofs.YtihjcfifakcpgaaGreatDoor
set_option maxRecDepth 100000
open Go.ChangeShapes Go.WideShapes Go.ChangeAt Go.RowKit Go.Deep

set_option maxRecDepth 100000 in
/-- A slice, opened by how an element is read. -/
theorem slice_of_trod {H : Type} {enc : TypeId × Value → H} {W : World} {α : Type} (S E : TypeId) (hS : Tryz.prog.underlying S = some (.slice E)) (k : Nat) (hk : 0 < k) (hE : Tryz.prog.cellsOf E = k) (cel : α → List Value) (hcel : ∀ y, (cel y).length = k) (P : α → Prop) (dflt : α)
    (hone : ∀ (fuel : Nat) (cs : List Value) (x : DataW H × List MemPlace), DataW.trod enc Tryz.prog W 0 (fun _ => true) true fuel E cs = some x → ∃ y, cs = cel y ∧ P y)
    {fuel : Nat} {cs : List Value} {x : DataW H × List MemPlace} (hf : DataW.trod enc Tryz.prog W 0 (fun _ => true) true fuel S cs = some x) :
    ∃ (v : Value) (l : List α), cs = [v] ∧ RdK k W (fun _ => True) v (l.map cel) ∧ ∀ y ∈ l, P y := by
  rcases open_slice hS hf with ⟨rfl, hx⟩ | ⟨a, len, cap, m, n, D, Pl, rfl, hb, hl, hm, hmm, hx, hi⟩
  · exact ⟨_, [], rfl, RdK.nil _ _ _, by simp⟩
  · simp at hmm
    subst hmm
    have key : ∀ i, i < m → ∃ y : α, P y ∧ ∀ j u, (cel y)[j]? = some u → W.cell? (a.add (i * k + j)) = some u := by
      intro i him
      obtain ⟨cs', hc, ht'⟩ := hi i him
      obtain ⟨y, rfl, hP⟩ := hone _ _ _ ht'
      rw [hE] at hc
      obtain ⟨_, hcl, hat⟩ := World.cells?_some hc
      refine ⟨y, hP, fun j u hj => ?_⟩
      have hjl : j < k := by have := (List.getElem?_eq_some_iff.1 hj).1; rw [hcel] at this; exact this
      rw [← Go.Deep.add_add, hat j hjl, hj]
    let g : Nat → α := fun i => if h : i < m then (key i h).choose else dflt
    have hg : ∀ i, i < m → P (g i) ∧ ∀ j u, (cel (g i))[j]? = some u → W.cell? (a.add (i * k + j)) = some u := by
      intro i him
      have := (key i him).choose_spec
      simp only [g, him, dif_pos]
      exact this
    refine ⟨_, (List.range len).map g, rfl, ⟨some a, len, m, rfl, by simp, hl, hm, fun h0 => ?_⟩, ?_⟩
    · have h00 := (hg 0 (by omega)).2 0 _ (List.getElem?_eq_getElem (by rw [hcel]; exact hk))
      have ha : a = ⟨a.block, a.off, none⟩ := by
        have : a.add (0 * k + 0) = a := by simp [Addr.add]
        rw [this] at h00
        exact addr_of_cell h00
      refine ⟨a.block, a.off, by rw [← ha], trivial, fun i x hi j u hj => ?_⟩
      have hil : i < len := by have := (List.getElem?_eq_some_iff.1 hi).1; simpa using this
      simp [hil] at hi
      subst hi
      have := (hg i (by omega)).2 j u hj
      rw [ha] at this
      unfold Addr.add at this
      split at this
      · rename_i hz; rw [hz]; simpa using this
      · simpa using this
    · intro y hy
      obtain ⟨i, hi, rfl⟩ := List.mem_map.1 hy
      exact (hg i (by have := List.mem_range.1 hi; omega)).1
end Go.Proofs.YtihjcfifakcpgaaGreatDoor

/- Arguments opened: an entry. -/
namespace Go.Proofs.YtihjcfifakcpgaaGreatDoor
set_option maxRecDepth 100000
open Go.ChangeShapes Go.WideShapes Go.ChangeAt Go.RowKit Go.Deep

theorem Tryz.cellsPOp : Tryz.prog.cellsOf 51 = 5 := by kernel_rfl
theorem Tryz.cellsEnt : Tryz.prog.cellsOf 26 = 4 := by kernel_rfl
theorem Tryz.cellsPOps : Tryz.prog.cellsOf 22 = 1 := by kernel_rfl
theorem Tryz.cellsInts : Tryz.prog.cellsOf 23 = 1 := by kernel_rfl
theorem Tryz.cellsClms : Tryz.prog.cellsOf 24 = 1 := by kernel_rfl
theorem num_of_trod {H : Type} {enc : TypeId × Value → H} {W : World} {fuel : Nat} {cs : List Value} {x : DataW H × List MemPlace} (h : DataW.trod enc Tryz.prog W 0 (fun _ => true) true fuel 3 cs = some x) : ∃ n : Int, cs = numC n ∧ I64f n := by
  obtain ⟨n, rfl, _, w⟩ := DataW.trod_int Tryz.underlying3 h
  exact ⟨n, rfl, bounds_i64 w⟩
set_option maxRecDepth 100000 in
theorem pop_of_trod {H : Type} {enc : TypeId × Value → H} {W : World} {fuel : Nat} {cs : List Value} {x : DataW H × List MemPlace} (h : DataW.trod enc Tryz.prog W 0 (fun _ => true) true fuel 51 cs = some x) :
    ∃ o : POp, cs = o.cells ∧ o.fits := by
  obtain ⟨xs, n, _, _, hlen, hxl, hf⟩ := DataW.trod_struct Tryz.underlying51 h
  rw [Tryz.cellsPOp] at hlen
  match cs, hlen with
  | [v0, v1, v2, v3, v4], _ =>
    have hx : ∀ i, i < 5 → ∃ y, xs[i]? = some y := fun i hi => ⟨_, List.getElem?_eq_getElem (by rw [hxl]; exact hi)⟩
    obtain ⟨y0, e0⟩ := hx 0 (by decide)
    have f0 := hf 0 _ rfl
    rw [e0] at f0
    change DataW.trod enc Tryz.prog W 0 (fun _ => true) true n 3 (List.take (Tryz.prog.cellsOf 3) (List.drop 0 [v0, v1, v2, v3, v4])) = _ at f0
    rw [Tryz.cellsI] at f0
    obtain ⟨y1, e1⟩ := hx 1 (by decide)
    have f1 := hf 1 _ rfl
    rw [e1] at f1
    change DataW.trod enc Tryz.prog W 0 (fun _ => true) true n 3 (List.take (Tryz.prog.cellsOf 3) (List.drop 1 [v0, v1, v2, v3, v4])) = _ at f1
    rw [Tryz.cellsI] at f1
    obtain ⟨y2, e2⟩ := hx 2 (by decide)
    have f2 := hf 2 _ rfl
    rw [e2] at f2
    change DataW.trod enc Tryz.prog W 0 (fun _ => true) true n 3 (List.take (Tryz.prog.cellsOf 3) (List.drop 2 [v0, v1, v2, v3, v4])) = _ at f2
    rw [Tryz.cellsI] at f2
    obtain ⟨y3, e3⟩ := hx 3 (by decide)
    have f3 := hf 3 _ rfl
    rw [e3] at f3
    change DataW.trod enc Tryz.prog W 0 (fun _ => true) true n 3 (List.take (Tryz.prog.cellsOf 3) (List.drop 3 [v0, v1, v2, v3, v4])) = _ at f3
    rw [Tryz.cellsI] at f3
    obtain ⟨y4, e4⟩ := hx 4 (by decide)
    have f4 := hf 4 _ rfl
    rw [e4] at f4
    change DataW.trod enc Tryz.prog W 0 (fun _ => true) true n 3 (List.take (Tryz.prog.cellsOf 3) (List.drop 4 [v0, v1, v2, v3, v4])) = _ at f4
    rw [Tryz.cellsI] at f4
    obtain ⟨n0, h0, _, w0⟩ := DataW.trod_int Tryz.underlying3 f0
    obtain ⟨n1, h1, _, w1⟩ := DataW.trod_int Tryz.underlying3 f1
    obtain ⟨n2, h2, _, w2⟩ := DataW.trod_int Tryz.underlying3 f2
    obtain ⟨n3, h3, _, w3⟩ := DataW.trod_int Tryz.underlying3 f3
    obtain ⟨n4, h4, _, w4⟩ := DataW.trod_int Tryz.underlying3 f4
    simp at h0 h1 h2 h3 h4
    subst h0 h1 h2 h3 h4
    exact ⟨⟨n0, n1, n2, n3, n4⟩, rfl, bounds_i64 w0, bounds_i64 w1, bounds_i64 w2, bounds_i64 w3, bounds_i64 w4⟩
set_option maxRecDepth 100000 in
theorem ent_of_trod {H : Type} {enc : TypeId × Value → H} {W : World} {fuel : Nat} {cs : List Value} {x : DataW H × List MemPlace} (h : DataW.trod enc Tryz.prog W 0 (fun _ => true) true fuel 26 cs = some x) :
    ∃ e vo va vc, cs = [.int .i64 e.id, vo, va, vc] ∧ EntRd W (fun _ => True) e vo va vc := by
  obtain ⟨xs, n, _, _, hlen, hxl, hf⟩ := DataW.trod_struct Tryz.underlying26 h
  rw [Tryz.cellsEnt] at hlen
  match cs, hlen with
  | [v0, v1, v2, v3], _ =>
    have hx : ∀ i, i < 4 → ∃ y, xs[i]? = some y := fun i hi => ⟨_, List.getElem?_eq_getElem (by rw [hxl]; exact hi)⟩
    obtain ⟨y0, e0⟩ := hx 0 (by decide)
    have f0 := hf 0 _ rfl
    rw [e0] at f0
    change DataW.trod enc Tryz.prog W 0 (fun _ => true) true n 3 (List.take (Tryz.prog.cellsOf 3) (List.drop 0 [v0, v1, v2, v3])) = _ at f0
    rw [Tryz.cellsI] at f0
    obtain ⟨y1, e1⟩ := hx 1 (by decide)
    have f1 := hf 1 _ rfl
    rw [e1] at f1
    change DataW.trod enc Tryz.prog W 0 (fun _ => true) true n 22 (List.take (Tryz.prog.cellsOf 22) (List.drop 1 [v0, v1, v2, v3])) = _ at f1
    rw [Tryz.cellsPOps] at f1
    obtain ⟨y2, e2⟩ := hx 2 (by decide)
    have f2 := hf 2 _ rfl
    rw [e2] at f2
    change DataW.trod enc Tryz.prog W 0 (fun _ => true) true n 23 (List.take (Tryz.prog.cellsOf 23) (List.drop 2 [v0, v1, v2, v3])) = _ at f2
    rw [Tryz.cellsInts] at f2
    obtain ⟨y3, e3⟩ := hx 3 (by decide)
    have f3 := hf 3 _ rfl
    rw [e3] at f3
    change DataW.trod enc Tryz.prog W 0 (fun _ => true) true n 24 (List.take (Tryz.prog.cellsOf 24) (List.drop 3 [v0, v1, v2, v3])) = _ at f3
    rw [Tryz.cellsClms] at f3
    obtain ⟨n0, h0, _, w0⟩ := DataW.trod_int Tryz.underlying3 f0
    obtain ⟨u1, l1, h1, r1, g1⟩ := slice_of_trod 22 51 Tryz.underlying22 5 (by decide) Tryz.cellsPOp POp.cells (fun _ => rfl) POp.fits ⟨0, 0, 0, 0, 0⟩ (fun _ _ _ hh => pop_of_trod hh) f1
    obtain ⟨u2, l2, h2, r2, g2⟩ := slice_of_trod 23 3 Tryz.underlying23 1 (by decide) Tryz.cellsI numC (fun _ => rfl) I64f 0 (fun _ _ _ hh => num_of_trod hh) f2
    obtain ⟨u3, l3, h3, r3, g3⟩ := slice_of_trod 24 74 Tryz.underlying24 5 (by decide) Tryz.cellsCl Cl.cells (fun _ => rfl) Cl.fits ⟨false, 0, [], 0, 0⟩ (fun _ _ _ hh => claim_of_trod hh) f3
    simp at h0 h1 h2 h3
    subst h0 h1 h2 h3
    exact ⟨⟨n0, l1, l2, l3⟩, _, _, _, rfl, r1, nums_rd r2, r3, bounds_i64 w0, g1, g2, g3⟩
set_option maxRecDepth 100000 in
theorem open_entry {H : Type} {enc : TypeId × Value → H} {W : World} {v : Value} {d : DataW H} {p : List MemPlace} {base : Nat} (hval : Value.okWide Tryz.prog W .any base 26 v)
    (h : DataW.Trod enc Tryz.prog W 0 (fun _ => true) true 26 v d p) : ∃ e vo va vc, v = entV e vo va vc ∧ EntRd W (fun _ => True) e vo va vc := by
  obtain ⟨cs, rfl, hs⟩ := okWide_struct Tryz.underlying26 hval
  obtain ⟨fuel, hf⟩ := h
  obtain ⟨e, vo, va, vc, h2, h3⟩ := ent_of_trod hf
  refine ⟨e, vo, va, vc, ?_, h3⟩
  obtain ⟨cl⟩ := cs
  have : cl = [.int .i64 e.id, vo, va, vc] := by simpa [Value.cells] using h2
  rw [this]
  rfl
end Go.Proofs.YtihjcfifakcpgaaGreatDoor
