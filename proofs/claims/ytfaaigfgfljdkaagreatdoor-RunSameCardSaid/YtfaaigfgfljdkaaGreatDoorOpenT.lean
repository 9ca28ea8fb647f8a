/- Arguments opened: three numbers, twice three numbers. -/
import Derived.Test.YtfaaigfgfljdkaaGreatDoorFootL
namespace Go.Proofs.YtfaaigfgfljdkaaGreatDoor
set_option maxRecDepth 100000
open Go.ChangeShapes Go.WideShapes Go.ChangeAt Go.RowKit Go.Deep

theorem okWide_arrayT {P : Program} {w : World} {r : Reach} {base : Nat} {t e : TypeId} {n : Nat} {v : Value} (ht : P.underlying t = some (.array n e)) (h : Value.okWide P w r base t v) : ∃ cs, v = .agg cs ∧ cs.size = P.cellsOf t := by
  unfold Value.okWide at h
  simp only [ht] at h
  exact let ⟨cs, a, b, _⟩ := h; ⟨cs, a, b⟩
theorem Tryz.cellsIT : Tryz.prog.cellsOf 3 = 1 := by kernel_rfl
theorem Tryz.cells3T : Tryz.prog.cellsOf 28 = 3 := by kernel_rfl
theorem three_of_trod {H : Type} {enc : TypeId × Value → H} {W : World} {fuel : Nat} {c0 c1 c2 : Value} {x : DataW H × List MemPlace} (hf : DataW.trod enc Tryz.prog W 0 (fun _ => true) true fuel 28 [c0, c1, c2] = some x) :
    ∃ x0 x1 x2 : Int, c0 = .int .i64 x0 ∧ c1 = .int .i64 x1 ∧ c2 = .int .i64 x2 ∧ I64 x0 ∧ I64 x1 ∧ I64 x2 := by
  obtain ⟨xs, m, _, _, hl, hx, hi⟩ := DataW.trod_array Tryz.underlying28 hf
  have key : ∀ i, i < 3 → ∃ n : Int, (([c0, c1, c2] : List Value)[i]?) = some (.int .i64 n) ∧ I64 n := by
    intro i hi3
    have hh := hi i hi3
    rw [Tryz.cellsIT, List.getElem?_eq_getElem (by rw [hx]; exact hi3)] at hh
    have h1 : (List.take 1 (List.drop (i * 1) [c0, c1, c2])) = [[c0, c1, c2][i]] := by
      have : i = 0 ∨ i = 1 ∨ i = 2 := by omega
      rcases this with rfl | rfl | rfl <;> rfl
    rw [h1] at hh
    obtain ⟨n, h2, _, h3⟩ := DataW.trod_int Tryz.underlying3 hh
    refine ⟨n, ?_, bounds_i64 h3⟩
    rw [List.getElem?_eq_getElem (by simpa using hi3)]
    simp at h2
    rw [h2]
  obtain ⟨n0, e0, b0⟩ := key 0 (by decide)
  obtain ⟨n1, e1, b1⟩ := key 1 (by decide)
  obtain ⟨n2, e2, b2⟩ := key 2 (by decide)
  simp at e0 e1 e2
  exact ⟨n0, n1, n2, e0, e1, e2, b0, b1, b2⟩
theorem Tryz.cells23 : Tryz.prog.cellsOf 29 = 6 := by kernel_rfl
set_option maxRecDepth 100000 in
/-- Twice three numbers. -/
theorem open_two3 {H : Type} {enc : TypeId × Value → H} {W : World} {v : Value} {d : DataW H} {p : List MemPlace} {base : Nat} (hval : Value.okWide Tryz.prog W .any base 29 v)
    (h : DataW.Trod enc Tryz.prog W 0 (fun _ => true) true 29 v d p) : ∃ x0 x1 x2 x3 x4 x5 : Int, v = .agg #[.int .i64 x0, .int .i64 x1, .int .i64 x2, .int .i64 x3, .int .i64 x4, .int .i64 x5] ∧ (I64 x0 ∧ I64 x1 ∧ I64 x2) ∧ I64 x3 ∧ I64 x4 ∧ I64 x5 := by
  obtain ⟨cs, rfl, hs⟩ := okWide_arrayT Tryz.underlying29 hval
  rw [Tryz.cells23] at hs
  obtain ⟨fuel, hf⟩ := h
  obtain ⟨xs, m, _, _, hl, hx, hi⟩ := DataW.trod_array Tryz.underlying29 hf
  obtain ⟨cl⟩ := cs
  match cl, hs with
  | [c0, c1, c2, c3, c4, c5], _ =>
    have h0 := hi 0 (by decide)
    have h1 := hi 1 (by decide)
    rw [Tryz.cells3T, List.getElem?_eq_getElem (by rw [hx]; decide)] at h0 h1
    obtain ⟨x0, x1, x2, rfl, rfl, rfl, b0⟩ := three_of_trod h0
    obtain ⟨x3, x4, x5, rfl, rfl, rfl, b1⟩ := three_of_trod h1
    exact ⟨x0, x1, x2, x3, x4, x5, rfl, b0, b1⟩
end Go.Proofs.YtfaaigfgfljdkaaGreatDoor
