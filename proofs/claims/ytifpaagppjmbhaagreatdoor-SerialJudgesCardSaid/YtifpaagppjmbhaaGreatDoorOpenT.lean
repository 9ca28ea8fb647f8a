/- Arguments opened: three numbers, twice three numbers. -/
import Derived.Test.YtifpaagppjmbhaaGreatDoorFootL
namespace Go.Proofs.YtifpaagppjmbhaaGreatDoor
set_option maxRecDepth 100000
open Go.ChangeShapes Go.WideShapes Go.ChangeAt Go.RowKit Go.Deep

theorem okWide_arrayT {P : Program} {w : World} {r : Reach} {base : Nat} {t e : TypeId} {n : Nat} {v : Value} (ht : P.underlying t = some (.array n e)) (h : Value.okWide P w r base t v) : ∃ cs, v = .agg cs ∧ cs.size = P.cellsOf t := by
  unfold Value.okWide at h
  simp only [ht] at h
  exact let ⟨cs, a, b, _⟩ := h; ⟨cs, a, b⟩
theorem Tryz.cellsIT : Tryz.prog.cellsOf 3 = 1 := by kernel_rfl
theorem Tryz.cells3T : Tryz.prog.cellsOf 92 = 3 := by kernel_rfl
theorem three_of_trod {H : Type} {enc : TypeId × Value → H} {W : World} {fuel : Nat} {c0 c1 c2 : Value} {x : DataW H × List MemPlace} (hf : DataW.trod enc Tryz.prog W 0 (fun _ => true) true fuel 92 [c0, c1, c2] = some x) :
    ∃ x0 x1 x2 : Int, c0 = .int .i64 x0 ∧ c1 = .int .i64 x1 ∧ c2 = .int .i64 x2 ∧ I64 x0 ∧ I64 x1 ∧ I64 x2 := by
  obtain ⟨xs, m, _, _, hl, hx, hi⟩ := DataW.trod_array Tryz.underlying92 hf
  have key : ∀ i, i < 3 → ∃ n : Int, (([c0, c1, c2] : List Value)[i]?) = some (.int .i64 n) ∧ I64 n := by
    intro i hi3
    have hh := hi i hi3
    rw [Tryz.cellsIT, List.getElem?_eq_getElem (by rw [hx]; exact hi3)] at hh
    have h1 : (List.take 1 (List.drop (i * 1) [c0, c1, c2])) = [[c0, c1, c2][i]] := by
      have : i = 0 ∨ i = 1 ∨ i = 2 := by omega
      rcases this with rfl | rfl | rfl <;> rfl
    rw [h1] at hh
    obtain ⟨n, h2, _, h3⟩ := DataW.trod_int Tryz.underlying3 hh
    refine ⟨n, ?_, bounds_i64 h3⟩
    rw [List.getElem?_eq_getElem (by simpa using hi3)]
    simp at h2
    rw [h2]
  obtain ⟨n0, e0, b0⟩ := key 0 (by decide)
  obtain ⟨n1, e1, b1⟩ := key 1 (by decide)
  obtain ⟨n2, e2, b2⟩ := key 2 (by decide)
  simp at e0 e1 e2
  exact ⟨n0, n1, n2, e0, e1, e2, b0, b1, b2⟩
end Go.Proofs.YtifpaagppjmbhaaGreatDoor
