import Derived.Test.YtagemonojdgbdaaGreatDoorC30
import Derived.Test.YtagemonojdgbdaaGreatDoorC47
namespace Go.Proofs.YtagemonojdgbdaaGreatDoor
set_option maxRecDepth 100000
open Go.RowKit
section
open Go.ChangeShapes Go.WideShapes Go.ChangeAt Go.RowKit Go.Deep
theorem Tryz.gNib : Tryz.prog.globalNamed "breviary/sum.nibbles" = some 1 := by kernel_rfl
theorem Tryz.tNib : (Tryz.prog.globals[1]?).map (·.type) = some 313 := by kernel_rfl
theorem Tryz.cellsU32 : Tryz.prog.cellsOf 270 = 1 := by kernel_rfl
theorem nib_datum : ∀ i, i < 16 → ∃ l, Rows.laid_breviary_sum_nibbles (H := Unit) = .agg l ∧ l[i]? = some (.lit (.int .u32 (nibAt i : Int))) := by
 intro i hi
 refine ⟨_, rfl, ?_⟩
 have : i = 0 ∨ i = 1 ∨ i = 2 ∨ i = 3 ∨ i = 4 ∨ i = 5 ∨ i = 6 ∨ i = 7 ∨ i = 8 ∨ i = 9 ∨ i = 10 ∨ i = 11 ∨ i = 12 ∨ i = 13 ∨ i = 14 ∨ i = 15 := by omega
 rcases this with rfl | rfl | rfl | rfl | rfl | rfl | rfl | rfl | rfl | rfl | rfl | rfl | rfl | rfl | rfl | rfl <;> rfl
theorem nib_of_laid {w : World} {l : List (String × DataW Unit)} (h : laidMetH Tryz.prog l w) (hp : (l.all fun x => x.2.handleName?.isNone) = true) (hm : ("breviary/sum.nibbles", Rows.laid_breviary_sum_nibbles) ∈ l) : NibTab w := by
 obtain ⟨g, t, cs, f, p, hg, ht, hv, hd⟩ := laid_mem h hp _ hm
 obtain rfl := Option.some.inj (Tryz.gNib.symm.trans hg)
 obtain rfl := Option.some.inj (Tryz.tNib.symm.trans ht)
 obtain ⟨xs, m, _, hx, hlen, hn, hel⟩ := DataW.trod_array Tryz.underlying313 hd
 intro i hi
 obtain ⟨l0, hl0, hli⟩ := nib_datum i hi
 have hx' : Rows.laid_breviary_sum_nibbles (H := Unit) = .agg (xs.map (·.1)) := (Prod.mk.inj hx).1
 rw [hl0] at hx'
 injection hx' with hx'
 have he := hel i hi
 rw [Tryz.cellsU32] at he
 obtain ⟨y, hy⟩ : ∃ y, xs[i]? = some y := ⟨_, List.getElem?_eq_getElem (by rw [hn]; exact hi)⟩
 rw [hy] at he
 obtain ⟨n, h1, h2, _⟩ := DataW.trod_int Tryz.underlying270 he
 have h3 : y.1 = .lit (.int .u32 (nibAt i : Int)) := by
  rw [hx', List.getElem?_map, hy] at hli
  injection hli
 rw [h2] at h3
 have h4 : n = (nibAt i : Int) := by simpa using h3
 subst h4
 rw [World.var?_cell hg hv i]
 have h5 : cs.toList[i]? = some (.int .u32 (nibAt i : Int)) := by
  have := congrArg (fun l : List Value => l[0]?) h1
  simpa using this
 simpa using h5
end
end Go.Proofs.YtagemonojdgbdaaGreatDoor
