/- Proved: LogGrows returns true for every input: what is appended is there and stays, and what is cut off it goes its own way; no condition. -/
import Derived.Test.YtphponbgbpccaaaLogG
import Derived.Test.YtphponbgbpccaaaOpen
namespace Go.Proofs.Ytphponbgbpccaaa
open Go.ChangeShapes Go.WideShapes Go.ChangeAt Go.RowKit

set_option maxRecDepth 100000 in
theorem grows_false (w : World) (F : Nat → Prop) (v : Value) (ps : List (List UInt8)) (n : Int) (hr : RowsRd w F v ps) (hf : ¬ FewP ps) :
    Calls Try.prog 3 #[v, .int .i64 n] w fun e w' => e = .returned (.bool true) ∧ Below w.heap.size w w' := by
  obtain ⟨A, c, rfl, _, _, _⟩ := hr.at_
  have HR := Lib.hid hr
  clear hr
  go_enter Try.func3, Try.ntmps3
  go_wp2_with fail
  refine (few_false w _ _ ps HR.out hf).mono ?_
  rintro e w' ⟨rfl, rfl⟩
  go_wp2_with fail
  refine (awake_ok w).mono ?_
  rintro e w5 ⟨rfl, hbl5⟩
  go_wp2_with fail
  go_ret
  exact ⟨rfl, hbl5⟩

set_option maxRecDepth 100000 in
theorem logGrows_lifted (os : Os) (started : os.Started) (H : Type) (enc : TypeId × Value → H) :
    ReturnsInHanded {} Try.checked os 3 .any (Rows.logGrowsSpec.pre6 enc Try.prog Try.f3 Rows.logGrowsRow.domain false) (Rows.logGrowsSpec.post enc Try.prog Try.f3 false true false false) := by
  refine law_lifted os started H enc 3 Try.f3 Rows.logGrowsSpec (by kernel_rfl) Try.func3 rfl (by kernel_rfl) ?_ ?_
    (ChangeSpec.witness6 (enc := enc) (C := Try.checked) false ⟨#[], #[.slice none 0 0, .int .i64 0], []⟩ 8 (by kernel_rfl) (by kernel_rfl) (by kernel_rfl) (by kernel_rfl)) ?_
  · rw [Try.params3]
    intro t ht
    simp at ht
    rcases ht with rfl | rfl
    · exact ⟨by kernel_rfl, of_decide_eq_true (by kernel_rfl)⟩
    · exact ⟨by kernel_rfl, of_decide_eq_true (by kernel_rfl)⟩
  · intro ds hl
    rw [Try.params3] at hl
    match ds, hl with
    | [d1, d2], _ => exact ⟨rfl, rfl, rfl⟩
  · intro W base args ds p hval hA
    rw [Try.params3] at hA hval
    obtain ⟨v0, v1, d0, d1, p0, p1, hargs, rfl, rfl, h0, h1⟩ := trodAll_two hA
    subst hargs
    obtain ⟨n, rfl, rfl, rfl, wn⟩ := open_int Try.underlying3 (hval 1 3 v1 rfl rfl) h1
    obtain ⟨ps, hr⟩ := rows_of_trod (hval 0 22 v0 rfl rfl) h0
    by_cases hf : FewP ps
    · have hb := bounds_i64 wn
      exact grows_true W _ v0 ps n hr hf hb.1 hb.2
    · exact grows_false W _ v0 ps n hr hf

theorem logGrows_holds : Rows.LogGrowsSaid :=
  OpenClaim.holds_of_wide 3 Try.f3 rfl rfl rfl rfl rfl rfl rfl ⟨rfl, rfl, rfl, rfl, rfl⟩ rfl rfl rfl rfl rfl (by kernel_rfl) Try.func3 (by kernel_rfl)
    (of_decide_eq_true (by kernel_rfl)) (by unfold Func.isWrapper; rw [if_neg (of_decide_eq_false (by kernel_rfl))]; exact ⟨rfl, rfl⟩)
    (fun os started H enc _ => logGrows_lifted os started H enc)

#print axioms logGrows_holds
end Go.Proofs.Ytphponbgbpccaaa
