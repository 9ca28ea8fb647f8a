/- Proved: RunKeys returns true for every input: which key a number has, and which number a key; no condition (the listed package variables start as the program's text and Go's library lay them). -/
import Derived.ChangeMaps5
import Derived.Test.YtfaaigfgfljdkaaGreatDoorNum
import Derived.Test.YtfaaigfgfljdkaaGreatDoorLaidE
import Derived.Test.YtfaaigfgfljdkaaGreatDoorRunKeysJ
import Derived.Test.YtfaaigfgfljdkaaGreatDoorTie
import Derived.Test.YtfaaigfgfljdkaaGreatDoorCards
namespace Go.Proofs.YtfaaigfgfljdkaaGreatDoor
set_option maxRecDepth 100000
open Go.ChangeShapes Go.WideShapes Go.ChangeAt Go.RowKit Go.Deep

set_option maxRecDepth 100000 in
theorem runKeys_lifted (os : Os) (started : os.Started) (H : Type) (enc : TypeId × Value → H) :
    ReturnsInHanded {} Tryz.checked os 3 .any (fun w args => (Rows.runKeysSpec.pre enc Tryz.prog Tryz.f3 [] false w args ∧ laidMetH Tryz.prog Rows.runKeysRow.laid w) ∧ sizedMet enc Tryz.prog Tryz.f3 (OpenSpec.ofChange Rows.runKeysSpec) false w args) (Rows.runKeysSpec.post enc Tryz.prog Tryz.f3 false true false false) := by
  refine law_lifted_laid os started H enc 3 Tryz.f3 Rows.runKeysSpec Rows.runKeysRow.laid (by kernel_rfl) Tryz.func3 rfl (by kernel_rfl) ?_ ?_
    (ChangeSpec.witness_shaped (enc := enc) (C := Tryz.checked) (os := os) (X := fun w _ => laidMetH Tryz.prog Rows.runKeysRow.laid w) false (World.doorLaid Tryz.prog 200 os) #[.int .i64 0, .string ⟨#[]⟩] 8 rfl (World.shaped_of_RefB (by kernel_rfl) (by kernel_rfl)) (by kernel_rfl) (by kernel_rfl) (by kernel_rfl)
      (laidMetH_of_parts3 (fuel := 8) (laidMet_of_run' 8 (by kernel_rfl) (by kernel_rfl)) (by kernel_rfl) (by kernel_rfl))) ?_
  · rw [Tryz.params3]
    intro t ht
    simp at ht
    rcases ht with rfl | rfl
    · exact ⟨by kernel_rfl, of_decide_eq_true (by kernel_rfl)⟩
    · exact ⟨by kernel_rfl, of_decide_eq_true (by kernel_rfl)⟩
  · intro ds hl
    rw [Tryz.params3] at hl
    match ds, hl with
    | [d1, d2], _ => exact ⟨rfl, rfl, rfl⟩
  · intro W base args ds p hL hval hA
    rw [Tryz.params3] at hA hval
    have hs := sh_of_laid hL (by rfl) (by simp [Rows.runKeysRow])
    have he := errs_of_laid hL (by rfl) (by simp [Rows.runKeysRow]) (by simp [Rows.runKeysRow])
    have h10 := tab10_of_laid hL (by rfl) (by simp [Rows.runKeysRow])
    obtain ⟨v0, v1, d0, d1, p0, p1, hargs, rfl, rfl, h0, h1⟩ := trodAll_two hA
    subst hargs
    obtain ⟨n0, rfl, rfl, rfl, wn0⟩ := open_int Tryz.underlying3 (hval 0 3 v0 rfl rfl) h0
    have b0 := bounds_i64 wn0
    obtain ⟨s1, rfl, rfl, rfl, q1⟩ := Go.ChangeMaps.open_string Tryz.underlying9 (hval 1 9 v1 rfl rfl) h1
    have e1 : s1 = ⟨s1.data.toList.toArray⟩ := by simp
    rw [e1]
    exact rkeys_law W n0 _ b0 hs h10 he

theorem runKeys_row : Rows.RunKeysSaid :=
  OpenClaim.holds_of_wide 3 Tryz.f3 rfl rfl rfl rfl rfl rfl rfl ⟨rfl, rfl, rfl, rfl, rfl⟩ rfl rfl rfl rfl rfl (by kernel_rfl) Tryz.func3 runKeys_closed
    (of_decide_eq_true (by kernel_rfl)) (by unfold Func.isWrapper; rw [if_neg (of_decide_eq_false (by kernel_rfl))]; exact ⟨rfl, rfl⟩)
    (fun os started H enc _ => runKeys_lifted os started H enc)

set_option maxRecDepth 100000 in
theorem runKeys_holds : Rows.RunKeysCardSaid :=
  Claim7.holds_tied_plain_at .later [] [.data, .data, .data, .sentinel, .sentinel, .data] true Rows.runKeysCard.stood.harness true
    runKeys_row (fun _ h => by cases h) runKeys_k1 (fun _ h => by cases h) runKeys_row_tie rfl ⟨rfl, rfl⟩ joinD rfl
    (fun f fn hf hfn => by
      obtain rfl : f = 3 := Option.some.inj ((show Tryz.prog.funcNamed "breviary/breviarylaw12.RunKeys" = some 3 by kernel_rfl).symm.trans hf) |>.symm
      obtain rfl : fn = Tryz.f3 := (Option.some.inj (Tryz.func3.symm.trans hfn)).symm
      refine ⟨joinC, fun j t ht => ?_⟩
      have hm : t ∈ Tryz.f3.params.toList := Array.mem_toList_iff.2 (Array.mem_of_getElem? ht)
      rw [Tryz.params3] at hm
      simp at hm
      rcases hm with rfl | rfl
      · exact (show Tryz.prog.wantsStandIn 3 = false by kernel_rfl)
      · exact (show Tryz.prog.wantsStandIn 9 = false by kernel_rfl))
    runKeys_k2

#print axioms runKeys_holds

end Go.Proofs.YtfaaigfgfljdkaaGreatDoor
