/- Proved: ClientErrs returns true for every input: which clients there are, that no request is taken that may not be, and that a nil client has nothing; no condition (the listed package variables start as the program's text and Go's library lay them). -/
import Derived.Test.YtagemonojdgbdaaGreatDoorC45
import Derived.Test.YtagemonojdgbdaaGreatDoorC48
import Derived.Test.YtagemonojdgbdaaGreatDoorC49
import Derived.Test.YtagemonojdgbdaaGreatDoorTie
import Derived.Test.YtagemonojdgbdaaGreatDoorCards
namespace Go.Proofs.YtagemonojdgbdaaGreatDoor
set_option maxRecDepth 100000
open Go.RowKit
section
open Go.ChangeShapes Go.WideShapes Go.ChangeAt Go.RowKit Go.Deep
theorem clientErrs_lifted (os : Os) (started : os.Started) (H : Type) (enc : TypeId × Value → H) :
  ReturnsInHanded {} Tryz.checked os 4 .any (fun w args => (Rows.clientErrsSpec.pre enc Tryz.prog Tryz.f4 [] false w args ∧ laidMetH Tryz.prog Rows.clientErrsRow.laid w) ∧ sizedMet enc Tryz.prog Tryz.f4 (OpenSpec.ofChange Rows.clientErrsSpec) false w args) (Rows.clientErrsSpec.post enc Tryz.prog Tryz.f4 false true false false) := by
 refine law_lifted_laid os started H enc 4 Tryz.f4 Rows.clientErrsSpec Rows.clientErrsRow.laid (by kernel_rfl) Tryz.func4 rfl (by kernel_rfl) ?_ ?_
  (ChangeSpec.witness_shaped (enc := enc) (C := Tryz.checked) (os := os) (X := fun w _ => laidMetH Tryz.prog Rows.clientErrsRow.laid w) false (World.doorLaid Tryz.prog 200 os) #[.slice none 0 0, .slice none 0 0, .agg #[.int .i64 0, .int .i64 0, .int .i64 0, .int .i64 0]] 8 rfl (World.shaped_of_RefB (by kernel_rfl) (by kernel_rfl)) (by kernel_rfl) (by kernel_rfl) (by kernel_rfl)
   (laidMetH_of_parts3 (fuel := 8) (laidMet_of_run' 8 (by kernel_rfl) (by kernel_rfl)) (by kernel_rfl) (by kernel_rfl))) ?_
 ·rw [Tryz.params4]
  intro t ht
  simp at ht
  rcases ht with rfl | rfl | rfl
  ·exact ⟨by kernel_rfl, of_decide_eq_true (by kernel_rfl)⟩
  ·exact ⟨by kernel_rfl, of_decide_eq_true (by kernel_rfl)⟩
  ·exact ⟨by kernel_rfl, of_decide_eq_true (by kernel_rfl)⟩
 ·intro ds hl
  rw [Tryz.params4] at hl
  match ds, hl with
  | [d1, d2, d3], _ => exact ⟨rfl, rfl, rfl⟩
 ·intro W base args ds p hL hval hA
  rw [Tryz.params4] at hA hval
  have ht := nib_of_laid hL (by rfl) (by simp [Rows.clientErrsRow])
  have hs := sh_of_laid hL (by rfl) (by simp [Rows.clientErrsRow])
  obtain ⟨v0, v1, v2, d0, d1, d2, p0, p1, p2, hargs, rfl, rfl, h0, h1, h2⟩ := trodAll_three hA
  subst hargs
  obtain ⟨l0, r0, f0⟩ := pops_of_trod (hval 0 50 v0 rfl rfl) h0
  obtain ⟨l1, r1, f1⟩ := ints_of_trod (hval 1 51 v1 rfl rfl) h1
  obtain ⟨ba, bb, bc, bk, rfl⟩ := open_bad (hval 2 55 v2 rfl rfl) h2
  refine clierrs_law W (fun _ => True) v0 v1 l0 l1 ba bb bc bk ⟨r0, r1, RdK.nil _ _ _, by simp [I64f], f0, f1, by simp⟩ hs ht
theorem clientErrs_row : Rows.ClientErrsSaid :=
 OpenClaim.holds_of_wide 4 Tryz.f4 rfl rfl rfl rfl rfl rfl rfl ⟨rfl, rfl, rfl, rfl, rfl⟩ rfl rfl rfl rfl rfl (by kernel_rfl) Tryz.func4 clientErrs_closed
  (of_decide_eq_true (by kernel_rfl)) (by unfold Func.isWrapper; rw [if_neg (of_decide_eq_false (by kernel_rfl))]; exact ⟨rfl, rfl⟩)
  (fun os started H enc _ => clientErrs_lifted os started H enc)
theorem clientErrs_holds : Rows.ClientErrsCardSaid :=
 Claim7.holds_tied_plain_at .later [] [.data, .data, .data, .sentinel, .sentinel, .data, .data] true Rows.clientErrsCard.stood.harness true
  clientErrs_row (fun _ h => by cases h) clientErrs_k1 (fun _ h => by cases h) clientErrs_row_tie rfl ⟨rfl, rfl⟩ joinD rfl
  (fun f fn hf hfn => by
   obtain rfl : f = 4 := Option.some.inj ((show Tryz.prog.funcNamed "breviary/breviarylaw19.ClientErrs" = some 4 by kernel_rfl).symm.trans hf) |>.symm
   obtain rfl : fn = Tryz.f4 := (Option.some.inj (Tryz.func4.symm.trans hfn)).symm
   refine ⟨joinC, fun j t ht => ?_⟩
   have hm : t ∈ Tryz.f4.params.toList := Array.mem_toList_iff.2 (Array.mem_of_getElem? ht)
   rw [Tryz.params4] at hm
   simp at hm
   rcases hm with rfl | rfl | rfl
   ·exact (show Tryz.prog.wantsStandIn 50 = false by kernel_rfl)
   ·exact (show Tryz.prog.wantsStandIn 51 = false by kernel_rfl)
   ·exact (show Tryz.prog.wantsStandIn 55 = false by kernel_rfl))
  clientErrs_k2
#print axioms clientErrs_holds
end
end Go.Proofs.YtagemonojdgbdaaGreatDoor
