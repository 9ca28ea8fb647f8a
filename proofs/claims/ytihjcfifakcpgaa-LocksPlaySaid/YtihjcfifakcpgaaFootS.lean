/- Footprints looked at: Len, Claims, Same, Within, Conflict. -/
import Derived.Test.YtihjcfifakcpgaaFootQ
import Derived.Laws.StructEq
namespace Go.Proofs.Ytihjcfifakcpgaa
open Go.RowKit

theorem below_drewN {B : Nat} {w w' : World} (h : Below B w w') (n : Nat) : Below B w (w'.drewN n) := ⟨h.os, h.tape, h.output, h.size, h.block⟩
/-- A call that tells whether something is so, and leaves all that was there. -/
def BoolP (p : Prop) (w : World) (e : Ending) (w' : World) : Prop := ∃ b : Bool, (b = true ↔ p) ∧ e = .returned (.bool b) ∧ Below w.heap.size w w'
theorem BoolP.yes {p : Prop} {w w' : World} (h : p) (hb : Below w.heap.size w w') : BoolP p w (.returned (.bool true)) w' := ⟨true, by simp [h], rfl, hb⟩
theorem BoolP.no {p : Prop} {w w' : World} (h : ¬ p) (hb : Below w.heap.size w w') : BoolP p w (.returned (.bool false)) w' := ⟨false, by simp [h], rfl, hb⟩

theorem bytes_beq (a b : List UInt8) : ((⟨a.toArray⟩ : ByteArray).toList == (⟨b.toArray⟩ : ByteArray).toList) = decide (a = b) := by
  rw [ByteArray.toList_eq, ByteArray.toList_eq]
  simp [Bool.beq_eq_decide_eq]
set_option maxRecDepth 100000 in
theorem eq_cl (x y : Cl) (w : World) : (Op.equalIn 10000 52 (.agg #[.bool x.wr, .int .i64 x.col, .string ⟨x.key.toArray⟩, .int .i64 x.lo, .int .i64 x.hi]) (.agg #[.bool y.wr, .int .i64 y.col, .string ⟨y.key.toArray⟩, .int .i64 y.lo, .int .i64 y.hi])).run Try.prog w = .ok (decide (x = y)) w := by
  have hs : Try.prog.stoodInHeld 52 = false := by kernel_rfl
  have hf : Try.prog.underlying 52 = some (.struct (Try.prog.fieldsOf 52)) := by unfold Program.fieldsOf; rw [Try.underlying52]
  obtain ⟨a1, a2, a3, a4, a5⟩ := x
  obtain ⟨b1, b2, b3, b4, b5⟩ := y
  rw [run_equalIn_agg w 9999 52 _ _ hf hs]
  unfold Program.fieldsOf
  rw [Try.underlying52]
  simp [Op.eqFields, go_sem, Try.underlying4, Try.underlying3, Try.underlying9]
  by_cases h1 : a1 = b1 <;> by_cases h2 : a2 = b2 <;> by_cases h3 : a3 = b3 <;> by_cases h4 : a4 = b4 <;> by_cases h5 : a5 = b5 <;> simp [h1, h2, h3, h4, h5]
theorem Try.guardCl : Try.prog.eqGuardType Try.prog.depth 52 = false := by kernel_rfl

set_option maxRecDepth 100000 in
set_option maxHeartbeats 400000 in
theorem clone_ok (w : World) (F : Nat → Prop) (v : Value) (l : List Cl) (h : ClRd w F v l) (hl : l.length ≤ 1000000) :
    Calls Try.prog 26 #[v] w (FreshC l w) := by
  obtain ⟨i0, hi, hz0, hz1, hz2⟩ := info_parts Try.info28
  obtain ⟨A, c, rfl, hnc, hcm⟩ := h.slice
  have hnil := fun w => Lib.run_eql_slice_nil (P := Try.prog) w 31 52 A l.length c 0 0 Try.underlying31
  rcases A with _ | a
  · have : l = [] := by
      cases l with
      | nil => rfl
      | cons x r => obtain ⟨_, _, h0, _⟩ := h.at_ (k := 0) rfl; cases h0
    subst this
    clear h
    simp only [List.length_nil] at hnil
    go_enter Try.func26, Try.ntmps26
    go_wp2
    go_ret
    exact ⟨none, 0, rfl, World.ownsRow_nil _ _ _ _, Below.refl _ _⟩
  · have hr2 : ClRd (w.alloc (.cells #[] 52)) F (.slice (some a) l.length c) l := RdK.below h ((Below.refl _ _).alloc (Nat.le_refl _) _)
    have hown0 := World.ownsRow_made (e := 52) (base := w.heap.size) (size := 5) w #[] 0 (Nat.le_refl _) (by simp [maxLen]) rfl
    have HR := Lib.hid (And.intro hr2 hown0)
    have HHI := Lib.hid hi
    clear hr2 hown0 h hi
    go_enter Try.func26, Try.ntmps26
    go_wp2_with (at_builtin; go_loud (refine wpList_append_rdk _ rfl _ _ 31 rfl w.heap.size 52 i0 _ 5 48 Try.underlying31 HHI.out hz0 hz1 hz2 rfl (by decide) _ 0 [] rfl HR.out.2 F _ (l.map Cl.cells) rfl HR.out.1 (cl_len _) (cl_one _) (by simp; omega) (by simp; unfold maxLen; omega) (by simp) ?_); intro v' w1 hown1 hgrow1 _)
    go_ret
    simp only [Nat.zero_add, List.nil_append, List.length_map] at hown1
    obtain ⟨A', c', hv⟩ := ownsRow_slice hown1
    rw [hv] at hown1 ⊢
    exact ⟨A', c', rfl, hown1, ((Below.refl _ _).alloc (Nat.le_refl _) _).grown hgrow1 (by simp) (fun k hk => by have h2 : some w.heap.size = some k := hk; injection h2 with h2; omega)⟩

theorem claims_ok (w : World) (F : Nat → Prop) (v : Value) (l : List Cl) (h : ClRd w F v l) (hl : l.length ≤ 1000000) :
    Calls Try.prog 10 #[.agg #[v]] w (FreshC l w) := by
  obtain ⟨A, c, rfl, hnc, hcm⟩ := h.slice
  have H := Lib.hid h
  clear h
  go_enter Try.func10, Try.ntmps10
  go_wp2_with fail
  refine (clone_ok _ F _ l (RdK.below H.out ((Below.refl _ _).alloc (Nat.le_refl _) _)) hl).mono ?_
  rintro e w1 ⟨A', c', rfl, hown, hb⟩
  go_wp2_with fail
  go_ret
  have hbb : Below w.heap.size w w1 := ((Below.refl _ _).alloc (Nat.le_refl _) _).trans (hb.mono (by simp))
  exact ⟨A', c', rfl, own_base hown (fun g hg => by have := (hown.lt g hg).1; simp at this; omega), hbb⟩

-- EQ BEGIN
end Go.Proofs.Ytihjcfifakcpgaa
