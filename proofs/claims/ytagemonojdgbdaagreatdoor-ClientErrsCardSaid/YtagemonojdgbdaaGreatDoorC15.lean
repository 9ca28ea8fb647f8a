import Derived.Test.YtagemonojdgbdaaGreatDoorC09
import Derived.Laws.StructEq
namespace Go.Proofs.YtagemonojdgbdaaGreatDoor
set_option maxRecDepth 100000
open Go.RowKit
theorem eq_cl (x y : Cl) (w : World) : (Op.equalIn 10000 48 (.agg #[.bool x.wr, .int .i64 x.col, .string ⟨x.key.toArray⟩, .int .i64 x.lo, .int .i64 x.hi]) (.agg #[.bool y.wr, .int .i64 y.col, .string ⟨y.key.toArray⟩, .int .i64 y.lo, .int .i64 y.hi])).run Tryz.prog w = .ok (decide (x = y)) w := by
 have hs : Tryz.prog.stoodInHeld 48 = false := by kernel_rfl
 have hf : Tryz.prog.underlying 48 = some (.struct (Tryz.prog.fieldsOf 48)) := by unfold Program.fieldsOf; rw [Tryz.underlying48]
 obtain ⟨a1, a2, a3, a4, a5⟩ := x
 obtain ⟨b1, b2, b3, b4, b5⟩ := y
 rw [run_equalIn_agg w 9999 48 _ _ hf hs]
 unfold Program.fieldsOf
 rw [Tryz.underlying48]
 simp [Op.eqFields, go_sem, Tryz.underlying4, Tryz.underlying3, Tryz.underlying9]
 by_cases h1 : a1 = b1 <;> by_cases h2 : a2 = b2 <;> by_cases h3 : a3 = b3 <;> by_cases h4 : a4 = b4 <;> by_cases h5 : a5 = b5 <;> simp [h1, h2, h3, h4, h5]
theorem Tryz.guardCl : Tryz.prog.eqGuardType Tryz.prog.depth 48 = false := by kernel_rfl
set_option maxHeartbeats 400000 in
theorem clone_ok (w : World) (F : Nat → Prop) (v : Value) (l : List Cl) (h : ClRd w F v l) (hl : l.length ≤ 1000000) :
  Calls Tryz.prog 86 #[v] w (FreshC l w) := by
 obtain ⟨i0, hi, hz0, hz1, hz2⟩ := info_parts Tryz.info28
 obtain ⟨A, c, rfl, hnc, hcm⟩ := h.slice
 have hnil := fun w => Lib.run_eql_slice_nil (P := Tryz.prog) w 37 48 A l.length c 0 0 Tryz.underlying37
 rcases A with _ | a
 ·have : l = [] := by
   cases l with
   | nil => rfl
   | cons x r => obtain ⟨_, _, h0, _⟩ := h.at_ (k := 0) rfl; cases h0
  subst this
  clear h
  simp only [List.length_nil] at hnil
  go_enter Tryz.func86, Tryz.ntmps86
  go_wp2
  go_ret
  exact ⟨none, 0, rfl, World.ownsRow_nil _ _ _ _, Below.refl _ _⟩
 ·have hr2 : ClRd (w.alloc (.cells #[] 48)) F (.slice (some a) l.length c) l := RdK.below h ((Below.refl _ _).alloc (Nat.le_refl _) _)
  have hown0 := World.ownsRow_made (e := 48) (base := w.heap.size) (size := 5) w #[] 0 (Nat.le_refl _) (by simp [maxLen]) rfl
  have HR := Lib.hid (And.intro hr2 hown0)
  have HHI := Lib.hid hi
  clear hr2 hown0 h hi
  go_enter Tryz.func86, Tryz.ntmps86
  go_wp2_with (at_builtin; go_loud (refine wpList_append_rdk _ rfl _ _ 37 rfl w.heap.size 48 i0 _ 5 48 Tryz.underlying37 HHI.out hz0 hz1 hz2 rfl (by decide) _ 0 [] rfl HR.out.2 F _ (l.map Cl.cells) rfl HR.out.1 (cl_len _) (cl_one _) (by simp; omega) (by simp; unfold maxLen; omega) (by simp) ?_); intro v' w1 hown1 hgrow1 _)
  go_ret
  simp only [Nat.zero_add, List.nil_append, List.length_map] at hown1
  obtain ⟨A', c', hv⟩ := ownsRow_slice hown1
  rw [hv] at hown1 ⊢
  exact ⟨A', c', rfl, hown1, ((Below.refl _ _).alloc (Nat.le_refl _) _).grown hgrow1 (by simp) (fun k hk => by have h2 : some w.heap.size = some k := hk; injection h2 with h2; omega)⟩
theorem claims_ok (w : World) (F : Nat → Prop) (v : Value) (l : List Cl) (h : ClRd w F v l) (hl : l.length ≤ 1000000) :
  Calls Tryz.prog 52 #[.agg #[v]] w (FreshC l w) := by
 obtain ⟨A, c, rfl, hnc, hcm⟩ := h.slice
 have H := Lib.hid h
 clear h
 go_enter Tryz.func52, Tryz.ntmps52
 go_wp2_with fail
 refine (clone_ok _ F _ l (RdK.below H.out ((Below.refl _ _).alloc (Nat.le_refl _) _)) hl).mono ?_
 rintro e w1 ⟨A', c', rfl, hown, hb⟩
 go_wp2_with fail
 go_ret
 have hbb : Below w.heap.size w w1 := ((Below.refl _ _).alloc (Nat.le_refl _) _).trans (hb.mono (by simp))
 exact ⟨A', c', rfl, own_base hown (fun g hg => by have := (hown.lt g hg).1; simp at this; omega), hbb⟩
-- EQ BEGIN
set_option maxHeartbeats 400000 in
theorem equal_ok (w : World) (F G : Nat → Prop) (v u : Value) (a b : List Cl) (ha : ClRd w F v a) (hb : ClRd w G u b) (hl : a.length ≤ 1000000) :
  Calls Tryz.prog 51 #[v, u] w (BoolP (a = b) w) := by
 obtain ⟨A, c, rfl, hnc, hcm⟩ := ha.slice
 obtain ⟨B, d, rfl, hnd, hdm⟩ := hb.slice
 have HA := Lib.hid ha
 have HB := Lib.hid hb
 clear ha hb
 by_cases hlen : a.length = b.length
 ·obtain ⟨n, hn⟩ : ∃ n, a.length = n := ⟨_, rfl⟩
  have hn2 : b.length = n := by omega
  rw [hn] at HA hl hnc ⊢
  rw [hn2] at HB hnd ⊢
  have HN := Lib.hid (And.intro hn hn2)
  clear hn hn2 hlen
  go_enter Tryz.func51, Tryz.ntmps51
  go_wp2_with fail
  go_loopw [13] (fun i wr => ∃ k : Nat, k ≤ n ∧ i = .int .i64 (k : Int) ∧ a.take k = b.take k ∧ Below w.heap.size w wr) (fun i _ => n - (intOf i).toNat)
  case atStart => exact ⟨0, Nat.zero_le _, rfl, by simp, Below.refl _ _⟩
  case round =>
   obtain ⟨k, hk, rfl, htk, hbl⟩ := hrel
   by_cases hlt : k < n
   ·obtain ⟨x, hx⟩ : ∃ x, a[k]? = some x := ⟨_, List.getElem?_eq_getElem (by rw [HN.out.1]; exact hlt)⟩
    obtain ⟨y, hy⟩ : ∃ y, b[k]? = some y := ⟨_, List.getElem?_eq_getElem (by rw [HN.out.2]; exact hlt)⟩
    obtain ⟨b1, o1, rfl, hF1, c0, c1, c2, c3, c4⟩ := HA.out.at_ hx
    obtain ⟨b2, o2, rfl, hF2, d0, d1, d2, d3, d4⟩ := HB.out.at_ hy
    have l1 : b1 < w.heap.size := World.block_lt_of_cell? w _ c0
    have l2 : b2 < w.heap.size := World.block_lt_of_cell? w _ d0
    have c0' := (hbl.cell (p := ⟨b1, o1 + k * 5, none⟩) l1).trans c0
    have c1' := (hbl.cell (p := ⟨b1, o1 + k * 5 + 1, none⟩) l1).trans c1
    have c2' := (hbl.cell (p := ⟨b1, o1 + k * 5 + 2, none⟩) l1).trans c2
    have c3' := (hbl.cell (p := ⟨b1, o1 + k * 5 + 3, none⟩) l1).trans c3
    have c4' := (hbl.cell (p := ⟨b1, o1 + k * 5 + 4, none⟩) l1).trans c4
    have d0' := (hbl.cell (p := ⟨b2, o2 + k * 5, none⟩) l2).trans d0
    have d1' := (hbl.cell (p := ⟨b2, o2 + k * 5 + 1, none⟩) l2).trans d1
    have d2' := (hbl.cell (p := ⟨b2, o2 + k * 5 + 2, none⟩) l2).trans d2
    have d3' := (hbl.cell (p := ⟨b2, o2 + k * 5 + 3, none⟩) l2).trans d3
    have d4' := (hbl.cell (p := ⟨b2, o2 + k * 5 + 4, none⟩) l2).trans d4
    have HX := Lib.hid (And.intro hx (And.intro hy (And.intro htk hbl)))
    clear c0 c1 c2 c3 c4 d0 d1 d2 d3 d4 hx hy htk hbl
    have heq := eq_cl x y
    have hgd := Tryz.guardCl
    by_cases hxy : x = y
    ·have hd : decide (x = y) = true := by simpa using hxy
     rw [hd] at heq
     have HXY := Lib.hid hxy
     clear hd hxy
     go_wp2_with fail
     go_quiet (fail)
     clear heq hgd
     go_wp2_with fail
     go_roundw
     case rel => exact ⟨k + 1, by omega, by go_num, by rw [take_snoc HX.out.1, take_snoc HX.out.2.1, HX.out.2.2.1, HXY.out], below_drewN HX.out.2.2.2 _⟩
     case measure => simp [intOf]; omega
    ·have hd : decide (x = y) = false := by simpa using hxy
     rw [hd] at heq
     have HXY := Lib.hid hxy
     clear hd hxy
     go_wp2_with fail
     go_quiet (fail)
     clear heq hgd
     go_wp2_with fail
     go_ret
     exact BoolP.no (fun e => HXY.out (by have h1 := HX.out.1; rw [e, HX.out.2.1] at h1; injection h1 with h1; exact h1.symm)) (below_drewN HX.out.2.2.2 _)
   ·have hkn : k = n := by omega
    subst hkn
    have HX := Lib.hid (And.intro htk hbl)
    clear htk hbl
    go_wp2_with fail
    go_ret
    refine BoolP.yes ?_ HX.out.2
    have := HX.out.1
    rw [List.take_of_length_le (by rw [HN.out.1]; exact Nat.le_refl _), List.take_of_length_le (by rw [HN.out.2]; exact Nat.le_refl _)] at this
    exact this
 ·have hne : ((a.length : Int) == (b.length : Int)) = false := by simp; omega
  have hne2 : ((a.length : Int) != (b.length : Int)) = true := by simp; omega
  have HL := Lib.hid hlen
  go_enter Tryz.func51, Tryz.ntmps51
  go_wp2_with fail
  go_ret
  exact BoolP.no (fun e => HL.out (by rw [e])) (Below.refl _ _)
end Go.Proofs.YtagemonojdgbdaaGreatDoor
