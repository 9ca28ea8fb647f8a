import Derived.Test.YtagemonojdgbdaaGreatDoorC04
import Derived.Test.YtagemonojdgbdaaGreatDoorC05
import Derived.Laws.StructEq
namespace Go.Proofs.YtagemonojdgbdaaGreatDoor
set_option maxRecDepth 100000
open Go.RowKit

theorem eqCfg (x0 x1 x2 y0 y1 y2 : Int) (w : World) : (Op.equalIn 10000 53 (.agg #[.int .i64 x0, .int .i64 x1, .int .i64 x2]) (.agg #[.int .i64 y0, .int .i64 y1, .int .i64 y2])).run Tryz.prog w = .ok (decide (x0 = y0 ∧ x1 = y1 ∧ x2 = y2)) w := by
 have hs : Tryz.prog.stoodInHeld 53 = false := by kernel_rfl
 have hf : Tryz.prog.underlying 53 = some (.struct (Tryz.prog.fieldsOf 53)) := by unfold Program.fieldsOf; rw [Tryz.underlying53]
 rw [run_equalIn_agg w 9999 53 _ _ hf hs]
 unfold Program.fieldsOf
 rw [Tryz.underlying53]
 simp [Op.eqFields, go_sem, Tryz.underlying3]
 by_cases h1 : x0 = y0 <;> by_cases h2 : x1 = y1 <;> by_cases h3 : x2 = y2 <;> simp [h1, h2, h3]
theorem Tryz.guardCfg : Tryz.prog.eqGuardType Tryz.prog.depth 53 = false := by kernel_rfl
theorem cfgErr0 : cfgErr 0 0 0 = 23 := by decide
set_option maxHeartbeats 1000000 in
theorem serCheck_ok (w : World) (most n f : Int) : Calls Tryz.prog 17 #[cfgV most n f] w fun e w' => e = .returned (.int .i64 (cfgErr most n f)) ∧ Below w.heap.size w w' := by
 unfold cfgV
 have hb0 := new_box w (.cells #[.int .i64 most, .int .i64 n, .int .i64 f] 53)
 have k0 := heap_alloc_new w (.cells #[.int .i64 most, .int .i64 n, .int .i64 f] 53)
 have heq := eqCfg most n f 0 0 0
 have hgd := Tryz.guardCfg
 go_enter Tryz.func17, Tryz.ntmps17
 go_upto_region 1 with fail
 generalize w.alloc (.cells #[.int .i64 most, .int .i64 n, .int .i64 f] 53) = w1 at hb0 k0 ⊢
 obtain ⟨R, hR⟩ : ∃ x, w.heap.size = x := ⟨_, rfl⟩
 rw [hR] at k0 ⊢
 have HR := Lib.hid (And.intro hR hb0)
 have z0 : w1.cell? ⟨R, 0, none⟩ = some (.int .i64 most) := by simp [World.cell?, k0]
 have z1 : w1.cell? ⟨R, 1, none⟩ = some (.int .i64 n) := by simp [World.cell?, k0]
 have z2 : w1.cell? ⟨R, 2, none⟩ = some (.int .i64 f) := by simp [World.cell?, k0]
 clear hb0 hR
 by_cases h : most = 0 ∧ n = 0 ∧ f = 0
 ·have hd : decide (most = 0 ∧ n = 0 ∧ f = 0) = true := by simpa using h
  rw [hd] at heq
  have H := Lib.hid (show cfgErr most n f = 23 by obtain ⟨rfl, rfl, rfl⟩ := h; exact cfgErr0)
  clear hd h
  go_wp2_with fail
  clear heq hgd
  go_ret
  exact ⟨by rw [H.out]; rfl, HR.out.2⟩
 ·have hd : decide (most = 0 ∧ n = 0 ∧ f = 0) = false := by simpa using h
  rw [hd] at heq
  clear hd h
  have HE := Lib.hid (serEmpty_ok w1 most n f)
  go_wp2_with fail
  clear heq hgd
  refine HE.out.mono ?_
  rintro e w2 h
  have HB := Lib.hid (HR.out.2.trans (h.1.mono HR.out.2.size))
  by_cases h0 : cfgErr most n f = 0
  ·obtain ⟨T, rfl, _⟩ := h.2.1 h0
   have H0 := Lib.hid h0
   clear h h0
   go_wp2_with fail
   go_ret
   exact ⟨by rw [H0.out]; rfl, HB.out⟩
  ·obtain rfl := h.2.2 h0
   clear h h0
   go_wp2_with fail
   go_ret
   exact ⟨rfl, HB.out⟩
theorem put3r {w : World} {B : Nat} {a0 a1 a2 v0 v1 v2 : Value} {t : TypeId} (h : w.heap[B]? = some (.cells #[a0, a1, a2] t (0, 0))) :
  (((w.setCell ⟨B, 0, none⟩ v0).setCell ⟨B, 1, none⟩ v1).setCell ⟨B, 2, none⟩ v2).heap[B]? = some (.cells #[v0, v1, v2] t (0, 0)) := by
 have h0 := heap_setCell_same w B 0 _ t v0 h
 have h1 := heap_setCell_same _ B 1 _ t v1 h0
 have h2 := heap_setCell_same _ B 2 _ t v2 h1
 simpa using h2

end Go.Proofs.YtagemonojdgbdaaGreatDoor
