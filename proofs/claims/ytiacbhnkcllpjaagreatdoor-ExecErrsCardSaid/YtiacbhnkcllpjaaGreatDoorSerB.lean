/- frame.Decode of nothing, serial.One of nothing, serial.Check; the chapter's example of law15 (awake). -/
import Derived.Test.YtiacbhnkcllpjaaGreatDoorSerA
import Derived.Test.YtiacbhnkcllpjaaGreatDoorTreeH
import Derived.Test.YtiacbhnkcllpjaaGreatDoorFoot
import Derived.Laws.StructEq
namespace Go.Proofs.YtiacbhnkcllpjaaGreatDoor
set_option maxRecDepth 100000
open Go.RowKit

set_option maxRecDepth 100000 in
theorem openNil_ok (w : World) : Calls Tryz.prog 138 #[.slice none 0 0] w fun e w' => e = .returned (.tuple #[.slice none 0 0, .int .i64 11]) ∧ w' = w := by
  go_enter Tryz.func138, Tryz.ntmps138
  go_wp2_with fail
  go_ret2
  exact ⟨rfl, rfl⟩
def zeroEn : Value := .agg #[.int .i64 0, .slice none 0 0, .slice none 0 0, .slice none 0 0]
set_option maxRecDepth 100000 in
set_option maxHeartbeats 1000000 in
theorem decodeNil_ok (w : World) : Calls Tryz.prog 89 #[.slice none 0 0] w fun e w' => e = .returned (.tuple #[zeroEn, .int .i64 11]) ∧ Below w.heap.size w w' := by
  have hb0 := new_box w (.cells #[.int .i64 0, .slice none 0 0, .slice none 0 0, .slice none 0 0] 76)
  have k0 := heap_alloc_new w (.cells #[.int .i64 0, .slice none 0 0, .slice none 0 0, .slice none 0 0] 76)
  go_enter Tryz.func89, Tryz.ntmps89
  go_upto_region 1 with fail
  generalize w.alloc (.cells #[.int .i64 0, .slice none 0 0, .slice none 0 0, .slice none 0 0] 76) = w1 at hb0 k0 ⊢
  obtain ⟨R, hR⟩ : ∃ x, w.heap.size = x := ⟨_, rfl⟩
  rw [hR] at k0 ⊢
  have HR := Lib.hid (And.intro hR (And.intro hb0 k0))
  have z0 : w1.cell? ⟨R, 0, none⟩ = some (.int .i64 0) := by simp [World.cell?, k0]
  have z1 : w1.cell? ⟨R, 1, none⟩ = some (.slice none 0 0) := by simp [World.cell?, k0]
  have z2 : w1.cell? ⟨R, 2, none⟩ = some (.slice none 0 0) := by simp [World.cell?, k0]
  have z3 : w1.cell? ⟨R, 3, none⟩ = some (.slice none 0 0) := by simp [World.cell?, k0]
  have y0 : w1.frozen? ⟨R, 0, none⟩ = false := by simp [World.frozen?, k0]
  have y1 : w1.frozen? ⟨R, 1, none⟩ = false := by simp [World.frozen?, k0]
  have y2 : w1.frozen? ⟨R, 2, none⟩ = false := by simp [World.frozen?, k0]
  have y3 : w1.frozen? ⟨R, 3, none⟩ = false := by simp [World.frozen?, k0]
  clear hb0 k0 hR
  have HO := Lib.hid (openNil_ok w1)
  go_wp2_with fail
  refine HO.out.mono ?_
  rintro e w2 ⟨rfl, rfl⟩
  go_wp2_with fail
  have hp := put4r (v0 := .int .i64 0) (v1 := .slice none 0 0) (v2 := .slice none 0 0) (v3 := .slice none 0 0) HR.out.2.2
  have hB2 : Below w.heap.size w w2 := HR.out.2.1
  have hRs : w.heap.size ≤ R := Nat.le_of_eq HR.out.1
  exact bodyPost_ret (results_cell_row2 rfl _ _ _ _ _ _ _ rfl hp Tryz.underlying76 rfl (by kernel_rfl)) rfl ⟨rfl, (((hB2.setCell (p := ⟨R, 0, none⟩) hRs _).setCell (p := ⟨R, 1, none⟩) hRs _).setCell (p := ⟨R, 2, none⟩) hRs _).setCell (p := ⟨R, 3, none⟩) hRs _⟩
theorem eqCfg (x0 x1 x2 y0 y1 y2 : Int) (w : World) : (Op.equalIn 10000 23 (.agg #[.int .i64 x0, .int .i64 x1, .int .i64 x2]) (.agg #[.int .i64 y0, .int .i64 y1, .int .i64 y2])).run Tryz.prog w = .ok (decide (x0 = y0 ∧ x1 = y1 ∧ x2 = y2)) w := by
  have hs : Tryz.prog.stoodInHeld 23 = false := by kernel_rfl
  have hf : Tryz.prog.underlying 23 = some (.struct (Tryz.prog.fieldsOf 23)) := by unfold Program.fieldsOf; rw [Tryz.underlying23]
  rw [run_equalIn_agg w 9999 23 _ _ hf hs]
  unfold Program.fieldsOf
  rw [Tryz.underlying23]
  simp [Op.eqFields, go_sem, Tryz.underlying3]
  by_cases h1 : x0 = y0 <;> by_cases h2 : x1 = y1 <;> by_cases h3 : x2 = y2 <;> simp [h1, h2, h3]
theorem Tryz.guardCfg : Tryz.prog.eqGuardType Tryz.prog.depth 23 = false := by kernel_rfl
theorem eqOut (x0 x1 x2 y0 y1 y2 : Int) (w : World) : (Op.equalIn 10000 43 (.agg #[.int .i64 x0, .int .i64 x1, .int .i64 x2]) (.agg #[.int .i64 y0, .int .i64 y1, .int .i64 y2])).run Tryz.prog w = .ok (decide (x0 = y0 ∧ x1 = y1 ∧ x2 = y2)) w := by
  have hs : Tryz.prog.stoodInHeld 43 = false := by kernel_rfl
  have hf : Tryz.prog.underlying 43 = some (.struct (Tryz.prog.fieldsOf 43)) := by unfold Program.fieldsOf; rw [Tryz.underlying43]
  rw [run_equalIn_agg w 9999 43 _ _ hf hs]
  unfold Program.fieldsOf
  rw [Tryz.underlying43]
  simp [Op.eqFields, go_sem, Tryz.underlying3]
  by_cases h1 : x0 = y0 <;> by_cases h2 : x1 = y1 <;> by_cases h3 : x2 = y2 <;> simp [h1, h2, h3]
theorem Tryz.guardOut : Tryz.prog.eqGuardType Tryz.prog.depth 43 = false := by kernel_rfl
theorem cfgErr0 : cfgErr 0 0 0 = 23 := by decide
set_option maxRecDepth 100000 in
set_option maxHeartbeats 1000000 in
theorem serCheck_ok (w : World) (most n f : Int) : Calls Tryz.prog 13 #[cfgV most n f] w fun e w' => e = .returned (.int .i64 (cfgErr most n f)) ∧ Below w.heap.size w w' := by
  unfold cfgV
  have hb0 := new_box w (.cells #[.int .i64 most, .int .i64 n, .int .i64 f] 23)
  have k0 := heap_alloc_new w (.cells #[.int .i64 most, .int .i64 n, .int .i64 f] 23)
  have heq := eqCfg most n f 0 0 0
  have hgd := Tryz.guardCfg
  go_enter Tryz.func13, Tryz.ntmps13
  go_upto_region 1 with fail
  generalize w.alloc (.cells #[.int .i64 most, .int .i64 n, .int .i64 f] 23) = w1 at hb0 k0 ⊢
  obtain ⟨R, hR⟩ : ∃ x, w.heap.size = x := ⟨_, rfl⟩
  rw [hR] at k0 ⊢
  have HR := Lib.hid (And.intro hR hb0)
  have z0 : w1.cell? ⟨R, 0, none⟩ = some (.int .i64 most) := by simp [World.cell?, k0]
  have z1 : w1.cell? ⟨R, 1, none⟩ = some (.int .i64 n) := by simp [World.cell?, k0]
  have z2 : w1.cell? ⟨R, 2, none⟩ = some (.int .i64 f) := by simp [World.cell?, k0]
  clear hb0 hR
  by_cases h : most = 0 ∧ n = 0 ∧ f = 0
  · have hd : decide (most = 0 ∧ n = 0 ∧ f = 0) = true := by simpa using h
    rw [hd] at heq
    have H := Lib.hid (show cfgErr most n f = 23 by obtain ⟨rfl, rfl, rfl⟩ := h; exact cfgErr0)
    clear hd h
    go_wp2_with fail
    clear heq hgd
    go_ret
    exact ⟨by rw [H.out]; rfl, HR.out.2⟩
  · have hd : decide (most = 0 ∧ n = 0 ∧ f = 0) = false := by simpa using h
    rw [hd] at heq
    clear hd h
    have HE := Lib.hid (serEmpty_ok w1 most n f)
    go_wp2_with fail
    clear heq hgd
    refine HE.out.mono ?_
    rintro e w2 h
    have HB := Lib.hid (HR.out.2.trans (h.1.mono HR.out.2.size))
    by_cases h0 : cfgErr most n f = 0
    · obtain ⟨T, rfl, _⟩ := h.2.1 h0
      have H0 := Lib.hid h0
      clear h h0
      go_wp2_with fail
      go_ret
      exact ⟨by rw [H0.out]; rfl, HB.out⟩
    · obtain rfl := h.2.2 h0
      clear h h0
      go_wp2_with fail
      go_ret
      exact ⟨rfl, HB.out⟩
theorem put3r {w : World} {B : Nat} {a0 a1 a2 v0 v1 v2 : Value} {t : TypeId} (h : w.heap[B]? = some (.cells #[a0, a1, a2] t (0, 0))) :
    (((w.setCell ⟨B, 0, none⟩ v0).setCell ⟨B, 1, none⟩ v1).setCell ⟨B, 2, none⟩ v2).heap[B]? = some (.cells #[v0, v1, v2] t (0, 0)) := by
  have h0 := heap_setCell_same w B 0 _ t v0 h
  have h1 := heap_setCell_same _ B 1 _ t v1 h0
  have h2 := heap_setCell_same _ B 2 _ t v2 h1
  simpa using h2
/-- What One of a nil piece answers. -/
def oneK (p : Option Addr) (f : Int) : Int := if p.isSome ∧ fuelErr f = 0 then 7 else 0
def oneE (p : Option Addr) (f : Int) : Int := if p = none then 2 else fuelErr f
/-- An outcome. -/
def outV (k i v : Int) : Value := .agg #[.int .i64 k, .int .i64 i, .int .i64 v]
set_option maxRecDepth 100000 in
set_option maxHeartbeats 1000000 in
theorem oneNil_ok (w : World) (p : Option Addr) (most n f : Int) : Calls Tryz.prog 55 #[.pointer p, .slice none 0 0, cfgV most n f] w fun e w' =>
    Below w.heap.size w w' ∧ e = .returned (.tuple #[outV (oneK p f) 0 0, .int .i64 (oneE p f)]) := by
  unfold cfgV outV
  have hb0 := new_box w (.cells #[.int .i64 most, .int .i64 n, .int .i64 f] 23)
  have k0 := heap_alloc_new w (.cells #[.int .i64 most, .int .i64 n, .int .i64 f] 23)
  have hb1 := hb0.trans ((new_box (w.alloc (.cells #[.int .i64 most, .int .i64 n, .int .i64 f] 23)) (.cells #[.int .i64 0, .int .i64 0, .int .i64 0] 43)).mono hb0.size)
  have k1 := heap_alloc_new (w.alloc (.cells #[.int .i64 most, .int .i64 n, .int .i64 f] 23)) (.cells #[.int .i64 0, .int .i64 0, .int .i64 0] 43)
  have k0' := (Only.of_below (new_box (w.alloc (.cells #[.int .i64 most, .int .i64 n, .int .i64 f] 23)) (.cells #[.int .i64 0, .int .i64 0, .int .i64 0] 43)) (fun _ => False)).heap k0 (fun h => h)
  go_enter Tryz.func55, Tryz.ntmps55
  go_upto_region 1 with fail
  generalize (w.alloc (.cells #[.int .i64 most, .int .i64 n, .int .i64 f] 23)).alloc (.cells #[.int .i64 0, .int .i64 0, .int .i64 0] 43) = w1 at hb1 k1 k0' ⊢
  rw [show (w.alloc (.cells #[.int .i64 most, .int .i64 n, .int .i64 f] 23)).heap.size = w.heap.size + 1 by simp] at k1
  obtain ⟨C, hC⟩ : ∃ x, w.heap.size = x := ⟨_, rfl⟩
  obtain ⟨R, hR⟩ : ∃ x, w.heap.size + 1 = x := ⟨_, rfl⟩
  rw [hR] at k1 ⊢
  rw [hC] at k0' ⊢
  have HR := Lib.hid (And.intro (show w.heap.size ≤ R by omega) (And.intro hb1 k1))
  have c2 : w1.cell? ⟨C, 2, none⟩ = some (.int .i64 f) := by simp [World.cell?, k0']
  have z0 : w1.cell? ⟨R, 0, none⟩ = some (.int .i64 0) := by simp [World.cell?, k1]
  have z1 : w1.cell? ⟨R, 1, none⟩ = some (.int .i64 0) := by simp [World.cell?, k1]
  have z2 : w1.cell? ⟨R, 2, none⟩ = some (.int .i64 0) := by simp [World.cell?, k1]
  have y0 : w1.frozen? ⟨R, 0, none⟩ = false := by simp [World.frozen?, k1]
  have y1 : w1.frozen? ⟨R, 1, none⟩ = false := by simp [World.frozen?, k1]
  have y2 : w1.frozen? ⟨R, 2, none⟩ = false := by simp [World.frozen?, k1]
  clear hb0 k0 hb1 k1 k0' hC hR
  cases p with
  | none =>
    go_wp2_with fail
    have hp := put3r (v0 := .int .i64 0) (v1 := .int .i64 0) (v2 := .int .i64 0) HR.out.2.2
    have hB2 : Below w.heap.size w w1 := HR.out.2.1
    have hRs : w.heap.size ≤ R := HR.out.1
    exact bodyPost_ret (results_cell_row2 rfl _ _ _ _ _ _ _ rfl hp Tryz.underlying43 rfl (by kernel_rfl)) rfl ⟨((hB2.setCell (p := ⟨R, 0, none⟩) hRs _).setCell (p := ⟨R, 1, none⟩) hRs _).setCell (p := ⟨R, 2, none⟩) hRs _, rfl⟩
  | some a =>
    have HF := Lib.hid (fueled_ok w1 f)
    by_cases hf : fuelErr f = 0
    · rw [hf] at HF
      have H0 := Lib.hid hf
      clear hf
      go_wp2_with fail
      refine HF.out.mono ?_
      rintro e w2 ⟨rfl, rfl⟩
      go_wp2_with fail
      refine (decodeNil_ok _).mono ?_
      rintro e w3 ⟨rfl, hb⟩
      have k3 := (Only.of_below hb (fun _ => False)).heap HR.out.2.2 (fun h => h)
      have HB := Lib.hid (And.intro (HR.out.2.1.trans (hb.mono HR.out.2.1.size)) k3)
      have hx := new_box w3 (.cells #[.int .i64 0, .slice none 0 0, .slice none 0 0, .slice none 0 0] 76)
      have HX := Lib.hid (And.intro (HB.out.1.trans (hx.mono HB.out.1.size)) ((Only.of_below hx (fun _ => False)).heap k3 (fun h => h)))
      clear hb k3 hx
      unfold zeroEn
      go_upto_region 7 with fail
      generalize w3.alloc (.cells #[.int .i64 0, .slice none 0 0, .slice none 0 0, .slice none 0 0] 76) = w4 at HX ⊢
      have k4 := HX.out.2
      have z0 : w4.cell? ⟨R, 0, none⟩ = some (.int .i64 0) := by simp [World.cell?, k4]
      have z1 : w4.cell? ⟨R, 1, none⟩ = some (.int .i64 0) := by simp [World.cell?, k4]
      have z2 : w4.cell? ⟨R, 2, none⟩ = some (.int .i64 0) := by simp [World.cell?, k4]
      have y0 : w4.frozen? ⟨R, 0, none⟩ = false := by simp [World.frozen?, k4]
      have y1 : w4.frozen? ⟨R, 1, none⟩ = false := by simp [World.frozen?, k4]
      have y2 : w4.frozen? ⟨R, 2, none⟩ = false := by simp [World.frozen?, k4]
      clear k4
      go_wp2_with fail
      have hp := put3r (v0 := .int .i64 7) (v1 := .int .i64 0) (v2 := .int .i64 0) HX.out.2
      have hB2 := HX.out.1
      have hRs : w.heap.size ≤ R := HR.out.1
      exact bodyPost_ret (results_cell_row2 rfl _ _ _ _ _ _ _ rfl hp Tryz.underlying43 rfl (by kernel_rfl)) rfl ⟨((hB2.setCell (p := ⟨R, 0, none⟩) hRs _).setCell (p := ⟨R, 1, none⟩) hRs _).setCell (p := ⟨R, 2, none⟩) hRs _, by rw [show oneK (some a) f = 7 from if_pos ⟨rfl, H0.out⟩, show oneE (some a) f = 0 from (if_neg (by simp)).trans H0.out]; rfl⟩
    · obtain ⟨x, hx⟩ : ∃ x, fuelErr f = x := ⟨_, rfl⟩
      rw [hx] at HF hf
      have H0 := Lib.hid (And.intro hx hf)
      clear hx
      go_wp2_with fail
      refine HF.out.mono ?_
      rintro e w2 ⟨rfl, rfl⟩
      go_wp2_with fail
      have hp := put3r (v0 := .int .i64 0) (v1 := .int .i64 0) (v2 := .int .i64 0) HR.out.2.2
      have hB2 : Below w.heap.size w w2 := HR.out.2.1
      have hRs : w.heap.size ≤ R := HR.out.1
      exact bodyPost_ret (results_cell_row2 rfl _ _ _ _ _ _ _ rfl hp Tryz.underlying43 rfl (by kernel_rfl)) rfl ⟨((hB2.setCell (p := ⟨R, 0, none⟩) hRs _).setCell (p := ⟨R, 1, none⟩) hRs _).setCell (p := ⟨R, 2, none⟩) hRs _, by rw [show oneK (some a) f = 0 from if_neg (fun h => H0.out.2 (H0.out.1 ▸ h.2)), show oneE (some a) f = x from (if_neg (by simp)).trans H0.out.1]; rfl⟩
end Go.Proofs.YtiacbhnkcllpjaaGreatDoor
