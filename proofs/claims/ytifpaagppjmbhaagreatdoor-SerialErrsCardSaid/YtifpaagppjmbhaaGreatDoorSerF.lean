/- SerialErrs, walked. -/
import Derived.Test.YtifpaagppjmbhaaGreatDoorSerE
namespace Go.Proofs.YtifpaagppjmbhaaGreatDoor
set_option maxRecDepth 100000
open Go.RowKit

/-- A configuration in a box. -/
def CfgAt (w : World) (C : Nat) (most n f : Int) : Prop := w.heap[C]? = some (.cells #[.int .i64 most, .int .i64 n, .int .i64 f] 23 (0, 0))
theorem CfgAt.below {w w' : World} {C : Nat} {most n f : Int} (h : CfgAt w C most n f) (hb : Below w.heap.size w w') : CfgAt w' C most n f := (Only.of_below hb (fun _ => False)).heap h (fun h => h)
theorem CfgAt.cells {w : World} {C : Nat} {most n f : Int} (h : CfgAt w C most n f) : w.cell? ⟨C, 0, none⟩ = some (.int .i64 most) ∧ w.cell? ⟨C, 1, none⟩ = some (.int .i64 n) ∧ w.cell? ⟨C, 2, none⟩ = some (.int .i64 f) := by
  unfold CfgAt at h
  exact ⟨by simp [World.cell?, h], by simp [World.cell?, h], by simp [World.cell?, h]⟩
set_option maxRecDepth 100000 in
set_option maxHeartbeats 4000000 in
theorem serrs_bad (w : World) (most n f : Int) (h : cfgErr most n f ≠ 0) : Calls Tryz.prog 3 #[cfgV most n f] w fun e w' => e = .returned (.bool true) ∧ Below w.heap.size w w' := by
  unfold cfgV
  have hb0 := new_box w (.cells #[.int .i64 most, .int .i64 n, .int .i64 f] 23)
  have k0 : CfgAt _ _ _ _ _ := heap_alloc_new w (.cells #[.int .i64 most, .int .i64 n, .int .i64 f] 23)
  go_enter Tryz.func3, Tryz.ntmps3
  go_upto_region 1 with fail
  generalize w.alloc (.cells #[.int .i64 most, .int .i64 n, .int .i64 f] 23) = w1 at hb0 k0 ⊢
  obtain ⟨C, hC⟩ : ∃ x, w.heap.size = x := ⟨_, rfl⟩
  rw [hC] at k0 ⊢
  clear hC
  obtain ⟨z0, z1, z2⟩ := k0.cells
  have H := Lib.hid h
  have HB := Lib.hid (And.intro hb0 k0)
  have HE := Lib.hid (serEmpty_ok w1 most n f)
  unfold cfgV at HE
  clear hb0 k0 h
  go_wp2_with fail
  refine HE.out.mono ?_
  rintro e w2 ⟨hb2, -, he⟩
  obtain rfl := he H.out
  have k2 := HB.out.2.below hb2
  obtain ⟨z0, z1, z2⟩ := k2.cells
  have HB2 := Lib.hid (And.intro (HB.out.1.trans (hb2.mono HB.out.1.size)) k2)
  clear hb2 k2 he HE
  go_wp2_with fail
  refine (logNew0_ok w2).mono ?_
  rintro e w3 ⟨L, rfl, -, hL, hb3⟩
  have k3 := HB2.out.2.below hb3
  obtain ⟨z0, z1, z2⟩ := k3.cells
  have HB3 := Lib.hid (And.intro (HB2.out.1.trans (hb3.mono HB2.out.1.size)) (And.intro k3 hL))
  have HF := Lib.hid (foldNil_ok w3 most n f)
  unfold cfgV at HF
  clear hb3 k3 hL
  go_wp2_with fail
  refine HF.out.mono ?_
  rintro e w4 ⟨rfl, hb4⟩
  have k4 := HB3.out.2.1.below hb4
  obtain ⟨z0, z1, z2⟩ := k4.cells
  have HB4 := Lib.hid (And.intro (HB3.out.1.trans (hb4.mono HB3.out.1.size)) k4)
  have HG := Lib.hid (fold0_ok w4 L most n f (HB3.out.2.2.below hb4))
  unfold cfgV at HG
  clear hb4 k4 HF
  go_wp2_with fail
  refine HG.out.mono ?_
  rintro e w5 ⟨hb5, -, he⟩
  obtain rfl := he H.out
  have k5 := HB4.out.2.below hb5
  obtain ⟨z0, z1, z2⟩ := k5.cells
  have HB5 := Lib.hid (And.intro (HB4.out.1.trans (hb5.mono HB4.out.1.size)) k5)
  have HO := Lib.hid (oneNil_ok w5 none most n f)
  unfold cfgV outV at HO
  clear hb5 k5 he HG
  go_wp2_with fail
  refine HO.out.mono ?_
  rintro e w6 ⟨hb6, rfl⟩
  have k6 := HB5.out.2.below hb6
  have HB6 := Lib.hid (And.intro (HB5.out.1.trans (hb6.mono HB5.out.1.size)) k6)
  clear hb6 k6 HO z0 z1 z2
  have hx := new_box w6 (.cells #[.int .i64 (oneK none f), .int .i64 0, .int .i64 0] 35)
  have hoE : oneE none f = 2 := rfl
  go_upto_region 6 with fail
  generalize w6.alloc (.cells #[.int .i64 (oneK none f), .int .i64 0, .int .i64 0] 35) = w7 at hx ⊢
  have k7 := HB6.out.2.below hx
  obtain ⟨z0, z1, z2⟩ := k7.cells
  have HB7 := Lib.hid (And.intro (HB6.out.1.trans (hx.mono HB6.out.1.size)) k7)
  have HC := Lib.hid (serCheck_ok w7 most n f)
  unfold cfgV at HC
  clear hx hoE k7
  go_wp2_with fail
  refine HC.out.mono ?_
  rintro e w8 ⟨rfl, hb8⟩
  have k8 := HB7.out.2.below hb8
  obtain ⟨z0, z1, z2⟩ := k8.cells
  have HB8 := Lib.hid (And.intro (HB7.out.1.trans (hb8.mono HB7.out.1.size)) k8)
  clear hb8 k8 HC
  by_cases hf : fuelErr f = 0
  · have hf1 : ¬ f < 0 := fun h => by unfold fuelErr at hf; rw [if_pos (.inl h)] at hf; cases hf
    have hf2 : ¬ 10000 < f := fun h => by unfold fuelErr at hf; rw [if_pos (.inr h)] at hf; cases hf
    have hce : cfgErr most n f = tabErr most n := by unfold cfgErr; rw [if_pos hf]
    have HT := Lib.hid (tableNew_any w8 most n)
    rw [← hce] at HT
    clear hf hce
    go_wp2_with fail
    refine HT.out.mono ?_
    rintro e w9 ⟨hb9, -, he⟩
    obtain rfl := he H.out
    have HB9 := Lib.hid (HB8.out.1.trans (hb9.mono HB8.out.1.size))
    have H0 := H.out
    clear hb9 he HT
    go_wp2_with fail
    refine (awake15_ok w9).mono ?_
    rintro e w10 ⟨rfl, hb10⟩
    have HBX := Lib.hid (HB9.out.trans (hb10.mono HB9.out.size))
    clear hb10
    go_wp2_with fail
    go_ret
    exact ⟨rfl, HBX.out⟩
  · have hfe : fuelErr f = 10 := by
      by_cases h : f < 0 ∨ 10000 < f
      · unfold fuelErr; rw [if_pos h]
      · exact absurd (by unfold fuelErr; rw [if_neg h]) hf
    have hce : cfgErr most n f = 10 := by unfold cfgErr; rw [if_neg hf, hfe]
    have HT := Lib.hid (tableNew_any w8 4 2)
    have HF := Lib.hid (And.intro hf hfe)
    clear hf hfe
    by_cases h1 : f < 0
    · skip
      go_wp2_with fail
      refine HT.out.mono ?_
      rintro e w9 ⟨hb9, he, -⟩
      obtain ⟨T, rfl, -, -⟩ := he (by decide)
      have k9 := HB8.out.2.below hb9
      obtain ⟨z0, z1, z2⟩ := k9.cells
      have HB9 := Lib.hid (HB8.out.1.trans (hb9.mono HB8.out.1.size))
      have HO := Lib.hid (oneNil_ok w9 (some ⟨T, 0, none⟩) most n f)
      rw [show oneE (some ⟨T, 0, none⟩) f = 10 from (if_neg (by simp)).trans HF.out.2] at HO
      unfold cfgV outV at HO
      clear hb9 k9 he HT
      go_wp2_with fail
      refine HO.out.mono ?_
      rintro e w10 ⟨hb10, rfl⟩
      have HBA := Lib.hid (HB9.out.trans ((hb10.trans ((new_box w10 (.cells #[.int .i64 (oneK (some ⟨T, 0, none⟩) f), .int .i64 0, .int .i64 0] 35)).mono hb10.size)).mono HB9.out.size))
      clear hb10 HO z0 z1 z2
      go_wp2_with fail
      refine (awake15_ok _).mono ?_
      rintro e w11 ⟨rfl, hb11⟩
      have HBX := Lib.hid (HBA.out.trans (hb11.mono HBA.out.size))
      clear hb11
      go_wp2_with fail
      go_ret
      exact ⟨rfl, HBX.out⟩
    · have h2 : 10000 < f := by
        have := HF.out.1
        unfold fuelErr at this
        by_cases h : 10000 < f
        · exact h
        · exact absurd (if_neg (by omega)) this
      go_wp2_with fail
      refine HT.out.mono ?_
      rintro e w9 ⟨hb9, he, -⟩
      obtain ⟨T, rfl, -, -⟩ := he (by decide)
      have k9 := HB8.out.2.below hb9
      obtain ⟨z0, z1, z2⟩ := k9.cells
      have HB9 := Lib.hid (HB8.out.1.trans (hb9.mono HB8.out.1.size))
      have HO := Lib.hid (oneNil_ok w9 (some ⟨T, 0, none⟩) most n f)
      rw [show oneE (some ⟨T, 0, none⟩) f = 10 from (if_neg (by simp)).trans HF.out.2] at HO
      unfold cfgV outV at HO
      clear hb9 k9 he HT
      go_wp2_with fail
      refine HO.out.mono ?_
      rintro e w10 ⟨hb10, rfl⟩
      have HBA := Lib.hid (HB9.out.trans ((hb10.trans ((new_box w10 (.cells #[.int .i64 (oneK (some ⟨T, 0, none⟩) f), .int .i64 0, .int .i64 0] 35)).mono hb10.size)).mono HB9.out.size))
      clear hb10 HO z0 z1 z2
      go_wp2_with fail
      refine (awake15_ok _).mono ?_
      rintro e w11 ⟨rfl, hb11⟩
      have HBX := Lib.hid (HBA.out.trans (hb11.mono HBA.out.size))
      clear hb11
      go_wp2_with fail
      go_ret
      exact ⟨rfl, HBX.out⟩
end Go.Proofs.YtifpaagppjmbhaaGreatDoor
