/- SerialErrs, walked: where nothing is wrong. -/
import Derived.Test.YtifpaagppjmbhaaGreatDoorSerF
import Derived.Test.YtifpaagppjmbhaaGreatDoorHeld
namespace Go.Proofs.YtifpaagppjmbhaaGreatDoor
set_option maxRecDepth 100000
open Go.RowKit

set_option maxRecDepth 100000 in
theorem tableMost0_ok (w : World) (T L : Nat) (most n : Int) (h : TableE w T most n L) : Calls Tryz.prog 17 #[.pointer (some ⟨T, 0, none⟩)] w fun e w' => e = .returned (.int .i64 most) ∧ Below w.heap.size w w' := by
  obtain ⟨t0, t1, t2, t3, t4, h0, _⟩ := h
  have z1 : w.cell? ⟨T, 0, none⟩ = some (.int .i64 most) := by simp [World.cell?, h0]
  clear h0
  go_enter Tryz.func17, Tryz.ntmps17
  go_wp2_with fail
  go_ret
  exact ⟨rfl, Below.refl _ _⟩
set_option maxRecDepth 100000 in
set_option maxHeartbeats 4000000 in
theorem serrs_good (w : World) (most n f : Int) (h : cfgErr most n f = 0) : Calls Tryz.prog 3 #[cfgV most n f] w fun e w' => e = .returned (.bool true) ∧ Below w.heap.size w w' := by
  unfold cfgV
  have hb0 := new_box w (.cells #[.int .i64 most, .int .i64 n, .int .i64 f] 23)
  have k0 : CfgAt _ _ _ _ _ := heap_alloc_new w (.cells #[.int .i64 most, .int .i64 n, .int .i64 f] 23)
  go_enter Tryz.func3, Tryz.ntmps3
  go_upto_region 1 with fail
  generalize w.alloc (.cells #[.int .i64 most, .int .i64 n, .int .i64 f] 23) = w1 at hb0 k0 ⊢
  obtain ⟨C, hC⟩ : ∃ x, w.heap.size = x := ⟨_, rfl⟩
  rw [hC] at k0 ⊢
  clear hC
  obtain ⟨z0, z1, z2⟩ := k0.cells
  have H := Lib.hid h
  have HB := Lib.hid (And.intro hb0 k0)
  have HE := Lib.hid (serEmpty_ok w1 most n f)
  unfold cfgV at HE
  clear hb0 k0 h
  go_wp2_with fail
  refine HE.out.mono ?_
  rintro e w2 ⟨hb2, he, -⟩
  obtain ⟨T1, rfl, -, hE1⟩ := he H.out
  have k2 := HB.out.2.below hb2
  obtain ⟨z0, z1, z2⟩ := k2.cells
  have HB2 := Lib.hid (And.intro (HB.out.1.trans (hb2.mono HB.out.1.size)) (And.intro k2 hE1))
  clear hb2 k2 he HE hE1
  go_wp2_with fail
  refine (logNew0_ok w2).mono ?_
  rintro e w3 ⟨L, rfl, -, hL, hb3⟩
  have k3 := HB2.out.2.1.below hb3
  obtain ⟨z0, z1, z2⟩ := k3.cells
  have HB3 := Lib.hid (And.intro (HB2.out.1.trans (hb3.mono HB2.out.1.size)) (And.intro k3 (And.intro hL (HB2.out.2.2.below hb3))))
  have HF := Lib.hid (foldNil_ok w3 most n f)
  unfold cfgV at HF
  clear hb3 k3 hL
  go_wp2_with fail
  refine HF.out.mono ?_
  rintro e w4 ⟨rfl, hb4⟩
  have k4 := HB3.out.2.1.below hb4
  obtain ⟨z0, z1, z2⟩ := k4.cells
  have HB4 := Lib.hid (And.intro (HB3.out.1.trans (hb4.mono HB3.out.1.size)) (And.intro k4 (HB3.out.2.2.2.below hb4)))
  have HG := Lib.hid (fold0_ok w4 L most n f (HB3.out.2.2.1.below hb4))
  unfold cfgV at HG
  clear hb4 k4 HF
  go_wp2_with fail
  refine HG.out.mono ?_
  rintro e w5 ⟨hb5, he, -⟩
  obtain ⟨T2, rfl, hE2⟩ := he H.out
  have k5 := HB4.out.2.1.below hb5
  obtain ⟨z0, z1, z2⟩ := k5.cells
  have HB5 := Lib.hid (And.intro (HB4.out.1.trans (hb5.mono HB4.out.1.size)) (And.intro k5 (And.intro (HB4.out.2.2.below hb5) hE2)))
  have HO := Lib.hid (oneNil_ok w5 none most n f)
  unfold cfgV outV at HO
  clear hb5 k5 he HG hE2
  go_wp2_with fail
  refine HO.out.mono ?_
  rintro e w6 ⟨hb6, rfl⟩
  have k6 := HB5.out.2.1.below hb6
  have HB6 := Lib.hid (And.intro (HB5.out.1.trans (hb6.mono HB5.out.1.size)) (And.intro k6 (And.intro (HB5.out.2.2.1.below hb6) (HB5.out.2.2.2.below hb6))))
  clear hb6 k6 HO z0 z1 z2
  have hx := new_box w6 (.cells #[.int .i64 (oneK none f), .int .i64 0, .int .i64 0] 35)
  have hoE : oneE none f = 2 := rfl
  go_upto_region 6 with fail
  generalize w6.alloc (.cells #[.int .i64 (oneK none f), .int .i64 0, .int .i64 0] 35) = w7 at hx ⊢
  have k7 := HB6.out.2.1.below hx
  obtain ⟨z0, z1, z2⟩ := k7.cells
  have HB7 := Lib.hid (And.intro (HB6.out.1.trans (hx.mono HB6.out.1.size)) (And.intro k7 (And.intro (HB6.out.2.2.1.below hx) (HB6.out.2.2.2.below hx))))
  have HC := Lib.hid (serCheck_ok w7 most n f)
  unfold cfgV at HC
  rw [H.out] at HC
  clear hx hoE k7
  go_wp2_with fail
  refine HC.out.mono ?_
  rintro e w8 ⟨rfl, hb8⟩
  have k8 := HB7.out.2.1.below hb8
  obtain ⟨z0, z1, z2⟩ := k8.cells
  have HB8 := Lib.hid (And.intro (HB7.out.1.trans (hb8.mono HB7.out.1.size)) (And.intro k8 (And.intro (HB7.out.2.2.1.below hb8) (HB7.out.2.2.2.below hb8))))
  clear hb8 k8 HC
  have hf : fuelErr f = 0 := by
    by_cases hf : fuelErr f = 0
    · exact hf
    · have := H.out
      unfold cfgErr at this
      rw [if_neg hf] at this
      exact this
  have hf1 : ¬ f < 0 := fun h => by unfold fuelErr at hf; rw [if_pos (.inl h)] at hf; cases hf
  have hf2 : ¬ 10000 < f := fun h => by unfold fuelErr at hf; rw [if_pos (.inr h)] at hf; cases hf
  have hce : tabErr most n = 0 := by have := H.out; unfold cfgErr at this; rw [if_pos hf] at this; exact this
  have HT := Lib.hid (tableNew_any w8 most n)
  rw [hce] at HT
  clear hf hce
  go_wp2_with fail
  refine HT.out.mono ?_
  rintro e w9 ⟨hb9, he, -⟩
  obtain ⟨T3, rfl, -, hE3⟩ := he rfl
  have k9 := HB8.out.2.1.below hb9
  obtain ⟨z0, -, -⟩ := k9.cells
  have HX := Lib.hid (And.intro (HB8.out.2.2.1.below hb9) (And.intro (HB8.out.2.2.2.below hb9) (And.intro hE3 (HB8.out.1.trans (hb9.mono HB8.out.1.size)))))
  clear hb9 k9 he HT hE3 z1 z2 HB HB2 HB3 HB4 HB5 HB6 HB7 HB8
  go_wp2_with fail
  refine wp_region_held_drew (S := (fun w' => Below w9.heap.size w9 w' ∧ w'.cell? ⟨C, 0, none⟩ = some (.int .i64 most))) (by kernel_rfl) ⟨(Below.refl _ _).drew, z0⟩ (fun hHeld => ?_)
  refine takeS (i := 0) (v := ?_) rfl (by kernel_rfl) (by kernel_rfl) (by kernel_rfl) (fun _ _ _ h => h) (by rfl) (fun wS hSw => ?_) hHeld ?_
  rotate_left
  · obtain ⟨s0, s1⟩ := hSw; go_simp; try with_reducible rfl
  try simp only [Act.put, List.setIfInBounds_toArray, List.set_cons_zero, List.set_cons_succ]
  refine takeS (i := 1) (v := ?_) rfl (by kernel_rfl) (by kernel_rfl) (by kernel_rfl) (fun _ _ _ h => h) (by rfl) (fun wS hSw => ?_) hHeld ?_
  rotate_left
  · obtain ⟨s0, s1⟩ := hSw; go_simp; try with_reducible rfl
  try simp only [Act.put, List.setIfInBounds_toArray, List.set_cons_zero, List.set_cons_succ]
  refine takeS (i := 2) (v := ?_) rfl (by kernel_rfl) (by kernel_rfl) (by kernel_rfl) (fun _ _ _ h => h) (by rfl) (fun wS hSw => ?_) hHeld ?_
  rotate_left
  · obtain ⟨s0, s1⟩ := hSw; go_simp; try with_reducible rfl
  try simp only [Act.put, List.setIfInBounds_toArray, List.set_cons_zero, List.set_cons_succ]
  refine takeS (i := 3) (v := ?_) rfl (by kernel_rfl) (by kernel_rfl) (by kernel_rfl) (fun _ _ _ h => h) (by rfl) (fun wS hSw => ?_) hHeld ?_
  rotate_left
  · obtain ⟨s0, s1⟩ := hSw; go_simp; try with_reducible rfl
  try simp only [Act.put, List.setIfInBounds_toArray, List.set_cons_zero, List.set_cons_succ]
  refine takeS (i := 4) (v := ?_) rfl (by kernel_rfl) (by kernel_rfl) (by kernel_rfl) (fun _ _ _ h => h) (by rfl) (fun wS hSw => ?_) hHeld ?_
  rotate_left
  · obtain ⟨s0, s1⟩ := hSw; go_simp; try with_reducible rfl
  try simp only [Act.put, List.setIfInBounds_toArray, List.set_cons_zero, List.set_cons_succ]
  refine wpAnyH_ready (rs := [5]) (by kernel_rfl) (by simp) (consS (i := 5) rfl (fun K hK => ?_) AllReadyH.nil)
  go_simp
  refine (tableSame0_ok _ T1 T3 _ _ _ _ _ _ (HX.out.1.below hHeld.1) (HX.out.2.2.1.below hHeld.1)).mono ?_
  rintro e wn ⟨rfl, hbn⟩
  try go_simp
  refine hK.out _ _ (heldS1 hHeld hbn) (fun hHeld2 => ?_)
  clear hK K hHeld hbn
  have hHeld := hHeld2
  clear hHeld2
  try simp only [Act.put, List.setIfInBounds_toArray, List.set_cons_zero, List.set_cons_succ]
  refine takeS (i := 6) (v := ?_) rfl (by kernel_rfl) (by kernel_rfl) (by kernel_rfl) (fun _ _ _ h => h) (by rfl) (fun wS hSw => ?_) hHeld ?_
  rotate_left
  · obtain ⟨s0, s1⟩ := hSw; go_simp; try with_reducible rfl
  try simp only [Act.put, List.setIfInBounds_toArray, List.set_cons_zero, List.set_cons_succ]
  refine takeS (i := 7) (v := ?_) rfl (by kernel_rfl) (by kernel_rfl) (by kernel_rfl) (fun _ _ _ h => h) (by rfl) (fun wS hSw => ?_) hHeld ?_
  rotate_left
  · obtain ⟨s0, s1⟩ := hSw; go_simp; try with_reducible rfl
  try simp only [Act.put, List.setIfInBounds_toArray, List.set_cons_zero, List.set_cons_succ]
  refine takeS (i := 8) (v := ?_) rfl (by kernel_rfl) (by kernel_rfl) (by kernel_rfl) (fun _ _ _ h => h) (by rfl) (fun wS hSw => ?_) hHeld ?_
  rotate_left
  · obtain ⟨s0, s1⟩ := hSw; go_simp; try with_reducible rfl
  try simp only [Act.put, List.setIfInBounds_toArray, List.set_cons_zero, List.set_cons_succ]
  refine takeS (i := 9) (v := ?_) rfl (by kernel_rfl) (by kernel_rfl) (by kernel_rfl) (fun _ _ _ h => h) (by rfl) (fun wS hSw => ?_) hHeld ?_
  rotate_left
  · obtain ⟨s0, s1⟩ := hSw; go_simp; try with_reducible rfl
  try simp only [Act.put, List.setIfInBounds_toArray, List.set_cons_zero, List.set_cons_succ]
  refine wpAnyH_ready (rs := [10]) (by kernel_rfl) (by simp) (consS (i := 10) rfl (fun K hK => ?_) AllReadyH.nil)
  go_simp
  refine (tableSame0_ok _ T2 T3 _ _ _ _ _ _ (HX.out.2.1.below hHeld.1) (HX.out.2.2.1.below hHeld.1)).mono ?_
  rintro e wn ⟨rfl, hbn⟩
  try go_simp
  refine hK.out _ _ (heldS1 hHeld hbn) (fun hHeld2 => ?_)
  clear hK K hHeld hbn
  have hHeld := hHeld2
  clear hHeld2
  try simp only [Act.put, List.setIfInBounds_toArray, List.set_cons_zero, List.set_cons_succ]
  refine takeS (i := 11) (v := ?_) rfl (by kernel_rfl) (by kernel_rfl) (by kernel_rfl) (fun _ _ _ h => h) (by rfl) (fun wS hSw => ?_) hHeld ?_
  rotate_left
  · obtain ⟨s0, s1⟩ := hSw; go_simp; try with_reducible rfl
  try simp only [Act.put, List.setIfInBounds_toArray, List.set_cons_zero, List.set_cons_succ]
  refine takeS (i := 12) (v := ?_) rfl (by kernel_rfl) (by kernel_rfl) (by kernel_rfl) (fun _ _ _ h => h) (by rfl) (fun wS hSw => ?_) hHeld ?_
  rotate_left
  · obtain ⟨s0, s1⟩ := hSw; go_simp; try with_reducible rfl
  try simp only [Act.put, List.setIfInBounds_toArray, List.set_cons_zero, List.set_cons_succ]
  refine takeS (i := 13) (v := ?_) rfl (by kernel_rfl) (by kernel_rfl) (by kernel_rfl) (fun _ _ _ h => h) (by rfl) (fun wS hSw => ?_) hHeld ?_
  rotate_left
  · obtain ⟨s0, s1⟩ := hSw; go_simp; try with_reducible rfl
  try simp only [Act.put, List.setIfInBounds_toArray, List.set_cons_zero, List.set_cons_succ]
  refine takeS (i := 15) (v := ?_) rfl (by kernel_rfl) (by kernel_rfl) (by kernel_rfl) (fun _ _ _ h => h) (by rfl) (fun wS hSw => ?_) hHeld ?_
  rotate_left
  · obtain ⟨s0, s1⟩ := hSw; go_simp; try with_reducible rfl
  try simp only [Act.put, List.setIfInBounds_toArray, List.set_cons_zero, List.set_cons_succ]
  refine takeS (i := 16) (v := ?_) rfl (by kernel_rfl) (by kernel_rfl) (by kernel_rfl) (fun _ _ _ h => h) (by rfl) (fun wS hSw => ?_) hHeld ?_
  rotate_left
  · obtain ⟨s0, s1⟩ := hSw; go_simp; try with_reducible rfl
  try simp only [Act.put, List.setIfInBounds_toArray, List.set_cons_zero, List.set_cons_succ]
  refine wpAnyH_ready (rs := [14]) (by kernel_rfl) (by simp) (consS (i := 14) rfl (fun K hK => ?_) AllReadyH.nil)
  go_simp
  refine (tableMost0_ok _ T1 _ _ _ (HX.out.1.below hHeld.1)).mono ?_
  rintro e wn ⟨rfl, hbn⟩
  try go_simp
  refine hK.out _ _ (heldS1 hHeld hbn) (fun hHeld2 => ?_)
  clear hK K hHeld hbn
  have hHeld := hHeld2
  clear hHeld2
  try simp only [Act.put, List.setIfInBounds_toArray, List.set_cons_zero, List.set_cons_succ]
  refine takeS (i := 17) (v := ?_) rfl (by kernel_rfl) (by kernel_rfl) (by kernel_rfl) (fun _ _ _ h => h) (by rfl) (fun wS hSw => ?_) hHeld ?_
  rotate_left
  · obtain ⟨s0, s1⟩ := hSw; go_simp; try with_reducible rfl
  try simp only [Act.put, List.setIfInBounds_toArray, List.set_cons_zero, List.set_cons_succ]
  refine takeS (i := 18) (v := ?_) rfl (by kernel_rfl) (by kernel_rfl) (by kernel_rfl) (fun _ _ _ h => h) (by rfl) (fun wS hSw => ?_) hHeld ?_
  rotate_left
  · obtain ⟨s0, s1⟩ := hSw; go_simp; try with_reducible rfl
  try simp only [Act.put, List.setIfInBounds_toArray, List.set_cons_zero, List.set_cons_succ]
  refine takeS (i := 19) (v := ?_) rfl (by kernel_rfl) (by kernel_rfl) (by kernel_rfl) (fun _ _ _ h => h) (by rfl) (fun wS hSw => ?_) hHeld ?_
  rotate_left
  · obtain ⟨s0, s1⟩ := hSw; go_simp; try with_reducible rfl
  try simp only [Act.put, List.setIfInBounds_toArray, List.set_cons_zero, List.set_cons_succ]
  refine wpAnyH_ready (rs := [20]) (by kernel_rfl) (by simp) (consS (i := 20) rfl (fun K hK => ?_) AllReadyH.nil)
  go_simp
  refine (awake15_ok _).mono ?_
  rintro e wn ⟨rfl, hbn⟩
  try go_simp
  refine hK.out _ _ (heldS1 hHeld hbn) (fun hHeld2 => ?_)
  clear hK K hHeld hbn
  have hHeld := hHeld2
  clear hHeld2
  try simp only [Act.put, List.setIfInBounds_toArray, List.set_cons_zero, List.set_cons_succ]
  refine takeS (i := 21) (v := ?_) rfl (by kernel_rfl) (by kernel_rfl) (by kernel_rfl) (fun _ _ _ h => h) (by rfl) (fun wS hSw => ?_) hHeld ?_
  rotate_left
  · obtain ⟨s0, s1⟩ := hSw; go_simp; try with_reducible rfl
  try simp only [Act.put, List.setIfInBounds_toArray, List.set_cons_zero, List.set_cons_succ]
  refine takeS (i := 22) (v := ?_) rfl (by kernel_rfl) (by kernel_rfl) (by kernel_rfl) (fun _ _ _ h => h) (by rfl) (fun wS hSw => ?_) hHeld ?_
  rotate_left
  · obtain ⟨s0, s1⟩ := hSw; go_simp; try with_reducible rfl
  try simp only [Act.put, List.setIfInBounds_toArray, List.set_cons_zero, List.set_cons_succ]
  refine wpAnyH_done (by kernel_rfl) ?_ _
  have HZ := Lib.hid (HX.out.2.2.2.trans (hHeld.1.mono HX.out.2.2.2.size))
  clear hHeld
  go_wp2_with fail
  go_ret
  exact ⟨rfl, HZ.out⟩
theorem serrs_law (w : World) (most n f : Int) : Calls Tryz.prog 3 #[cfgV most n f] w fun e w' => e = .returned (.bool true) ∧ Below w.heap.size w w' := by
  by_cases h : cfgErr most n f = 0
  · exact serrs_good w most n f h
  · exact serrs_bad w most n f h
end Go.Proofs.YtifpaagppjmbhaaGreatDoor
