/- ExecErrs, walked. -/
import Derived.Test.YtiacbhnkcllpjaaGreatDoorExecH
namespace Go.Proofs.YtiacbhnkcllpjaaGreatDoor
set_option maxRecDepth 100000
open Go.RowKit

set_option maxRecDepth 100000 in
theorem nilActs_ok (w : World) : Calls Tryz.prog 19 #[.pointer none] w fun e w' => e = .returned (.slice none 0 0) ∧ w' = w := by
  go_enter Tryz.func19, Tryz.ntmps19
  go_wp2_with fail
  go_ret
  exact ⟨rfl, rfl⟩
set_option maxRecDepth 100000 in
theorem nilOutcomes_ok (w : World) : Calls Tryz.prog 20 #[.pointer none] w fun e w' => e = .returned (.slice none 0 0) ∧ w' = w := by
  go_enter Tryz.func20, Tryz.ntmps20
  go_wp2_with fail
  go_ret
  exact ⟨rfl, rfl⟩
set_option maxRecDepth 100000 in
theorem nilAdmitted_ok (w : World) : Calls Tryz.prog 21 #[.pointer none] w fun e w' => e = .returned (.int .i64 0) ∧ w' = w := by
  go_enter Tryz.func21, Tryz.ntmps21
  go_wp2_with fail
  go_ret
  exact ⟨rfl, rfl⟩
set_option maxRecDepth 100000 in
theorem nilDone_ok (w : World) : Calls Tryz.prog 22 #[.pointer none] w fun e w' => e = .returned (.int .i64 0) ∧ w' = w := by
  go_enter Tryz.func22, Tryz.ntmps22
  go_wp2_with fail
  go_ret
  exact ⟨rfl, rfl⟩
set_option maxRecDepth 100000 in
theorem nilTable_ok (w : World) : Calls Tryz.prog 23 #[.pointer none] w fun e w' => e = .returned (.pointer none) ∧ w' = w := by
  go_enter Tryz.func23, Tryz.ntmps23
  go_wp2_with fail
  go_ret
  exact ⟨rfl, rfl⟩
set_option maxRecDepth 100000 in
theorem nilIdle_ok (w : World) : Calls Tryz.prog 18 #[.pointer none] w fun e w' => e = .returned (.bool true) ∧ w' = w := by
  go_enter Tryz.func18, Tryz.ntmps18
  go_wp2_with fail
  refine (nilActs_ok w).mono ?_
  rintro e w1 ⟨rfl, rfl⟩
  go_wp2_with fail
  go_ret
  exact ⟨rfl, rfl⟩
set_option maxRecDepth 100000 in
theorem nilDrive_ok (w : World) : Calls Tryz.prog 16 #[.pointer none, .slice none 0 0] w fun e w' => e = .returned (.tuple #[.int .i64 0, .int .i64 2]) ∧ w' = w := by
  go_enter Tryz.func16, Tryz.ntmps16
  go_wp2_with fail
  go_step3
  go_wp2_with fail
  rw [Exit.noGoto_ret]
  go_ret2
  exact ⟨rfl, rfl⟩
set_option maxRecDepth 100000 in
theorem nilStep_ok (w : World) (k : Int) : Calls Tryz.prog 15 #[.pointer none, .int .i64 k] w fun e w' => e = .returned (.tuple #[.agg #[.int .i64 0, .int .i64 0, .int .i64 0], .int .i64 2]) ∧ Below w.heap.size w w' := by
  have hb := new_box w (.cells #[.int .i64 0, .int .i64 0, .int .i64 0] 37)
  have k0 := heap_alloc_new w (.cells #[.int .i64 0, .int .i64 0, .int .i64 0] 37)
  go_enter Tryz.func15, Tryz.ntmps15
  go_upto_region 1 with fail
  generalize w.alloc (.cells #[.int .i64 0, .int .i64 0, .int .i64 0] 37) = w1 at hb k0 ⊢
  obtain ⟨C, hC⟩ : ∃ x, w.heap.size = x := ⟨_, rfl⟩
  rw [hC] at k0 ⊢
  have z0 : w1.cell? ⟨C, 0, none⟩ = some (.int .i64 0) := by simp [World.cell?, k0]
  have z1 : w1.cell? ⟨C, 1, none⟩ = some (.int .i64 0) := by simp [World.cell?, k0]
  have z2 : w1.cell? ⟨C, 2, none⟩ = some (.int .i64 0) := by simp [World.cell?, k0]
  have y0 : w1.frozen? ⟨C, 0, none⟩ = false := by simp [World.frozen?, k0]
  have y1 : w1.frozen? ⟨C, 1, none⟩ = false := by simp [World.frozen?, k0]
  have y2 : w1.frozen? ⟨C, 2, none⟩ = false := by simp [World.frozen?, k0]
  have HB := Lib.hid (And.intro hb (And.intro k0 hC))
  clear hb k0 hC
  go_wp2_with fail
  have hp := put3r (v0 := .int .i64 0) (v1 := .int .i64 0) (v2 := .int .i64 0) HB.out.2.1
  exact bodyPost_ret (results_cell_row2 rfl _ _ _ _ _ _ _ rfl hp Tryz.underlying37 rfl (by kernel_rfl)) rfl ⟨rfl, ((HB.out.1.setCell (p := ⟨C, 0, none⟩) (Nat.le_of_eq HB.out.2.2) _).setCell (p := ⟨C, 1, none⟩) (Nat.le_of_eq HB.out.2.2) _).setCell (p := ⟨C, 2, none⟩) (Nat.le_of_eq HB.out.2.2) _⟩
set_option maxRecDepth 100000 in
theorem nilOutcome_ok (w : World) (k : Int) : Calls Tryz.prog 17 #[.pointer none, .int .i64 k] w fun e w' => e = .returned (.tuple #[.agg #[.int .i64 0, .int .i64 0, .int .i64 0], .bool false]) ∧ Below w.heap.size w w' := by
  have hb := new_box w (.cells #[.int .i64 0, .int .i64 0, .int .i64 0] 43)
  have k0 := heap_alloc_new w (.cells #[.int .i64 0, .int .i64 0, .int .i64 0] 43)
  go_enter Tryz.func17, Tryz.ntmps17
  go_upto_region 1 with fail
  generalize w.alloc (.cells #[.int .i64 0, .int .i64 0, .int .i64 0] 43) = w1 at hb k0 ⊢
  obtain ⟨C, hC⟩ : ∃ x, w.heap.size = x := ⟨_, rfl⟩
  rw [hC] at k0 ⊢
  have z0 : w1.cell? ⟨C, 0, none⟩ = some (.int .i64 0) := by simp [World.cell?, k0]
  have z1 : w1.cell? ⟨C, 1, none⟩ = some (.int .i64 0) := by simp [World.cell?, k0]
  have z2 : w1.cell? ⟨C, 2, none⟩ = some (.int .i64 0) := by simp [World.cell?, k0]
  have y0 : w1.frozen? ⟨C, 0, none⟩ = false := by simp [World.frozen?, k0]
  have y1 : w1.frozen? ⟨C, 1, none⟩ = false := by simp [World.frozen?, k0]
  have y2 : w1.frozen? ⟨C, 2, none⟩ = false := by simp [World.frozen?, k0]
  have HB := Lib.hid (And.intro hb (And.intro k0 hC))
  clear hb k0 hC
  go_wp2_with fail
  have hp := put3r (v0 := .int .i64 0) (v1 := .int .i64 0) (v2 := .int .i64 0) HB.out.2.1
  exact bodyPost_ret (results_cell_row2 rfl _ _ _ _ _ _ _ rfl hp Tryz.underlying43 rfl (by kernel_rfl)) rfl ⟨rfl, ((HB.out.1.setCell (p := ⟨C, 0, none⟩) (Nat.le_of_eq HB.out.2.2) _).setCell (p := ⟨C, 1, none⟩) (Nat.le_of_eq HB.out.2.2) _).setCell (p := ⟨C, 2, none⟩) (Nat.le_of_eq HB.out.2.2) _⟩
theorem cfg3_cells {w : World} {C : Nat} {a b c : Value} {t : TypeId} (h : w.heap[C]? = some (.cells #[a, b, c] t (0, 0))) : w.cell? ⟨C, 0, none⟩ = some a ∧ w.cell? ⟨C, 1, none⟩ = some b ∧ w.cell? ⟨C, 2, none⟩ = some c := out3 h
set_option maxRecDepth 100000 in
set_option maxHeartbeats 8000000 in
theorem eerrs_law (w : World) (most n f k : Int) : Calls Tryz.prog 3 #[cfgV most n f, .int .i64 k] w fun e w' => e = .returned (.bool true) ∧ Below w.heap.size w w' := by
  unfold cfgV
  have hb0 := new_box w (.cells #[.int .i64 most, .int .i64 n, .int .i64 f] 23)
  have k0 := heap_alloc_new w (.cells #[.int .i64 most, .int .i64 n, .int .i64 f] 23)
  go_enter Tryz.func3, Tryz.ntmps3
  go_upto_region 1 with fail
  generalize w.alloc (.cells #[.int .i64 most, .int .i64 n, .int .i64 f] 23) = w1 at hb0 k0 ⊢
  obtain ⟨C, hC⟩ : ∃ x, w.heap.size = x := ⟨_, rfl⟩
  rw [hC] at k0 ⊢
  clear hC
  have HB := Lib.hid (And.intro hb0 k0)
  clear hb0 k0
  by_cases h3 : 300 < k
  · go_wp2_with fail
    refine (awake17_ok w1).mono ?_
    rintro e wz ⟨rfl, hbz⟩
    have HZ := Lib.hid (HB.out.1.trans (hbz.mono HB.out.1.size))
    clear hbz
    go_wp2_with fail
    go_ret
    exact ⟨rfl, HZ.out⟩
  go_wp2_with fail
  refine (logNew0_ok w1).mono ?_
  rintro e w2 ⟨L, rfl, -, hL, hb2⟩
  have HB2 := Lib.hid (And.intro (HB.out.1.trans (hb2.mono HB.out.1.size)) ((Only.of_below hb2 (fun _ => False)).heap HB.out.2 (fun h => h)))
  obtain ⟨z0, z1, z2⟩ := cfg3_cells HB2.out.2
  have HE := Lib.hid (exNew_ok w2 L most n f k hL)
  unfold cfgV at HE
  clear hb2 hL
  go_wp2_with fail
  refine HE.out.mono ?_
  rintro e w3 ⟨hb3, he, he'⟩
  have HB3 := Lib.hid (And.intro (HB2.out.1.trans (hb3.mono HB2.out.1.size)) ((Only.of_below hb3 (fun _ => False)).heap HB2.out.2 (fun h => h)))
  clear z0 z1 z2 HE hb3
  obtain ⟨z0, z1, z2⟩ := cfg3_cells HB3.out.2
  have HN := Lib.hid (exNewNil_ok w3 most n f k)
  unfold cfgV at HN
  obtain ⟨ev, hev, hex⟩ : ∃ ev : Value × Int, e = .returned (.tuple #[ev.1, .int .i64 ev.2]) ∧ ((ev.2 = 0 ∧ exErr most n f k = 0 ∧ ∃ R, ev.1 = .pointer (some ⟨R, 0, none⟩)) ∨ (ev.2 ≠ 0 ∧ exErr most n f k = ev.2 ∧ ev.1 = .pointer none)) := by
    by_cases h0 : exErr most n f k = 0
    · obtain ⟨R, h, _⟩ := he h0
      exact ⟨(.pointer (some ⟨R, 0, none⟩), 0), h, .inl ⟨rfl, h0, R, rfl⟩⟩
    · exact ⟨(.pointer none, exErr most n f k), he' h0, .inr ⟨h0, rfl, rfl⟩⟩
  obtain ⟨pv, er⟩ := ev
  subst hev
  have HEX := Lib.hid hex
  clear he he' hex
  go_wp2_with fail
  refine HN.out.mono ?_
  rintro e w4 ⟨rfl, hb4⟩
  have HB4 := Lib.hid (And.intro (HB3.out.1.trans (hb4.mono HB3.out.1.size)) ((Only.of_below hb4 (fun _ => False)).heap HB3.out.2 (fun h => h)))
  clear z0 z1 z2 HN hb4
  obtain ⟨z0, z1, z2⟩ := cfg3_cells HB4.out.2
  have HC := Lib.hid (serCheck_ok w4 most n f)
  unfold cfgV at HC
  go_wp2_with fail
  refine HC.out.mono ?_
  rintro e w5 ⟨rfl, hb5⟩
  have HB5 := Lib.hid (HB4.out.1.trans (hb5.mono HB4.out.1.size))
  clear z0 z1 z2 HC hb5
  by_cases c0 : cfgErr most n f = 0
  · have HX := Lib.hid (show exErr most n f k = wkErr k by unfold exErr; rw [if_pos c0])
    rw [c0]
    clear c0
    go_wp2_with fail
    refine (schNew_ok w5 k).mono ?_
    rintro e w6 ⟨hb6, hs, hs'⟩
    have HB6 := Lib.hid (HB5.out.trans (hb6.mono HB5.out.size))
    clear hb6
    by_cases c1 : wkErr k = 0
    · obtain ⟨B, nb, rfl, -⟩ := hs c1
      rcases HEX.out with ⟨h1, h2, R, h3'⟩ | ⟨h1, h2, h3'⟩
      · obtain rfl : pv = _ := h3'
        obtain rfl : er = 0 := h1
        clear hs hs' c1
        go_wp2_with fail
        refine (nilStep_ok _ k).mono ?_
        rintro e wa ⟨rfl, hba⟩
        have HBA := Lib.hid ((HB6.out).trans ((hba.trans ((new_box wa (.cells #[.int .i64 0, .int .i64 0, .int .i64 0] 37)).mono hba.size)).mono (HB6.out).size))
        clear hba
        go_wp2_with fail
        refine (nilDrive_ok _).mono ?_
        rintro e wb ⟨rfl, rfl⟩
        go_wp2_with fail
        refine (nilOutcome_ok _ 0).mono ?_
        rintro e wb ⟨rfl, hbb⟩
        have HBB := Lib.hid (HBA.out.trans ((hbb.trans ((new_box wb (.cells #[.int .i64 0, .int .i64 0, .int .i64 0] 43)).mono hbb.size)).mono HBA.out.size))
        clear hbb
        go_wp2_with fail
        refine (nilIdle_ok _).mono ?_
        rintro e wc ⟨rfl, rfl⟩
        go_wp2_with fail
        refine (nilActs_ok _).mono ?_
        rintro e wc ⟨rfl, rfl⟩
        go_wp2_with fail
        refine (nilOutcomes_ok _).mono ?_
        rintro e wc ⟨rfl, rfl⟩
        go_wp2_with fail
        refine (nilAdmitted_ok _).mono ?_
        rintro e wc ⟨rfl, rfl⟩
        go_wp2_with fail
        refine (nilDone_ok _).mono ?_
        rintro e wc ⟨rfl, rfl⟩
        go_wp2_with fail
        refine (nilTable_ok _).mono ?_
        rintro e wc ⟨rfl, rfl⟩
        go_wp2_with fail
        refine (awake17_ok _).mono ?_
        rintro e wz ⟨rfl, hbz⟩
        have HZ := Lib.hid (HBB.out.trans (hbz.mono HBB.out.size))
        clear hbz
        go_wp2_with fail
        go_ret
        exact ⟨rfl, HZ.out⟩
      · exact absurd (h2.symm.trans (HX.out.trans c1)) h1
    · obtain rfl := hs' c1
      rcases HEX.out with ⟨h1, h2, R, h3'⟩ | ⟨h1, h2, h3'⟩
      · exact absurd (HX.out.symm.trans h2) c1
      · obtain rfl : pv = _ := h3'
        obtain rfl : wkErr k = er := HX.out.symm.trans h2
        have hq1 : (wkErr k != 0) = true := by simpa using c1
        have hq2 : (wkErr k == 0) = false := by simpa using c1
        clear hs hs' h1 h2
        go_wp2_with fail
        refine (nilStep_ok _ k).mono ?_
        rintro e wa ⟨rfl, hba⟩
        have HBA := Lib.hid ((HB6.out).trans ((hba.trans ((new_box wa (.cells #[.int .i64 0, .int .i64 0, .int .i64 0] 37)).mono hba.size)).mono (HB6.out).size))
        clear hba
        go_wp2_with fail
        refine (nilDrive_ok _).mono ?_
        rintro e wb ⟨rfl, rfl⟩
        go_wp2_with fail
        refine (nilOutcome_ok _ 0).mono ?_
        rintro e wb ⟨rfl, hbb⟩
        have HBB := Lib.hid (HBA.out.trans ((hbb.trans ((new_box wb (.cells #[.int .i64 0, .int .i64 0, .int .i64 0] 43)).mono hbb.size)).mono HBA.out.size))
        clear hbb
        go_wp2_with fail
        refine (nilIdle_ok _).mono ?_
        rintro e wc ⟨rfl, rfl⟩
        go_wp2_with fail
        refine (nilActs_ok _).mono ?_
        rintro e wc ⟨rfl, rfl⟩
        go_wp2_with fail
        refine (nilOutcomes_ok _).mono ?_
        rintro e wc ⟨rfl, rfl⟩
        go_wp2_with fail
        refine (nilAdmitted_ok _).mono ?_
        rintro e wc ⟨rfl, rfl⟩
        go_wp2_with fail
        refine (nilDone_ok _).mono ?_
        rintro e wc ⟨rfl, rfl⟩
        go_wp2_with fail
        refine (nilTable_ok _).mono ?_
        rintro e wc ⟨rfl, rfl⟩
        go_wp2_with fail
        refine (awake17_ok _).mono ?_
        rintro e wz ⟨rfl, hbz⟩
        have HZ := Lib.hid (HBB.out.trans (hbz.mono HBB.out.size))
        clear hbz
        go_wp2_with fail
        go_ret
        exact ⟨rfl, HZ.out⟩
  · have hx : exErr most n f k = cfgErr most n f := by unfold exErr; rw [if_neg c0]
    rcases HEX.out with ⟨h1, h2, R, h3'⟩ | ⟨h1, h2, h3'⟩
    · exact absurd (hx.symm.trans h2) c0
    · obtain rfl : pv = _ := h3'
      obtain rfl : cfgErr most n f = er := hx.symm.trans h2
      have hq1 : (cfgErr most n f != 0) = true := by simpa using c0
      have hq2 : (cfgErr most n f == 0) = false := by simpa using c0
      clear hx h1 h2
      go_wp2_with fail
      refine (nilStep_ok _ k).mono ?_
      rintro e wa ⟨rfl, hba⟩
      have HBA := Lib.hid ((HB5.out).trans ((hba.trans ((new_box wa (.cells #[.int .i64 0, .int .i64 0, .int .i64 0] 37)).mono hba.size)).mono (HB5.out).size))
      clear hba
      go_wp2_with fail
      refine (nilDrive_ok _).mono ?_
      rintro e wb ⟨rfl, rfl⟩
      go_wp2_with fail
      refine (nilOutcome_ok _ 0).mono ?_
      rintro e wb ⟨rfl, hbb⟩
      have HBB := Lib.hid (HBA.out.trans ((hbb.trans ((new_box wb (.cells #[.int .i64 0, .int .i64 0, .int .i64 0] 43)).mono hbb.size)).mono HBA.out.size))
      clear hbb
      go_wp2_with fail
      refine (nilIdle_ok _).mono ?_
      rintro e wc ⟨rfl, rfl⟩
      go_wp2_with fail
      refine (nilActs_ok _).mono ?_
      rintro e wc ⟨rfl, rfl⟩
      go_wp2_with fail
      refine (nilOutcomes_ok _).mono ?_
      rintro e wc ⟨rfl, rfl⟩
      go_wp2_with fail
      refine (nilAdmitted_ok _).mono ?_
      rintro e wc ⟨rfl, rfl⟩
      go_wp2_with fail
      refine (nilDone_ok _).mono ?_
      rintro e wc ⟨rfl, rfl⟩
      go_wp2_with fail
      refine (nilTable_ok _).mono ?_
      rintro e wc ⟨rfl, rfl⟩
      go_wp2_with fail
      refine (awake17_ok _).mono ?_
      rintro e wz ⟨rfl, hbz⟩
      have HZ := Lib.hid (HBB.out.trans (hbz.mono HBB.out.size))
      clear hbz
      go_wp2_with fail
      go_ret
      exact ⟨rfl, HZ.out⟩
end Go.Proofs.YtiacbhnkcllpjaaGreatDoor
