/- exec over a log without pieces: New, Acts, Idle, Step, Drive, Admitted, Outcomes. -/
import Derived.Test.YtiacbhnkcllpjaaGreatDoorSchC
import Derived.Test.YtiacbhnkcllpjaaGreatDoorLkE
import Derived.Test.YtiacbhnkcllpjaaGreatDoorSerD
namespace Go.Proofs.YtiacbhnkcllpjaaGreatDoor
set_option maxRecDepth 100000
open Go.RowKit

theorem heldB1 {wk W W' : World} {R : Nat} {o : Obj} (h : Below wk.heap.size wk W ∧ W.heap[R]? = some o) (hb : Below W.heap.size W W') : Below wk.heap.size wk W' ∧ W'.heap[R]? = some o :=
  ⟨h.1.trans (hb.mono h.1.size), (Only.of_below hb (fun _ => False)).heap h.2 (fun h => h)⟩
theorem alloc_at {W : World} {o : Obj} {i : Nat} (h : i = W.heap.size) : (W.alloc o).heap[i]? = some o := by rw [h]; exact heap_alloc_new _ _
theorem cfgO_cell {w : World} {C : Nat} {a b c : Value} {t : TypeId} (h : w.heap[C]? = some (.cells #[a, b, c] t (0, 0))) : w.cell? ⟨C, 2, none⟩ = some c := by simp [World.cell?, h]
/-- The cells of a replica that has admitted nothing. -/
def repO (L : Nat) (f : Int) (T K B m1 m2 : Nat) : Obj := .cells #[.pointer (some ⟨L, 0, none⟩), .int .i64 f, .pointer (some ⟨T, 0, none⟩), .pointer (some ⟨K, 0, none⟩), .pointer (some ⟨B, 0, none⟩), .map (some m1), .map (some m2), .int .i64 0] 138 (0, 0)
theorem repO_cells {w : World} {R L : Nat} {f : Int} {T K B m1 m2 : Nat} (h : w.heap[R]? = some (repO L f T K B m1 m2)) :
    w.cell? ⟨R, 0, none⟩ = some (.pointer (some ⟨L, 0, none⟩)) ∧ w.cell? ⟨R, 2, none⟩ = some (.pointer (some ⟨T, 0, none⟩)) ∧ w.cell? ⟨R, 3, none⟩ = some (.pointer (some ⟨K, 0, none⟩)) ∧ w.cell? ⟨R, 4, none⟩ = some (.pointer (some ⟨B, 0, none⟩)) ∧
    w.cell? ⟨R, 6, none⟩ = some (.map (some m2)) ∧ w.cell? ⟨R, 7, none⟩ = some (.int .i64 0) := by
  unfold repO at h
  refine ⟨?_, ?_, ?_, ?_, ?_, ?_⟩ <;> simp [World.cell?, h]
/-- A replica of a log without pieces. -/
def RepE (w : World) (R : Nat) : Prop := ∃ L f T K B m1 m2 n most nn, w.heap[R]? = some (repO L f T K B m1 m2) ∧ LogE w L ∧ TableE w T most nn 0 ∧ LkE w K ∧ n ≤ 16 ∧ BoardE w B n
theorem RepE.below {w w' : World} {R : Nat} (h : RepE w R) (hb : Below w.heap.size w w') : RepE w' R := by
  obtain ⟨L, f, T, K, B, m1, m2, n, most, nn, h0, h1, h2, h3, h4, h5⟩ := h
  exact ⟨L, f, T, K, B, m1, m2, n, most, nn, (Only.of_below hb (fun _ => False)).heap h0 (fun h => h), h1.below hb, h2.below hb, h3.below hb, h4, h5.below hb⟩
/-- What is wrong with a replica's configuration. -/
def exErr (most n f k : Int) : Int := if cfgErr most n f = 0 then wkErr k else cfgErr most n f
def ExNew (w : World) (er : Int) (x : Ending) (w' : World) : Prop := Below w.heap.size w w' ∧ (er = 0 → ∃ R, x = .returned (.tuple #[.pointer (some ⟨R, 0, none⟩), .int .i64 0]) ∧ RepE w' R) ∧ (er ≠ 0 → x = .returned (.tuple #[.pointer none, .int .i64 er]))
set_option maxRecDepth 100000 in
theorem exNewNil_ok (w : World) (most n f k : Int) : Calls Tryz.prog 12 #[.pointer none, cfgV most n f, .int .i64 k] w fun e w' => e = .returned (.tuple #[.pointer none, .int .i64 2]) ∧ Below w.heap.size w w' := by
  unfold cfgV
  have hb := Lib.hid (new_box w (.cells #[.int .i64 most, .int .i64 n, .int .i64 f] 23))
  go_enter Tryz.func12, Tryz.ntmps12
  go_wp2_with fail
  go_ret2
  exact ⟨rfl, hb.out⟩
set_option maxRecDepth 100000 in
set_option maxHeartbeats 4000000 in
theorem exNew_ok (w : World) (L : Nat) (most n f k : Int) (h : LogE w L) : Calls Tryz.prog 12 #[.pointer (some ⟨L, 0, none⟩), cfgV most n f, .int .i64 k] w (ExNew w (exErr most n f k)) := by
  unfold cfgV
  have hb0 := new_box w (.cells #[.int .i64 most, .int .i64 n, .int .i64 f] 23)
  have k0 := heap_alloc_new w (.cells #[.int .i64 most, .int .i64 n, .int .i64 f] 23)
  have hmm := @run_makeMap Tryz.prog
  go_enter Tryz.func12, Tryz.ntmps12
  go_upto_region 1 with fail
  generalize w.alloc (.cells #[.int .i64 most, .int .i64 n, .int .i64 f] 23) = w1 at hb0 k0 ⊢
  obtain ⟨C, hC⟩ : ∃ x, w.heap.size = x := ⟨_, rfl⟩
  rw [hC] at k0 ⊢
  clear hC
  have z0 : w1.cell? ⟨C, 0, none⟩ = some (.int .i64 most) := by simp [World.cell?, k0]
  have z1 : w1.cell? ⟨C, 1, none⟩ = some (.int .i64 n) := by simp [World.cell?, k0]
  have z2 : w1.cell? ⟨C, 2, none⟩ = some (.int .i64 f) := by simp [World.cell?, k0]
  have HB := Lib.hid (And.intro hb0 (And.intro k0 (h.below hb0)))
  have HE := Lib.hid (serEmpty_ok w1 most n f)
  unfold cfgV at HE
  clear hb0 k0 h
  go_wp2_with fail
  refine HE.out.mono ?_
  rintro e w2 ⟨hb2, he, he'⟩
  have HB2 := Lib.hid (And.intro (HB.out.1.trans (hb2.mono HB.out.1.size)) (And.intro ((Only.of_below hb2 (fun _ => False)).heap HB.out.2.1 (fun h => h)) (HB.out.2.2.below hb2)))
  clear z0 z1 z2 hb2 HE
  by_cases h0 : cfgErr most n f = 0
  · have HX := Lib.hid (show exErr most n f k = wkErr k by unfold exErr; rw [if_pos h0])
    obtain ⟨T, rfl, -, hT⟩ := he h0
    have HT := Lib.hid (hT.le (Nat.zero_le _))
    clear he he' hT h0
    go_wp2_with fail
    refine (schNew_ok w2 k).mono ?_
    rintro e w3 ⟨hb3, hs, hs'⟩
    have HB3 := Lib.hid (And.intro (HB2.out.1.trans (hb3.mono HB2.out.1.size)) (And.intro ((Only.of_below hb3 (fun _ => False)).heap HB2.out.2.1 (fun h => h)) (And.intro (HB2.out.2.2.below hb3) (HT.out.below hb3))))
    clear hb3
    by_cases h1 : wkErr k = 0
    · obtain ⟨B, nb, rfl, hnb, -, hBd⟩ := hs h1
      have HBd := Lib.hid (And.intro hnb hBd)
      have H1 := Lib.hid h1
      clear hs hs' hnb hBd h1
      go_wp2_with fail
      refine wp_region_held_drew (S := (fun w' => Below w3.heap.size w3 w' ∧ w'.heap[C]? = some (.cells #[.int .i64 most, .int .i64 n, .int .i64 f] 23 (0, 0)))) (by kernel_rfl) ⟨(Below.refl _ _).drew, HB3.out.2.1⟩ (fun hHeld => ?_)
      refine takeS (i := 0) (v := ?_) rfl (by kernel_rfl) (by kernel_rfl) (by kernel_rfl) (fun _ _ _ h => h) (by rfl) (fun wS hSw => ?_) hHeld ?_
      rotate_left
      · obtain ⟨s0, s1⟩ := hSw; go_simp; try with_reducible rfl
      try simp only [Act.put, List.setIfInBounds_toArray, List.set_cons_zero, List.set_cons_succ]
      refine takeS (i := 1) (v := ?_) rfl (by kernel_rfl) (by kernel_rfl) (by kernel_rfl) (fun _ _ _ h => h) (by rfl) (fun wS hSw => ?_) hHeld ?_
      rotate_left
      · obtain ⟨s0, s1⟩ := hSw; go_simp; try with_reducible rfl
      try simp only [Act.put, List.setIfInBounds_toArray, List.set_cons_zero, List.set_cons_succ]
      refine takeS (i := 2) (v := ?_) rfl (by kernel_rfl) (by kernel_rfl) (by kernel_rfl) (fun _ _ _ h => h) (by rfl) (fun wS hSw => ?_) hHeld ?_
      rotate_left
      · obtain ⟨s0, s1⟩ := hSw; have s2 := cfgO_cell s1; go_simp; try with_reducible rfl
      try simp only [Act.put, List.setIfInBounds_toArray, List.set_cons_zero, List.set_cons_succ]
      refine takeS (i := 3) (v := ?_) rfl (by kernel_rfl) (by kernel_rfl) (by kernel_rfl) (fun _ _ _ h => h) (by rfl) (fun wS hSw => ?_) hHeld ?_
      rotate_left
      · obtain ⟨s0, s1⟩ := hSw; go_simp; try with_reducible rfl
      try simp only [Act.put, List.setIfInBounds_toArray, List.set_cons_zero, List.set_cons_succ]
      refine takeS (i := 5) (v := ?_) rfl (by kernel_rfl) (by kernel_rfl) (by kernel_rfl) (fun _ _ _ h => h) (by rfl) (fun wS hSw => ?_) hHeld ?_
      rotate_left
      · obtain ⟨s0, s1⟩ := hSw; go_simp; try with_reducible rfl
      try simp only [Act.put, List.setIfInBounds_toArray, List.set_cons_zero, List.set_cons_succ]
      refine wpAnyH_ready (rs := [4, 6, 7]) (by kernel_rfl) (by simp) (consS (i := 4) rfl (fun K hK => ?_) (consS (i := 6) rfl (fun K hK => ?_) (consS (i := 7) rfl (fun K hK => ?_) AllReadyH.nil)))
      · skip
        go_simp
        refine (lkNew0_ok _).mono ?_
        rintro e wn ⟨Kl, rfl, -, hL, hbn⟩
        have HL := Lib.hid hL
        clear hL
        try go_simp
        refine hK.out _ _ (heldB1 hHeld hbn) (fun hHeld2 => ?_)
        clear hK K hHeld hbn
        have hHeld := hHeld2
        clear hHeld2
        try simp only [Act.put, List.setIfInBounds_toArray, List.set_cons_zero, List.set_cons_succ]
        refine wpAnyH_ready (rs := [6, 7]) (by kernel_rfl) (by simp) (consS (i := 6) rfl (fun K hK => ?_) (consS (i := 7) rfl (fun K hK => ?_) AllReadyH.nil))
        · skip
          go_simp
          refine hK.out _ _ (heldB1 hHeld (new_box _ _)) (fun hHeld2 => ?_)
          clear hK K hHeld 
          have hHeld := hHeld2
          clear hHeld2
          try simp only [Act.put, List.setIfInBounds_toArray, List.set_cons_zero, List.set_cons_succ]
          refine wpAnyH_ready (rs := [7]) (by kernel_rfl) (by simp) (consS (i := 7) rfl (fun K hK => ?_) AllReadyH.nil)
          go_simp
          refine hK.out _ _ (heldB1 hHeld (new_box _ _)) (fun hHeld2 => ?_)
          clear hK K hHeld 
          have hHeld := hHeld2
          clear hHeld2
          try simp only [Act.put, List.setIfInBounds_toArray, List.set_cons_zero, List.set_cons_succ]
          refine takeS (i := 8) (v := ?_) rfl (by kernel_rfl) (by kernel_rfl) (by kernel_rfl) (fun _ _ _ h => h) (by rfl) (fun wS hSw => ?_) hHeld ?_
          rotate_left
          · obtain ⟨s0, s1⟩ := hSw; go_simp; try with_reducible rfl
          try simp only [Act.put, List.setIfInBounds_toArray, List.set_cons_zero, List.set_cons_succ]
          refine wpAnyH_ready (rs := [9]) (by kernel_rfl) (by simp) (consS (i := 9) rfl (fun K hK => ?_) AllReadyH.nil)
          go_simp
          refine hK.out _ _ (heldB1 hHeld (new_box _ _)) (fun hHeld2 => ?_)
          clear hK K hHeld 
          have hHeld := hHeld2
          clear hHeld2
          try simp only [Act.put, List.setIfInBounds_toArray, List.set_cons_zero, List.set_cons_succ]
          refine takeS (i := 10) (v := ?_) rfl (by kernel_rfl) (by kernel_rfl) (by kernel_rfl) (fun _ _ _ h => h) (by rfl) (fun wS hSw => ?_) hHeld ?_
          rotate_left
          · obtain ⟨s0, s1⟩ := hSw; go_simp; try with_reducible rfl
          try simp only [Act.put, List.setIfInBounds_toArray, List.set_cons_zero, List.set_cons_succ]
          refine takeS (i := 11) (v := ?_) rfl (by kernel_rfl) (by kernel_rfl) (by kernel_rfl) (fun _ _ _ h => h) (by rfl) (fun wS hSw => ?_) hHeld ?_
          rotate_left
          · obtain ⟨s0, s1⟩ := hSw; go_simp; try with_reducible rfl
          try simp only [Act.put, List.setIfInBounds_toArray, List.set_cons_zero, List.set_cons_succ]
          refine wpAnyH_done (by kernel_rfl) ?_ _
          go_wp2_with fail
          go_ret2
          rw [HX.out]
          refine ⟨HB3.out.1.trans (hHeld.1.mono HB3.out.1.size), fun _ => ⟨_, rfl, L, f, T, Kl, B, _, _, nb, most, n, alloc_at (by simp), HB3.out.2.2.1.below hHeld.1, HB3.out.2.2.2.below hHeld.1, ?_, HBd.out.1, HBd.out.2.below hHeld.1⟩, fun h => absurd H1.out h⟩
          repeat (first | exact HL.out | refine LkE.below ?_ (new_box _ _))
        · skip
          go_simp
          refine hK.out _ _ (heldB1 hHeld (new_box _ _)) (fun hHeld2 => ?_)
          clear hK K hHeld 
          have hHeld := hHeld2
          clear hHeld2
          try simp only [Act.put, List.setIfInBounds_toArray, List.set_cons_zero, List.set_cons_succ]
          refine wpAnyH_ready (rs := [6]) (by kernel_rfl) (by simp) (consS (i := 6) rfl (fun K hK => ?_) AllReadyH.nil)
          go_simp
          refine hK.out _ _ (heldB1 hHeld (new_box _ _)) (fun hHeld2 => ?_)
          clear hK K hHeld 
          have hHeld := hHeld2
          clear hHeld2
          try simp only [Act.put, List.setIfInBounds_toArray, List.set_cons_zero, List.set_cons_succ]
          refine takeS (i := 8) (v := ?_) rfl (by kernel_rfl) (by kernel_rfl) (by kernel_rfl) (fun _ _ _ h => h) (by rfl) (fun wS hSw => ?_) hHeld ?_
          rotate_left
          · obtain ⟨s0, s1⟩ := hSw; go_simp; try with_reducible rfl
          try simp only [Act.put, List.setIfInBounds_toArray, List.set_cons_zero, List.set_cons_succ]
          refine wpAnyH_ready (rs := [9]) (by kernel_rfl) (by simp) (consS (i := 9) rfl (fun K hK => ?_) AllReadyH.nil)
          go_simp
          refine hK.out _ _ (heldB1 hHeld (new_box _ _)) (fun hHeld2 => ?_)
          clear hK K hHeld 
          have hHeld := hHeld2
          clear hHeld2
          try simp only [Act.put, List.setIfInBounds_toArray, List.set_cons_zero, List.set_cons_succ]
          refine takeS (i := 10) (v := ?_) rfl (by kernel_rfl) (by kernel_rfl) (by kernel_rfl) (fun _ _ _ h => h) (by rfl) (fun wS hSw => ?_) hHeld ?_
          rotate_left
          · obtain ⟨s0, s1⟩ := hSw; go_simp; try with_reducible rfl
          try simp only [Act.put, List.setIfInBounds_toArray, List.set_cons_zero, List.set_cons_succ]
          refine takeS (i := 11) (v := ?_) rfl (by kernel_rfl) (by kernel_rfl) (by kernel_rfl) (fun _ _ _ h => h) (by rfl) (fun wS hSw => ?_) hHeld ?_
          rotate_left
          · obtain ⟨s0, s1⟩ := hSw; go_simp; try with_reducible rfl
          try simp only [Act.put, List.setIfInBounds_toArray, List.set_cons_zero, List.set_cons_succ]
          refine wpAnyH_done (by kernel_rfl) ?_ _
          go_wp2_with fail
          go_ret2
          rw [HX.out]
          refine ⟨HB3.out.1.trans (hHeld.1.mono HB3.out.1.size), fun _ => ⟨_, rfl, L, f, T, Kl, B, _, _, nb, most, n, alloc_at (by simp), HB3.out.2.2.1.below hHeld.1, HB3.out.2.2.2.below hHeld.1, ?_, HBd.out.1, HBd.out.2.below hHeld.1⟩, fun h => absurd H1.out h⟩
          repeat (first | exact HL.out | refine LkE.below ?_ (new_box _ _))
      · skip
        go_simp
        refine hK.out _ _ (heldB1 hHeld (new_box _ _)) (fun hHeld2 => ?_)
        clear hK K hHeld 
        have hHeld := hHeld2
        clear hHeld2
        try simp only [Act.put, List.setIfInBounds_toArray, List.set_cons_zero, List.set_cons_succ]
        refine wpAnyH_ready (rs := [4, 7]) (by kernel_rfl) (by simp) (consS (i := 4) rfl (fun K hK => ?_) (consS (i := 7) rfl (fun K hK => ?_) AllReadyH.nil))
        · skip
          go_simp
          refine (lkNew0_ok _).mono ?_
          rintro e wn ⟨Kl, rfl, -, hL, hbn⟩
          have HL := Lib.hid hL
          clear hL
          try go_simp
          refine hK.out _ _ (heldB1 hHeld hbn) (fun hHeld2 => ?_)
          clear hK K hHeld hbn
          have hHeld := hHeld2
          clear hHeld2
          try simp only [Act.put, List.setIfInBounds_toArray, List.set_cons_zero, List.set_cons_succ]
          refine wpAnyH_ready (rs := [7]) (by kernel_rfl) (by simp) (consS (i := 7) rfl (fun K hK => ?_) AllReadyH.nil)
          go_simp
          refine hK.out _ _ (heldB1 hHeld (new_box _ _)) (fun hHeld2 => ?_)
          clear hK K hHeld 
          have hHeld := hHeld2
          clear hHeld2
          try simp only [Act.put, List.setIfInBounds_toArray, List.set_cons_zero, List.set_cons_succ]
          refine takeS (i := 8) (v := ?_) rfl (by kernel_rfl) (by kernel_rfl) (by kernel_rfl) (fun _ _ _ h => h) (by rfl) (fun wS hSw => ?_) hHeld ?_
          rotate_left
          · obtain ⟨s0, s1⟩ := hSw; go_simp; try with_reducible rfl
          try simp only [Act.put, List.setIfInBounds_toArray, List.set_cons_zero, List.set_cons_succ]
          refine wpAnyH_ready (rs := [9]) (by kernel_rfl) (by simp) (consS (i := 9) rfl (fun K hK => ?_) AllReadyH.nil)
          go_simp
          refine hK.out _ _ (heldB1 hHeld (new_box _ _)) (fun hHeld2 => ?_)
          clear hK K hHeld 
          have hHeld := hHeld2
          clear hHeld2
          try simp only [Act.put, List.setIfInBounds_toArray, List.set_cons_zero, List.set_cons_succ]
          refine takeS (i := 10) (v := ?_) rfl (by kernel_rfl) (by kernel_rfl) (by kernel_rfl) (fun _ _ _ h => h) (by rfl) (fun wS hSw => ?_) hHeld ?_
          rotate_left
          · obtain ⟨s0, s1⟩ := hSw; go_simp; try with_reducible rfl
          try simp only [Act.put, List.setIfInBounds_toArray, List.set_cons_zero, List.set_cons_succ]
          refine takeS (i := 11) (v := ?_) rfl (by kernel_rfl) (by kernel_rfl) (by kernel_rfl) (fun _ _ _ h => h) (by rfl) (fun wS hSw => ?_) hHeld ?_
          rotate_left
          · obtain ⟨s0, s1⟩ := hSw; go_simp; try with_reducible rfl
          try simp only [Act.put, List.setIfInBounds_toArray, List.set_cons_zero, List.set_cons_succ]
          refine wpAnyH_done (by kernel_rfl) ?_ _
          go_wp2_with fail
          go_ret2
          rw [HX.out]
          refine ⟨HB3.out.1.trans (hHeld.1.mono HB3.out.1.size), fun _ => ⟨_, rfl, L, f, T, Kl, B, _, _, nb, most, n, alloc_at (by simp), HB3.out.2.2.1.below hHeld.1, HB3.out.2.2.2.below hHeld.1, ?_, HBd.out.1, HBd.out.2.below hHeld.1⟩, fun h => absurd H1.out h⟩
          repeat (first | exact HL.out | refine LkE.below ?_ (new_box _ _))
        · skip
          go_simp
          refine hK.out _ _ (heldB1 hHeld (new_box _ _)) (fun hHeld2 => ?_)
          clear hK K hHeld 
          have hHeld := hHeld2
          clear hHeld2
          try simp only [Act.put, List.setIfInBounds_toArray, List.set_cons_zero, List.set_cons_succ]
          refine wpAnyH_ready (rs := [4]) (by kernel_rfl) (by simp) (consS (i := 4) rfl (fun K hK => ?_) AllReadyH.nil)
          go_simp
          refine (lkNew0_ok _).mono ?_
          rintro e wn ⟨Kl, rfl, -, hL, hbn⟩
          have HL := Lib.hid hL
          clear hL
          try go_simp
          refine hK.out _ _ (heldB1 hHeld hbn) (fun hHeld2 => ?_)
          clear hK K hHeld hbn
          have hHeld := hHeld2
          clear hHeld2
          try simp only [Act.put, List.setIfInBounds_toArray, List.set_cons_zero, List.set_cons_succ]
          refine takeS (i := 8) (v := ?_) rfl (by kernel_rfl) (by kernel_rfl) (by kernel_rfl) (fun _ _ _ h => h) (by rfl) (fun wS hSw => ?_) hHeld ?_
          rotate_left
          · obtain ⟨s0, s1⟩ := hSw; go_simp; try with_reducible rfl
          try simp only [Act.put, List.setIfInBounds_toArray, List.set_cons_zero, List.set_cons_succ]
          refine wpAnyH_ready (rs := [9]) (by kernel_rfl) (by simp) (consS (i := 9) rfl (fun K hK => ?_) AllReadyH.nil)
          go_simp
          refine hK.out _ _ (heldB1 hHeld (new_box _ _)) (fun hHeld2 => ?_)
          clear hK K hHeld 
          have hHeld := hHeld2
          clear hHeld2
          try simp only [Act.put, List.setIfInBounds_toArray, List.set_cons_zero, List.set_cons_succ]
          refine takeS (i := 10) (v := ?_) rfl (by kernel_rfl) (by kernel_rfl) (by kernel_rfl) (fun _ _ _ h => h) (by rfl) (fun wS hSw => ?_) hHeld ?_
          rotate_left
          · obtain ⟨s0, s1⟩ := hSw; go_simp; try with_reducible rfl
          try simp only [Act.put, List.setIfInBounds_toArray, List.set_cons_zero, List.set_cons_succ]
          refine takeS (i := 11) (v := ?_) rfl (by kernel_rfl) (by kernel_rfl) (by kernel_rfl) (fun _ _ _ h => h) (by rfl) (fun wS hSw => ?_) hHeld ?_
          rotate_left
          · obtain ⟨s0, s1⟩ := hSw; go_simp; try with_reducible rfl
          try simp only [Act.put, List.setIfInBounds_toArray, List.set_cons_zero, List.set_cons_succ]
          refine wpAnyH_done (by kernel_rfl) ?_ _
          go_wp2_with fail
          go_ret2
          rw [HX.out]
          refine ⟨HB3.out.1.trans (hHeld.1.mono HB3.out.1.size), fun _ => ⟨_, rfl, L, f, T, Kl, B, _, _, nb, most, n, alloc_at (by simp), HB3.out.2.2.1.below hHeld.1, HB3.out.2.2.2.below hHeld.1, ?_, HBd.out.1, HBd.out.2.below hHeld.1⟩, fun h => absurd H1.out h⟩
          repeat (first | exact HL.out | refine LkE.below ?_ (new_box _ _))
      · skip
        go_simp
        refine hK.out _ _ (heldB1 hHeld (new_box _ _)) (fun hHeld2 => ?_)
        clear hK K hHeld 
        have hHeld := hHeld2
        clear hHeld2
        try simp only [Act.put, List.setIfInBounds_toArray, List.set_cons_zero, List.set_cons_succ]
        refine wpAnyH_ready (rs := [4, 6]) (by kernel_rfl) (by simp) (consS (i := 4) rfl (fun K hK => ?_) (consS (i := 6) rfl (fun K hK => ?_) AllReadyH.nil))
        · skip
          go_simp
          refine (lkNew0_ok _).mono ?_
          rintro e wn ⟨Kl, rfl, -, hL, hbn⟩
          have HL := Lib.hid hL
          clear hL
          try go_simp
          refine hK.out _ _ (heldB1 hHeld hbn) (fun hHeld2 => ?_)
          clear hK K hHeld hbn
          have hHeld := hHeld2
          clear hHeld2
          try simp only [Act.put, List.setIfInBounds_toArray, List.set_cons_zero, List.set_cons_succ]
          refine wpAnyH_ready (rs := [6]) (by kernel_rfl) (by simp) (consS (i := 6) rfl (fun K hK => ?_) AllReadyH.nil)
          go_simp
          refine hK.out _ _ (heldB1 hHeld (new_box _ _)) (fun hHeld2 => ?_)
          clear hK K hHeld 
          have hHeld := hHeld2
          clear hHeld2
          try simp only [Act.put, List.setIfInBounds_toArray, List.set_cons_zero, List.set_cons_succ]
          refine takeS (i := 8) (v := ?_) rfl (by kernel_rfl) (by kernel_rfl) (by kernel_rfl) (fun _ _ _ h => h) (by rfl) (fun wS hSw => ?_) hHeld ?_
          rotate_left
          · obtain ⟨s0, s1⟩ := hSw; go_simp; try with_reducible rfl
          try simp only [Act.put, List.setIfInBounds_toArray, List.set_cons_zero, List.set_cons_succ]
          refine wpAnyH_ready (rs := [9]) (by kernel_rfl) (by simp) (consS (i := 9) rfl (fun K hK => ?_) AllReadyH.nil)
          go_simp
          refine hK.out _ _ (heldB1 hHeld (new_box _ _)) (fun hHeld2 => ?_)
          clear hK K hHeld 
          have hHeld := hHeld2
          clear hHeld2
          try simp only [Act.put, List.setIfInBounds_toArray, List.set_cons_zero, List.set_cons_succ]
          refine takeS (i := 10) (v := ?_) rfl (by kernel_rfl) (by kernel_rfl) (by kernel_rfl) (fun _ _ _ h => h) (by rfl) (fun wS hSw => ?_) hHeld ?_
          rotate_left
          · obtain ⟨s0, s1⟩ := hSw; go_simp; try with_reducible rfl
          try simp only [Act.put, List.setIfInBounds_toArray, List.set_cons_zero, List.set_cons_succ]
          refine takeS (i := 11) (v := ?_) rfl (by kernel_rfl) (by kernel_rfl) (by kernel_rfl) (fun _ _ _ h => h) (by rfl) (fun wS hSw => ?_) hHeld ?_
          rotate_left
          · obtain ⟨s0, s1⟩ := hSw; go_simp; try with_reducible rfl
          try simp only [Act.put, List.setIfInBounds_toArray, List.set_cons_zero, List.set_cons_succ]
          refine wpAnyH_done (by kernel_rfl) ?_ _
          go_wp2_with fail
          go_ret2
          rw [HX.out]
          refine ⟨HB3.out.1.trans (hHeld.1.mono HB3.out.1.size), fun _ => ⟨_, rfl, L, f, T, Kl, B, _, _, nb, most, n, alloc_at (by simp), HB3.out.2.2.1.below hHeld.1, HB3.out.2.2.2.below hHeld.1, ?_, HBd.out.1, HBd.out.2.below hHeld.1⟩, fun h => absurd H1.out h⟩
          repeat (first | exact HL.out | refine LkE.below ?_ (new_box _ _))
        · skip
          go_simp
          refine hK.out _ _ (heldB1 hHeld (new_box _ _)) (fun hHeld2 => ?_)
          clear hK K hHeld 
          have hHeld := hHeld2
          clear hHeld2
          try simp only [Act.put, List.setIfInBounds_toArray, List.set_cons_zero, List.set_cons_succ]
          refine wpAnyH_ready (rs := [4]) (by kernel_rfl) (by simp) (consS (i := 4) rfl (fun K hK => ?_) AllReadyH.nil)
          go_simp
          refine (lkNew0_ok _).mono ?_
          rintro e wn ⟨Kl, rfl, -, hL, hbn⟩
          have HL := Lib.hid hL
          clear hL
          try go_simp
          refine hK.out _ _ (heldB1 hHeld hbn) (fun hHeld2 => ?_)
          clear hK K hHeld hbn
          have hHeld := hHeld2
          clear hHeld2
          try simp only [Act.put, List.setIfInBounds_toArray, List.set_cons_zero, List.set_cons_succ]
          refine takeS (i := 8) (v := ?_) rfl (by kernel_rfl) (by kernel_rfl) (by kernel_rfl) (fun _ _ _ h => h) (by rfl) (fun wS hSw => ?_) hHeld ?_
          rotate_left
          · obtain ⟨s0, s1⟩ := hSw; go_simp; try with_reducible rfl
          try simp only [Act.put, List.setIfInBounds_toArray, List.set_cons_zero, List.set_cons_succ]
          refine wpAnyH_ready (rs := [9]) (by kernel_rfl) (by simp) (consS (i := 9) rfl (fun K hK => ?_) AllReadyH.nil)
          go_simp
          refine hK.out _ _ (heldB1 hHeld (new_box _ _)) (fun hHeld2 => ?_)
          clear hK K hHeld 
          have hHeld := hHeld2
          clear hHeld2
          try simp only [Act.put, List.setIfInBounds_toArray, List.set_cons_zero, List.set_cons_succ]
          refine takeS (i := 10) (v := ?_) rfl (by kernel_rfl) (by kernel_rfl) (by kernel_rfl) (fun _ _ _ h => h) (by rfl) (fun wS hSw => ?_) hHeld ?_
          rotate_left
          · obtain ⟨s0, s1⟩ := hSw; go_simp; try with_reducible rfl
          try simp only [Act.put, List.setIfInBounds_toArray, List.set_cons_zero, List.set_cons_succ]
          refine takeS (i := 11) (v := ?_) rfl (by kernel_rfl) (by kernel_rfl) (by kernel_rfl) (fun _ _ _ h => h) (by rfl) (fun wS hSw => ?_) hHeld ?_
          rotate_left
          · obtain ⟨s0, s1⟩ := hSw; go_simp; try with_reducible rfl
          try simp only [Act.put, List.setIfInBounds_toArray, List.set_cons_zero, List.set_cons_succ]
          refine wpAnyH_done (by kernel_rfl) ?_ _
          go_wp2_with fail
          go_ret2
          rw [HX.out]
          refine ⟨HB3.out.1.trans (hHeld.1.mono HB3.out.1.size), fun _ => ⟨_, rfl, L, f, T, Kl, B, _, _, nb, most, n, alloc_at (by simp), HB3.out.2.2.1.below hHeld.1, HB3.out.2.2.2.below hHeld.1, ?_, HBd.out.1, HBd.out.2.below hHeld.1⟩, fun h => absurd H1.out h⟩
          repeat (first | exact HL.out | refine LkE.below ?_ (new_box _ _))
    · obtain rfl := hs' h1
      have H1 := Lib.hid h1
      clear hs hs'
      go_wp2_with fail
      go_ret2
      rw [HX.out]
      exact ⟨HB3.out.1, fun h => absurd h H1.out, fun _ => rfl⟩
  · have HX := Lib.hid (show exErr most n f k = cfgErr most n f by unfold exErr; rw [if_neg h0])
    obtain rfl := he' h0
    have H0 := Lib.hid h0
    clear he he'
    go_wp2_with fail
    go_ret2
    rw [HX.out]
    exact ⟨HB2.out.1, fun h => absurd h H0.out, fun _ => rfl⟩
set_option maxRecDepth 100000 in
theorem logLen0_ok (w : World) (L : Nat) (h : LogE w L) : Calls Tryz.prog 35 #[.pointer (some ⟨L, 0, none⟩)] w fun e w' => e = .returned (.int .i64 0) ∧ Below w.heap.size w w' := by
  unfold LogE at h
  have z0 : w.cell? ⟨L, 0, none⟩ = some (.slice none 0 0) := by simp [World.cell?, h]
  clear h
  go_enter Tryz.func35, Tryz.ntmps35
  go_wp2_with fail
  go_ret
  exact ⟨rfl, Below.refl _ _⟩
set_option maxRecDepth 100000 in
set_option maxHeartbeats 1000000 in
theorem exActs0_ok (w : World) (R : Nat) (h : RepE w R) : Calls Tryz.prog 19 #[.pointer (some ⟨R, 0, none⟩)] w fun e w' => e = .returned (.slice none 0 0) ∧ Below w.heap.size w w' := by
  obtain ⟨L, f, T, Kl, B, m1, m2, n, most, nn, h0, h1, h2, h3, h4, h5⟩ := h
  have HX := Lib.hid (And.intro h0 (And.intro h1 (And.intro h3 (And.intro h4 h5))))
  clear h0 h1 h2 h3 h4 h5
  go_enter Tryz.func19, Tryz.ntmps19
  go_wp2_with fail
  refine wp_region_held_drew (S := (fun w' => Below w.heap.size w w' ∧ w'.heap[R]? = some (repO L f T Kl B m1 m2))) (by kernel_rfl) ⟨(Below.refl _ _).drew, HX.out.1⟩ (fun hHeld => ?_)
  refine takeS (i := 0) (v := ?_) rfl (by kernel_rfl) (by kernel_rfl) (by kernel_rfl) (fun _ _ _ h => h) (by rfl) (fun wS hSw => ?_) hHeld ?_
  rotate_left
  · obtain ⟨s0, s1⟩ := hSw; go_simp; try with_reducible rfl
  try simp only [Act.put, List.setIfInBounds_toArray, List.set_cons_zero, List.set_cons_succ]
  refine takeS (i := 1) (v := ?_) rfl (by kernel_rfl) (by kernel_rfl) (by kernel_rfl) (fun _ _ _ h => h) (by rfl) (fun wS hSw => ?_) hHeld ?_
  rotate_left
  · obtain ⟨s0, s1⟩ := hSw; go_simp; try with_reducible rfl
  try simp only [Act.put, List.setIfInBounds_toArray, List.set_cons_zero, List.set_cons_succ]
  refine takeS (i := 2) (v := ?_) rfl (by kernel_rfl) (by kernel_rfl) (by kernel_rfl) (fun _ _ _ h => h) (by rfl) (fun wS hSw => ?_) hHeld ?_
  rotate_left
  · obtain ⟨s0, s1⟩ := hSw; go_simp; try with_reducible rfl
  try simp only [Act.put, List.setIfInBounds_toArray, List.set_cons_zero, List.set_cons_succ]
  refine takeS (i := 3) (v := ?_) rfl (by kernel_rfl) (by kernel_rfl) (by kernel_rfl) (fun _ _ _ h => h) (by rfl) (fun wS hSw => ?_) hHeld ?_
  rotate_left
  · obtain ⟨s0, s1⟩ := hSw; obtain ⟨r0, r2, r3, r4, r6, r7⟩ := repO_cells s1; go_simp; try with_reducible rfl
  try simp only [Act.put, List.setIfInBounds_toArray, List.set_cons_zero, List.set_cons_succ]
  refine takeS (i := 4) (v := ?_) rfl (by kernel_rfl) (by kernel_rfl) (by kernel_rfl) (fun _ _ _ h => h) (by rfl) (fun wS hSw => ?_) hHeld ?_
  rotate_left
  · obtain ⟨s0, s1⟩ := hSw; go_simp; try with_reducible rfl
  try simp only [Act.put, List.setIfInBounds_toArray, List.set_cons_zero, List.set_cons_succ]
  refine takeS (i := 5) (v := ?_) rfl (by kernel_rfl) (by kernel_rfl) (by kernel_rfl) (fun _ _ _ h => h) (by rfl) (fun wS hSw => ?_) hHeld ?_
  rotate_left
  · obtain ⟨s0, s1⟩ := hSw; go_simp; try with_reducible rfl
  try simp only [Act.put, List.setIfInBounds_toArray, List.set_cons_zero, List.set_cons_succ]
  refine takeS (i := 6) (v := ?_) rfl (by kernel_rfl) (by kernel_rfl) (by kernel_rfl) (fun _ _ _ h => h) (by rfl) (fun wS hSw => ?_) hHeld ?_
  rotate_left
  · obtain ⟨s0, s1⟩ := hSw; go_simp; try with_reducible rfl
  try simp only [Act.put, List.setIfInBounds_toArray, List.set_cons_zero, List.set_cons_succ]
  refine takeS (i := 7) (v := ?_) rfl (by kernel_rfl) (by kernel_rfl) (by kernel_rfl) (fun _ _ _ h => h) (by rfl) (fun wS hSw => ?_) hHeld ?_
  rotate_left
  · obtain ⟨s0, s1⟩ := hSw; obtain ⟨r0, r2, r3, r4, r6, r7⟩ := repO_cells s1; go_simp; try with_reducible rfl
  try simp only [Act.put, List.setIfInBounds_toArray, List.set_cons_zero, List.set_cons_succ]
  refine takeS (i := 8) (v := ?_) rfl (by kernel_rfl) (by kernel_rfl) (by kernel_rfl) (fun _ _ _ h => h) (by rfl) (fun wS hSw => ?_) hHeld ?_
  rotate_left
  · obtain ⟨s0, s1⟩ := hSw; go_simp; try with_reducible rfl
  try simp only [Act.put, List.setIfInBounds_toArray, List.set_cons_zero, List.set_cons_succ]
  refine takeS (i := 9) (v := ?_) rfl (by kernel_rfl) (by kernel_rfl) (by kernel_rfl) (fun _ _ _ h => h) (by rfl) (fun wS hSw => ?_) hHeld ?_
  rotate_left
  · obtain ⟨s0, s1⟩ := hSw; go_simp; try with_reducible rfl
  try simp only [Act.put, List.setIfInBounds_toArray, List.set_cons_zero, List.set_cons_succ]
  refine takeS (i := 10) (v := ?_) rfl (by kernel_rfl) (by kernel_rfl) (by kernel_rfl) (fun _ _ _ h => h) (by rfl) (fun wS hSw => ?_) hHeld ?_
  rotate_left
  · obtain ⟨s0, s1⟩ := hSw; go_simp; try with_reducible rfl
  try simp only [Act.put, List.setIfInBounds_toArray, List.set_cons_zero, List.set_cons_succ]
  refine takeS (i := 11) (v := ?_) rfl (by kernel_rfl) (by kernel_rfl) (by kernel_rfl) (fun _ _ _ h => h) (by rfl) (fun wS hSw => ?_) hHeld ?_
  rotate_left
  · obtain ⟨s0, s1⟩ := hSw; obtain ⟨r0, r2, r3, r4, r6, r7⟩ := repO_cells s1; go_simp; try with_reducible rfl
  try simp only [Act.put, List.setIfInBounds_toArray, List.set_cons_zero, List.set_cons_succ]
  refine takeS (i := 14) (v := ?_) rfl (by kernel_rfl) (by kernel_rfl) (by kernel_rfl) (fun _ _ _ h => h) (by rfl) (fun wS hSw => ?_) hHeld ?_
  rotate_left
  · obtain ⟨s0, s1⟩ := hSw; go_simp; try with_reducible rfl
  try simp only [Act.put, List.setIfInBounds_toArray, List.set_cons_zero, List.set_cons_succ]
  refine takeS (i := 15) (v := ?_) rfl (by kernel_rfl) (by kernel_rfl) (by kernel_rfl) (fun _ _ _ h => h) (by rfl) (fun wS hSw => ?_) hHeld ?_
  rotate_left
  · obtain ⟨s0, s1⟩ := hSw; go_simp; try with_reducible rfl
  try simp only [Act.put, List.setIfInBounds_toArray, List.set_cons_zero, List.set_cons_succ]
  refine takeS (i := 16) (v := ?_) rfl (by kernel_rfl) (by kernel_rfl) (by kernel_rfl) (fun _ _ _ h => h) (by rfl) (fun wS hSw => ?_) hHeld ?_
  rotate_left
  · obtain ⟨s0, s1⟩ := hSw; go_simp; try with_reducible rfl
  try simp only [Act.put, List.setIfInBounds_toArray, List.set_cons_zero, List.set_cons_succ]
  refine takeS (i := 17) (v := ?_) rfl (by kernel_rfl) (by kernel_rfl) (by kernel_rfl) (fun _ _ _ h => h) (by rfl) (fun wS hSw => ?_) hHeld ?_
  rotate_left
  · obtain ⟨s0, s1⟩ := hSw; obtain ⟨r0, r2, r3, r4, r6, r7⟩ := repO_cells s1; go_simp; try with_reducible rfl
  try simp only [Act.put, List.setIfInBounds_toArray, List.set_cons_zero, List.set_cons_succ]
  refine wpAnyH_ready (rs := [12]) (by kernel_rfl) (by simp) (consS (i := 12) rfl (fun K hK => ?_) AllReadyH.nil)
  go_simp
  refine (logLen0_ok _ L (HX.out.2.1.below hHeld.1)).mono ?_
  rintro e wn ⟨rfl, hbn⟩
  try go_simp
  refine hK.out _ _ (heldB1 hHeld hbn) (fun hHeld2 => ?_)
  clear hK K hHeld hbn
  have hHeld := hHeld2
  clear hHeld2
  try simp only [Act.put, List.setIfInBounds_toArray, List.set_cons_zero, List.set_cons_succ]
  refine takeS (i := 13) (v := ?_) rfl (by kernel_rfl) (by kernel_rfl) (by kernel_rfl) (fun _ _ _ h => h) (by rfl) (fun wS hSw => ?_) hHeld ?_
  rotate_left
  · obtain ⟨s0, s1⟩ := hSw; go_simp; try with_reducible rfl
  try simp only [Act.put, List.setIfInBounds_toArray, List.set_cons_zero, List.set_cons_succ]
  refine wpAnyH_ready (rs := [18]) (by kernel_rfl) (by simp) (consS (i := 18) rfl (fun K hK => ?_) AllReadyH.nil)
  go_simp
  refine (lkReady0_ok _ Kl (HX.out.2.2.1.below hHeld.1)).mono ?_
  rintro e wn ⟨rfl, hbn⟩
  try go_simp
  refine hK.out _ _ (heldB1 hHeld hbn) (fun hHeld2 => ?_)
  clear hK K hHeld hbn
  have hHeld := hHeld2
  clear hHeld2
  try simp only [Act.put, List.setIfInBounds_toArray, List.set_cons_zero, List.set_cons_succ]
  refine wpAnyH_ready (rs := [19]) (by kernel_rfl) (by simp) (consS (i := 19) rfl (fun K hK => ?_) AllReadyH.nil)
  go_simp
  refine (bacts0_ok _ B n HX.out.2.2.2.1 (HX.out.2.2.2.2.below hHeld.1)).mono ?_
  rintro e wn ⟨rfl, hbn⟩
  try go_simp
  refine hK.out _ _ (heldB1 hHeld hbn) (fun hHeld2 => ?_)
  clear hK K hHeld hbn
  have hHeld := hHeld2
  clear hHeld2
  try simp only [Act.put, List.setIfInBounds_toArray, List.set_cons_zero, List.set_cons_succ]
  refine takeS (i := 20) (v := ?_) rfl (by kernel_rfl) (by kernel_rfl) (by kernel_rfl) (fun _ _ _ h => h) (by rfl) (fun wS hSw => ?_) hHeld ?_
  rotate_left
  · obtain ⟨s0, s1⟩ := hSw; go_simp; try with_reducible rfl
  try simp only [Act.put, List.setIfInBounds_toArray, List.set_cons_zero, List.set_cons_succ]
  refine wpAnyH_done (by kernel_rfl) ?_ _
  have HZ := Lib.hid hHeld.1
  clear hHeld
  go_wp2_with fail
  go_ret
  exact ⟨rfl, HZ.out⟩
set_option maxRecDepth 100000 in
theorem exIdle0_ok (w : World) (R : Nat) (h : RepE w R) : Calls Tryz.prog 18 #[.pointer (some ⟨R, 0, none⟩)] w fun e w' => e = .returned (.bool true) ∧ Below w.heap.size w w' := by
  have H := Lib.hid (exActs0_ok w R h)
  clear h
  go_enter Tryz.func18, Tryz.ntmps18
  go_wp2_with fail
  refine H.out.mono ?_
  rintro e w1 ⟨rfl, hb⟩
  have HB := Lib.hid hb
  clear hb
  go_wp2_with fail
  go_ret
  exact ⟨rfl, HB.out⟩
set_option maxRecDepth 100000 in
theorem pick0_ok (w : World) (k : Int) : Calls Tryz.prog 63 #[.int .i64 k, .slice none 0 0] w fun e w' => e = .returned (.tuple #[.agg #[.int .i64 0, .int .i64 0, .int .i64 0], .int .i64 14]) ∧ Below w.heap.size w w' := by
  have hb := new_box w (.cells #[.int .i64 0, .int .i64 0, .int .i64 0] 37)
  have k0 := heap_alloc_new w (.cells #[.int .i64 0, .int .i64 0, .int .i64 0] 37)
  go_enter Tryz.func63, Tryz.ntmps63
  go_upto_region 1 with fail
  generalize w.alloc (.cells #[.int .i64 0, .int .i64 0, .int .i64 0] 37) = w1 at hb k0 ⊢
  obtain ⟨C, hC⟩ : ∃ x, w.heap.size = x := ⟨_, rfl⟩
  rw [hC] at k0 ⊢
  have z0 : w1.cell? ⟨C, 0, none⟩ = some (.int .i64 0) := by simp [World.cell?, k0]
  have z1 : w1.cell? ⟨C, 1, none⟩ = some (.int .i64 0) := by simp [World.cell?, k0]
  have z2 : w1.cell? ⟨C, 2, none⟩ = some (.int .i64 0) := by simp [World.cell?, k0]
  have y0 : w1.frozen? ⟨C, 0, none⟩ = false := by simp [World.frozen?, k0]
  have y1 : w1.frozen? ⟨C, 1, none⟩ = false := by simp [World.frozen?, k0]
  have y2 : w1.frozen? ⟨C, 2, none⟩ = false := by simp [World.frozen?, k0]
  have HB := Lib.hid (And.intro hb (And.intro k0 hC))
  clear hb k0 hC
  go_wp2_with fail
  have hp := put3r (v0 := .int .i64 0) (v1 := .int .i64 0) (v2 := .int .i64 0) HB.out.2.1
  exact bodyPost_ret (results_cell_row2 rfl _ _ _ _ _ _ _ rfl hp Tryz.underlying37 rfl (by kernel_rfl)) rfl ⟨rfl, ((HB.out.1.setCell (p := ⟨C, 0, none⟩) (Nat.le_of_eq HB.out.2.2) _).setCell (p := ⟨C, 1, none⟩) (Nat.le_of_eq HB.out.2.2) _).setCell (p := ⟨C, 2, none⟩) (Nat.le_of_eq HB.out.2.2) _⟩
end Go.Proofs.YtiacbhnkcllpjaaGreatDoor
