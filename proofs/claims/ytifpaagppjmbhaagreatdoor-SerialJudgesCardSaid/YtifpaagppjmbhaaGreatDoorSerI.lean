/- serial.Judge: which outcome an entry has, by the result of its run. -/
import Derived.Test.YtifpaagppjmbhaaGreatDoorSerH
import Derived.Test.YtifpaagppjmbhaaGreatDoorHeld
namespace Go.Proofs.YtifpaagppjmbhaaGreatDoor
set_option maxRecDepth 100000
open Go.RowKit Go.Maps Go.WideShapes

theorem out_cells {w : World} {B : Nat} {a b c : Value} {t : TypeId} (h : w.heap[B]? = some (.cells #[a, b, c] t (0, 0))) : (w.cell? ⟨B, 0, none⟩ = some a ∧ w.cell? ⟨B, 1, none⟩ = some b ∧ w.cell? ⟨B, 2, none⟩ = some c) ∧ ∀ j, w.frozen? ⟨B, j, none⟩ = false := by
  refine ⟨⟨?_, ?_, ?_⟩, fun j => ?_⟩ <;> simp [World.cell?, World.frozen?, h]
theorem four_cells {w : World} {B : Nat} {a b c d : Value} {t : TypeId} (h : w.heap[B]? = some (.cells #[a, b, c, d] t (0, 0))) : w.cell? ⟨B, 0, none⟩ = some a ∧ w.cell? ⟨B, 1, none⟩ = some b ∧ w.cell? ⟨B, 2, none⟩ = some c ∧ w.cell? ⟨B, 3, none⟩ = some d := by
  refine ⟨?_, ?_, ?_, ?_⟩ <;> simp [World.cell?, h]
theorem boxes3 (w : World) (o2 o3 o4 : Obj) : Below w.heap.size w (((w.alloc o2).alloc o3).alloc o4) ∧ (((w.alloc o2).alloc o3).alloc o4).heap[w.heap.size]? = some o2 ∧ (((w.alloc o2).alloc o3).alloc o4).heap[w.heap.size + 1]? = some o3 ∧ (((w.alloc o2).alloc o3).alloc o4).heap[w.heap.size + 1 + 1]? = some o4 := by
  have e1 : (w.alloc o2).heap.size = w.heap.size + 1 := by simp
  have e2 : ((w.alloc o2).alloc o3).heap.size = w.heap.size + 2 := by simp
  have b1 := new_box w o2
  have b2 := new_box (w.alloc o2) o3
  have b3 := new_box ((w.alloc o2).alloc o3) o4
  have k1 := heap_alloc_new w o2
  have k2 := heap_alloc_new (w.alloc o2) o3
  have k3 := heap_alloc_new ((w.alloc o2).alloc o3) o4
  rw [e1] at k2
  rw [e2] at k3
  have on : ∀ {x y : World} {i : Nat} {o : Obj}, Below x.heap.size x y → x.heap[i]? = some o → y.heap[i]? = some o := fun hb h => (Only.of_below hb (fun _ => False)).heap h (fun h => h)
  exact ⟨b1.trans ((b2.trans (b3.mono b2.size)).mono b1.size), on b3 (on b2 k1), on b3 k2, k3⟩
/-- What stands while a run is judged: its result, the answer's cell, the outcome. -/
def JB (w : World) (b3 b4 b5 : Nat) (id v : Int) (A' : Option Addr) (m' c' : Nat) (e : Int) (w' : World) : Prop := Below w.heap.size w w' ∧ w'.heap[b3]? = some (.cells #[.int .i64 v, .int .i64 0, .slice A' m' c', .int .i64 e] 115 (0, 0)) ∧ w'.heap[b4]? = some (.cells #[.int .i64 0, .int .i64 0, .int .i64 0] 35 (0, 0)) ∧
  ∃ kd : Int, w'.heap[b5]? = some (.cells #[.int .i64 kd, .int .i64 id, .int .i64 0] 35 (0, 0))
theorem JB.below {w : World} {b3 b4 b5 : Nat} {id v : Int} {A' : Option Addr} {m' c' : Nat} {e : Int} {w' w'' : World} (h : JB w b3 b4 b5 id v A' m' c' e w') (hb : Below w'.heap.size w' w'') : JB w b3 b4 b5 id v A' m' c' e w'' := by
  obtain ⟨h1, h3, h4, kd, h5⟩ := h
  exact ⟨h1.trans (hb.mono h1.size), (Only.of_below hb (fun _ => False)).heap h3 (fun h => h), (Only.of_below hb (fun _ => False)).heap h4 (fun h => h), kd, (Only.of_below hb (fun _ => False)).heap h5 (fun h => h)⟩
theorem JB.drew {w : World} {b3 b4 b5 : Nat} {id v : Int} {A' : Option Addr} {m' c' : Nat} {e : Int} {w' : World} (h : JB w b3 b4 b5 id v A' m' c' e w') : JB w b3 b4 b5 id v A' m' c' e w'.drew := h.below (Below.refl _ _).drew
theorem JB.set5 {w : World} {b3 b4 b5 : Nat} {id v : Int} {A' : Option Addr} {m' c' : Nat} {e : Int} {w' : World} (h : JB w b3 b4 b5 id v A' m' c' e w') (hw : w.heap.size ≤ b5) (h35 : b3 ≠ b5) (h45 : b4 ≠ b5) (kd : Int) : JB w b3 b4 b5 id v A' m' c' e (w'.setCell ⟨b5, 0, none⟩ (.int .i64 kd)) := by
  obtain ⟨h1, h3, h4, kd', h5⟩ := h
  have ho := Only.set1 w' b5 0 (.int .i64 kd)
  refine ⟨h1.setCell (p := ⟨b5, 0, none⟩) hw _, ho.heap h3 h35, ho.heap h4 h45, kd, ?_⟩
  have := heap_setCell_same w' b5 0 _ _ (.int .i64 kd) h5
  simpa using this
theorem set2_row {w : World} {B : Nat} {a b c v : Value} {t : TypeId} (h : w.heap[B]? = some (.cells #[a, b, c] t (0, 0))) : (w.setCell ⟨B, 2, none⟩ v).heap[B]? = some (.cells #[a, b, v] t (0, 0)) := by simpa using heap_setCell_same w B 2 _ t v h
set_option maxRecDepth 100000 in
set_option maxHeartbeats 4000000 in
theorem judge_ok (w : World) (F G : Nat → Prop) (id v e : Int) (A A' : Option Addr) (m c m' c' : Nat) (lc lf : List Cl) (q : Bool) (hc : ClRd w F (.slice A m c) lc) (hf : ClRd w G (.slice A' m' c') lf) (hcl : lc.length ≤ 64) (hfl : lf.length ≤ 64) (gc : Good lc) (gf : Good lf) (hs : IsForm lc lc) (hq : Tells q (WithinP lf lc)) (he : I64 e) :
    Calls Tryz.prog 48 #[.agg #[.int .i64 id, .slice none 0 0, .slice none 0 0, .slice A m c], .agg #[.int .i64 v, .int .i64 0, .slice A' m' c', .int .i64 e]] w fun x w' => x = .returned (.agg #[.int .i64 (judK q e), .int .i64 id, .int .i64 (judV (judK q e) v)]) ∧ Below w.heap.size w w' := by
  have HB := Lib.hid (boxes3 w (.cells #[.int .i64 id, .slice none 0 0, .slice none 0 0, .slice A m c] 67) (.cells #[.int .i64 v, .int .i64 0, .slice A' m' c', .int .i64 e] 115) (.cells #[.int .i64 0, .int .i64 0, .int .i64 0] 35))
  go_enter Tryz.func48, Tryz.ntmps48
  go_upto_region 1 with fail
  generalize ((w.alloc (.cells #[.int .i64 id, .slice none 0 0, .slice none 0 0, .slice A m c] 67)).alloc (.cells #[.int .i64 v, .int .i64 0, .slice A' m' c', .int .i64 e] 115)).alloc (.cells #[.int .i64 0, .int .i64 0, .int .i64 0] 35) = w1 at HB ⊢
  obtain ⟨b4, h4⟩ : ∃ x, w.heap.size + 1 + 1 = x := ⟨_, rfl⟩
  have HL4 := Lib.hid (show w.heap.size ≤ b4 by omega)
  rw [h4] at HB ⊢
  clear h4
  obtain ⟨b3, h3⟩ : ∃ x, w.heap.size + 1 = x := ⟨_, rfl⟩
  rw [h3] at HB ⊢
  clear h3
  obtain ⟨b2, h2⟩ : ∃ x, w.heap.size = x := ⟨_, rfl⟩
  have HB1 := HB.out
  clear HB
  obtain ⟨hb1, k2, k3, k4⟩ := HB1
  rw [h2] at k2
  rw [h2]
  clear h2
  obtain ⟨z0, -, -, z3⟩ := four_cells k2
  have hx := new_box w1 (.cells #[.int .i64 3, .int .i64 id, .int .i64 0] 35)
  have k5 := heap_alloc_new w1 (.cells #[.int .i64 3, .int .i64 id, .int .i64 0] 35)
  go_upto_region 2 with fail
  generalize w1.alloc (.cells #[.int .i64 3, .int .i64 id, .int .i64 0] 35) = w2 at hx k5 ⊢
  have on : ∀ {i : Nat} {o : Obj}, w1.heap[i]? = some o → w2.heap[i]? = some o := fun h => (Only.of_below hx (fun _ => False)).heap h (fun h => h)
  have HL5 := Lib.hid (And.intro hb1.size (And.intro (Array.getElem?_eq_some_iff.1 k3).1 (Array.getElem?_eq_some_iff.1 k4).1))
  generalize w1.heap.size = b5 at k5 hx HL5 ⊢
  have hb2 := hb1.trans (hx.mono HL5.out.1)
  obtain ⟨-, -, -, z3⟩ := four_cells (on k2)
  have HJ := Lib.hid (show JB w b3 b4 b5 id v A' m' c' e w2 from ⟨hb2, on k3, on k4, 3, k5⟩)
  have HK5 := Lib.hid k5
  have HN := Lib.hid (new_ok w2 _ _ lc (RdK.below hc hb2) (by omega) gc.fits)
  clear hb1 k2 k3 k4 k5 hx on hb2 z0
  go_wp2_with fail
  refine HN.out.mono ?_
  intro x w3 hnp
  obtain ⟨v3, n3, rfl, hnv⟩ := hnp.named
  have hb3 := hnv.1
  obtain ⟨out, hf1, h64 | ⟨h64, rfl, A3, c3, rfl, hown⟩⟩ := hnv.good gc.ok
  · obtain rfl := IsForm.unique hs hf1
    exact absurd h64.1 (by omega)
  obtain rfl := IsForm.unique hs hf1
  have hr3 := fresh_rd hown
  have hx := new_box w3 (.cells #[.slice A3 lc.length c3] 109)
  have k6 := heap_alloc_new w3 (.cells #[.slice A3 lc.length c3] 109)
  have hb23 := hb3.trans (hx.mono hb3.size)
  have HJ4 := Lib.hid (HJ.out.below hb23)
  have HK54 := Lib.hid ((Only.of_below hb23 (fun _ => False)).heap HK5.out (fun h => h))
  have hr4 := RdK.below hr3 hx
  go_upto_region 3 with fail
  generalize w3.alloc (.cells #[.slice A3 lc.length c3] 109) = w4 at k6 hr4 HJ4 HK54 ⊢
  generalize w3.heap.size = b6 at k6 ⊢
  have y6 : w4.cell? ⟨b6, 0, none⟩ = some (.slice A3 lc.length c3) := by simp [World.cell?, k6]
  obtain ⟨-, -, y3, -⟩ := four_cells HJ4.out.2.1
  have HW := Lib.hid (within_is q hq (RdK.below hf HJ4.out.1) hr4 (by omega) (by omega) gf gc)
  clear hb3 hown hr3 hx k6 hb23 hr4 hnv hnp hf1 h64 HN z3
  go_wp2_with fail
  refine HW.out.mono ?_
  rintro x w5 ⟨rfl, hb5⟩
  have HJ5 := Lib.hid (HJ4.out.below hb5)
  have HK55 := Lib.hid ((Only.of_below hb5 (fun _ => False)).heap HK54.out (fun h => h))
  clear hb5 y3 y6 HW hq
  cases q with
  | false =>
    have k5 := HK55.out
    have k4 := HJ5.out.2.2.1
    have p0 := (out_cells k5).1.1
    have p1 := (out_cells k5).1.2.1
    have p2 := (out_cells k5).1.2.2
    have pf0 := (out_cells k5).2 0
    have pf1 := (out_cells k5).2 1
    have pf2 := (out_cells k5).2 2
    have r0 := (out_cells k4).1.1
    have r1 := (out_cells k4).1.2.1
    have r2 := (out_cells k4).1.2.2
    have rf0 := (out_cells k4).2 0
    have rf1 := (out_cells k4).2 1
    have rf2 := (out_cells k4).2 2
    clear k5 k4
    go_wp2_with fail
    have hp := put3r (v0 := .int .i64 (3)) (v1 := .int .i64 id) (v2 := .int .i64 (0)) HJ5.out.2.2.1
    exact bodyPost_ret (results_cell_row rfl _ _ _ _ _ _ _ rfl hp Tryz.underlying35 rfl (by kernel_rfl)) rfl ⟨rfl, ((HJ5.out.1.setCell (p := ⟨b4, 0, none⟩) HL4.out _).setCell (p := ⟨b4, 1, none⟩) HL4.out _).setCell (p := ⟨b4, 2, none⟩) HL4.out _⟩
  | true =>
    go_wp2_with fail
    refine wp_region_held_drew (S := (fun w' => JB w b3 b4 b5 id v A' m' c' e w')) (by kernel_rfl) HJ5.out.drew (fun hHeld => ?_)
    refine takeS (i := 1) (v := ?_) rfl (by kernel_rfl) (by kernel_rfl) (by kernel_rfl) (fun _ _ _ h => h) (by rfl) (fun wS hSw => ?_) hHeld ?_
    rotate_left
    · go_simp; try with_reducible rfl
    try simp only [Act.put, List.setIfInBounds_toArray, List.set_cons_zero, List.set_cons_succ]
    refine takeS (i := 2) (v := ?_) rfl (by kernel_rfl) (by kernel_rfl) (by kernel_rfl) (fun _ _ _ h => h) (by rfl) (fun wS hSw => ?_) hHeld ?_
    rotate_left
    · obtain ⟨-, -, -, q3⟩ := four_cells hSw.2.1; go_simp; try with_reducible rfl
    try simp only [Act.put, List.setIfInBounds_toArray, List.set_cons_zero, List.set_cons_succ]
    refine wpAnyH_ready (rs := [0]) (by kernel_rfl) (by simp) (consS (i := 0) rfl (fun K hK => ?_) AllReadyH.nil)
    go_simp
    refine (kinds_ok _).mono ?_
    rintro e wn ⟨M, g, rfl, hbn, hM, hg⟩
    have HM := Lib.hid (And.intro hM hg)
    clear hM hg
    try go_simp
    refine hK.out _ _ (hHeld.below hbn) (fun hHeld2 => ?_)
    clear hK K hHeld hbn
    have hHeld := hHeld2
    clear hHeld2
    try simp only [Act.put, List.setIfInBounds_toArray, List.set_cons_zero, List.set_cons_succ]
    refine wpAnyH_ready (rs := [3]) (by kernel_rfl) (by simp) (consS (i := 3) rfl (fun K hK => ?_) AllReadyH.nil)
    have hlook := HM.out.1.look lawEr Tryz.underlying208 (Tryz.zeroInt _) (keyEr he)
    rw [HM.out.2 e] at hlook
    go_simp
    refine hK.out _ _ (hHeld) (fun hHeld2 => ?_)
    clear hK K hHeld hlook
    have hHeld := hHeld2
    clear hHeld2
    try simp only [Act.put, List.setIfInBounds_toArray, List.set_cons_zero, List.set_cons_succ]
    refine takeS (i := 4) (v := ?_) rfl (by kernel_rfl) (by kernel_rfl) (by kernel_rfl) (fun _ _ _ h => h) (by rfl) (fun wS hSw => ?_) hHeld ?_
    rotate_left
    · go_simp; try with_reducible rfl
    try simp only [Act.put, List.setIfInBounds_toArray, List.set_cons_zero, List.set_cons_succ]
    refine wpAnyH_ready (rs := [5]) (by kernel_rfl) (by simp) (consS (i := 5) rfl (fun K hK => ?_) AllReadyH.nil)
    have hH2 := hHeld
    obtain ⟨-, -, -, kd, hk5⟩ := hH2
    have K5 := Lib.hid (show _ = some (Obj.cells #[.int .i64 (endK e), .int .i64 id, .int .i64 0] 35 (0, 0)) from by simpa using heap_setCell_same _ b5 0 _ _ (.int .i64 (endK e)) hk5)
    have p0 := (out_cells hk5).1.1
    have pf := (out_cells hk5).2 0
    clear hk5
    go_simp
    refine hK.out _ _ (hHeld.set5 HL5.out.1 (Nat.ne_of_lt HL5.out.2.1) (Nat.ne_of_lt HL5.out.2.2) _) (fun hHeld2 => ?_)
    clear hK K hHeld p0 pf kd
    have hHeld := hHeld2
    clear hHeld2
    try simp only [Act.put, List.setIfInBounds_toArray, List.set_cons_zero, List.set_cons_succ]
    refine wpAnyH_done (by kernel_rfl) ?_ _
    obtain ⟨hh1, hh3, hh4, kd, hh5⟩ := hHeld
    obtain rfl : kd = endK e := by simpa using hh5.symm.trans K5.out
    obtain ⟨kk, hkk⟩ : ∃ x, endK e = x := ⟨_, rfl⟩
    have HKK := Lib.hid (show judK true e = kk from hkk)
    rw [hkk] at hh1 hh3 hh4 hh5 ⊢
    obtain ⟨x0, -, -, -⟩ := four_cells hh3
    clear K5 hkk HJ5 HK55
    by_cases h1 : kk = 1
    · subst h1
      have s5 := set2_row (v := .int .i64 v) hh5
      have s4 := (Only.set1 _ b5 2 (.int .i64 v)).heap hh4 (Nat.ne_of_lt HL5.out.2.2)
      have HS := Lib.hid (And.intro s4 (hh1.setCell (p := ⟨b5, 2, none⟩) HL5.out.1 (.int .i64 v)))
      have p0 := (out_cells hh5).1.1
      have p1 := (out_cells hh5).1.2.1
      have p2 := (out_cells hh5).1.2.2
      have pf0 := (out_cells hh5).2 0
      have pf1 := (out_cells hh5).2 1
      have pf2 := (out_cells hh5).2 2
      have u0 := (out_cells s5).1.1
      have u1 := (out_cells s5).1.2.1
      have u2 := (out_cells s5).1.2.2
      have uf0 := (out_cells s5).2 0
      have uf1 := (out_cells s5).2 1
      have uf2 := (out_cells s5).2 2
      have r0 := (out_cells s4).1.1
      have r1 := (out_cells s4).1.2.1
      have r2 := (out_cells s4).1.2.2
      have rf0 := (out_cells s4).2 0
      have rf1 := (out_cells s4).2 1
      have rf2 := (out_cells s4).2 2
      clear hh1 hh3 hh4 hh5 s5 s4
      go_wp2_with fail
      have hp := put3r (v0 := .int .i64 (1)) (v1 := .int .i64 id) (v2 := .int .i64 (v)) HS.out.1
      exact bodyPost_ret (results_cell_row rfl _ _ _ _ _ _ _ rfl hp Tryz.underlying35 rfl (by kernel_rfl)) rfl ⟨by rw [HKK.out]; rfl, ((HS.out.2.setCell (p := ⟨b4, 0, none⟩) HL4.out _).setCell (p := ⟨b4, 1, none⟩) HL4.out _).setCell (p := ⟨b4, 2, none⟩) HL4.out _⟩
    by_cases h2 : kk = 2
    · subst h2
      have s5 := set2_row (v := .int .i64 v) hh5
      have s4 := (Only.set1 _ b5 2 (.int .i64 v)).heap hh4 (Nat.ne_of_lt HL5.out.2.2)
      have HS := Lib.hid (And.intro s4 (hh1.setCell (p := ⟨b5, 2, none⟩) HL5.out.1 (.int .i64 v)))
      have p0 := (out_cells hh5).1.1
      have p1 := (out_cells hh5).1.2.1
      have p2 := (out_cells hh5).1.2.2
      have pf0 := (out_cells hh5).2 0
      have pf1 := (out_cells hh5).2 1
      have pf2 := (out_cells hh5).2 2
      have u0 := (out_cells s5).1.1
      have u1 := (out_cells s5).1.2.1
      have u2 := (out_cells s5).1.2.2
      have uf0 := (out_cells s5).2 0
      have uf1 := (out_cells s5).2 1
      have uf2 := (out_cells s5).2 2
      have r0 := (out_cells s4).1.1
      have r1 := (out_cells s4).1.2.1
      have r2 := (out_cells s4).1.2.2
      have rf0 := (out_cells s4).2 0
      have rf1 := (out_cells s4).2 1
      have rf2 := (out_cells s4).2 2
      clear hh1 hh3 hh4 hh5 s5 s4
      go_wp2_with fail
      have hp := put3r (v0 := .int .i64 (2)) (v1 := .int .i64 id) (v2 := .int .i64 (v)) HS.out.1
      exact bodyPost_ret (results_cell_row rfl _ _ _ _ _ _ _ rfl hp Tryz.underlying35 rfl (by kernel_rfl)) rfl ⟨by rw [HKK.out]; rfl, ((HS.out.2.setCell (p := ⟨b4, 0, none⟩) HL4.out _).setCell (p := ⟨b4, 1, none⟩) HL4.out _).setCell (p := ⟨b4, 2, none⟩) HL4.out _⟩
    have hq1 : (kk == 1) = false := by simpa using h1
    have hq2 : (kk == 2) = false := by simpa using h2
    have HS := Lib.hid (And.intro hh4 hh1)
    have p0 := (out_cells hh5).1.1
    have p1 := (out_cells hh5).1.2.1
    have p2 := (out_cells hh5).1.2.2
    have pf0 := (out_cells hh5).2 0
    have pf1 := (out_cells hh5).2 1
    have pf2 := (out_cells hh5).2 2
    have r0 := (out_cells hh4).1.1
    have r1 := (out_cells hh4).1.2.1
    have r2 := (out_cells hh4).1.2.2
    have rf0 := (out_cells hh4).2 0
    have rf1 := (out_cells hh4).2 1
    have rf2 := (out_cells hh4).2 2
    clear hh1 hh3 hh4 hh5
    go_wp2_with fail
    have hp := put3r (v0 := .int .i64 (kk)) (v1 := .int .i64 id) (v2 := .int .i64 (0)) HS.out.1
    exact bodyPost_ret (results_cell_row rfl _ _ _ _ _ _ _ rfl hp Tryz.underlying35 rfl (by kernel_rfl)) rfl ⟨by rw [HKK.out]; unfold judV; rw [if_neg (by rintro (h | h); exact h1 h; exact h2 h)], ((HS.out.2.setCell (p := ⟨b4, 0, none⟩) HL4.out _).setCell (p := ⟨b4, 1, none⟩) HL4.out _).setCell (p := ⟨b4, 2, none⟩) HL4.out _⟩
end Go.Proofs.YtifpaagppjmbhaaGreatDoor
