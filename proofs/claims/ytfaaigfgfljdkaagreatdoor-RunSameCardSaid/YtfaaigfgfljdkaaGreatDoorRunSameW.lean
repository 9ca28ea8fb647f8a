/- RunSame, walked. -/
import Derived.Test.YtfaaigfgfljdkaaGreatDoorRunH
import Derived.Test.YtfaaigfgfljdkaaGreatDoorEq3
namespace Go.Proofs.YtfaaigfgfljdkaaGreatDoor
set_option maxRecDepth 100000
open Go.RowKit

theorem held16 {wk W W' : World} {p1 p2 p3 p4 p5 p6 p7 p8 p9 p10 p11 p12 p13 p14 p15 p16 : Addr} {v1 v2 v3 v4 v5 v6 v7 v8 v9 v10 v11 v12 v13 v14 v15 v16 : Value} (h : Below wk.heap.size wk W ∧ W.cell? p1 = some v1 ∧ W.cell? p2 = some v2 ∧ W.cell? p3 = some v3 ∧ W.cell? p4 = some v4 ∧ W.cell? p5 = some v5 ∧ W.cell? p6 = some v6 ∧ W.cell? p7 = some v7 ∧ W.cell? p8 = some v8 ∧ W.cell? p9 = some v9 ∧ W.cell? p10 = some v10 ∧ W.cell? p11 = some v11 ∧ W.cell? p12 = some v12 ∧ W.cell? p13 = some v13 ∧ W.cell? p14 = some v14 ∧ W.cell? p15 = some v15 ∧ W.cell? p16 = some v16) (hb : Below W.heap.size W W') :
    Below wk.heap.size wk W' ∧ W'.cell? p1 = some v1 ∧ W'.cell? p2 = some v2 ∧ W'.cell? p3 = some v3 ∧ W'.cell? p4 = some v4 ∧ W'.cell? p5 = some v5 ∧ W'.cell? p6 = some v6 ∧ W'.cell? p7 = some v7 ∧ W'.cell? p8 = some v8 ∧ W'.cell? p9 = some v9 ∧ W'.cell? p10 = some v10 ∧ W'.cell? p11 = some v11 ∧ W'.cell? p12 = some v12 ∧ W'.cell? p13 = some v13 ∧ W'.cell? p14 = some v14 ∧ W'.cell? p15 = some v15 ∧ W'.cell? p16 = some v16 := by
  obtain ⟨h0, h1, h2, h3, h4, h5, h6, h7, h8, h9, h10, h11, h12, h13, h14, h15, h16⟩ := h
  have key : ∀ {p : Addr} {v : Value}, W.cell? p = some v → W'.cell? p = some v := fun {p v} h => (hb.cell (World.block_lt_of_cell? _ _ h)).trans h
  exact ⟨h0.trans (hb.mono h0.size), key h1, key h2, key h3, key h4, key h5, key h6, key h7, key h8, key h9, key h10, key h11, key h12, key h13, key h14, key h15, key h16⟩
theorem blk6 {w : World} {B : Nat} {a b c d e f : Value} {t : TypeId} (h : w.heap[B]? = some (.cells #[a, b, c, d, e, f] t (0, 0))) : w.cell? ⟨B, 0, none⟩ = some a ∧ w.cell? ⟨B, 1, none⟩ = some b ∧ w.cell? ⟨B, 2, none⟩ = some c ∧ w.cell? ⟨B, 3, none⟩ = some d ∧ w.cell? ⟨B, 4, none⟩ = some e ∧ w.cell? ⟨B, 5, none⟩ = some f := by
  simp [World.cell?, h]
/-- What New answered: a number, and, if it is 0, a footprint. -/
def NewQ (w : World) (v : Value) (n : Int) : Prop := n ≠ 0 ∨ (n = 0 ∧ ∃ out : List Cl, ClRd w (fun _ => True) v out ∧ out.length ≤ 64)
theorem NewQ.below {w w' : World} {v : Value} {n : Int} (h : NewQ w v n) (hb : Below w.heap.size w w') : NewQ w' v n := by
  rcases h with h | ⟨h, out, h1, h2⟩
  · exact .inl h
  · exact .inr ⟨h, out, RdK.below h1 hb, h2⟩
theorem NewV.q {l : List Cl} {w w' : World} {v : Value} {n : Int} (h : NewV l w v n w') : NewQ w' v n := by
  rcases h.cases with ⟨h1, _⟩ | ⟨h1, _, out, _, h2, A, c, rfl, h3⟩
  · exact .inl h1
  · exact .inr ⟨h1, out, RdK.of_own h3 (cl_len _) (by decide) (fun _ _ => trivial), h2⟩
theorem three_ext {a0 a1 a2 b0 b1 b2 : Int} (la lb : List Cl) (h : ¬ (a0 = b0 ∧ a1 = b1 ∧ a2 = b2)) : ¬ ((⟨a0, a1, la, a2⟩ : Res) = ⟨b0, b1, lb, b2⟩) := by
  intro e
  injection e with e1 e2 _ e3
  exact h ⟨e1, e2, e3⟩

set_option maxRecDepth 100000 in
set_option maxHeartbeats 8000000 in
theorem rsame_law (w0 : World) (la lb : List Cl) (va vb : Value) (x0 x1 x2 x3 x4 x5 : Int) (ha : ClRd w0 (fun _ => True) va la) (hb : ClRd w0 (fun _ => True) vb lb) (fa : ∀ c ∈ la, c.fits) (fb : ∀ c ∈ lb, c.fits) (hs : ShTab w0) (ht : Tab10 w0) :
    Calls Tryz.prog 4 #[va, vb, .agg #[.int .i64 x0, .int .i64 x1, .int .i64 x2, .int .i64 x3, .int .i64 x4, .int .i64 x5]] w0 fun e w' => e = .returned (.bool true) ∧ Below w0.heap.size w0 w' := by
  obtain ⟨A, c, rfl, hna, hca⟩ := ha.slice
  obtain ⟨B, d, rfl, hnb, hcb⟩ := hb.slice
  unfold maxLen at hca hcb
  have hbx := one_new w0 (.cells #[.int .i64 x0, .int .i64 x1, .int .i64 x2, .int .i64 x3, .int .i64 x4, .int .i64 x5] 29)
  have kx := heap_alloc_new w0 (.cells #[.int .i64 x0, .int .i64 x1, .int .i64 x2, .int .i64 x3, .int .i64 x4, .int .i64 x5] 29)
  have H := Lib.hid (And.intro (RdK.below ha hbx) (And.intro (RdK.below hb hbx) (And.intro fa (And.intro fb (And.intro (hs.below hbx) (And.intro (ht.below hbx) kx))))))
  have HB1 := Lib.hid hbx
  clear ha hb fa fb hs ht hbx kx
  go_enter Tryz.func4, Tryz.ntmps4
  go_upto_region 1 with fail
  generalize w0.alloc (.cells #[.int .i64 x0, .int .i64 x1, .int .i64 x2, .int .i64 x3, .int .i64 x4, .int .i64 x5] 29) = w1 at H HB1 ⊢
  obtain ⟨D, hD⟩ : ∃ y, w0.heap.size = y := ⟨_, rfl⟩
  rw [hD] at H ⊢
  clear hD
  by_cases h1 : (20 : Int) < (la.length : Int)
  · have h1d : decide ((20 : Int) < (la.length : Int)) = true := by simpa using h1
    go_wp2_with fail
    refine (awake12_ok w1 H.out.2.2.2.2.1 H.out.2.2.2.2.2.1).mono ?_
    rintro e wz ⟨rfl, hbz⟩
    have HZ := Lib.hid ((HB1.out).trans (hbz.mono (HB1.out).size))
    clear hbz
    go_wp2_with fail
    go_ret
    exact ⟨rfl, HZ.out⟩
  by_cases h2 : (20 : Int) < (lb.length : Int)
  · have h1d : decide ((20 : Int) < (la.length : Int)) = false := by simpa using h1
    have h2d : decide ((20 : Int) < (lb.length : Int)) = true := by simpa using h2
    go_wp2_with fail
    refine (awake12_ok w1 H.out.2.2.2.2.1 H.out.2.2.2.2.2.1).mono ?_
    rintro e wz ⟨rfl, hbz⟩
    have HZ := Lib.hid ((HB1.out).trans (hbz.mono (HB1.out).size))
    clear hbz
    go_wp2_with fail
    go_ret
    exact ⟨rfl, HZ.out⟩
  go_wp2_with fail
  refine (new_ok w1 _ _ la H.out.1 (by omega) H.out.2.2.1).mono ?_
  intro e w2 hnp
  obtain ⟨v2, n2, rfl, hnv⟩ := hnp.named
  obtain ⟨A2, m2, c2, rfl⟩ := hnv.slice
  have hb2 := hnv.1
  have hbf := one_new w2 (.cells #[.slice A2 m2 c2] 31)
  have kf := heap_alloc_new w2 (.cells #[.slice A2 m2 c2] 31)
  have H2 := Lib.hid (And.intro hnv.q (And.intro hb2 (And.intro hbf kf)))
  clear hnp hnv hb2 hbf kf
  go_upto_region 4 with fail
  have H3 := H2.out
  clear H2
  generalize w2.alloc (.cells #[.slice A2 m2 c2] 31) = w3 at H3 ⊢
  obtain ⟨FF, hFF⟩ : ∃ y, w2.heap.size = y := ⟨_, rfl⟩
  obtain ⟨q2, hb2, hbf, kf⟩ := H3
  have hb13 := hb2.trans (hbf.mono hb2.size)
  rw [hFF] at kf ⊢
  have H3 := Lib.hid (And.intro (q2.below hbf) (And.intro (RdK.below H.out.2.1 hb13) (And.intro (H.out.2.2.2.2.1.below hb13) (And.intro (H.out.2.2.2.2.2.1.below hb13) (And.intro (HB1.out.trans (hb13.mono HB1.out.size)) (And.intro ((Only.of_below hb13 (fun _ => False)).heap H.out.2.2.2.2.2.2 (fun h => h)) kf))))))
  clear q2 hb2 hbf kf hb13 hFF
  go_wp2_with fail
  refine (new_ok w3 _ _ lb H3.out.2.1 (by omega) H.out.2.2.2.1).mono ?_
  intro e w4 hnp
  obtain ⟨v4, n4, rfl, hnv⟩ := hnp.named
  obtain ⟨A4, m4, c4, rfl⟩ := hnv.slice
  have hb4 := hnv.1
  have hbg := one_new w4 (.cells #[.slice A4 m4 c4] 31)
  have kg := heap_alloc_new w4 (.cells #[.slice A4 m4 c4] 31)
  have H4 := Lib.hid (And.intro hnv.q (And.intro hb4 (And.intro hbg kg)))
  clear hnp hnv hb4 hbg kg
  go_upto_region 5 with fail
  have H5 := H4.out
  clear H4
  generalize w4.alloc (.cells #[.slice A4 m4 c4] 31) = w5 at H5 ⊢
  obtain ⟨GG, hGG⟩ : ∃ y, w4.heap.size = y := ⟨_, rfl⟩
  obtain ⟨q4, hb4, hbg, kg⟩ := H5
  have hb35 := hb4.trans (hbg.mono hb4.size)
  rw [hGG] at kg ⊢
  have H5 := Lib.hid (And.intro (H3.out.1.below hb35) (And.intro (q4.below hbg) (And.intro (H3.out.2.2.1.below hb35) (And.intro (H3.out.2.2.2.1.below hb35) (And.intro (H3.out.2.2.2.2.1.trans (hb35.mono H3.out.2.2.2.2.1.size)) (And.intro ((Only.of_below hb35 (fun _ => False)).heap H3.out.2.2.2.2.2.1 (fun h => h)) (And.intro ((Only.of_below hb35 (fun _ => False)).heap H3.out.2.2.2.2.2.2 (fun h => h)) kg)))))))
  clear q4 hb4 hbg kg hb35 hGG H3
  by_cases hn2 : n2 = 0
  · by_cases hn4 : n4 = 0
    · subst hn2 hn4
      obtain ⟨q2, q4, hs5, ht5, hb5, kD, kF, kG⟩ := H5.out
      rcases q2 with q2 | ⟨_, fl, rf, hfl⟩
      · exact absurd rfl q2
      rcases q4 with q4 | ⟨_, gl, rg, hgl⟩
      · exact absurd rfl q4
      obtain ⟨z0, z1, z2, z3, z4, z5⟩ := blk6 kD
      have y0 := blk_cell kF
      have y1 := blk_cell kG
      have hlD := lt_heap kD
      have hlF := lt_heap kF
      have hlG := lt_heap kG
      have hbp := one_new w5 (.cells #[.int .i64 x0, .int .i64 x1, .slice A2 m2 c2, .int .i64 x2] 36)
      have kp := heap_alloc_new w5 (.cells #[.int .i64 x0, .int .i64 x1, .slice A2 m2 c2, .int .i64 x2] 36)
      have hbq := one_new (w5.alloc (.cells #[.int .i64 x0, .int .i64 x1, .slice A2 m2 c2, .int .i64 x2] 36)) (.cells #[.int .i64 x3, .int .i64 x4, .slice A4 m4 c4, .int .i64 x5] 36)
      have kq := heap_alloc_new (w5.alloc (.cells #[.int .i64 x0, .int .i64 x1, .slice A2 m2 c2, .int .i64 x2] 36)) (.cells #[.int .i64 x3, .int .i64 x4, .slice A4 m4 c4, .int .i64 x5] 36)
      rw [show (w5.alloc (.cells #[.int .i64 x0, .int .i64 x1, .slice A2 m2 c2, .int .i64 x2] 36)).heap.size = w5.heap.size + 1 by simp] at kq
      have hb57 := hbp.trans (hbq.mono hbp.size)
      have H6 := Lib.hid (And.intro (RdK.below rf hb57) (And.intro (RdK.below rg hb57) (And.intro hfl (And.intro hgl (And.intro (hs5.below hb57) (And.intro (ht5.below hb57) (And.intro (hb5.trans (hb57.mono hb5.size)) (And.intro ((Only.of_below hb57 (fun _ => False)).heap kD (fun h => h)) (And.intro ((Only.of_below hb57 (fun _ => False)).heap kF (fun h => h)) (And.intro ((Only.of_below hb57 (fun _ => False)).heap kG (fun h => h)) (And.intro ((Only.of_below hbq (fun _ => False)).heap kp (fun h => h)) kq)))))))))))
      clear hs5 ht5 hb5 kD kF kG rf rg hbp kp hbq kq hfl hgl hb57
      go_upto_region 9 with fail
      have H7 := H6.out
      clear H6 z0 z1 z2 z3 z4 z5 y0 y1 hlD hlF hlG
      generalize (w5.alloc (.cells #[.int .i64 x0, .int .i64 x1, .slice A2 m2 c2, .int .i64 x2] 36)).alloc (.cells #[.int .i64 x3, .int .i64 x4, .slice A4 m4 c4, .int .i64 x5] 36) = w7 at H7 ⊢
      obtain ⟨XX, hXX⟩ : ∃ y, w5.heap.size = y := ⟨_, rfl⟩
      rw [hXX] at H7 ⊢
      obtain ⟨YY, hYY⟩ : ∃ y, XX + 1 = y := ⟨_, rfl⟩
      rw [hYY] at H7 ⊢
      clear hXX hYY
      obtain ⟨rf, rg, hfl, hgl, hs7, ht7, hb7, kD, kF, kG, kp, kq⟩ := H7
      obtain ⟨⟨a0, a1, a2, a3⟩, _⟩ := blk4z kp
      obtain ⟨⟨b0, b1, b2, b3⟩, _⟩ := blk4z kq
      obtain ⟨z0, z1, z2, z3, z4, z5⟩ := blk6 kD
      have y0 := blk_cell kF
      have y1 := blk_cell kG
      have HF := Lib.hid (And.intro rf (And.intro rg (And.intro (show fl.length ≤ 1000000 by omega) (And.intro (show gl.length ≤ 1000000 by omega) (And.intro hs7 (And.intro ht7 hb7))))))
      have hg3 := Tryz.guard3
      clear rf rg hfl hgl hs7 ht7 hb7 kD kF kG kp kq H5
      by_cases h3 : x0 = x3 ∧ x1 = x4 ∧ x2 = x5
      · obtain ⟨rfl, rfl, rfl⟩ := h3
        have hE : ∀ W, (Op.equalIn 10000 28 (.agg #[.int .i64 x0, .int .i64 x1, .int .i64 x2]) (.agg #[.int .i64 x0, .int .i64 x1, .int .i64 x2])).run Tryz.prog W = .ok true W := fun W => by rw [eq3]; simp
        obtain ⟨r, hr⟩ := bool_of (fl = gl)
        have hrr : Tells r ((⟨x0, x1, fl, x2⟩ : Res) = ⟨x0, x1, gl, x2⟩) := hr.congr (by simp)
        have hrs : Tells r ((⟨x0, x1, gl, x2⟩ : Res) = ⟨x0, x1, fl, x2⟩) := hrr.congr ⟨Eq.symm, Eq.symm⟩
        have HT := Lib.hid (And.intro hr (And.intro hrr hrs))
        clear hr hrr hrs
        cases r with
        | true =>
          refine wp_region_held_drew (S := (fun w' => Below w7.heap.size w7 w' ∧ w'.cell? ⟨XX, 0, none⟩ = some (.int .i64 x0) ∧ w'.cell? ⟨XX, 1, none⟩ = some (.int .i64 x1) ∧ w'.cell? ⟨XX, 2, none⟩ = some (.slice A2 m2 c2) ∧ w'.cell? ⟨XX, 3, none⟩ = some (.int .i64 x2) ∧ w'.cell? ⟨YY, 0, none⟩ = some (.int .i64 x0) ∧ w'.cell? ⟨YY, 1, none⟩ = some (.int .i64 x1) ∧ w'.cell? ⟨YY, 2, none⟩ = some (.slice A4 m4 c4) ∧ w'.cell? ⟨YY, 3, none⟩ = some (.int .i64 x2) ∧ w'.cell? ⟨D, 0, none⟩ = some (.int .i64 x0) ∧ w'.cell? ⟨D, 1, none⟩ = some (.int .i64 x1) ∧ w'.cell? ⟨D, 2, none⟩ = some (.int .i64 x2) ∧ w'.cell? ⟨D, 3, none⟩ = some (.int .i64 x0) ∧ w'.cell? ⟨D, 4, none⟩ = some (.int .i64 x1) ∧ w'.cell? ⟨D, 5, none⟩ = some (.int .i64 x2) ∧ w'.cell? ⟨FF, 0, none⟩ = some (.slice A2 m2 c2) ∧ w'.cell? ⟨GG, 0, none⟩ = some (.slice A4 m4 c4))) (by kernel_rfl) ⟨(Below.refl _ _).drew, a0, a1, a2, a3, b0, b1, b2, b3, z0, z1, z2, z3, z4, z5, y0, y1⟩ (fun hHeld => ?_)
          refine take_lit (i := 0) (v := ?_) rfl (by kernel_rfl) (by kernel_rfl) (by kernel_rfl) (fun _ _ _ h => h) (by rfl) (fun wS hSw => ?_) hHeld ?_
          rotate_left
          · obtain ⟨s0, s1, s2, s3, s4, s5, s6, s7, s8, s9, s10, s11, s12, s13, s14, s15, s16⟩ := hSw; go_simp; try with_reducible rfl
          try simp only [Act.put, List.setIfInBounds_toArray, List.set_cons_zero, List.set_cons_succ]
          refine take_lit (i := 1) (v := ?_) rfl (by kernel_rfl) (by kernel_rfl) (by kernel_rfl) (fun _ _ _ h => h) (by rfl) (fun wS hSw => ?_) hHeld ?_
          rotate_left
          · obtain ⟨s0, s1, s2, s3, s4, s5, s6, s7, s8, s9, s10, s11, s12, s13, s14, s15, s16⟩ := hSw; go_simp; try with_reducible rfl
          try simp only [Act.put, List.setIfInBounds_toArray, List.set_cons_zero, List.set_cons_succ]
          refine take_lit (i := 3) (v := ?_) rfl (by kernel_rfl) (by kernel_rfl) (by kernel_rfl) (fun _ _ _ h => h) (by rfl) (fun wS hSw => ?_) hHeld ?_
          rotate_left
          · obtain ⟨s0, s1, s2, s3, s4, s5, s6, s7, s8, s9, s10, s11, s12, s13, s14, s15, s16⟩ := hSw; go_simp; try with_reducible rfl
          try simp only [Act.put, List.setIfInBounds_toArray, List.set_cons_zero, List.set_cons_succ]
          refine take_lit (i := 4) (v := ?_) rfl (by kernel_rfl) (by kernel_rfl) (by kernel_rfl) (fun _ _ _ h => h) (by rfl) (fun wS hSw => ?_) hHeld ?_
          rotate_left
          · obtain ⟨s0, s1, s2, s3, s4, s5, s6, s7, s8, s9, s10, s11, s12, s13, s14, s15, s16⟩ := hSw; go_simp; try with_reducible rfl
          try simp only [Act.put, List.setIfInBounds_toArray, List.set_cons_zero, List.set_cons_succ]
          refine take_lit (i := 5) (v := ?_) rfl (by kernel_rfl) (by kernel_rfl) (by kernel_rfl) (fun _ _ _ h => h) (by rfl) (fun wS hSw => ?_) hHeld ?_
          rotate_left
          · obtain ⟨s0, s1, s2, s3, s4, s5, s6, s7, s8, s9, s10, s11, s12, s13, s14, s15, s16⟩ := hSw; go_simp; try with_reducible rfl
          try simp only [Act.put, List.setIfInBounds_toArray, List.set_cons_zero, List.set_cons_succ]
          refine take_lit (i := 6) (v := ?_) rfl (by kernel_rfl) (by kernel_rfl) (by kernel_rfl) (fun _ _ _ h => h) (by rfl) (fun wS hSw => ?_) hHeld ?_
          rotate_left
          · obtain ⟨s0, s1, s2, s3, s4, s5, s6, s7, s8, s9, s10, s11, s12, s13, s14, s15, s16⟩ := hSw; go_simp; try with_reducible rfl
          try simp only [Act.put, List.setIfInBounds_toArray, List.set_cons_zero, List.set_cons_succ]
          refine wpAnyH_ready (rs := [2, 7]) (by kernel_rfl) (by simp) (cons_lit (i := 2) rfl (fun K hK => ?_) (cons_lit (i := 7) rfl (fun K hK => ?_) AllReadyH.nil))
          · skip
            go_simp
            refine (runSame_is ⟨x0, x1, fl, x2⟩ ⟨x0, x1, gl, x2⟩ true HT.out.2.1 (RdK.below HF.out.1 hHeld.1) (RdK.below HF.out.2.1 hHeld.1) HF.out.2.2.1).mono ?_
            rintro e wn ⟨rfl, hbn⟩
            try go_simp
            refine hK.out _ _ (held16 hHeld hbn) (fun hHeld2 => ?_)
            clear hK K hHeld hbn
            have hHeld := hHeld2
            clear hHeld2
            try simp only [Act.put, List.setIfInBounds_toArray, List.set_cons_zero, List.set_cons_succ]
            refine wpAnyH_ready (rs := [7]) (by kernel_rfl) (by simp) (cons_lit (i := 7) rfl (fun K hK => ?_) AllReadyH.nil)
            go_simp
            refine hK.out _ _ hHeld (fun hHeld2 => ?_)
            clear hK K hHeld
            have hHeld := hHeld2
            clear hHeld2
            try simp only [Act.put, List.setIfInBounds_toArray, List.set_cons_zero, List.set_cons_succ]
            refine take_lit (i := 8) (v := ?_) rfl (by kernel_rfl) (by kernel_rfl) (by kernel_rfl) (fun _ _ _ h => h) (by rfl) (fun wS hSw => ?_) hHeld ?_
            rotate_left
            · obtain ⟨s0, s1, s2, s3, s4, s5, s6, s7, s8, s9, s10, s11, s12, s13, s14, s15, s16⟩ := hSw; go_simp; try with_reducible rfl
            try simp only [Act.put, List.setIfInBounds_toArray, List.set_cons_zero, List.set_cons_succ]
            refine take_lit (i := 9) (v := ?_) rfl (by kernel_rfl) (by kernel_rfl) (by kernel_rfl) (fun _ _ _ h => h) (by rfl) (fun wS hSw => ?_) hHeld ?_
            rotate_left
            · obtain ⟨s0, s1, s2, s3, s4, s5, s6, s7, s8, s9, s10, s11, s12, s13, s14, s15, s16⟩ := hSw; go_simp; try with_reducible rfl
            try simp only [Act.put, List.setIfInBounds_toArray, List.set_cons_zero, List.set_cons_succ]
            refine take_lit (i := 10) (v := ?_) rfl (by kernel_rfl) (by kernel_rfl) (by kernel_rfl) (fun _ _ _ h => h) (by rfl) (fun wS hSw => ?_) hHeld ?_
            rotate_left
            · obtain ⟨s0, s1, s2, s3, s4, s5, s6, s7, s8, s9, s10, s11, s12, s13, s14, s15, s16⟩ := hSw; go_simp; try with_reducible rfl
            try simp only [Act.put, List.setIfInBounds_toArray, List.set_cons_zero, List.set_cons_succ]
            refine wpAnyH_ready (rs := [11]) (by kernel_rfl) (by simp) (cons_lit (i := 11) rfl (fun K hK => ?_) AllReadyH.nil)
            go_simp
            refine (same_is true HT.out.1 (RdK.below HF.out.1 hHeld.1) (RdK.below HF.out.2.1 hHeld.1) HF.out.2.2.1).mono ?_
            rintro e wn ⟨rfl, hbn⟩
            try go_simp
            refine hK.out _ _ (held16 hHeld hbn) (fun hHeld2 => ?_)
            clear hK K hHeld hbn
            have hHeld := hHeld2
            clear hHeld2
            try simp only [Act.put, List.setIfInBounds_toArray, List.set_cons_zero, List.set_cons_succ]
            refine take_lit (i := 12) (v := ?_) rfl (by kernel_rfl) (by kernel_rfl) (by kernel_rfl) (fun _ _ _ h => h) (by rfl) (fun wS hSw => ?_) hHeld ?_
            rotate_left
            · obtain ⟨s0, s1, s2, s3, s4, s5, s6, s7, s8, s9, s10, s11, s12, s13, s14, s15, s16⟩ := hSw; go_simp; try with_reducible rfl
            try simp only [Act.put, List.setIfInBounds_toArray, List.set_cons_zero, List.set_cons_succ]
            refine take_lit (i := 13) (v := ?_) rfl (by kernel_rfl) (by kernel_rfl) (by kernel_rfl) (fun _ _ _ h => h) (by rfl) (fun wS hSw => ?_) hHeld ?_
            rotate_left
            · obtain ⟨s0, s1, s2, s3, s4, s5, s6, s7, s8, s9, s10, s11, s12, s13, s14, s15, s16⟩ := hSw; go_simp; try with_reducible rfl
            try simp only [Act.put, List.setIfInBounds_toArray, List.set_cons_zero, List.set_cons_succ]
            refine take_lit (i := 14) (v := ?_) rfl (by kernel_rfl) (by kernel_rfl) (by kernel_rfl) (fun _ _ _ h => h) (by rfl) (fun wS hSw => ?_) hHeld ?_
            rotate_left
            · obtain ⟨s0, s1, s2, s3, s4, s5, s6, s7, s8, s9, s10, s11, s12, s13, s14, s15, s16⟩ := hSw; go_simp; try with_reducible rfl
            try simp only [Act.put, List.setIfInBounds_toArray, List.set_cons_zero, List.set_cons_succ]
            refine take_lit (i := 15) (v := ?_) rfl (by kernel_rfl) (by kernel_rfl) (by kernel_rfl) (fun _ _ _ h => h) (by rfl) (fun wS hSw => ?_) hHeld ?_
            rotate_left
            · obtain ⟨s0, s1, s2, s3, s4, s5, s6, s7, s8, s9, s10, s11, s12, s13, s14, s15, s16⟩ := hSw; go_simp; try with_reducible rfl
            try simp only [Act.put, List.setIfInBounds_toArray, List.set_cons_zero, List.set_cons_succ]
            refine take_lit (i := 16) (v := ?_) rfl (by kernel_rfl) (by kernel_rfl) (by kernel_rfl) (fun _ _ _ h => h) (by rfl) (fun wS hSw => ?_) hHeld ?_
            rotate_left
            · obtain ⟨s0, s1, s2, s3, s4, s5, s6, s7, s8, s9, s10, s11, s12, s13, s14, s15, s16⟩ := hSw; go_simp; try with_reducible rfl
            try simp only [Act.put, List.setIfInBounds_toArray, List.set_cons_zero, List.set_cons_succ]
            refine wpAnyH_ready (rs := [17]) (by kernel_rfl) (by simp) (cons_lit (i := 17) rfl (fun K hK => ?_) AllReadyH.nil)
            go_simp
            refine (runSame_is ⟨x0, x1, fl, x2⟩ ⟨x0, x1, fl, x2⟩ true (.yes rfl) (RdK.below HF.out.1 hHeld.1) (RdK.below HF.out.1 hHeld.1) HF.out.2.2.1).mono ?_
            rintro e wn ⟨rfl, hbn⟩
            try go_simp
            refine hK.out _ _ (held16 hHeld hbn) (fun hHeld2 => ?_)
            clear hK K hHeld hbn
            have hHeld := hHeld2
            clear hHeld2
            try simp only [Act.put, List.setIfInBounds_toArray, List.set_cons_zero, List.set_cons_succ]
            refine take_lit (i := 18) (v := ?_) rfl (by kernel_rfl) (by kernel_rfl) (by kernel_rfl) (fun _ _ _ h => h) (by rfl) (fun wS hSw => ?_) hHeld ?_
            rotate_left
            · obtain ⟨s0, s1, s2, s3, s4, s5, s6, s7, s8, s9, s10, s11, s12, s13, s14, s15, s16⟩ := hSw; go_simp; try with_reducible rfl
            try simp only [Act.put, List.setIfInBounds_toArray, List.set_cons_zero, List.set_cons_succ]
            refine take_lit (i := 19) (v := ?_) rfl (by kernel_rfl) (by kernel_rfl) (by kernel_rfl) (fun _ _ _ h => h) (by rfl) (fun wS hSw => ?_) hHeld ?_
            rotate_left
            · obtain ⟨s0, s1, s2, s3, s4, s5, s6, s7, s8, s9, s10, s11, s12, s13, s14, s15, s16⟩ := hSw; go_simp; try with_reducible rfl
            try simp only [Act.put, List.setIfInBounds_toArray, List.set_cons_zero, List.set_cons_succ]
            refine take_lit (i := 20) (v := ?_) rfl (by kernel_rfl) (by kernel_rfl) (by kernel_rfl) (fun _ _ _ h => h) (by rfl) (fun wS hSw => ?_) hHeld ?_
            rotate_left
            · obtain ⟨s0, s1, s2, s3, s4, s5, s6, s7, s8, s9, s10, s11, s12, s13, s14, s15, s16⟩ := hSw; go_simp; try with_reducible rfl
            try simp only [Act.put, List.setIfInBounds_toArray, List.set_cons_zero, List.set_cons_succ]
            refine take_lit (i := 21) (v := ?_) rfl (by kernel_rfl) (by kernel_rfl) (by kernel_rfl) (fun _ _ _ h => h) (by rfl) (fun wS hSw => ?_) hHeld ?_
            rotate_left
            · obtain ⟨s0, s1, s2, s3, s4, s5, s6, s7, s8, s9, s10, s11, s12, s13, s14, s15, s16⟩ := hSw; go_simp; try with_reducible rfl
            try simp only [Act.put, List.setIfInBounds_toArray, List.set_cons_zero, List.set_cons_succ]
            refine take_lit (i := 23) (v := ?_) rfl (by kernel_rfl) (by kernel_rfl) (by kernel_rfl) (fun _ _ _ h => h) (by rfl) (fun wS hSw => ?_) hHeld ?_
            rotate_left
            · obtain ⟨s0, s1, s2, s3, s4, s5, s6, s7, s8, s9, s10, s11, s12, s13, s14, s15, s16⟩ := hSw; go_simp; try with_reducible rfl
            try simp only [Act.put, List.setIfInBounds_toArray, List.set_cons_zero, List.set_cons_succ]
            refine take_lit (i := 24) (v := ?_) rfl (by kernel_rfl) (by kernel_rfl) (by kernel_rfl) (fun _ _ _ h => h) (by rfl) (fun wS hSw => ?_) hHeld ?_
            rotate_left
            · obtain ⟨s0, s1, s2, s3, s4, s5, s6, s7, s8, s9, s10, s11, s12, s13, s14, s15, s16⟩ := hSw; go_simp; try with_reducible rfl
            try simp only [Act.put, List.setIfInBounds_toArray, List.set_cons_zero, List.set_cons_succ]
            refine wpAnyH_ready (rs := [22]) (by kernel_rfl) (by simp) (cons_lit (i := 22) rfl (fun K hK => ?_) AllReadyH.nil)
            go_simp
            refine (runSame_is ⟨x0, x1, gl, x2⟩ ⟨x0, x1, fl, x2⟩ true HT.out.2.2 (RdK.below HF.out.2.1 hHeld.1) (RdK.below HF.out.1 hHeld.1) HF.out.2.2.2.1).mono ?_
            rintro e wn ⟨rfl, hbn⟩
            try go_simp
            refine hK.out _ _ (held16 hHeld hbn) (fun hHeld2 => ?_)
            clear hK K hHeld hbn
            have hHeld := hHeld2
            clear hHeld2
            try simp only [Act.put, List.setIfInBounds_toArray, List.set_cons_zero, List.set_cons_succ]
            refine wpAnyH_ready (rs := [25]) (by kernel_rfl) (by simp) (cons_lit (i := 25) rfl (fun K hK => ?_) AllReadyH.nil)
            go_simp
            refine (runSame_is ⟨x0, x1, fl, x2⟩ ⟨x0, x1, gl, x2⟩ true HT.out.2.1 (RdK.below HF.out.1 hHeld.1) (RdK.below HF.out.2.1 hHeld.1) HF.out.2.2.1).mono ?_
            rintro e wn ⟨rfl, hbn⟩
            try go_simp
            refine hK.out _ _ (held16 hHeld hbn) (fun hHeld2 => ?_)
            clear hK K hHeld hbn
            have hHeld := hHeld2
            clear hHeld2
            try simp only [Act.put, List.setIfInBounds_toArray, List.set_cons_zero, List.set_cons_succ]
            refine take_lit (i := 26) (v := ?_) rfl (by kernel_rfl) (by kernel_rfl) (by kernel_rfl) (fun _ _ _ h => h) (by rfl) (fun wS hSw => ?_) hHeld ?_
            rotate_left
            · obtain ⟨s0, s1, s2, s3, s4, s5, s6, s7, s8, s9, s10, s11, s12, s13, s14, s15, s16⟩ := hSw; go_simp; try with_reducible rfl
            try simp only [Act.put, List.setIfInBounds_toArray, List.set_cons_zero, List.set_cons_succ]
            refine take_lit (i := 27) (v := ?_) rfl (by kernel_rfl) (by kernel_rfl) (by kernel_rfl) (fun _ _ _ h => h) (by rfl) (fun wS hSw => ?_) hHeld ?_
            rotate_left
            · obtain ⟨s0, s1, s2, s3, s4, s5, s6, s7, s8, s9, s10, s11, s12, s13, s14, s15, s16⟩ := hSw; go_simp; try with_reducible rfl
            try simp only [Act.put, List.setIfInBounds_toArray, List.set_cons_zero, List.set_cons_succ]
            refine take_lit (i := 28) (v := ?_) rfl (by kernel_rfl) (by kernel_rfl) (by kernel_rfl) (fun _ _ _ h => h) (by rfl) (fun wS hSw => ?_) hHeld ?_
            rotate_left
            · obtain ⟨s0, s1, s2, s3, s4, s5, s6, s7, s8, s9, s10, s11, s12, s13, s14, s15, s16⟩ := hSw; go_simp; try with_reducible rfl
            try simp only [Act.put, List.setIfInBounds_toArray, List.set_cons_zero, List.set_cons_succ]
            refine wpAnyH_ready (rs := [29]) (by kernel_rfl) (by simp) (cons_lit (i := 29) rfl (fun K hK => ?_) AllReadyH.nil)
            go_simp
            refine (awake12_ok _ (HF.out.2.2.2.2.1.below hHeld.1) (HF.out.2.2.2.2.2.1.below hHeld.1)).mono ?_
            rintro e wn ⟨rfl, hbn⟩
            try go_simp
            refine hK.out _ _ (held16 hHeld hbn) (fun hHeld2 => ?_)
            clear hK K hHeld hbn
            have hHeld := hHeld2
            clear hHeld2
            try simp only [Act.put, List.setIfInBounds_toArray, List.set_cons_zero, List.set_cons_succ]
            refine take_lit (i := 30) (v := ?_) rfl (by kernel_rfl) (by kernel_rfl) (by kernel_rfl) (fun _ _ _ h => h) (by rfl) (fun wS hSw => ?_) hHeld ?_
            rotate_left
            · obtain ⟨s0, s1, s2, s3, s4, s5, s6, s7, s8, s9, s10, s11, s12, s13, s14, s15, s16⟩ := hSw; go_simp; try with_reducible rfl
            try simp only [Act.put, List.setIfInBounds_toArray, List.set_cons_zero, List.set_cons_succ]
            refine take_lit (i := 31) (v := ?_) rfl (by kernel_rfl) (by kernel_rfl) (by kernel_rfl) (fun _ _ _ h => h) (by rfl) (fun wS hSw => ?_) hHeld ?_
            rotate_left
            · obtain ⟨s0, s1, s2, s3, s4, s5, s6, s7, s8, s9, s10, s11, s12, s13, s14, s15, s16⟩ := hSw; go_simp; try with_reducible rfl
            try simp only [Act.put, List.setIfInBounds_toArray, List.set_cons_zero, List.set_cons_succ]
            refine wpAnyH_done (by kernel_rfl) ?_ _
            have HZ := Lib.hid (HF.out.2.2.2.2.2.2.trans (hHeld.1.mono HF.out.2.2.2.2.2.2.size))
            clear hHeld
            go_wp2_with fail
            go_ret
            exact ⟨rfl, HZ.out⟩
          · skip
            go_simp
            refine hK.out _ _ hHeld (fun hHeld2 => ?_)
            clear hK K hHeld
            have hHeld := hHeld2
            clear hHeld2
            try simp only [Act.put, List.setIfInBounds_toArray, List.set_cons_zero, List.set_cons_succ]
            refine wpAnyH_ready (rs := [2]) (by kernel_rfl) (by simp) (cons_lit (i := 2) rfl (fun K hK => ?_) AllReadyH.nil)
            go_simp
            refine (runSame_is ⟨x0, x1, fl, x2⟩ ⟨x0, x1, gl, x2⟩ true HT.out.2.1 (RdK.below HF.out.1 hHeld.1) (RdK.below HF.out.2.1 hHeld.1) HF.out.2.2.1).mono ?_
            rintro e wn ⟨rfl, hbn⟩
            try go_simp
            refine hK.out _ _ (held16 hHeld hbn) (fun hHeld2 => ?_)
            clear hK K hHeld hbn
            have hHeld := hHeld2
            clear hHeld2
            try simp only [Act.put, List.setIfInBounds_toArray, List.set_cons_zero, List.set_cons_succ]
            refine take_lit (i := 8) (v := ?_) rfl (by kernel_rfl) (by kernel_rfl) (by kernel_rfl) (fun _ _ _ h => h) (by rfl) (fun wS hSw => ?_) hHeld ?_
            rotate_left
            · obtain ⟨s0, s1, s2, s3, s4, s5, s6, s7, s8, s9, s10, s11, s12, s13, s14, s15, s16⟩ := hSw; go_simp; try with_reducible rfl
            try simp only [Act.put, List.setIfInBounds_toArray, List.set_cons_zero, List.set_cons_succ]
            refine take_lit (i := 9) (v := ?_) rfl (by kernel_rfl) (by kernel_rfl) (by kernel_rfl) (fun _ _ _ h => h) (by rfl) (fun wS hSw => ?_) hHeld ?_
            rotate_left
            · obtain ⟨s0, s1, s2, s3, s4, s5, s6, s7, s8, s9, s10, s11, s12, s13, s14, s15, s16⟩ := hSw; go_simp; try with_reducible rfl
            try simp only [Act.put, List.setIfInBounds_toArray, List.set_cons_zero, List.set_cons_succ]
            refine take_lit (i := 10) (v := ?_) rfl (by kernel_rfl) (by kernel_rfl) (by kernel_rfl) (fun _ _ _ h => h) (by rfl) (fun wS hSw => ?_) hHeld ?_
            rotate_left
            · obtain ⟨s0, s1, s2, s3, s4, s5, s6, s7, s8, s9, s10, s11, s12, s13, s14, s15, s16⟩ := hSw; go_simp; try with_reducible rfl
            try simp only [Act.put, List.setIfInBounds_toArray, List.set_cons_zero, List.set_cons_succ]
            refine wpAnyH_ready (rs := [11]) (by kernel_rfl) (by simp) (cons_lit (i := 11) rfl (fun K hK => ?_) AllReadyH.nil)
            go_simp
            refine (same_is true HT.out.1 (RdK.below HF.out.1 hHeld.1) (RdK.below HF.out.2.1 hHeld.1) HF.out.2.2.1).mono ?_
            rintro e wn ⟨rfl, hbn⟩
            try go_simp
            refine hK.out _ _ (held16 hHeld hbn) (fun hHeld2 => ?_)
            clear hK K hHeld hbn
            have hHeld := hHeld2
            clear hHeld2
            try simp only [Act.put, List.setIfInBounds_toArray, List.set_cons_zero, List.set_cons_succ]
            refine take_lit (i := 12) (v := ?_) rfl (by kernel_rfl) (by kernel_rfl) (by kernel_rfl) (fun _ _ _ h => h) (by rfl) (fun wS hSw => ?_) hHeld ?_
            rotate_left
            · obtain ⟨s0, s1, s2, s3, s4, s5, s6, s7, s8, s9, s10, s11, s12, s13, s14, s15, s16⟩ := hSw; go_simp; try with_reducible rfl
            try simp only [Act.put, List.setIfInBounds_toArray, List.set_cons_zero, List.set_cons_succ]
            refine take_lit (i := 13) (v := ?_) rfl (by kernel_rfl) (by kernel_rfl) (by kernel_rfl) (fun _ _ _ h => h) (by rfl) (fun wS hSw => ?_) hHeld ?_
            rotate_left
            · obtain ⟨s0, s1, s2, s3, s4, s5, s6, s7, s8, s9, s10, s11, s12, s13, s14, s15, s16⟩ := hSw; go_simp; try with_reducible rfl
            try simp only [Act.put, List.setIfInBounds_toArray, List.set_cons_zero, List.set_cons_succ]
            refine take_lit (i := 14) (v := ?_) rfl (by kernel_rfl) (by kernel_rfl) (by kernel_rfl) (fun _ _ _ h => h) (by rfl) (fun wS hSw => ?_) hHeld ?_
            rotate_left
            · obtain ⟨s0, s1, s2, s3, s4, s5, s6, s7, s8, s9, s10, s11, s12, s13, s14, s15, s16⟩ := hSw; go_simp; try with_reducible rfl
            try simp only [Act.put, List.setIfInBounds_toArray, List.set_cons_zero, List.set_cons_succ]
            refine take_lit (i := 15) (v := ?_) rfl (by kernel_rfl) (by kernel_rfl) (by kernel_rfl) (fun _ _ _ h => h) (by rfl) (fun wS hSw => ?_) hHeld ?_
            rotate_left
            · obtain ⟨s0, s1, s2, s3, s4, s5, s6, s7, s8, s9, s10, s11, s12, s13, s14, s15, s16⟩ := hSw; go_simp; try with_reducible rfl
            try simp only [Act.put, List.setIfInBounds_toArray, List.set_cons_zero, List.set_cons_succ]
            refine take_lit (i := 16) (v := ?_) rfl (by kernel_rfl) (by kernel_rfl) (by kernel_rfl) (fun _ _ _ h => h) (by rfl) (fun wS hSw => ?_) hHeld ?_
            rotate_left
            · obtain ⟨s0, s1, s2, s3, s4, s5, s6, s7, s8, s9, s10, s11, s12, s13, s14, s15, s16⟩ := hSw; go_simp; try with_reducible rfl
            try simp only [Act.put, List.setIfInBounds_toArray, List.set_cons_zero, List.set_cons_succ]
            refine wpAnyH_ready (rs := [17]) (by kernel_rfl) (by simp) (cons_lit (i := 17) rfl (fun K hK => ?_) AllReadyH.nil)
            go_simp
            refine (runSame_is ⟨x0, x1, fl, x2⟩ ⟨x0, x1, fl, x2⟩ true (.yes rfl) (RdK.below HF.out.1 hHeld.1) (RdK.below HF.out.1 hHeld.1) HF.out.2.2.1).mono ?_
            rintro e wn ⟨rfl, hbn⟩
            try go_simp
            refine hK.out _ _ (held16 hHeld hbn) (fun hHeld2 => ?_)
            clear hK K hHeld hbn
            have hHeld := hHeld2
            clear hHeld2
            try simp only [Act.put, List.setIfInBounds_toArray, List.set_cons_zero, List.set_cons_succ]
            refine take_lit (i := 18) (v := ?_) rfl (by kernel_rfl) (by kernel_rfl) (by kernel_rfl) (fun _ _ _ h => h) (by rfl) (fun wS hSw => ?_) hHeld ?_
            rotate_left
            · obtain ⟨s0, s1, s2, s3, s4, s5, s6, s7, s8, s9, s10, s11, s12, s13, s14, s15, s16⟩ := hSw; go_simp; try with_reducible rfl
            try simp only [Act.put, List.setIfInBounds_toArray, List.set_cons_zero, List.set_cons_succ]
            refine take_lit (i := 19) (v := ?_) rfl (by kernel_rfl) (by kernel_rfl) (by kernel_rfl) (fun _ _ _ h => h) (by rfl) (fun wS hSw => ?_) hHeld ?_
            rotate_left
            · obtain ⟨s0, s1, s2, s3, s4, s5, s6, s7, s8, s9, s10, s11, s12, s13, s14, s15, s16⟩ := hSw; go_simp; try with_reducible rfl
            try simp only [Act.put, List.setIfInBounds_toArray, List.set_cons_zero, List.set_cons_succ]
            refine take_lit (i := 20) (v := ?_) rfl (by kernel_rfl) (by kernel_rfl) (by kernel_rfl) (fun _ _ _ h => h) (by rfl) (fun wS hSw => ?_) hHeld ?_
            rotate_left
            · obtain ⟨s0, s1, s2, s3, s4, s5, s6, s7, s8, s9, s10, s11, s12, s13, s14, s15, s16⟩ := hSw; go_simp; try with_reducible rfl
            try simp only [Act.put, List.setIfInBounds_toArray, List.set_cons_zero, List.set_cons_succ]
            refine take_lit (i := 21) (v := ?_) rfl (by kernel_rfl) (by kernel_rfl) (by kernel_rfl) (fun _ _ _ h => h) (by rfl) (fun wS hSw => ?_) hHeld ?_
            rotate_left
            · obtain ⟨s0, s1, s2, s3, s4, s5, s6, s7, s8, s9, s10, s11, s12, s13, s14, s15, s16⟩ := hSw; go_simp; try with_reducible rfl
            try simp only [Act.put, List.setIfInBounds_toArray, List.set_cons_zero, List.set_cons_succ]
            refine take_lit (i := 23) (v := ?_) rfl (by kernel_rfl) (by kernel_rfl) (by kernel_rfl) (fun _ _ _ h => h) (by rfl) (fun wS hSw => ?_) hHeld ?_
            rotate_left
            · obtain ⟨s0, s1, s2, s3, s4, s5, s6, s7, s8, s9, s10, s11, s12, s13, s14, s15, s16⟩ := hSw; go_simp; try with_reducible rfl
            try simp only [Act.put, List.setIfInBounds_toArray, List.set_cons_zero, List.set_cons_succ]
            refine take_lit (i := 24) (v := ?_) rfl (by kernel_rfl) (by kernel_rfl) (by kernel_rfl) (fun _ _ _ h => h) (by rfl) (fun wS hSw => ?_) hHeld ?_
            rotate_left
            · obtain ⟨s0, s1, s2, s3, s4, s5, s6, s7, s8, s9, s10, s11, s12, s13, s14, s15, s16⟩ := hSw; go_simp; try with_reducible rfl
            try simp only [Act.put, List.setIfInBounds_toArray, List.set_cons_zero, List.set_cons_succ]
            refine wpAnyH_ready (rs := [22]) (by kernel_rfl) (by simp) (cons_lit (i := 22) rfl (fun K hK => ?_) AllReadyH.nil)
            go_simp
            refine (runSame_is ⟨x0, x1, gl, x2⟩ ⟨x0, x1, fl, x2⟩ true HT.out.2.2 (RdK.below HF.out.2.1 hHeld.1) (RdK.below HF.out.1 hHeld.1) HF.out.2.2.2.1).mono ?_
            rintro e wn ⟨rfl, hbn⟩
            try go_simp
            refine hK.out _ _ (held16 hHeld hbn) (fun hHeld2 => ?_)
            clear hK K hHeld hbn
            have hHeld := hHeld2
            clear hHeld2
            try simp only [Act.put, List.setIfInBounds_toArray, List.set_cons_zero, List.set_cons_succ]
            refine wpAnyH_ready (rs := [25]) (by kernel_rfl) (by simp) (cons_lit (i := 25) rfl (fun K hK => ?_) AllReadyH.nil)
            go_simp
            refine (runSame_is ⟨x0, x1, fl, x2⟩ ⟨x0, x1, gl, x2⟩ true HT.out.2.1 (RdK.below HF.out.1 hHeld.1) (RdK.below HF.out.2.1 hHeld.1) HF.out.2.2.1).mono ?_
            rintro e wn ⟨rfl, hbn⟩
            try go_simp
            refine hK.out _ _ (held16 hHeld hbn) (fun hHeld2 => ?_)
            clear hK K hHeld hbn
            have hHeld := hHeld2
            clear hHeld2
            try simp only [Act.put, List.setIfInBounds_toArray, List.set_cons_zero, List.set_cons_succ]
            refine take_lit (i := 26) (v := ?_) rfl (by kernel_rfl) (by kernel_rfl) (by kernel_rfl) (fun _ _ _ h => h) (by rfl) (fun wS hSw => ?_) hHeld ?_
            rotate_left
            · obtain ⟨s0, s1, s2, s3, s4, s5, s6, s7, s8, s9, s10, s11, s12, s13, s14, s15, s16⟩ := hSw; go_simp; try with_reducible rfl
            try simp only [Act.put, List.setIfInBounds_toArray, List.set_cons_zero, List.set_cons_succ]
            refine take_lit (i := 27) (v := ?_) rfl (by kernel_rfl) (by kernel_rfl) (by kernel_rfl) (fun _ _ _ h => h) (by rfl) (fun wS hSw => ?_) hHeld ?_
            rotate_left
            · obtain ⟨s0, s1, s2, s3, s4, s5, s6, s7, s8, s9, s10, s11, s12, s13, s14, s15, s16⟩ := hSw; go_simp; try with_reducible rfl
            try simp only [Act.put, List.setIfInBounds_toArray, List.set_cons_zero, List.set_cons_succ]
            refine take_lit (i := 28) (v := ?_) rfl (by kernel_rfl) (by kernel_rfl) (by kernel_rfl) (fun _ _ _ h => h) (by rfl) (fun wS hSw => ?_) hHeld ?_
            rotate_left
            · obtain ⟨s0, s1, s2, s3, s4, s5, s6, s7, s8, s9, s10, s11, s12, s13, s14, s15, s16⟩ := hSw; go_simp; try with_reducible rfl
            try simp only [Act.put, List.setIfInBounds_toArray, List.set_cons_zero, List.set_cons_succ]
            refine wpAnyH_ready (rs := [29]) (by kernel_rfl) (by simp) (cons_lit (i := 29) rfl (fun K hK => ?_) AllReadyH.nil)
            go_simp
            refine (awake12_ok _ (HF.out.2.2.2.2.1.below hHeld.1) (HF.out.2.2.2.2.2.1.below hHeld.1)).mono ?_
            rintro e wn ⟨rfl, hbn⟩
            try go_simp
            refine hK.out _ _ (held16 hHeld hbn) (fun hHeld2 => ?_)
            clear hK K hHeld hbn
            have hHeld := hHeld2
            clear hHeld2
            try simp only [Act.put, List.setIfInBounds_toArray, List.set_cons_zero, List.set_cons_succ]
            refine take_lit (i := 30) (v := ?_) rfl (by kernel_rfl) (by kernel_rfl) (by kernel_rfl) (fun _ _ _ h => h) (by rfl) (fun wS hSw => ?_) hHeld ?_
            rotate_left
            · obtain ⟨s0, s1, s2, s3, s4, s5, s6, s7, s8, s9, s10, s11, s12, s13, s14, s15, s16⟩ := hSw; go_simp; try with_reducible rfl
            try simp only [Act.put, List.setIfInBounds_toArray, List.set_cons_zero, List.set_cons_succ]
            refine take_lit (i := 31) (v := ?_) rfl (by kernel_rfl) (by kernel_rfl) (by kernel_rfl) (fun _ _ _ h => h) (by rfl) (fun wS hSw => ?_) hHeld ?_
            rotate_left
            · obtain ⟨s0, s1, s2, s3, s4, s5, s6, s7, s8, s9, s10, s11, s12, s13, s14, s15, s16⟩ := hSw; go_simp; try with_reducible rfl
            try simp only [Act.put, List.setIfInBounds_toArray, List.set_cons_zero, List.set_cons_succ]
            refine wpAnyH_done (by kernel_rfl) ?_ _
            have HZ := Lib.hid (HF.out.2.2.2.2.2.2.trans (hHeld.1.mono HF.out.2.2.2.2.2.2.size))
            clear hHeld
            go_wp2_with fail
            go_ret
            exact ⟨rfl, HZ.out⟩
        | false =>
          refine wp_region_held_drew (S := (fun w' => Below w7.heap.size w7 w' ∧ w'.cell? ⟨XX, 0, none⟩ = some (.int .i64 x0) ∧ w'.cell? ⟨XX, 1, none⟩ = some (.int .i64 x1) ∧ w'.cell? ⟨XX, 2, none⟩ = some (.slice A2 m2 c2) ∧ w'.cell? ⟨XX, 3, none⟩ = some (.int .i64 x2) ∧ w'.cell? ⟨YY, 0, none⟩ = some (.int .i64 x0) ∧ w'.cell? ⟨YY, 1, none⟩ = some (.int .i64 x1) ∧ w'.cell? ⟨YY, 2, none⟩ = some (.slice A4 m4 c4) ∧ w'.cell? ⟨YY, 3, none⟩ = some (.int .i64 x2) ∧ w'.cell? ⟨D, 0, none⟩ = some (.int .i64 x0) ∧ w'.cell? ⟨D, 1, none⟩ = some (.int .i64 x1) ∧ w'.cell? ⟨D, 2, none⟩ = some (.int .i64 x2) ∧ w'.cell? ⟨D, 3, none⟩ = some (.int .i64 x0) ∧ w'.cell? ⟨D, 4, none⟩ = some (.int .i64 x1) ∧ w'.cell? ⟨D, 5, none⟩ = some (.int .i64 x2) ∧ w'.cell? ⟨FF, 0, none⟩ = some (.slice A2 m2 c2) ∧ w'.cell? ⟨GG, 0, none⟩ = some (.slice A4 m4 c4))) (by kernel_rfl) ⟨(Below.refl _ _).drew, a0, a1, a2, a3, b0, b1, b2, b3, z0, z1, z2, z3, z4, z5, y0, y1⟩ (fun hHeld => ?_)
          refine take_lit (i := 0) (v := ?_) rfl (by kernel_rfl) (by kernel_rfl) (by kernel_rfl) (fun _ _ _ h => h) (by rfl) (fun wS hSw => ?_) hHeld ?_
          rotate_left
          · obtain ⟨s0, s1, s2, s3, s4, s5, s6, s7, s8, s9, s10, s11, s12, s13, s14, s15, s16⟩ := hSw; go_simp; try with_reducible rfl
          try simp only [Act.put, List.setIfInBounds_toArray, List.set_cons_zero, List.set_cons_succ]
          refine take_lit (i := 1) (v := ?_) rfl (by kernel_rfl) (by kernel_rfl) (by kernel_rfl) (fun _ _ _ h => h) (by rfl) (fun wS hSw => ?_) hHeld ?_
          rotate_left
          · obtain ⟨s0, s1, s2, s3, s4, s5, s6, s7, s8, s9, s10, s11, s12, s13, s14, s15, s16⟩ := hSw; go_simp; try with_reducible rfl
          try simp only [Act.put, List.setIfInBounds_toArray, List.set_cons_zero, List.set_cons_succ]
          refine take_lit (i := 3) (v := ?_) rfl (by kernel_rfl) (by kernel_rfl) (by kernel_rfl) (fun _ _ _ h => h) (by rfl) (fun wS hSw => ?_) hHeld ?_
          rotate_left
          · obtain ⟨s0, s1, s2, s3, s4, s5, s6, s7, s8, s9, s10, s11, s12, s13, s14, s15, s16⟩ := hSw; go_simp; try with_reducible rfl
          try simp only [Act.put, List.setIfInBounds_toArray, List.set_cons_zero, List.set_cons_succ]
          refine take_lit (i := 4) (v := ?_) rfl (by kernel_rfl) (by kernel_rfl) (by kernel_rfl) (fun _ _ _ h => h) (by rfl) (fun wS hSw => ?_) hHeld ?_
          rotate_left
          · obtain ⟨s0, s1, s2, s3, s4, s5, s6, s7, s8, s9, s10, s11, s12, s13, s14, s15, s16⟩ := hSw; go_simp; try with_reducible rfl
          try simp only [Act.put, List.setIfInBounds_toArray, List.set_cons_zero, List.set_cons_succ]
          refine take_lit (i := 5) (v := ?_) rfl (by kernel_rfl) (by kernel_rfl) (by kernel_rfl) (fun _ _ _ h => h) (by rfl) (fun wS hSw => ?_) hHeld ?_
          rotate_left
          · obtain ⟨s0, s1, s2, s3, s4, s5, s6, s7, s8, s9, s10, s11, s12, s13, s14, s15, s16⟩ := hSw; go_simp; try with_reducible rfl
          try simp only [Act.put, List.setIfInBounds_toArray, List.set_cons_zero, List.set_cons_succ]
          refine take_lit (i := 6) (v := ?_) rfl (by kernel_rfl) (by kernel_rfl) (by kernel_rfl) (fun _ _ _ h => h) (by rfl) (fun wS hSw => ?_) hHeld ?_
          rotate_left
          · obtain ⟨s0, s1, s2, s3, s4, s5, s6, s7, s8, s9, s10, s11, s12, s13, s14, s15, s16⟩ := hSw; go_simp; try with_reducible rfl
          try simp only [Act.put, List.setIfInBounds_toArray, List.set_cons_zero, List.set_cons_succ]
          refine wpAnyH_ready (rs := [2, 7]) (by kernel_rfl) (by simp) (cons_lit (i := 2) rfl (fun K hK => ?_) (cons_lit (i := 7) rfl (fun K hK => ?_) AllReadyH.nil))
          · skip
            go_simp
            refine (runSame_is ⟨x0, x1, fl, x2⟩ ⟨x0, x1, gl, x2⟩ false HT.out.2.1 (RdK.below HF.out.1 hHeld.1) (RdK.below HF.out.2.1 hHeld.1) HF.out.2.2.1).mono ?_
            rintro e wn ⟨rfl, hbn⟩
            try go_simp
            refine hK.out _ _ (held16 hHeld hbn) (fun hHeld2 => ?_)
            clear hK K hHeld hbn
            have hHeld := hHeld2
            clear hHeld2
            try simp only [Act.put, List.setIfInBounds_toArray, List.set_cons_zero, List.set_cons_succ]
            refine wpAnyH_ready (rs := [7]) (by kernel_rfl) (by simp) (cons_lit (i := 7) rfl (fun K hK => ?_) AllReadyH.nil)
            go_simp
            refine hK.out _ _ hHeld (fun hHeld2 => ?_)
            clear hK K hHeld
            have hHeld := hHeld2
            clear hHeld2
            try simp only [Act.put, List.setIfInBounds_toArray, List.set_cons_zero, List.set_cons_succ]
            refine take_lit (i := 8) (v := ?_) rfl (by kernel_rfl) (by kernel_rfl) (by kernel_rfl) (fun _ _ _ h => h) (by rfl) (fun wS hSw => ?_) hHeld ?_
            rotate_left
            · obtain ⟨s0, s1, s2, s3, s4, s5, s6, s7, s8, s9, s10, s11, s12, s13, s14, s15, s16⟩ := hSw; go_simp; try with_reducible rfl
            try simp only [Act.put, List.setIfInBounds_toArray, List.set_cons_zero, List.set_cons_succ]
            refine take_lit (i := 9) (v := ?_) rfl (by kernel_rfl) (by kernel_rfl) (by kernel_rfl) (fun _ _ _ h => h) (by rfl) (fun wS hSw => ?_) hHeld ?_
            rotate_left
            · obtain ⟨s0, s1, s2, s3, s4, s5, s6, s7, s8, s9, s10, s11, s12, s13, s14, s15, s16⟩ := hSw; go_simp; try with_reducible rfl
            try simp only [Act.put, List.setIfInBounds_toArray, List.set_cons_zero, List.set_cons_succ]
            refine take_lit (i := 10) (v := ?_) rfl (by kernel_rfl) (by kernel_rfl) (by kernel_rfl) (fun _ _ _ h => h) (by rfl) (fun wS hSw => ?_) hHeld ?_
            rotate_left
            · obtain ⟨s0, s1, s2, s3, s4, s5, s6, s7, s8, s9, s10, s11, s12, s13, s14, s15, s16⟩ := hSw; go_simp; try with_reducible rfl
            try simp only [Act.put, List.setIfInBounds_toArray, List.set_cons_zero, List.set_cons_succ]
            refine wpAnyH_ready (rs := [11]) (by kernel_rfl) (by simp) (cons_lit (i := 11) rfl (fun K hK => ?_) AllReadyH.nil)
            go_simp
            refine (same_is false HT.out.1 (RdK.below HF.out.1 hHeld.1) (RdK.below HF.out.2.1 hHeld.1) HF.out.2.2.1).mono ?_
            rintro e wn ⟨rfl, hbn⟩
            try go_simp
            refine hK.out _ _ (held16 hHeld hbn) (fun hHeld2 => ?_)
            clear hK K hHeld hbn
            have hHeld := hHeld2
            clear hHeld2
            try simp only [Act.put, List.setIfInBounds_toArray, List.set_cons_zero, List.set_cons_succ]
            refine take_lit (i := 12) (v := ?_) rfl (by kernel_rfl) (by kernel_rfl) (by kernel_rfl) (fun _ _ _ h => h) (by rfl) (fun wS hSw => ?_) hHeld ?_
            rotate_left
            · obtain ⟨s0, s1, s2, s3, s4, s5, s6, s7, s8, s9, s10, s11, s12, s13, s14, s15, s16⟩ := hSw; go_simp; try with_reducible rfl
            try simp only [Act.put, List.setIfInBounds_toArray, List.set_cons_zero, List.set_cons_succ]
            refine take_lit (i := 13) (v := ?_) rfl (by kernel_rfl) (by kernel_rfl) (by kernel_rfl) (fun _ _ _ h => h) (by rfl) (fun wS hSw => ?_) hHeld ?_
            rotate_left
            · obtain ⟨s0, s1, s2, s3, s4, s5, s6, s7, s8, s9, s10, s11, s12, s13, s14, s15, s16⟩ := hSw; go_simp; try with_reducible rfl
            try simp only [Act.put, List.setIfInBounds_toArray, List.set_cons_zero, List.set_cons_succ]
            refine take_lit (i := 14) (v := ?_) rfl (by kernel_rfl) (by kernel_rfl) (by kernel_rfl) (fun _ _ _ h => h) (by rfl) (fun wS hSw => ?_) hHeld ?_
            rotate_left
            · obtain ⟨s0, s1, s2, s3, s4, s5, s6, s7, s8, s9, s10, s11, s12, s13, s14, s15, s16⟩ := hSw; go_simp; try with_reducible rfl
            try simp only [Act.put, List.setIfInBounds_toArray, List.set_cons_zero, List.set_cons_succ]
            refine take_lit (i := 15) (v := ?_) rfl (by kernel_rfl) (by kernel_rfl) (by kernel_rfl) (fun _ _ _ h => h) (by rfl) (fun wS hSw => ?_) hHeld ?_
            rotate_left
            · obtain ⟨s0, s1, s2, s3, s4, s5, s6, s7, s8, s9, s10, s11, s12, s13, s14, s15, s16⟩ := hSw; go_simp; try with_reducible rfl
            try simp only [Act.put, List.setIfInBounds_toArray, List.set_cons_zero, List.set_cons_succ]
            refine take_lit (i := 16) (v := ?_) rfl (by kernel_rfl) (by kernel_rfl) (by kernel_rfl) (fun _ _ _ h => h) (by rfl) (fun wS hSw => ?_) hHeld ?_
            rotate_left
            · obtain ⟨s0, s1, s2, s3, s4, s5, s6, s7, s8, s9, s10, s11, s12, s13, s14, s15, s16⟩ := hSw; go_simp; try with_reducible rfl
            try simp only [Act.put, List.setIfInBounds_toArray, List.set_cons_zero, List.set_cons_succ]
            refine wpAnyH_ready (rs := [17]) (by kernel_rfl) (by simp) (cons_lit (i := 17) rfl (fun K hK => ?_) AllReadyH.nil)
            go_simp
            refine (runSame_is ⟨x0, x1, fl, x2⟩ ⟨x0, x1, fl, x2⟩ true (.yes rfl) (RdK.below HF.out.1 hHeld.1) (RdK.below HF.out.1 hHeld.1) HF.out.2.2.1).mono ?_
            rintro e wn ⟨rfl, hbn⟩
            try go_simp
            refine hK.out _ _ (held16 hHeld hbn) (fun hHeld2 => ?_)
            clear hK K hHeld hbn
            have hHeld := hHeld2
            clear hHeld2
            try simp only [Act.put, List.setIfInBounds_toArray, List.set_cons_zero, List.set_cons_succ]
            refine take_lit (i := 18) (v := ?_) rfl (by kernel_rfl) (by kernel_rfl) (by kernel_rfl) (fun _ _ _ h => h) (by rfl) (fun wS hSw => ?_) hHeld ?_
            rotate_left
            · obtain ⟨s0, s1, s2, s3, s4, s5, s6, s7, s8, s9, s10, s11, s12, s13, s14, s15, s16⟩ := hSw; go_simp; try with_reducible rfl
            try simp only [Act.put, List.setIfInBounds_toArray, List.set_cons_zero, List.set_cons_succ]
            refine take_lit (i := 19) (v := ?_) rfl (by kernel_rfl) (by kernel_rfl) (by kernel_rfl) (fun _ _ _ h => h) (by rfl) (fun wS hSw => ?_) hHeld ?_
            rotate_left
            · obtain ⟨s0, s1, s2, s3, s4, s5, s6, s7, s8, s9, s10, s11, s12, s13, s14, s15, s16⟩ := hSw; go_simp; try with_reducible rfl
            try simp only [Act.put, List.setIfInBounds_toArray, List.set_cons_zero, List.set_cons_succ]
            refine take_lit (i := 20) (v := ?_) rfl (by kernel_rfl) (by kernel_rfl) (by kernel_rfl) (fun _ _ _ h => h) (by rfl) (fun wS hSw => ?_) hHeld ?_
            rotate_left
            · obtain ⟨s0, s1, s2, s3, s4, s5, s6, s7, s8, s9, s10, s11, s12, s13, s14, s15, s16⟩ := hSw; go_simp; try with_reducible rfl
            try simp only [Act.put, List.setIfInBounds_toArray, List.set_cons_zero, List.set_cons_succ]
            refine take_lit (i := 21) (v := ?_) rfl (by kernel_rfl) (by kernel_rfl) (by kernel_rfl) (fun _ _ _ h => h) (by rfl) (fun wS hSw => ?_) hHeld ?_
            rotate_left
            · obtain ⟨s0, s1, s2, s3, s4, s5, s6, s7, s8, s9, s10, s11, s12, s13, s14, s15, s16⟩ := hSw; go_simp; try with_reducible rfl
            try simp only [Act.put, List.setIfInBounds_toArray, List.set_cons_zero, List.set_cons_succ]
            refine take_lit (i := 23) (v := ?_) rfl (by kernel_rfl) (by kernel_rfl) (by kernel_rfl) (fun _ _ _ h => h) (by rfl) (fun wS hSw => ?_) hHeld ?_
            rotate_left
            · obtain ⟨s0, s1, s2, s3, s4, s5, s6, s7, s8, s9, s10, s11, s12, s13, s14, s15, s16⟩ := hSw; go_simp; try with_reducible rfl
            try simp only [Act.put, List.setIfInBounds_toArray, List.set_cons_zero, List.set_cons_succ]
            refine take_lit (i := 24) (v := ?_) rfl (by kernel_rfl) (by kernel_rfl) (by kernel_rfl) (fun _ _ _ h => h) (by rfl) (fun wS hSw => ?_) hHeld ?_
            rotate_left
            · obtain ⟨s0, s1, s2, s3, s4, s5, s6, s7, s8, s9, s10, s11, s12, s13, s14, s15, s16⟩ := hSw; go_simp; try with_reducible rfl
            try simp only [Act.put, List.setIfInBounds_toArray, List.set_cons_zero, List.set_cons_succ]
            refine wpAnyH_ready (rs := [22]) (by kernel_rfl) (by simp) (cons_lit (i := 22) rfl (fun K hK => ?_) AllReadyH.nil)
            go_simp
            refine (runSame_is ⟨x0, x1, gl, x2⟩ ⟨x0, x1, fl, x2⟩ false HT.out.2.2 (RdK.below HF.out.2.1 hHeld.1) (RdK.below HF.out.1 hHeld.1) HF.out.2.2.2.1).mono ?_
            rintro e wn ⟨rfl, hbn⟩
            try go_simp
            refine hK.out _ _ (held16 hHeld hbn) (fun hHeld2 => ?_)
            clear hK K hHeld hbn
            have hHeld := hHeld2
            clear hHeld2
            try simp only [Act.put, List.setIfInBounds_toArray, List.set_cons_zero, List.set_cons_succ]
            refine wpAnyH_ready (rs := [25]) (by kernel_rfl) (by simp) (cons_lit (i := 25) rfl (fun K hK => ?_) AllReadyH.nil)
            go_simp
            refine (runSame_is ⟨x0, x1, fl, x2⟩ ⟨x0, x1, gl, x2⟩ false HT.out.2.1 (RdK.below HF.out.1 hHeld.1) (RdK.below HF.out.2.1 hHeld.1) HF.out.2.2.1).mono ?_
            rintro e wn ⟨rfl, hbn⟩
            try go_simp
            refine hK.out _ _ (held16 hHeld hbn) (fun hHeld2 => ?_)
            clear hK K hHeld hbn
            have hHeld := hHeld2
            clear hHeld2
            try simp only [Act.put, List.setIfInBounds_toArray, List.set_cons_zero, List.set_cons_succ]
            refine take_lit (i := 26) (v := ?_) rfl (by kernel_rfl) (by kernel_rfl) (by kernel_rfl) (fun _ _ _ h => h) (by rfl) (fun wS hSw => ?_) hHeld ?_
            rotate_left
            · obtain ⟨s0, s1, s2, s3, s4, s5, s6, s7, s8, s9, s10, s11, s12, s13, s14, s15, s16⟩ := hSw; go_simp; try with_reducible rfl
            try simp only [Act.put, List.setIfInBounds_toArray, List.set_cons_zero, List.set_cons_succ]
            refine take_lit (i := 27) (v := ?_) rfl (by kernel_rfl) (by kernel_rfl) (by kernel_rfl) (fun _ _ _ h => h) (by rfl) (fun wS hSw => ?_) hHeld ?_
            rotate_left
            · obtain ⟨s0, s1, s2, s3, s4, s5, s6, s7, s8, s9, s10, s11, s12, s13, s14, s15, s16⟩ := hSw; go_simp; try with_reducible rfl
            try simp only [Act.put, List.setIfInBounds_toArray, List.set_cons_zero, List.set_cons_succ]
            refine take_lit (i := 28) (v := ?_) rfl (by kernel_rfl) (by kernel_rfl) (by kernel_rfl) (fun _ _ _ h => h) (by rfl) (fun wS hSw => ?_) hHeld ?_
            rotate_left
            · obtain ⟨s0, s1, s2, s3, s4, s5, s6, s7, s8, s9, s10, s11, s12, s13, s14, s15, s16⟩ := hSw; go_simp; try with_reducible rfl
            try simp only [Act.put, List.setIfInBounds_toArray, List.set_cons_zero, List.set_cons_succ]
            refine wpAnyH_ready (rs := [29]) (by kernel_rfl) (by simp) (cons_lit (i := 29) rfl (fun K hK => ?_) AllReadyH.nil)
            go_simp
            refine (awake12_ok _ (HF.out.2.2.2.2.1.below hHeld.1) (HF.out.2.2.2.2.2.1.below hHeld.1)).mono ?_
            rintro e wn ⟨rfl, hbn⟩
            try go_simp
            refine hK.out _ _ (held16 hHeld hbn) (fun hHeld2 => ?_)
            clear hK K hHeld hbn
            have hHeld := hHeld2
            clear hHeld2
            try simp only [Act.put, List.setIfInBounds_toArray, List.set_cons_zero, List.set_cons_succ]
            refine take_lit (i := 30) (v := ?_) rfl (by kernel_rfl) (by kernel_rfl) (by kernel_rfl) (fun _ _ _ h => h) (by rfl) (fun wS hSw => ?_) hHeld ?_
            rotate_left
            · obtain ⟨s0, s1, s2, s3, s4, s5, s6, s7, s8, s9, s10, s11, s12, s13, s14, s15, s16⟩ := hSw; go_simp; try with_reducible rfl
            try simp only [Act.put, List.setIfInBounds_toArray, List.set_cons_zero, List.set_cons_succ]
            refine take_lit (i := 31) (v := ?_) rfl (by kernel_rfl) (by kernel_rfl) (by kernel_rfl) (fun _ _ _ h => h) (by rfl) (fun wS hSw => ?_) hHeld ?_
            rotate_left
            · obtain ⟨s0, s1, s2, s3, s4, s5, s6, s7, s8, s9, s10, s11, s12, s13, s14, s15, s16⟩ := hSw; go_simp; try with_reducible rfl
            try simp only [Act.put, List.setIfInBounds_toArray, List.set_cons_zero, List.set_cons_succ]
            refine wpAnyH_done (by kernel_rfl) ?_ _
            have HZ := Lib.hid (HF.out.2.2.2.2.2.2.trans (hHeld.1.mono HF.out.2.2.2.2.2.2.size))
            clear hHeld
            go_wp2_with fail
            go_ret
            exact ⟨rfl, HZ.out⟩
          · skip
            go_simp
            refine hK.out _ _ hHeld (fun hHeld2 => ?_)
            clear hK K hHeld
            have hHeld := hHeld2
            clear hHeld2
            try simp only [Act.put, List.setIfInBounds_toArray, List.set_cons_zero, List.set_cons_succ]
            refine wpAnyH_ready (rs := [2]) (by kernel_rfl) (by simp) (cons_lit (i := 2) rfl (fun K hK => ?_) AllReadyH.nil)
            go_simp
            refine (runSame_is ⟨x0, x1, fl, x2⟩ ⟨x0, x1, gl, x2⟩ false HT.out.2.1 (RdK.below HF.out.1 hHeld.1) (RdK.below HF.out.2.1 hHeld.1) HF.out.2.2.1).mono ?_
            rintro e wn ⟨rfl, hbn⟩
            try go_simp
            refine hK.out _ _ (held16 hHeld hbn) (fun hHeld2 => ?_)
            clear hK K hHeld hbn
            have hHeld := hHeld2
            clear hHeld2
            try simp only [Act.put, List.setIfInBounds_toArray, List.set_cons_zero, List.set_cons_succ]
            refine take_lit (i := 8) (v := ?_) rfl (by kernel_rfl) (by kernel_rfl) (by kernel_rfl) (fun _ _ _ h => h) (by rfl) (fun wS hSw => ?_) hHeld ?_
            rotate_left
            · obtain ⟨s0, s1, s2, s3, s4, s5, s6, s7, s8, s9, s10, s11, s12, s13, s14, s15, s16⟩ := hSw; go_simp; try with_reducible rfl
            try simp only [Act.put, List.setIfInBounds_toArray, List.set_cons_zero, List.set_cons_succ]
            refine take_lit (i := 9) (v := ?_) rfl (by kernel_rfl) (by kernel_rfl) (by kernel_rfl) (fun _ _ _ h => h) (by rfl) (fun wS hSw => ?_) hHeld ?_
            rotate_left
            · obtain ⟨s0, s1, s2, s3, s4, s5, s6, s7, s8, s9, s10, s11, s12, s13, s14, s15, s16⟩ := hSw; go_simp; try with_reducible rfl
            try simp only [Act.put, List.setIfInBounds_toArray, List.set_cons_zero, List.set_cons_succ]
            refine take_lit (i := 10) (v := ?_) rfl (by kernel_rfl) (by kernel_rfl) (by kernel_rfl) (fun _ _ _ h => h) (by rfl) (fun wS hSw => ?_) hHeld ?_
            rotate_left
            · obtain ⟨s0, s1, s2, s3, s4, s5, s6, s7, s8, s9, s10, s11, s12, s13, s14, s15, s16⟩ := hSw; go_simp; try with_reducible rfl
            try simp only [Act.put, List.setIfInBounds_toArray, List.set_cons_zero, List.set_cons_succ]
            refine wpAnyH_ready (rs := [11]) (by kernel_rfl) (by simp) (cons_lit (i := 11) rfl (fun K hK => ?_) AllReadyH.nil)
            go_simp
            refine (same_is false HT.out.1 (RdK.below HF.out.1 hHeld.1) (RdK.below HF.out.2.1 hHeld.1) HF.out.2.2.1).mono ?_
            rintro e wn ⟨rfl, hbn⟩
            try go_simp
            refine hK.out _ _ (held16 hHeld hbn) (fun hHeld2 => ?_)
            clear hK K hHeld hbn
            have hHeld := hHeld2
            clear hHeld2
            try simp only [Act.put, List.setIfInBounds_toArray, List.set_cons_zero, List.set_cons_succ]
            refine take_lit (i := 12) (v := ?_) rfl (by kernel_rfl) (by kernel_rfl) (by kernel_rfl) (fun _ _ _ h => h) (by rfl) (fun wS hSw => ?_) hHeld ?_
            rotate_left
            · obtain ⟨s0, s1, s2, s3, s4, s5, s6, s7, s8, s9, s10, s11, s12, s13, s14, s15, s16⟩ := hSw; go_simp; try with_reducible rfl
            try simp only [Act.put, List.setIfInBounds_toArray, List.set_cons_zero, List.set_cons_succ]
            refine take_lit (i := 13) (v := ?_) rfl (by kernel_rfl) (by kernel_rfl) (by kernel_rfl) (fun _ _ _ h => h) (by rfl) (fun wS hSw => ?_) hHeld ?_
            rotate_left
            · obtain ⟨s0, s1, s2, s3, s4, s5, s6, s7, s8, s9, s10, s11, s12, s13, s14, s15, s16⟩ := hSw; go_simp; try with_reducible rfl
            try simp only [Act.put, List.setIfInBounds_toArray, List.set_cons_zero, List.set_cons_succ]
            refine take_lit (i := 14) (v := ?_) rfl (by kernel_rfl) (by kernel_rfl) (by kernel_rfl) (fun _ _ _ h => h) (by rfl) (fun wS hSw => ?_) hHeld ?_
            rotate_left
            · obtain ⟨s0, s1, s2, s3, s4, s5, s6, s7, s8, s9, s10, s11, s12, s13, s14, s15, s16⟩ := hSw; go_simp; try with_reducible rfl
            try simp only [Act.put, List.setIfInBounds_toArray, List.set_cons_zero, List.set_cons_succ]
            refine take_lit (i := 15) (v := ?_) rfl (by kernel_rfl) (by kernel_rfl) (by kernel_rfl) (fun _ _ _ h => h) (by rfl) (fun wS hSw => ?_) hHeld ?_
            rotate_left
            · obtain ⟨s0, s1, s2, s3, s4, s5, s6, s7, s8, s9, s10, s11, s12, s13, s14, s15, s16⟩ := hSw; go_simp; try with_reducible rfl
            try simp only [Act.put, List.setIfInBounds_toArray, List.set_cons_zero, List.set_cons_succ]
            refine take_lit (i := 16) (v := ?_) rfl (by kernel_rfl) (by kernel_rfl) (by kernel_rfl) (fun _ _ _ h => h) (by rfl) (fun wS hSw => ?_) hHeld ?_
            rotate_left
            · obtain ⟨s0, s1, s2, s3, s4, s5, s6, s7, s8, s9, s10, s11, s12, s13, s14, s15, s16⟩ := hSw; go_simp; try with_reducible rfl
            try simp only [Act.put, List.setIfInBounds_toArray, List.set_cons_zero, List.set_cons_succ]
            refine wpAnyH_ready (rs := [17]) (by kernel_rfl) (by simp) (cons_lit (i := 17) rfl (fun K hK => ?_) AllReadyH.nil)
            go_simp
            refine (runSame_is ⟨x0, x1, fl, x2⟩ ⟨x0, x1, fl, x2⟩ true (.yes rfl) (RdK.below HF.out.1 hHeld.1) (RdK.below HF.out.1 hHeld.1) HF.out.2.2.1).mono ?_
            rintro e wn ⟨rfl, hbn⟩
            try go_simp
            refine hK.out _ _ (held16 hHeld hbn) (fun hHeld2 => ?_)
            clear hK K hHeld hbn
            have hHeld := hHeld2
            clear hHeld2
            try simp only [Act.put, List.setIfInBounds_toArray, List.set_cons_zero, List.set_cons_succ]
            refine take_lit (i := 18) (v := ?_) rfl (by kernel_rfl) (by kernel_rfl) (by kernel_rfl) (fun _ _ _ h => h) (by rfl) (fun wS hSw => ?_) hHeld ?_
            rotate_left
            · obtain ⟨s0, s1, s2, s3, s4, s5, s6, s7, s8, s9, s10, s11, s12, s13, s14, s15, s16⟩ := hSw; go_simp; try with_reducible rfl
            try simp only [Act.put, List.setIfInBounds_toArray, List.set_cons_zero, List.set_cons_succ]
            refine take_lit (i := 19) (v := ?_) rfl (by kernel_rfl) (by kernel_rfl) (by kernel_rfl) (fun _ _ _ h => h) (by rfl) (fun wS hSw => ?_) hHeld ?_
            rotate_left
            · obtain ⟨s0, s1, s2, s3, s4, s5, s6, s7, s8, s9, s10, s11, s12, s13, s14, s15, s16⟩ := hSw; go_simp; try with_reducible rfl
            try simp only [Act.put, List.setIfInBounds_toArray, List.set_cons_zero, List.set_cons_succ]
            refine take_lit (i := 20) (v := ?_) rfl (by kernel_rfl) (by kernel_rfl) (by kernel_rfl) (fun _ _ _ h => h) (by rfl) (fun wS hSw => ?_) hHeld ?_
            rotate_left
            · obtain ⟨s0, s1, s2, s3, s4, s5, s6, s7, s8, s9, s10, s11, s12, s13, s14, s15, s16⟩ := hSw; go_simp; try with_reducible rfl
            try simp only [Act.put, List.setIfInBounds_toArray, List.set_cons_zero, List.set_cons_succ]
            refine take_lit (i := 21) (v := ?_) rfl (by kernel_rfl) (by kernel_rfl) (by kernel_rfl) (fun _ _ _ h => h) (by rfl) (fun wS hSw => ?_) hHeld ?_
            rotate_left
            · obtain ⟨s0, s1, s2, s3, s4, s5, s6, s7, s8, s9, s10, s11, s12, s13, s14, s15, s16⟩ := hSw; go_simp; try with_reducible rfl
            try simp only [Act.put, List.setIfInBounds_toArray, List.set_cons_zero, List.set_cons_succ]
            refine take_lit (i := 23) (v := ?_) rfl (by kernel_rfl) (by kernel_rfl) (by kernel_rfl) (fun _ _ _ h => h) (by rfl) (fun wS hSw => ?_) hHeld ?_
            rotate_left
            · obtain ⟨s0, s1, s2, s3, s4, s5, s6, s7, s8, s9, s10, s11, s12, s13, s14, s15, s16⟩ := hSw; go_simp; try with_reducible rfl
            try simp only [Act.put, List.setIfInBounds_toArray, List.set_cons_zero, List.set_cons_succ]
            refine take_lit (i := 24) (v := ?_) rfl (by kernel_rfl) (by kernel_rfl) (by kernel_rfl) (fun _ _ _ h => h) (by rfl) (fun wS hSw => ?_) hHeld ?_
            rotate_left
            · obtain ⟨s0, s1, s2, s3, s4, s5, s6, s7, s8, s9, s10, s11, s12, s13, s14, s15, s16⟩ := hSw; go_simp; try with_reducible rfl
            try simp only [Act.put, List.setIfInBounds_toArray, List.set_cons_zero, List.set_cons_succ]
            refine wpAnyH_ready (rs := [22]) (by kernel_rfl) (by simp) (cons_lit (i := 22) rfl (fun K hK => ?_) AllReadyH.nil)
            go_simp
            refine (runSame_is ⟨x0, x1, gl, x2⟩ ⟨x0, x1, fl, x2⟩ false HT.out.2.2 (RdK.below HF.out.2.1 hHeld.1) (RdK.below HF.out.1 hHeld.1) HF.out.2.2.2.1).mono ?_
            rintro e wn ⟨rfl, hbn⟩
            try go_simp
            refine hK.out _ _ (held16 hHeld hbn) (fun hHeld2 => ?_)
            clear hK K hHeld hbn
            have hHeld := hHeld2
            clear hHeld2
            try simp only [Act.put, List.setIfInBounds_toArray, List.set_cons_zero, List.set_cons_succ]
            refine wpAnyH_ready (rs := [25]) (by kernel_rfl) (by simp) (cons_lit (i := 25) rfl (fun K hK => ?_) AllReadyH.nil)
            go_simp
            refine (runSame_is ⟨x0, x1, fl, x2⟩ ⟨x0, x1, gl, x2⟩ false HT.out.2.1 (RdK.below HF.out.1 hHeld.1) (RdK.below HF.out.2.1 hHeld.1) HF.out.2.2.1).mono ?_
            rintro e wn ⟨rfl, hbn⟩
            try go_simp
            refine hK.out _ _ (held16 hHeld hbn) (fun hHeld2 => ?_)
            clear hK K hHeld hbn
            have hHeld := hHeld2
            clear hHeld2
            try simp only [Act.put, List.setIfInBounds_toArray, List.set_cons_zero, List.set_cons_succ]
            refine take_lit (i := 26) (v := ?_) rfl (by kernel_rfl) (by kernel_rfl) (by kernel_rfl) (fun _ _ _ h => h) (by rfl) (fun wS hSw => ?_) hHeld ?_
            rotate_left
            · obtain ⟨s0, s1, s2, s3, s4, s5, s6, s7, s8, s9, s10, s11, s12, s13, s14, s15, s16⟩ := hSw; go_simp; try with_reducible rfl
            try simp only [Act.put, List.setIfInBounds_toArray, List.set_cons_zero, List.set_cons_succ]
            refine take_lit (i := 27) (v := ?_) rfl (by kernel_rfl) (by kernel_rfl) (by kernel_rfl) (fun _ _ _ h => h) (by rfl) (fun wS hSw => ?_) hHeld ?_
            rotate_left
            · obtain ⟨s0, s1, s2, s3, s4, s5, s6, s7, s8, s9, s10, s11, s12, s13, s14, s15, s16⟩ := hSw; go_simp; try with_reducible rfl
            try simp only [Act.put, List.setIfInBounds_toArray, List.set_cons_zero, List.set_cons_succ]
            refine take_lit (i := 28) (v := ?_) rfl (by kernel_rfl) (by kernel_rfl) (by kernel_rfl) (fun _ _ _ h => h) (by rfl) (fun wS hSw => ?_) hHeld ?_
            rotate_left
            · obtain ⟨s0, s1, s2, s3, s4, s5, s6, s7, s8, s9, s10, s11, s12, s13, s14, s15, s16⟩ := hSw; go_simp; try with_reducible rfl
            try simp only [Act.put, List.setIfInBounds_toArray, List.set_cons_zero, List.set_cons_succ]
            refine wpAnyH_ready (rs := [29]) (by kernel_rfl) (by simp) (cons_lit (i := 29) rfl (fun K hK => ?_) AllReadyH.nil)
            go_simp
            refine (awake12_ok _ (HF.out.2.2.2.2.1.below hHeld.1) (HF.out.2.2.2.2.2.1.below hHeld.1)).mono ?_
            rintro e wn ⟨rfl, hbn⟩
            try go_simp
            refine hK.out _ _ (held16 hHeld hbn) (fun hHeld2 => ?_)
            clear hK K hHeld hbn
            have hHeld := hHeld2
            clear hHeld2
            try simp only [Act.put, List.setIfInBounds_toArray, List.set_cons_zero, List.set_cons_succ]
            refine take_lit (i := 30) (v := ?_) rfl (by kernel_rfl) (by kernel_rfl) (by kernel_rfl) (fun _ _ _ h => h) (by rfl) (fun wS hSw => ?_) hHeld ?_
            rotate_left
            · obtain ⟨s0, s1, s2, s3, s4, s5, s6, s7, s8, s9, s10, s11, s12, s13, s14, s15, s16⟩ := hSw; go_simp; try with_reducible rfl
            try simp only [Act.put, List.setIfInBounds_toArray, List.set_cons_zero, List.set_cons_succ]
            refine take_lit (i := 31) (v := ?_) rfl (by kernel_rfl) (by kernel_rfl) (by kernel_rfl) (fun _ _ _ h => h) (by rfl) (fun wS hSw => ?_) hHeld ?_
            rotate_left
            · obtain ⟨s0, s1, s2, s3, s4, s5, s6, s7, s8, s9, s10, s11, s12, s13, s14, s15, s16⟩ := hSw; go_simp; try with_reducible rfl
            try simp only [Act.put, List.setIfInBounds_toArray, List.set_cons_zero, List.set_cons_succ]
            refine wpAnyH_done (by kernel_rfl) ?_ _
            have HZ := Lib.hid (HF.out.2.2.2.2.2.2.trans (hHeld.1.mono HF.out.2.2.2.2.2.2.size))
            clear hHeld
            go_wp2_with fail
            go_ret
            exact ⟨rfl, HZ.out⟩
      · have hE : ∀ W, (Op.equalIn 10000 28 (.agg #[.int .i64 x0, .int .i64 x1, .int .i64 x2]) (.agg #[.int .i64 x3, .int .i64 x4, .int .i64 x5])).run Tryz.prog W = .ok false W := fun W => by rw [eq3]; simp [h3]
        have hrr : Tells false ((⟨x0, x1, fl, x2⟩ : Res) = ⟨x3, x4, gl, x5⟩) := .no (three_ext fl gl h3)
        have HT := Lib.hid (And.intro hrr (hrr.congr ⟨Eq.symm, Eq.symm⟩))
        clear hrr h3
        refine wp_region_held_drew (S := (fun w' => Below w7.heap.size w7 w' ∧ w'.cell? ⟨XX, 0, none⟩ = some (.int .i64 x0) ∧ w'.cell? ⟨XX, 1, none⟩ = some (.int .i64 x1) ∧ w'.cell? ⟨XX, 2, none⟩ = some (.slice A2 m2 c2) ∧ w'.cell? ⟨XX, 3, none⟩ = some (.int .i64 x2) ∧ w'.cell? ⟨YY, 0, none⟩ = some (.int .i64 x3) ∧ w'.cell? ⟨YY, 1, none⟩ = some (.int .i64 x4) ∧ w'.cell? ⟨YY, 2, none⟩ = some (.slice A4 m4 c4) ∧ w'.cell? ⟨YY, 3, none⟩ = some (.int .i64 x5) ∧ w'.cell? ⟨D, 0, none⟩ = some (.int .i64 x0) ∧ w'.cell? ⟨D, 1, none⟩ = some (.int .i64 x1) ∧ w'.cell? ⟨D, 2, none⟩ = some (.int .i64 x2) ∧ w'.cell? ⟨D, 3, none⟩ = some (.int .i64 x3) ∧ w'.cell? ⟨D, 4, none⟩ = some (.int .i64 x4) ∧ w'.cell? ⟨D, 5, none⟩ = some (.int .i64 x5) ∧ w'.cell? ⟨FF, 0, none⟩ = some (.slice A2 m2 c2) ∧ w'.cell? ⟨GG, 0, none⟩ = some (.slice A4 m4 c4))) (by kernel_rfl) ⟨(Below.refl _ _).drew, a0, a1, a2, a3, b0, b1, b2, b3, z0, z1, z2, z3, z4, z5, y0, y1⟩ (fun hHeld => ?_)
        refine take_lit (i := 0) (v := ?_) rfl (by kernel_rfl) (by kernel_rfl) (by kernel_rfl) (fun _ _ _ h => h) (by rfl) (fun wS hSw => ?_) hHeld ?_
        rotate_left
        · obtain ⟨s0, s1, s2, s3, s4, s5, s6, s7, s8, s9, s10, s11, s12, s13, s14, s15, s16⟩ := hSw; go_simp; try with_reducible rfl
        try simp only [Act.put, List.setIfInBounds_toArray, List.set_cons_zero, List.set_cons_succ]
        refine take_lit (i := 1) (v := ?_) rfl (by kernel_rfl) (by kernel_rfl) (by kernel_rfl) (fun _ _ _ h => h) (by rfl) (fun wS hSw => ?_) hHeld ?_
        rotate_left
        · obtain ⟨s0, s1, s2, s3, s4, s5, s6, s7, s8, s9, s10, s11, s12, s13, s14, s15, s16⟩ := hSw; go_simp; try with_reducible rfl
        try simp only [Act.put, List.setIfInBounds_toArray, List.set_cons_zero, List.set_cons_succ]
        refine take_lit (i := 3) (v := ?_) rfl (by kernel_rfl) (by kernel_rfl) (by kernel_rfl) (fun _ _ _ h => h) (by rfl) (fun wS hSw => ?_) hHeld ?_
        rotate_left
        · obtain ⟨s0, s1, s2, s3, s4, s5, s6, s7, s8, s9, s10, s11, s12, s13, s14, s15, s16⟩ := hSw; go_simp; try with_reducible rfl
        try simp only [Act.put, List.setIfInBounds_toArray, List.set_cons_zero, List.set_cons_succ]
        refine take_lit (i := 4) (v := ?_) rfl (by kernel_rfl) (by kernel_rfl) (by kernel_rfl) (fun _ _ _ h => h) (by rfl) (fun wS hSw => ?_) hHeld ?_
        rotate_left
        · obtain ⟨s0, s1, s2, s3, s4, s5, s6, s7, s8, s9, s10, s11, s12, s13, s14, s15, s16⟩ := hSw; go_simp; try with_reducible rfl
        try simp only [Act.put, List.setIfInBounds_toArray, List.set_cons_zero, List.set_cons_succ]
        refine take_lit (i := 5) (v := ?_) rfl (by kernel_rfl) (by kernel_rfl) (by kernel_rfl) (fun _ _ _ h => h) (by rfl) (fun wS hSw => ?_) hHeld ?_
        rotate_left
        · obtain ⟨s0, s1, s2, s3, s4, s5, s6, s7, s8, s9, s10, s11, s12, s13, s14, s15, s16⟩ := hSw; go_simp; try with_reducible rfl
        try simp only [Act.put, List.setIfInBounds_toArray, List.set_cons_zero, List.set_cons_succ]
        refine take_lit (i := 6) (v := ?_) rfl (by kernel_rfl) (by kernel_rfl) (by kernel_rfl) (fun _ _ _ h => h) (by rfl) (fun wS hSw => ?_) hHeld ?_
        rotate_left
        · obtain ⟨s0, s1, s2, s3, s4, s5, s6, s7, s8, s9, s10, s11, s12, s13, s14, s15, s16⟩ := hSw; go_simp; try with_reducible rfl
        try simp only [Act.put, List.setIfInBounds_toArray, List.set_cons_zero, List.set_cons_succ]
        refine wpAnyH_ready (rs := [2, 7]) (by kernel_rfl) (by simp) (cons_lit (i := 2) rfl (fun K hK => ?_) (cons_lit (i := 7) rfl (fun K hK => ?_) AllReadyH.nil))
        · skip
          go_simp
          refine (runSame_is ⟨x0, x1, fl, x2⟩ ⟨x3, x4, gl, x5⟩ false HT.out.1 (RdK.below HF.out.1 hHeld.1) (RdK.below HF.out.2.1 hHeld.1) HF.out.2.2.1).mono ?_
          rintro e wn ⟨rfl, hbn⟩
          try go_simp
          refine hK.out _ _ (held16 hHeld hbn) (fun hHeld2 => ?_)
          clear hK K hHeld hbn
          have hHeld := hHeld2
          clear hHeld2
          try simp only [Act.put, List.setIfInBounds_toArray, List.set_cons_zero, List.set_cons_succ]
          refine wpAnyH_ready (rs := [7]) (by kernel_rfl) (by simp) (cons_lit (i := 7) rfl (fun K hK => ?_) AllReadyH.nil)
          go_simp
          refine hK.out _ _ hHeld (fun hHeld2 => ?_)
          clear hK K hHeld
          have hHeld := hHeld2
          clear hHeld2
          try simp only [Act.put, List.setIfInBounds_toArray, List.set_cons_zero, List.set_cons_succ]
          refine take_lit (i := 8) (v := ?_) rfl (by kernel_rfl) (by kernel_rfl) (by kernel_rfl) (fun _ _ _ h => h) (by rfl) (fun wS hSw => ?_) hHeld ?_
          rotate_left
          · obtain ⟨s0, s1, s2, s3, s4, s5, s6, s7, s8, s9, s10, s11, s12, s13, s14, s15, s16⟩ := hSw; go_simp; try with_reducible rfl
          try simp only [Act.put, List.setIfInBounds_toArray, List.set_cons_zero, List.set_cons_succ]
          refine take_no (i := 9) rfl (by kernel_rfl) (by kernel_rfl) (by kernel_rfl) (fun _ _ _ h => h) (by rfl) hHeld ?_
          try simp only [Act.put, List.setIfInBounds_toArray, List.set_cons_zero, List.set_cons_succ]
          refine take_no (i := 10) rfl (by kernel_rfl) (by kernel_rfl) (by kernel_rfl) (fun _ _ _ h => h) (by rfl) hHeld ?_
          try simp only [Act.put, List.setIfInBounds_toArray, List.set_cons_zero, List.set_cons_succ]
          refine take_no (i := 11) rfl (by kernel_rfl) (by kernel_rfl) (by kernel_rfl) (fun _ _ _ h => h) (by rfl) hHeld ?_
          try simp only [Act.put, List.setIfInBounds_toArray, List.set_cons_zero, List.set_cons_succ]
          refine take_lit (i := 12) (v := ?_) rfl (by kernel_rfl) (by kernel_rfl) (by kernel_rfl) (fun _ _ _ h => h) (by rfl) (fun wS hSw => ?_) hHeld ?_
          rotate_left
          · obtain ⟨s0, s1, s2, s3, s4, s5, s6, s7, s8, s9, s10, s11, s12, s13, s14, s15, s16⟩ := hSw; go_simp; try with_reducible rfl
          try simp only [Act.put, List.setIfInBounds_toArray, List.set_cons_zero, List.set_cons_succ]
          refine take_lit (i := 13) (v := ?_) rfl (by kernel_rfl) (by kernel_rfl) (by kernel_rfl) (fun _ _ _ h => h) (by rfl) (fun wS hSw => ?_) hHeld ?_
          rotate_left
          · obtain ⟨s0, s1, s2, s3, s4, s5, s6, s7, s8, s9, s10, s11, s12, s13, s14, s15, s16⟩ := hSw; go_simp; try with_reducible rfl
          try simp only [Act.put, List.setIfInBounds_toArray, List.set_cons_zero, List.set_cons_succ]
          refine take_lit (i := 14) (v := ?_) rfl (by kernel_rfl) (by kernel_rfl) (by kernel_rfl) (fun _ _ _ h => h) (by rfl) (fun wS hSw => ?_) hHeld ?_
          rotate_left
          · obtain ⟨s0, s1, s2, s3, s4, s5, s6, s7, s8, s9, s10, s11, s12, s13, s14, s15, s16⟩ := hSw; go_simp; try with_reducible rfl
          try simp only [Act.put, List.setIfInBounds_toArray, List.set_cons_zero, List.set_cons_succ]
          refine take_lit (i := 15) (v := ?_) rfl (by kernel_rfl) (by kernel_rfl) (by kernel_rfl) (fun _ _ _ h => h) (by rfl) (fun wS hSw => ?_) hHeld ?_
          rotate_left
          · obtain ⟨s0, s1, s2, s3, s4, s5, s6, s7, s8, s9, s10, s11, s12, s13, s14, s15, s16⟩ := hSw; go_simp; try with_reducible rfl
          try simp only [Act.put, List.setIfInBounds_toArray, List.set_cons_zero, List.set_cons_succ]
          refine take_lit (i := 16) (v := ?_) rfl (by kernel_rfl) (by kernel_rfl) (by kernel_rfl) (fun _ _ _ h => h) (by rfl) (fun wS hSw => ?_) hHeld ?_
          rotate_left
          · obtain ⟨s0, s1, s2, s3, s4, s5, s6, s7, s8, s9, s10, s11, s12, s13, s14, s15, s16⟩ := hSw; go_simp; try with_reducible rfl
          try simp only [Act.put, List.setIfInBounds_toArray, List.set_cons_zero, List.set_cons_succ]
          refine wpAnyH_ready (rs := [17]) (by kernel_rfl) (by simp) (cons_lit (i := 17) rfl (fun K hK => ?_) AllReadyH.nil)
          go_simp
          refine (runSame_is ⟨x0, x1, fl, x2⟩ ⟨x0, x1, fl, x2⟩ true (.yes rfl) (RdK.below HF.out.1 hHeld.1) (RdK.below HF.out.1 hHeld.1) HF.out.2.2.1).mono ?_
          rintro e wn ⟨rfl, hbn⟩
          try go_simp
          refine hK.out _ _ (held16 hHeld hbn) (fun hHeld2 => ?_)
          clear hK K hHeld hbn
          have hHeld := hHeld2
          clear hHeld2
          try simp only [Act.put, List.setIfInBounds_toArray, List.set_cons_zero, List.set_cons_succ]
          refine take_lit (i := 18) (v := ?_) rfl (by kernel_rfl) (by kernel_rfl) (by kernel_rfl) (fun _ _ _ h => h) (by rfl) (fun wS hSw => ?_) hHeld ?_
          rotate_left
          · obtain ⟨s0, s1, s2, s3, s4, s5, s6, s7, s8, s9, s10, s11, s12, s13, s14, s15, s16⟩ := hSw; go_simp; try with_reducible rfl
          try simp only [Act.put, List.setIfInBounds_toArray, List.set_cons_zero, List.set_cons_succ]
          refine take_lit (i := 19) (v := ?_) rfl (by kernel_rfl) (by kernel_rfl) (by kernel_rfl) (fun _ _ _ h => h) (by rfl) (fun wS hSw => ?_) hHeld ?_
          rotate_left
          · obtain ⟨s0, s1, s2, s3, s4, s5, s6, s7, s8, s9, s10, s11, s12, s13, s14, s15, s16⟩ := hSw; go_simp; try with_reducible rfl
          try simp only [Act.put, List.setIfInBounds_toArray, List.set_cons_zero, List.set_cons_succ]
          refine take_lit (i := 20) (v := ?_) rfl (by kernel_rfl) (by kernel_rfl) (by kernel_rfl) (fun _ _ _ h => h) (by rfl) (fun wS hSw => ?_) hHeld ?_
          rotate_left
          · obtain ⟨s0, s1, s2, s3, s4, s5, s6, s7, s8, s9, s10, s11, s12, s13, s14, s15, s16⟩ := hSw; go_simp; try with_reducible rfl
          try simp only [Act.put, List.setIfInBounds_toArray, List.set_cons_zero, List.set_cons_succ]
          refine take_lit (i := 21) (v := ?_) rfl (by kernel_rfl) (by kernel_rfl) (by kernel_rfl) (fun _ _ _ h => h) (by rfl) (fun wS hSw => ?_) hHeld ?_
          rotate_left
          · obtain ⟨s0, s1, s2, s3, s4, s5, s6, s7, s8, s9, s10, s11, s12, s13, s14, s15, s16⟩ := hSw; go_simp; try with_reducible rfl
          try simp only [Act.put, List.setIfInBounds_toArray, List.set_cons_zero, List.set_cons_succ]
          refine take_lit (i := 23) (v := ?_) rfl (by kernel_rfl) (by kernel_rfl) (by kernel_rfl) (fun _ _ _ h => h) (by rfl) (fun wS hSw => ?_) hHeld ?_
          rotate_left
          · obtain ⟨s0, s1, s2, s3, s4, s5, s6, s7, s8, s9, s10, s11, s12, s13, s14, s15, s16⟩ := hSw; go_simp; try with_reducible rfl
          try simp only [Act.put, List.setIfInBounds_toArray, List.set_cons_zero, List.set_cons_succ]
          refine take_lit (i := 24) (v := ?_) rfl (by kernel_rfl) (by kernel_rfl) (by kernel_rfl) (fun _ _ _ h => h) (by rfl) (fun wS hSw => ?_) hHeld ?_
          rotate_left
          · obtain ⟨s0, s1, s2, s3, s4, s5, s6, s7, s8, s9, s10, s11, s12, s13, s14, s15, s16⟩ := hSw; go_simp; try with_reducible rfl
          try simp only [Act.put, List.setIfInBounds_toArray, List.set_cons_zero, List.set_cons_succ]
          refine wpAnyH_ready (rs := [22]) (by kernel_rfl) (by simp) (cons_lit (i := 22) rfl (fun K hK => ?_) AllReadyH.nil)
          go_simp
          refine (runSame_is ⟨x3, x4, gl, x5⟩ ⟨x0, x1, fl, x2⟩ false HT.out.2 (RdK.below HF.out.2.1 hHeld.1) (RdK.below HF.out.1 hHeld.1) HF.out.2.2.2.1).mono ?_
          rintro e wn ⟨rfl, hbn⟩
          try go_simp
          refine hK.out _ _ (held16 hHeld hbn) (fun hHeld2 => ?_)
          clear hK K hHeld hbn
          have hHeld := hHeld2
          clear hHeld2
          try simp only [Act.put, List.setIfInBounds_toArray, List.set_cons_zero, List.set_cons_succ]
          refine wpAnyH_ready (rs := [25]) (by kernel_rfl) (by simp) (cons_lit (i := 25) rfl (fun K hK => ?_) AllReadyH.nil)
          go_simp
          refine (runSame_is ⟨x0, x1, fl, x2⟩ ⟨x3, x4, gl, x5⟩ false HT.out.1 (RdK.below HF.out.1 hHeld.1) (RdK.below HF.out.2.1 hHeld.1) HF.out.2.2.1).mono ?_
          rintro e wn ⟨rfl, hbn⟩
          try go_simp
          refine hK.out _ _ (held16 hHeld hbn) (fun hHeld2 => ?_)
          clear hK K hHeld hbn
          have hHeld := hHeld2
          clear hHeld2
          try simp only [Act.put, List.setIfInBounds_toArray, List.set_cons_zero, List.set_cons_succ]
          refine take_lit (i := 26) (v := ?_) rfl (by kernel_rfl) (by kernel_rfl) (by kernel_rfl) (fun _ _ _ h => h) (by rfl) (fun wS hSw => ?_) hHeld ?_
          rotate_left
          · obtain ⟨s0, s1, s2, s3, s4, s5, s6, s7, s8, s9, s10, s11, s12, s13, s14, s15, s16⟩ := hSw; go_simp; try with_reducible rfl
          try simp only [Act.put, List.setIfInBounds_toArray, List.set_cons_zero, List.set_cons_succ]
          refine take_lit (i := 27) (v := ?_) rfl (by kernel_rfl) (by kernel_rfl) (by kernel_rfl) (fun _ _ _ h => h) (by rfl) (fun wS hSw => ?_) hHeld ?_
          rotate_left
          · obtain ⟨s0, s1, s2, s3, s4, s5, s6, s7, s8, s9, s10, s11, s12, s13, s14, s15, s16⟩ := hSw; go_simp; try with_reducible rfl
          try simp only [Act.put, List.setIfInBounds_toArray, List.set_cons_zero, List.set_cons_succ]
          refine take_lit (i := 28) (v := ?_) rfl (by kernel_rfl) (by kernel_rfl) (by kernel_rfl) (fun _ _ _ h => h) (by rfl) (fun wS hSw => ?_) hHeld ?_
          rotate_left
          · obtain ⟨s0, s1, s2, s3, s4, s5, s6, s7, s8, s9, s10, s11, s12, s13, s14, s15, s16⟩ := hSw; go_simp; try with_reducible rfl
          try simp only [Act.put, List.setIfInBounds_toArray, List.set_cons_zero, List.set_cons_succ]
          refine wpAnyH_ready (rs := [29]) (by kernel_rfl) (by simp) (cons_lit (i := 29) rfl (fun K hK => ?_) AllReadyH.nil)
          go_simp
          refine (awake12_ok _ (HF.out.2.2.2.2.1.below hHeld.1) (HF.out.2.2.2.2.2.1.below hHeld.1)).mono ?_
          rintro e wn ⟨rfl, hbn⟩
          try go_simp
          refine hK.out _ _ (held16 hHeld hbn) (fun hHeld2 => ?_)
          clear hK K hHeld hbn
          have hHeld := hHeld2
          clear hHeld2
          try simp only [Act.put, List.setIfInBounds_toArray, List.set_cons_zero, List.set_cons_succ]
          refine take_lit (i := 30) (v := ?_) rfl (by kernel_rfl) (by kernel_rfl) (by kernel_rfl) (fun _ _ _ h => h) (by rfl) (fun wS hSw => ?_) hHeld ?_
          rotate_left
          · obtain ⟨s0, s1, s2, s3, s4, s5, s6, s7, s8, s9, s10, s11, s12, s13, s14, s15, s16⟩ := hSw; go_simp; try with_reducible rfl
          try simp only [Act.put, List.setIfInBounds_toArray, List.set_cons_zero, List.set_cons_succ]
          refine take_lit (i := 31) (v := ?_) rfl (by kernel_rfl) (by kernel_rfl) (by kernel_rfl) (fun _ _ _ h => h) (by rfl) (fun wS hSw => ?_) hHeld ?_
          rotate_left
          · obtain ⟨s0, s1, s2, s3, s4, s5, s6, s7, s8, s9, s10, s11, s12, s13, s14, s15, s16⟩ := hSw; go_simp; try with_reducible rfl
          try simp only [Act.put, List.setIfInBounds_toArray, List.set_cons_zero, List.set_cons_succ]
          refine wpAnyH_done (by kernel_rfl) ?_ _
          have HZ := Lib.hid (HF.out.2.2.2.2.2.2.trans (hHeld.1.mono HF.out.2.2.2.2.2.2.size))
          clear hHeld
          go_wp2_with fail
          go_ret
          exact ⟨rfl, HZ.out⟩
        · skip
          go_simp
          refine hK.out _ _ hHeld (fun hHeld2 => ?_)
          clear hK K hHeld
          have hHeld := hHeld2
          clear hHeld2
          try simp only [Act.put, List.setIfInBounds_toArray, List.set_cons_zero, List.set_cons_succ]
          refine wpAnyH_ready (rs := [2]) (by kernel_rfl) (by simp) (cons_lit (i := 2) rfl (fun K hK => ?_) AllReadyH.nil)
          go_simp
          refine (runSame_is ⟨x0, x1, fl, x2⟩ ⟨x3, x4, gl, x5⟩ false HT.out.1 (RdK.below HF.out.1 hHeld.1) (RdK.below HF.out.2.1 hHeld.1) HF.out.2.2.1).mono ?_
          rintro e wn ⟨rfl, hbn⟩
          try go_simp
          refine hK.out _ _ (held16 hHeld hbn) (fun hHeld2 => ?_)
          clear hK K hHeld hbn
          have hHeld := hHeld2
          clear hHeld2
          try simp only [Act.put, List.setIfInBounds_toArray, List.set_cons_zero, List.set_cons_succ]
          refine take_lit (i := 8) (v := ?_) rfl (by kernel_rfl) (by kernel_rfl) (by kernel_rfl) (fun _ _ _ h => h) (by rfl) (fun wS hSw => ?_) hHeld ?_
          rotate_left
          · obtain ⟨s0, s1, s2, s3, s4, s5, s6, s7, s8, s9, s10, s11, s12, s13, s14, s15, s16⟩ := hSw; go_simp; try with_reducible rfl
          try simp only [Act.put, List.setIfInBounds_toArray, List.set_cons_zero, List.set_cons_succ]
          refine take_no (i := 9) rfl (by kernel_rfl) (by kernel_rfl) (by kernel_rfl) (fun _ _ _ h => h) (by rfl) hHeld ?_
          try simp only [Act.put, List.setIfInBounds_toArray, List.set_cons_zero, List.set_cons_succ]
          refine take_no (i := 10) rfl (by kernel_rfl) (by kernel_rfl) (by kernel_rfl) (fun _ _ _ h => h) (by rfl) hHeld ?_
          try simp only [Act.put, List.setIfInBounds_toArray, List.set_cons_zero, List.set_cons_succ]
          refine take_no (i := 11) rfl (by kernel_rfl) (by kernel_rfl) (by kernel_rfl) (fun _ _ _ h => h) (by rfl) hHeld ?_
          try simp only [Act.put, List.setIfInBounds_toArray, List.set_cons_zero, List.set_cons_succ]
          refine take_lit (i := 12) (v := ?_) rfl (by kernel_rfl) (by kernel_rfl) (by kernel_rfl) (fun _ _ _ h => h) (by rfl) (fun wS hSw => ?_) hHeld ?_
          rotate_left
          · obtain ⟨s0, s1, s2, s3, s4, s5, s6, s7, s8, s9, s10, s11, s12, s13, s14, s15, s16⟩ := hSw; go_simp; try with_reducible rfl
          try simp only [Act.put, List.setIfInBounds_toArray, List.set_cons_zero, List.set_cons_succ]
          refine take_lit (i := 13) (v := ?_) rfl (by kernel_rfl) (by kernel_rfl) (by kernel_rfl) (fun _ _ _ h => h) (by rfl) (fun wS hSw => ?_) hHeld ?_
          rotate_left
          · obtain ⟨s0, s1, s2, s3, s4, s5, s6, s7, s8, s9, s10, s11, s12, s13, s14, s15, s16⟩ := hSw; go_simp; try with_reducible rfl
          try simp only [Act.put, List.setIfInBounds_toArray, List.set_cons_zero, List.set_cons_succ]
          refine take_lit (i := 14) (v := ?_) rfl (by kernel_rfl) (by kernel_rfl) (by kernel_rfl) (fun _ _ _ h => h) (by rfl) (fun wS hSw => ?_) hHeld ?_
          rotate_left
          · obtain ⟨s0, s1, s2, s3, s4, s5, s6, s7, s8, s9, s10, s11, s12, s13, s14, s15, s16⟩ := hSw; go_simp; try with_reducible rfl
          try simp only [Act.put, List.setIfInBounds_toArray, List.set_cons_zero, List.set_cons_succ]
          refine take_lit (i := 15) (v := ?_) rfl (by kernel_rfl) (by kernel_rfl) (by kernel_rfl) (fun _ _ _ h => h) (by rfl) (fun wS hSw => ?_) hHeld ?_
          rotate_left
          · obtain ⟨s0, s1, s2, s3, s4, s5, s6, s7, s8, s9, s10, s11, s12, s13, s14, s15, s16⟩ := hSw; go_simp; try with_reducible rfl
          try simp only [Act.put, List.setIfInBounds_toArray, List.set_cons_zero, List.set_cons_succ]
          refine take_lit (i := 16) (v := ?_) rfl (by kernel_rfl) (by kernel_rfl) (by kernel_rfl) (fun _ _ _ h => h) (by rfl) (fun wS hSw => ?_) hHeld ?_
          rotate_left
          · obtain ⟨s0, s1, s2, s3, s4, s5, s6, s7, s8, s9, s10, s11, s12, s13, s14, s15, s16⟩ := hSw; go_simp; try with_reducible rfl
          try simp only [Act.put, List.setIfInBounds_toArray, List.set_cons_zero, List.set_cons_succ]
          refine wpAnyH_ready (rs := [17]) (by kernel_rfl) (by simp) (cons_lit (i := 17) rfl (fun K hK => ?_) AllReadyH.nil)
          go_simp
          refine (runSame_is ⟨x0, x1, fl, x2⟩ ⟨x0, x1, fl, x2⟩ true (.yes rfl) (RdK.below HF.out.1 hHeld.1) (RdK.below HF.out.1 hHeld.1) HF.out.2.2.1).mono ?_
          rintro e wn ⟨rfl, hbn⟩
          try go_simp
          refine hK.out _ _ (held16 hHeld hbn) (fun hHeld2 => ?_)
          clear hK K hHeld hbn
          have hHeld := hHeld2
          clear hHeld2
          try simp only [Act.put, List.setIfInBounds_toArray, List.set_cons_zero, List.set_cons_succ]
          refine take_lit (i := 18) (v := ?_) rfl (by kernel_rfl) (by kernel_rfl) (by kernel_rfl) (fun _ _ _ h => h) (by rfl) (fun wS hSw => ?_) hHeld ?_
          rotate_left
          · obtain ⟨s0, s1, s2, s3, s4, s5, s6, s7, s8, s9, s10, s11, s12, s13, s14, s15, s16⟩ := hSw; go_simp; try with_reducible rfl
          try simp only [Act.put, List.setIfInBounds_toArray, List.set_cons_zero, List.set_cons_succ]
          refine take_lit (i := 19) (v := ?_) rfl (by kernel_rfl) (by kernel_rfl) (by kernel_rfl) (fun _ _ _ h => h) (by rfl) (fun wS hSw => ?_) hHeld ?_
          rotate_left
          · obtain ⟨s0, s1, s2, s3, s4, s5, s6, s7, s8, s9, s10, s11, s12, s13, s14, s15, s16⟩ := hSw; go_simp; try with_reducible rfl
          try simp only [Act.put, List.setIfInBounds_toArray, List.set_cons_zero, List.set_cons_succ]
          refine take_lit (i := 20) (v := ?_) rfl (by kernel_rfl) (by kernel_rfl) (by kernel_rfl) (fun _ _ _ h => h) (by rfl) (fun wS hSw => ?_) hHeld ?_
          rotate_left
          · obtain ⟨s0, s1, s2, s3, s4, s5, s6, s7, s8, s9, s10, s11, s12, s13, s14, s15, s16⟩ := hSw; go_simp; try with_reducible rfl
          try simp only [Act.put, List.setIfInBounds_toArray, List.set_cons_zero, List.set_cons_succ]
          refine take_lit (i := 21) (v := ?_) rfl (by kernel_rfl) (by kernel_rfl) (by kernel_rfl) (fun _ _ _ h => h) (by rfl) (fun wS hSw => ?_) hHeld ?_
          rotate_left
          · obtain ⟨s0, s1, s2, s3, s4, s5, s6, s7, s8, s9, s10, s11, s12, s13, s14, s15, s16⟩ := hSw; go_simp; try with_reducible rfl
          try simp only [Act.put, List.setIfInBounds_toArray, List.set_cons_zero, List.set_cons_succ]
          refine take_lit (i := 23) (v := ?_) rfl (by kernel_rfl) (by kernel_rfl) (by kernel_rfl) (fun _ _ _ h => h) (by rfl) (fun wS hSw => ?_) hHeld ?_
          rotate_left
          · obtain ⟨s0, s1, s2, s3, s4, s5, s6, s7, s8, s9, s10, s11, s12, s13, s14, s15, s16⟩ := hSw; go_simp; try with_reducible rfl
          try simp only [Act.put, List.setIfInBounds_toArray, List.set_cons_zero, List.set_cons_succ]
          refine take_lit (i := 24) (v := ?_) rfl (by kernel_rfl) (by kernel_rfl) (by kernel_rfl) (fun _ _ _ h => h) (by rfl) (fun wS hSw => ?_) hHeld ?_
          rotate_left
          · obtain ⟨s0, s1, s2, s3, s4, s5, s6, s7, s8, s9, s10, s11, s12, s13, s14, s15, s16⟩ := hSw; go_simp; try with_reducible rfl
          try simp only [Act.put, List.setIfInBounds_toArray, List.set_cons_zero, List.set_cons_succ]
          refine wpAnyH_ready (rs := [22]) (by kernel_rfl) (by simp) (cons_lit (i := 22) rfl (fun K hK => ?_) AllReadyH.nil)
          go_simp
          refine (runSame_is ⟨x3, x4, gl, x5⟩ ⟨x0, x1, fl, x2⟩ false HT.out.2 (RdK.below HF.out.2.1 hHeld.1) (RdK.below HF.out.1 hHeld.1) HF.out.2.2.2.1).mono ?_
          rintro e wn ⟨rfl, hbn⟩
          try go_simp
          refine hK.out _ _ (held16 hHeld hbn) (fun hHeld2 => ?_)
          clear hK K hHeld hbn
          have hHeld := hHeld2
          clear hHeld2
          try simp only [Act.put, List.setIfInBounds_toArray, List.set_cons_zero, List.set_cons_succ]
          refine wpAnyH_ready (rs := [25]) (by kernel_rfl) (by simp) (cons_lit (i := 25) rfl (fun K hK => ?_) AllReadyH.nil)
          go_simp
          refine (runSame_is ⟨x0, x1, fl, x2⟩ ⟨x3, x4, gl, x5⟩ false HT.out.1 (RdK.below HF.out.1 hHeld.1) (RdK.below HF.out.2.1 hHeld.1) HF.out.2.2.1).mono ?_
          rintro e wn ⟨rfl, hbn⟩
          try go_simp
          refine hK.out _ _ (held16 hHeld hbn) (fun hHeld2 => ?_)
          clear hK K hHeld hbn
          have hHeld := hHeld2
          clear hHeld2
          try simp only [Act.put, List.setIfInBounds_toArray, List.set_cons_zero, List.set_cons_succ]
          refine take_lit (i := 26) (v := ?_) rfl (by kernel_rfl) (by kernel_rfl) (by kernel_rfl) (fun _ _ _ h => h) (by rfl) (fun wS hSw => ?_) hHeld ?_
          rotate_left
          · obtain ⟨s0, s1, s2, s3, s4, s5, s6, s7, s8, s9, s10, s11, s12, s13, s14, s15, s16⟩ := hSw; go_simp; try with_reducible rfl
          try simp only [Act.put, List.setIfInBounds_toArray, List.set_cons_zero, List.set_cons_succ]
          refine take_lit (i := 27) (v := ?_) rfl (by kernel_rfl) (by kernel_rfl) (by kernel_rfl) (fun _ _ _ h => h) (by rfl) (fun wS hSw => ?_) hHeld ?_
          rotate_left
          · obtain ⟨s0, s1, s2, s3, s4, s5, s6, s7, s8, s9, s10, s11, s12, s13, s14, s15, s16⟩ := hSw; go_simp; try with_reducible rfl
          try simp only [Act.put, List.setIfInBounds_toArray, List.set_cons_zero, List.set_cons_succ]
          refine take_lit (i := 28) (v := ?_) rfl (by kernel_rfl) (by kernel_rfl) (by kernel_rfl) (fun _ _ _ h => h) (by rfl) (fun wS hSw => ?_) hHeld ?_
          rotate_left
          · obtain ⟨s0, s1, s2, s3, s4, s5, s6, s7, s8, s9, s10, s11, s12, s13, s14, s15, s16⟩ := hSw; go_simp; try with_reducible rfl
          try simp only [Act.put, List.setIfInBounds_toArray, List.set_cons_zero, List.set_cons_succ]
          refine wpAnyH_ready (rs := [29]) (by kernel_rfl) (by simp) (cons_lit (i := 29) rfl (fun K hK => ?_) AllReadyH.nil)
          go_simp
          refine (awake12_ok _ (HF.out.2.2.2.2.1.below hHeld.1) (HF.out.2.2.2.2.2.1.below hHeld.1)).mono ?_
          rintro e wn ⟨rfl, hbn⟩
          try go_simp
          refine hK.out _ _ (held16 hHeld hbn) (fun hHeld2 => ?_)
          clear hK K hHeld hbn
          have hHeld := hHeld2
          clear hHeld2
          try simp only [Act.put, List.setIfInBounds_toArray, List.set_cons_zero, List.set_cons_succ]
          refine take_lit (i := 30) (v := ?_) rfl (by kernel_rfl) (by kernel_rfl) (by kernel_rfl) (fun _ _ _ h => h) (by rfl) (fun wS hSw => ?_) hHeld ?_
          rotate_left
          · obtain ⟨s0, s1, s2, s3, s4, s5, s6, s7, s8, s9, s10, s11, s12, s13, s14, s15, s16⟩ := hSw; go_simp; try with_reducible rfl
          try simp only [Act.put, List.setIfInBounds_toArray, List.set_cons_zero, List.set_cons_succ]
          refine take_lit (i := 31) (v := ?_) rfl (by kernel_rfl) (by kernel_rfl) (by kernel_rfl) (fun _ _ _ h => h) (by rfl) (fun wS hSw => ?_) hHeld ?_
          rotate_left
          · obtain ⟨s0, s1, s2, s3, s4, s5, s6, s7, s8, s9, s10, s11, s12, s13, s14, s15, s16⟩ := hSw; go_simp; try with_reducible rfl
          try simp only [Act.put, List.setIfInBounds_toArray, List.set_cons_zero, List.set_cons_succ]
          refine wpAnyH_done (by kernel_rfl) ?_ _
          have HZ := Lib.hid (HF.out.2.2.2.2.2.2.trans (hHeld.1.mono HF.out.2.2.2.2.2.2.size))
          clear hHeld
          go_wp2_with fail
          go_ret
          exact ⟨rfl, HZ.out⟩
    · have hn4b : (n4 != 0) = true := by simpa using hn4
      subst hn2
      clear hn4
      go_wp2_with fail
      refine (awake12_ok w5 H5.out.2.2.1 H5.out.2.2.2.1).mono ?_
      rintro e wz ⟨rfl, hbz⟩
      have HZ := Lib.hid ((H5.out.2.2.2.2.1).trans (hbz.mono (H5.out.2.2.2.2.1).size))
      clear hbz
      go_wp2_with fail
      go_ret
      exact ⟨rfl, HZ.out⟩
  · have hn2b : (n2 != 0) = true := by simpa using hn2
    clear hn2
    go_wp2_with fail
    refine (awake12_ok w5 H5.out.2.2.1 H5.out.2.2.2.1).mono ?_
    rintro e wz ⟨rfl, hbz⟩
    have HZ := Lib.hid ((H5.out.2.2.2.2.1).trans (hbz.mono (H5.out.2.2.2.2.1).size))
    clear hbz
    go_wp2_with fail
    go_ret
    exact ⟨rfl, HZ.out⟩
end Go.Proofs.YtfaaigfgfljdkaaGreatDoor
