/- SerialJudges, walked. -/
import Derived.Test.YtifpaagppjmbhaaGreatDoorSerI
import Derived.Test.YtifpaagppjmbhaaGreatDoorCovW
import Derived.Test.YtifpaagppjmbhaaGreatDoorSerC
import Derived.Deep.CutRange
namespace Go.Proofs.YtifpaagppjmbhaaGreatDoor
set_option maxRecDepth 100000
open Go.RowKit Go.Maps Go.WideShapes

/-- What New answered: a number, and, if it is 0, a footprint's claims. -/
def NewJ (l : List Cl) (w : World) (v : Value) (n : Int) : Prop := n ≠ 0 ∨ (n = 0 ∧ ∃ out : List Cl, IsForm l out ∧ out.length ≤ 64 ∧ Good l ∧ Good out ∧ ClRd w (fun _ => True) v out)
theorem NewJ.below {l : List Cl} {w w' : World} {v : Value} {n : Int} (h : NewJ l w v n) (hb : Below w.heap.size w w') : NewJ l w' v n := by
  rcases h with h | ⟨h, out, h1, h2, h3, h4, h5⟩
  · exact .inl h
  · exact .inr ⟨h, out, h1, h2, h3, h4, RdK.below h5 hb⟩
theorem NewV.j {l : List Cl} {w w' : World} {v : Value} {n : Int} (h : NewV l w v n w') (hf : ∀ c ∈ l, c.fits) : NewJ l w' v n := by
  rcases h.cases with ⟨h1, _⟩ | ⟨h1, he0, out, hF, h2, A, c, rfl, h3⟩
  · exact .inl h1
  · have hg0 : Good l := fun c hc => ⟨ok_of_errOf he0 c hc, hf c hc⟩
    exact .inr ⟨h1, out, hF, h2, hg0, form_good hF hg0, fresh_rd h3⟩
theorem k12_of {a : Nat} {w W : World} {o : Obj} (h : Below a w W) : (W.alloc o).heap[W.heap.size]? = some o ∧ a ≤ W.heap.size → (W.alloc o).heap[W.heap.size]? = some o ∧ a ≤ W.heap.size := id
theorem k12_mk (W : World) (o : Obj) {a : Nat} (h : a ≤ W.heap.size) : (W.alloc o).heap[W.heap.size]? = some o ∧ a ≤ W.heap.size := ⟨heap_alloc_new W o, h⟩
theorem k12_next {W W2 wn : World} {b a : Nat} {o : Obj} (h : W.heap[b]? = some o ∧ a ≤ b) (hb : Below W2.heap.size W2 wn) (e : W2.heap = W.heap) : wn.heap[b]? = some o ∧ a ≤ b := ⟨(Only.of_below hb (fun _ => False)).heap (by rw [e]; exact h.1) (fun h => h), h.2⟩
theorem below_put3 {a b : Nat} {w W : World} {o : Obj} (h : Below a w W) (k : W.heap[b]? = some o ∧ a ≤ b) (v0 v1 v2 : Value) : Below a w (((W.setCell ⟨b, 0, none⟩ v0).setCell ⟨b, 1, none⟩ v1).setCell ⟨b, 2, none⟩ v2) :=
  ((h.setCell (p := ⟨b, 0, none⟩) k.2 _).setCell (p := ⟨b, 1, none⟩) k.2 _).setCell (p := ⟨b, 2, none⟩) k.2 _
/-- While the run's claims are gone through. -/
def JuI (w7 : World) (lt out1 : List Cl) (x2 : Int) (k : Nat) (kv : Value) (wr : World) : Prop := Below w7.heap.size w7 wr ∧ ∃ qk : Bool, Tells qk (∀ c ∈ out1.take k, CovP c lt) ∧ kv = .int .i64 (wantK qk x2)
theorem wantK_false (e : Int) : wantK false e = 3 := rfl
set_option maxRecDepth 100000 in
set_option maxHeartbeats 8000000 in
theorem sjudge_law (w0 : World) (la lb : List Cl) (va vb : Value) (x0 x1 x2 : Int) (ha : ClRd w0 (fun _ => True) va la) (hb : ClRd w0 (fun _ => True) vb lb) (fa : ∀ c ∈ la, c.fits) (fb : ∀ c ∈ lb, c.fits) (h2 : I64 x2) :
    Calls Tryz.prog 8 #[va, vb, .agg #[.int .i64 x0, .int .i64 x1, .int .i64 x2]] w0 fun e w' => e = .returned (.bool true) ∧ Below w0.heap.size w0 w' := by
  obtain ⟨A, c, rfl, hna, hca⟩ := ha.slice
  obtain ⟨B, d, rfl, hnb, hcb⟩ := hb.slice
  have hbx := new_box w0 (.cells #[.int .i64 x0, .int .i64 x1, .int .i64 x2] 92)
  have kx := heap_alloc_new w0 (.cells #[.int .i64 x0, .int .i64 x1, .int .i64 x2] 92)
  have H := Lib.hid (And.intro (RdK.below ha hbx) (And.intro (RdK.below hb hbx) (And.intro fa (And.intro fb (And.intro h2 kx)))))
  have HB1 := Lib.hid hbx
  clear ha hb fa fb h2 hbx kx hna hca hnb hcb
  go_enter Tryz.func8, Tryz.ntmps8
  go_upto_region 1 with fail
  generalize w0.alloc (.cells #[.int .i64 x0, .int .i64 x1, .int .i64 x2] 92) = w1 at H HB1 ⊢
  obtain ⟨D, hD⟩ : ∃ y, w0.heap.size = y := ⟨_, rfl⟩
  rw [hD] at H ⊢
  clear hD
  by_cases h1 : (20 : Int) < (la.length : Int)
  · have h1d : decide ((20 : Int) < (la.length : Int)) = true := by simpa using h1
    go_wp2_with fail
    refine (awake15_ok w1).mono ?_
    rintro e wz ⟨rfl, hbz⟩
    have HZ := Lib.hid ((HB1.out).trans (hbz.mono (HB1.out).size))
    clear hbz
    go_wp2_with fail
    go_ret
    exact ⟨rfl, HZ.out⟩
  by_cases h2 : (20 : Int) < (lb.length : Int)
  · have h1d : decide ((20 : Int) < (la.length : Int)) = false := by simpa using h1
    have h2d : decide ((20 : Int) < (lb.length : Int)) = true := by simpa using h2
    go_wp2_with fail
    refine (awake15_ok w1).mono ?_
    rintro e wz ⟨rfl, hbz⟩
    have HZ := Lib.hid ((HB1.out).trans (hbz.mono (HB1.out).size))
    clear hbz
    go_wp2_with fail
    go_ret
    exact ⟨rfl, HZ.out⟩
  go_wp2_with fail
  refine (new_ok w1 _ _ la H.out.1 (by omega) H.out.2.2.1).mono ?_
  intro e w2 hnp
  obtain ⟨v2, n2, rfl, hnv⟩ := hnp.named
  obtain ⟨A2, m2, c2, rfl⟩ := hnv.slice
  have hb2 := hnv.1
  have hj2 := hnv.j H.out.2.2.1
  have hbf := new_box w2 (.cells #[.slice A2 m2 c2] 109)
  have kf := heap_alloc_new w2 (.cells #[.slice A2 m2 c2] 109)
  have H2 := Lib.hid (And.intro hj2 (And.intro hb2 (And.intro hbf kf)))
  clear hnp hnv hb2 hbf kf hj2
  go_upto_region 4 with fail
  have H3 := H2.out
  clear H2
  generalize w2.alloc (.cells #[.slice A2 m2 c2] 109) = w3 at H3 ⊢
  obtain ⟨FF, hFF⟩ : ∃ y, w2.heap.size = y := ⟨_, rfl⟩
  obtain ⟨q2, hb2, hbf, kf⟩ := H3
  have hb13 := hb2.trans (hbf.mono hb2.size)
  rw [hFF] at kf ⊢
  have H3 := Lib.hid (And.intro (q2.below hbf) (And.intro (RdK.below H.out.1 hb13) (And.intro (RdK.below H.out.2.1 hb13) (And.intro (HB1.out.trans (hb13.mono HB1.out.size)) (And.intro ((Only.of_below hb13 (fun _ => False)).heap H.out.2.2.2.2.2 (fun h => h)) kf)))))
  clear q2 hb2 hbf kf hb13 hFF
  go_wp2_with fail
  refine (new_ok w3 _ _ lb H3.out.2.2.1 (by omega) H.out.2.2.2.1).mono ?_
  intro e w4 hnp
  obtain ⟨v4, n4, rfl, hnv⟩ := hnp.named
  obtain ⟨A4, m4, c4, rfl⟩ := hnv.slice
  have hb4 := hnv.1
  have hj4 := hnv.j H.out.2.2.2.1
  have hbg := new_box w4 (.cells #[.slice A4 m4 c4] 109)
  have kg := heap_alloc_new w4 (.cells #[.slice A4 m4 c4] 109)
  have H4 := Lib.hid (And.intro hj4 (And.intro hb4 (And.intro hbg kg)))
  clear hnp hnv hb4 hbg kg hj4
  go_upto_region 5 with fail
  have H5 := H4.out
  clear H4
  generalize w4.alloc (.cells #[.slice A4 m4 c4] 109) = w5 at H5 ⊢
  obtain ⟨GG, hGG⟩ : ∃ y, w4.heap.size = y := ⟨_, rfl⟩
  obtain ⟨q4, hb4, hbg, kg⟩ := H5
  have hb35 := hb4.trans (hbg.mono hb4.size)
  rw [hGG] at kg ⊢
  have H5 := Lib.hid (And.intro (H3.out.1.below hb35) (And.intro (q4.below hbg) (And.intro (RdK.below H3.out.2.1 hb35) (And.intro (H3.out.2.2.2.1.trans (hb35.mono H3.out.2.2.2.1.size)) (And.intro ((Only.of_below hb35 (fun _ => False)).heap H3.out.2.2.2.2.1 (fun h => h)) (And.intro ((Only.of_below hb35 (fun _ => False)).heap H3.out.2.2.2.2.2 (fun h => h)) kg))))))
  clear q4 hb4 hbg kg hb35 hGG H3
  by_cases hn2 : n2 = 0
  · by_cases hn4 : n4 = 0
    · subst hn2 hn4
      obtain ⟨q2, q4, ra, hb5, kD, kF, kG⟩ := H5.out
      rcases q2 with q2 | ⟨_, fl, ff, hfl, gla, gfl, rf⟩
      · exact absurd rfl q2
      rcases q4 with q4 | ⟨_, gl, fg, hgl, glb, ggl, rg⟩
      · exact absurd rfl q4
      have e3 : m2 = fl.length := by
        obtain ⟨A', c', e, _, _⟩ := rf.slice
        injection e
      have e4 : m4 = gl.length := by
        obtain ⟨A', c', e, _, _⟩ := rg.slice
        injection e
      subst e3 e4
      obtain ⟨q, hq⟩ := bool_of (WithinP gl fl)
      have HQ := Lib.hid (And.intro hq (hq.congr (within_told ff)))
      have HF := Lib.hid (And.intro ra (And.intro rf (And.intro rg (And.intro hb5 (And.intro ff (And.intro fg (And.intro gfl (And.intro ggl gla))))))))
      have HN := Lib.hid (And.intro hfl hgl)
      obtain ⟨⟨z0, z1, z2⟩, -⟩ := out_cells kD
      have y7 : w5.cell? ⟨FF, 0, none⟩ = some (.slice A2 fl.length c2) := by simp [World.cell?, kF]
      have y9 : w5.cell? ⟨GG, 0, none⟩ = some (.slice A4 gl.length c4) := by simp [World.cell?, kG]
      have HK := Lib.hid (And.intro z0 (And.intro z1 (And.intro z2 (And.intro y7 y9))))
      clear H5 kD kF kG ra rf rg hb5 ff fg gfl ggl gla glb hq hfl hgl
      go_upto_region 8 with fail
      clear z0 z1 z2 y7 y9
      go_cut [12] from 46 to 56 (fun s12 wx => ∃ b12, s12 = .pointer (some ⟨b12, 0, none⟩) ∧ wx.heap[b12]? = some (.cells #[.int .i64 (judK q x2), .int .i64 x0, .int .i64 (judV (judK q x2) x1)] 35 (0, 0)) ∧ Below w5.heap.size w5 wx)
      case first =>
        refine wp_region_held_drew (S := (fun w' => Below w5.heap.size w5 w')) (by kernel_rfl) (Below.refl _ _).drew (fun hHeld => ?_)
        refine takeS (i := 0) (v := ?_) rfl (by kernel_rfl) (by kernel_rfl) (by kernel_rfl) (fun _ _ _ h => h) (by rfl) (fun wS hSw => ?_) hHeld ?_
        rotate_left
        · go_simp; try with_reducible rfl
        try simp only [Act.put, List.setIfInBounds_toArray, List.set_cons_zero, List.set_cons_succ]
        refine takeS (i := 1) (v := ?_) rfl (by kernel_rfl) (by kernel_rfl) (by kernel_rfl) (fun _ _ _ h => h) (by rfl) (fun wS hSw => ?_) hHeld ?_
        rotate_left
        · have z9 := (hSw.cell (World.block_lt_of_cell? _ _ (HK.out.1))).trans (HK.out.1); go_simp; try with_reducible rfl
        try simp only [Act.put, List.setIfInBounds_toArray, List.set_cons_zero, List.set_cons_succ]
        refine takeS (i := 2) (v := ?_) rfl (by kernel_rfl) (by kernel_rfl) (by kernel_rfl) (fun _ _ _ h => h) (by rfl) (fun wS hSw => ?_) hHeld ?_
        rotate_left
        · have z9 := (hSw.cell (World.block_lt_of_cell? _ _ (HK.out.2.2.2.1))).trans (HK.out.2.2.2.1); go_simp; try with_reducible rfl
        try simp only [Act.put, List.setIfInBounds_toArray, List.set_cons_zero, List.set_cons_succ]
        refine takeS (i := 5) (v := ?_) rfl (by kernel_rfl) (by kernel_rfl) (by kernel_rfl) (fun _ _ _ h => h) (by rfl) (fun wS hSw => ?_) hHeld ?_
        rotate_left
        · go_simp; try with_reducible rfl
        try simp only [Act.put, List.setIfInBounds_toArray, List.set_cons_zero, List.set_cons_succ]
        refine takeS (i := 6) (v := ?_) rfl (by kernel_rfl) (by kernel_rfl) (by kernel_rfl) (fun _ _ _ h => h) (by rfl) (fun wS hSw => ?_) hHeld ?_
        rotate_left
        · have z9 := (hSw.cell (World.block_lt_of_cell? _ _ (HK.out.2.1))).trans (HK.out.2.1); go_simp; try with_reducible rfl
        try simp only [Act.put, List.setIfInBounds_toArray, List.set_cons_zero, List.set_cons_succ]
        refine takeS (i := 7) (v := ?_) rfl (by kernel_rfl) (by kernel_rfl) (by kernel_rfl) (fun _ _ _ h => h) (by rfl) (fun wS hSw => ?_) hHeld ?_
        rotate_left
        · have z9 := (hSw.cell (World.block_lt_of_cell? _ _ (HK.out.2.2.2.2))).trans (HK.out.2.2.2.2); go_simp; try with_reducible rfl
        try simp only [Act.put, List.setIfInBounds_toArray, List.set_cons_zero, List.set_cons_succ]
        refine takeS (i := 8) (v := ?_) rfl (by kernel_rfl) (by kernel_rfl) (by kernel_rfl) (fun _ _ _ h => h) (by rfl) (fun wS hSw => ?_) hHeld ?_
        rotate_left
        · go_simp; try with_reducible rfl
        try simp only [Act.put, List.setIfInBounds_toArray, List.set_cons_zero, List.set_cons_succ]
        refine takeS (i := 9) (v := ?_) rfl (by kernel_rfl) (by kernel_rfl) (by kernel_rfl) (fun _ _ _ h => h) (by rfl) (fun wS hSw => ?_) hHeld ?_
        rotate_left
        · go_simp; try with_reducible rfl
        try simp only [Act.put, List.setIfInBounds_toArray, List.set_cons_zero, List.set_cons_succ]
        refine wpAnyH_ready (rs := [3, 11]) (by kernel_rfl) (by simp) (consS (i := 3) rfl (fun K hK => ?_) (consS (i := 11) rfl (fun K hK => ?_) AllReadyH.nil))
        · skip
          go_simp
          refine (claims_ok _ (fun _ => True) _ fl (RdK.below HF.out.2.1 hHeld) (by have := HN.out.1; omega)).mono ?_
          rintro e wn ⟨A6, c6, rfl, hown, hbn⟩
          have R3 := Lib.hid (fresh_rd hown)
          clear hown
          try simp only [Array.length_toList] at K12
          first | have K12 := Lib.hid (k12_next K12.out hbn rfl) | skip
          try go_simp
          refine hK.out _ _ (heldS0 hHeld hbn) (fun hHeld2 => ?_)
          clear hK K hHeld hbn
          have hHeld := hHeld2
          clear hHeld2
          try simp only [Act.put, List.setIfInBounds_toArray, List.set_cons_zero, List.set_cons_succ]
          refine takeS (i := 4) (v := ?_) rfl (by kernel_rfl) (by kernel_rfl) (by kernel_rfl) (fun _ _ _ h => h) (by rfl) (fun wS hSw => ?_) hHeld ?_
          rotate_left
          · go_simp; try with_reducible rfl
          try simp only [Act.put, List.setIfInBounds_toArray, List.set_cons_zero, List.set_cons_succ]
          refine wpAnyH_ready (rs := [10, 11]) (by kernel_rfl) (by simp) (consS (i := 10) rfl (fun K hK => ?_) (consS (i := 11) rfl (fun K hK => ?_) AllReadyH.nil))
          · skip
            go_simp
            refine (judge_ok _ (fun _ => True) (fun _ => True) x0 x1 x2 _ _ _ _ _ _ fl gl q (by first | exact R3.out | exact RdK.below R3.out (new_box _ _)) (RdK.below HF.out.2.2.1 hHeld) HN.out.1 HN.out.2 HF.out.2.2.2.2.2.2.1 HF.out.2.2.2.2.2.2.2.1 HF.out.2.2.2.2.1.self HQ.out.1 H.out.2.2.2.2.1).mono ?_
            rintro e wn ⟨rfl, hbn⟩
            try simp only [Array.length_toList] at K12
            first | have K12 := Lib.hid (k12_next K12.out hbn rfl) | skip
            try go_simp
            refine hK.out _ _ (heldS0 hHeld hbn) (fun hHeld2 => ?_)
            clear hK K hHeld hbn
            have hHeld := hHeld2
            clear hHeld2
            try simp only [Act.put, List.setIfInBounds_toArray, List.set_cons_zero, List.set_cons_succ]
            refine wpAnyH_ready (rs := [11]) (by kernel_rfl) (by simp) (consS (i := 11) rfl (fun K hK => ?_) AllReadyH.nil)
            have HH0 := Lib.hid hHeld
            have K12 := Lib.hid (k12_mk wn (.cells #[.int .i64 0, .int .i64 0, .int .i64 0] 35) hHeld.size)
            go_simp
            refine hK.out _ _ (heldS0 hHeld (new_box _ _)) (fun hHeld2 => ?_)
            clear hK K hHeld 
            have hHeld := hHeld2
            clear hHeld2
            try simp only [Act.put, List.setIfInBounds_toArray, List.set_cons_zero, List.set_cons_succ]
            refine wpAnyH_ready (rs := [12]) (by kernel_rfl) (by simp) (consS (i := 12) rfl (fun K hK => ?_) AllReadyH.nil)
            try simp only [Array.length_toList] at K12
            have P12 := Lib.hid (put3r (v0 := .int .i64 (judK q x2)) (v1 := .int .i64 x0) (v2 := .int .i64 (judV (judK q x2) x1)) K12.out.1)
            have s0 := (out_cells K12.out.1).1.1
            have s1 := (out_cells K12.out.1).1.2.1
            have s2 := (out_cells K12.out.1).1.2.2
            have f0 := (out_cells K12.out.1).2 0
            have f1 := (out_cells K12.out.1).2 1
            have f2 := (out_cells K12.out.1).2 2
            go_simp
            try simp only [Array.length_toList] at K12 P12
            refine hK.out _ _ (by first | exact below_put3 hHeld K12.out _ _ _ | exact heldS0 HH0.out (new_box _ _)) (fun hHeld2 => ?_)
            clear hK K hHeld s0 s1 s2 f0 f1 f2
            have hHeld := hHeld2
            clear hHeld2
            try simp only [Act.put, List.setIfInBounds_toArray, List.set_cons_zero, List.set_cons_succ]
            refine wpAnyH_done (by kernel_rfl) ?_ _
            have HZ := Lib.hid hHeld
            clear hHeld
            go_wp2_with fail
            go_meet
            exact ⟨_, rfl, by first | exact P12.out | exact heap_alloc_new _ _, HZ.out⟩
          · skip
            have HH0 := Lib.hid hHeld
            have K12 := Lib.hid (k12_mk wn (.cells #[.int .i64 0, .int .i64 0, .int .i64 0] 35) hHeld.size)
            go_simp
            refine hK.out _ _ (heldS0 hHeld (new_box _ _)) (fun hHeld2 => ?_)
            clear hK K hHeld 
            have hHeld := hHeld2
            clear hHeld2
            try simp only [Act.put, List.setIfInBounds_toArray, List.set_cons_zero, List.set_cons_succ]
            refine wpAnyH_ready (rs := [10]) (by kernel_rfl) (by simp) (consS (i := 10) rfl (fun K hK => ?_) AllReadyH.nil)
            go_simp
            refine (judge_ok _ (fun _ => True) (fun _ => True) x0 x1 x2 _ _ _ _ _ _ fl gl q (by first | exact R3.out | exact RdK.below R3.out (new_box _ _)) (RdK.below HF.out.2.2.1 hHeld) HN.out.1 HN.out.2 HF.out.2.2.2.2.2.2.1 HF.out.2.2.2.2.2.2.2.1 HF.out.2.2.2.2.1.self HQ.out.1 H.out.2.2.2.2.1).mono ?_
            rintro e wn ⟨rfl, hbn⟩
            try simp only [Array.length_toList] at K12
            first | have K12 := Lib.hid (k12_next K12.out hbn rfl) | skip
            try go_simp
            refine hK.out _ _ (heldS0 hHeld hbn) (fun hHeld2 => ?_)
            clear hK K hHeld hbn
            have hHeld := hHeld2
            clear hHeld2
            try simp only [Act.put, List.setIfInBounds_toArray, List.set_cons_zero, List.set_cons_succ]
            refine wpAnyH_ready (rs := [12]) (by kernel_rfl) (by simp) (consS (i := 12) rfl (fun K hK => ?_) AllReadyH.nil)
            try simp only [Array.length_toList] at K12
            have P12 := Lib.hid (put3r (v0 := .int .i64 (judK q x2)) (v1 := .int .i64 x0) (v2 := .int .i64 (judV (judK q x2) x1)) K12.out.1)
            have s0 := (out_cells K12.out.1).1.1
            have s1 := (out_cells K12.out.1).1.2.1
            have s2 := (out_cells K12.out.1).1.2.2
            have f0 := (out_cells K12.out.1).2 0
            have f1 := (out_cells K12.out.1).2 1
            have f2 := (out_cells K12.out.1).2 2
            go_simp
            try simp only [Array.length_toList] at K12 P12
            refine hK.out _ _ (by first | exact below_put3 hHeld K12.out _ _ _ | exact heldS0 HH0.out (new_box _ _)) (fun hHeld2 => ?_)
            clear hK K hHeld s0 s1 s2 f0 f1 f2
            have hHeld := hHeld2
            clear hHeld2
            try simp only [Act.put, List.setIfInBounds_toArray, List.set_cons_zero, List.set_cons_succ]
            refine wpAnyH_done (by kernel_rfl) ?_ _
            have HZ := Lib.hid hHeld
            clear hHeld
            go_wp2_with fail
            go_meet
            exact ⟨_, rfl, by first | exact P12.out | exact heap_alloc_new _ _, HZ.out⟩
        · skip
          have HH0 := Lib.hid hHeld
          have K12 := Lib.hid (k12_mk w5 (.cells #[.int .i64 0, .int .i64 0, .int .i64 0] 35) (Nat.le_refl w5.heap.size))
          go_simp
          refine hK.out _ _ (heldS0 hHeld (new_box _ _)) (fun hHeld2 => ?_)
          clear hK K hHeld 
          have hHeld := hHeld2
          clear hHeld2
          try simp only [Act.put, List.setIfInBounds_toArray, List.set_cons_zero, List.set_cons_succ]
          refine wpAnyH_ready (rs := [3]) (by kernel_rfl) (by simp) (consS (i := 3) rfl (fun K hK => ?_) AllReadyH.nil)
          go_simp
          refine (claims_ok _ (fun _ => True) _ fl (RdK.below HF.out.2.1 hHeld) (by have := HN.out.1; omega)).mono ?_
          rintro e wn ⟨A6, c6, rfl, hown, hbn⟩
          have R3 := Lib.hid (fresh_rd hown)
          clear hown
          try simp only [Array.length_toList] at K12
          first | have K12 := Lib.hid (k12_next K12.out hbn rfl) | skip
          try go_simp
          refine hK.out _ _ (heldS0 hHeld hbn) (fun hHeld2 => ?_)
          clear hK K hHeld hbn
          have hHeld := hHeld2
          clear hHeld2
          try simp only [Act.put, List.setIfInBounds_toArray, List.set_cons_zero, List.set_cons_succ]
          refine takeS (i := 4) (v := ?_) rfl (by kernel_rfl) (by kernel_rfl) (by kernel_rfl) (fun _ _ _ h => h) (by rfl) (fun wS hSw => ?_) hHeld ?_
          rotate_left
          · go_simp; try with_reducible rfl
          try simp only [Act.put, List.setIfInBounds_toArray, List.set_cons_zero, List.set_cons_succ]
          refine wpAnyH_ready (rs := [10]) (by kernel_rfl) (by simp) (consS (i := 10) rfl (fun K hK => ?_) AllReadyH.nil)
          go_simp
          refine (judge_ok _ (fun _ => True) (fun _ => True) x0 x1 x2 _ _ _ _ _ _ fl gl q (by first | exact R3.out | exact RdK.below R3.out (new_box _ _)) (RdK.below HF.out.2.2.1 hHeld) HN.out.1 HN.out.2 HF.out.2.2.2.2.2.2.1 HF.out.2.2.2.2.2.2.2.1 HF.out.2.2.2.2.1.self HQ.out.1 H.out.2.2.2.2.1).mono ?_
          rintro e wn ⟨rfl, hbn⟩
          try simp only [Array.length_toList] at K12
          first | have K12 := Lib.hid (k12_next K12.out hbn rfl) | skip
          try go_simp
          refine hK.out _ _ (heldS0 hHeld hbn) (fun hHeld2 => ?_)
          clear hK K hHeld hbn
          have hHeld := hHeld2
          clear hHeld2
          try simp only [Act.put, List.setIfInBounds_toArray, List.set_cons_zero, List.set_cons_succ]
          refine wpAnyH_ready (rs := [12]) (by kernel_rfl) (by simp) (consS (i := 12) rfl (fun K hK => ?_) AllReadyH.nil)
          try simp only [Array.length_toList] at K12
          have P12 := Lib.hid (put3r (v0 := .int .i64 (judK q x2)) (v1 := .int .i64 x0) (v2 := .int .i64 (judV (judK q x2) x1)) K12.out.1)
          have s0 := (out_cells K12.out.1).1.1
          have s1 := (out_cells K12.out.1).1.2.1
          have s2 := (out_cells K12.out.1).1.2.2
          have f0 := (out_cells K12.out.1).2 0
          have f1 := (out_cells K12.out.1).2 1
          have f2 := (out_cells K12.out.1).2 2
          go_simp
          try simp only [Array.length_toList] at K12 P12
          refine hK.out _ _ (by first | exact below_put3 hHeld K12.out _ _ _ | exact heldS0 HH0.out (new_box _ _)) (fun hHeld2 => ?_)
          clear hK K hHeld s0 s1 s2 f0 f1 f2
          have hHeld := hHeld2
          clear hHeld2
          try simp only [Act.put, List.setIfInBounds_toArray, List.set_cons_zero, List.set_cons_succ]
          refine wpAnyH_done (by kernel_rfl) ?_ _
          have HZ := Lib.hid hHeld
          clear hHeld
          go_wp2_with fail
          go_meet
          exact ⟨_, rfl, by first | exact P12.out | exact heap_alloc_new _ _, HZ.out⟩
      case rest =>
        obtain ⟨b12, rfl, k12, hbc⟩ := hcut
        have hK := HK.out
        have on : ∀ {p : Addr} {v : Value}, w5.cell? p = some v → wc.cell? p = some v := fun {p v} h => (hbc.cell (World.block_lt_of_cell? _ _ h)).trans h
        have HC := Lib.hid (And.intro hbc (And.intro k12 (And.intro (on hK.1) (And.intro (on hK.2.1) (on hK.2.2.2.2)))))
        have y9 := HC.out.2.2.2.2
        have HCl := Lib.hid (claims_ok wc (fun _ => True) _ gl (RdK.below HF.out.2.2.1 hbc) (by have := HN.out.2; omega))
        clear hK on hbc k12
        go_wp2_with fail
        refine (kind15_ok wc x2).mono ?_
        rintro e w6 ⟨rfl, rfl⟩
        go_wp2_with fail
        refine HCl.out.mono ?_
        rintro e w7 ⟨A7, c7, rfl, hown, hb7⟩
        have hr7 := fresh_rd hown
        have on : ∀ {p : Addr} {v : Value}, w6.cell? p = some v → w7.cell? p = some v := fun {p v} h => (hb7.cell (World.block_lt_of_cell? _ _ h)).trans h
        have HC7 := Lib.hid (And.intro (HC.out.1.trans (hb7.mono HC.out.1.size)) (And.intro ((Only.of_below hb7 (fun _ => False)).heap HC.out.2.1 (fun h => h)) (And.intro (on HC.out.2.2.1) (And.intro (on HC.out.2.2.2.1) hr7))))
        clear hown hb7 hr7 on HCl y9
        go_wp2_with fail
        go_loopw [13, 15] (fun kv i wr => ∃ k : Nat, k ≤ gl.length ∧ i = .int .i64 (k : Int) ∧ JuI w7 la gl x2 k kv wr) (fun _ i _ => gl.length - (intOf i).toNat)
        case atStart => exact ⟨0, Nat.zero_le _, by first | trivial | rfl, Below.refl _ _, true, .yes (by simp), by first | trivial | rfl⟩
        case round =>
          obtain ⟨k, hk, rfl, hbr, qk, hqk, rfl⟩ := hrel
          have hg64 : gl.length ≤ 64 := HN.out.2
          by_cases hlt : k < gl.length
          · obtain ⟨x, hx⟩ : ∃ x, gl[k]? = some x := ⟨_, List.getElem?_eq_getElem hlt⟩
            have hrd := RdK.below HC7.out.2.2.2.2 hbr
            obtain ⟨b, o, rfl, hFb, c0, c1, c2', c3, c4'⟩ := ClRd.at_ hrd hx
            have hgx := HF.out.2.2.2.2.2.2.2.1 x (List.mem_of_getElem? hx)
            have HV := Lib.hid (covers12_ok wr (fun _ => True) _ la x (RdK.below HF.out.1 (HC7.out.1.trans (hbr.mono HC7.out.1.size))) (by omega) HF.out.2.2.2.2.2.2.2.2 hgx.1 hgx.2)
            have i1 : (0 : Int) ≤ (k : Int) := by omega
            have i2 : (k : Int) < (gl.length : Int) := by omega
            have HR := Lib.hid (And.intro hx (And.intro hqk hbr))
            clear hx hqk hbr hrd hFb hgx
            go_wp2_with fail
            refine HV.out.mono ?_
            rintro e w9 ⟨r, hr, rfl, hb9⟩
            have HR9 := Lib.hid (And.intro hr (HR.out.2.2.trans (hb9.mono HR.out.2.2.size)))
            clear hr hb9 HV
            cases r with
            | true =>
              go_wp2_with fail
              go_roundw
              case rel => exact ⟨k + 1, by omega, by go_num, HR9.out.2, qk, HR.out.2.1.congr ⟨fun h => (all_take HR.out.1).2 ⟨h, HR9.out.1.1 (by simp)⟩, fun h => ((all_take HR.out.1).1 h).1⟩, by first | trivial | rfl⟩
              case measure => simp [intOf]; omega
            | false =>
              have hno : ¬ CovP x la := fun h => by have := HR9.out.1.2 h; cases this
              have HNo := Lib.hid hno
              clear hno
              go_wp2_with fail
              go_roundw
              case rel => exact ⟨k + 1, by omega, by go_num, HR9.out.2, false, .no (fun h => HNo.out ((all_take HR.out.1).1 h).2), by first | trivial | rfl⟩
              case measure => simp [intOf]; omega
          · obtain rfl : k = gl.length := by omega
            rw [List.take_length] at hqk
            obtain rfl : qk = q := by
              have h1 := HQ.out.2
              cases qk with
              | true => exact (h1.2 (hqk.1 rfl)).symm
              | false =>
                cases q with
                | true => exact absurd (h1.1 rfl) hqk.neg
                | false => rfl
            have on : ∀ {p : Addr} {v : Value}, w7.cell? p = some v → wr.cell? p = some v := fun {p v} h => (hbr.cell (World.block_lt_of_cell? _ _ h)).trans h
            have k12 := (Only.of_below hbr (fun _ => False)).heap HC7.out.2.1 (fun h => h)
            have z0 := on HC7.out.2.2.1
            have z1 := on HC7.out.2.2.2.1
            have HB9 := Lib.hid (HF.out.2.2.2.1.trans ((HC7.out.1.trans (hbr.mono HC7.out.1.size)).mono HF.out.2.2.2.1.size))
            clear hqk hbr on
            obtain ⟨K, hK⟩ : ∃ y, wantK qk x2 = y := ⟨_, rfl⟩
            rw [hK]
            have hlt12 := (Array.getElem?_eq_some_iff.1 k12).1
            have hl0 := HB9.out.size
            have hx := new_box wr (.cells #[.int .i64 K, .int .i64 x0, .int .i64 0] 35)
            have k16 := heap_alloc_new wr (.cells #[.int .i64 K, .int .i64 x0, .int .i64 0] 35)
            go_upto_region 17 with fail
            generalize wr.alloc (.cells #[.int .i64 K, .int .i64 x0, .int .i64 0] 35) = w10 at hx k16 ⊢
            have z1' := (hx.cell (World.block_lt_of_cell? _ _ z1)).trans z1
            have k12' := (Only.of_below hx (fun _ => False)).heap k12 (fun h => h)
            have hb10 := HB9.out.trans (hx.mono HB9.out.size)
            generalize wr.heap.size = b16 at k16 hlt12 hl0 hx ⊢
            have H10 := Lib.hid (And.intro hb10 (And.intro k12' (And.intro hlt12 hl0)))
            clear hx k12 k12' hb10 z0 z1 hlt12 hl0
            by_cases hkn : known x2
            · have hKK := (judK_want hkn (q := qk)).trans hK
              obtain ⟨hb10, k12, hlt12, hl0⟩ := H10.out
              rw [hKK] at k12
              by_cases e1 : K = 1
              · subst e1
                obtain ⟨⟨p0, p1, p2⟩, pf⟩ := out_cells k16
                have pf2 := pf 2
                have k16b := set2_row (v := .int .i64 x1) k16
                have k12b := (Only.set1 w10 b16 2 (.int .i64 x1)).heap k12 (Nat.ne_of_lt hlt12)
                have HBX := Lib.hid (hb10.setCell (p := ⟨b16, 2, none⟩) hl0 (.int .i64 x1))
                clear k16 k12 hb10 hlt12 hl0 pf hKK hK
                go_upto_region 19 with fail
                obtain ⟨⟨s0, s1, s2⟩, -⟩ := out_cells k16b
                obtain ⟨⟨u0, u1, u2⟩, -⟩ := out_cells k12b
                have heq := fun w => eqOut 1 x0 x1 1 x0 x1 w
                rw [show decide ((1 : Int) = 1 ∧ x0 = x0 ∧ x1 = x1) = true from by simp] at heq
                rw [show judV 1 x1 = x1 from rfl] at u2
                have hgd := Tryz.guardOut
                clear k16b k12b p0 p1 p2 pf2
                rcases hkn with rfl | rfl | rfl | rfl | rfl | rfl
                · skip
                  go_wp2_with fail
                  refine (awake15_ok _).mono ?_
                  rintro e wz ⟨rfl, hbz⟩
                  have HZ := Lib.hid ((HBX.out).trans (hbz.mono (HBX.out).size))
                  clear hbz
                  go_wp2_with fail
                  go_ret
                  exact ⟨rfl, HZ.out⟩
                · skip
                  go_wp2_with fail
                  refine (awake15_ok _).mono ?_
                  rintro e wz ⟨rfl, hbz⟩
                  have HZ := Lib.hid ((HBX.out).trans (hbz.mono (HBX.out).size))
                  clear hbz
                  go_wp2_with fail
                  go_ret
                  exact ⟨rfl, HZ.out⟩
                · skip
                  go_wp2_with fail
                  refine (awake15_ok _).mono ?_
                  rintro e wz ⟨rfl, hbz⟩
                  have HZ := Lib.hid ((HBX.out).trans (hbz.mono (HBX.out).size))
                  clear hbz
                  go_wp2_with fail
                  go_ret
                  exact ⟨rfl, HZ.out⟩
                · skip
                  go_wp2_with fail
                  refine (awake15_ok _).mono ?_
                  rintro e wz ⟨rfl, hbz⟩
                  have HZ := Lib.hid ((HBX.out).trans (hbz.mono (HBX.out).size))
                  clear hbz
                  go_wp2_with fail
                  go_ret
                  exact ⟨rfl, HZ.out⟩
                · skip
                  go_wp2_with fail
                  refine (awake15_ok _).mono ?_
                  rintro e wz ⟨rfl, hbz⟩
                  have HZ := Lib.hid ((HBX.out).trans (hbz.mono (HBX.out).size))
                  clear hbz
                  go_wp2_with fail
                  go_ret
                  exact ⟨rfl, HZ.out⟩
                · skip
                  go_wp2_with fail
                  refine (awake15_ok _).mono ?_
                  rintro e wz ⟨rfl, hbz⟩
                  have HZ := Lib.hid ((HBX.out).trans (hbz.mono (HBX.out).size))
                  clear hbz
                  go_wp2_with fail
                  go_ret
                  exact ⟨rfl, HZ.out⟩
              by_cases e2 : K = 2
              · subst e2
                obtain ⟨⟨p0, p1, p2⟩, pf⟩ := out_cells k16
                have pf2 := pf 2
                have k16b := set2_row (v := .int .i64 x1) k16
                have k12b := (Only.set1 w10 b16 2 (.int .i64 x1)).heap k12 (Nat.ne_of_lt hlt12)
                have HBX := Lib.hid (hb10.setCell (p := ⟨b16, 2, none⟩) hl0 (.int .i64 x1))
                clear k16 k12 hb10 hlt12 hl0 pf hKK hK
                go_upto_region 19 with fail
                obtain ⟨⟨s0, s1, s2⟩, -⟩ := out_cells k16b
                obtain ⟨⟨u0, u1, u2⟩, -⟩ := out_cells k12b
                have heq := fun w => eqOut 2 x0 x1 2 x0 x1 w
                rw [show decide ((2 : Int) = 2 ∧ x0 = x0 ∧ x1 = x1) = true from by simp] at heq
                rw [show judV 2 x1 = x1 from rfl] at u2
                have hgd := Tryz.guardOut
                clear k16b k12b p0 p1 p2 pf2
                rcases hkn with rfl | rfl | rfl | rfl | rfl | rfl
                · skip
                  go_wp2_with fail
                  refine (awake15_ok _).mono ?_
                  rintro e wz ⟨rfl, hbz⟩
                  have HZ := Lib.hid ((HBX.out).trans (hbz.mono (HBX.out).size))
                  clear hbz
                  go_wp2_with fail
                  go_ret
                  exact ⟨rfl, HZ.out⟩
                · skip
                  go_wp2_with fail
                  refine (awake15_ok _).mono ?_
                  rintro e wz ⟨rfl, hbz⟩
                  have HZ := Lib.hid ((HBX.out).trans (hbz.mono (HBX.out).size))
                  clear hbz
                  go_wp2_with fail
                  go_ret
                  exact ⟨rfl, HZ.out⟩
                · skip
                  go_wp2_with fail
                  refine (awake15_ok _).mono ?_
                  rintro e wz ⟨rfl, hbz⟩
                  have HZ := Lib.hid ((HBX.out).trans (hbz.mono (HBX.out).size))
                  clear hbz
                  go_wp2_with fail
                  go_ret
                  exact ⟨rfl, HZ.out⟩
                · skip
                  go_wp2_with fail
                  refine (awake15_ok _).mono ?_
                  rintro e wz ⟨rfl, hbz⟩
                  have HZ := Lib.hid ((HBX.out).trans (hbz.mono (HBX.out).size))
                  clear hbz
                  go_wp2_with fail
                  go_ret
                  exact ⟨rfl, HZ.out⟩
                · skip
                  go_wp2_with fail
                  refine (awake15_ok _).mono ?_
                  rintro e wz ⟨rfl, hbz⟩
                  have HZ := Lib.hid ((HBX.out).trans (hbz.mono (HBX.out).size))
                  clear hbz
                  go_wp2_with fail
                  go_ret
                  exact ⟨rfl, HZ.out⟩
                · skip
                  go_wp2_with fail
                  refine (awake15_ok _).mono ?_
                  rintro e wz ⟨rfl, hbz⟩
                  have HZ := Lib.hid ((HBX.out).trans (hbz.mono (HBX.out).size))
                  clear hbz
                  go_wp2_with fail
                  go_ret
                  exact ⟨rfl, HZ.out⟩
              have hq1 : (K == 1) = false := by simpa using e1
              have hq2 : (K == 2) = false := by simpa using e2
              obtain ⟨⟨p0, p1, p2⟩, -⟩ := out_cells k16
              obtain ⟨⟨u0, u1, u2⟩, -⟩ := out_cells k12
              have heq := fun w => eqOut K x0 0 K x0 0 w
              rw [show decide (K = K ∧ x0 = x0 ∧ (0 : Int) = 0) = true from by simp] at heq
              rw [show judV K x1 = 0 from if_neg (by rintro (h | h); exact e1 h; exact e2 h)] at u2
              have hgd := Tryz.guardOut
              have HBX := Lib.hid hb10
              clear k16 k12 hb10 hlt12 hl0 hKK hK
              rcases hkn with rfl | rfl | rfl | rfl | rfl | rfl
              · skip
                go_wp2_with fail
                refine (awake15_ok _).mono ?_
                rintro e wz ⟨rfl, hbz⟩
                have HZ := Lib.hid ((HBX.out).trans (hbz.mono (HBX.out).size))
                clear hbz
                go_wp2_with fail
                go_ret
                exact ⟨rfl, HZ.out⟩
              · skip
                go_wp2_with fail
                refine (awake15_ok _).mono ?_
                rintro e wz ⟨rfl, hbz⟩
                have HZ := Lib.hid ((HBX.out).trans (hbz.mono (HBX.out).size))
                clear hbz
                go_wp2_with fail
                go_ret
                exact ⟨rfl, HZ.out⟩
              · skip
                go_wp2_with fail
                refine (awake15_ok _).mono ?_
                rintro e wz ⟨rfl, hbz⟩
                have HZ := Lib.hid ((HBX.out).trans (hbz.mono (HBX.out).size))
                clear hbz
                go_wp2_with fail
                go_ret
                exact ⟨rfl, HZ.out⟩
              · skip
                go_wp2_with fail
                refine (awake15_ok _).mono ?_
                rintro e wz ⟨rfl, hbz⟩
                have HZ := Lib.hid ((HBX.out).trans (hbz.mono (HBX.out).size))
                clear hbz
                go_wp2_with fail
                go_ret
                exact ⟨rfl, HZ.out⟩
              · skip
                go_wp2_with fail
                refine (awake15_ok _).mono ?_
                rintro e wz ⟨rfl, hbz⟩
                have HZ := Lib.hid ((HBX.out).trans (hbz.mono (HBX.out).size))
                clear hbz
                go_wp2_with fail
                go_ret
                exact ⟨rfl, HZ.out⟩
              · skip
                go_wp2_with fail
                refine (awake15_ok _).mono ?_
                rintro e wz ⟨rfl, hbz⟩
                have HZ := Lib.hid ((HBX.out).trans (hbz.mono (HBX.out).size))
                clear hbz
                go_wp2_with fail
                go_ret
                exact ⟨rfl, HZ.out⟩
            · have hK3 : K = 3 := by
                rw [← hK]
                cases qk with
                | false => rfl
                | true =>
                  show refK x2 = 3
                  unfold known at hkn
                  unfold refK
                  rw [if_neg (fun h => hkn (.inl h)), if_neg (fun h => hkn (.inr (.inl h))), if_neg (fun h => hkn (.inr (.inr (.inl h)))), if_neg (fun h => hkn (.inr (.inr (.inr (.inl h))))), if_neg (fun h => hkn (.inr (.inr (.inr (.inr (.inl h))))))]
              subst hK3
              have n0 : ¬ x2 = 0 := fun h => hkn (.inl h)
              have n1 : ¬ x2 = 19 := fun h => hkn (.inr (.inl h))
              have n2 : ¬ x2 = 20 := fun h => hkn (.inr (.inr (.inl h)))
              have n3 : ¬ x2 = 16 := fun h => hkn (.inr (.inr (.inr (.inl h))))
              have n4 : ¬ x2 = 23 := fun h => hkn (.inr (.inr (.inr (.inr (.inl h)))))
              have n5 : ¬ x2 = 21 := fun h => hkn (.inr (.inr (.inr (.inr (.inr h)))))
              have g0 : (x2 == 0) = false := by simpa using n0
              have g1 : (x2 == 19) = false := by simpa using n1
              have g2 : (x2 == 20) = false := by simpa using n2
              have g3 : (x2 == 16) = false := by simpa using n3
              have g4 : (x2 == 23) = false := by simpa using n4
              have g5 : (x2 == 21) = false := by simpa using n5
              obtain ⟨p0, p1, p2⟩ := (out_cells k16).1
              clear k16 hkn
              go_wp2_with fail
              refine (awake15_ok w10).mono ?_
              rintro e wz ⟨rfl, hbz⟩
              have HZ := Lib.hid ((H10.out.1).trans (hbz.mono (H10.out.1).size))
              clear hbz
              go_wp2_with fail
              go_ret
              exact ⟨rfl, HZ.out⟩
    · have hn4b : (n4 != 0) = true := by simpa using hn4
      subst hn2
      clear hn4
      go_wp2_with fail
      refine (awake15_ok w5).mono ?_
      rintro e wz ⟨rfl, hbz⟩
      have HZ := Lib.hid ((H5.out.2.2.2.1).trans (hbz.mono (H5.out.2.2.2.1).size))
      clear hbz
      go_wp2_with fail
      go_ret
      exact ⟨rfl, HZ.out⟩
  · have hn2b : (n2 != 0) = true := by simpa using hn2
    clear hn2
    go_wp2_with fail
    refine (awake15_ok w5).mono ?_
    rintro e wz ⟨rfl, hbz⟩
    have HZ := Lib.hid ((H5.out.2.2.2.1).trans (hbz.mono (H5.out.2.2.2.1).size))
    clear hbz
    go_wp2_with fail
    go_ret
    exact ⟨rfl, HZ.out⟩
end Go.Proofs.YtifpaagppjmbhaaGreatDoor
