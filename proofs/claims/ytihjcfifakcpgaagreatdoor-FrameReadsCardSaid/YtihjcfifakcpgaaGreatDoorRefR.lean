/- law13.Plain, ref13.Check, law13.claims, law13.check. -/
import Derived.Test.YtihjcfifakcpgaaGreatDoorRefQ
namespace Go.Proofs.YtihjcfifakcpgaaGreatDoor
set_option maxRecDepth 100000
open Go.RowKit

theorem plainKeep {wk W W' : World} {B R : Nat} {o : Obj} (h : Below wk.heap.size wk W ∧ R < W.heap.size ∧ W.heap[B]? = some o ∧ Four4 W R) (hb : Below W.heap.size W W') : Below wk.heap.size wk W' ∧ R < W'.heap.size ∧ W'.heap[B]? = some o ∧ Four4 W' R :=
  ⟨h.1.trans (hb.mono h.1.size), Nat.lt_of_lt_of_le h.2.1 hb.size, (Only.of_below hb (fun _ => False)).heap h.2.2.1 (fun h => h), h.2.2.2.below hb⟩
set_option maxRecDepth 100000 in
set_option maxHeartbeats 1000000 in
theorem plain13_ok (w : World) (e : FE) (A1 A2 A3 : Option Addr) (c1 c2 c3 : Nat) (h : EntRd w (fun _ => True) e (.slice A1 e.ops.length c1) (.slice A2 e.args.length c2) (.slice A3 e.cls.length c3)) (hl : e.ops.length ≤ 1000) :
    Calls Tryz.prog 18 #[.agg #[.int .i64 e.id, .slice A1 e.ops.length c1, .slice A2 e.args.length c2, .slice A3 e.cls.length c3]] w fun en w' => Below w.heap.size w w' ∧ ∃ A c, en = .returned (.agg #[.int .i64 e.id, .slice A e.ops.length c, .slice A2 e.args.length c2, .slice A3 e.cls.length c3]) ∧ EntRd w' (fun _ => True) e (.slice A e.ops.length c) (.slice A2 e.args.length c2) (.slice A3 e.cls.length c3) := by
  have hbx : Below w.heap.size w ((w.alloc (.cells #[.int .i64 e.id, .slice A1 e.ops.length c1, .slice A2 e.args.length c2, .slice A3 e.cls.length c3] 26)).alloc (.cells #[.int .i64 0, .slice none 0 0, .slice none 0 0, .slice none 0 0] 39)) := ((Below.refl _ _).alloc (Nat.le_refl _) _).alloc (by simp) _
  have k1 : ((w.alloc (.cells #[.int .i64 e.id, .slice A1 e.ops.length c1, .slice A2 e.args.length c2, .slice A3 e.cls.length c3] 26)).alloc (.cells #[.int .i64 0, .slice none 0 0, .slice none 0 0, .slice none 0 0] 39)).heap[w.heap.size]? = some (.cells #[.int .i64 e.id, .slice A1 e.ops.length c1, .slice A2 e.args.length c2, .slice A3 e.cls.length c3] 26 (0, 0)) := (Only.of_below (one_box _ _) (fun _ => False)).heap (heap_alloc_new _ _) (fun h => h)
  have k2 : ((w.alloc (.cells #[.int .i64 e.id, .slice A1 e.ops.length c1, .slice A2 e.args.length c2, .slice A3 e.cls.length c3] 26)).alloc (.cells #[.int .i64 0, .slice none 0 0, .slice none 0 0, .slice none 0 0] 39)).heap[w.heap.size + 1]? = some (.cells #[.int .i64 0, .slice none 0 0, .slice none 0 0, .slice none 0 0] 39 (0, 0)) := by
    have := heap_alloc_new (w.alloc (.cells #[.int .i64 e.id, .slice A1 e.ops.length c1, .slice A2 e.args.length c2, .slice A3 e.cls.length c3] 26)) (.cells #[.int .i64 0, .slice none 0 0, .slice none 0 0, .slice none 0 0] 39)
    simpa using this
  have HB := Lib.hid (And.intro hbx h)
  clear hbx h
  go_enter Tryz.func18, Tryz.ntmps18
  go_upto_region 1 with fail
  generalize (w.alloc (.cells #[.int .i64 e.id, .slice A1 e.ops.length c1, .slice A2 e.args.length c2, .slice A3 e.cls.length c3] 26)).alloc (.cells #[.int .i64 0, .slice none 0 0, .slice none 0 0, .slice none 0 0] 39) = w1 at k1 k2 HB ⊢
  obtain ⟨R, hR⟩ : ∃ R, w.heap.size + 1 = R := ⟨_, rfl⟩
  rw [hR] at k2 ⊢
  obtain ⟨B, hB⟩ : ∃ B, w.heap.size = B := ⟨_, rfl⟩
  rw [hB] at k1 ⊢
  have HR := Lib.hid (And.intro (show w.heap.size ≤ R by omega) (show B ≠ R by omega))
  have hRl : R < w1.heap.size := (Array.getElem?_eq_some_iff.1 k2).1
  have HRl := Lib.hid hRl
  clear hR hB hRl
  refine wp_region_held_drew (S := (fun w' => Below w.heap.size w w' ∧ R < w'.heap.size ∧ w'.heap[B]? = some (.cells #[.int .i64 e.id, .slice A1 e.ops.length c1, .slice A2 e.args.length c2, .slice A3 e.cls.length c3] 26 (0, 0)) ∧ Four4 w' R)) (by kernel_rfl) ⟨HB.out.1.drew, HRl.out, k1, ⟨_, _, _, _, k2⟩⟩ (fun hHeld => ?_)
  refine take_lit (i := 0) (v := ?_) rfl (by kernel_rfl) (by kernel_rfl) (by kernel_rfl) (fun _ _ _ h => h) (by rfl) (fun w hSw => ?_) hHeld ?_
  rotate_left
  · obtain ⟨s0, s1, s2, s3⟩ := hSw; go_simp; try with_reducible rfl
  try simp only [Act.put, List.setIfInBounds_toArray, List.set_cons_zero, List.set_cons_succ]
  refine take_lit (i := 1) (v := ?_) rfl (by kernel_rfl) (by kernel_rfl) (by kernel_rfl) (fun _ _ _ h => h) (by rfl) (fun w hSw => ?_) hHeld ?_
  rotate_left
  · obtain ⟨s0, s1, s2, s3⟩ := hSw; obtain ⟨⟨q0, q1, q2, q3⟩, _⟩ := blk4 s2; go_simp; try with_reducible rfl
  try simp only [Act.put, List.setIfInBounds_toArray, List.set_cons_zero, List.set_cons_succ]
  refine take_lit (i := 2) (v := ?_) rfl (by kernel_rfl) (by kernel_rfl) (by kernel_rfl) (fun _ _ _ h => h) (by rfl) (fun w hSw => ?_) hHeld ?_
  rotate_left
  · obtain ⟨s0, s1, s2, s3⟩ := hSw; go_simp; try with_reducible rfl
  try simp only [Act.put, List.setIfInBounds_toArray, List.set_cons_zero, List.set_cons_succ]
  refine take_lit (i := 3) (v := ?_) rfl (by kernel_rfl) (by kernel_rfl) (by kernel_rfl) (fun _ _ _ h => h) (by rfl) (fun w hSw => ?_) hHeld ?_
  rotate_left
  · obtain ⟨s0, s1, s2, s3⟩ := hSw; obtain ⟨⟨q0, q1, q2, q3⟩, _⟩ := blk4 s2; go_simp; try with_reducible rfl
  try simp only [Act.put, List.setIfInBounds_toArray, List.set_cons_zero, List.set_cons_succ]
  refine take_lit (i := 5) (v := ?_) rfl (by kernel_rfl) (by kernel_rfl) (by kernel_rfl) (fun _ _ _ h => h) (by rfl) (fun w hSw => ?_) hHeld ?_
  rotate_left
  · obtain ⟨s0, s1, s2, s3⟩ := hSw; go_simp; try with_reducible rfl
  try simp only [Act.put, List.setIfInBounds_toArray, List.set_cons_zero, List.set_cons_succ]
  refine take_lit (i := 6) (v := ?_) rfl (by kernel_rfl) (by kernel_rfl) (by kernel_rfl) (fun _ _ _ h => h) (by rfl) (fun w hSw => ?_) hHeld ?_
  rotate_left
  · obtain ⟨s0, s1, s2, s3⟩ := hSw; obtain ⟨⟨q0, q1, q2, q3⟩, _⟩ := blk4 s2; go_simp; try with_reducible rfl
  try simp only [Act.put, List.setIfInBounds_toArray, List.set_cons_zero, List.set_cons_succ]
  refine take_lit (i := 7) (v := ?_) rfl (by kernel_rfl) (by kernel_rfl) (by kernel_rfl) (fun _ _ _ h => h) (by rfl) (fun w hSw => ?_) hHeld ?_
  rotate_left
  · obtain ⟨s0, s1, s2, s3⟩ := hSw; go_simp; try with_reducible rfl
  try simp only [Act.put, List.setIfInBounds_toArray, List.set_cons_zero, List.set_cons_succ]
  refine take_lit (i := 8) (v := ?_) rfl (by kernel_rfl) (by kernel_rfl) (by kernel_rfl) (fun _ _ _ h => h) (by rfl) (fun w hSw => ?_) hHeld ?_
  rotate_left
  · obtain ⟨s0, s1, s2, s3⟩ := hSw; obtain ⟨⟨q0, q1, q2, q3⟩, _⟩ := blk4 s2; go_simp; try with_reducible rfl
  try simp only [Act.put, List.setIfInBounds_toArray, List.set_cons_zero, List.set_cons_succ]
  refine wpAnyH_ready (rs := [4]) (by kernel_rfl) (by simp) (cons_lit (i := 4) rfl (fun K hK => ?_) AllReadyH.nil)
  go_simp
  refine (refPlain11_ok _ (fun _ => True) _ e.ops (HB.out.2.1.below hHeld.1) hl).mono ?_
  rintro e wn ⟨An, cn, rfl, hO, hbn⟩
  have HO := Lib.hid (And.intro hO hHeld.2.1)
  have HBN := Lib.hid (plainKeep hHeld hbn)
  clear hO hbn
  try go_simp
  refine hK.out _ _ (HBN.out) (fun hHeld2 => ?_)
  clear hK K hHeld
  have hHeld := hHeld2
  clear hHeld2
  try simp only [Act.put, List.setIfInBounds_toArray, List.set_cons_zero, List.set_cons_succ]
  refine take_lit (i := 9) (v := ?_) rfl (by kernel_rfl) (by kernel_rfl) (by kernel_rfl) (fun _ _ _ h => h) (by rfl) (fun w hSw => ?_) hHeld ?_
  rotate_left
  · obtain ⟨s0, s1, s2, s3⟩ := hSw; go_simp; try with_reducible rfl
  try simp only [Act.put, List.setIfInBounds_toArray, List.set_cons_zero, List.set_cons_succ]
  refine wpAnyH_ready (rs := [10]) (by kernel_rfl) (by simp) (cons_lit (i := 10) rfl (fun K hK => ?_) AllReadyH.nil)
  obtain ⟨a0, a1, a2, a3, hR4⟩ := hHeld.2.2.2
  obtain ⟨⟨m0, m1, m2, m3⟩, y0, y1, y2, y3⟩ := blk4 hR4
  go_simp
  refine hK.out _ _ (⟨below4 hHeld.1 HR.out.1 _ _ _ _, by simpa [World.setCell] using hHeld.2.1, (only4b _ R _ _ _ _).heap hHeld.2.2.1 HR.out.2, hHeld.2.2.2.put _ _ _ _⟩) (fun hHeld2 => ?_)
  clear hK K hHeld
  have hHeld := hHeld2
  clear hHeld2
  try simp only [Act.put, List.setIfInBounds_toArray, List.set_cons_zero, List.set_cons_succ]
  refine wpAnyH_done (by kernel_rfl) ?_ _
  have HH := Lib.hid hHeld.1
  clear hHeld m0 m1 m2 m3 y0 y1 y2 y3 k1 k2
  go_wp2_with fail
  refine bodyPost_ret (results_cell_row rfl _ _ _ _ _ _ _ rfl (put4 hR4 _ _ _ _) Tryz.underlying39 rfl (by kernel_rfl)) rfl ⟨HH.out, An, cn, rfl, ?_⟩
  have hent := HB.out.2.below HH.out
  exact ⟨(RdK.only HO.out.1 (only4b wn R _ _ _ _) (fun k hk e => by subst e; exact absurd hk (Nat.not_le.2 HO.out.2))).mono (fun _ _ => trivial), hent.2.1, hent.2.2.1, hent.2.2.2⟩
set_option maxRecDepth 100000 in
set_option maxHeartbeats 2000000 in
theorem refCheck13_ok (w : World) (e : FE) (A1 A2 A3 : Option Addr) (c1 c2 c3 : Nat) (h : EntRd w (fun _ => True) e (.slice A1 e.ops.length c1) (.slice A2 e.args.length c2) (.slice A3 e.cls.length c3)) :
    Calls Tryz.prog 37 #[.agg #[.int .i64 e.id, .slice A1 e.ops.length c1, .slice A2 e.args.length c2, .slice A3 e.cls.length c3]] w fun en w' => en = .returned (.int .i64 (entE0 e)) ∧ Below w.heap.size w w' := by
  obtain ⟨_, _, hv2, hla, hca⟩ := ivs_slice h.2.1
  injection hv2 with e21 e22 e23
  subst e21 e23
  have hbx := one_box w (.cells #[.int .i64 e.id, .slice A1 e.ops.length c1, .slice A2 e.args.length c2, .slice A3 e.cls.length c3] 39)
  have k1 := heap_alloc_new w (.cells #[.int .i64 e.id, .slice A1 e.ops.length c1, .slice A2 e.args.length c2, .slice A3 e.cls.length c3] 39)
  have he0 : entE0 e = if e.id < 0 ∨ 1099511627776 < e.id then 10 else entE1 e := by unfold entE0; rfl
  have hEl := ivs_at h.2.1
  have HB := Lib.hid (And.intro hbx h)
  have HE := Lib.hid (And.intro he0 hEl)
  unfold maxLen at hca
  clear hbx h he0 hEl
  go_enter Tryz.func37, Tryz.ntmps37
  go_upto_region 1 with fail
  generalize w.alloc (.cells #[.int .i64 e.id, .slice A1 e.ops.length c1, .slice A2 e.args.length c2, .slice A3 e.cls.length c3] 39) = w1 at k1 HB ⊢
  obtain ⟨B, hB⟩ : ∃ B, w.heap.size = B := ⟨_, rfl⟩
  rw [hB] at k1 ⊢
  have K1 := Lib.hid k1
  clear hB
  obtain ⟨⟨q0, q1, q2, q3⟩, _⟩ := blk4 k1
  clear k1
  by_cases hi0 : e.id < 0
  · have HX := Lib.hid (show entE0 e = 10 by rw [HE.out.1, if_pos (.inl hi0)])
    go_wp2_with fail
    go_ret
    exact ⟨by rw [HX.out]; rfl, HB.out.1⟩
  by_cases hi1 : 1099511627776 < e.id
  · have HX := Lib.hid (show entE0 e = 10 by rw [HE.out.1, if_pos (.inr hi1)])
    go_wp2_with fail
    go_ret
    exact ⟨by rw [HX.out]; rfl, HB.out.1⟩
  have HN := Lib.hid (show entE0 e = entE1 e by rw [HE.out.1, if_neg (by omega)])
  have HC := Lib.hid (refCheck11_ok w1 _ _ e.ops (HB.out.2.1.below HB.out.1))
  go_wp2_with fail
  refine HC.out.mono ?_
  rintro en w2 ⟨rfl, hb2⟩
  obtain ⟨p, hp⟩ : ∃ p, opsE e.ops = p := ⟨_, rfl⟩
  rw [hp]
  have k2 := (Only.of_below hb2 (fun _ => False)).heap K1.out (fun h => h)
  have HP := Lib.hid hp
  have HB2 := Lib.hid (HB.out.1.trans (hb2.mono HB.out.1.size))
  clear hp hb2 q0 q1 q2 q3 HC
  obtain ⟨⟨q0, q1, q2, q3⟩, _⟩ := blk4 k2
  clear k2
  by_cases hp0 : p = 0
  · subst hp0
    by_cases ha8 : 8 < e.args.length
    · have ha8' : (8 : Int) < (e.args.length : Int) := by omega
      have HX := Lib.hid (show entE0 e = 23 from (HN.out.trans (entE1_zero HP.out)).trans (entE2_long ha8))
      go_wp2_with fail
      go_ret
      exact ⟨by rw [HX.out]; rfl, HB2.out⟩
    · have ha8' : ¬ ((8 : Int) < (e.args.length : Int)) := by omega
      have HX := Lib.hid (show entE0 e = entE2 e from HN.out.trans (entE1_zero HP.out))
      go_wp2_with fail
      go_loop [4] (fun i => ∃ k : Nat, k ≤ e.args.length ∧ i = .int .i64 (k : Int) ∧ argsOk (e.args.take k) = true) (fun i => e.args.length - (intOf i).toNat)
      case atStart => exact ⟨0, Nat.zero_le _, rfl, rfl⟩
      case round =>
        obtain ⟨k, hk, rfl, hal⟩ := hrel
        by_cases hlt : k < e.args.length
        · obtain ⟨x, hx⟩ : ∃ x, e.args[k]? = some x := ⟨_, List.getElem?_eq_getElem hlt⟩
          obtain ⟨ba, oa, hA2, _, cx⟩ := HE.out.2.2.2.2 k x hx
          subst hA2
          have dx := (HB2.out.cell (p := ⟨ba, oa + k, none⟩) (World.block_lt_of_cell? _ _ cx)).trans cx
          have HXX := Lib.hid (And.intro hx hal)
          have i1 : (0 : Int) ≤ (k : Int) := by omega
          have i2 : (k : Int) < (e.args.length : Int) := by omega
          clear hx hal cx
          by_cases hr : -1099511627776 ≤ x ∧ x ≤ 1099511627776
          · have hr1 : ¬ x < -1099511627776 := by omega
            have hr2 : ¬ 1099511627776 < x := by omega
            have HR := Lib.hid hr
            clear hr
            go_wp2_with fail
            go_round
            case rel =>
              refine ⟨k + 1, by omega, by go_num, ?_⟩
              have h9 := HXX.out.2
              unfold argsOk at h9 ⊢
              rw [List.take_add_one, HXX.out.1, List.all_append, h9]
              simp [HR.out.1, HR.out.2]
            case measure => simp [intOf]; omega
          · have HR := Lib.hid (show entE0 e = 10 from HX.out.trans (entE2_bad ha8 (args_no HXX.out.1 hr)))
            by_cases hr1 : x < -1099511627776
            · clear hr
              go_wp2_with fail
              go_ret
              exact ⟨by rw [HR.out]; rfl, HB2.out⟩
            · have hr2 : 1099511627776 < x := by omega
              clear hr
              go_wp2_with fail
              go_ret
              exact ⟨by rw [HR.out]; rfl, HB2.out⟩
        · have hkl : k = e.args.length := by omega
          subst hkl
          rw [List.take_length] at hal
          have HY := Lib.hid (show entE0 e = 0 from HX.out.trans (entE2_ok ha8 hal))
          clear hal hlt hk
          go_wp2_with fail
          go_ret
          exact ⟨by rw [HY.out]; rfl, HB2.out⟩
  · have hpn : (p != 0) = true := by simpa using hp0
    have HX := Lib.hid (show entE0 e = p from HN.out.trans (entE1_ne HP.out hp0))
    clear hp0
    go_wp2_with fail
    go_ret
    exact ⟨by rw [HX.out]; rfl, HB2.out⟩
set_option maxRecDepth 100000 in
set_option maxHeartbeats 2000000 in
theorem claims13_ok (w : World) (e : FE) (A1 A2 A3 : Option Addr) (c1 c2 c3 : Nat) (h : EntRd w (fun _ => True) e (.slice A1 e.ops.length c1) (.slice A2 e.args.length c2) (.slice A3 e.cls.length c3)) (hcl : e.cls.length ≤ 1000) :
    Calls Tryz.prog 38 #[.agg #[.int .i64 e.id, .slice A1 e.ops.length c1, .slice A2 e.args.length c2, .slice A3 e.cls.length c3]] w fun en w' => en = .returned (.int .i64 (clsE e.cls)) ∧ Below w.heap.size w w' := by
  have hX := EBx.start h
  have hbb := one_box w (.cells #[.int .i64 e.id, .slice A1 e.ops.length c1, .slice A2 e.args.length c2, .slice A3 e.cls.length c3] 26)
  have HX := Lib.hid hX
  have HB := Lib.hid hbb
  clear hX hbb h
  go_enter Tryz.func38, Tryz.ntmps38
  go_wp2_with fail
  generalize w.alloc (.cells #[.int .i64 e.id, .slice A1 e.ops.length c1, .slice A2 e.args.length c2, .slice A3 e.cls.length c3] 26) = w1 at HX HB ⊢
  obtain ⟨B, hB⟩ : ∃ B, w.heap.size = B := ⟨_, rfl⟩
  rw [hB] at HX ⊢
  have HBQ := Lib.hid hB
  clear hB
  refine (new_ok w1 _ _ e.cls HX.out.2.2.2.1 hcl HX.out.2.2.2.2.2.2.2).mono ?_
  intro en w2 hnp
  obtain ⟨u1, n1, rfl, hnv⟩ := hnp.named
  have hb2 := hnv.1
  have HX2 := Lib.hid (HX.out.below hb2)
  have HB2 := Lib.hid (HB.out.trans (hb2.mono HB.out.size))
  rcases hnv.cls with ⟨hn0, hcn, rfl⟩ | ⟨rfl, out, hf, h64, hce, A4, c4, rfl, hO⟩
  · have e1 : (n1 != 0) = true := by simpa using hn0
    have HZ := Lib.hid hcn
    clear hn0 hcn hb2 hnv hnp
    go_wp2_with fail
    go_ret
    exact ⟨by rw [HZ.out]; rfl, HB2.out.alloc HB2.out.size _⟩
  · have HZ := Lib.hid hce
    have hbx := one_box w2 (.cells #[.slice A4 out.length c4] 84)
    have kf := blk_cell (heap_alloc_new w2 (.cells #[.slice A4 out.length c4] 84))
    have HRF := Lib.hid (RdK.below (fresh_rd hO) hbx)
    have HX3 := Lib.hid (HX2.out.below hbx)
    have HB3 := Lib.hid (HB2.out.trans (hbx.mono HB2.out.size))
    clear hce hf hb2 hnv hnp hO hbx
    go_upto_region 4 with fail
    generalize w2.alloc (.cells #[.slice A4 out.length c4] 84) = w3 at kf HRF HX3 HB3 ⊢
    obtain ⟨Q, hQ⟩ : ∃ Q, w2.heap.size = Q := ⟨_, rfl⟩
    rw [hQ] at kf ⊢
    clear hQ
    go_wp2_with fail
    refine (claims_ok w3 (fun _ => True) _ out HRF.out (by omega)).mono ?_
    rintro en w4 ⟨A5, c5, rfl, hO5, hb4⟩
    have HR5 := Lib.hid (fresh_rd hO5)
    have HX4 := Lib.hid (HX3.out.below hb4)
    have HB4 := Lib.hid (HB3.out.trans (hb4.mono HB3.out.size))
    clear hO5 hb4 kf
    obtain ⟨q0, q1, q2, q3⟩ := HX4.out.cells
    by_cases hlen : out.length = e.cls.length
    · have hlen' : ((out.length : Int) != (e.cls.length : Int)) = false := by simp; omega
      obtain ⟨n, hn⟩ : ∃ n, out.length = n := ⟨_, rfl⟩
      have hn2 : e.cls.length = n := by omega
      have hn1000 : n ≤ 64 := by omega
      rw [hn] at HR5 hlen' ⊢
      rw [hn2] at hlen' q3
      have HCL := Lib.hid (show ClRd w4 (fun _ => True) (.slice A3 n c3) e.cls by have := HX4.out.2.2.2.1; rw [hn2] at this; exact this)
      have HN := Lib.hid (And.intro hn hn2)
      clear hn hn2 hlen
      go_wp2_with fail
      go_loopw [6] (fun i wr => ∃ k : Nat, k ≤ n ∧ i = .int .i64 (k : Int) ∧ out.take k = e.cls.take k ∧ Below w4.heap.size w4 wr) (fun i _ => n - (intOf i).toNat)
      case atStart => exact ⟨0, Nat.zero_le _, rfl, by simp, Below.refl _ _⟩
      case round =>
        obtain ⟨k, hk, rfl, htk, hbl⟩ := hrel
        by_cases hlt : k < n
        · obtain ⟨x, hx⟩ : ∃ x, out[k]? = some x := ⟨_, List.getElem?_eq_getElem (by rw [HN.out.1]; exact hlt)⟩
          obtain ⟨y, hy⟩ : ∃ y, e.cls[k]? = some y := ⟨_, List.getElem?_eq_getElem (by rw [HN.out.2]; exact hlt)⟩
          obtain ⟨b1, o1, rfl, hF1, c0, c1, c2, c3', c4'⟩ := HR5.out.at_ hx
          obtain ⟨b2, o2, rfl, hF2, d0, d1, d2, d3, d4⟩ := HCL.out.at_ hy
          have l1 := World.block_lt_of_cell? w4 _ c0
          have l2 := World.block_lt_of_cell? w4 _ d0
          have c0a := (hbl.cell (p := ⟨b1, o1 + k * 5, none⟩) l1).trans c0
          have c1a := (hbl.cell (p := ⟨b1, o1 + k * 5 + 1, none⟩) l1).trans c1
          have c2a := (hbl.cell (p := ⟨b1, o1 + k * 5 + 2, none⟩) l1).trans c2
          have c3a := (hbl.cell (p := ⟨b1, o1 + k * 5 + 3, none⟩) l1).trans c3'
          have c4a := (hbl.cell (p := ⟨b1, o1 + k * 5 + 4, none⟩) l1).trans c4'
          have d0a := (hbl.cell (p := ⟨b2, o2 + k * 5, none⟩) l2).trans d0
          have d1a := (hbl.cell (p := ⟨b2, o2 + k * 5 + 1, none⟩) l2).trans d1
          have d2a := (hbl.cell (p := ⟨b2, o2 + k * 5 + 2, none⟩) l2).trans d2
          have d3a := (hbl.cell (p := ⟨b2, o2 + k * 5 + 3, none⟩) l2).trans d3
          have d4a := (hbl.cell (p := ⟨b2, o2 + k * 5 + 4, none⟩) l2).trans d4
          have q3a := (hbl.cell (p := ⟨B, 3, none⟩) (World.block_lt_of_cell? w4 _ q3)).trans q3
          have i1 : (0 : Int) ≤ (k : Int) := by omega
          have i2 : (k : Int) < (n : Int) := by omega
          have HXY0 := Lib.hid (And.intro hx (And.intro hy (And.intro htk hbl)))
          clear c0 c1 c2 c3' c4' d0 d1 d2 d3 d4 hx hy htk hbl hF1 hF2
          have heq := eq_cl x y
          have hgd := Tryz.guardCl
          by_cases hxy : x = y
          · have hd : decide (x = y) = true := by simpa using hxy
            rw [hd] at heq
            have HXY := Lib.hid hxy
            clear hd hxy
            go_wp2_with fail
            go_quiet (fail)
            clear heq hgd
            go_wp2_with fail
            go_roundw
            case rel => exact ⟨k + 1, by omega, by go_num, by rw [take_snoc HXY0.out.1, take_snoc HXY0.out.2.1, HXY0.out.2.2.1, HXY.out], below_drewN HXY0.out.2.2.2 _⟩
            case measure => simp [intOf]; omega
          · have hd : decide (x = y) = false := by simpa using hxy
            rw [hd] at heq
            have HXY := Lib.hid hxy
            clear hd hxy
            have HZZ := Lib.hid (show clsE e.cls = 17 by
              rw [HZ.out, if_neg]
              intro he
              apply HXY.out
              have h1 := HXY0.out.1
              rw [he, HXY0.out.2.1] at h1
              injection h1 with h1
              exact h1.symm)
            go_wp2_with fail
            go_quiet (fail)
            clear heq hgd
            go_wp2_with fail
            go_ret
            exact ⟨by rw [HZZ.out]; rfl, HB4.out.trans ((below_drewN HXY0.out.2.2.2 _).mono HB4.out.size)⟩
        · have hkn : k = n := by omega
          subst hkn
          have HZZ := Lib.hid (show clsE e.cls = 0 by
            rw [HZ.out, if_pos]
            have h1 := htk
            rw [List.take_of_length_le (by rw [HN.out.1]; exact Nat.le_refl _), List.take_of_length_le (by rw [HN.out.2]; exact Nat.le_refl _)] at h1
            exact h1)
          have HBL := Lib.hid hbl
          clear htk hbl
          go_wp2_with fail
          go_ret
          exact ⟨by rw [HZZ.out]; rfl, HB4.out.trans (HBL.out.mono HB4.out.size)⟩
    · have hlen' : ((out.length : Int) != (e.cls.length : Int)) = true := by simp; omega
      have HZZ := Lib.hid (show clsE e.cls = 17 by rw [HZ.out, if_neg (fun he => hlen (by rw [he]))])
      clear hlen
      go_wp2_with fail
      go_ret
      exact ⟨by rw [HZZ.out]; rfl, HB4.out⟩
set_option maxRecDepth 100000 in
set_option maxHeartbeats 2000000 in
theorem check13_ok (w : World) (e : FE) (A1 A2 A3 : Option Addr) (c1 c2 c3 : Nat) (h : EntRd w (fun _ => True) e (.slice A1 e.ops.length c1) (.slice A2 e.args.length c2) (.slice A3 e.cls.length c3)) (hol : e.ops.length ≤ 1000) (hcl : e.cls.length ≤ 1000) :
    Calls Tryz.prog 12 #[.agg #[.int .i64 e.id, .slice A1 e.ops.length c1, .slice A2 e.args.length c2, .slice A3 e.cls.length c3]] w fun en w' => en = .returned (.int .i64 (entE e)) ∧ Below w.heap.size w w' := by
  have hX := EBx.start h
  have hbb := one_box w (.cells #[.int .i64 e.id, .slice A1 e.ops.length c1, .slice A2 e.args.length c2, .slice A3 e.cls.length c3] 26)
  have HX := Lib.hid hX
  have HB := Lib.hid hbb
  clear hX hbb h
  go_enter Tryz.func12, Tryz.ntmps12
  go_wp2_with fail
  generalize w.alloc (.cells #[.int .i64 e.id, .slice A1 e.ops.length c1, .slice A2 e.args.length c2, .slice A3 e.cls.length c3] 26) = w1 at HX HB ⊢
  obtain ⟨B, hB⟩ : ∃ B, w.heap.size = B := ⟨_, rfl⟩
  rw [hB] at HX ⊢
  have HBQ := Lib.hid hB
  clear hB
  refine (plain13_ok w1 e A1 A2 A3 c1 c2 c3 HX.out.2 hol).mono ?_
  rintro en w2 ⟨hb2, An, cn, rfl, hen⟩
  have HX2 := Lib.hid (HX.out.below hb2)
  have HB2 := Lib.hid (HB.out.trans (hb2.mono HB.out.size))
  have HC := Lib.hid (refCheck13_ok w2 e An A2 A3 cn c2 c3 hen)
  clear hb2 hen
  go_wp2_with fail
  refine HC.out.mono ?_
  rintro en w3 ⟨rfl, hb3⟩
  have hent : entE e = if entE0 e ≠ 0 then entE0 e else clsE e.cls := rfl
  obtain ⟨p, hp⟩ : ∃ p, entE0 e = p := ⟨_, rfl⟩
  rw [hp] at hent ⊢
  have HE := Lib.hid hent
  have HX3 := Lib.hid (HX2.out.below hb3)
  have HB3 := Lib.hid (HB2.out.trans (hb3.mono HB2.out.size))
  clear hb3 hent hp HC
  obtain ⟨q0, q1, q2, q3⟩ := HX3.out.cells
  by_cases hp0 : p = 0
  · subst hp0
    have HCC := Lib.hid (claims13_ok w3 e A1 A2 A3 c1 c2 c3 HX3.out.2 hcl)
    go_wp2_with fail
    refine HCC.out.mono ?_
    rintro en w4 ⟨rfl, hb4⟩
    have HB4 := Lib.hid (HB3.out.trans (hb4.mono HB3.out.size))
    have HE2 := Lib.hid (show entE e = clsE e.cls by rw [HE.out, if_neg (by simp)])
    clear hb4 HCC
    go_wp2_with fail
    go_ret
    exact ⟨by rw [HE2.out]; rfl, HB4.out⟩
  · have hpn : (p != 0) = true := by simpa using hp0
    have HE2 := Lib.hid (show entE e = p by rw [HE.out, if_pos hp0])
    clear hp0
    go_wp2_with fail
    go_ret
    exact ⟨by rw [HE2.out]; rfl, HB3.out⟩
end Go.Proofs.YtihjcfifakcpgaaGreatDoor
