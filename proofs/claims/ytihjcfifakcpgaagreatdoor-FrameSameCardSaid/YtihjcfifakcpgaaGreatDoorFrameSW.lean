/- FrameSame, walked. -/
import Derived.Test.YtihjcfifakcpgaaGreatDoorFrameBW
namespace Go.Proofs.YtihjcfifakcpgaaGreatDoor
set_option maxRecDepth 100000
open Go.RowKit

theorem held8 {wk W W' : World} {p1 p2 p3 p4 p5 p6 p7 p8 : Addr} {v1 v2 v3 v4 v5 v6 v7 v8 : Value} (h : Below wk.heap.size wk W ∧ W.cell? p1 = some v1 ∧ W.cell? p2 = some v2 ∧ W.cell? p3 = some v3 ∧ W.cell? p4 = some v4 ∧ W.cell? p5 = some v5 ∧ W.cell? p6 = some v6 ∧ W.cell? p7 = some v7 ∧ W.cell? p8 = some v8) (hb : Below W.heap.size W W') :
    Below wk.heap.size wk W' ∧ W'.cell? p1 = some v1 ∧ W'.cell? p2 = some v2 ∧ W'.cell? p3 = some v3 ∧ W'.cell? p4 = some v4 ∧ W'.cell? p5 = some v5 ∧ W'.cell? p6 = some v6 ∧ W'.cell? p7 = some v7 ∧ W'.cell? p8 = some v8 := by
  obtain ⟨h0, h1, h2, h3, h4, h5, h6, h7, h8⟩ := h
  have key : ∀ {p : Addr} {v : Value}, W.cell? p = some v → W'.cell? p = some v := fun {p v} h => (hb.cell (World.block_lt_of_cell? _ _ h)).trans h
  exact ⟨h0.trans (hb.mono h0.size), key h1, key h2, key h3, key h4, key h5, key h6, key h7, key h8⟩
theorem FewE.small {e : FE} (h : FewE e) : e.ops.length ≤ 1000000 ∧ e.cls.length ≤ 1000000 := ⟨by have := h.2.1; omega, by have := h.2.2.2; omega⟩
/-- Good entries are the same just if their bytes are. -/
theorem inside_eq {a b : FE} (ha : a.Good) (fa : a.fits) (hb : b.Good) (fb : b.fits) : (a = b) ↔ sealB (inside a) = sealB (inside b) := by
  constructor
  · rintro rfl; rfl
  · intro h
    have h1 := dec_good ha fa h
    have h2 := dec_good hb fb (rfl : sealB (inside b) = sealB (inside b))
    rw [h1] at h2
    injection h2

set_option maxRecDepth 100000 in
set_option maxHeartbeats 8000000 in
theorem same_law (w0 : World) (a b : FE) (vo va vc uo ua uc : Value) (h : EntRd w0 (fun _ => True) a vo va vc) (h' : EntRd w0 (fun _ => True) b uo ua uc) (hs : ShTab w0) (ht : NibTab w0) :
    Calls Tryz.prog 7 #[entV a vo va vc, entV b uo ua uc] w0 fun e w' => e = .returned (.bool true) ∧ Below w0.heap.size w0 w' := by
  obtain ⟨A01, c01, A02, c02, A03, c03, rfl, rfl, rfl, hm1, hm2, hm3⟩ := h.open_
  obtain ⟨A11, c11, A12, c12, A13, c13, rfl, rfl, rfl, hn1, hn2, hn3⟩ := h'.open_
  unfold maxLen at hm1 hm2 hm3 hn1 hn2 hn3
  unfold entV
  have hbx : Below w0.heap.size w0 ((w0.alloc (.cells #[.int .i64 a.id, .slice A01 a.ops.length c01, .slice A02 a.args.length c02, .slice A03 a.cls.length c03] 26)).alloc (.cells #[.int .i64 b.id, .slice A11 b.ops.length c11, .slice A12 b.args.length c12, .slice A13 b.cls.length c13] 26)) := ((Below.refl _ _).alloc (Nat.le_refl _) _).alloc (by simp) _
  have k1 : ((w0.alloc (.cells #[.int .i64 a.id, .slice A01 a.ops.length c01, .slice A02 a.args.length c02, .slice A03 a.cls.length c03] 26)).alloc (.cells #[.int .i64 b.id, .slice A11 b.ops.length c11, .slice A12 b.args.length c12, .slice A13 b.cls.length c13] 26)).heap[w0.heap.size]? = some (.cells #[.int .i64 a.id, .slice A01 a.ops.length c01, .slice A02 a.args.length c02, .slice A03 a.cls.length c03] 26 (0, 0)) := (Only.of_below (one_box _ _) (fun _ => False)).heap (heap_alloc_new _ _) (fun h => h)
  have k2 : ((w0.alloc (.cells #[.int .i64 a.id, .slice A01 a.ops.length c01, .slice A02 a.args.length c02, .slice A03 a.cls.length c03] 26)).alloc (.cells #[.int .i64 b.id, .slice A11 b.ops.length c11, .slice A12 b.args.length c12, .slice A13 b.cls.length c13] 26)).heap[w0.heap.size + 1]? = some (.cells #[.int .i64 b.id, .slice A11 b.ops.length c11, .slice A12 b.args.length c12, .slice A13 b.cls.length c13] 26 (0, 0)) := by
    have := heap_alloc_new (w0.alloc (.cells #[.int .i64 a.id, .slice A01 a.ops.length c01, .slice A02 a.args.length c02, .slice A03 a.cls.length c03] 26)) (.cells #[.int .i64 b.id, .slice A11 b.ops.length c11, .slice A12 b.args.length c12, .slice A13 b.cls.length c13] 26)
    simpa using this
  have S := Lib.hid (hs)
  have N := Lib.hid (ht)
  have EA := Lib.hid (h)
  have EB := Lib.hid (h')
  clear h h' hs ht
  go_enter Tryz.func7, Tryz.ntmps7
  go_wp2_with fail
  generalize (w0.alloc (.cells #[.int .i64 a.id, .slice A01 a.ops.length c01, .slice A02 a.args.length c02, .slice A03 a.cls.length c03] 26)).alloc (.cells #[.int .i64 b.id, .slice A11 b.ops.length c11, .slice A12 b.args.length c12, .slice A13 b.cls.length c13] 26) = w1 at hbx k1 k2 ⊢
  generalize w0.heap.size + 1 = BB at k2 ⊢
  obtain ⟨BA, hBA⟩ : ∃ y, w0.heap.size = y := ⟨_, rfl⟩
  have k1a := k1
  rw [hBA] at k1a ⊢
  clear hBA k1
  have GS := Lib.hid (S.out.below hbx)
  have GN := Lib.hid (N.out.below hbx)
  have GEA := Lib.hid (EA.out.below hbx)
  have GEB := Lib.hid (EB.out.below hbx)
  have HB1 := Lib.hid hbx
  clear S N EA EB hbx
  have S := GS
  clear GS
  have N := GN
  clear GN
  have EA := GEA
  clear GEA
  have EB := GEB
  clear GEB
  have XA := Lib.hid (show EBx w1 BA a A01 c01 A02 c02 A03 c03 from ⟨k1a, EA.out⟩)
  obtain ⟨XAc0, XAc1, XAc2, XAc3⟩ := XA.out.cells
  clear EA
  have XB := Lib.hid (show EBx w1 BB b A11 c11 A12 c12 A13 c13 from ⟨k2, EB.out⟩)
  obtain ⟨XBc0, XBc1, XBc2, XBc3⟩ := XB.out.cells
  clear EB
  clear k1a k2
  refine (fewE_ok w1 _ a _ _ _ XA.out.2).mono ?_
  rintro en w2 ⟨ra, hra, rfl, hb2⟩
  have Tra := Lib.hid (show Tells ra (FewE a) from hra)
  clear hra
  have GS := Lib.hid (S.out.below hb2)
  have GN := Lib.hid (N.out.below hb2)
  have GXA := Lib.hid (XA.out.below hb2)
  have GXB := Lib.hid (XB.out.below hb2)
  have HB2 := Lib.hid (HB1.out.trans (hb2.mono HB1.out.size))
  clear HB1
  clear S N XAc0 XAc1 XAc2 XAc3 XA XBc0 XBc1 XBc2 XBc3 XB hb2
  have S := GS
  clear GS
  have N := GN
  clear GN
  have XA := GXA
  clear GXA
  obtain ⟨XAc0, XAc1, XAc2, XAc3⟩ := XA.out.cells
  have XB := GXB
  clear GXB
  obtain ⟨XBc0, XBc1, XBc2, XBc3⟩ := XB.out.cells
  cases ra with
  | false =>
    go_wp2_with fail
    refine (awake13_ok w2 S.out N.out).mono ?_
    rintro en w3 ⟨rfl, hb3⟩
    have GS := Lib.hid (S.out.below hb3)
    have GN := Lib.hid (N.out.below hb3)
    have GXA := Lib.hid (XA.out.below hb3)
    have GXB := Lib.hid (XB.out.below hb3)
    have HB3 := Lib.hid (HB2.out.trans (hb3.mono HB2.out.size))
    clear HB2
    clear S N XAc0 XAc1 XAc2 XAc3 XA XBc0 XBc1 XBc2 XBc3 XB hb3
    have S := GS
    clear GS
    have N := GN
    clear GN
    have XA := GXA
    clear GXA
    obtain ⟨XAc0, XAc1, XAc2, XAc3⟩ := XA.out.cells
    have XB := GXB
    clear GXB
    obtain ⟨XBc0, XBc1, XBc2, XBc3⟩ := XB.out.cells
    go_wp2_with fail
    go_ret
    exact ⟨rfl, HB3.out⟩
  | true =>
    go_wp2_with fail
    refine (fewE_ok w2 _ b _ _ _ XB.out.2).mono ?_
    rintro en w3 ⟨rb, hrb, rfl, hb3⟩
    have Trb := Lib.hid (show Tells rb (FewE b) from hrb)
    clear hrb
    have GS := Lib.hid (S.out.below hb3)
    have GN := Lib.hid (N.out.below hb3)
    have GXA := Lib.hid (XA.out.below hb3)
    have GXB := Lib.hid (XB.out.below hb3)
    have HB3 := Lib.hid (HB2.out.trans (hb3.mono HB2.out.size))
    clear HB2
    clear S N XAc0 XAc1 XAc2 XAc3 XA XBc0 XBc1 XBc2 XBc3 XB hb3
    have S := GS
    clear GS
    have N := GN
    clear GN
    have XA := GXA
    clear GXA
    obtain ⟨XAc0, XAc1, XAc2, XAc3⟩ := XA.out.cells
    have XB := GXB
    clear GXB
    obtain ⟨XBc0, XBc1, XBc2, XBc3⟩ := XB.out.cells
    cases rb with
    | false =>
      go_wp2_with fail
      refine (awake13_ok w3 S.out N.out).mono ?_
      rintro en w4 ⟨rfl, hb4⟩
      have GS := Lib.hid (S.out.below hb4)
      have GN := Lib.hid (N.out.below hb4)
      have GXA := Lib.hid (XA.out.below hb4)
      have GXB := Lib.hid (XB.out.below hb4)
      have HB4 := Lib.hid (HB3.out.trans (hb4.mono HB3.out.size))
      clear HB3
      clear S N XAc0 XAc1 XAc2 XAc3 XA XBc0 XBc1 XBc2 XBc3 XB hb4
      have S := GS
      clear GS
      have N := GN
      clear GN
      have XA := GXA
      clear GXA
      obtain ⟨XAc0, XAc1, XAc2, XAc3⟩ := XA.out.cells
      have XB := GXB
      clear GXB
      obtain ⟨XBc0, XBc1, XBc2, XBc3⟩ := XB.out.cells
      go_wp2_with fail
      go_ret
      exact ⟨rfl, HB4.out⟩
    | true =>
      go_wp2_with fail
      refine (encode_ok w3 _ a _ _ _ XA.out.2 S.out N.out (by have := Tra.out.pos.2.2.2; omega)).mono ?_
      rintro en w4 ⟨hb4, hep⟩
      obtain ⟨na, pa, rfl, hPa⟩ : ∃ n v, en = .returned (.tuple #[v, .int .i64 n]) ∧ n = entE a ∧ (n = 0 → Rd w4 (fun _ => True) v ((sealB (inside a)).map B8) ∧ a.Good) := by
        rcases hep with ⟨hz, rfl⟩ | ⟨hz, A, c, rfl, hO⟩
        · exact ⟨_, _, rfl, rfl, fun h => absurd h hz⟩
        · exact ⟨_, _, rfl, hz.symm, fun _ => ⟨Rd.of_own hO (fun _ _ => trivial), entE_zero hz⟩⟩
      have Qa := Lib.hid hPa
      clear hPa hep
      have GS := Lib.hid (S.out.below hb4)
      have GN := Lib.hid (N.out.below hb4)
      have GXA := Lib.hid (XA.out.below hb4)
      have GXB := Lib.hid (XB.out.below hb4)
      have HB4 := Lib.hid (HB3.out.trans (hb4.mono HB3.out.size))
      clear HB3
      clear S N XAc0 XAc1 XAc2 XAc3 XA XBc0 XBc1 XBc2 XBc3 XB hb4
      have S := GS
      clear GS
      have N := GN
      clear GN
      have XA := GXA
      clear GXA
      obtain ⟨XAc0, XAc1, XAc2, XAc3⟩ := XA.out.cells
      have XB := GXB
      clear GXB
      obtain ⟨XBc0, XBc1, XBc2, XBc3⟩ := XB.out.cells
      go_wp2_with fail
      refine (encode_ok w4 _ b _ _ _ XB.out.2 S.out N.out (by have := Trb.out.pos.2.2.2; omega)).mono ?_
      rintro en w5 ⟨hb5, hep⟩
      obtain ⟨nb, pb, rfl, hPb⟩ : ∃ n v, en = .returned (.tuple #[v, .int .i64 n]) ∧ n = entE b ∧ (n = 0 → Rd w5 (fun _ => True) v ((sealB (inside b)).map B8) ∧ b.Good) := by
        rcases hep with ⟨hz, rfl⟩ | ⟨hz, A, c, rfl, hO⟩
        · exact ⟨_, _, rfl, rfl, fun h => absurd h hz⟩
        · exact ⟨_, _, rfl, hz.symm, fun _ => ⟨Rd.of_own hO (fun _ _ => trivial), entE_zero hz⟩⟩
      have Qb := Lib.hid hPb
      clear hPb hep
      have QA2 := Lib.hid (show na = entE a ∧ (na = 0 → Rd w5 (fun _ => True) pa ((sealB (inside a)).map B8) ∧ a.Good) from ⟨Qa.out.1, fun hz => ⟨(Qa.out.2 hz).1.below hb5, (Qa.out.2 hz).2⟩⟩)
      clear Qa
      have Qa := QA2
      clear QA2
      have GS := Lib.hid (S.out.below hb5)
      have GN := Lib.hid (N.out.below hb5)
      have GXA := Lib.hid (XA.out.below hb5)
      have GXB := Lib.hid (XB.out.below hb5)
      have HB5 := Lib.hid (HB4.out.trans (hb5.mono HB4.out.size))
      clear HB4
      clear S N XAc0 XAc1 XAc2 XAc3 XA XBc0 XBc1 XBc2 XBc3 XB hb5
      have S := GS
      clear GS
      have N := GN
      clear GN
      have XA := GXA
      clear GXA
      obtain ⟨XAc0, XAc1, XAc2, XAc3⟩ := XA.out.cells
      have XB := GXB
      clear GXB
      obtain ⟨XBc0, XBc1, XBc2, XBc3⟩ := XB.out.cells
      obtain ⟨sm, hsm⟩ := bool_of (a = b)
      have SM := Lib.hid hsm
      clear hsm
      go_upto_region 5 with fail
      refine wp_region_held_drew (S := (fun w' => Below w5.heap.size w5 w' ∧ w'.cell? ⟨BA, 0, none⟩ = some (.int .i64 a.id) ∧ w'.cell? ⟨BA, 1, none⟩ = some (.slice A01 a.ops.length c01) ∧ w'.cell? ⟨BA, 2, none⟩ = some (.slice A02 a.args.length c02) ∧ w'.cell? ⟨BA, 3, none⟩ = some (.slice A03 a.cls.length c03) ∧ w'.cell? ⟨BB, 0, none⟩ = some (.int .i64 b.id) ∧ w'.cell? ⟨BB, 1, none⟩ = some (.slice A11 b.ops.length c11) ∧ w'.cell? ⟨BB, 2, none⟩ = some (.slice A12 b.args.length c12) ∧ w'.cell? ⟨BB, 3, none⟩ = some (.slice A13 b.cls.length c13))) (by kernel_rfl) ⟨(Below.refl _ _).drew, XAc0, XAc1, XAc2, XAc3, XBc0, XBc1, XBc2, XBc3⟩ (fun hHeld => ?_)
      refine take_lit (i := 0) (v := ?_) rfl (by kernel_rfl) (by kernel_rfl) (by kernel_rfl) (fun _ _ _ h => h) (by rfl) (fun w hSw => ?_) hHeld ?_
      rotate_left
      · obtain ⟨s0, s1, s2, s3, s4, s5, s6, s7, s8⟩ := hSw; go_simp; try with_reducible rfl
      try simp only [Act.put, List.setIfInBounds_toArray, List.set_cons_zero, List.set_cons_succ]
      refine take_lit (i := 1) (v := ?_) rfl (by kernel_rfl) (by kernel_rfl) (by kernel_rfl) (fun _ _ _ h => h) (by rfl) (fun w hSw => ?_) hHeld ?_
      rotate_left
      · obtain ⟨s0, s1, s2, s3, s4, s5, s6, s7, s8⟩ := hSw; go_simp; try with_reducible rfl
      try simp only [Act.put, List.setIfInBounds_toArray, List.set_cons_zero, List.set_cons_succ]
      refine wpAnyH_ready (rs := [2]) (by kernel_rfl) (by simp) (cons_lit (i := 2) rfl (fun K hK => ?_) AllReadyH.nil)
      go_simp
      refine (entSame_is true (.yes rfl) (XA.out.2.below hHeld.1) (XA.out.2.below hHeld.1) Tra.out.pos.small).mono ?_
      rintro e wn ⟨rfl, hbn⟩
      try go_simp
      refine hK.out _ _ (held8 hHeld hbn) (fun hHeld2 => ?_)
      clear hK K hHeld hbn
      have hHeld := hHeld2
      clear hHeld2
      try simp only [Act.put, List.setIfInBounds_toArray, List.set_cons_zero, List.set_cons_succ]
      refine take_lit (i := 3) (v := ?_) rfl (by kernel_rfl) (by kernel_rfl) (by kernel_rfl) (fun _ _ _ h => h) (by rfl) (fun w hSw => ?_) hHeld ?_
      rotate_left
      · obtain ⟨s0, s1, s2, s3, s4, s5, s6, s7, s8⟩ := hSw; go_simp; try with_reducible rfl
      try simp only [Act.put, List.setIfInBounds_toArray, List.set_cons_zero, List.set_cons_succ]
      refine take_lit (i := 4) (v := ?_) rfl (by kernel_rfl) (by kernel_rfl) (by kernel_rfl) (fun _ _ _ h => h) (by rfl) (fun w hSw => ?_) hHeld ?_
      rotate_left
      · obtain ⟨s0, s1, s2, s3, s4, s5, s6, s7, s8⟩ := hSw; go_simp; try with_reducible rfl
      try simp only [Act.put, List.setIfInBounds_toArray, List.set_cons_zero, List.set_cons_succ]
      refine take_lit (i := 5) (v := ?_) rfl (by kernel_rfl) (by kernel_rfl) (by kernel_rfl) (fun _ _ _ h => h) (by rfl) (fun w hSw => ?_) hHeld ?_
      rotate_left
      · obtain ⟨s0, s1, s2, s3, s4, s5, s6, s7, s8⟩ := hSw; go_simp; try with_reducible rfl
      try simp only [Act.put, List.setIfInBounds_toArray, List.set_cons_zero, List.set_cons_succ]
      refine take_lit (i := 6) (v := ?_) rfl (by kernel_rfl) (by kernel_rfl) (by kernel_rfl) (fun _ _ _ h => h) (by rfl) (fun w hSw => ?_) hHeld ?_
      rotate_left
      · obtain ⟨s0, s1, s2, s3, s4, s5, s6, s7, s8⟩ := hSw; go_simp; try with_reducible rfl
      try simp only [Act.put, List.setIfInBounds_toArray, List.set_cons_zero, List.set_cons_succ]
      refine wpAnyH_ready (rs := [7]) (by kernel_rfl) (by simp) (cons_lit (i := 7) rfl (fun K hK => ?_) AllReadyH.nil)
      go_simp
      refine (entSame_is true (.yes rfl) (XB.out.2.below hHeld.1) (XB.out.2.below hHeld.1) Trb.out.pos.small).mono ?_
      rintro e wn ⟨rfl, hbn⟩
      try go_simp
      refine hK.out _ _ (held8 hHeld hbn) (fun hHeld2 => ?_)
      clear hK K hHeld hbn
      have hHeld := hHeld2
      clear hHeld2
      try simp only [Act.put, List.setIfInBounds_toArray, List.set_cons_zero, List.set_cons_succ]
      refine take_lit (i := 8) (v := ?_) rfl (by kernel_rfl) (by kernel_rfl) (by kernel_rfl) (fun _ _ _ h => h) (by rfl) (fun w hSw => ?_) hHeld ?_
      rotate_left
      · obtain ⟨s0, s1, s2, s3, s4, s5, s6, s7, s8⟩ := hSw; go_simp; try with_reducible rfl
      try simp only [Act.put, List.setIfInBounds_toArray, List.set_cons_zero, List.set_cons_succ]
      refine take_lit (i := 9) (v := ?_) rfl (by kernel_rfl) (by kernel_rfl) (by kernel_rfl) (fun _ _ _ h => h) (by rfl) (fun w hSw => ?_) hHeld ?_
      rotate_left
      · obtain ⟨s0, s1, s2, s3, s4, s5, s6, s7, s8⟩ := hSw; go_simp; try with_reducible rfl
      try simp only [Act.put, List.setIfInBounds_toArray, List.set_cons_zero, List.set_cons_succ]
      refine take_lit (i := 10) (v := ?_) rfl (by kernel_rfl) (by kernel_rfl) (by kernel_rfl) (fun _ _ _ h => h) (by rfl) (fun w hSw => ?_) hHeld ?_
      rotate_left
      · obtain ⟨s0, s1, s2, s3, s4, s5, s6, s7, s8⟩ := hSw; go_simp; try with_reducible rfl
      try simp only [Act.put, List.setIfInBounds_toArray, List.set_cons_zero, List.set_cons_succ]
      refine take_lit (i := 11) (v := ?_) rfl (by kernel_rfl) (by kernel_rfl) (by kernel_rfl) (fun _ _ _ h => h) (by rfl) (fun w hSw => ?_) hHeld ?_
      rotate_left
      · obtain ⟨s0, s1, s2, s3, s4, s5, s6, s7, s8⟩ := hSw; go_simp; try with_reducible rfl
      try simp only [Act.put, List.setIfInBounds_toArray, List.set_cons_zero, List.set_cons_succ]
      refine take_lit (i := 12) (v := ?_) rfl (by kernel_rfl) (by kernel_rfl) (by kernel_rfl) (fun _ _ _ h => h) (by rfl) (fun w hSw => ?_) hHeld ?_
      rotate_left
      · obtain ⟨s0, s1, s2, s3, s4, s5, s6, s7, s8⟩ := hSw; go_simp; try with_reducible rfl
      try simp only [Act.put, List.setIfInBounds_toArray, List.set_cons_zero, List.set_cons_succ]
      refine take_lit (i := 14) (v := ?_) rfl (by kernel_rfl) (by kernel_rfl) (by kernel_rfl) (fun _ _ _ h => h) (by rfl) (fun w hSw => ?_) hHeld ?_
      rotate_left
      · obtain ⟨s0, s1, s2, s3, s4, s5, s6, s7, s8⟩ := hSw; go_simp; try with_reducible rfl
      try simp only [Act.put, List.setIfInBounds_toArray, List.set_cons_zero, List.set_cons_succ]
      refine take_lit (i := 15) (v := ?_) rfl (by kernel_rfl) (by kernel_rfl) (by kernel_rfl) (fun _ _ _ h => h) (by rfl) (fun w hSw => ?_) hHeld ?_
      rotate_left
      · obtain ⟨s0, s1, s2, s3, s4, s5, s6, s7, s8⟩ := hSw; go_simp; try with_reducible rfl
      try simp only [Act.put, List.setIfInBounds_toArray, List.set_cons_zero, List.set_cons_succ]
      refine wpAnyH_ready (rs := [13]) (by kernel_rfl) (by simp) (cons_lit (i := 13) rfl (fun K hK => ?_) AllReadyH.nil)
      go_simp
      refine (entSame_is sm (SM.out) (XA.out.2.below hHeld.1) (XB.out.2.below hHeld.1) Tra.out.pos.small).mono ?_
      rintro e wn ⟨rfl, hbn⟩
      try go_simp
      refine hK.out _ _ (held8 hHeld hbn) (fun hHeld2 => ?_)
      clear hK K hHeld hbn
      have hHeld := hHeld2
      clear hHeld2
      try simp only [Act.put, List.setIfInBounds_toArray, List.set_cons_zero, List.set_cons_succ]
      refine wpAnyH_ready (rs := [16]) (by kernel_rfl) (by simp) (cons_lit (i := 16) rfl (fun K hK => ?_) AllReadyH.nil)
      go_simp
      refine (entSame_is sm (SM.out.congr ⟨Eq.symm, Eq.symm⟩) (XB.out.2.below hHeld.1) (XA.out.2.below hHeld.1) Trb.out.pos.small).mono ?_
      rintro e wn ⟨rfl, hbn⟩
      try go_simp
      refine hK.out _ _ (held8 hHeld hbn) (fun hHeld2 => ?_)
      clear hK K hHeld hbn
      have hHeld := hHeld2
      clear hHeld2
      try simp only [Act.put, List.setIfInBounds_toArray, List.set_cons_zero, List.set_cons_succ]
      refine take_lit (i := 17) (v := ?_) rfl (by kernel_rfl) (by kernel_rfl) (by kernel_rfl) (fun _ _ _ h => h) (by rfl) (fun w hSw => ?_) hHeld ?_
      rotate_left
      · obtain ⟨s0, s1, s2, s3, s4, s5, s6, s7, s8⟩ := hSw; go_simp; try with_reducible rfl
      try simp only [Act.put, List.setIfInBounds_toArray, List.set_cons_zero, List.set_cons_succ]
      refine take_lit (i := 18) (v := ?_) rfl (by kernel_rfl) (by kernel_rfl) (by kernel_rfl) (fun _ _ _ h => h) (by rfl) (fun w hSw => ?_) hHeld ?_
      rotate_left
      · obtain ⟨s0, s1, s2, s3, s4, s5, s6, s7, s8⟩ := hSw; go_simp; try with_reducible rfl
      try simp only [Act.put, List.setIfInBounds_toArray, List.set_cons_zero, List.set_cons_succ]
      refine wpAnyH_done (by kernel_rfl) ?_ _
      have hbx6 := hHeld.1
      clear hHeld
      generalize wn = w6 at hbx6 ⊢
      have QA2 := Lib.hid (show na = entE a ∧ (na = 0 → Rd w6 (fun _ => True) pa ((sealB (inside a)).map B8) ∧ a.Good) from ⟨Qa.out.1, fun hz => ⟨(Qa.out.2 hz).1.below hbx6, (Qa.out.2 hz).2⟩⟩)
      clear Qa
      have Qa := QA2
      clear QA2
      have QA2 := Lib.hid (show nb = entE b ∧ (nb = 0 → Rd w6 (fun _ => True) pb ((sealB (inside b)).map B8) ∧ b.Good) from ⟨Qb.out.1, fun hz => ⟨(Qb.out.2 hz).1.below hbx6, (Qb.out.2 hz).2⟩⟩)
      clear Qb
      have Qb := QA2
      clear QA2
      have GS := Lib.hid (S.out.below hbx6)
      have GN := Lib.hid (N.out.below hbx6)
      have GXA := Lib.hid (XA.out.below hbx6)
      have GXB := Lib.hid (XB.out.below hbx6)
      have HB6 := Lib.hid (HB5.out.trans (hbx6.mono HB5.out.size))
      clear HB5
      clear S N XAc0 XAc1 XAc2 XAc3 XA XBc0 XBc1 XBc2 XBc3 XB hbx6
      have S := GS
      clear GS
      have N := GN
      clear GN
      have XA := GXA
      clear GXA
      obtain ⟨XAc0, XAc1, XAc2, XAc3⟩ := XA.out.cells
      have XB := GXB
      clear GXB
      obtain ⟨XBc0, XBc1, XBc2, XBc3⟩ := XB.out.cells
      by_cases hna : na = 0
      · by_cases hnb : nb = 0
        · have RP := Lib.hid (And.intro (Qa.out.2 hna) (Qb.out.2 hnb))
          clear Qa Qb
          subst hna
          subst hnb
          have RA := Lib.hid (RP.out.1.1)
          have RB := Lib.hid (RP.out.2.1)
          have GG := Lib.hid (And.intro RP.out.1.2 RP.out.2.2)
          clear RP
          go_wp2_with fail
          refine (entSame_is sm SM.out XA.out.2 XB.out.2 Tra.out.pos.small).mono ?_
          rintro en w7 ⟨rfl, hb7⟩
          have GS := Lib.hid (S.out.below hb7)
          have GN := Lib.hid (N.out.below hb7)
          have GXA := Lib.hid (XA.out.below hb7)
          have GXB := Lib.hid (XB.out.below hb7)
          have GRA := Lib.hid (RA.out.below hb7)
          have GRB := Lib.hid (RB.out.below hb7)
          have HB7 := Lib.hid (HB6.out.trans (hb7.mono HB6.out.size))
          clear HB6
          clear S N XAc0 XAc1 XAc2 XAc3 XA XBc0 XBc1 XBc2 XBc3 XB RA RB hb7
          have S := GS
          clear GS
          have N := GN
          clear GN
          have XA := GXA
          clear GXA
          obtain ⟨XAc0, XAc1, XAc2, XAc3⟩ := XA.out.cells
          have XB := GXB
          clear GXB
          obtain ⟨XBc0, XBc1, XBc2, XBc3⟩ := XB.out.cells
          have RA := GRA
          clear GRA
          have RB := GRB
          clear GRB
          go_wp2_with fail
          refine (lawBytes_ok w7 _ _ _ _ _ _ RA.out RB.out).mono ?_
          rintro en w8 ⟨rq, hrq, rfl, hb8⟩
          have Trq := Lib.hid (show Tells rq (sealB (inside a) = sealB (inside b)) from hrq)
          clear hrq
          have GS := Lib.hid (S.out.below hb8)
          have GN := Lib.hid (N.out.below hb8)
          have GXA := Lib.hid (XA.out.below hb8)
          have GXB := Lib.hid (XB.out.below hb8)
          have GRA := Lib.hid (RA.out.below hb8)
          have GRB := Lib.hid (RB.out.below hb8)
          have HB8 := Lib.hid (HB7.out.trans (hb8.mono HB7.out.size))
          clear HB7
          clear S N XAc0 XAc1 XAc2 XAc3 XA XBc0 XBc1 XBc2 XBc3 XB RA RB hb8
          have S := GS
          clear GS
          have N := GN
          clear GN
          have XA := GXA
          clear GXA
          obtain ⟨XAc0, XAc1, XAc2, XAc3⟩ := XA.out.cells
          have XB := GXB
          clear GXB
          obtain ⟨XBc0, XBc1, XBc2, XBc3⟩ := XB.out.cells
          have RA := GRA
          clear GRA
          have RB := GRB
          clear GRB
          have hq : rq = sm := by
            have h1 := Trq.out
            have h2 := SM.out.congr (inside_eq GG.out.1 XA.out.2.2.2.2 GG.out.2 XB.out.2.2.2.2)
            unfold Tells at h1 h2
            cases rq <;> cases sm <;> simp_all
          subst hq
          cases rq with
          | false =>
            go_wp2_with fail
            refine (awake13_ok w8 S.out N.out).mono ?_
            rintro en w9 ⟨rfl, hb9⟩
            have GS := Lib.hid (S.out.below hb9)
            have GN := Lib.hid (N.out.below hb9)
            have GXA := Lib.hid (XA.out.below hb9)
            have GXB := Lib.hid (XB.out.below hb9)
            have GRA := Lib.hid (RA.out.below hb9)
            have GRB := Lib.hid (RB.out.below hb9)
            have HB9 := Lib.hid (HB8.out.trans (hb9.mono HB8.out.size))
            clear HB8
            clear S N XAc0 XAc1 XAc2 XAc3 XA XBc0 XBc1 XBc2 XBc3 XB RA RB hb9
            have S := GS
            clear GS
            have N := GN
            clear GN
            have XA := GXA
            clear GXA
            obtain ⟨XAc0, XAc1, XAc2, XAc3⟩ := XA.out.cells
            have XB := GXB
            clear GXB
            obtain ⟨XBc0, XBc1, XBc2, XBc3⟩ := XB.out.cells
            have RA := GRA
            clear GRA
            have RB := GRB
            clear GRB
            go_wp2_with fail
            go_ret
            exact ⟨rfl, HB9.out⟩
          | true =>
            go_wp2_with fail
            refine (awake13_ok w8 S.out N.out).mono ?_
            rintro en w9 ⟨rfl, hb9⟩
            have GS := Lib.hid (S.out.below hb9)
            have GN := Lib.hid (N.out.below hb9)
            have GXA := Lib.hid (XA.out.below hb9)
            have GXB := Lib.hid (XB.out.below hb9)
            have GRA := Lib.hid (RA.out.below hb9)
            have GRB := Lib.hid (RB.out.below hb9)
            have HB9 := Lib.hid (HB8.out.trans (hb9.mono HB8.out.size))
            clear HB8
            clear S N XAc0 XAc1 XAc2 XAc3 XA XBc0 XBc1 XBc2 XBc3 XB RA RB hb9
            have S := GS
            clear GS
            have N := GN
            clear GN
            have XA := GXA
            clear GXA
            obtain ⟨XAc0, XAc1, XAc2, XAc3⟩ := XA.out.cells
            have XB := GXB
            clear GXB
            obtain ⟨XBc0, XBc1, XBc2, XBc3⟩ := XB.out.cells
            have RA := GRA
            clear GRA
            have RB := GRB
            clear GRB
            go_wp2_with fail
            go_ret
            exact ⟨rfl, HB9.out⟩
        · have hnb1 : (nb != 0) = true := by simpa using hnb
          have hna1 : (na != 0) = false := by simpa using hna
          clear hna hnb
          go_wp2_with fail
          refine (entSame_is sm SM.out XA.out.2 XB.out.2 Tra.out.pos.small).mono ?_
          rintro en w7 ⟨rfl, hb7⟩
          have GS := Lib.hid (S.out.below hb7)
          have GN := Lib.hid (N.out.below hb7)
          have GXA := Lib.hid (XA.out.below hb7)
          have GXB := Lib.hid (XB.out.below hb7)
          have HB7 := Lib.hid (HB6.out.trans (hb7.mono HB6.out.size))
          clear HB6
          clear S N XAc0 XAc1 XAc2 XAc3 XA XBc0 XBc1 XBc2 XBc3 XB hb7
          have S := GS
          clear GS
          have N := GN
          clear GN
          have XA := GXA
          clear GXA
          obtain ⟨XAc0, XAc1, XAc2, XAc3⟩ := XA.out.cells
          have XB := GXB
          clear GXB
          obtain ⟨XBc0, XBc1, XBc2, XBc3⟩ := XB.out.cells
          cases sm with
          | false =>
            go_wp2_with fail
            refine (awake13_ok w7 S.out N.out).mono ?_
            rintro en w8 ⟨rfl, hb8⟩
            have GS := Lib.hid (S.out.below hb8)
            have GN := Lib.hid (N.out.below hb8)
            have GXA := Lib.hid (XA.out.below hb8)
            have GXB := Lib.hid (XB.out.below hb8)
            have HB8 := Lib.hid (HB7.out.trans (hb8.mono HB7.out.size))
            clear HB7
            clear S N XAc0 XAc1 XAc2 XAc3 XA XBc0 XBc1 XBc2 XBc3 XB hb8
            have S := GS
            clear GS
            have N := GN
            clear GN
            have XA := GXA
            clear GXA
            obtain ⟨XAc0, XAc1, XAc2, XAc3⟩ := XA.out.cells
            have XB := GXB
            clear GXB
            obtain ⟨XBc0, XBc1, XBc2, XBc3⟩ := XB.out.cells
            go_wp2_with fail
            go_ret
            exact ⟨rfl, HB8.out⟩
          | true =>
            have hnn : (na == nb) = true := by rw [Qa.out.1, Qb.out.1, SM.out.pos]; simp
            go_wp2_with fail
            refine (awake13_ok w7 S.out N.out).mono ?_
            rintro en w8 ⟨rfl, hb8⟩
            have GS := Lib.hid (S.out.below hb8)
            have GN := Lib.hid (N.out.below hb8)
            have GXA := Lib.hid (XA.out.below hb8)
            have GXB := Lib.hid (XB.out.below hb8)
            have HB8 := Lib.hid (HB7.out.trans (hb8.mono HB7.out.size))
            clear HB7
            clear S N XAc0 XAc1 XAc2 XAc3 XA XBc0 XBc1 XBc2 XBc3 XB hb8
            have S := GS
            clear GS
            have N := GN
            clear GN
            have XA := GXA
            clear GXA
            obtain ⟨XAc0, XAc1, XAc2, XAc3⟩ := XA.out.cells
            have XB := GXB
            clear GXB
            obtain ⟨XBc0, XBc1, XBc2, XBc3⟩ := XB.out.cells
            go_wp2_with fail
            go_ret
            exact ⟨rfl, HB8.out⟩
      · have hna1 : (na != 0) = true := by simpa using hna
        clear hna
        go_wp2_with fail
        refine (entSame_is sm SM.out XA.out.2 XB.out.2 Tra.out.pos.small).mono ?_
        rintro en w7 ⟨rfl, hb7⟩
        have GS := Lib.hid (S.out.below hb7)
        have GN := Lib.hid (N.out.below hb7)
        have GXA := Lib.hid (XA.out.below hb7)
        have GXB := Lib.hid (XB.out.below hb7)
        have HB7 := Lib.hid (HB6.out.trans (hb7.mono HB6.out.size))
        clear HB6
        clear S N XAc0 XAc1 XAc2 XAc3 XA XBc0 XBc1 XBc2 XBc3 XB hb7
        have S := GS
        clear GS
        have N := GN
        clear GN
        have XA := GXA
        clear GXA
        obtain ⟨XAc0, XAc1, XAc2, XAc3⟩ := XA.out.cells
        have XB := GXB
        clear GXB
        obtain ⟨XBc0, XBc1, XBc2, XBc3⟩ := XB.out.cells
        cases sm with
        | false =>
          go_wp2_with fail
          refine (awake13_ok w7 S.out N.out).mono ?_
          rintro en w8 ⟨rfl, hb8⟩
          have GS := Lib.hid (S.out.below hb8)
          have GN := Lib.hid (N.out.below hb8)
          have GXA := Lib.hid (XA.out.below hb8)
          have GXB := Lib.hid (XB.out.below hb8)
          have HB8 := Lib.hid (HB7.out.trans (hb8.mono HB7.out.size))
          clear HB7
          clear S N XAc0 XAc1 XAc2 XAc3 XA XBc0 XBc1 XBc2 XBc3 XB hb8
          have S := GS
          clear GS
          have N := GN
          clear GN
          have XA := GXA
          clear GXA
          obtain ⟨XAc0, XAc1, XAc2, XAc3⟩ := XA.out.cells
          have XB := GXB
          clear GXB
          obtain ⟨XBc0, XBc1, XBc2, XBc3⟩ := XB.out.cells
          go_wp2_with fail
          go_ret
          exact ⟨rfl, HB8.out⟩
        | true =>
          have hnn : (na == nb) = true := by rw [Qa.out.1, Qb.out.1, SM.out.pos]; simp
          go_wp2_with fail
          refine (awake13_ok w7 S.out N.out).mono ?_
          rintro en w8 ⟨rfl, hb8⟩
          have GS := Lib.hid (S.out.below hb8)
          have GN := Lib.hid (N.out.below hb8)
          have GXA := Lib.hid (XA.out.below hb8)
          have GXB := Lib.hid (XB.out.below hb8)
          have HB8 := Lib.hid (HB7.out.trans (hb8.mono HB7.out.size))
          clear HB7
          clear S N XAc0 XAc1 XAc2 XAc3 XA XBc0 XBc1 XBc2 XBc3 XB hb8
          have S := GS
          clear GS
          have N := GN
          clear GN
          have XA := GXA
          clear GXA
          obtain ⟨XAc0, XAc1, XAc2, XAc3⟩ := XA.out.cells
          have XB := GXB
          clear GXB
          obtain ⟨XBc0, XBc1, XBc2, XBc3⟩ := XB.out.cells
          go_wp2_with fail
          go_ret
          exact ⟨rfl, HB8.out⟩

end Go.Proofs.YtihjcfifakcpgaaGreatDoor
