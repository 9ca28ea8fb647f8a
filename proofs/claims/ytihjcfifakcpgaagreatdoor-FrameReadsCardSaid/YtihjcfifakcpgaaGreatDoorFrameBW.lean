/- FrameBack, walked; and FrameSame. -/
import Derived.Test.YtihjcfifakcpgaaGreatDoorFrameTW
namespace Go.Proofs.YtihjcfifakcpgaaGreatDoor
set_option maxRecDepth 100000
open Go.RowKit

/-- What decoding comes to, in two ways. -/
theorem DecP.ways {xs : List UInt8} {w w' : World} {en : Ending} (hd : DecP xs w en w') : Below w.heap.size w w' ∧
    ((∃ x vo va vc, en = .returned (.tuple #[entV x vo va vc, .int .i64 0]) ∧ xs = sealB (inside x) ∧ x.Good ∧ x.fits ∧ EntRd w' (fun _ => True) x vo va vc) ∨ (∃ n : Int, n ≠ 0 ∧ en = .returned (.tuple #[zeroE, .int .i64 n]))) := by
  obtain ⟨hb, hd⟩ := hd
  refine ⟨hb, ?_⟩
  rcases hd with ⟨ys, x, vo, va, vc, hs, hr, hz, he, hent⟩ | ⟨ys, x, hs, hr, hz, he⟩ | ⟨ys, hs, hr, he⟩ | ⟨hn, he⟩
  · exact .inl ⟨x, vo, va, vc, he, by rw [hs, rdEnt_inv hr], entE_zero hz, hent.2.2.2, hent.mono (fun _ _ => trivial)⟩
  · exact .inr ⟨_, hz, he⟩
  · exact .inr ⟨_, by decide, he⟩
  · exact .inr ⟨_, by split <;> decide, he⟩
theorem entSame_is {w : World} {F G : Nat → Prop} {a b : FE} {vo va vc uo ua uc : Value} (r : Bool) (hr : Tells r (a = b)) (ha : EntRd w F a vo va vc) (hb : EntRd w G b uo ua uc) (hl : a.ops.length ≤ 1000000 ∧ a.cls.length ≤ 1000000) :
    Calls Tryz.prog 23 #[entV a vo va vc, entV b uo ua uc] w (Ans r w) := (same_entry w F G a b vo va vc uo ua uc ha hb hl).mono fun _ _ h => h.ans hr
theorem FE.Good.small {e : FE} (h : e.Good) : e.ops.length ≤ 1000000 ∧ e.cls.length ≤ 1000000 := ⟨by have := h.opl; omega, by have := h.cll; omega⟩

set_option maxRecDepth 100000 in
set_option maxHeartbeats 8000000 in
theorem back_law (w0 : World) (e : FE) (vo va vc vb : Value) (bs : List UInt8) (h : EntRd w0 (fun _ => True) e vo va vc) (hb : Rd w0 (fun _ => True) vb (bs.map B8)) (hs : ShTab w0) (ht : NibTab w0) :
    Calls Tryz.prog 6 #[entV e vo va vc, vb] w0 fun e w' => e = .returned (.bool true) ∧ Below w0.heap.size w0 w' := by
  obtain ⟨A01, c01, A02, c02, A03, c03, rfl, rfl, rfl, hm1, hm2, hm3⟩ := h.open_
  obtain ⟨Ab, cb, rfl, hbc, hbm⟩ := rd_len hb
  unfold maxLen at hm1 hm2 hm3 hbm
  unfold entV
  have S := Lib.hid (hs)
  have N := Lib.hid (ht)
  have E := Lib.hid (h)
  have RB := Lib.hid (hb)
  clear h hs ht hb
  go_enter Tryz.func6, Tryz.ntmps6
  go_wp2_with fail
  have hbb0 := one_box w0 (.cells #[.int .i64 e.id, .slice A01 e.ops.length c01, .slice A02 e.args.length c02, .slice A03 e.cls.length c03] 26)
  have QB := heap_alloc_new w0 (.cells #[.int .i64 e.id, .slice A01 e.ops.length c01, .slice A02 e.args.length c02, .slice A03 e.cls.length c03] 26)
  generalize w0.alloc (.cells #[.int .i64 e.id, .slice A01 e.ops.length c01, .slice A02 e.args.length c02, .slice A03 e.cls.length c03] 26) = w1 at hbb0 QB ⊢
  obtain ⟨B, eB⟩ : ∃ B, w0.heap.size = B := ⟨_, rfl⟩
  rw [eB] at QB ⊢
  have EB := Lib.hid eB
  clear eB
  have GS := Lib.hid (S.out.below hbb0)
  have GN := Lib.hid (N.out.below hbb0)
  have GE := Lib.hid (E.out.below hbb0)
  have GRB := Lib.hid (RB.out.below hbb0)
  have HB1 := Lib.hid hbb0
  clear S N E RB hbb0
  have S := GS
  clear GS
  have N := GN
  clear GN
  have E := GE
  clear GE
  have RB := GRB
  clear GRB
  have X := Lib.hid (show EBx w1 B e A01 c01 A02 c02 A03 c03 from ⟨QB, E.out⟩)
  obtain ⟨Xc0, Xc1, Xc2, Xc3⟩ := X.out.cells
  clear QB
  clear E
  refine (fewE_ok w1 _ e _ _ _ X.out.2).mono ?_
  rintro en w2 ⟨r, hr, rfl, hb2⟩
  have Tr := Lib.hid (show Tells r (FewE e) from hr)
  clear hr
  have GS := Lib.hid (S.out.below hb2)
  have GN := Lib.hid (N.out.below hb2)
  have GRB := Lib.hid (RB.out.below hb2)
  have GX := Lib.hid (X.out.below hb2)
  have HB2 := Lib.hid (HB1.out.trans (hb2.mono HB1.out.size))
  clear HB1
  clear S N RB Xc0 Xc1 Xc2 Xc3 X hb2
  have S := GS
  clear GS
  have N := GN
  clear GN
  have RB := GRB
  clear GRB
  have X := GX
  clear GX
  obtain ⟨Xc0, Xc1, Xc2, Xc3⟩ := X.out.cells
  cases r with
  | false =>
    go_wp2_with fail
    refine (awake13_ok w2 S.out N.out).mono ?_
    rintro en w3 ⟨rfl, hb3⟩
    have GS := Lib.hid (S.out.below hb3)
    have GN := Lib.hid (N.out.below hb3)
    have GRB := Lib.hid (RB.out.below hb3)
    have GX := Lib.hid (X.out.below hb3)
    have HB3 := Lib.hid (HB2.out.trans (hb3.mono HB2.out.size))
    clear HB2
    clear S N RB Xc0 Xc1 Xc2 Xc3 X hb3
    have S := GS
    clear GS
    have N := GN
    clear GN
    have RB := GRB
    clear GRB
    have X := GX
    clear GX
    obtain ⟨Xc0, Xc1, Xc2, Xc3⟩ := X.out.cells
    go_wp2_with fail
    go_ret
    exact ⟨rfl, HB3.out⟩
  | true =>
    by_cases b1 : 600 < bs.length
    · have b1' : (600 : Int) < (bs.length : Int) := by omega
      go_wp2_with fail
      refine (awake13_ok w2 S.out N.out).mono ?_
      rintro en w3 ⟨rfl, hb3⟩
      have GS := Lib.hid (S.out.below hb3)
      have GN := Lib.hid (N.out.below hb3)
      have GRB := Lib.hid (RB.out.below hb3)
      have GX := Lib.hid (X.out.below hb3)
      have HB3 := Lib.hid (HB2.out.trans (hb3.mono HB2.out.size))
      clear HB2
      clear S N RB Xc0 Xc1 Xc2 Xc3 X hb3
      have S := GS
      clear GS
      have N := GN
      clear GN
      have RB := GRB
      clear GRB
      have X := GX
      clear GX
      obtain ⟨Xc0, Xc1, Xc2, Xc3⟩ := X.out.cells
      go_wp2_with fail
      go_ret
      exact ⟨rfl, HB3.out⟩
    · go_wp2_with fail
      refine (encode_ok w2 _ e _ _ _ X.out.2 S.out N.out (by have := Tr.out.pos.2.2.2; omega)).mono ?_
      rintro en w3 ⟨hb3, hep⟩
      have GS := Lib.hid (S.out.below hb3)
      have GN := Lib.hid (N.out.below hb3)
      have GRB := Lib.hid (RB.out.below hb3)
      have GX := Lib.hid (X.out.below hb3)
      have HB3 := Lib.hid (HB2.out.trans (hb3.mono HB2.out.size))
      clear HB2
      clear S N RB Xc0 Xc1 Xc2 Xc3 X hb3
      have S := GS
      clear GS
      have N := GN
      clear GN
      have RB := GRB
      clear GRB
      have X := GX
      clear GX
      obtain ⟨Xc0, Xc1, Xc2, Xc3⟩ := X.out.cells
      rcases hep with ⟨hz, rfl⟩ | ⟨hz, A, c, rfl, hO⟩
      · generalize entE e = ee at hz ⊢
        have hne : (ee == 0) = false := by simpa using hz
        clear hz
        clear Xc3 Xc2 Xc1 Xc0 X
        have HD := Lib.hid (decode_ok w3 (fun _ => True) _ bs N.out S.out RB.out (by omega))
        go_wp2_with fail
        refine HD.out.mono ?_
        rintro en w4 hd
        obtain ⟨hb4, hw⟩ := hd.ways
        have HW := Lib.hid hw
        clear hd hw HD
        have GS := Lib.hid (S.out.below hb4)
        have GN := Lib.hid (N.out.below hb4)
        have GRB := Lib.hid (RB.out.below hb4)
        have HB4 := Lib.hid (HB3.out.trans (hb4.mono HB3.out.size))
        clear HB3
        clear S N RB hb4
        have S := GS
        clear GS
        have N := GN
        clear GN
        have RB := GRB
        clear GRB
        rcases HW.out with ⟨y, yo, ya, yc, rfl, hys, hyg, hyf, hye⟩ | ⟨n5, hn5, rfl⟩
        · obtain ⟨A21, c21, A22, c22, A23, c23, rfl, rfl, rfl, hy1, hy2, hy3⟩ := hye.open_
          unfold maxLen at hy1 hy2 hy3
          have HY := Lib.hid (And.intro hys (And.intro hyg hyf))
          clear hys hyg hyf HW
          unfold entV
          have YE := Lib.hid (hye)
          clear hye
          go_wp2_with fail
          have hbb4 := one_box w4 (.cells #[.int .i64 y.id, .slice A21 y.ops.length c21, .slice A22 y.args.length c22, .slice A23 y.cls.length c23] 26)
          have QBY := heap_alloc_new w4 (.cells #[.int .i64 y.id, .slice A21 y.ops.length c21, .slice A22 y.args.length c22, .slice A23 y.cls.length c23] 26)
          generalize w4.alloc (.cells #[.int .i64 y.id, .slice A21 y.ops.length c21, .slice A22 y.args.length c22, .slice A23 y.cls.length c23] 26) = w5 at hbb4 QBY ⊢
          obtain ⟨BY, eBY⟩ : ∃ B, w4.heap.size = B := ⟨_, rfl⟩
          rw [eBY] at QBY ⊢
          have EBY := Lib.hid eBY
          clear eBY
          have GS := Lib.hid (S.out.below hbb4)
          have GN := Lib.hid (N.out.below hbb4)
          have GRB := Lib.hid (RB.out.below hbb4)
          have GYE := Lib.hid (YE.out.below hbb4)
          have HB5 := Lib.hid (HB4.out.trans (hbb4.mono HB4.out.size))
          clear HB4
          clear S N RB YE hbb4
          have S := GS
          clear GS
          have N := GN
          clear GN
          have RB := GRB
          clear GRB
          have YE := GYE
          clear GYE
          have Y := Lib.hid (show EBx w5 BY y A21 c21 A22 c22 A23 c23 from ⟨QBY, YE.out⟩)
          obtain ⟨Yc0, Yc1, Yc2, Yc3⟩ := Y.out.cells
          clear QBY
          clear YE
          refine (encode_ok w5 _ y _ _ _ Y.out.2 S.out N.out (by have := HY.out.2.1.cll; omega)).mono ?_
          rintro en w6 ⟨hb6, hep⟩
          have GS := Lib.hid (S.out.below hb6)
          have GN := Lib.hid (N.out.below hb6)
          have GRB := Lib.hid (RB.out.below hb6)
          have GY := Lib.hid (Y.out.below hb6)
          have HB6 := Lib.hid (HB5.out.trans (hb6.mono HB5.out.size))
          clear HB5
          clear S N RB Yc0 Yc1 Yc2 Yc3 Y hb6
          have S := GS
          clear GS
          have N := GN
          clear GN
          have RB := GRB
          clear GRB
          have Y := GY
          clear GY
          obtain ⟨Yc0, Yc1, Yc2, Yc3⟩ := Y.out.cells
          rcases hep with ⟨hz, rfl⟩ | ⟨hz, A, c, rfl, hO⟩
          · exact absurd (Good.of_form HY.out.2.1) hz
          · rw [← HY.out.1] at hO ⊢
            clear hz
            have RD := Lib.hid (Rd.of_own hO (F := fun _ => True) (fun _ _ => trivial))
            clear hO
            go_wp2_with fail
            refine (lawBytes_ok w6 _ _ _ _ bs bs RB.out RD.out).mono ?_
            rintro en w7 ⟨rb, hrb, rfl, hb7⟩
            have Trb := Lib.hid (show Tells rb (bs = bs) from hrb)
            clear hrb
            have GS := Lib.hid (S.out.below hb7)
            have GN := Lib.hid (N.out.below hb7)
            have GRB := Lib.hid (RB.out.below hb7)
            have GY := Lib.hid (Y.out.below hb7)
            have GRD := Lib.hid (RD.out.below hb7)
            have HB7 := Lib.hid (HB6.out.trans (hb7.mono HB6.out.size))
            clear HB6
            clear S N RB Yc0 Yc1 Yc2 Yc3 Y RD hb7
            have S := GS
            clear GS
            have N := GN
            clear GN
            have RB := GRB
            clear GRB
            have Y := GY
            clear GY
            obtain ⟨Yc0, Yc1, Yc2, Yc3⟩ := Y.out.cells
            have RD := GRD
            clear GRD
            obtain rfl : rb = true := Trb.out.2 rfl
            go_wp2_with fail
            refine (awake13_ok w7 S.out N.out).mono ?_
            rintro en w8 ⟨rfl, hb8⟩
            have GS := Lib.hid (S.out.below hb8)
            have GN := Lib.hid (N.out.below hb8)
            have GRB := Lib.hid (RB.out.below hb8)
            have GY := Lib.hid (Y.out.below hb8)
            have GRD := Lib.hid (RD.out.below hb8)
            have HB8 := Lib.hid (HB7.out.trans (hb8.mono HB7.out.size))
            clear HB7
            clear S N RB Yc0 Yc1 Yc2 Yc3 Y RD hb8
            have S := GS
            clear GS
            have N := GN
            clear GN
            have RB := GRB
            clear GRB
            have Y := GY
            clear GY
            obtain ⟨Yc0, Yc1, Yc2, Yc3⟩ := Y.out.cells
            have RD := GRD
            clear GRD
            go_wp2_with fail
            go_ret
            exact ⟨rfl, HB8.out⟩
        · have hne5 : (n5 != 0) = true := by simpa using hn5
          clear hn5 HW
          unfold zeroE
          go_wp2_with fail
          have hbb4 := one_box w4 (.cells #[.int .i64 0, .slice none 0 0, .slice none 0 0, .slice none 0 0] 26)
          have QB6 := heap_alloc_new w4 (.cells #[.int .i64 0, .slice none 0 0, .slice none 0 0, .slice none 0 0] 26)
          generalize w4.alloc (.cells #[.int .i64 0, .slice none 0 0, .slice none 0 0, .slice none 0 0] 26) = w5 at hbb4 QB6 ⊢
          obtain ⟨B6, eB6⟩ : ∃ B, w4.heap.size = B := ⟨_, rfl⟩
          rw [eB6] at QB6 ⊢
          have EB6 := Lib.hid eB6
          clear eB6
          have GS := Lib.hid (S.out.below hbb4)
          have GN := Lib.hid (N.out.below hbb4)
          have GRB := Lib.hid (RB.out.below hbb4)
          have HB5 := Lib.hid (HB4.out.trans (hbb4.mono HB4.out.size))
          clear HB4
          clear S N RB hbb4
          have S := GS
          clear GS
          have N := GN
          clear GN
          have RB := GRB
          clear GRB
          clear QB6
          refine (noneE_ok w5 (fun _ => True) ⟨0, [], [], []⟩ _ _ _ (ent_zero _ _) (by simp)).mono ?_
          rintro en w6 ⟨rz, hrz, rfl, hb6⟩
          have Trz := Lib.hid (show Tells rz (NoneE ⟨0, [], [], []⟩) from hrz)
          clear hrz
          have GS := Lib.hid (S.out.below hb6)
          have GN := Lib.hid (N.out.below hb6)
          have GRB := Lib.hid (RB.out.below hb6)
          have HB6 := Lib.hid (HB5.out.trans (hb6.mono HB5.out.size))
          clear HB5
          clear S N RB hb6
          have S := GS
          clear GS
          have N := GN
          clear GN
          have RB := GRB
          clear GRB
          obtain rfl : rz = true := Trz.out.2 none_zero
          go_wp2_with fail
          refine (awake13_ok w6 S.out N.out).mono ?_
          rintro en w7 ⟨rfl, hb7⟩
          have GS := Lib.hid (S.out.below hb7)
          have GN := Lib.hid (N.out.below hb7)
          have GRB := Lib.hid (RB.out.below hb7)
          have HB7 := Lib.hid (HB6.out.trans (hb7.mono HB6.out.size))
          clear HB6
          clear S N RB hb7
          have S := GS
          clear GS
          have N := GN
          clear GN
          have RB := GRB
          clear GRB
          go_wp2_with fail
          go_ret
          exact ⟨rfl, HB7.out⟩
      · have HG := Lib.hid (entE_zero hz)
        clear hz
        have RC := Lib.hid (Rd.of_own hO (F := fun _ => True) (fun _ _ => trivial))
        clear hO
        have HDC := Lib.hid (decode_ok w3 (fun _ => True) _ (sealB (inside e)) N.out S.out RC.out (by rw [seal_len]; have := inside_len HG.out; omega))
        go_wp2_with fail
        refine HDC.out.mono ?_
        rintro en w4 hd
        obtain ⟨hb4, xo, xa, xc, rfl, hxe⟩ := DecP.good HG.out X.out.2.2.2.2 hd
        have hxe := hxe.mono (G' := fun _ => True) (fun _ _ => trivial)
        obtain ⟨A11, c11, A12, c12, A13, c13, rfl, rfl, rfl, hx1, hx2, hx3⟩ := hxe.open_
        clear hd HDC hx1 hx2 hx3
        have HXE := Lib.hid hxe
        clear hxe
        have GS := Lib.hid (S.out.below hb4)
        have GN := Lib.hid (N.out.below hb4)
        have GRB := Lib.hid (RB.out.below hb4)
        have GX := Lib.hid (X.out.below hb4)
        have GRC := Lib.hid (RC.out.below hb4)
        have HB4 := Lib.hid (HB3.out.trans (hb4.mono HB3.out.size))
        clear HB3
        clear S N RB Xc0 Xc1 Xc2 Xc3 X RC hb4
        have S := GS
        clear GS
        have N := GN
        clear GN
        have RB := GRB
        clear GRB
        have X := GX
        clear GX
        obtain ⟨Xc0, Xc1, Xc2, Xc3⟩ := X.out.cells
        have RC := GRC
        clear GRC
        have XE := Lib.hid (HXE.out)
        clear HXE
        unfold entV
        go_upto_region 6 with fail
        have hbb4 := one_box w4 (.cells #[.int .i64 e.id, .slice A11 e.ops.length c11, .slice A12 e.args.length c12, .slice A13 e.cls.length c13] 26)
        have QBX := heap_alloc_new w4 (.cells #[.int .i64 e.id, .slice A11 e.ops.length c11, .slice A12 e.args.length c12, .slice A13 e.cls.length c13] 26)
        generalize w4.alloc (.cells #[.int .i64 e.id, .slice A11 e.ops.length c11, .slice A12 e.args.length c12, .slice A13 e.cls.length c13] 26) = w5 at hbb4 QBX ⊢
        obtain ⟨BX, eBX⟩ : ∃ B, w4.heap.size = B := ⟨_, rfl⟩
        rw [eBX] at QBX ⊢
        have EBX := Lib.hid eBX
        clear eBX
        have GS := Lib.hid (S.out.below hbb4)
        have GN := Lib.hid (N.out.below hbb4)
        have GRB := Lib.hid (RB.out.below hbb4)
        have GX := Lib.hid (X.out.below hbb4)
        have GRC := Lib.hid (RC.out.below hbb4)
        have GXE := Lib.hid (XE.out.below hbb4)
        have HB5 := Lib.hid (HB4.out.trans (hbb4.mono HB4.out.size))
        clear HB4
        clear S N RB Xc0 Xc1 Xc2 Xc3 X RC XE hbb4
        have S := GS
        clear GS
        have N := GN
        clear GN
        have RB := GRB
        clear GRB
        have X := GX
        clear GX
        obtain ⟨Xc0, Xc1, Xc2, Xc3⟩ := X.out.cells
        have RC := GRC
        clear GRC
        have XE := GXE
        clear GXE
        have XB := Lib.hid (show EBx w5 BX e A11 c11 A12 c12 A13 c13 from ⟨QBX, XE.out⟩)
        obtain ⟨XBc0, XBc1, XBc2, XBc3⟩ := XB.out.cells
        clear QBX
        clear XE
        go_wp2_with fail
        refine (entSame_is true (.yes rfl) XB.out.2 X.out.2 HG.out.small).mono ?_
        rintro en w6 ⟨rfl, hb6⟩
        have GS := Lib.hid (S.out.below hb6)
        have GN := Lib.hid (N.out.below hb6)
        have GRB := Lib.hid (RB.out.below hb6)
        have GX := Lib.hid (X.out.below hb6)
        have GRC := Lib.hid (RC.out.below hb6)
        have GXB := Lib.hid (XB.out.below hb6)
        have HB6 := Lib.hid (HB5.out.trans (hb6.mono HB5.out.size))
        clear HB5
        clear S N RB Xc0 Xc1 Xc2 Xc3 X RC XBc0 XBc1 XBc2 XBc3 XB hb6
        have S := GS
        clear GS
        have N := GN
        clear GN
        have RB := GRB
        clear GRB
        have X := GX
        clear GX
        obtain ⟨Xc0, Xc1, Xc2, Xc3⟩ := X.out.cells
        have RC := GRC
        clear GRC
        have XB := GXB
        clear GXB
        obtain ⟨XBc0, XBc1, XBc2, XBc3⟩ := XB.out.cells
        clear XBc3 XBc2 XBc1 XBc0 XB
        clear Xc3 Xc2 Xc1 Xc0 X
        clear RC
        have HD := Lib.hid (decode_ok w6 (fun _ => True) _ bs N.out S.out RB.out (by omega))
        go_wp2_with fail
        refine HD.out.mono ?_
        rintro en w7 hd
        obtain ⟨hb7, hw⟩ := hd.ways
        have HW := Lib.hid hw
        clear hd hw HD
        have GS := Lib.hid (S.out.below hb7)
        have GN := Lib.hid (N.out.below hb7)
        have GRB := Lib.hid (RB.out.below hb7)
        have HB7 := Lib.hid (HB6.out.trans (hb7.mono HB6.out.size))
        clear HB6
        clear S N RB hb7
        have S := GS
        clear GS
        have N := GN
        clear GN
        have RB := GRB
        clear GRB
        rcases HW.out with ⟨y, yo, ya, yc, rfl, hys, hyg, hyf, hye⟩ | ⟨n5, hn5, rfl⟩
        · obtain ⟨A21, c21, A22, c22, A23, c23, rfl, rfl, rfl, hy1, hy2, hy3⟩ := hye.open_
          unfold maxLen at hy1 hy2 hy3
          have HY := Lib.hid (And.intro hys (And.intro hyg hyf))
          clear hys hyg hyf HW
          unfold entV
          have YE := Lib.hid (hye)
          clear hye
          go_wp2_with fail
          have hbb7 := one_box w7 (.cells #[.int .i64 y.id, .slice A21 y.ops.length c21, .slice A22 y.args.length c22, .slice A23 y.cls.length c23] 26)
          have QBY := heap_alloc_new w7 (.cells #[.int .i64 y.id, .slice A21 y.ops.length c21, .slice A22 y.args.length c22, .slice A23 y.cls.length c23] 26)
          generalize w7.alloc (.cells #[.int .i64 y.id, .slice A21 y.ops.length c21, .slice A22 y.args.length c22, .slice A23 y.cls.length c23] 26) = w8 at hbb7 QBY ⊢
          obtain ⟨BY, eBY⟩ : ∃ B, w7.heap.size = B := ⟨_, rfl⟩
          rw [eBY] at QBY ⊢
          have EBY := Lib.hid eBY
          clear eBY
          have GS := Lib.hid (S.out.below hbb7)
          have GN := Lib.hid (N.out.below hbb7)
          have GRB := Lib.hid (RB.out.below hbb7)
          have GYE := Lib.hid (YE.out.below hbb7)
          have HB8 := Lib.hid (HB7.out.trans (hbb7.mono HB7.out.size))
          clear HB7
          clear S N RB YE hbb7
          have S := GS
          clear GS
          have N := GN
          clear GN
          have RB := GRB
          clear GRB
          have YE := GYE
          clear GYE
          have Y := Lib.hid (show EBx w8 BY y A21 c21 A22 c22 A23 c23 from ⟨QBY, YE.out⟩)
          obtain ⟨Yc0, Yc1, Yc2, Yc3⟩ := Y.out.cells
          clear QBY
          clear YE
          refine (encode_ok w8 _ y _ _ _ Y.out.2 S.out N.out (by have := HY.out.2.1.cll; omega)).mono ?_
          rintro en w9 ⟨hb9, hep⟩
          have GS := Lib.hid (S.out.below hb9)
          have GN := Lib.hid (N.out.below hb9)
          have GRB := Lib.hid (RB.out.below hb9)
          have GY := Lib.hid (Y.out.below hb9)
          have HB9 := Lib.hid (HB8.out.trans (hb9.mono HB8.out.size))
          clear HB8
          clear S N RB Yc0 Yc1 Yc2 Yc3 Y hb9
          have S := GS
          clear GS
          have N := GN
          clear GN
          have RB := GRB
          clear GRB
          have Y := GY
          clear GY
          obtain ⟨Yc0, Yc1, Yc2, Yc3⟩ := Y.out.cells
          rcases hep with ⟨hz, rfl⟩ | ⟨hz, A, c, rfl, hO⟩
          · exact absurd (Good.of_form HY.out.2.1) hz
          · rw [← HY.out.1] at hO ⊢
            clear hz
            have RD := Lib.hid (Rd.of_own hO (F := fun _ => True) (fun _ _ => trivial))
            clear hO
            go_wp2_with fail
            refine (lawBytes_ok w9 _ _ _ _ bs bs RB.out RD.out).mono ?_
            rintro en w10 ⟨rb, hrb, rfl, hb10⟩
            have Trb := Lib.hid (show Tells rb (bs = bs) from hrb)
            clear hrb
            have GS := Lib.hid (S.out.below hb10)
            have GN := Lib.hid (N.out.below hb10)
            have GRB := Lib.hid (RB.out.below hb10)
            have GY := Lib.hid (Y.out.below hb10)
            have GRD := Lib.hid (RD.out.below hb10)
            have HB10 := Lib.hid (HB9.out.trans (hb10.mono HB9.out.size))
            clear HB9
            clear S N RB Yc0 Yc1 Yc2 Yc3 Y RD hb10
            have S := GS
            clear GS
            have N := GN
            clear GN
            have RB := GRB
            clear GRB
            have Y := GY
            clear GY
            obtain ⟨Yc0, Yc1, Yc2, Yc3⟩ := Y.out.cells
            have RD := GRD
            clear GRD
            obtain rfl : rb = true := Trb.out.2 rfl
            go_wp2_with fail
            refine (awake13_ok w10 S.out N.out).mono ?_
            rintro en w11 ⟨rfl, hb11⟩
            have GS := Lib.hid (S.out.below hb11)
            have GN := Lib.hid (N.out.below hb11)
            have GRB := Lib.hid (RB.out.below hb11)
            have GY := Lib.hid (Y.out.below hb11)
            have GRD := Lib.hid (RD.out.below hb11)
            have HB11 := Lib.hid (HB10.out.trans (hb11.mono HB10.out.size))
            clear HB10
            clear S N RB Yc0 Yc1 Yc2 Yc3 Y RD hb11
            have S := GS
            clear GS
            have N := GN
            clear GN
            have RB := GRB
            clear GRB
            have Y := GY
            clear GY
            obtain ⟨Yc0, Yc1, Yc2, Yc3⟩ := Y.out.cells
            have RD := GRD
            clear GRD
            go_wp2_with fail
            go_ret
            exact ⟨rfl, HB11.out⟩
        · have hne5 : (n5 != 0) = true := by simpa using hn5
          clear hn5 HW
          unfold zeroE
          go_wp2_with fail
          have hbb7 := one_box w7 (.cells #[.int .i64 0, .slice none 0 0, .slice none 0 0, .slice none 0 0] 26)
          have QB6 := heap_alloc_new w7 (.cells #[.int .i64 0, .slice none 0 0, .slice none 0 0, .slice none 0 0] 26)
          generalize w7.alloc (.cells #[.int .i64 0, .slice none 0 0, .slice none 0 0, .slice none 0 0] 26) = w8 at hbb7 QB6 ⊢
          obtain ⟨B6, eB6⟩ : ∃ B, w7.heap.size = B := ⟨_, rfl⟩
          rw [eB6] at QB6 ⊢
          have EB6 := Lib.hid eB6
          clear eB6
          have GS := Lib.hid (S.out.below hbb7)
          have GN := Lib.hid (N.out.below hbb7)
          have GRB := Lib.hid (RB.out.below hbb7)
          have HB8 := Lib.hid (HB7.out.trans (hbb7.mono HB7.out.size))
          clear HB7
          clear S N RB hbb7
          have S := GS
          clear GS
          have N := GN
          clear GN
          have RB := GRB
          clear GRB
          clear QB6
          refine (noneE_ok w8 (fun _ => True) ⟨0, [], [], []⟩ _ _ _ (ent_zero _ _) (by simp)).mono ?_
          rintro en w9 ⟨rz, hrz, rfl, hb9⟩
          have Trz := Lib.hid (show Tells rz (NoneE ⟨0, [], [], []⟩) from hrz)
          clear hrz
          have GS := Lib.hid (S.out.below hb9)
          have GN := Lib.hid (N.out.below hb9)
          have GRB := Lib.hid (RB.out.below hb9)
          have HB9 := Lib.hid (HB8.out.trans (hb9.mono HB8.out.size))
          clear HB8
          clear S N RB hb9
          have S := GS
          clear GS
          have N := GN
          clear GN
          have RB := GRB
          clear GRB
          obtain rfl : rz = true := Trz.out.2 none_zero
          go_wp2_with fail
          refine (awake13_ok w9 S.out N.out).mono ?_
          rintro en w10 ⟨rfl, hb10⟩
          have GS := Lib.hid (S.out.below hb10)
          have GN := Lib.hid (N.out.below hb10)
          have GRB := Lib.hid (RB.out.below hb10)
          have HB10 := Lib.hid (HB9.out.trans (hb10.mono HB9.out.size))
          clear HB9
          clear S N RB hb10
          have S := GS
          clear GS
          have N := GN
          clear GN
          have RB := GRB
          clear GRB
          go_wp2_with fail
          go_ret
          exact ⟨rfl, HB10.out⟩

end Go.Proofs.YtihjcfifakcpgaaGreatDoor
