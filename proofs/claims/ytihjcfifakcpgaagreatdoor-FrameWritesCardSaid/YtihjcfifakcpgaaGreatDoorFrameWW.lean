/- FrameWrites, walked. -/
import Derived.Test.YtihjcfifakcpgaaGreatDoorRefT
namespace Go.Proofs.YtihjcfifakcpgaaGreatDoor
set_option maxRecDepth 100000
open Go.RowKit

set_option maxRecDepth 100000 in
set_option maxHeartbeats 4000000 in
theorem writes_law (w0 : World) (e : FE) (vo va vc : Value) (h : EntRd w0 (fun _ => True) e vo va vc) (hs : ShTab w0) (ht : NibTab w0) :
    Calls Tryz.prog 3 #[entV e vo va vc] w0 fun e w' => e = .returned (.bool true) ∧ Below w0.heap.size w0 w' := by
  obtain ⟨A1, c1, A2, c2, A3, c3, rfl, rfl, rfl, hm1, hm2, hm3⟩ := h.open_
  unfold maxLen at hm1 hm2 hm3
  unfold entV
  have S := Lib.hid (hs)
  have N := Lib.hid (ht)
  have E := Lib.hid (h)
  clear h hs ht
  go_enter Tryz.func3, Tryz.ntmps3
  go_wp2_with fail
  have hbb0 := one_box w0 (.cells #[.int .i64 e.id, .slice A1 e.ops.length c1, .slice A2 e.args.length c2, .slice A3 e.cls.length c3] 26)
  have QB := heap_alloc_new w0 (.cells #[.int .i64 e.id, .slice A1 e.ops.length c1, .slice A2 e.args.length c2, .slice A3 e.cls.length c3] 26)
  generalize w0.alloc (.cells #[.int .i64 e.id, .slice A1 e.ops.length c1, .slice A2 e.args.length c2, .slice A3 e.cls.length c3] 26) = w1 at hbb0 QB ⊢
  obtain ⟨B, eB⟩ : ∃ B, w0.heap.size = B := ⟨_, rfl⟩
  rw [eB] at QB ⊢
  have EB := Lib.hid eB
  clear eB
  have GS := Lib.hid (S.out.below hbb0)
  have GN := Lib.hid (N.out.below hbb0)
  have GE := Lib.hid (E.out.below hbb0)
  have HB1 := Lib.hid hbb0
  clear S N E hbb0
  have S := GS
  clear GS
  have N := GN
  clear GN
  have E := GE
  clear GE
  have X := Lib.hid (show EBx w1 B e A1 c1 A2 c2 A3 c3 from ⟨QB, E.out⟩)
  obtain ⟨Xc0, Xc1, Xc2, Xc3⟩ := X.out.cells
  clear QB
  clear E
  refine (fewE_ok w1 _ e _ _ _ X.out.2).mono ?_
  rintro en w2 ⟨r, hr, rfl, hb2⟩
  have Tr := Lib.hid (show Tells r (FewE e) from hr)
  clear hr
  have GS := Lib.hid (S.out.below hb2)
  have GN := Lib.hid (N.out.below hb2)
  have GX := Lib.hid (X.out.below hb2)
  have HB2 := Lib.hid (HB1.out.trans (hb2.mono HB1.out.size))
  clear HB1
  clear S N Xc0 Xc1 Xc2 Xc3 X hb2
  have S := GS
  clear GS
  have N := GN
  clear GN
  have X := GX
  clear GX
  obtain ⟨Xc0, Xc1, Xc2, Xc3⟩ := X.out.cells
  cases r with
  | false =>
    go_wp2_with fail
    refine (awake13_ok w2 S.out N.out).mono ?_
    rintro en w3 ⟨rfl, hb3⟩
    have GS := Lib.hid (S.out.below hb3)
    have GN := Lib.hid (N.out.below hb3)
    have GX := Lib.hid (X.out.below hb3)
    have HB3 := Lib.hid (HB2.out.trans (hb3.mono HB2.out.size))
    clear HB2
    clear S N Xc0 Xc1 Xc2 Xc3 X hb3
    have S := GS
    clear GS
    have N := GN
    clear GN
    have X := GX
    clear GX
    obtain ⟨Xc0, Xc1, Xc2, Xc3⟩ := X.out.cells
    go_wp2_with fail
    go_ret
    exact ⟨rfl, HB3.out⟩
  | true =>
    have FF := Lib.hid (show e.ops.length ≤ 1000 ∧ e.cls.length ≤ 1000 from ⟨by have := Tr.out.pos.2.1; omega, by have := Tr.out.pos.2.2.2; omega⟩)
    obtain ⟨n, hn⟩ : ∃ n, entE e = n := ⟨_, rfl⟩
    have HN := Lib.hid hn
    clear hn
    have HCK := Lib.hid (check13_ok w2 e A1 A2 A3 c1 c2 c3 X.out.2 FF.out.1 FF.out.2)
    rw [HN.out] at HCK
    go_wp2_with fail
    refine HCK.out.mono ?_
    rintro en w3 ⟨rfl, hb3⟩
    clear HCK
    have GS := Lib.hid (S.out.below hb3)
    have GN := Lib.hid (N.out.below hb3)
    have GX := Lib.hid (X.out.below hb3)
    have HB3 := Lib.hid (HB2.out.trans (hb3.mono HB2.out.size))
    clear HB2
    clear S N Xc0 Xc1 Xc2 Xc3 X hb3
    have S := GS
    clear GS
    have N := GN
    clear GN
    have X := GX
    clear GX
    obtain ⟨Xc0, Xc1, Xc2, Xc3⟩ := X.out.cells
    go_wp2_with fail
    refine (encode_ok w3 _ e _ _ _ X.out.2 S.out N.out FF.out.2).mono ?_
    rintro en w4 ⟨hb4, hep⟩
    rw [HN.out] at hep
    have GS := Lib.hid (S.out.below hb4)
    have GN := Lib.hid (N.out.below hb4)
    have GX := Lib.hid (X.out.below hb4)
    have HB4 := Lib.hid (HB3.out.trans (hb4.mono HB3.out.size))
    clear HB3
    clear S N Xc0 Xc1 Xc2 Xc3 X hb4
    have S := GS
    clear GS
    have N := GN
    clear GN
    have X := GX
    clear GX
    obtain ⟨Xc0, Xc1, Xc2, Xc3⟩ := X.out.cells
    have HFC := Lib.hid (fcheck_ok w4 _ e _ _ _ X.out.2 S.out FF.out.2)
    rw [HN.out] at HFC
    rcases hep with ⟨hz, rfl⟩ | ⟨hz, A, c, rfl, hO⟩
    · have hne : (n != 0) = true := by simpa using hz
      clear hz
      go_wp2_with fail
      refine HFC.out.mono ?_
      rintro en w5 ⟨rfl, hb5⟩
      clear HFC
      have GS := Lib.hid (S.out.below hb5)
      have GN := Lib.hid (N.out.below hb5)
      have GX := Lib.hid (X.out.below hb5)
      have HB5 := Lib.hid (HB4.out.trans (hb5.mono HB4.out.size))
      clear HB4
      clear S N Xc0 Xc1 Xc2 Xc3 X hb5
      have S := GS
      clear GS
      have N := GN
      clear GN
      have X := GX
      clear GX
      obtain ⟨Xc0, Xc1, Xc2, Xc3⟩ := X.out.cells
      go_wp2_with fail
      refine (awake13_ok w5 S.out N.out).mono ?_
      rintro en w6 ⟨rfl, hb6⟩
      have GS := Lib.hid (S.out.below hb6)
      have GN := Lib.hid (N.out.below hb6)
      have GX := Lib.hid (X.out.below hb6)
      have HB6 := Lib.hid (HB5.out.trans (hb6.mono HB5.out.size))
      clear HB5
      clear S N Xc0 Xc1 Xc2 Xc3 X hb6
      have S := GS
      clear GS
      have N := GN
      clear GN
      have X := GX
      clear GX
      obtain ⟨Xc0, Xc1, Xc2, Xc3⟩ := X.out.cells
      go_wp2_with fail
      go_ret
      exact ⟨rfl, HB6.out⟩
    · subst hz
      have HG := Lib.hid (entE_zero HN.out)
      have hR := Rd.of_own hO (F := fun _ => True) (fun _ _ => trivial)
      obtain ⟨m, hm⟩ : ∃ m, (sealB (inside e)).length = m := ⟨_, rfl⟩
      rw [hm] at hR ⊢
      have HM := Lib.hid hm
      clear hm hO
      have RB := Lib.hid (hR)
      clear hR
      go_wp2_with fail
      refine HFC.out.mono ?_
      rintro en w5 ⟨rfl, hb5⟩
      clear HFC
      have GS := Lib.hid (S.out.below hb5)
      have GN := Lib.hid (N.out.below hb5)
      have GX := Lib.hid (X.out.below hb5)
      have GRB := Lib.hid (RB.out.below hb5)
      have HB5 := Lib.hid (HB4.out.trans (hb5.mono HB4.out.size))
      clear HB4
      clear S N Xc0 Xc1 Xc2 Xc3 X RB hb5
      have S := GS
      clear GS
      have N := GN
      clear GN
      have X := GX
      clear GX
      obtain ⟨Xc0, Xc1, Xc2, Xc3⟩ := X.out.cells
      have RB := GRB
      clear GRB
      go_wp2_with fail
      refine (plain13_ok w5 e A1 A2 A3 c1 c2 c3 X.out.2 FF.out.1).mono ?_
      rintro en w6 ⟨hb6, An, cn, rfl, hen⟩
      have HEN0 := Lib.hid hen
      clear hen
      have GS := Lib.hid (S.out.below hb6)
      have GN := Lib.hid (N.out.below hb6)
      have GX := Lib.hid (X.out.below hb6)
      have GRB := Lib.hid (RB.out.below hb6)
      have HB6 := Lib.hid (HB5.out.trans (hb6.mono HB5.out.size))
      clear HB5
      clear S N Xc0 Xc1 Xc2 Xc3 X RB hb6
      have S := GS
      clear GS
      have N := GN
      clear GN
      have X := GX
      clear GX
      obtain ⟨Xc0, Xc1, Xc2, Xc3⟩ := X.out.cells
      have RB := GRB
      clear GRB
      have HIN := Lib.hid (refInside_ok w6 e An A2 A3 cn c2 c3 HEN0.out HG.out)
      clear HEN0
      go_wp2_with fail
      refine HIN.out.mono ?_
      rintro en w7 ⟨Ai, ci, rfl, hO, hb7⟩
      have HRI := Lib.hid (Rd.of_own hO (F := fun _ => True) (fun _ _ => trivial))
      clear hO HIN
      have GS := Lib.hid (S.out.below hb7)
      have GN := Lib.hid (N.out.below hb7)
      have GX := Lib.hid (X.out.below hb7)
      have GRB := Lib.hid (RB.out.below hb7)
      have HB7 := Lib.hid (HB6.out.trans (hb7.mono HB6.out.size))
      clear HB6
      clear S N Xc0 Xc1 Xc2 Xc3 X RB hb7
      have S := GS
      clear GS
      have N := GN
      clear GN
      have X := GX
      clear GX
      obtain ⟨Xc0, Xc1, Xc2, Xc3⟩ := X.out.cells
      have RB := GRB
      clear GRB
      go_wp2_with fail
      refine (refSeal_ok w7 _ _ (inside e) HRI.out (by have := inside_len HG.out; omega)).mono ?_
      rintro en w8 ⟨As, cs, rfl, hO, hb8⟩
      have HRS := Lib.hid (Rd.of_own hO (F := fun _ => True) (fun _ _ => trivial))
      clear hO HRI
      have GS := Lib.hid (S.out.below hb8)
      have GN := Lib.hid (N.out.below hb8)
      have GX := Lib.hid (X.out.below hb8)
      have GRB := Lib.hid (RB.out.below hb8)
      have HB8 := Lib.hid (HB7.out.trans (hb8.mono HB7.out.size))
      clear HB7
      clear S N Xc0 Xc1 Xc2 Xc3 X RB hb8
      have S := GS
      clear GS
      have N := GN
      clear GN
      have X := GX
      clear GX
      obtain ⟨Xc0, Xc1, Xc2, Xc3⟩ := X.out.cells
      have RB := GRB
      clear GRB
      go_wp2_with fail
      refine (lawBytes_ok w8 _ _ _ _ _ _ RB.out HRS.out).mono ?_
      rintro en w9 ⟨rq, hrq, rfl, hb9⟩
      have Trq := Lib.hid (show Tells rq (sealB (inside e) = sealB (inside e)) from hrq)
      clear hrq
      have GS := Lib.hid (S.out.below hb9)
      have GN := Lib.hid (N.out.below hb9)
      have GX := Lib.hid (X.out.below hb9)
      have GRB := Lib.hid (RB.out.below hb9)
      have HB9 := Lib.hid (HB8.out.trans (hb9.mono HB8.out.size))
      clear HB8
      clear S N Xc0 Xc1 Xc2 Xc3 X RB hb9
      have S := GS
      clear GS
      have N := GN
      clear GN
      have X := GX
      clear GX
      obtain ⟨Xc0, Xc1, Xc2, Xc3⟩ := X.out.cells
      have RB := GRB
      clear GRB
      obtain rfl : rq = true := Trq.out.2 rfl
      go_wp2_with fail
      refine (awake13_ok w9 S.out N.out).mono ?_
      rintro en w10 ⟨rfl, hb10⟩
      have GS := Lib.hid (S.out.below hb10)
      have GN := Lib.hid (N.out.below hb10)
      have GX := Lib.hid (X.out.below hb10)
      have GRB := Lib.hid (RB.out.below hb10)
      have HB10 := Lib.hid (HB9.out.trans (hb10.mono HB9.out.size))
      clear HB9
      clear S N Xc0 Xc1 Xc2 Xc3 X RB hb10
      have S := GS
      clear GS
      have N := GN
      clear GN
      have X := GX
      clear GX
      obtain ⟨Xc0, Xc1, Xc2, Xc3⟩ := X.out.cells
      have RB := GRB
      clear GRB
      go_wp2_with fail
      go_ret
      exact ⟨rfl, HB10.out⟩

end Go.Proofs.YtihjcfifakcpgaaGreatDoor
