/- FrameReads, walked. -/
import Derived.Test.YtihjcfifakcpgaaGreatDoorRefX
import Derived.Test.YtihjcfifakcpgaaGreatDoorRefR
import Derived.Test.YtihjcfifakcpgaaGreatDoorFrameBW
namespace Go.Proofs.YtihjcfifakcpgaaGreatDoor
set_option maxRecDepth 100000
open Go.RowKit

theorem Tryz.infoPop : (Tryz.prog.info? 51).map (fun i => (i.zero, i.size, i.bytes)) = some (some (.agg #[.int .i64 0, .int .i64 0, .int .i64 0, .int .i64 0, .int .i64 0]), 5, 40) := by kernel_rfl
/-- What decoding says: an entry and what is wrong. -/
def DecO (xs : List UInt8) (x : FE) (why : Int) : Prop :=
  (why = 0 ∧ ∃ ys, xs = sealB ys ∧ rdEnt ys = some x ∧ entE x = 0) ∨
    (x = ⟨0, [], [], []⟩ ∧ ((∃ ys y, xs = sealB ys ∧ rdEnt ys = some y ∧ entE y ≠ 0 ∧ why = entE y) ∨ (∃ ys, xs = sealB ys ∧ rdEnt ys = none ∧ why = 11) ∨ ((∀ ys, xs ≠ sealB ys) ∧ why = if xs.length < 4 then 11 else 12)))
theorem DecP.open_ {xs : List UInt8} {w w' : World} {en : Ending} (hd : DecP xs w en w') : Below w.heap.size w w' ∧
    ∃ x A1 c1 A2 c2 A3 c3 why, en = .returned (.tuple #[.agg #[.int .i64 x.id, .slice A1 x.ops.length c1, .slice A2 x.args.length c2, .slice A3 x.cls.length c3], .int .i64 why]) ∧ EntRd w' (fun _ => True) x (.slice A1 x.ops.length c1) (.slice A2 x.args.length c2) (.slice A3 x.cls.length c3) ∧ DecO xs x why := by
  obtain ⟨hb, hd⟩ := hd
  refine ⟨hb, ?_⟩
  rcases hd with ⟨ys, x, vo, va, vc, hs, hr, hz, he, hent⟩ | ⟨ys, x, hs, hr, hz, he⟩ | ⟨ys, hs, hr, he⟩ | ⟨hn, he⟩
  · have hent := hent.mono (G' := fun _ => True) (fun _ _ => trivial)
    obtain ⟨A1, c1, A2, c2, A3, c3, rfl, rfl, rfl, _⟩ := hent.open_
    exact ⟨x, A1, c1, A2, c2, A3, c3, 0, he, hent, .inl ⟨rfl, ys, hs, hr, hz⟩⟩
  · exact ⟨⟨0, [], [], []⟩, none, 0, none, 0, none, 0, _, he, ent_zero _ _, .inr ⟨rfl, .inl ⟨ys, x, hs, hr, hz, rfl⟩⟩⟩
  · exact ⟨⟨0, [], [], []⟩, none, 0, none, 0, none, 0, _, he, ent_zero _ _, .inr ⟨rfl, .inr (.inl ⟨ys, hs, hr, rfl⟩)⟩⟩
  · exact ⟨⟨0, [], [], []⟩, none, 0, none, 0, none, 0, _, he, ent_zero _ _, .inr ⟨rfl, .inr (.inr ⟨hn, rfl⟩)⟩⟩
theorem DecO.no {xs : List UInt8} {x : FE} {why : Int} (h : DecO xs x why) (hn : ∀ ys, xs ≠ sealB ys) : x = ⟨0, [], [], []⟩ ∧ why = if xs.length < 4 then 11 else 12 := by
  rcases h with ⟨_, ys, e, _⟩ | ⟨hx, ⟨ys, _, e, _⟩ | ⟨ys, e, _⟩ | ⟨_, e⟩⟩
  · exact absurd e (hn _)
  · exact absurd e (hn _)
  · exact absurd e (hn _)
  · exact ⟨hx, e⟩
theorem DecO.bad {ys : List UInt8} {x : FE} {why : Int} (h : DecO (sealB ys) x why) (hr : rdEnt ys = none) : x = ⟨0, [], [], []⟩ ∧ why = 11 := by
  rcases h with ⟨_, zs, e, h2, _⟩ | ⟨hx, ⟨zs, _, e, h2, _⟩ | ⟨zs, e, _, h3⟩ | ⟨hn, _⟩⟩
  · rw [sealB_inj e, h2] at hr; cases hr
  · rw [sealB_inj e, h2] at hr; cases hr
  · exact ⟨hx, h3⟩
  · exact absurd rfl (hn _)
theorem DecO.wrong {ys : List UInt8} {x y : FE} {why : Int} (h : DecO (sealB ys) x why) (hr : rdEnt ys = some y) (hy : entE y ≠ 0) : x = ⟨0, [], [], []⟩ ∧ why = entE y := by
  rcases h with ⟨_, zs, e, h2, h3⟩ | ⟨hx, ⟨zs, y', e, h2, _, h4⟩ | ⟨zs, e, h2, _⟩ | ⟨hn, _⟩⟩
  · rw [sealB_inj e, h2] at hr; injection hr with hr; subst hr; exact absurd h3 hy
  · rw [sealB_inj e, h2] at hr; injection hr with hr; subst hr; exact ⟨hx, h4⟩
  · rw [sealB_inj e, h2] at hr; cases hr
  · exact absurd rfl (hn _)
theorem DecO.right {ys : List UInt8} {x y : FE} {why : Int} (h : DecO (sealB ys) x why) (hr : rdEnt ys = some y) (hy : entE y = 0) : x = y ∧ why = 0 := by
  rcases h with ⟨h0, zs, e, h2, h3⟩ | ⟨hx, ⟨zs, y', e, h2, h3, _⟩ | ⟨zs, e, h2, _⟩ | ⟨hn, _⟩⟩
  · rw [sealB_inj e, h2] at hr; injection hr with hr; exact ⟨hr, h0⟩
  · rw [sealB_inj e, h2] at hr; injection hr with hr; subst hr; exact absurd hy h3
  · rw [sealB_inj e, h2] at hr; cases hr
  · exact absurd rfl (hn _)

set_option maxRecDepth 100000 in
set_option maxHeartbeats 8000000 in
theorem reads_law (w0 : World) (vb : Value) (bs : List UInt8) (sealed : Bool) (hb : Rd w0 (fun _ => True) vb (bs.map B8)) (hs : ShTab w0) (ht : NibTab w0) :
    Calls Tryz.prog 5 #[vb, .bool sealed] w0 fun e w' => e = .returned (.bool true) ∧ Below w0.heap.size w0 w' := by
  obtain ⟨Ab, cb, rfl, hbc, hbm⟩ := rd_len hb
  unfold maxLen at hbm
  obtain ⟨io, hio, ho0, ho1, ho2⟩ := info_parts Tryz.infoPop
  have HI := Lib.hid hio
  clear hio
  have S := Lib.hid (hs)
  have N := Lib.hid (ht)
  have RB := Lib.hid (hb)
  clear hs ht hb
  go_enter Tryz.func5, Tryz.ntmps5
  by_cases b1 : 600 < bs.length
  · have b1' : (600 : Int) < (bs.length : Int) := by omega
    go_wp2_with fail
    refine (awake13_ok w0 S.out N.out).mono ?_
    rintro en w1 ⟨rfl, hb1⟩
    have GS := Lib.hid (S.out.below hb1)
    have GN := Lib.hid (N.out.below hb1)
    have GRB := Lib.hid (RB.out.below hb1)
    have HB1 := Lib.hid hb1
    clear S N RB hb1
    have S := GS
    clear GS
    have N := GN
    clear GN
    have RB := GRB
    clear GRB
    go_wp2_with fail
    go_ret
    exact ⟨rfl, HB1.out⟩
  have b1' : ¬ (600 : Int) < (bs.length : Int) := by omega
  go_upto_if 22 with fail
  go_cut [5] from 22 to 24 (fun s5 wx => ∃ A c xs, s5 = .slice A xs.length c ∧ Rd wx (fun _ => True) (.slice A xs.length c) (xs.map B8) ∧ (sealed = true → xs = sealB bs) ∧ xs.length ≤ 604 ∧ Below w0.heap.size w0 wx)
  case first =>
    have hbl := b1
    clear b1'
    cases sealed with
    | true =>
      go_wp2_with fail
      refine (refSeal_ok w0 _ _ bs RB.out (by omega)).mono ?_
      rintro en w1 ⟨As, cs, rfl, hO, hb1⟩
      have HO := Lib.hid (And.intro hO hb1)
      clear hO hb1
      have HL := Lib.hid (show (sealB bs).length ≤ 604 by rw [seal_len]; omega)
      go_wp2_with fail
      go_meet
      exact ⟨As, cs, sealB bs, rfl, Rd.of_own HO.out.1 (fun _ _ => trivial), fun _ => rfl, HL.out, HO.out.2⟩
    | false =>
      go_wp2_with fail
      go_meet
      exact ⟨Ab, cb, bs, rfl, RB.out, (fun e => by cases e), by omega, Below.refl _ _⟩
  case rest =>
    obtain ⟨A, c, xs, rfl, hrd, hsl, hxl, hb0⟩ := hcut
    have HX0 := Lib.hid (And.intro hrd (And.intro hsl hxl))
    skip
    clear hrd hsl hxl
    generalize wc = w1 at hb0 HX0 ⊢
    have GS := Lib.hid (S.out.below hb0)
    have GN := Lib.hid (N.out.below hb0)
    have GRB := Lib.hid (RB.out.below hb0)
    have HB1 := Lib.hid hb0
    clear S N RB hb0
    have S := GS
    clear GS
    have N := GN
    clear GN
    have RB := GRB
    clear GRB
    clear RB
    have RX := Lib.hid (HX0.out.1)
    have HXL := Lib.hid HX0.out.2.2
    have HSL := Lib.hid HX0.out.2.1
    clear HX0
    clear b1 b1'
    have HD := Lib.hid (decode_ok w1 _ _ xs N.out S.out RX.out (by have := HXL.out; omega))
    go_wp2_with fail
    refine HD.out.mono ?_
    rintro en w2 hd
    obtain ⟨hb2, x, x1, xc1, x2, xc2, x3, xc3, why, rfl, hx, hdo⟩ := hd.open_
    have HDO := Lib.hid hdo
    clear hd HD hdo
    have GS := Lib.hid (S.out.below hb2)
    have GN := Lib.hid (N.out.below hb2)
    have GRX := Lib.hid (RX.out.below hb2)
    have HB2 := Lib.hid (HB1.out.trans (hb2.mono HB1.out.size))
    clear HB1
    clear S N RX hb2
    have S := GS
    clear GS
    have N := GN
    clear GN
    have RX := GRX
    clear GRX
    have XE := Lib.hid (hx)
    clear hx
    obtain ⟨_, _, _, _, _, _, _, _, _, hm1, hm2, hm3⟩ := XE.out.open_
    unfold maxLen at hm1 hm2 hm3
    go_upto_region 7 with fail
    have hbb2 := one_box w2 (.cells #[.int .i64 x.id, .slice x1 x.ops.length xc1, .slice x2 x.args.length xc2, .slice x3 x.cls.length xc3] 26)
    have QB := heap_alloc_new w2 (.cells #[.int .i64 x.id, .slice x1 x.ops.length xc1, .slice x2 x.args.length xc2, .slice x3 x.cls.length xc3] 26)
    generalize w2.alloc (.cells #[.int .i64 x.id, .slice x1 x.ops.length xc1, .slice x2 x.args.length xc2, .slice x3 x.cls.length xc3] 26) = w3 at hbb2 QB ⊢
    obtain ⟨B, eB⟩ : ∃ B, w2.heap.size = B := ⟨_, rfl⟩
    rw [eB] at QB ⊢
    have EB := Lib.hid eB
    clear eB
    have GS := Lib.hid (S.out.below hbb2)
    have GN := Lib.hid (N.out.below hbb2)
    have GRX := Lib.hid (RX.out.below hbb2)
    have GXE := Lib.hid (XE.out.below hbb2)
    have HB3 := Lib.hid (HB2.out.trans (hbb2.mono HB2.out.size))
    clear HB2
    clear S N RX XE hbb2
    have S := GS
    clear GS
    have N := GN
    clear GN
    have RX := GRX
    clear GRX
    have XE := GXE
    clear GXE
    have X := Lib.hid (show EBx w3 B x x1 xc1 x2 xc2 x3 xc3 from ⟨QB, XE.out⟩)
    obtain ⟨Xc0, Xc1, Xc2, Xc3⟩ := X.out.cells
    clear QB
    clear XE
    have HOP := Lib.hid (open_ok w3 _ _ xs N.out RX.out (by have := HXL.out; omega))
    go_wp2_with fail
    refine HOP.out.mono ?_
    rintro en w4 ⟨hb4, hop⟩
    clear HOP
    have GS := Lib.hid (S.out.below hb4)
    have GN := Lib.hid (N.out.below hb4)
    have GRX := Lib.hid (RX.out.below hb4)
    have GX := Lib.hid (X.out.below hb4)
    have HB4 := Lib.hid (HB3.out.trans (hb4.mono HB3.out.size))
    clear HB3
    clear S N RX Xc0 Xc1 Xc2 Xc3 X hb4
    have S := GS
    clear GS
    have N := GN
    clear GN
    have RX := GRX
    clear GRX
    have X := GX
    clear GX
    obtain ⟨Xc0, Xc1, Xc2, Xc3⟩ := X.out.cells
    rcases hop with ⟨ys, Ay, cy, hxs, rfl, hO⟩ | ⟨hno, rfl⟩
    · subst hxs
      have HYL := Lib.hid (show ys.length ≤ 1000 by have := HXL.out; rw [seal_len] at this; omega)
      have HR := Lib.hid (refReadE_ok w4 Ay cy ys (Rd.of_own hO (fun g hg => (hO.lt g hg).2)) HYL.out)
      clear hO
      go_wp2_with fail
      refine HR.out.mono ?_
      rintro en w5 ⟨y, y1, yc1, y2, yc2, y3, yc3, is, rfl, ⟨r1, r2, r3, hb5⟩, ht1, hf1, hl1, hl2, hl3⟩
      have HYT := Lib.hid (And.intro ht1 (And.intro hf1 (And.intro hl1 (And.intro hl2 hl3))))
      have HRD := Lib.hid (And.intro r1 (And.intro r2 r3))
      clear HR r1 r2 r3 ht1 hf1 hl1 hl2 hl3
      have GS := Lib.hid (S.out.below hb5)
      have GN := Lib.hid (N.out.below hb5)
      have GRX := Lib.hid (RX.out.below hb5)
      have GX := Lib.hid (X.out.below hb5)
      have HB5 := Lib.hid (HB4.out.trans (hb5.mono HB4.out.size))
      clear HB4
      clear S N RX Xc0 Xc1 Xc2 Xc3 X hb5
      have S := GS
      clear GS
      have N := GN
      clear GN
      have RX := GRX
      clear GRX
      have X := GX
      clear GX
      obtain ⟨Xc0, Xc1, Xc2, Xc3⟩ := X.out.cells
      cases is with
      | false =>
        obtain ⟨hzx, hzw⟩ := HDO.out.bad (HYT.out.2.1 rfl)
        have HZX := Lib.hid hzx
        subst hzw
        clear hzx
        go_upto_region 11 with fail
        have hbb5 := one_box w5 (.cells #[.int .i64 y.id, .slice y1 y.ops.length yc1, .slice y2 y.args.length yc2, .slice y3 y.cls.length yc3] 39)
        have QC := heap_alloc_new w5 (.cells #[.int .i64 y.id, .slice y1 y.ops.length yc1, .slice y2 y.args.length yc2, .slice y3 y.cls.length yc3] 39)
        generalize w5.alloc (.cells #[.int .i64 y.id, .slice y1 y.ops.length yc1, .slice y2 y.args.length yc2, .slice y3 y.cls.length yc3] 39) = w6 at hbb5 QC ⊢
        obtain ⟨C, eC⟩ : ∃ B, w5.heap.size = B := ⟨_, rfl⟩
        rw [eC] at QC ⊢
        have EC := Lib.hid eC
        clear eC
        have GS := Lib.hid (S.out.below hbb5)
        have GN := Lib.hid (N.out.below hbb5)
        have GRX := Lib.hid (RX.out.below hbb5)
        have GX := Lib.hid (X.out.below hbb5)
        have HB6 := Lib.hid (HB5.out.trans (hbb5.mono HB5.out.size))
        clear HB5
        clear S N RX Xc0 Xc1 Xc2 Xc3 X hbb5
        have S := GS
        clear GS
        have N := GN
        clear GN
        have RX := GRX
        clear GRX
        have X := GX
        clear GX
        obtain ⟨Xc0, Xc1, Xc2, Xc3⟩ := X.out.cells
        clear QC
        go_wp2_with fail
        refine (noneE_ok w6 _ x _ _ _ X.out.2 (by rw [HZX.out]; simp)).mono ?_
        rintro en w7 ⟨rz, hrz, rfl, hb7⟩
        have Trz := Lib.hid (show Tells rz (NoneE x) from hrz)
        clear hrz
        have GS := Lib.hid (S.out.below hb7)
        have GN := Lib.hid (N.out.below hb7)
        have GRX := Lib.hid (RX.out.below hb7)
        have GX := Lib.hid (X.out.below hb7)
        have HB7 := Lib.hid (HB6.out.trans (hb7.mono HB6.out.size))
        clear HB6
        clear S N RX Xc0 Xc1 Xc2 Xc3 X hb7
        have S := GS
        clear GS
        have N := GN
        clear GN
        have RX := GRX
        clear GRX
        have X := GX
        clear GX
        obtain ⟨Xc0, Xc1, Xc2, Xc3⟩ := X.out.cells
        obtain rfl : rz = true := Trz.out.2 (by rw [HZX.out]; exact none_zero)
        go_wp2_with fail
        refine (awake13_ok w7 S.out N.out).mono ?_
        rintro en w8 ⟨rfl, hb8⟩
        have GS := Lib.hid (S.out.below hb8)
        have GN := Lib.hid (N.out.below hb8)
        have GRX := Lib.hid (RX.out.below hb8)
        have GX := Lib.hid (X.out.below hb8)
        have HB8 := Lib.hid (HB7.out.trans (hb8.mono HB7.out.size))
        clear HB7
        clear S N RX Xc0 Xc1 Xc2 Xc3 X hb8
        have S := GS
        clear GS
        have N := GN
        clear GN
        have RX := GRX
        clear GRX
        have X := GX
        clear GX
        obtain ⟨Xc0, Xc1, Xc2, Xc3⟩ := X.out.cells
        go_wp2_with fail
        go_ret
        exact ⟨rfl, HB8.out⟩
      | true =>
        have YE := Lib.hid (show EntRd w5 (fun _ => True) y (.slice y1 y.ops.length yc1) (.slice y2 y.args.length yc2) (.slice y3 y.cls.length yc3) from ⟨RdK.mono HRD.out.1 (fun _ _ => trivial), Rd.mono HRD.out.2.1 (fun _ _ => trivial), RdK.mono HRD.out.2.2 (fun _ _ => trivial), (rdEnt_fits (HYT.out.1 rfl)).1⟩)
        clear HRD
        obtain ⟨_, _, _, _, _, _, _, _, _, hn1, hn2, hn3⟩ := YE.out.open_
        unfold maxLen at hn1 hn2 hn3
        go_upto_region 11 with fail
        have hbb5 := one_box w5 (.cells #[.int .i64 y.id, .slice y1 y.ops.length yc1, .slice y2 y.args.length yc2, .slice y3 y.cls.length yc3] 39)
        have QC := heap_alloc_new w5 (.cells #[.int .i64 y.id, .slice y1 y.ops.length yc1, .slice y2 y.args.length yc2, .slice y3 y.cls.length yc3] 39)
        generalize w5.alloc (.cells #[.int .i64 y.id, .slice y1 y.ops.length yc1, .slice y2 y.args.length yc2, .slice y3 y.cls.length yc3] 39) = w6 at hbb5 QC ⊢
        obtain ⟨C, eC⟩ : ∃ B, w5.heap.size = B := ⟨_, rfl⟩
        rw [eC] at QC ⊢
        have EC := Lib.hid eC
        clear eC
        have GS := Lib.hid (S.out.below hbb5)
        have GN := Lib.hid (N.out.below hbb5)
        have GRX := Lib.hid (RX.out.below hbb5)
        have GX := Lib.hid (X.out.below hbb5)
        have GYE := Lib.hid (YE.out.below hbb5)
        have HB6 := Lib.hid (HB5.out.trans (hbb5.mono HB5.out.size))
        clear HB5
        clear S N RX Xc0 Xc1 Xc2 Xc3 X YE hbb5
        have S := GS
        clear GS
        have N := GN
        clear GN
        have RX := GRX
        clear GRX
        have X := GX
        clear GX
        obtain ⟨Xc0, Xc1, Xc2, Xc3⟩ := X.out.cells
        have YE := GYE
        clear GYE
        have Y := Lib.hid (show RBx w6 C y y1 yc1 y2 yc2 y3 yc3 from ⟨QC, YE.out⟩)
        obtain ⟨Yc0, Yc1, Yc2, Yc3⟩ := Y.out.cells
        clear QC
        clear YE
        have HYL2 := Lib.hid (And.intro HYT.out.2.2.1 HYT.out.2.2.2.2)
        have hyl := HYT.out.2.2.1
        clear hyl
        go_wp2_with fail
        go_loopw [12, 13] (fun z i w7 => ∃ k : Nat, k ≤ y.ops.length ∧ i = .int .i64 (k : Int) ∧ w7.ownsRow w6.heap.size 51 5 z k ((y.ops.take k).map POp.cells).flatten ∧ Below w6.heap.size w6 w7) (fun _ i _ => y.ops.length - (intOf i).toNat)
        case atStart => exact ⟨0, Nat.zero_le _, rfl, World.ownsRow_nil _ _ _ _, Below.refl _ _⟩
        case round =>
          rename World => w7
          obtain ⟨k, hk, rfl, hown, hbl⟩ := hrel
          obtain ⟨Az, cz, rfl⟩ := ownsRow_slice hown
          by_cases hlt : k < y.ops.length
          · obtain ⟨q, hq⟩ : ∃ q, y.ops[k]? = some q := ⟨_, List.getElem?_eq_getElem hlt⟩
            have hYr := Y.out.below hbl
            obtain ⟨d0, d1, d2, d3⟩ := hYr.cells
            obtain ⟨b, o, rfl, hFb, c0, c1, c2, c3, c4⟩ := hYr.2.1.at_ hq
            have hsn := op_snoc hq
            have i1 : (0 : Int) ≤ (k : Int) := by omega
            have i2' : (k : Int) < (y.ops.length : Int) := by omega
            have hown2 := hown.alloc (.cells #[.int .i64 q.d, .int .i64 q.a, .int .i64 q.b, .int .i64 q.c, .int .i64 q.n] 49)
            have kb := heap_alloc_new w7 (.cells #[.int .i64 q.d, .int .i64 q.a, .int .i64 q.b, .int .i64 q.c, .int .i64 q.n] 49)
            have hbl2 := hbl.alloc hbl.size (.cells #[.int .i64 q.d, .int .i64 q.a, .int .i64 q.b, .int .i64 q.c, .int .i64 q.n] 49)
            have HQ := Lib.hid (And.intro hown2 (And.intro kb (And.intro hbl2 hsn)))
            have hyl := HYL2.out.1
            clear hown hown2 kb hbl2 hsn hq hYr hbl hFb Yc0 Yc1 Yc2 Yc3 Xc0 Xc1 Xc2 Xc3
            go_upto_region 18 with fail
            have hq2 := HQ.out
            clear HQ
            generalize w7.alloc (.cells #[.int .i64 q.d, .int .i64 q.a, .int .i64 q.b, .int .i64 q.c, .int .i64 q.n] 49) = wq at hq2 ⊢
            obtain ⟨T, hT⟩ : ∃ x, w7.heap.size = x := ⟨_, rfl⟩
            rw [hT] at hq2 ⊢
            obtain ⟨hown2, kb, hbl2, hsn⟩ := hq2
            obtain ⟨z0, z1, z2, z3, z4⟩ := blk5 kb
            have hown3 := hown2.alloc (.cells #[.int .i64 q.d, .int .i64 q.a, .int .i64 q.b, .int .i64 q.c, .int .i64 q.n] 51)
            have hnews := World.news_of_block (heap_alloc_new wq (.cells #[.int .i64 q.d, .int .i64 q.a, .int .i64 q.b, .int .i64 q.c, .int .i64 q.n] 51))
            have hbl3 := hbl2.alloc hbl2.size (.cells #[.int .i64 q.d, .int .i64 q.a, .int .i64 q.b, .int .i64 q.c, .int .i64 q.n] 51)
            have HQ := Lib.hid (And.intro hown3 (And.intro hnews (And.intro hbl3 hsn)))
            have HH := Lib.hid hbl2.size
            clear hown2 kb hbl2 hsn hown3 hnews hbl3 hT c0 c1 c2 c3 c4 d0 d1 d2 d3
            go_upto_region 16 with (at_builtin; go_loud (refine wpList_append_lies _ rfl _ _ 22 rfl w6.heap.size 51 io _ 5 40 Tryz.underlying22 HI.out ho0 ho1 ho2 rfl (by decide) (.slice Az k cz) k _ rfl HQ.out.1 ⟨wq.heap.size, 0, none⟩ 1 1 [.int .i64 q.d, .int .i64 q.a, .int .i64 q.b, .int .i64 q.c, .int .i64 q.n] rfl rfl HQ.out.2.1 (by simp [Value.oneCell']) (by decide) (by unfold maxLen; omega) (by omega) HQ.out.2.2.1.size _ rfl ?_); intro g cap wz hown4 hgrow hat hglt; have HZ := Lib.hid (And.intro hown4 (HQ.out.2.2.1.grown hgrow HQ.out.2.2.1.size (fun j hj => (HQ.out.1.lt j hj).1))); clear hown4 hgrow hat hglt)
            go_wp2_with fail
            go_roundw
            case rel =>
              refine ⟨k + 1, by omega, by go_num, ?_, HZ.out.2⟩
              rw [HQ.out.2.2.2]
              simpa [POp.cells] using HZ.out.1
            case measure => simp [intOf]; omega
          · obtain rfl : k = y.ops.length := by omega
            rw [List.take_length] at hown
            have HO := Lib.hid hown
            clear hown
            have GS := Lib.hid (S.out.below hbl)
            have GN := Lib.hid (N.out.below hbl)
            have GRX := Lib.hid (RX.out.below hbl)
            have GX := Lib.hid (X.out.below hbl)
            have GY := Lib.hid (Y.out.below hbl)
            have HB7 := Lib.hid (HB6.out.trans (hbl.mono HB6.out.size))
            clear HB6
            clear S N RX Xc0 Xc1 Xc2 Xc3 X Yc0 Yc1 Yc2 Yc3 Y hbl
            have S := GS
            clear GS
            have N := GN
            clear GN
            have RX := GRX
            clear GRX
            have X := GX
            clear GX
            obtain ⟨Xc0, Xc1, Xc2, Xc3⟩ := X.out.cells
            have Y := GY
            clear GY
            obtain ⟨Yc0, Yc1, Yc2, Yc3⟩ := Y.out.cells
            have OPS := Lib.hid (show OpRd _ (fun _ => True) (.slice Az y.ops.length cz) y.ops from RdK.of_own HO.out (pops_len y.ops) (by decide) (fun _ _ => trivial))
            clear HO
            go_upto_region 20 with fail
            have hbb7 := one_box w7 (.cells #[.int .i64 y.id, .slice Az y.ops.length cz, .slice y2 y.args.length yc2, .slice y3 y.cls.length yc3] 26)
            have QD := heap_alloc_new w7 (.cells #[.int .i64 y.id, .slice Az y.ops.length cz, .slice y2 y.args.length yc2, .slice y3 y.cls.length yc3] 26)
            generalize w7.alloc (.cells #[.int .i64 y.id, .slice Az y.ops.length cz, .slice y2 y.args.length yc2, .slice y3 y.cls.length yc3] 26) = w8 at hbb7 QD ⊢
            obtain ⟨D, eD⟩ : ∃ B, w7.heap.size = B := ⟨_, rfl⟩
            rw [eD] at QD ⊢
            have ED := Lib.hid eD
            clear eD
            have GS := Lib.hid (S.out.below hbb7)
            have GN := Lib.hid (N.out.below hbb7)
            have GRX := Lib.hid (RX.out.below hbb7)
            have GX := Lib.hid (X.out.below hbb7)
            have GY := Lib.hid (Y.out.below hbb7)
            have GOPS := Lib.hid (OPS.out.below hbb7)
            have HB8 := Lib.hid (HB7.out.trans (hbb7.mono HB7.out.size))
            clear HB7
            clear S N RX Xc0 Xc1 Xc2 Xc3 X Yc0 Yc1 Yc2 Yc3 Y OPS hbb7
            have S := GS
            clear GS
            have N := GN
            clear GN
            have RX := GRX
            clear GRX
            have X := GX
            clear GX
            obtain ⟨Xc0, Xc1, Xc2, Xc3⟩ := X.out.cells
            have Y := GY
            clear GY
            obtain ⟨Yc0, Yc1, Yc2, Yc3⟩ := Y.out.cells
            have OPS := GOPS
            clear GOPS
            have Z := Lib.hid (show EBx w8 D y Az cz y2 yc2 y3 yc3 from ⟨QD, OPS.out, Y.out.2.2.1, Y.out.2.2.2.1, Y.out.2.2.2.2⟩)
            obtain ⟨Zc0, Zc1, Zc2, Zc3⟩ := Z.out.cells
            clear QD
            clear OPS
            clear Yc3 Yc2 Yc1 Yc0 Y
            obtain ⟨n, hn⟩ : ∃ n, entE y = n := ⟨_, rfl⟩
            have HN := Lib.hid hn
            clear hn
            have HCK := Lib.hid (check13_ok w8 y Az y2 y3 cz yc2 yc3 Z.out.2 (by have := HYL2.out.1; omega) (by have := HYL2.out.2; omega))
            rw [HN.out] at HCK
            go_wp2_with fail
            refine HCK.out.mono ?_
            rintro en w9 ⟨rfl, hb9⟩
            clear HCK
            have GS := Lib.hid (S.out.below hb9)
            have GN := Lib.hid (N.out.below hb9)
            have GRX := Lib.hid (RX.out.below hb9)
            have GX := Lib.hid (X.out.below hb9)
            have GZ := Lib.hid (Z.out.below hb9)
            have HB9 := Lib.hid (HB8.out.trans (hb9.mono HB8.out.size))
            clear HB8
            clear S N RX Xc0 Xc1 Xc2 Xc3 X Zc0 Zc1 Zc2 Zc3 Z hb9
            have S := GS
            clear GS
            have N := GN
            clear GN
            have RX := GRX
            clear GRX
            have X := GX
            clear GX
            obtain ⟨Xc0, Xc1, Xc2, Xc3⟩ := X.out.cells
            have Z := GZ
            clear GZ
            obtain ⟨Zc0, Zc1, Zc2, Zc3⟩ := Z.out.cells
            by_cases hz : n = 0
            · subst hz
              obtain ⟨hxy, hw⟩ := HDO.out.right (HYT.out.1 (by simp)) HN.out
              subst hw
              have HXY := Lib.hid hxy
              clear hxy
              have HSM := Lib.hid (entSame_is (w := w9) true ⟨fun _ => HXY.out, fun _ => rfl⟩ X.out.2 Z.out.2 (by rw [HXY.out]; have h1 := HYL2.out.1; have h2 := HYL2.out.2; omega))
              go_wp2_with fail
              refine HSM.out.mono ?_
              rintro en w10 ⟨rfl, hb10⟩
              clear HSM
              have GS := Lib.hid (S.out.below hb10)
              have GN := Lib.hid (N.out.below hb10)
              have GRX := Lib.hid (RX.out.below hb10)
              have GX := Lib.hid (X.out.below hb10)
              have GZ := Lib.hid (Z.out.below hb10)
              have HB10 := Lib.hid (HB9.out.trans (hb10.mono HB9.out.size))
              clear HB9
              clear S N RX Xc0 Xc1 Xc2 Xc3 X Zc0 Zc1 Zc2 Zc3 Z hb10
              have S := GS
              clear GS
              have N := GN
              clear GN
              have RX := GRX
              clear GRX
              have X := GX
              clear GX
              obtain ⟨Xc0, Xc1, Xc2, Xc3⟩ := X.out.cells
              have Z := GZ
              clear GZ
              obtain ⟨Zc0, Zc1, Zc2, Zc3⟩ := Z.out.cells
              go_wp2_with fail
              refine (awake13_ok w10 S.out N.out).mono ?_
              rintro en w11 ⟨rfl, hb11⟩
              have GS := Lib.hid (S.out.below hb11)
              have GN := Lib.hid (N.out.below hb11)
              have GRX := Lib.hid (RX.out.below hb11)
              have GX := Lib.hid (X.out.below hb11)
              have GZ := Lib.hid (Z.out.below hb11)
              have HB11 := Lib.hid (HB10.out.trans (hb11.mono HB10.out.size))
              clear HB10
              clear S N RX Xc0 Xc1 Xc2 Xc3 X Zc0 Zc1 Zc2 Zc3 Z hb11
              have S := GS
              clear GS
              have N := GN
              clear GN
              have RX := GRX
              clear GRX
              have X := GX
              clear GX
              obtain ⟨Xc0, Xc1, Xc2, Xc3⟩ := X.out.cells
              have Z := GZ
              clear GZ
              obtain ⟨Zc0, Zc1, Zc2, Zc3⟩ := Z.out.cells
              go_wp2_with fail
              go_ret
              exact ⟨rfl, HB11.out⟩
            · obtain ⟨hzx, hzw⟩ := HDO.out.wrong (HYT.out.1 (by simp)) (by rw [HN.out]; exact hz)
              rw [HN.out] at hzw
              have HZX := Lib.hid hzx
              subst hzw
              have hne : (why != 0) = true := by simpa using hz
              clear hzx hz
              go_wp2_with fail
              refine (noneE_ok w9 _ x _ _ _ X.out.2 (by rw [HZX.out]; simp)).mono ?_
              rintro en w10 ⟨rz, hrz, rfl, hb10⟩
              have Trz := Lib.hid (show Tells rz (NoneE x) from hrz)
              clear hrz
              have GS := Lib.hid (S.out.below hb10)
              have GN := Lib.hid (N.out.below hb10)
              have GRX := Lib.hid (RX.out.below hb10)
              have GX := Lib.hid (X.out.below hb10)
              have GZ := Lib.hid (Z.out.below hb10)
              have HB10 := Lib.hid (HB9.out.trans (hb10.mono HB9.out.size))
              clear HB9
              clear S N RX Xc0 Xc1 Xc2 Xc3 X Zc0 Zc1 Zc2 Zc3 Z hb10
              have S := GS
              clear GS
              have N := GN
              clear GN
              have RX := GRX
              clear GRX
              have X := GX
              clear GX
              obtain ⟨Xc0, Xc1, Xc2, Xc3⟩ := X.out.cells
              have Z := GZ
              clear GZ
              obtain ⟨Zc0, Zc1, Zc2, Zc3⟩ := Z.out.cells
              obtain rfl : rz = true := Trz.out.2 (by rw [HZX.out]; exact none_zero)
              go_wp2_with fail
              refine (awake13_ok w10 S.out N.out).mono ?_
              rintro en w11 ⟨rfl, hb11⟩
              have GS := Lib.hid (S.out.below hb11)
              have GN := Lib.hid (N.out.below hb11)
              have GRX := Lib.hid (RX.out.below hb11)
              have GX := Lib.hid (X.out.below hb11)
              have GZ := Lib.hid (Z.out.below hb11)
              have HB11 := Lib.hid (HB10.out.trans (hb11.mono HB10.out.size))
              clear HB10
              clear S N RX Xc0 Xc1 Xc2 Xc3 X Zc0 Zc1 Zc2 Zc3 Z hb11
              have S := GS
              clear GS
              have N := GN
              clear GN
              have RX := GRX
              clear GRX
              have X := GX
              clear GX
              obtain ⟨Xc0, Xc1, Xc2, Xc3⟩ := X.out.cells
              have Z := GZ
              clear GZ
              obtain ⟨Zc0, Zc1, Zc2, Zc3⟩ := Z.out.cells
              go_wp2_with fail
              go_ret
              exact ⟨rfl, HB11.out⟩
    · obtain ⟨hzx, hzw⟩ := HDO.out.no hno
      have HZX := Lib.hid hzx
      have hse : sealed = false := by cases sealed with | false => rfl | true => exact absurd (HSL.out rfl) (hno _)
      subst hse
      subst hzw
      have hce : (if xs.length < 4 then (11 : Int) else 12) ≠ 0 := by split <;> decide
      generalize (if xs.length < 4 then (11 : Int) else 12) = ce at hce HDO ⊢
      have hne : (ce != 0) = true := by simpa using hce
      clear hzx hce hno
      go_wp2_with fail
      refine (noneE_ok w4 _ x _ _ _ X.out.2 (by rw [HZX.out]; simp)).mono ?_
      rintro en w5 ⟨rz, hrz, rfl, hb5⟩
      have Trz := Lib.hid (show Tells rz (NoneE x) from hrz)
      clear hrz
      have GS := Lib.hid (S.out.below hb5)
      have GN := Lib.hid (N.out.below hb5)
      have GRX := Lib.hid (RX.out.below hb5)
      have GX := Lib.hid (X.out.below hb5)
      have HB5 := Lib.hid (HB4.out.trans (hb5.mono HB4.out.size))
      clear HB4
      clear S N RX Xc0 Xc1 Xc2 Xc3 X hb5
      have S := GS
      clear GS
      have N := GN
      clear GN
      have RX := GRX
      clear GRX
      have X := GX
      clear GX
      obtain ⟨Xc0, Xc1, Xc2, Xc3⟩ := X.out.cells
      obtain rfl : rz = true := Trz.out.2 (by rw [HZX.out]; exact none_zero)
      go_wp2_with fail
      refine (awake13_ok w5 S.out N.out).mono ?_
      rintro en w6 ⟨rfl, hb6⟩
      have GS := Lib.hid (S.out.below hb6)
      have GN := Lib.hid (N.out.below hb6)
      have GRX := Lib.hid (RX.out.below hb6)
      have GX := Lib.hid (X.out.below hb6)
      have HB6 := Lib.hid (HB5.out.trans (hb6.mono HB5.out.size))
      clear HB5
      clear S N RX Xc0 Xc1 Xc2 Xc3 X hb6
      have S := GS
      clear GS
      have N := GN
      clear GN
      have RX := GRX
      clear GRX
      have X := GX
      clear GX
      obtain ⟨Xc0, Xc1, Xc2, Xc3⟩ := X.out.cells
      go_wp2_with fail
      go_ret
      exact ⟨rfl, HB6.out⟩

end Go.Proofs.YtihjcfifakcpgaaGreatDoor
