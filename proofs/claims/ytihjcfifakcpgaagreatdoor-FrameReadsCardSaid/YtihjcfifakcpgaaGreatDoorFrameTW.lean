/- FrameTurned, walked: bytes of an entry one of which is turned are no entry's. -/
import Derived.Test.YtihjcfifakcpgaaGreatDoorFrameHA
namespace Go.Proofs.YtihjcfifakcpgaaGreatDoor
set_option maxRecDepth 100000
open Go.RowKit

theorem turn_own {w : World} {base n c k : Nat} {A : Option Addr} {zs : List UInt8} (hl : zs.length = n) (hj : k < n) (hown : w.ownsRow base 5 1 (.slice A n c) n (zs.map B8)) :
    ∃ g x, A = some ⟨g, 0, none⟩ ∧ base ≤ g ∧ zs[k]? = some x ∧ w.cell? ⟨g, k, none⟩ = some (.int .u8 ((x : UInt8).toNat : Int)) ∧ w.frozen? ⟨g, k, none⟩ = false ∧
      ∀ y, (w.setCell ⟨g, k, none⟩ (B8 y)).ownsRow base 5 1 (.slice A n c) n ((zs.set k y).map B8) := by
  obtain ⟨g, cap, hv, hg, _⟩ := hown.form (by omega)
  injection hv with e1 _ e3
  subst e1 e3
  have hx : (zs.map B8)[k]? = some (B8 (zs[k]'(by omega))) := by simp [hl, hj]
  refine ⟨g, zs[k]'(by omega), rfl, hg, by simp [hl, hj], ?_, hown.frozenAt k, ?_⟩
  · rw [hown.cellAt k (by omega), hx]; rfl
  · intro y
    have hst := hown.stored k (B8 y)
    rw [List.map_set]
    exact hst.1
theorem dec_not {xs : List UInt8} {w w' : World} {en : Ending} (hd : DecP xs w en w') (hn : ∀ ys, xs ≠ sealB ys) : Below w.heap.size w w' ∧ ∃ n : Int, n ≠ 0 ∧ en = .returned (.tuple #[zeroE, .int .i64 n]) := by
  obtain ⟨hb, hd⟩ := hd
  refine ⟨hb, ?_⟩
  rcases hd with ⟨ys, x, vo, va, vc, hs, _⟩ | ⟨ys, x, hs, _⟩ | ⟨ys, hs, _⟩ | ⟨_, he⟩
  · exact absurd hs (hn ys)
  · exact absurd hs (hn ys)
  · exact absurd hs (hn ys)
  · exact ⟨_, by split <;> decide, he⟩
theorem turn_byte (x : UInt8) (n : Int) (h0 : 1 ≤ n) (h1 : n ≤ 255) : UInt8.ofNat ((x.toNat + n.toNat) % 256) ≠ x ∧ .int .u8 (((x.toNat : Int) + n) % 256) = B8 (UInt8.ofNat ((x.toNat + n.toNat) % 256)) := by
  have hx := x.toNat_lt
  have e : (UInt8.ofNat ((x.toNat + n.toNat) % 256)).toNat = (x.toNat + n.toNat) % 256 := by
    rw [UInt8.toNat_ofNat']
    omega
  refine ⟨fun h => ?_, ?_⟩
  · have := congrArg UInt8.toNat h
    rw [e] at this
    omega
  · unfold B8
    rw [e]
    congr 1
    omega

set_option maxRecDepth 100000 in
set_option maxHeartbeats 4000000 in
theorem turned_ok (w0 : World) (e : FE) (vo va vc : Value) (at_ by_ : Int) (h : EntRd w0 (fun _ => True) e vo va vc) (ha : I64f at_) (hby : I64f by_) (hs : ShTab w0) (ht : NibTab w0) :
    Calls Tryz.prog 4 #[entV e vo va vc, .int .i64 at_, .int .i64 by_] w0 fun e w' => e = .returned (.bool true) ∧ Below w0.heap.size w0 w' := by
  obtain ⟨A1, c1, A2, c2, A3, c3, rfl, rfl, rfl, hm1, hm2, hm3⟩ := h.open_
  unfold maxLen at hm1 hm2 hm3
  unfold I64f at ha hby
  unfold entV
  have S0 := Lib.hid hs
  have N0 := Lib.hid ht
  have S := Lib.hid (hs)
  have N := Lib.hid (ht)
  have E := Lib.hid (h)
  clear h hs ht
  go_enter Tryz.func4, Tryz.ntmps4
  go_wp2_with fail
  have hbb0 := one_box w0 (.cells #[.int .i64 e.id, .slice A1 e.ops.length c1, .slice A2 e.args.length c2, .slice A3 e.cls.length c3] 26)
  have QB := heap_alloc_new w0 (.cells #[.int .i64 e.id, .slice A1 e.ops.length c1, .slice A2 e.args.length c2, .slice A3 e.cls.length c3] 26)
  generalize w0.alloc (.cells #[.int .i64 e.id, .slice A1 e.ops.length c1, .slice A2 e.args.length c2, .slice A3 e.cls.length c3] 26) = w1 at hbb0 QB ⊢
  obtain ⟨B, eB⟩ : ∃ B, w0.heap.size = B := ⟨_, rfl⟩
  rw [eB] at QB ⊢
  have EB := Lib.hid eB
  clear eB
  have GS := Lib.hid (S.out.below hbb0)
  have GN := Lib.hid (N.out.below hbb0)
  have GE := Lib.hid (E.out.below hbb0)
  have HB1 := Lib.hid hbb0
  clear S N E hbb0
  have S := GS
  clear GS
  have N := GN
  clear GN
  have E := GE
  clear GE
  have X := Lib.hid (show EBx w1 B e A1 c1 A2 c2 A3 c3 from ⟨QB, E.out⟩)
  obtain ⟨Xc0, Xc1, Xc2, Xc3⟩ := X.out.cells
  clear QB
  clear E
  refine (fewE_ok w1 _ e _ _ _ X.out.2).mono ?_
  rintro en w2 ⟨r, hr, rfl, hb2⟩
  have Tr := Lib.hid (show Tells r (FewE e) from hr)
  clear hr
  have GS := Lib.hid (S.out.below hb2)
  have GN := Lib.hid (N.out.below hb2)
  have GX := Lib.hid (X.out.below hb2)
  have HB2 := Lib.hid (HB1.out.trans (hb2.mono HB1.out.size))
  clear HB1
  clear S N Xc0 Xc1 Xc2 Xc3 X hb2
  have S := GS
  clear GS
  have N := GN
  clear GN
  have X := GX
  clear GX
  obtain ⟨Xc0, Xc1, Xc2, Xc3⟩ := X.out.cells
  cases r with
  | false =>
    go_wp2_with fail
    refine (awake13_ok w2 S.out N.out).mono ?_
    rintro en w3 ⟨rfl, hb3⟩
    have GS := Lib.hid (S.out.below hb3)
    have GN := Lib.hid (N.out.below hb3)
    have GX := Lib.hid (X.out.below hb3)
    have HB3 := Lib.hid (HB2.out.trans (hb3.mono HB2.out.size))
    clear HB2
    clear S N Xc0 Xc1 Xc2 Xc3 X hb3
    have S := GS
    clear GS
    have N := GN
    clear GN
    have X := GX
    clear GX
    obtain ⟨Xc0, Xc1, Xc2, Xc3⟩ := X.out.cells
    go_wp2_with fail
    go_ret
    exact ⟨rfl, HB3.out⟩
  | true =>
    by_cases b1 : by_ < 1
    · go_wp2_with fail
      refine (awake13_ok w2 S.out N.out).mono ?_
      rintro en w3 ⟨rfl, hb3⟩
      have GS := Lib.hid (S.out.below hb3)
      have GN := Lib.hid (N.out.below hb3)
      have GX := Lib.hid (X.out.below hb3)
      have HB3 := Lib.hid (HB2.out.trans (hb3.mono HB2.out.size))
      clear HB2
      clear S N Xc0 Xc1 Xc2 Xc3 X hb3
      have S := GS
      clear GS
      have N := GN
      clear GN
      have X := GX
      clear GX
      obtain ⟨Xc0, Xc1, Xc2, Xc3⟩ := X.out.cells
      go_wp2_with fail
      go_ret
      exact ⟨rfl, HB3.out⟩
    · by_cases b2 : 255 < by_
      · go_wp2_with fail
        refine (awake13_ok w2 S.out N.out).mono ?_
        rintro en w3 ⟨rfl, hb3⟩
        have GS := Lib.hid (S.out.below hb3)
        have GN := Lib.hid (N.out.below hb3)
        have GX := Lib.hid (X.out.below hb3)
        have HB3 := Lib.hid (HB2.out.trans (hb3.mono HB2.out.size))
        clear HB2
        clear S N Xc0 Xc1 Xc2 Xc3 X hb3
        have S := GS
        clear GS
        have N := GN
        clear GN
        have X := GX
        clear GX
        obtain ⟨Xc0, Xc1, Xc2, Xc3⟩ := X.out.cells
        go_wp2_with fail
        go_ret
        exact ⟨rfl, HB3.out⟩
      · have HBY := Lib.hid (And.intro b1 b2)
        have bq1 : ¬ by_ < 1 := b1
        go_wp2_with fail
        refine (encode_ok w2 _ e _ _ _ X.out.2 S.out N.out (by have := Tr.out.pos.2.2.2; omega)).mono ?_
        rintro en w3 ⟨hb3, hep⟩
        have HZ2 := Lib.hid HB2.out.size
        have GS := Lib.hid (S.out.below hb3)
        have GN := Lib.hid (N.out.below hb3)
        have GX := Lib.hid (X.out.below hb3)
        have HB3 := Lib.hid (HB2.out.trans (hb3.mono HB2.out.size))
        clear HB2
        clear S N Xc0 Xc1 Xc2 Xc3 X hb3
        have S := GS
        clear GS
        have N := GN
        clear GN
        have X := GX
        clear GX
        obtain ⟨Xc0, Xc1, Xc2, Xc3⟩ := X.out.cells
        rcases hep with ⟨hz, rfl⟩ | ⟨hz, A, c, rfl, hO⟩
        · generalize entE e = ee at hz ⊢
          have hne : (ee != 0) = true := by simpa using hz
          go_wp2_with fail
          refine (awake13_ok w3 S.out N.out).mono ?_
          rintro en w4 ⟨rfl, hb4⟩
          have GS := Lib.hid (S.out.below hb4)
          have GN := Lib.hid (N.out.below hb4)
          have GX := Lib.hid (X.out.below hb4)
          have HB4 := Lib.hid (HB3.out.trans (hb4.mono HB3.out.size))
          clear HB3
          clear S N Xc0 Xc1 Xc2 Xc3 X hb4
          have S := GS
          clear GS
          have N := GN
          clear GN
          have X := GX
          clear GX
          obtain ⟨Xc0, Xc1, Xc2, Xc3⟩ := X.out.cells
          go_wp2_with fail
          go_ret
          exact ⟨rfl, HB4.out⟩
        · have HG := Lib.hid (entE_zero hz)
          clear hz
          obtain ⟨n, hn⟩ : ∃ n, (sealB (inside e)).length = n := ⟨_, rfl⟩
          rw [hn] at hO ⊢
          have hcm := (Rd.of_own hO (F := fun _ => True) (fun _ _ => trivial)).length_le
          rw [List.length_map, hn] at hcm
          unfold maxLen at hcm
          have HO := Lib.hid (And.intro hn hO)
          clear hO hn
          by_cases a1 : at_ < 0
          · go_wp2_with fail
            refine (awake13_ok w3 S.out N.out).mono ?_
            rintro en w4 ⟨rfl, hb4⟩
            have GS := Lib.hid (S.out.below hb4)
            have GN := Lib.hid (N.out.below hb4)
            have GX := Lib.hid (X.out.below hb4)
            have HB4 := Lib.hid (HB3.out.trans (hb4.mono HB3.out.size))
            clear HB3
            clear S N Xc0 Xc1 Xc2 Xc3 X hb4
            have S := GS
            clear GS
            have N := GN
            clear GN
            have X := GX
            clear GX
            obtain ⟨Xc0, Xc1, Xc2, Xc3⟩ := X.out.cells
            go_wp2_with fail
            go_ret
            exact ⟨rfl, HB4.out⟩
          · obtain ⟨k, rfl⟩ : ∃ k : Nat, at_ = (k : Int) := ⟨at_.toNat, by omega⟩
            by_cases a2 : k < n
            · obtain ⟨g, x, rfl, hg, hx, cx, fx, hown⟩ := turn_own HO.out.1 a2 HO.out.2
              have hx256 : x.toNat < 256 := x.toNat_lt
              obtain ⟨hyne, hyv⟩ := turn_byte x by_ (by have := HBY.out.1; omega) (by have := HBY.out.2; omega)
              generalize UInt8.ofNat ((x.toNat + by_.toNat) % 256) = y at hyne hyv
              have HY := Lib.hid (And.intro (And.intro hyne hyv) (And.intro hx (And.intro hg hown)))
              clear hyne hyv hx hg hown
              have i1 : (0 : Int) ≤ (k : Int) := by omega
              have i2 : (k : Int) < (n : Int) := by omega
              go_upto_region 7 with fail
              rw [HY.out.1.2]
              have hown := HY.out.2.2.2 y
              have hbel := HB3.out.setCell (p := ⟨g, k, none⟩) (Nat.le_trans HZ2.out HY.out.2.2.1) (B8 y)
              clear Xc0 Xc1 Xc2 Xc3 X S N
              generalize w3.setCell ⟨g, k, none⟩ (B8 y) = w4 at hown hbel ⊢
              have HD := Lib.hid (decode_ok w4 (fun _ => True) _ ((sealB (inside e)).set k y) (N0.out.below hbel) (S0.out.below hbel) (Rd.of_own hown (fun _ _ => trivial)) (by rw [List.length_set, seal_len]; have := inside_len HG.out; omega))
              have HNS := Lib.hid (turned_ne HY.out.2.1 HY.out.1.1)
              have HB4 := Lib.hid hbel
              clear hown hbel cx fx
              go_wp2_with fail
              refine HD.out.mono ?_
              rintro en w5 hd
              obtain ⟨hb5, n5, hn5, rfl⟩ := dec_not hd HNS.out
              have hne5 : (n5 != 0) = true := by simpa using hn5
              have HB5 := Lib.hid (HB4.out.trans (hb5.mono HB4.out.size))
              clear hd HD hb5 hn5
              have S := Lib.hid (S0.out.below HB5.out)
              have N := Lib.hid (N0.out.below HB5.out)
              unfold zeroE
              go_wp2_with fail
              have hbb5 := one_box w5 (.cells #[.int .i64 0, .slice none 0 0, .slice none 0 0, .slice none 0 0] 26)
              have QB6 := heap_alloc_new w5 (.cells #[.int .i64 0, .slice none 0 0, .slice none 0 0, .slice none 0 0] 26)
              generalize w5.alloc (.cells #[.int .i64 0, .slice none 0 0, .slice none 0 0, .slice none 0 0] 26) = w6 at hbb5 QB6 ⊢
              obtain ⟨B6, eB6⟩ : ∃ B, w5.heap.size = B := ⟨_, rfl⟩
              rw [eB6] at QB6 ⊢
              have EB6 := Lib.hid eB6
              clear eB6
              have GS := Lib.hid (S.out.below hbb5)
              have GN := Lib.hid (N.out.below hbb5)
              have HB6 := Lib.hid (HB5.out.trans (hbb5.mono HB5.out.size))
              clear HB5
              clear S N hbb5
              have S := GS
              clear GS
              have N := GN
              clear GN
              clear QB6
              refine (noneE_ok w6 (fun _ => True) ⟨0, [], [], []⟩ _ _ _ (ent_zero _ _) (by simp)).mono ?_
              rintro en w7 ⟨rz, hrz, rfl, hb7⟩
              have Trz := Lib.hid (show Tells rz (NoneE ⟨0, [], [], []⟩) from hrz)
              clear hrz
              have GS := Lib.hid (S.out.below hb7)
              have GN := Lib.hid (N.out.below hb7)
              have HB7 := Lib.hid (HB6.out.trans (hb7.mono HB6.out.size))
              clear HB6
              clear S N hb7
              have S := GS
              clear GS
              have N := GN
              clear GN
              obtain rfl : rz = true := Trz.out.2 none_zero
              go_wp2_with fail
              refine (awake13_ok w7 S.out N.out).mono ?_
              rintro en w8 ⟨rfl, hb8⟩
              have GS := Lib.hid (S.out.below hb8)
              have GN := Lib.hid (N.out.below hb8)
              have HB8 := Lib.hid (HB7.out.trans (hb8.mono HB7.out.size))
              clear HB7
              clear S N hb8
              have S := GS
              clear GS
              have N := GN
              clear GN
              go_wp2_with fail
              go_ret
              exact ⟨rfl, HB8.out⟩
            · go_wp2_with fail
              refine (awake13_ok w3 S.out N.out).mono ?_
              rintro en w4 ⟨rfl, hb4⟩
              have GS := Lib.hid (S.out.below hb4)
              have GN := Lib.hid (N.out.below hb4)
              have GX := Lib.hid (X.out.below hb4)
              have HB4 := Lib.hid (HB3.out.trans (hb4.mono HB3.out.size))
              clear HB3
              clear S N Xc0 Xc1 Xc2 Xc3 X hb4
              have S := GS
              clear GS
              have N := GN
              clear GN
              have X := GX
              clear GX
              obtain ⟨Xc0, Xc1, Xc2, Xc3⟩ := X.out.cells
              go_wp2_with fail
              go_ret
              exact ⟨rfl, HB4.out⟩

end Go.Proofs.YtihjcfifakcpgaaGreatDoor
