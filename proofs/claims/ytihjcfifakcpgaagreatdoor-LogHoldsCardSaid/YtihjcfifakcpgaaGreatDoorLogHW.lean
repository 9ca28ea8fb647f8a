/- LogHolds, walked. -/
import Derived.Test.YtihjcfifakcpgaaGreatDoorLogH
namespace Go.Proofs.YtihjcfifakcpgaaGreatDoor
set_option maxRecDepth 100000
open Go.RowKit

theorem sum_small {ps : List (List UInt8)} (h : Few14P ps) : ps.length ≤ 1024 := by have := h.2.1; omega
set_option maxRecDepth 100000 in
set_option maxHeartbeats 4000000 in
theorem lholds_law (w0 : World) (v : Value) (ps : List (List UInt8)) (hr : RowsRd w0 (fun _ => True) v ps) (hs : ShTab w0) (ht : NibTab w0) :
    Calls Tryz.prog 8 #[v] w0 fun e w' => e = .returned (.bool true) ∧ Below w0.heap.size w0 w' := by
  obtain ⟨A, c, rfl, hc, hm, _⟩ := hr.at_
  unfold maxLen at hm
  by_cases hf : Few14P ps
  · have h40 := hf.2.1
    have HF := Lib.hid hf
    clear hf
    have S := Lib.hid (hs)
    have N := Lib.hid (ht)
    have R := Lib.hid (hr.bound)
    clear hs ht hr
    go_enter Tryz.func8, Tryz.ntmps8
    go_wp2_with fail
    refine (few_true w0 _ _ ps R.out HF.out).mono ?_
    rintro en w' ⟨rfl, rfl⟩
    go_wp2_with fail
    refine (log_new w0 _ _ ps R.out (fun k hk => hk.2) (by omega)).mono ?_
    rintro en w1 ⟨hb1, hnew⟩
    have GS := Lib.hid (S.out.below hb1)
    have GN := Lib.hid (N.out.below hb1)
    have GR := Lib.hid (R.out.below hb1)
    have HB1 := Lib.hid hb1
    clear S N R hb1
    have S := GS
    clear GS
    have N := GN
    clear GN
    have R := GR
    clear GR
    by_cases hall : ∀ p ∈ ps, p.length ≤ 8192
    · rw [if_pos hall] at hnew
      obtain ⟨b, rfl, hlog⟩ := hnew
      have HALL := Lib.hid hall
      clear hall
      have L := Lib.hid (hlog)
      clear hlog
      go_wp2_with fail
      go_loop [5] (fun i => ∃ k : Nat, k ≤ ps.length ∧ i = .int .i64 (k : Int)) (fun i => ps.length - (intOf i).toNat)
      case atStart => exact ⟨0, Nat.zero_le _, rfl⟩
      case round =>
        obtain ⟨k, hk, rfl⟩ := hrel
        by_cases hlt : k < ps.length
        · obtain ⟨p, hp⟩ : ∃ p, ps[k]? = some p := ⟨_, List.getElem?_eq_getElem hlt⟩
          have hpl := HALL.out p (List.mem_of_getElem? hp)
          obtain ⟨A0, c0, he, _, _, hat⟩ := R.out.at_
          injection he with e1 _ e3
          subst e1 e3
          obtain ⟨bb, oo, A2, c2, rfl, hcell, hrd2⟩ := hat k p hp
          clear hat
          have i1 : (0 : Int) ≤ (k : Int) := by omega
          have i2 : (k : Int) < (ps.length : Int) := by omega
          clear hrd2 hp
          go_wp2_with fail
          go_round
          case rel => exact ⟨k + 1, by omega, by go_num⟩
          case measure => simp [intOf]; omega
        · obtain rfl : k = ps.length := by omega
          go_wp2_with fail
          refine (loghas_ok w1 _ _ b ps _ L.out R.out (by omega) HALL.out).mono ?_
          rintro en w2 ⟨rfl, hb2⟩
          have GS := Lib.hid (S.out.below hb2)
          have GN := Lib.hid (N.out.below hb2)
          have GR := Lib.hid (R.out.below hb2)
          have GL := Lib.hid (L.out.below hb2)
          have HB2 := Lib.hid (HB1.out.trans (hb2.mono HB1.out.size))
          clear HB1
          clear S N R L hb2
          have S := GS
          clear GS
          have N := GN
          clear GN
          have R := GR
          clear GR
          have L := GL
          clear GL
          go_wp2_with fail
          refine (logbytes_ok w2 _ b ps L.out (by omega) HALL.out).mono ?_
          rintro en w3 ⟨AB, cB, rfl, hO, hb3⟩
          rw [List.length_map] at hO ⊢
          have RB0 := Lib.hid (Rd.of_own hO (F := fun _ => True) (fun _ _ => trivial))
          clear hO
          have GS := Lib.hid (S.out.below hb3)
          have GN := Lib.hid (N.out.below hb3)
          have GR := Lib.hid (R.out.below hb3)
          have GL := Lib.hid (L.out.below hb3)
          have HB3 := Lib.hid (HB2.out.trans (hb3.mono HB2.out.size))
          clear HB2
          clear S N R L hb3
          have S := GS
          clear GS
          have N := GN
          clear GN
          have R := GR
          clear GR
          have L := GL
          clear GL
          have RB := Lib.hid (RB0.out)
          clear RB0
          go_wp2_with fail
          refine (refBytes14_ok w3 _ _ ps R.out (by omega) HALL.out).mono ?_
          rintro en w4 ⟨AC, cC, rfl, hO, hb4⟩
          have RC0 := Lib.hid (Rd.of_own hO (F := fun _ => True) (fun _ _ => trivial))
          clear hO
          have GS := Lib.hid (S.out.below hb4)
          have GN := Lib.hid (N.out.below hb4)
          have GR := Lib.hid (R.out.below hb4)
          have GL := Lib.hid (L.out.below hb4)
          have GRB := Lib.hid (RB.out.below hb4)
          have HB4 := Lib.hid (HB3.out.trans (hb4.mono HB3.out.size))
          clear HB3
          clear S N R L RB hb4
          have S := GS
          clear GS
          have N := GN
          clear GN
          have R := GR
          clear GR
          have L := GL
          clear GL
          have RB := GRB
          clear GRB
          have RC := Lib.hid (RC0.out)
          clear RC0
          go_wp2_with fail
          refine (lawBytes_ok w4 _ _ _ _ _ _ RB.out RC.out).mono ?_
          rintro en w5 ⟨rq, hrq, rfl, hb5⟩
          have Trq := Lib.hid (show Tells rq (logB ps = logB ps) from hrq)
          clear hrq
          have GS := Lib.hid (S.out.below hb5)
          have GN := Lib.hid (N.out.below hb5)
          have GR := Lib.hid (R.out.below hb5)
          have GL := Lib.hid (L.out.below hb5)
          have GRB := Lib.hid (RB.out.below hb5)
          have GRC := Lib.hid (RC.out.below hb5)
          have HB5 := Lib.hid (HB4.out.trans (hb5.mono HB4.out.size))
          clear HB4
          clear S N R L RB RC hb5
          have S := GS
          clear GS
          have N := GN
          clear GN
          have R := GR
          clear GR
          have L := GL
          clear GL
          have RB := GRB
          clear GRB
          have RC := GRC
          clear GRC
          obtain rfl : rq = true := Trq.out.2 rfl
          clear RB
          clear RC
          go_wp2_with fail
          go_loopw [6] (fun i wr => ∃ k : Nat, k ≤ ps.length ∧ i = .int .i64 (k : Int) ∧ Below w5.heap.size w5 wr) (fun i _ => ps.length - (intOf i).toNat)
          case atStart => exact ⟨0, Nat.zero_le _, rfl, Below.refl _ _⟩
          case round =>
            obtain ⟨k, hk, rfl, hbl⟩ := hrel
            obtain ⟨w6, hw6⟩ : ∃ x, wr = x := ⟨_, rfl⟩
            subst hw6
            have HBL := Lib.hid hbl
            by_cases hlt : k < ps.length
            · obtain ⟨p, hp⟩ : ∃ p, ps[k]? = some p := ⟨_, List.getElem?_eq_getElem hlt⟩
              have hpl := HALL.out p (List.mem_of_getElem? hp)
              have R1 := Lib.hid (R.out.below HBL.out)
              obtain ⟨A0, c0, he, _, _, hat⟩ := R1.out.at_
              injection he with e1 _ e3
              subst e1 e3
              obtain ⟨bb, oo, A2, c2, rfl, hcell, hrd2⟩ := hat k p hp
              clear hat
              have i1 : (0 : Int) ≤ (k : Int) := by omega
              have i2 : (k : Int) < (ps.length : Int) := by omega
              have HE := Lib.hid (entry_ok wr _ b ps (L.out.below HBL.out) k p hp hpl (S.out.below HBL.out) (N.out.below HBL.out))
              have HRD := Lib.hid hrd2
              clear hrd2 hp hbl
              go_wp2_with fail
              refine HE.out.mono ?_
              rintro en wa ⟨hba, hqa⟩
              obtain ⟨ia, Aa, na, ca, Ab, nb, cb, Ac, nc, cc, ea, rfl⟩ := hqa.shape
              have HQA := Lib.hid hqa
              have hca := (hba.cell (p := ⟨bb, oo + k, none⟩) (World.block_lt_of_cell? _ _ hcell)).trans hcell
              have HBA := Lib.hid hba
              clear hqa hba hcell HE
              have hbx := one_box wa (.cells #[.int .i64 ia, .slice Aa na ca, .slice Ab nb cb, .slice Ac nc cc] 26)
              have kx := heap_alloc_new wa (.cells #[.int .i64 ia, .slice Aa na ca, .slice Ab nb cb, .slice Ac nc cc] 26)
              have hcx := (hbx.cell (p := ⟨bb, oo + k, none⟩) (World.block_lt_of_cell? _ _ hca)).trans hca
              have HBX := Lib.hid (HBA.out.trans (hbx.mono HBA.out.size))
              have HBX1 := Lib.hid hbx
              clear hbx hca
              go_upto_region 15 with fail
              generalize wa.alloc (.cells #[.int .i64 ia, .slice Aa na ca, .slice Ab nb cb, .slice Ac nc cc] 26) = wx at kx hcx HBX HBX1 ⊢
              obtain ⟨X, hX⟩ : ∃ X, wa.heap.size = X := ⟨_, rfl⟩
              rw [hX] at kx ⊢
              clear hX
              have HT := Lib.hid (HBL.out.trans (HBX.out.mono HBL.out.size))
              have HD := Lib.hid (decode_ok wx _ _ p (N.out.below HT.out) (S.out.below HT.out) (HRD.out.below HBX.out) (by omega))
              go_wp2_with fail
              refine HD.out.mono ?_
              rintro en wd hd
              obtain ⟨hbd, hqd⟩ := hd.q
              have ky := (Only.of_below hbd (fun _ => False)).heap kx (fun h => h)
              have HBD := Lib.hid hbd
              clear hd HD hcx kx
              rcases HQA.out.two hqd with ⟨x, vo, va, vc, uo, ua, uc, hxg, hea, hed, hra, hrd⟩ | ⟨n, hn, hea, hed⟩
              · obtain ⟨A11, c11, A12, c12, A13, c13, rfl, rfl, rfl, _, _, _⟩ := hra.open_
                obtain ⟨A21, c21, A22, c22, A23, c23, rfl, rfl, rfl, _, _, _⟩ := hrd.open_
                simp only [entV, Ending.returned.injEq, Value.tuple.injEq, Array.mk.injEq, List.cons.injEq, Value.agg.injEq, Value.int.injEq, Value.slice.injEq, true_and, and_true] at hea
                obtain ⟨⟨rfl, ⟨rfl, rfl, rfl⟩, ⟨rfl, rfl, rfl⟩, ⟨rfl, rfl, rfl⟩⟩, rfl⟩ := hea
                subst hed
                have hra2 := hra.below (HBX1.out.trans (HBD.out.mono HBX1.out.size))
                have HG := Lib.hid (And.intro hxg (And.intro hra2 hrd))
                clear hra hrd hxg hra2 hqd HQA
                unfold entV
                have hby := one_box wd (.cells #[.int .i64 x.id, .slice A21 x.ops.length c21, .slice A22 x.args.length c22, .slice A23 x.cls.length c23] 26)
                have kz := heap_alloc_new wd (.cells #[.int .i64 x.id, .slice A21 x.ops.length c21, .slice A22 x.args.length c22, .slice A23 x.cls.length c23] 26)
                have kyy := (Only.of_below hby (fun _ => False)).heap ky (fun h => h)
                have HBY := Lib.hid hby
                clear hby ky
                go_upto_region 16 with fail
                generalize wd.alloc (.cells #[.int .i64 x.id, .slice A21 x.ops.length c21, .slice A22 x.args.length c22, .slice A23 x.cls.length c23] 26) = wy at kz kyy HBY ⊢
                obtain ⟨Y, hY⟩ : ∃ Y, wd.heap.size = Y := ⟨_, rfl⟩
                rw [hY] at kz ⊢
                clear hY
                obtain ⟨⟨a0, a1, a2, a3⟩, _⟩ := blk4 kyy
                obtain ⟨⟨b0, b1, b2, b3⟩, _⟩ := blk4 kz
                have HES := Lib.hid (entSame_is (w := wy) true (.yes rfl) (HG.out.2.1.below HBY.out) (HG.out.2.2.below HBY.out) HG.out.1.small)
                unfold entV at HES
                go_wp2_with fail
                refine HES.out.mono ?_
                rintro en we ⟨rfl, hbe⟩
                have HFIN := Lib.hid (HT.out.trans (((HBD.out.trans (HBY.out.mono HBD.out.size)).trans (hbe.mono (Nat.le_trans HBD.out.size HBY.out.size))).mono HT.out.size))
                clear hbe kz kyy a0 a1 a2 a3 b0 b1 b2 b3
                go_wp2_with fail
                go_roundw
                case rel => exact ⟨k + 1, by omega, by go_num, HFIN.out⟩
                case measure => simp [intOf]; omega
              · unfold zeroE at hea hed
                simp only [Ending.returned.injEq, Value.tuple.injEq, Array.mk.injEq, List.cons.injEq, Value.agg.injEq, Value.int.injEq, Value.slice.injEq, true_and, and_true] at hea
                obtain ⟨⟨rfl, ⟨rfl, rfl, rfl⟩, ⟨rfl, rfl, rfl⟩, ⟨rfl, rfl, rfl⟩⟩, rfl⟩ := hea
                subst hed
                clear hqd HQA hn
                have hby := one_box wd (.cells #[.int .i64 0, .slice none 0 0, .slice none 0 0, .slice none 0 0] 26)
                have kz := heap_alloc_new wd (.cells #[.int .i64 0, .slice none 0 0, .slice none 0 0, .slice none 0 0] 26)
                have kyy := (Only.of_below hby (fun _ => False)).heap ky (fun h => h)
                have HBY := Lib.hid hby
                clear hby ky
                go_upto_region 16 with fail
                generalize wd.alloc (.cells #[.int .i64 0, .slice none 0 0, .slice none 0 0, .slice none 0 0] 26) = wy at kz kyy HBY ⊢
                obtain ⟨Y, hY⟩ : ∃ Y, wd.heap.size = Y := ⟨_, rfl⟩
                rw [hY] at kz ⊢
                clear hY
                obtain ⟨⟨a0, a1, a2, a3⟩, _⟩ := blk4 kyy
                obtain ⟨⟨b0, b1, b2, b3⟩, _⟩ := blk4 kz
                have HES := Lib.hid (entSame_is (w := wy) (a := ⟨0, [], [], []⟩) (b := ⟨0, [], [], []⟩) true (.yes rfl) (ent_zero wy (fun _ => True)) (ent_zero wy (fun _ => True)) (by simp))
                unfold entV at HES
                go_wp2_with fail
                refine HES.out.mono ?_
                rintro en we ⟨rfl, hbe⟩
                have HFIN := Lib.hid (HT.out.trans (((HBD.out.trans (HBY.out.mono HBD.out.size)).trans (hbe.mono (Nat.le_trans HBD.out.size HBY.out.size))).mono HT.out.size))
                clear hbe kz kyy a0 a1 a2 a3 b0 b1 b2 b3
                go_wp2_with fail
                go_roundw
                case rel => exact ⟨k + 1, by omega, by go_num, HFIN.out⟩
                case measure => simp [intOf]; omega
            · obtain rfl : k = ps.length := by omega
              have HEO := Lib.hid (entry_out wr _ b ps (L.out.below HBL.out) (ps.length : Int) (.inr (by omega)))
              have HT := Lib.hid (HB5.out.trans (HBL.out.mono HB5.out.size))
              clear hbl
              go_wp2_with fail
              refine HEO.out.mono ?_
              rintro en wa ⟨rfl, hba⟩
              have hba2 := hba.alloc hba.size (.cells #[.int .i64 0, .slice none 0 0, .slice none 0 0, .slice none 0 0] 26)
              have HT2 := Lib.hid (HT.out.trans (hba2.mono HT.out.size))
              clear hba hba2 HEO
              unfold zeroE
              go_wp2_with fail
              refine (awake14_ok _).mono ?_
              rintro en wb ⟨rfl, hbb⟩
              have HT3 := Lib.hid (HT2.out.trans (hbb.mono HT2.out.size))
              clear hbb
              go_wp2_with fail
              go_ret
              exact ⟨rfl, HT3.out⟩
    · rw [if_neg hall] at hnew
      subst hnew
      have HALL := Lib.hid hall
      clear hall
      go_wp2_with fail
      go_loop [5] (fun i => ∃ k : Nat, k ≤ ps.length ∧ i = .int .i64 (k : Int) ∧ ∀ p ∈ ps.take k, p.length ≤ 8192) (fun i => ps.length - (intOf i).toNat)
      case atStart => exact ⟨0, Nat.zero_le _, rfl, by simp⟩
      case round =>
        obtain ⟨k, hk, rfl, hal⟩ := hrel
        by_cases hlt : k < ps.length
        · obtain ⟨p, hp⟩ : ∃ p, ps[k]? = some p := ⟨_, List.getElem?_eq_getElem hlt⟩
          obtain ⟨A0, c0, he, _, _, hat⟩ := R.out.at_
          injection he with e1 _ e3
          subst e1 e3
          obtain ⟨bb, oo, A2, c2, rfl, hcell, hrd2⟩ := hat k p hp
          clear hat
          have hpm := hrd2.length_le
          rw [List.length_map] at hpm
          unfold maxLen at hpm
          have i1 : (0 : Int) ≤ (k : Int) := by omega
          have i2 : (k : Int) < (ps.length : Int) := by omega
          have HP := Lib.hid (And.intro hp hal)
          clear hrd2 hp hal
          by_cases hpl : p.length ≤ 8192
          · go_wp2_with fail
            go_round
            case rel =>
              refine ⟨k + 1, by omega, by go_num, ?_⟩
              intro q hq
              rw [List.take_add_one, HP.out.1] at hq
              rcases List.mem_append.1 hq with hq | hq
              · exact HP.out.2 q hq
              · simp at hq; subst hq; exact hpl
            case measure => simp [intOf]; omega
          · go_wp2_with fail
            refine (awake14_ok w1).mono ?_
            rintro en w2 ⟨rfl, hb2⟩
            have GS := Lib.hid (S.out.below hb2)
            have GN := Lib.hid (N.out.below hb2)
            have GR := Lib.hid (R.out.below hb2)
            have HB2 := Lib.hid (HB1.out.trans (hb2.mono HB1.out.size))
            clear HB1
            clear S N R hb2
            have S := GS
            clear GS
            have N := GN
            clear GN
            have R := GR
            clear GR
            go_wp2_with fail
            go_ret
            exact ⟨rfl, HB2.out⟩
        · have hkl : k = ps.length := by omega
          subst hkl
          rw [List.take_length] at hal
          exact absurd hal HALL.out
  · have HF := Lib.hid hf
    have HR := Lib.hid hr
    clear hf hr hs ht
    go_enter Tryz.func8, Tryz.ntmps8
    go_wp2_with fail
    refine (few_false w0 _ _ ps HR.out HF.out).mono ?_
    rintro en w' ⟨rfl, rfl⟩
    go_wp2_with fail
    refine (awake14_ok w0).mono ?_
    rintro en w5 ⟨rfl, hb5⟩
    go_wp2_with fail
    go_ret
    exact ⟨rfl, hb5⟩

end Go.Proofs.YtihjcfifakcpgaaGreatDoor
