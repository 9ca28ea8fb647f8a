/- The document's answer's ops: ref11.Check. -/
import Derived.Test.YtihjcfifakcpgaaGreatDoorRefO
namespace Go.Proofs.YtihjcfifakcpgaaGreatDoor
set_option maxRecDepth 100000
open Go.RowKit

/-- The ends of those ahead of a place that hold another one, in order. -/
def opK (l : List POp) (i k : Nat) : List Int := ((l.take k).zipIdx.filter (fun x => x.1.holds && decide ((i : Int) < endOf x.2 x.1))).map (fun x => endOf x.2 x.1)
theorem opK_zero (l : List POp) (i : Nat) : opK l i 0 = [] := by simp [opK]
theorem opK_succ {l : List POp} {i k : Nat} {x : POp} (h : l[k]? = some x) : opK l i (k + 1) = opK l i k ++ (if x.holds && decide ((i : Int) < endOf k x) then [endOf k x] else []) := by
  have hk : k < l.length := (List.getElem?_eq_some_iff.1 h).1
  unfold opK
  rw [List.take_add_one, h, List.zipIdx_append, List.filter_append, List.map_append]
  congr 1
  have hl : (l.take k).length = k := by rw [List.length_take]; omega
  simp only [Option.toList, List.zipIdx_cons, List.zipIdx_nil, hl, Nat.zero_add]
  cases hc : (x.holds && decide ((i : Int) < endOf k x)) with
  | true => simp [List.filter, hc]
  | false => simp [List.filter, hc]
theorem opK_all (l : List POp) (i : Nat) : opK l i i = opens l i := rfl
theorem opK_len (l : List POp) (i k : Nat) : (opK l i k).length ≤ k := by
  unfold opK
  rw [List.length_map]
  refine Nat.le_trans (List.length_filter_le _ _) ?_
  simp
  omega

set_option maxRecDepth 100000 in
set_option maxHeartbeats 4000000 in
theorem refCheck11_ok (w : World) (F : Nat → Prop) (v : Value) (l : List POp) (h : OpRd w F v l) :
    Calls Tryz.prog 67 #[v] w fun e w' => e = .returned (.int .i64 (opsE l)) ∧ Below w.heap.size w w' := by
  obtain ⟨A, c, rfl, hlc, hcm⟩ := h.slice
  unfold maxLen at hcm
  by_cases h64 : 64 < l.length
  · have HE := Lib.hid (show opsE l = 23 by unfold opsE; rw [if_pos h64])
    have h64' : (64 : Int) < (l.length : Int) := by omega
    clear h
    go_enter Tryz.func67, Tryz.ntmps67
    go_wp2_with fail
    go_ret
    exact ⟨by rw [HE.out]; rfl, Below.refl _ _⟩
  have hE : opsE l = if l.all formedB = false then 11 else if l.all rangedB = false then 10 else if nestedB l = false then 11 else 0 := by unfold opsE; rw [if_neg h64]
  have h64' : ¬ ((64 : Int) < (l.length : Int)) := by omega
  have H := Lib.hid (And.intro h hE)
  clear h hE
  go_enter Tryz.func67, Tryz.ntmps67
  go_wp2_with fail
  go_loopw [3] (fun i wr => ∃ k : Nat, k ≤ l.length ∧ i = .int .i64 (k : Int) ∧ SeenR w l formedB k wr) (fun i _ => l.length - (intOf i).toNat)
  case atStart => exact ⟨0, Nat.zero_le _, rfl, rfl, Below.refl _ _⟩
  case round =>
    obtain ⟨k, hk, rfl, hal, hbl⟩ := hrel
    by_cases hlt : k < l.length
    · obtain ⟨x, hx⟩ : ∃ x, l[k]? = some x := ⟨_, List.getElem?_eq_getElem hlt⟩
      obtain ⟨b, o, rfl, hFb, c0, c1, c2, c3, c4⟩ := H.out.1.at_ hx
      have hbw := World.block_lt_of_cell? _ _ c0
      have d0 := (hbl.cell (p := ⟨b, o + k * 5, none⟩) hbw).trans c0
      have d1 := (hbl.cell (p := ⟨b, o + k * 5 + 1, none⟩) hbw).trans c1
      have d2 := (hbl.cell (p := ⟨b, o + k * 5 + 2, none⟩) hbw).trans c2
      have d3 := (hbl.cell (p := ⟨b, o + k * 5 + 3, none⟩) hbw).trans c3
      have d4 := (hbl.cell (p := ⟨b, o + k * 5 + 4, none⟩) hbw).trans c4
      obtain ⟨D, A', B', C', N'⟩ := x
      simp only at d0 d1 d2 d3 d4
      have HF := Lib.hid (refForm_ok wr ⟨D, A', B', C', N'⟩)
      have HX := Lib.hid (And.intro hx (And.intro hal hbl))
      clear hx hal hbl c0 c1 c2 c3 c4 hFb hbw
      go_wp2_with fail
      refine HF.out.mono ?_
      rintro e w5 ⟨rfl, hb5⟩
      have HB5 := Lib.hid (HX.out.2.2.trans (hb5.mono HX.out.2.2.size))
      clear hb5 HF
      cases hf : formedB ⟨D, A', B', C', N'⟩ with
      | true =>
        have HV := Lib.hid hf
        clear hf
        go_wp2_with fail
        go_roundw
        case rel => exact ⟨k + 1, by omega, by go_num, seen_next HX.out.2.1 HX.out.1 HV.out, HB5.out⟩
        case measure => simp [intOf]; omega
      | false =>
        have HV := Lib.hid hf
        clear hf
        go_wp2_with fail
        go_ret
        exact ⟨by rw [H.out.2, if_pos (all_take_no HX.out.1 HV.out)]; rfl, HB5.out⟩
    · obtain rfl : k = l.length := by omega
      rw [List.take_length] at hal
      have HA := Lib.hid (And.intro hal hbl)
      clear hal hbl
      go_wp2_with fail
      go_loopw [4] (fun i wr => ∃ k : Nat, k ≤ l.length ∧ i = .int .i64 (k : Int) ∧ SeenR w l rangedB k wr) (fun i _ => l.length - (intOf i).toNat)
      case atStart => exact ⟨0, Nat.zero_le _, rfl, rfl, HA.out.2⟩
      case round =>
        obtain ⟨k, hk, rfl, hal, hbl⟩ := hrel
        by_cases hlt : k < l.length
        · obtain ⟨x, hx⟩ : ∃ x, l[k]? = some x := ⟨_, List.getElem?_eq_getElem hlt⟩
          obtain ⟨b, o, rfl, hFb, c0, c1, c2, c3, c4⟩ := H.out.1.at_ hx
          have hbw := World.block_lt_of_cell? _ _ c0
          have d0 := (hbl.cell (p := ⟨b, o + k * 5, none⟩) hbw).trans c0
          have d1 := (hbl.cell (p := ⟨b, o + k * 5 + 1, none⟩) hbw).trans c1
          have d2 := (hbl.cell (p := ⟨b, o + k * 5 + 2, none⟩) hbw).trans c2
          have d3 := (hbl.cell (p := ⟨b, o + k * 5 + 3, none⟩) hbw).trans c3
          have d4 := (hbl.cell (p := ⟨b, o + k * 5 + 4, none⟩) hbw).trans c4
          have hfx := List.all_eq_true.1 HA.out.1 x (List.mem_of_getElem? hx)
          have hwr := within_ranged hfx
          obtain ⟨D, A', B', C', N'⟩ := x
          simp only at d0 d1 d2 d3 d4
          have HF := Lib.hid (refWithin_ok wr ⟨D, A', B', C', N'⟩ (rangedB ⟨D, A', B', C', N'⟩) hwr.symm)
          clear hfx hwr
          have HX := Lib.hid (And.intro hx (And.intro hal hbl))
          clear hx hal hbl c0 c1 c2 c3 c4 hFb hbw
          go_wp2_with fail
          refine HF.out.mono ?_
          rintro e w5 ⟨rfl, hb5⟩
          have HB5 := Lib.hid (HX.out.2.2.trans (hb5.mono HX.out.2.2.size))
          clear hb5 HF
          cases hf : rangedB ⟨D, A', B', C', N'⟩ with
          | true =>
            have HV := Lib.hid hf
            clear hf
            go_wp2_with fail
            go_roundw
            case rel => exact ⟨k + 1, by omega, by go_num, seen_next HX.out.2.1 HX.out.1 HV.out, HB5.out⟩
            case measure => simp [intOf]; omega
          | false =>
            have HV := Lib.hid hf
            clear hf
            go_wp2_with fail
            go_ret
            exact ⟨by rw [H.out.2, if_neg (by rw [HA.out.1]; simp), if_pos (all_take_no HX.out.1 HV.out)]; rfl, HB5.out⟩
        · obtain rfl : k = l.length := by omega
          rw [List.take_length] at hal
          have HR := Lib.hid (And.intro hal hbl)
          clear hal hbl
          go_wp2_with fail
          go_loopw [5, 6, 7, 8] (fun i _ _ _ wr => ∃ k : Nat, k ≤ l.length ∧ i = .int .i64 (k : Int) ∧ nestedTo l k = true ∧ Below w.heap.size w wr) (fun i _ _ _ _ => l.length - (intOf i).toNat)
          case atStart => exact ⟨0, Nat.zero_le _, rfl, rfl, HR.out.2⟩
          case round =>
            obtain ⟨i, hi, rfl, hnt, hbl⟩ := hrel
            have HNT := Lib.hid (And.intro hnt hbl)
            clear hnt hbl
            by_cases hil : i < l.length
            · obtain ⟨xi, hxi⟩ : ∃ x, l[i]? = some x := ⟨_, List.getElem?_eq_getElem hil⟩
              have HXI := Lib.hid hxi
              clear hxi
              have hil' : (i : Int) < (l.length : Int) := by omega
              go_wp2_with fail
              go_loopw [6, 7, 8] (fun en dp kk wr => ∃ (k m : Nat) (es : List Int) (en0 : Int), k ≤ i ∧ kk = .int .i64 (k : Int) ∧ es = opK l i k ∧ en = .int .i64 en0 ∧ en0 = es.foldl min (l.length : Int) ∧ dp = .int .i64 (m : Int) ∧ m = es.length ∧ m ≤ k ∧ (-100 ≤ en0 ∧ en0 ≤ 100) ∧ Below w.heap.size w wr) (fun _ _ kk _ => i - (intOf kk).toNat)
              case atStart => exact ⟨0, 0, [], (l.length : Int), by omega, rfl, (opK_zero _ _).symm, rfl, rfl, rfl, rfl, by omega, by omega, HNT.out.2⟩
              case round =>
                obtain ⟨k, m, es, en0, hk, rfl, hes, rfl, hen, rfl, hm, hmk, hb, hbl⟩ := hrel
                have HI := Lib.hid (And.intro hes (And.intro hen hm))
                clear hes hen hm
                by_cases hki : k < i
                · obtain ⟨x, hx⟩ : ∃ x, l[k]? = some x := ⟨_, List.getElem?_eq_getElem (by omega)⟩
                  obtain ⟨b, o, rfl, hFb, c0, c1, c2, c3, c4⟩ := H.out.1.at_ hx
                  have hbw := World.block_lt_of_cell? _ _ c0
                  have d0 := (hbl.cell (p := ⟨b, o + k * 5, none⟩) hbw).trans c0
                  have d1 := (hbl.cell (p := ⟨b, o + k * 5 + 1, none⟩) hbw).trans c1
                  have d2 := (hbl.cell (p := ⟨b, o + k * 5 + 2, none⟩) hbw).trans c2
                  have d3 := (hbl.cell (p := ⟨b, o + k * 5 + 3, none⟩) hbw).trans c3
                  have d4 := (hbl.cell (p := ⟨b, o + k * 5 + 4, none⟩) hbw).trans c4
                  have hsu := opK_succ (i := i) hx
                  have hrx := List.all_eq_true.1 HR.out.1 x (List.mem_of_getElem? hx)
                  have hk' : (k : Int) < (i : Int) := by omega
                  have i1 : (0 : Int) ≤ (k : Int) := by omega
                  have i2 : (k : Int) < (l.length : Int) := by omega
                  have hhn : x.holds = true → 0 ≤ x.n ∧ x.n ≤ 64 := fun hh => ranged_holds hrx hh
                  obtain ⟨D, A', B', C', N'⟩ := x
                  simp only at d0 d1 d2 d3 d4 hhn
                  have HC := Lib.hid (refHolds_ok wr ⟨D, A', B', C', N'⟩)
                  have HX := Lib.hid (And.intro hsu hbl)
                  clear hx hsu hbl hrx c0 c1 c2 c3 c4 hFb
                  go_wp2_with fail
                  refine HC.out.mono ?_
                  rintro e w5 ⟨rfl, hb5⟩
                  have e4 := (hb5.cell (p := ⟨b, o + k * 5 + 4, none⟩) (World.block_lt_of_cell? _ _ d4)).trans d4
                  have HB5 := Lib.hid (HX.out.2.trans (hb5.mono HX.out.2.size))
                  clear hb5 HC d0 d1 d2 d3 d4 hbw
                  cases hh : POp.holds ⟨D, A', B', C', N'⟩ with
                  | true =>
                    have hn := hhn hh
                    have HV := Lib.hid hh
                    clear hh hhn
                    by_cases hge : (i : Int) ≤ (k : Int) + N'
                    · have HS := Lib.hid (show opK l i (k + 1) = es ++ [(k : Int) + 1 + N'] by
                        rw [HX.out.1, HV.out, ← HI.out.1, Bool.true_and, decide_eq_true (by unfold endOf; simp only; omega)]
                        rfl)
                      by_cases hmin : (k : Int) + 1 + N' ≤ en0
                      · have hmn : min en0 ((k : Int) + 1 + N') = (k : Int) + 1 + N' := Int.min_eq_right hmin
                        have HMN := Lib.hid hmn
                        go_wp2_with fail
                        go_roundw
                        case rel =>
                          refine ⟨k + 1, m + 1, opK l i (k + 1), (k : Int) + 1 + N', by omega, by go_num, rfl, by go_num, ?_, by go_num, ?_, by omega, by omega, HB5.out⟩
                          · rw [HS.out, List.foldl_append, ← HI.out.2.1]; exact HMN.out.symm
                          · rw [HS.out, List.length_append, ← HI.out.2.2]; rfl
                        case measure => simp [intOf]; omega
                      · have hmn : min en0 ((k : Int) + 1 + N') = en0 := Int.min_eq_left (by omega)
                        have HMN := Lib.hid hmn
                        go_wp2_with fail
                        go_roundw
                        case rel =>
                          refine ⟨k + 1, m + 1, opK l i (k + 1), en0, by omega, by go_num, rfl, by go_num, ?_, by go_num, ?_, by omega, by omega, HB5.out⟩
                          · rw [HS.out, List.foldl_append, ← HI.out.2.1]; exact HMN.out.symm
                          · rw [HS.out, List.length_append, ← HI.out.2.2]; rfl
                        case measure => simp [intOf]; omega
                    · have HS := Lib.hid (show opK l i (k + 1) = es by
                        rw [HX.out.1, HV.out, ← HI.out.1, Bool.true_and, decide_eq_false (by unfold endOf; simp only; omega)]
                        simp)
                      go_wp2_with fail
                      go_roundw
                      case rel => exact ⟨k + 1, m, es, en0, by omega, by go_num, HS.out.symm, rfl, HI.out.2.1, rfl, HI.out.2.2, by omega, by omega, HB5.out⟩
                      case measure => simp [intOf]; omega
                  | false =>
                    have HS := Lib.hid (show opK l i (k + 1) = es by
                      rw [HX.out.1, hh, ← HI.out.1]
                      simp)
                    clear hh hhn
                    go_wp2_with fail
                    go_roundw
                    case rel => exact ⟨k + 1, m, es, en0, by omega, by go_num, HS.out.symm, rfl, HI.out.2.1, rfl, HI.out.2.2, by omega, by omega, HB5.out⟩
                    case measure => simp [intOf]; omega
                · obtain rfl : k = i := by omega
                  have hx := HXI.out
                  have hm1 := opens_min (Nat.le_of_lt hil) HNT.out.1 es (HI.out.1.trans (opK_all l k))
                  rw [← HI.out.2.1] at hm1
                  have hsu := nestedTo_succ hx
                  have hpl : placeB l k xi = (decide (m ≤ 8) && (!xi.holds || decide (endOf k xi ≤ en0))) := by unfold placeB; rw [← opK_all, ← HI.out.1, ← HI.out.2.2, ← hm1]
                  obtain ⟨b, o, rfl, hFb, c0, c1, c2, c3, c4⟩ := H.out.1.at_ hx
                  have hbw := World.block_lt_of_cell? _ _ c0
                  have d0 := (hbl.cell (p := ⟨b, o + k * 5, none⟩) hbw).trans c0
                  have d1 := (hbl.cell (p := ⟨b, o + k * 5 + 1, none⟩) hbw).trans c1
                  have d2 := (hbl.cell (p := ⟨b, o + k * 5 + 2, none⟩) hbw).trans c2
                  have d3 := (hbl.cell (p := ⟨b, o + k * 5 + 3, none⟩) hbw).trans c3
                  have d4 := (hbl.cell (p := ⟨b, o + k * 5 + 4, none⟩) hbw).trans c4
                  have hrx := List.all_eq_true.1 HR.out.1 xi (List.mem_of_getElem? hx)
                  have i1 : (0 : Int) ≤ (k : Int) := by omega
                  have hhn : xi.holds = true → 0 ≤ xi.n ∧ xi.n ≤ 64 := fun hh => ranged_holds hrx hh
                  rw [HNT.out.1, Bool.true_and, hpl] at hsu
                  obtain ⟨D, A', B', C', N'⟩ := xi
                  simp only at d0 d1 d2 d3 d4 hhn
                  have HC := Lib.hid (refHolds_ok wr ⟨D, A', B', C', N'⟩)
                  have HX := Lib.hid (And.intro hsu hbl)
                  clear hx hsu hbl hrx c0 c1 c2 c3 c4 hFb hm1 hpl
                  by_cases h8 : m ≤ 8
                  · have h8' : ¬ (8 : Int) < (m : Int) := by omega
                    go_wp2_with fail
                    refine HC.out.mono ?_
                    rintro e w5 ⟨rfl, hb5⟩
                    have e4 := (hb5.cell (p := ⟨b, o + k * 5 + 4, none⟩) (World.block_lt_of_cell? _ _ d4)).trans d4
                    have HB5 := Lib.hid (HX.out.2.trans (hb5.mono HX.out.2.size))
                    clear hb5 HC d0 d1 d2 d3 d4 hbw
                    cases hh : POp.holds ⟨D, A', B', C', N'⟩ with
                    | true =>
                      have hn := hhn hh
                      have HV := Lib.hid hh
                      clear hh hhn
                      by_cases hle : (k : Int) + 1 + N' ≤ en0
                      · have HY := Lib.hid (show nestedTo l (k + 1) = true by rw [HX.out.1, HV.out, decide_eq_true h8, decide_eq_true (show endOf k ⟨D, A', B', C', N'⟩ ≤ en0 from hle)]; rfl)
                        have hle' : ¬ en0 < (k : Int) + 1 + N' := by omega
                        go_wp2_with fail
                        go_roundw
                        case rel => exact ⟨k + 1, by omega, by go_num, HY.out, HB5.out⟩
                        case measure => simp [intOf]; omega
                      · have HY := Lib.hid (show nestedTo l (k + 1) = false by rw [HX.out.1, HV.out, decide_eq_false (show ¬ endOf k ⟨D, A', B', C', N'⟩ ≤ en0 from hle)]; simp)
                        have hle' : en0 < (k : Int) + 1 + N' := by omega
                        go_wp2_with fail
                        go_ret
                        refine ⟨?_, HB5.out⟩
                        rw [H.out.2, if_neg (by rw [HA.out.1]; simp), if_neg (by rw [HR.out.1]; simp), if_pos]
                        · rfl
                        · rw [Bool.eq_false_iff]
                          intro hnb
                          have := nestedTo_mono hnb (show k + 1 ≤ l.length by omega)
                          rw [HY.out] at this
                          cases this
                    | false =>
                      have HY := Lib.hid (show nestedTo l (k + 1) = true by rw [HX.out.1, hh, decide_eq_true h8]; rfl)
                      clear hh hhn
                      go_wp2_with fail
                      go_roundw
                      case rel => exact ⟨k + 1, by omega, by go_num, HY.out, HB5.out⟩
                      case measure => simp [intOf]; omega
                  · have h8' : (8 : Int) < (m : Int) := by omega
                    have HY := Lib.hid (show nestedTo l (k + 1) = false by rw [HX.out.1, decide_eq_false h8]; rfl)
                    have HB5 := Lib.hid HX.out.2
                    clear hhn
                    go_wp2_with fail
                    go_ret
                    refine ⟨?_, HB5.out⟩
                    rw [H.out.2, if_neg (by rw [HA.out.1]; simp), if_neg (by rw [HR.out.1]; simp), if_pos]
                    · rfl
                    · rw [Bool.eq_false_iff]
                      intro hnb
                      have := nestedTo_mono hnb (show k + 1 ≤ l.length by omega)
                      rw [HY.out] at this
                      cases this
            · obtain rfl : i = l.length := by omega
              have HY := Lib.hid (show opsE l = 0 by rw [H.out.2, if_neg (by rw [HA.out.1]; simp), if_neg (by rw [HR.out.1]; simp), if_neg (by show ¬ nestedTo l l.length = false; rw [HNT.out.1]; simp)])
              go_wp2_with fail
              go_ret
              exact ⟨by rw [HY.out]; rfl, HNT.out.2⟩
end Go.Proofs.YtihjcfifakcpgaaGreatDoor
