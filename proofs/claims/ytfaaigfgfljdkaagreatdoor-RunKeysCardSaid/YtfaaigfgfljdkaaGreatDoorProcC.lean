/- proc.Check. -/
import Derived.Test.YtfaaigfgfljdkaaGreatDoorProcN
namespace Go.Proofs.YtfaaigfgfljdkaaGreatDoor
set_option maxRecDepth 100000
open Go.RowKit

theorem ranged_holds {o : POp} (h : rangedB o = true) (hh : o.holds = true) : 0 ≤ o.n ∧ o.n ≤ 64 := by
  unfold rangedB at h
  rw [List.all_eq_true] at h
  have h3 := h 3 (List.mem_range.2 (by decide))
  unfold POp.holds at hh
  rw [Bool.or_eq_true, beq_iff_eq, beq_iff_eq] at hh
  rcases hh with hh | hh
  · simp [hh, hasF, loF, hiF, POp.fld] at h3
    omega
  · simp [hh, hasF, loF, hiF, POp.fld] at h3
    omega
theorem formed_do {o : POp} (h : formedB o = true) : 1 ≤ o.d ∧ o.d ≤ 15 := by
  unfold formedB at h
  rw [Bool.and_eq_true] at h
  exact of_decide_eq_true h.1
theorem all_take_no {l : List POp} {p : POp → Bool} {k : Nat} {x : POp} (hx : l[k]? = some x) (hp : p x = false) : l.all p = false := by
  rw [Bool.eq_false_iff]
  intro h
  rw [List.all_eq_true] at h
  rw [h x (List.mem_of_getElem? hx)] at hp
  cases hp
/-- Ops that have been looked at. -/
def SeenR (w : World) (l : List POp) (p : POp → Bool) (k : Nat) (wr : World) : Prop := (l.take k).all p = true ∧ Below w.heap.size w wr
theorem seen_next {l : List POp} {p : POp → Bool} {k : Nat} {x : POp} (h : (l.take k).all p = true) (hx : l[k]? = some x) (hp : p x = true) : (l.take (k + 1)).all p = true := by
  rw [List.take_add_one, hx, List.all_append, h]
  simp [hp]

set_option maxRecDepth 100000 in
set_option maxHeartbeats 1000000 in
theorem pcheck_ok (w : World) (F : Nat → Prop) (v : Value) (l : List POp) (h : OpRd w F v l) (hs : ShTab w) :
    Calls Tryz.prog 95 #[v] w fun e w' => e = .returned (.int .i64 (opsE l)) ∧ Below w.heap.size w w' := by
  obtain ⟨A, c, rfl, hlc, hcm⟩ := h.slice
  unfold maxLen at hcm
  by_cases h64 : 64 < l.length
  · have HE := Lib.hid (show opsE l = 23 by unfold opsE; rw [if_pos h64])
    have h64' : (64 : Int) < (l.length : Int) := by omega
    clear h hs
    go_enter Tryz.func95, Tryz.ntmps95
    go_wp2_with fail
    go_ret
    exact ⟨by rw [HE.out]; rfl, Below.refl _ _⟩
  have hE : opsE l = if l.all formedB = false then 11 else if l.all rangedB = false then 10 else if nestedB l = false then 11 else 0 := by unfold opsE; rw [if_neg h64]
  have h64' : ¬ ((64 : Int) < (l.length : Int)) := by omega
  have H := Lib.hid (And.intro h (And.intro hs hE))
  clear h hs hE
  go_enter Tryz.func95, Tryz.ntmps95
  go_wp2_with fail
  go_loopw [12] (fun i wr => ∃ k : Nat, k ≤ l.length ∧ i = .int .i64 (k : Int) ∧ SeenR w l formedB k wr) (fun i _ => l.length - (intOf i).toNat)
  case atStart => exact ⟨0, Nat.zero_le _, rfl, rfl, Below.refl _ _⟩
  case round =>
    obtain ⟨k, hk, rfl, hal, hbl⟩ := hrel
    by_cases hlt : k < l.length
    · obtain ⟨x, hx⟩ : ∃ x, l[k]? = some x := ⟨_, List.getElem?_eq_getElem hlt⟩
      obtain ⟨b, o, rfl, hFb, c0, c1, c2, c3, c4⟩ := H.out.1.at_ hx
      have hbw := World.block_lt_of_cell? _ _ c0
      have d0 := (hbl.cell (p := ⟨b, o + k * 5, none⟩) hbw).trans c0
      have d1 := (hbl.cell (p := ⟨b, o + k * 5 + 1, none⟩) hbw).trans c1
      have d2 := (hbl.cell (p := ⟨b, o + k * 5 + 2, none⟩) hbw).trans c2
      have d3 := (hbl.cell (p := ⟨b, o + k * 5 + 3, none⟩) hbw).trans c3
      have d4 := (hbl.cell (p := ⟨b, o + k * 5 + 4, none⟩) hbw).trans c4
      obtain ⟨D, A', B', C', N'⟩ := x
      simp only at d0 d1 d2 d3 d4
      have hb4 := hbl.alloc hbl.size (.cells #[.int .i64 D, .int .i64 A', .int .i64 B', .int .i64 C', .int .i64 N'] 160)
      have HF := Lib.hid (formed_ok _ (H.out.2.1.below hb4) ⟨D, A', B', C', N'⟩)
      have HX := Lib.hid (And.intro hx (And.intro hal hb4))
      clear hx hal hbl c0 c1 c2 c3 c4 hFb hbw hb4
      go_wp2_with fail
      refine HF.out.mono ?_
      rintro e w5 ⟨rfl, hb5⟩
      have HB5 := Lib.hid (HX.out.2.2.trans (hb5.mono HX.out.2.2.size))
      clear hb5 HF
      cases hf : formedB ⟨D, A', B', C', N'⟩ with
      | true =>
        have HV := Lib.hid hf
        clear hf
        go_wp2_with fail
        go_roundw
        case rel => exact ⟨k + 1, by omega, by go_num, seen_next HX.out.2.1 HX.out.1 HV.out, HB5.out⟩
        case measure => simp [intOf]; omega
      | false =>
        have HV := Lib.hid hf
        clear hf
        go_wp2_with fail
        go_ret
        exact ⟨by rw [H.out.2.2, if_pos (all_take_no HX.out.1 HV.out)]; rfl, HB5.out⟩
    · obtain rfl : k = l.length := by omega
      rw [List.take_length] at hal
      have HA := Lib.hid (And.intro hal hbl)
      clear hal hbl
      go_wp2_with fail
      go_loopw [22] (fun i wr => ∃ k : Nat, k ≤ l.length ∧ i = .int .i64 (k : Int) ∧ SeenR w l rangedB k wr) (fun i _ => l.length - (intOf i).toNat)
      case atStart => exact ⟨0, Nat.zero_le _, rfl, rfl, HA.out.2⟩
      case round =>
        obtain ⟨k, hk, rfl, hal, hbl⟩ := hrel
        by_cases hlt : k < l.length
        · obtain ⟨x, hx⟩ : ∃ x, l[k]? = some x := ⟨_, List.getElem?_eq_getElem hlt⟩
          obtain ⟨b, o, rfl, hFb, c0, c1, c2, c3, c4⟩ := H.out.1.at_ hx
          have hbw := World.block_lt_of_cell? _ _ c0
          have hdo := formed_do (List.all_eq_true.1 HA.out.1 x (List.mem_of_getElem? hx))
          have d0 := (hbl.cell (p := ⟨b, o + k * 5, none⟩) hbw).trans c0
          have d1 := (hbl.cell (p := ⟨b, o + k * 5 + 1, none⟩) hbw).trans c1
          have d2 := (hbl.cell (p := ⟨b, o + k * 5 + 2, none⟩) hbw).trans c2
          have d3 := (hbl.cell (p := ⟨b, o + k * 5 + 3, none⟩) hbw).trans c3
          have d4 := (hbl.cell (p := ⟨b, o + k * 5 + 4, none⟩) hbw).trans c4
          obtain ⟨D, A', B', C', N'⟩ := x
          simp only at d0 d1 d2 d3 d4
          have hb4 := hbl.alloc hbl.size (.cells #[.int .i64 D, .int .i64 A', .int .i64 B', .int .i64 C', .int .i64 N'] 160)
          have HF := Lib.hid (ranged_ok _ (H.out.2.1.below hb4) ⟨D, A', B', C', N'⟩ hdo)
          have HX := Lib.hid (And.intro hx (And.intro hal hb4))
          clear hx hal hbl c0 c1 c2 c3 c4 hFb hbw hb4 hdo
          go_wp2_with fail
          refine HF.out.mono ?_
          rintro e w5 ⟨rfl, hb5⟩
          have HB5 := Lib.hid (HX.out.2.2.trans (hb5.mono HX.out.2.2.size))
          clear hb5 HF
          cases hf : rangedB ⟨D, A', B', C', N'⟩ with
          | true =>
            have HV := Lib.hid hf
            clear hf
            go_wp2_with fail
            go_roundw
            case rel => exact ⟨k + 1, by omega, by go_num, seen_next HX.out.2.1 HX.out.1 HV.out, HB5.out⟩
            case measure => simp [intOf]; omega
          | false =>
            have HV := Lib.hid hf
            clear hf
            go_wp2_with fail
            go_ret
            exact ⟨by rw [H.out.2.2, if_neg (by rw [HA.out.1]; simp), if_pos (all_take_no HX.out.1 HV.out)]; rfl, HB5.out⟩
        · obtain rfl : k = l.length := by omega
          rw [List.take_length] at hal
          have HR := Lib.hid (And.intro hal hbl)
          have hnest := nested_ok wr F (.slice A l.length c) l (RdK.below H.out.1 hbl) (by omega) (fun o ho hh => ranged_holds (List.all_eq_true.1 hal o ho) hh)
          have HN := Lib.hid hnest
          clear hal hbl hnest
          go_wp2_with fail
          refine HN.out.mono ?_
          rintro e w6 ⟨rfl, hb6⟩
          have HB6 := Lib.hid (HR.out.2.trans (hb6.mono HR.out.2.size))
          clear hb6 HN
          cases hf : nestedB l with
          | true =>
            have HV := Lib.hid hf
            clear hf
            go_wp2_with fail
            go_ret
            exact ⟨by rw [H.out.2.2, if_neg (by rw [HA.out.1]; simp), if_neg (by rw [HR.out.1]; simp), if_neg (by rw [HV.out]; simp)]; rfl, HB6.out⟩
          | false =>
            have HV := Lib.hid hf
            clear hf
            go_wp2_with fail
            go_ret
            exact ⟨by rw [H.out.2.2, if_neg (by rw [HA.out.1]; simp), if_neg (by rw [HR.out.1]; simp), if_pos HV.out]; rfl, HB6.out⟩
end Go.Proofs.YtfaaigfgfljdkaaGreatDoor
