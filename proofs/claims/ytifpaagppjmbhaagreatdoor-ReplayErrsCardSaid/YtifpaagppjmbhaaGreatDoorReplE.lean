/- ReplayErrs, walked. -/
import Derived.Test.YtifpaagppjmbhaaGreatDoorReplD
namespace Go.Proofs.YtifpaagppjmbhaaGreatDoor
set_option maxRecDepth 100000
open Go.RowKit

/-- A configuration in a box. -/
def CfgB (w : World) (C : Nat) (most n f : Int) : Prop := w.heap[C]? = some (.cells #[.int .i64 most, .int .i64 n, .int .i64 f] 23 (0, 0))
theorem CfgB.below {w w' : World} {C : Nat} {most n f : Int} (h : CfgB w C most n f) (hb : Below w.heap.size w w') : CfgB w' C most n f := (Only.of_below hb (fun _ => False)).heap h (fun h => h)
theorem CfgB.cells {w : World} {C : Nat} {most n f : Int} (h : CfgB w C most n f) : w.cell? ⟨C, 0, none⟩ = some (.int .i64 most) ∧ w.cell? ⟨C, 1, none⟩ = some (.int .i64 n) ∧ w.cell? ⟨C, 2, none⟩ = some (.int .i64 f) := by
  unfold CfgB at h
  exact ⟨by simp [World.cell?, h], by simp [World.cell?, h], by simp [World.cell?, h]⟩
/-- What was told, in a box. -/
def RptB (w : World) (D : Nat) (vl : Int) (tb : Option Addr) : Prop := w.heap[D]? = some (.cells #[.slice none 0 0, .int .i64 vl, .int .i64 0, .slice none 0 0, .pointer tb] 97 (0, 0))
theorem RptB.below {w w' : World} {D : Nat} {vl : Int} {tb : Option Addr} (h : RptB w D vl tb) (hb : Below w.heap.size w w') : RptB w' D vl tb := (Only.of_below hb (fun _ => False)).heap h (fun h => h)
theorem RptB.cells {w : World} {D : Nat} {vl : Int} {tb : Option Addr} (h : RptB w D vl tb) : w.cell? ⟨D, 1, none⟩ = some (.int .i64 vl) ∧ w.cell? ⟨D, 2, none⟩ = some (.int .i64 0) ∧ w.cell? ⟨D, 4, none⟩ = some (.pointer tb) := by
  unfold RptB at h
  exact ⟨by simp [World.cell?, h], by simp [World.cell?, h], by simp [World.cell?, h]⟩
/-- While it is told what is wrong with lives. -/
def WantI (w4 : World) (most n f : Int) (l : List LF) (k : Nat) (wv : Int) (wr : World) : Prop :=
  Below w4.heap.size w4 wr ∧ ((wv = 0 ∧ ∀ y ∈ l.take k, liErr most n f y.wk y.st = 0) ∨ (wv ≠ 0 ∧ wv = plErr most n f l))
theorem WantI.next {w4 wr w' : World} {most n f : Int} {l : List LF} {k : Nat} {x : LF} {v : Int} (h : WantI w4 most n f l k 0 wr) (hb : Below wr.heap.size wr w') (hx : l[k]? = some x) (hv : v = liErr most n f x.wk x.st) : WantI w4 most n f l (k + 1) v w' := by
  obtain ⟨h1, h2 | h2⟩ := h
  · refine ⟨h1.trans (hb.mono h1.size), ?_⟩
    by_cases h0 : v = 0
    · exact .inl ⟨h0, take_all h2.2 hx (by rw [← hv, h0])⟩
    · exact .inr ⟨h0, by rw [plErr_at h2.2 hx (by rw [← hv]; exact h0), hv]⟩
  · exact absurd rfl h2.1
theorem li1 {most n f wk st : Int} (h : cfgErr most n f ≠ 0) : cfgErr most n f = liErr most n f wk st := by
  have : exErr most n f wk = cfgErr most n f := by unfold exErr; rw [if_neg h]
  unfold liErr
  rw [this, if_neg h]
theorem li2 {most n f wk st : Int} (h : cfgErr most n f = 0) (h1 : wkErr wk ≠ 0) : wkErr wk = liErr most n f wk st := by
  have : exErr most n f wk = wkErr wk := by unfold exErr; rw [if_pos h]
  unfold liErr
  rw [this, if_neg h1]
theorem li3 {most n f wk st : Int} (h : cfgErr most n f = 0) (h1 : wkErr wk = 0) : (if st < 0 then 10 else 0) = liErr most n f wk st := by
  have : exErr most n f wk = 0 := by unfold exErr; rw [if_pos h, h1]
  unfold liErr
  rw [if_pos this]
theorem plErr_none {most n f : Int} {l : List LF} {m : Nat} (hm : l.length = m) (h : ∀ y ∈ l.take m, liErr most n f y.wk y.st = 0) : plErr most n f l = 0 := plErr_all (by rw [← hm, List.take_length] at h; exact h)
theorem playErr_in {most n f : Int} {l : List LF} {m : Nat} (hm : l.length = m) (h : ¬ (m = 0 ∨ 16 < m)) : playErr most n f l = plErr most n f l := by unfold playErr; rw [hm, if_neg h]
theorem playErr_out {most n f : Int} {l : List LF} {m : Nat} (hm : l.length = m) (h : m = 0 ∨ 16 < m) : playErr most n f l = 23 := by unfold playErr; rw [hm, if_pos h]
set_option maxRecDepth 100000 in
set_option maxHeartbeats 8000000 in
theorem rerrs_law (w : World) (most n f : Int) (v : Value) (l : List LF) (hr : RdK 3 w (fun _ => True) v (l.map LF.cells)) (hp : ∀ x ∈ l, LF.rd w x) :
    Calls Tryz.prog 7 #[cfgV most n f, v] w fun e w' => e = .returned (.bool true) ∧ Below w.heap.size w w' := by
  unfold cfgV
  have hr' := hr
  obtain ⟨A, m, c, rfl, hl, hnc, hcm, hx⟩ := hr'
  have HM := Lib.hid (show l.length = m by simpa using hl)
  have hb0 := new_box w (.cells #[.int .i64 most, .int .i64 n, .int .i64 f] 23)
  have k0 : CfgB _ _ _ _ _ := heap_alloc_new w (.cells #[.int .i64 most, .int .i64 n, .int .i64 f] 23)
  have HX := Lib.hid hx
  have HP0 := Lib.hid hp
  have HR0 := Lib.hid hr
  clear hr hp hx hl hnc hcm
  go_enter Tryz.func7, Tryz.ntmps7
  go_upto_region 1 with fail
  generalize w.alloc (.cells #[.int .i64 most, .int .i64 n, .int .i64 f] 23) = w1 at hb0 k0 ⊢
  obtain ⟨C, hC⟩ : ∃ x, w.heap.size = x := ⟨_, rfl⟩
  rw [hC] at k0 ⊢
  clear hC
  have HB := Lib.hid (And.intro hb0 k0)
  clear hb0 k0
  by_cases h30 : (30 : Int) < (m : Int)
  · skip
    go_wp2_with fail
    refine (awake20_ok w1).mono ?_
    rintro e wz ⟨rfl, hbz⟩
    have HZ := Lib.hid ((HB.out.1).trans (hbz.mono (HB.out.1).size))
    clear hbz
    go_wp2_with fail
    go_ret
    exact ⟨rfl, HZ.out⟩
  have hm30 : (m : Int) ≤ 30 := by omega
  go_wp2_with fail
  go_loopw [5] (fun i wr => ∃ k : Nat, k ≤ m ∧ i = .int .i64 (k : Int) ∧ wr = w1) (fun i _ => m - (intOf i).toNat)
  case atStart => exact ⟨0, Nat.zero_le _, rfl, rfl⟩
  case round =>
    obtain ⟨k, hk, rfl, rfl⟩ := hrel
    by_cases hlt : k < m
    · skip
      obtain ⟨x, hxk⟩ : ∃ x, l[k]? = some x := ⟨_, List.getElem?_eq_getElem (by rw [HM.out]; exact hlt)⟩
      have hbw := HB.out.1
      obtain ⟨A', m', c', hpv⟩ := (HP0.out x (List.mem_of_getElem? hxk)).slice
      obtain ⟨b, o, rfl, -, hc⟩ := HX.out (by omega)
      have hcx := hc k x.cells (by simp [hxk])
      have on : ∀ {p : Addr} {v : Value}, w.cell? p = some v → wr.cell? p = some v := fun {p v} h => (hbw.cell (World.block_lt_of_cell? _ _ h)).trans h
      have c0 : wr.cell? ⟨b, o + k * 3, none⟩ = some (.int .i64 x.wk) := on (by simpa using hcx 0 _ rfl)
      have c1 : wr.cell? ⟨b, o + k * 3 + 1, none⟩ = some (.int .i64 x.st) := on (by simpa [Nat.add_assoc] using hcx 1 _ rfl)
      have c2 : wr.cell? ⟨b, o + k * 3 + 2, none⟩ = some (.slice A' m' c') := on (by rw [← hpv]; simpa [Nat.add_assoc] using hcx 2 _ rfl)
      have i1 : (0 : Int) ≤ (k : Int) := by omega
      have i2 : (k : Int) < (m : Int) := by omega
      have HXK := Lib.hid hxk
      clear hbw hc hcx on hxk hpv
      by_cases g1 : 300 < x.wk
      · skip
        go_wp2_with fail
        refine (awake20_ok wr).mono ?_
        rintro e wz ⟨rfl, hbz⟩
        have HZ := Lib.hid ((HB.out.1).trans (hbz.mono (HB.out.1).size))
        clear hbz
        go_wp2_with fail
        go_ret
        exact ⟨rfl, HZ.out⟩
      by_cases g2 : (40 : Int) < (m' : Int)
      · skip
        go_wp2_with fail
        refine (awake20_ok wr).mono ?_
        rintro e wz ⟨rfl, hbz⟩
        have HZ := Lib.hid ((HB.out.1).trans (hbz.mono (HB.out.1).size))
        clear hbz
        go_wp2_with fail
        go_ret
        exact ⟨rfl, HZ.out⟩
      go_wp2_with fail
      go_roundw
      case rel => exact ⟨k + 1, by omega, by go_num, by first | trivial | rfl⟩
      case measure => simp [intOf]; omega
    · have hkm : ¬ (k : Int) < (m : Int) := by omega
      clear hk
      go_wp2_with fail
      refine (logNew0_ok wr).mono ?_
      rintro e w2 ⟨L, rfl, -, hL, hb2⟩
      have hbw2 := HB.out.1.trans (hb2.mono HB.out.1.size)
      have HB2 := Lib.hid (And.intro hbw2 (HB.out.2.below hb2))
      have HP := Lib.hid (play0_ok w2 L most n f _ l hL (RdK.below HR0.out hbw2) (fun x hx => (HP0.out x hx).below hbw2))
      unfold cfgV at HP
      rw [HM.out] at HP
      obtain ⟨z0, z1, z2⟩ := HB2.out.2.cells
      clear hb2 hbw2 hL hlt
      go_wp2_with fail
      refine HP.out.mono ?_
      rintro e w3 ⟨hb3, he, he'⟩
      obtain ⟨er, her⟩ : ∃ x, playErr most n f l = x := ⟨_, rfl⟩
      rw [her] at he he'
      have HER := Lib.hid her
      clear her HP z0 z1 z2
      by_cases h0 : er = 0
      · obtain ⟨a, rfl⟩ := he h0
        subst h0
        clear he he'
        unfold repV
        have hb4 := new_box w3 (.cells #[.slice none 0 0, .int .i64 (m : Int), .int .i64 0, .slice none 0 0, .pointer (some a)] 97)
        have k4 : RptB _ _ (m : Int) (some a) := heap_alloc_new w3 (.cells #[.slice none 0 0, .int .i64 (m : Int), .int .i64 0, .slice none 0 0, .pointer (some a)] 97)
        go_upto_region 10 with fail
        generalize w3.alloc (.cells #[.slice none 0 0, .int .i64 (m : Int), .int .i64 0, .slice none 0 0, .pointer (some a)] 97) = w4 at hb4 k4 ⊢
        generalize w3.heap.size = D at k4 ⊢
        have h24 := hb3.trans (hb4.mono hb3.size)
        have HB4 := Lib.hid (And.intro (HB2.out.1.trans (h24.mono HB2.out.1.size)) (And.intro (HB2.out.2.below h24) k4))
        obtain ⟨z0, z1, z2⟩ := HB4.out.2.1.cells
        have HLN := Lib.hid (liveNil_ok w4 most n f 1 0 none 0 0)
        unfold cfgV at HLN
        clear hb3 hb4 h24 k4
        go_wp2_with fail
        refine HLN.out.mono ?_
        rintro e w5 ⟨rfl, hb5⟩
        have HB5 := Lib.hid (And.intro (HB4.out.1.trans (hb5.mono HB4.out.1.size)) (And.intro (HB4.out.2.1.below hb5) (HB4.out.2.2.below hb5)))
        clear hb5 HLN z0 z1 z2
        go_wp2_with fail
        go_loopw [13, 14] (fun q i wr => ∃ (j : Nat) (wv : Int), j ≤ m ∧ i = .int .i64 (j : Int) ∧ q = .int .i64 wv ∧ WantI w5 most n f l j wv wr) (fun _ i _ => m - (intOf i).toNat)
        case atStart => exact ⟨0, 0, Nat.zero_le _, rfl, rfl, Below.refl _ _, .inl ⟨rfl, by simp⟩⟩
        case round =>
          clear hkm
          obtain ⟨k, wv, hk, rfl, rfl, hW⟩ := hrel
          rename World => w6
          have HQ := Lib.hid (And.intro (HB5.out.1.trans (hW.1.mono HB5.out.1.size)) (And.intro (HB5.out.2.1.below hW.1) (HB5.out.2.2.below hW.1)))
          by_cases hlt : k < m
          · by_cases hw0 : wv = 0
            · subst hw0
              have HW := Lib.hid hW
              clear hW
              obtain ⟨x, hxk⟩ : ∃ x, l[k]? = some x := ⟨_, List.getElem?_eq_getElem (by rw [HM.out]; exact hlt)⟩
              have hbw := HQ.out.1
              obtain ⟨A', m', c', hpv⟩ := (HP0.out x (List.mem_of_getElem? hxk)).slice
              obtain ⟨b, o, rfl, -, hc⟩ := HX.out (by omega)
              have hcx := hc k x.cells (by simp [hxk])
              have on : ∀ {p : Addr} {v : Value}, w.cell? p = some v → w6.cell? p = some v := fun {p v} h => (hbw.cell (World.block_lt_of_cell? _ _ h)).trans h
              have c0 : w6.cell? ⟨b, o + k * 3, none⟩ = some (.int .i64 x.wk) := on (by simpa using hcx 0 _ rfl)
              have c1 : w6.cell? ⟨b, o + k * 3 + 1, none⟩ = some (.int .i64 x.st) := on (by simpa [Nat.add_assoc] using hcx 1 _ rfl)
              have c2 : w6.cell? ⟨b, o + k * 3 + 2, none⟩ = some (.slice A' m' c') := on (by rw [← hpv]; simpa [Nat.add_assoc] using hcx 2 _ rfl)
              have i1 : (0 : Int) ≤ (k : Int) := by omega
              have i2 : (k : Int) < (m : Int) := by omega
              have HXK := Lib.hid hxk
              clear hbw hc hcx on hxk hpv
              obtain ⟨z0, z1, z2⟩ := HQ.out.2.1.cells
              have HC := Lib.hid (serCheck_ok w6 most n f)
              unfold cfgV at HC
              go_wp2_with fail
              refine HC.out.mono ?_
              rintro e w7 ⟨rfl, hb7⟩
              have HB7 := Lib.hid hb7
              clear HC z0 z1 z2
              by_cases e1 : cfgErr most n f = 0
              · have on : ∀ {p : Addr} {v : Value}, w6.cell? p = some v → w7.cell? p = some v := fun {p v} h => (hb7.cell (World.block_lt_of_cell? _ _ h)).trans h
                have c0 := on c0
                have c1 := on c1
                have E1 := Lib.hid e1
                clear on hb7
                go_wp2_with fail
                refine (schNew_ok w7 x.wk).mono ?_
                rintro e w8 ⟨hb8, hs, hs'⟩
                have on : ∀ {p : Addr} {v : Value}, w7.cell? p = some v → w8.cell? p = some v := fun {p v} h => (hb8.cell (World.block_lt_of_cell? _ _ h)).trans h
                have c1 := on c1
                have HB8 := Lib.hid (HB7.out.trans (hb8.mono HB7.out.size))
                clear on hb8
                by_cases e2 : wkErr x.wk = 0
                · obtain ⟨Bd, nb, rfl, -⟩ := hs e2
                  have E2 := Lib.hid e2
                  clear hs hs' e2 e1
                  by_cases e3 : x.st < 0
                  · have E3 := Lib.hid e3
                    go_wp2_with fail
                    go_roundw
                    case rel => exact ⟨k + 1, 10, by omega, by go_num, rfl, HW.out.next HB8.out HXK.out ((if_pos E3.out).symm.trans (li3 E1.out E2.out))⟩
                    case measure => simp [intOf]; omega
                  · have E3 := Lib.hid e3
                    go_wp2_with fail
                    go_roundw
                    case rel => exact ⟨k + 1, 0, by omega, by go_num, rfl, HW.out.next HB8.out HXK.out ((if_neg (by have := E3.out; omega)).symm.trans (li3 E1.out E2.out))⟩
                    case measure => simp [intOf]; omega
                · obtain rfl := hs' e2
                  have E2 := Lib.hid e2
                  clear hs hs' e1
                  go_wp2_with fail
                  go_roundw
                  case rel => exact ⟨k + 1, wkErr x.wk, by omega, by go_num, rfl, HW.out.next HB8.out HXK.out (li2 E1.out E2.out)⟩
                  case measure => simp [intOf]; omega
              · have E1 := Lib.hid e1
                clear hb7
                go_wp2_with fail
                go_roundw
                case rel => exact ⟨k + 1, cfgErr most n f, by omega, by go_num, rfl, HW.out.next HB7.out HXK.out (li1 E1.out)⟩
                case measure => simp [intOf]; omega
            · have hpl : wv = plErr most n f l := by
                rcases hW.2 with h | h
                · exact absurd h.1 hw0
                · exact h.2
              obtain ⟨d1, d2, d4⟩ := HQ.out.2.2.cells
              have i2 : (k : Int) < (m : Int) := by omega
              have hin : ¬ (m = 0 ∨ 16 < m) := fun h => by have := HER.out; rw [playErr_out HM.out h] at this; cases this
              exact absurd (hpl.trans ((playErr_in HM.out hin).symm.trans HER.out)) hw0
          · obtain rfl : k = m := by omega
            obtain ⟨d1, d2, d4⟩ := HQ.out.2.2.cells
            have hin : ¬ (k = 0 ∨ 16 < k) := fun h => by have := HER.out; rw [playErr_out HM.out h] at this; cases this
            have hn0 : ¬ k = 0 := by omega
            have h16i : ¬ (16 : Int) < (k : Int) := by omega
            have hpl0 : plErr most n f l = 0 := (playErr_in HM.out hin).symm.trans HER.out
            obtain rfl : wv = 0 := by
              rcases hW.2 with h | h
              · exact h.1
              · exact h.2.trans hpl0
            clear hW hin hpl0
            go_wp2_with fail
            refine (awake20_ok w6).mono ?_
            rintro e wz ⟨rfl, hbz⟩
            have HZ := Lib.hid ((HQ.out.1).trans (hbz.mono (HQ.out.1).size))
            clear hbz
            go_wp2_with fail
            go_ret
            exact ⟨rfl, HZ.out⟩

      · obtain rfl := he' h0
        clear he he'
        unfold repV
        have hb4 := new_box w3 (.cells #[.slice none 0 0, .int .i64 0, .int .i64 0, .slice none 0 0, .pointer none] 97)
        have k4 : RptB _ _ 0 (none) := heap_alloc_new w3 (.cells #[.slice none 0 0, .int .i64 0, .int .i64 0, .slice none 0 0, .pointer none] 97)
        go_upto_region 10 with fail
        generalize w3.alloc (.cells #[.slice none 0 0, .int .i64 0, .int .i64 0, .slice none 0 0, .pointer none] 97) = w4 at hb4 k4 ⊢
        generalize w3.heap.size = D at k4 ⊢
        have h24 := hb3.trans (hb4.mono hb3.size)
        have HB4 := Lib.hid (And.intro (HB2.out.1.trans (h24.mono HB2.out.1.size)) (And.intro (HB2.out.2.below h24) k4))
        obtain ⟨z0, z1, z2⟩ := HB4.out.2.1.cells
        have HLN := Lib.hid (liveNil_ok w4 most n f 1 0 none 0 0)
        unfold cfgV at HLN
        clear hb3 hb4 h24 k4
        go_wp2_with fail
        refine HLN.out.mono ?_
        rintro e w5 ⟨rfl, hb5⟩
        have HB5 := Lib.hid (And.intro (HB4.out.1.trans (hb5.mono HB4.out.1.size)) (And.intro (HB4.out.2.1.below hb5) (HB4.out.2.2.below hb5)))
        clear hb5 HLN z0 z1 z2
        go_wp2_with fail
        go_loopw [13, 14] (fun q i wr => ∃ (j : Nat) (wv : Int), j ≤ m ∧ i = .int .i64 (j : Int) ∧ q = .int .i64 wv ∧ WantI w5 most n f l j wv wr) (fun _ i _ => m - (intOf i).toNat)
        case atStart => exact ⟨0, 0, Nat.zero_le _, rfl, rfl, Below.refl _ _, .inl ⟨rfl, by simp⟩⟩
        case round =>
          clear hkm
          obtain ⟨k, wv, hk, rfl, rfl, hW⟩ := hrel
          rename World => w6
          have HQ := Lib.hid (And.intro (HB5.out.1.trans (hW.1.mono HB5.out.1.size)) (And.intro (HB5.out.2.1.below hW.1) (HB5.out.2.2.below hW.1)))
          by_cases hlt : k < m
          · by_cases hw0 : wv = 0
            · subst hw0
              have HW := Lib.hid hW
              clear hW
              obtain ⟨x, hxk⟩ : ∃ x, l[k]? = some x := ⟨_, List.getElem?_eq_getElem (by rw [HM.out]; exact hlt)⟩
              have hbw := HQ.out.1
              obtain ⟨A', m', c', hpv⟩ := (HP0.out x (List.mem_of_getElem? hxk)).slice
              obtain ⟨b, o, rfl, -, hc⟩ := HX.out (by omega)
              have hcx := hc k x.cells (by simp [hxk])
              have on : ∀ {p : Addr} {v : Value}, w.cell? p = some v → w6.cell? p = some v := fun {p v} h => (hbw.cell (World.block_lt_of_cell? _ _ h)).trans h
              have c0 : w6.cell? ⟨b, o + k * 3, none⟩ = some (.int .i64 x.wk) := on (by simpa using hcx 0 _ rfl)
              have c1 : w6.cell? ⟨b, o + k * 3 + 1, none⟩ = some (.int .i64 x.st) := on (by simpa [Nat.add_assoc] using hcx 1 _ rfl)
              have c2 : w6.cell? ⟨b, o + k * 3 + 2, none⟩ = some (.slice A' m' c') := on (by rw [← hpv]; simpa [Nat.add_assoc] using hcx 2 _ rfl)
              have i1 : (0 : Int) ≤ (k : Int) := by omega
              have i2 : (k : Int) < (m : Int) := by omega
              have HXK := Lib.hid hxk
              clear hbw hc hcx on hxk hpv
              obtain ⟨z0, z1, z2⟩ := HQ.out.2.1.cells
              have HC := Lib.hid (serCheck_ok w6 most n f)
              unfold cfgV at HC
              go_wp2_with fail
              refine HC.out.mono ?_
              rintro e w7 ⟨rfl, hb7⟩
              have HB7 := Lib.hid hb7
              clear HC z0 z1 z2
              by_cases e1 : cfgErr most n f = 0
              · have on : ∀ {p : Addr} {v : Value}, w6.cell? p = some v → w7.cell? p = some v := fun {p v} h => (hb7.cell (World.block_lt_of_cell? _ _ h)).trans h
                have c0 := on c0
                have c1 := on c1
                have E1 := Lib.hid e1
                clear on hb7
                go_wp2_with fail
                refine (schNew_ok w7 x.wk).mono ?_
                rintro e w8 ⟨hb8, hs, hs'⟩
                have on : ∀ {p : Addr} {v : Value}, w7.cell? p = some v → w8.cell? p = some v := fun {p v} h => (hb8.cell (World.block_lt_of_cell? _ _ h)).trans h
                have c1 := on c1
                have HB8 := Lib.hid (HB7.out.trans (hb8.mono HB7.out.size))
                clear on hb8
                by_cases e2 : wkErr x.wk = 0
                · obtain ⟨Bd, nb, rfl, -⟩ := hs e2
                  have E2 := Lib.hid e2
                  clear hs hs' e2 e1
                  by_cases e3 : x.st < 0
                  · have E3 := Lib.hid e3
                    go_wp2_with fail
                    go_roundw
                    case rel => exact ⟨k + 1, 10, by omega, by go_num, rfl, HW.out.next HB8.out HXK.out ((if_pos E3.out).symm.trans (li3 E1.out E2.out))⟩
                    case measure => simp [intOf]; omega
                  · have E3 := Lib.hid e3
                    go_wp2_with fail
                    go_roundw
                    case rel => exact ⟨k + 1, 0, by omega, by go_num, rfl, HW.out.next HB8.out HXK.out ((if_neg (by have := E3.out; omega)).symm.trans (li3 E1.out E2.out))⟩
                    case measure => simp [intOf]; omega
                · obtain rfl := hs' e2
                  have E2 := Lib.hid e2
                  clear hs hs' e1
                  go_wp2_with fail
                  go_roundw
                  case rel => exact ⟨k + 1, wkErr x.wk, by omega, by go_num, rfl, HW.out.next HB8.out HXK.out (li2 E1.out E2.out)⟩
                  case measure => simp [intOf]; omega
              · have E1 := Lib.hid e1
                clear hb7
                go_wp2_with fail
                go_roundw
                case rel => exact ⟨k + 1, cfgErr most n f, by omega, by go_num, rfl, HW.out.next HB7.out HXK.out (li1 E1.out)⟩
                case measure => simp [intOf]; omega
            · have hpl : wv = plErr most n f l := by
                rcases hW.2 with h | h
                · exact absurd h.1 hw0
                · exact h.2
              obtain ⟨d1, d2, d4⟩ := HQ.out.2.2.cells
              have i2 : (k : Int) < (m : Int) := by omega
              by_cases h16 : 16 < m
              · obtain rfl : (23 : Int) = er := (playErr_out HM.out (.inr h16)).symm.trans HER.out
                have h16i : (16 : Int) < (m : Int) := by omega
                have hn0 : ¬ m = 0 := by omega
                clear hpl hW
                go_wp2_with fail
                refine (awake20_ok w6).mono ?_
                rintro e wz ⟨rfl, hbz⟩
                have HZ := Lib.hid ((HQ.out.1).trans (hbz.mono (HQ.out.1).size))
                clear hbz
                go_wp2_with fail
                go_ret
                exact ⟨rfl, HZ.out⟩
              · obtain rfl : wv = er := hpl.trans ((playErr_in HM.out (by omega)).symm.trans HER.out)
                have h16i : ¬ (16 : Int) < (m : Int) := by omega
                have hn0 : ¬ m = 0 := by omega
                clear hpl hW
                go_wp2_with fail
                refine (awake20_ok w6).mono ?_
                rintro e wz ⟨rfl, hbz⟩
                have HZ := Lib.hid ((HQ.out.1).trans (hbz.mono (HQ.out.1).size))
                clear hbz
                go_wp2_with fail
                go_ret
                exact ⟨rfl, HZ.out⟩
          · obtain rfl : k = m := by omega
            obtain ⟨d1, d2, d4⟩ := HQ.out.2.2.cells
            by_cases hout : k = 0 ∨ 16 < k
            · obtain rfl : (23 : Int) = er := (playErr_out HM.out hout).symm.trans HER.out
              clear hW
              rcases hout with hn0 | h16
              · subst hn0
                go_wp2_with fail
                refine (awake20_ok w6).mono ?_
                rintro e wz ⟨rfl, hbz⟩
                have HZ := Lib.hid ((HQ.out.1).trans (hbz.mono (HQ.out.1).size))
                clear hbz
                go_wp2_with fail
                go_ret
                exact ⟨rfl, HZ.out⟩
              · have hn0 : ¬ k = 0 := by omega
                have h16i : (16 : Int) < (k : Int) := by omega
                go_wp2_with fail
                refine (awake20_ok w6).mono ?_
                rintro e wz ⟨rfl, hbz⟩
                have HZ := Lib.hid ((HQ.out.1).trans (hbz.mono (HQ.out.1).size))
                clear hbz
                go_wp2_with fail
                go_ret
                exact ⟨rfl, HZ.out⟩
            · have hpe := (playErr_in (most := most) (n := n) (f := f) HM.out hout).symm.trans HER.out
              have hn0 : ¬ k = 0 := by omega
              have h16i : ¬ (16 : Int) < (k : Int) := by omega
              rcases hW.2 with h | h
              · exact absurd (hpe.symm.trans (plErr_none HM.out h.2)) h0
              · obtain rfl : wv = er := h.2.trans hpe
                clear hW hpe hout
                go_wp2_with fail
                refine (awake20_ok w6).mono ?_
                rintro e wz ⟨rfl, hbz⟩
                have HZ := Lib.hid ((HQ.out.1).trans (hbz.mono (HQ.out.1).size))
                clear hbz
                go_wp2_with fail
                go_ret
                exact ⟨rfl, HZ.out⟩

end Go.Proofs.YtifpaagppjmbhaaGreatDoor
