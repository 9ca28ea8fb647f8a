/- Proved: FootNew returns true for every input: which claims may be, and which ones a footprint has; no condition. -/
import Derived.Test.YtdmpdlpfanfjoaaRefF
namespace Go.Proofs.Ytdmpdlpfanfjoaa
open Go.ChangeShapes Go.WideShapes Go.ChangeAt Go.RowKit

/-- What is wrong with claims, by the document's answer. -/
def RightP (l : List Cl) (w : World) (e : Ending) (w' : World) : Prop :=
  Below w.heap.size w w' ∧ ((errOf l ≠ 0 ∧ e = .returned (.int .i64 (errOf l))) ∨ (errOf l = 0 ∧ ∃ out, IsForm l out ∧ ((64 < out.length ∧ e = .returned (.int .i64 23)) ∨ (out.length ≤ 64 ∧ e = .returned (.int .i64 0)))))

set_option maxRecDepth 100000 in
set_option maxHeartbeats 1000000 in
theorem right_ok (w : World) (F : Nat → Prop) (v : Value) (l : List Cl) (h : ClRd w F v l) (hfit : ∀ c ∈ l, c.fits) (hl : l.length ≤ 1000) :
    Calls Try.prog 22 #[v] w (RightP l w) := by
  obtain ⟨A, c, rfl, hnc, hcm⟩ := h.slice
  have H := Lib.hid h
  clear h
  go_enter Try.func22, Try.ntmps22
  go_wp2_with fail
  go_loopw [3] (fun i wr => ∃ k : Nat, k ≤ l.length ∧ i = .int .i64 (k : Int) ∧ (∀ c ∈ l.take k, Ok c) ∧ Below w.heap.size w wr) (fun i _ => l.length - (intOf i).toNat)
  case atStart => exact ⟨0, Nat.zero_le _, rfl, by simp, Below.refl _ _⟩
  case round =>
    obtain ⟨k, hk, rfl, hok, hbl⟩ := hrel
    by_cases hlt : k < l.length
    · obtain ⟨x, hx⟩ : ∃ x, l[k]? = some x := ⟨_, List.getElem?_eq_getElem hlt⟩
      obtain ⟨b, o, rfl, hFb, c0, c1, c2, c3, c4⟩ := H.out.at_ hx
      have hb : b < w.heap.size := World.block_lt_of_cell? w _ c0
      have c0' := (hbl.cell (p := ⟨b, o + k * 5, none⟩) hb).trans c0
      have c1' := (hbl.cell (p := ⟨b, o + k * 5 + 1, none⟩) hb).trans c1
      have c2' := (hbl.cell (p := ⟨b, o + k * 5 + 2, none⟩) hb).trans c2
      have c3' := (hbl.cell (p := ⟨b, o + k * 5 + 3, none⟩) hb).trans c3
      have c4' := (hbl.cell (p := ⟨b, o + k * 5 + 4, none⟩) hb).trans c4
      have hcon := refCheck_ok wr x
      unfold Cl.val at hcon
      have HL := Lib.hid (And.intro hok (And.intro hbl hx))
      clear hok hbl hx c0 c1 c2 c3 c4
      by_cases he : chk x = 0
      · have hokx : Ok x := he
        rw [he] at hcon
        clear he
        go_wp2_with fail
        refine hcon.mono ?_
        rintro e w2 ⟨rfl, hb2⟩
        have HB := Lib.hid hb2
        clear hb2 hcon c0' c1' c2' c3' c4'
        go_wp2_with fail
        go_roundw
        case rel => exact ⟨k + 1, by omega, by go_num, ok_snoc HL.out.1 HL.out.2.2 hokx, HL.out.2.1.trans (HB.out.mono HL.out.2.1.size)⟩
        case measure => simp [intOf]; omega
      · obtain ⟨er, her⟩ : ∃ er, chk x = er := ⟨_, rfl⟩
        rw [her] at hcon he
        have he1 : (er == 0) = false := by simpa using he
        have he2 : (er != 0) = true := by simpa using he
        have HE := Lib.hid (And.intro her he)
        clear her he
        go_wp2_with fail
        refine hcon.mono ?_
        rintro e w2 ⟨rfl, hb2⟩
        have HB := Lib.hid hb2
        clear hb2 hcon
        go_wp2_with fail
        go_ret
        have e1 := errOf_at HL.out.1 HL.out.2.2 (by rw [HE.out.1]; exact HE.out.2)
        rw [HE.out.1] at e1
        exact ⟨HL.out.2.1.trans (HB.out.mono HL.out.2.1.size), .inl ⟨by rw [e1]; exact HE.out.2, by rw [e1]; rfl⟩⟩
    · have hkl : k = l.length := by omega
      subst hkl
      rw [List.take_length] at hok
      have HL := Lib.hid (And.intro hok hbl)
      clear hok hbl
      go_wp2_with fail
      refine (normal_ok wr F _ l (ClRd.below H.out HL.out.2) (fun c hc => ⟨HL.out.1 c hc, hfit c hc⟩) hl).mono ?_
      rintro e w2 ⟨out, hf, A2, c2, rfl, hO, hb2⟩
      have HB := Lib.hid (And.intro hf (HL.out.2.trans (hb2.mono HL.out.2.size)))
      clear hf hO hb2
      by_cases h64 : 64 < out.length
      · go_wp2_with fail
        go_ret
        exact ⟨HB.out.2, .inr ⟨errOf_ok HL.out.1, out, HB.out.1, .inl ⟨h64, rfl⟩⟩⟩
      · go_wp2_with fail
        go_ret
        exact ⟨HB.out.2, .inr ⟨errOf_ok HL.out.1, out, HB.out.1, .inr ⟨by omega, rfl⟩⟩⟩

set_option maxRecDepth 100000 in
set_option maxHeartbeats 4000000 in
theorem fnew_far (w0 : World) (F : Nat → Prop) (v : Value) (l : List Cl) (h : ClRd w0 F v l) (hfit : ∀ c ∈ l, c.fits) (hfew : ¬ FewP l) :
    Calls Try.prog 3 #[v] w0 fun e w' => e = .returned (.bool true) ∧ Below w0.heap.size w0 w' := by
  obtain ⟨A, c, rfl, hnc, hcm⟩ := h.slice
  have HL := Lib.hid h
  have HFW := Lib.hid hfew
  clear h hfew
  go_enter Try.func3, Try.ntmps3
  go_wp2_with fail
  refine (few_ok _ F _ l HL.out hfit).mono ?_
  rintro e w1 ⟨r1, hr1, rfl, hb1⟩
  obtain rfl : r1 = false := Bool.eq_false_iff.2 (fun hh => (HFW.out) (hr1.1 hh))
  clear hr1
  have hbb1 := hb1
  have HB1 := Lib.hid hbb1
  clear hbb1 hb1
  go_wp2_with fail
  refine (awake_ok _).mono ?_
  rintro e w2 ⟨rfl, hb2⟩
  have hbb2 := hb2
  have HB2 := Lib.hid (HB1.out.trans (hbb2.mono HB1.out.size))
  clear HB1 hbb2 hb2
  go_wp2_with fail
  go_ret
  exact ⟨rfl, HB2.out⟩

set_option maxRecDepth 100000 in
set_option maxHeartbeats 4000000 in
theorem fnew_near (w0 : World) (F : Nat → Prop) (v : Value) (l : List Cl) (h : ClRd w0 F v l) (hfit : ∀ c ∈ l, c.fits) (hfew : FewP l) :
    Calls Try.prog 3 #[v] w0 fun e w' => e = .returned (.bool true) ∧ Below w0.heap.size w0 w' := by
  obtain ⟨A, c, rfl, hnc, hcm⟩ := h.slice
  have HL := Lib.hid h
  have HFW := Lib.hid hfew
  clear h hfew
  go_enter Try.func3, Try.ntmps3
  have hl100 : l.length ≤ 100 := HFW.out.1
  go_wp2_with fail
  refine (few_ok _ F _ l HL.out hfit).mono ?_
  rintro e w1 ⟨r1, hr1, rfl, hb1⟩
  obtain rfl : r1 = true := hr1.2 (HFW.out)
  clear hr1
  have hbb1 := hb1
  have HB1 := Lib.hid hbb1
  clear hbb1 hb1
  go_wp2_with fail
  go_loopw [3] (fun i wr => ∃ k : Nat, k ≤ l.length ∧ i = .int .i64 (k : Int) ∧ Below w0.heap.size w0 wr) (fun i _ => l.length - (intOf i).toNat)
  case atStart => exact ⟨0, Nat.zero_le _, rfl, HB1.out⟩
  case round =>
    obtain ⟨k, hk, rfl, hbl⟩ := hrel
    clear HB1
    obtain ⟨w2, rfl⟩ : ∃ w2 : World, w2 = wr := ⟨_, rfl⟩
    have HB2 := Lib.hid hbl
    clear hbl
    by_cases hlt : k < l.length
    · obtain ⟨y, hy⟩ : ∃ y, l[k]? = some y := ⟨_, List.getElem?_eq_getElem hlt⟩
      obtain ⟨b1, o1, rfl, hF1, d0, d1, d2, d3, d4⟩ := HL.out.at_ hy
      have hb1 : b1 < w0.heap.size := World.block_lt_of_cell? w0 _ d0
      have hb1r : b1 < w2.heap.size := Nat.lt_of_lt_of_le hb1 HB2.out.size
      have k0 : (0 : Int) ≤ (k : Int) := by omega
      have k1 : (k : Int) < (l.length : Int) := by omega
      have d0' := (HB2.out.cell (p := ⟨b1, o1 + k * 5, none⟩) hb1).trans d0
      have d1' := (HB2.out.cell (p := ⟨b1, o1 + k * 5 + 1, none⟩) hb1).trans d1
      have d2' := (HB2.out.cell (p := ⟨b1, o1 + k * 5 + 2, none⟩) hb1).trans d2
      have d3' := (HB2.out.cell (p := ⟨b1, o1 + k * 5 + 3, none⟩) hb1).trans d3
      have d4' := (HB2.out.cell (p := ⟨b1, o1 + k * 5 + 4, none⟩) hb1).trans d4
      clear d0 d1 d2 d3 d4 hy
      go_upto_region 6 with fail
      refine wp_region_held_drew (S := (fun w' => Below w2.heap.size w2 w')) (by kernel_rfl) (Below.refl _ _).drew (fun hHeld => ?_)
      refine take_lit (i := 0) (v := ?_) rfl (by kernel_rfl) (by kernel_rfl) (by kernel_rfl) (fun _ _ _ h => h) (by rfl) (fun w hSw => ?_) hHeld ?_
      rotate_left
      · go_simp; try with_reducible rfl
      try simp only [Act.put, List.setIfInBounds_toArray, List.set_cons_zero, List.set_cons_succ]
      refine take_lit (i := 1) (v := ?_) rfl (by kernel_rfl) (by kernel_rfl) (by kernel_rfl) (fun _ _ _ h => h) (by rfl) (fun w hSw => ?_) hHeld ?_
      rotate_left
      · go_simp; try with_reducible rfl
      try simp only [Act.put, List.setIfInBounds_toArray, List.set_cons_zero, List.set_cons_succ]
      refine take_lit (i := 2) (v := ?_) rfl (by kernel_rfl) (by kernel_rfl) (by kernel_rfl) (fun _ _ _ h => h) (by rfl) (fun w hSw => ?_) hHeld ?_
      rotate_left
      · go_simp; try with_reducible rfl
      try simp only [Act.put, List.setIfInBounds_toArray, List.set_cons_zero, List.set_cons_succ]
      refine take_lit (i := 3) (v := ?_) rfl (by kernel_rfl) (by kernel_rfl) (by kernel_rfl) (fun _ _ _ h => h) (by rfl) (fun w hSw => ?_) hHeld ?_
      rotate_left
      · have z0 := (hSw.cell (p := ⟨b1, o1 + k * 5, none⟩) hb1r).trans d0'; have z1 := (hSw.cell (p := ⟨b1, o1 + k * 5 + 1, none⟩) hb1r).trans d1'; have z2 := (hSw.cell (p := ⟨b1, o1 + k * 5 + 2, none⟩) hb1r).trans d2'; have z3 := (hSw.cell (p := ⟨b1, o1 + k * 5 + 3, none⟩) hb1r).trans d3'; have z4 := (hSw.cell (p := ⟨b1, o1 + k * 5 + 4, none⟩) hb1r).trans d4'; go_simp; try with_reducible rfl
      try simp only [Act.put, List.setIfInBounds_toArray, List.set_cons_zero, List.set_cons_succ]
      refine take_lit (i := 5) (v := ?_) rfl (by kernel_rfl) (by kernel_rfl) (by kernel_rfl) (fun _ _ _ h => h) (by rfl) (fun w hSw => ?_) hHeld ?_
      rotate_left
      · go_simp; try with_reducible rfl
      try simp only [Act.put, List.setIfInBounds_toArray, List.set_cons_zero, List.set_cons_succ]
      refine take_lit (i := 6) (v := ?_) rfl (by kernel_rfl) (by kernel_rfl) (by kernel_rfl) (fun _ _ _ h => h) (by rfl) (fun w hSw => ?_) hHeld ?_
      rotate_left
      · go_simp; try with_reducible rfl
      try simp only [Act.put, List.setIfInBounds_toArray, List.set_cons_zero, List.set_cons_succ]
      refine take_lit (i := 7) (v := ?_) rfl (by kernel_rfl) (by kernel_rfl) (by kernel_rfl) (fun _ _ _ h => h) (by rfl) (fun w hSw => ?_) hHeld ?_
      rotate_left
      · go_simp; try with_reducible rfl
      try simp only [Act.put, List.setIfInBounds_toArray, List.set_cons_zero, List.set_cons_succ]
      refine take_lit (i := 8) (v := ?_) rfl (by kernel_rfl) (by kernel_rfl) (by kernel_rfl) (fun _ _ _ h => h) (by rfl) (fun w hSw => ?_) hHeld ?_
      rotate_left
      · have z0 := (hSw.cell (p := ⟨b1, o1 + k * 5, none⟩) hb1r).trans d0'; have z1 := (hSw.cell (p := ⟨b1, o1 + k * 5 + 1, none⟩) hb1r).trans d1'; have z2 := (hSw.cell (p := ⟨b1, o1 + k * 5 + 2, none⟩) hb1r).trans d2'; have z3 := (hSw.cell (p := ⟨b1, o1 + k * 5 + 3, none⟩) hb1r).trans d3'; have z4 := (hSw.cell (p := ⟨b1, o1 + k * 5 + 4, none⟩) hb1r).trans d4'; go_simp; try with_reducible rfl
      try simp only [Act.put, List.setIfInBounds_toArray, List.set_cons_zero, List.set_cons_succ]
      refine wpAnyH_ready (rs := [4]) (by kernel_rfl) (by simp) (cons_lit (i := 4) rfl (fun K hK => ?_) AllReadyH.nil)
      go_simp
      refine (check_ok _ y).mono ?_
      rintro e wn ⟨rfl, hbn⟩
      try go_simp
      refine hK.out _ _ (hHeld.trans (hbn.mono hHeld.size)) (fun hHeld2 => ?_)
      clear hK K hHeld hbn
      have hHeld := hHeld2
      clear hHeld2
      try simp only [Act.put, List.setIfInBounds_toArray, List.set_cons_zero, List.set_cons_succ]
      refine wpAnyH_ready (rs := [9]) (by kernel_rfl) (by simp) (cons_lit (i := 9) rfl (fun K hK => ?_) AllReadyH.nil)
      go_simp
      refine (refCheck_ok _ y).mono ?_
      rintro e wn ⟨rfl, hbn⟩
      try go_simp
      refine hK.out _ _ (hHeld.trans (hbn.mono hHeld.size)) (fun hHeld2 => ?_)
      clear hK K hHeld hbn
      have hHeld := hHeld2
      clear hHeld2
      try simp only [Act.put, List.setIfInBounds_toArray, List.set_cons_zero, List.set_cons_succ]
      refine take_lit (i := 10) (v := ?_) rfl (by kernel_rfl) (by kernel_rfl) (by kernel_rfl) (fun _ _ _ h => h) (by rfl) (fun w hSw => ?_) hHeld ?_
      rotate_left
      · go_simp; try with_reducible rfl
      try simp only [Act.put, List.setIfInBounds_toArray, List.set_cons_zero, List.set_cons_succ]
      refine wpAnyH_done (by kernel_rfl) ?_ _
      have HH := Lib.hid hHeld
      clear hHeld d0' d1' d2' d3' d4'
      go_wp2_with fail
      go_roundw
      case rel => exact ⟨k + 1, by omega, by go_num, HB2.out.trans (HH.out.mono HB2.out.size)⟩
      case measure => simp [intOf]; omega
    · have hkl : k = l.length := by omega
      subst hkl
      go_wp2_with fail
      refine (new_ok _ F _ l (RdK.below HL.out HB2.out) (by omega) hfit).mono ?_
      intro e w3 hnp
      obtain ⟨v3, n3, rfl, hnv⟩ := hnp.named
      have hb3 := hnv.1
      have HNV := Lib.hid hnv.2
      clear hnp hnv
      have hbb3 := hb3
      have HB3 := Lib.hid (HB2.out.trans (hbb3.mono HB2.out.size))
      clear HB2 hbb3 hb3
      rcases HNV.out with ⟨h1, rfl, rfl⟩ | ⟨h1, out, hf, ⟨h3, rfl, rfl⟩ | ⟨h3, rfl, AF, cF, rfl, hO⟩⟩
      · clear HNV
        have e1 : (errOf l == 0) = false := by simpa using h1
        have e2 : (errOf l != 0) = true := by simpa using h1
        have HE := Lib.hid h1
        clear h1
        have RDF : Hid (ClRd w3 (fun _ => True) (.slice none 0 0) []) := Lib.hid (RdK.nil _ _ _)
        go_wp2_with fail
        refine (right_ok _ F _ l (RdK.below (RdK.below HL.out HB3.out) (one_box _ _)) hfit (by omega)).mono ?_
        rintro e w4 ⟨hb4, hrr⟩
        obtain rfl : e = .returned (.int .i64 (errOf l)) := by
          rcases hrr with ⟨_, h⟩ | ⟨h, _⟩
          · exact h
          · exact absurd h HE.out
        clear hrr
        have hbb4 := unbox hb4
        have GF := Lib.hid (Ft.made (A := none) (l := ([] : List Cl)) (c := 0) hb4 RDF.out)
        have HB4 := Lib.hid (HB3.out.trans (hbb4.mono HB3.out.size))
        clear RDF HB3 hbb4 hb4
        have FF := GF
        have kF := FF.out.1
        have lF := FF.out.2.1
        clear GF
        go_wp2_with fail
        refine (len_ok _ (fun _ => True) _ _ FF.out.2.2).mono ?_
        rintro e w5 ⟨rfl, hb5⟩
        have hbb5 := hb5
        have GF := Lib.hid (FF.out.below hbb5)
        have HB5 := Lib.hid (HB4.out.trans (hbb5.mono HB4.out.size))
        clear FF kF lF HB4 hbb5 hb5
        have FF := GF
        have kF := FF.out.1
        have lF := FF.out.2.1
        clear GF
        go_wp2_with fail
        refine (claims_ok _ (fun _ => True) _ [] FF.out.2.2 (by decide)).mono ?_
        rintro e w6 ⟨A6, c6, rfl, _, hb6⟩
        have hbb6 := hb6
        have GF := Lib.hid (FF.out.below hbb6)
        have HB6 := Lib.hid (HB5.out.trans (hbb6.mono HB5.out.size))
        clear FF kF lF HB5 hbb6 hb6
        have FF := GF
        have kF := FF.out.1
        have lF := FF.out.2.1
        clear GF
        go_wp2_with fail
        refine (awake_ok _).mono ?_
        rintro e w7 ⟨rfl, hb7⟩
        have hbb7 := hb7
        have GF := Lib.hid (FF.out.below hbb7)
        have HB7 := Lib.hid (HB6.out.trans (hbb7.mono HB6.out.size))
        clear FF kF lF HB6 hbb7 hb7
        have FF := GF
        have kF := FF.out.1
        have lF := FF.out.2.1
        clear GF
        go_wp2_with fail
        go_ret
        exact ⟨rfl, HB7.out⟩
      · clear HNV
        have HE := Lib.hid (And.intro h1 (And.intro hf h3))
        clear h1 hf h3
        have RDF : Hid (ClRd w3 (fun _ => True) (.slice none 0 0) []) := Lib.hid (RdK.nil _ _ _)
        go_wp2_with fail
        refine (right_ok _ F _ l (RdK.below (RdK.below HL.out HB3.out) (one_box _ _)) hfit (by omega)).mono ?_
        rintro e w4 ⟨hb4, hrr⟩
        obtain rfl : e = .returned (.int .i64 23) := by
          rcases hrr with ⟨h, _⟩ | ⟨_, out2, hf2, ⟨_, h⟩ | ⟨h, _⟩⟩
          · exact absurd HE.out.1 h
          · exact h
          · have := HE.out.2.1.unique hf2; subst this; have := HE.out.2.2; omega
        clear hrr
        have hbb4 := unbox hb4
        have GF := Lib.hid (Ft.made (A := none) (l := ([] : List Cl)) (c := 0) hb4 RDF.out)
        have HB4 := Lib.hid (HB3.out.trans (hbb4.mono HB3.out.size))
        clear RDF HB3 hbb4 hb4
        have FF := GF
        have kF := FF.out.1
        have lF := FF.out.2.1
        clear GF
        go_wp2_with fail
        refine (len_ok _ (fun _ => True) _ _ FF.out.2.2).mono ?_
        rintro e w5 ⟨rfl, hb5⟩
        have hbb5 := hb5
        have GF := Lib.hid (FF.out.below hbb5)
        have HB5 := Lib.hid (HB4.out.trans (hbb5.mono HB4.out.size))
        clear FF kF lF HB4 hbb5 hb5
        have FF := GF
        have kF := FF.out.1
        have lF := FF.out.2.1
        clear GF
        go_wp2_with fail
        refine (claims_ok _ (fun _ => True) _ [] FF.out.2.2 (by decide)).mono ?_
        rintro e w6 ⟨A6, c6, rfl, _, hb6⟩
        have hbb6 := hb6
        have GF := Lib.hid (FF.out.below hbb6)
        have HB6 := Lib.hid (HB5.out.trans (hbb6.mono HB5.out.size))
        clear FF kF lF HB5 hbb6 hb6
        have FF := GF
        have kF := FF.out.1
        have lF := FF.out.2.1
        clear GF
        go_wp2_with fail
        refine (awake_ok _).mono ?_
        rintro e w7 ⟨rfl, hb7⟩
        have hbb7 := hb7
        have GF := Lib.hid (FF.out.below hbb7)
        have HB7 := Lib.hid (HB6.out.trans (hbb7.mono HB6.out.size))
        clear FF kF lF HB6 hbb7 hb7
        have FF := GF
        have kF := FF.out.1
        have lF := FF.out.2.1
        clear GF
        go_wp2_with fail
        go_ret
        exact ⟨rfl, HB7.out⟩
      · clear HNV
        have hgl : Good l := fun c hc => ⟨ok_of_errOf h1 c hc, hfit c hc⟩
        have HG := Lib.hid (And.intro hf (And.intro hgl (And.intro (form_good hf hgl) h1)))
        have RDF := Lib.hid (fresh_rd hO)
        have hol : out.length ≤ 64 := h3
        clear h1 hf hgl h3 hO
        go_wp2_with fail
        refine (right_ok _ F _ l (RdK.below (RdK.below HL.out HB3.out) (one_box _ _)) hfit (by omega)).mono ?_
        rintro e w4 ⟨hb4, hrr⟩
        obtain rfl : e = .returned (.int .i64 0) := by
          rcases hrr with ⟨h, _⟩ | ⟨_, out2, hf2, ⟨h, _⟩ | ⟨_, h⟩⟩
          · exact absurd HG.out.2.2.2 h
          · have := HG.out.1.unique hf2; subst this; omega
          · exact h
        clear hrr
        have hbb4 := unbox hb4
        have GF := Lib.hid (Ft.made (A := AF) (l := out) (c := cF) hb4 RDF.out)
        have HB4 := Lib.hid (HB3.out.trans (hbb4.mono HB3.out.size))
        clear RDF HB3 hbb4 hb4
        have FF := GF
        have kF := FF.out.1
        have lF := FF.out.2.1
        clear GF
        go_wp2_with fail
        refine (normal_ok _ F _ l (RdK.below HL.out HB4.out) HG.out.2.1 (by omega)).mono ?_
        rintro e w5 ⟨out2, hf2, AN, cN, rfl, hO, hb5⟩
        obtain rfl : out = out2 := HG.out.1.unique hf2
        have RXN := Lib.hid (fresh_rd hO)
        clear hf2 hO
        have hbb5 := hb5
        have GF := Lib.hid (FF.out.below hbb5)
        have HB5 := Lib.hid (HB4.out.trans (hbb5.mono HB4.out.size))
        clear FF kF lF HB4 hbb5 hb5
        have FF := GF
        have kF := FF.out.1
        have lF := FF.out.2.1
        clear GF
        go_wp2_with fail
        refine (len_ok _ (fun _ => True) _ _ FF.out.2.2).mono ?_
        rintro e w6 ⟨rfl, hb6⟩
        have hbc := hb6
        have RYN := Lib.hid (ClRd.below RXN.out hbc)
        clear RXN hbc
        have RXN := RYN
        clear RYN
        have hbb6 := hb6
        have GF := Lib.hid (FF.out.below hbb6)
        have HB6 := Lib.hid (HB5.out.trans (hbb6.mono HB5.out.size))
        clear FF kF lF HB5 hbb6 hb6
        have FF := GF
        have kF := FF.out.1
        have lF := FF.out.2.1
        clear GF
        go_wp2_with fail
        refine (claims_ok _ (fun _ => True) _ out FF.out.2.2 (by omega)).mono ?_
        rintro e w7 ⟨AC, cC, rfl, hOC, hb7⟩
        have hbc := hb7
        have RXC := Lib.hid (fresh_rd hOC)
        clear hOC
        have RYN := Lib.hid (ClRd.below RXN.out hbc)
        clear RXN hbc
        have RXN := RYN
        clear RYN
        have hbb7 := hb7
        have GF := Lib.hid (FF.out.below hbb7)
        have HB7 := Lib.hid (HB6.out.trans (hbb7.mono HB6.out.size))
        clear FF kF lF HB6 hbb7 hb7
        have FF := GF
        have kF := FF.out.1
        have lF := FF.out.2.1
        clear GF
        go_wp2_with fail
        refine (lawClaims_ok _ (fun _ => True) (fun _ => True) _ _ out out RXC.out RXN.out (by omega)).mono ?_
        rintro e w8 ⟨r8, hr8, rfl, hb8⟩
        obtain rfl : r8 = true := hr8.2 rfl
        clear hr8 RXC RXN
        have hbb8 := hb8
        have GF := Lib.hid (FF.out.below hbb8)
        have HB8 := Lib.hid (HB7.out.trans (hbb8.mono HB7.out.size))
        clear FF kF lF HB7 hbb8 hb8
        have FF := GF
        have kF := FF.out.1
        have lF := FF.out.2.1
        clear GF
        go_wp2_with fail
        refine (awake_ok _).mono ?_
        rintro e w9 ⟨rfl, hb9⟩
        have hbb9 := hb9
        have GF := Lib.hid (FF.out.below hbb9)
        have HB9 := Lib.hid (HB8.out.trans (hbb9.mono HB8.out.size))
        clear FF kF lF HB8 hbb9 hb9
        have FF := GF
        have kF := FF.out.1
        have lF := FF.out.2.1
        clear GF
        go_wp2_with fail
        go_ret
        exact ⟨rfl, HB9.out⟩

set_option maxRecDepth 100000 in
theorem footNew_lifted (os : Os) (started : os.Started) (H : Type) (enc : TypeId × Value → H) :
    ReturnsInHanded {} Try.checked os 3 .any (Rows.footNewSpec.pre6 enc Try.prog Try.f3 Rows.footNewRow.domain false) (Rows.footNewSpec.post enc Try.prog Try.f3 false true false false) := by
  refine law_lifted os started H enc 3 Try.f3 Rows.footNewSpec (by kernel_rfl) Try.func3 rfl (by kernel_rfl) ?_ ?_
    (ChangeSpec.witness6 (enc := enc) (C := Try.checked) false ⟨#[], #[.slice none 0 0], []⟩ 8 (by kernel_rfl) (by kernel_rfl) (by kernel_rfl) (by kernel_rfl)) ?_
  · rw [Try.params3]
    intro t ht
    simp at ht
    subst ht
    exact ⟨by kernel_rfl, of_decide_eq_true (by kernel_rfl)⟩
  · intro ds hl
    rw [Try.params3] at hl
    match ds, hl with
    | [d1], _ => exact ⟨rfl, rfl, rfl⟩
  · intro W base args ds p hval hA
    rw [Try.params3] at hA hval
    obtain ⟨v0, d0, hargs, rfl, h0⟩ := trodAll_one hA
    subst hargs
    obtain ⟨l0, r0, f0⟩ := claims_of_trod (hval 0 22 v0 rfl rfl) h0
    by_cases hf : FewP l0
    · exact fnew_near W _ v0 l0 r0 f0 hf
    · exact fnew_far W _ v0 l0 r0 f0 hf

theorem footNew_holds : Rows.FootNewSaid :=
  OpenClaim.holds_of_wide 3 Try.f3 rfl rfl rfl rfl rfl rfl rfl ⟨rfl, rfl, rfl, rfl, rfl⟩ rfl rfl rfl rfl rfl (by kernel_rfl) Try.func3 (by kernel_rfl)
    (of_decide_eq_true (by kernel_rfl)) (by unfold Func.isWrapper; rw [if_neg (of_decide_eq_false (by kernel_rfl))]; exact ⟨rfl, rfl⟩)
    (fun os started H enc _ => footNew_lifted os started H enc)

#print axioms footNew_holds

end Go.Proofs.Ytdmpdlpfanfjoaa
