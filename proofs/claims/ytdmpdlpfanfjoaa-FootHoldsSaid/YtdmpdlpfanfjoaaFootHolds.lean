/- Proved: FootHolds returns true for every input: whether a footprint is within another one, whether they conflict, and whether they are the same; no condition. -/
import Derived.Test.YtdmpdlpfanfjoaaRefH
namespace Go.Proofs.Ytdmpdlpfanfjoaa
open Go.ChangeShapes Go.WideShapes Go.ChangeAt Go.RowKit

theorem refWithin_is {w : World} {F G : Nat → Prop} {v u : Value} {a b : List Cl} (r : Bool) (hr : Tells r (WithinP a b)) (ha : ClRd w F v a) (hb : ClRd w G u b) (hla : a.length ≤ 1000) (hlb : b.length ≤ 1000) (ga : Good a) (gb : Good b) :
    Calls Try.prog 31 #[v, u] w (Ans r w) := (refWithin_ok w F G v u a b ha hb hla hlb ga gb).mono fun _ _ h => h.ans hr
theorem refConflict_is {w : World} {F G : Nat → Prop} {v u : Value} {a b : List Cl} (r : Bool) (hr : Tells r (ConflP a b)) (ha : ClRd w F v a) (hb : ClRd w G u b) (hla : a.length ≤ 1000000) (hlb : b.length ≤ 1000000) (ga : Good a) (gb : Good b) :
    Calls Try.prog 32 #[v, u] w (Ans r w) := (refConflict_ok w F G v u a b ha hb hla hlb ga gb).mono fun _ _ h => h.ans hr
theorem form_within {a b x y : List Cl} (hx : IsForm a x) (hy : IsForm b y) : WithinP a b ↔ WithinP x y := by
  rw [within_lev, within_lev]
  exact ⟨fun h t => by rw [hx.2, hy.2]; exact h t, fun h t => by rw [← hx.2, ← hy.2]; exact h t⟩
theorem form_confl {a b x y : List Cl} (ga : Good a) (gb : Good b) (gx : Good x) (gy : Good y) (hx : IsForm a x) (hy : IsForm b y) : ConflP a b ↔ ConflP x y := by
  rw [confl_lev ga gb, confl_lev gx gy]
  constructor
  · rintro ⟨t, h⟩; exact ⟨t, by rw [hx.2, hy.2]; exact h⟩
  · rintro ⟨t, h⟩; exact ⟨t, by rw [← hx.2, ← hy.2]; exact h⟩
theorem form_same {a b x y : List Cl} (hx : IsForm a x) (hy : IsForm b y) : x = y ↔ WithinP a b ∧ WithinP b a := by
  constructor
  · rintro rfl
    rw [form_within hx hy, form_within hy hx]
    exact ⟨within_lev.2 fun _ => Int.le_refl _, within_lev.2 fun _ => Int.le_refl _⟩
  · rintro ⟨h1, h2⟩
    rw [within_lev] at h1 h2
    exact IsForm.unique hx ⟨hy.1, fun t => by rw [hy.2]; exact Int.le_antisymm (h2 t) (h1 t)⟩

set_option maxRecDepth 100000 in
set_option maxHeartbeats 4000000 in
theorem fholds_far0 (w0 : World) (F0 F1 : Nat → Prop) (v0 v1 : Value) (l0 l1 : List Cl) (h0 : ClRd w0 F0 v0 l0) (h1 : ClRd w0 F1 v1 l1) (f0 : ∀ c ∈ l0, c.fits) (_f1 : ∀ c ∈ l1, c.fits)  (g0 : ¬ FewP l0) :
    Calls Try.prog 6 #[v0, v1] w0 fun e w' => e = .returned (.bool true) ∧ Below w0.heap.size w0 w' := by
  obtain ⟨A0, c0, rfl, _, _⟩ := h0.slice
  obtain ⟨A1, c1, rfl, _, _⟩ := h1.slice
  have HL0 := Lib.hid h0
  have HL1 := Lib.hid h1
  clear h0 h1
  have HW0 := Lib.hid g0
  clear g0
  go_enter Try.func6, Try.ntmps6
  go_wp2_with fail
  refine (few_ok _ F0 _ l0 HL0.out f0).mono ?_
  rintro e w1 ⟨r1, hr1, rfl, hb1⟩
  obtain rfl : r1 = false := Bool.eq_false_iff.2 (fun hh => (HW0.out) (hr1.1 hh))
  clear hr1
  have hbb1 := hb1
  have HB1 := Lib.hid hbb1
  clear hbb1 hb1
  go_wp2_with fail
  refine (awake_ok _).mono ?_
  rintro e w2 ⟨rfl, hb2⟩
  have hbb2 := hb2
  have HB2 := Lib.hid (HB1.out.trans (hbb2.mono HB1.out.size))
  clear HB1 hbb2 hb2
  go_wp2_with fail
  go_ret
  exact ⟨rfl, HB2.out⟩

set_option maxRecDepth 100000 in
set_option maxHeartbeats 4000000 in
theorem fholds_far1 (w0 : World) (F0 F1 : Nat → Prop) (v0 v1 : Value) (l0 l1 : List Cl) (h0 : ClRd w0 F0 v0 l0) (h1 : ClRd w0 F1 v1 l1) (f0 : ∀ c ∈ l0, c.fits) (f1 : ∀ c ∈ l1, c.fits) (g0 : FewP l0) (g1 : ¬ FewP l1) :
    Calls Try.prog 6 #[v0, v1] w0 fun e w' => e = .returned (.bool true) ∧ Below w0.heap.size w0 w' := by
  obtain ⟨A0, c0, rfl, _, _⟩ := h0.slice
  obtain ⟨A1, c1, rfl, _, _⟩ := h1.slice
  have HL0 := Lib.hid h0
  have HL1 := Lib.hid h1
  clear h0 h1
  have HW0 := Lib.hid g0
  clear g0
  have HW1 := Lib.hid g1
  clear g1
  go_enter Try.func6, Try.ntmps6
  go_wp2_with fail
  refine (few_ok _ F0 _ l0 HL0.out f0).mono ?_
  rintro e w1 ⟨r1, hr1, rfl, hb1⟩
  obtain rfl : r1 = true := hr1.2 (HW0.out)
  clear hr1
  have hbb1 := hb1
  have HB1 := Lib.hid hbb1
  clear hbb1 hb1
  go_wp2_with fail
  refine (few_ok _ F1 _ l1 (RdK.below HL1.out HB1.out) f1).mono ?_
  rintro e w2 ⟨r2, hr2, rfl, hb2⟩
  obtain rfl : r2 = false := Bool.eq_false_iff.2 (fun hh => (HW1.out) (hr2.1 hh))
  clear hr2
  have hbb2 := hb2
  have HB2 := Lib.hid (HB1.out.trans (hbb2.mono HB1.out.size))
  clear HB1 hbb2 hb2
  go_wp2_with fail
  refine (awake_ok _).mono ?_
  rintro e w3 ⟨rfl, hb3⟩
  have hbb3 := hb3
  have HB3 := Lib.hid (HB2.out.trans (hbb3.mono HB2.out.size))
  clear HB2 hbb3 hb3
  go_wp2_with fail
  go_ret
  exact ⟨rfl, HB3.out⟩

set_option maxRecDepth 100000 in
set_option maxHeartbeats 4000000 in
theorem fholds_near (w0 : World) (F0 F1 : Nat → Prop) (v0 v1 : Value) (l0 l1 : List Cl) (h0 : ClRd w0 F0 v0 l0) (h1 : ClRd w0 F1 v1 l1) (f0 : ∀ c ∈ l0, c.fits) (f1 : ∀ c ∈ l1, c.fits) (g0 : FewP l0) (g1 : FewP l1) :
    Calls Try.prog 6 #[v0, v1] w0 fun e w' => e = .returned (.bool true) ∧ Below w0.heap.size w0 w' := by
  obtain ⟨A0, c0, rfl, _, _⟩ := h0.slice
  obtain ⟨A1, c1, rfl, _, _⟩ := h1.slice
  have HL0 := Lib.hid h0
  have HL1 := Lib.hid h1
  clear h0 h1
  have HW0 := Lib.hid g0
  clear g0
  have HW1 := Lib.hid g1
  clear g1
  go_enter Try.func6, Try.ntmps6
  have hl0 : l0.length ≤ 100 := HW0.out.1
  have hl1 : l1.length ≤ 100 := HW1.out.1
  go_wp2_with fail
  refine (few_ok _ F0 _ l0 HL0.out f0).mono ?_
  rintro e w1 ⟨r1, hr1, rfl, hb1⟩
  obtain rfl : r1 = true := hr1.2 (HW0.out)
  clear hr1
  have hbb1 := hb1
  have HB1 := Lib.hid hbb1
  clear hbb1 hb1
  go_wp2_with fail
  refine (few_ok _ F1 _ l1 (RdK.below HL1.out HB1.out) f1).mono ?_
  rintro e w2 ⟨r2, hr2, rfl, hb2⟩
  obtain rfl : r2 = true := hr2.2 (HW1.out)
  clear hr2
  have hbb2 := hb2
  have HB2 := Lib.hid (HB1.out.trans (hbb2.mono HB1.out.size))
  clear HB1 hbb2 hb2
  go_wp2_with fail
  refine (new_ok _ F0 _ l0 (RdK.below HL0.out HB2.out) (by omega) f0).mono ?_
  intro e w3 hnp
  obtain ⟨v3, n3, rfl, hnv⟩ := hnp.named
  have hb3 := hnv.1
  have HNV3 := Lib.hid hnv.cases
  clear hnv hnp
  have hbb3 := hb3
  have HB3 := Lib.hid (HB2.out.trans (hbb3.mono HB2.out.size))
  clear HB2 hbb3 hb3
  rcases HNV3.out with ⟨hn0, rfl⟩ | ⟨rfl, he0, outF, hf, h64F, AF, cF, rfl, hO⟩
  · clear HNV3
    have e1F : (n3 == 0) = false := by simpa using hn0
    have e2F : (n3 != 0) = true := by simpa using hn0
    clear hn0
    have RDF : Hid (ClRd w3 (fun _ => True) (.slice none 0 0) []) := Lib.hid (RdK.nil _ _ _)
    go_wp2_with fail
    refine (new_ok _ F1 _ l1 (RdK.below (RdK.below HL1.out HB3.out) (one_box _ _)) (by omega) f1).mono ?_
    intro e w4 hnp
    obtain ⟨v4, n4, rfl, hnv⟩ := hnp.named
    have hb4 := hnv.1
    have HNV4 := Lib.hid hnv.cases
    clear hnv hnp
    have hbb4 := unbox hb4
    have GF := Lib.hid (Ft.made (A := none) (l := ([] : List Cl)) (c := 0) hb4 RDF.out)
    have HB4 := Lib.hid (HB3.out.trans (hbb4.mono HB3.out.size))
    clear RDF HB3 hbb4 hb4
    have FF := GF
    have kF := FF.out.1
    have lF := FF.out.2.1
    clear GF
    rcases HNV4.out with ⟨hn0, rfl⟩ | ⟨rfl, he0, outG, hf, h64G, AG, cG, rfl, hO⟩
    · clear HNV4
      have e1G : (n4 == 0) = false := by simpa using hn0
      have e2G : (n4 != 0) = true := by simpa using hn0
      clear hn0
      have RDG : Hid (ClRd w4 (fun _ => True) (.slice none 0 0) []) := Lib.hid (RdK.nil _ _ _)
      go_wp2_with fail
      refine (len_ok _ (fun _ => True) _ _ (RdK.below FF.out.2.2 (one_box _ _))).mono ?_
      rintro e w5 ⟨rfl, hb5⟩
      have hbb5 := unbox hb5
      have GF := Lib.hid (FF.out.below hbb5)
      have GG := Lib.hid (Ft.made (A := none) (l := ([] : List Cl)) (c := 0) hb5 RDG.out)
      have HB5 := Lib.hid (HB4.out.trans (hbb5.mono HB4.out.size))
      clear FF kF lF RDG HB4 hbb5 hb5
      have FF := GF
      have kF := FF.out.1
      have lF := FF.out.2.1
      have FG := GG
      have kG := FG.out.1
      have lG := FG.out.2.1
      clear GF GG
      go_wp2_with fail
      refine (len_ok _ (fun _ => True) _ _ FG.out.2.2).mono ?_
      rintro e w6 ⟨rfl, hb6⟩
      have hbb6 := hb6
      have GF := Lib.hid (FF.out.below hbb6)
      have GG := Lib.hid (FG.out.below hbb6)
      have HB6 := Lib.hid (HB5.out.trans (hbb6.mono HB5.out.size))
      clear FF FG kF kG lF lG HB5 hbb6 hb6
      have FF := GF
      have kF := FF.out.1
      have lF := FF.out.2.1
      have FG := GG
      have kG := FG.out.1
      have lG := FG.out.2.1
      clear GF GG
      go_wp2_with fail
      refine (awake_ok _).mono ?_
      rintro e w7 ⟨rfl, hb7⟩
      have hbb7 := hb7
      have GF := Lib.hid (FF.out.below hbb7)
      have GG := Lib.hid (FG.out.below hbb7)
      have HB7 := Lib.hid (HB6.out.trans (hbb7.mono HB6.out.size))
      clear FF FG kF kG lF lG HB6 hbb7 hb7
      have FF := GF
      have kF := FF.out.1
      have lF := FF.out.2.1
      have FG := GG
      have kG := FG.out.1
      have lG := FG.out.2.1
      clear GF GG
      go_wp2_with fail
      go_ret
      exact ⟨rfl, HB7.out⟩
    · clear HNV4
      have hg0 : Good l1 := fun c hc => ⟨ok_of_errOf he0 c hc, f1 c hc⟩
      have HGG := Lib.hid (And.intro hf (And.intro hg0 (form_good hf hg0)))
      have RDG := Lib.hid (fresh_rd hO)
      clear hf hg0 he0 hO
      go_wp2_with fail
      refine (len_ok _ (fun _ => True) _ _ (RdK.below FF.out.2.2 (one_box _ _))).mono ?_
      rintro e w5 ⟨rfl, hb5⟩
      have hbb5 := unbox hb5
      have GF := Lib.hid (FF.out.below hbb5)
      have GG := Lib.hid (Ft.made (A := AG) (l := outG) (c := cG) hb5 RDG.out)
      have HB5 := Lib.hid (HB4.out.trans (hbb5.mono HB4.out.size))
      clear FF kF lF RDG HB4 hbb5 hb5
      have FF := GF
      have kF := FF.out.1
      have lF := FF.out.2.1
      have FG := GG
      have kG := FG.out.1
      have lG := FG.out.2.1
      clear GF GG
      go_wp2_with fail
      refine (awake_ok _).mono ?_
      rintro e w6 ⟨rfl, hb6⟩
      have hbb6 := hb6
      have GF := Lib.hid (FF.out.below hbb6)
      have GG := Lib.hid (FG.out.below hbb6)
      have HB6 := Lib.hid (HB5.out.trans (hbb6.mono HB5.out.size))
      clear FF FG kF kG lF lG HB5 hbb6 hb6
      have FF := GF
      have kF := FF.out.1
      have lF := FF.out.2.1
      have FG := GG
      have kG := FG.out.1
      have lG := FG.out.2.1
      clear GF GG
      go_wp2_with fail
      go_ret
      exact ⟨rfl, HB6.out⟩
  · clear HNV3
    have hg0 : Good l0 := fun c hc => ⟨ok_of_errOf he0 c hc, f0 c hc⟩
    have HGF := Lib.hid (And.intro hf (And.intro hg0 (form_good hf hg0)))
    have RDF := Lib.hid (fresh_rd hO)
    clear hf hg0 he0 hO
    go_wp2_with fail
    refine (new_ok _ F1 _ l1 (RdK.below (RdK.below HL1.out HB3.out) (one_box _ _)) (by omega) f1).mono ?_
    intro e w4 hnp
    obtain ⟨v4, n4, rfl, hnv⟩ := hnp.named
    have hb4 := hnv.1
    have HNV4 := Lib.hid hnv.cases
    clear hnv hnp
    have hbb4 := unbox hb4
    have GF := Lib.hid (Ft.made (A := AF) (l := outF) (c := cF) hb4 RDF.out)
    have HB4 := Lib.hid (HB3.out.trans (hbb4.mono HB3.out.size))
    clear RDF HB3 hbb4 hb4
    have FF := GF
    have kF := FF.out.1
    have lF := FF.out.2.1
    clear GF
    rcases HNV4.out with ⟨hn0, rfl⟩ | ⟨rfl, he0, outG, hf, h64G, AG, cG, rfl, hO⟩
    · clear HNV4
      have e1G : (n4 == 0) = false := by simpa using hn0
      have e2G : (n4 != 0) = true := by simpa using hn0
      clear hn0
      have RDG : Hid (ClRd w4 (fun _ => True) (.slice none 0 0) []) := Lib.hid (RdK.nil _ _ _)
      go_wp2_with fail
      refine (len_ok _ (fun _ => True) _ _ (RdK.below RDG.out (one_box _ _))).mono ?_
      rintro e w5 ⟨rfl, hb5⟩
      have hbb5 := unbox hb5
      have GF := Lib.hid (FF.out.below hbb5)
      have GG := Lib.hid (Ft.made (A := none) (l := ([] : List Cl)) (c := 0) hb5 RDG.out)
      have HB5 := Lib.hid (HB4.out.trans (hbb5.mono HB4.out.size))
      clear FF kF lF RDG HB4 hbb5 hb5
      have FF := GF
      have kF := FF.out.1
      have lF := FF.out.2.1
      have FG := GG
      have kG := FG.out.1
      have lG := FG.out.2.1
      clear GF GG
      go_wp2_with fail
      refine (awake_ok _).mono ?_
      rintro e w6 ⟨rfl, hb6⟩
      have hbb6 := hb6
      have GF := Lib.hid (FF.out.below hbb6)
      have GG := Lib.hid (FG.out.below hbb6)
      have HB6 := Lib.hid (HB5.out.trans (hbb6.mono HB5.out.size))
      clear FF FG kF kG lF lG HB5 hbb6 hb6
      have FF := GF
      have kF := FF.out.1
      have lF := FF.out.2.1
      have FG := GG
      have kG := FG.out.1
      have lG := FG.out.2.1
      clear GF GG
      go_wp2_with fail
      go_ret
      exact ⟨rfl, HB6.out⟩
    · clear HNV4
      have hg0 : Good l1 := fun c hc => ⟨ok_of_errOf he0 c hc, f1 c hc⟩
      have HGG := Lib.hid (And.intro hf (And.intro hg0 (form_good hf hg0)))
      have RDG := Lib.hid (fresh_rd hO)
      clear hf hg0 he0 hO
      obtain ⟨p, hp⟩ := bool_of (WithinP l0 l1)
      obtain ⟨q, hq⟩ := bool_of (WithinP l1 l0)
      obtain ⟨s, hs⟩ := bool_of (ConflP l0 l1)
      have HQ := Lib.hid (And.intro hp (And.intro hq hs))
      clear hp hq hs
      cases p with
      | true =>
        go_wp2_with fail
        refine (refWithin_is true HQ.out.1 (RdK.below (RdK.below HL0.out HB4.out) (one_box _ _)) (RdK.below (RdK.below HL1.out HB4.out) (one_box _ _)) (by omega) (by omega) HGF.out.2.1 HGG.out.2.1).mono ?_
        rintro e w5 ⟨rfl, hb5⟩
        have hbb5 := unbox hb5
        have GF := Lib.hid (FF.out.below hbb5)
        have GG := Lib.hid (Ft.made (A := AG) (l := outG) (c := cG) hb5 RDG.out)
        have HB5 := Lib.hid (HB4.out.trans (hbb5.mono HB4.out.size))
        clear FF kF lF RDG HB4 hbb5 hb5
        have FF := GF
        have kF := FF.out.1
        have lF := FF.out.2.1
        have FG := GG
        have kG := FG.out.1
        have lG := FG.out.2.1
        clear GF GG
        go_wp2_with fail
        refine (refWithin_is q HQ.out.2.1 (RdK.below HL1.out HB5.out) (RdK.below HL0.out HB5.out) (by omega) (by omega) HGG.out.2.1 HGF.out.2.1).mono ?_
        rintro e w6 ⟨rfl, hb6⟩
        have hbb6 := hb6
        have GF := Lib.hid (FF.out.below hbb6)
        have GG := Lib.hid (FG.out.below hbb6)
        have HB6 := Lib.hid (HB5.out.trans (hbb6.mono HB5.out.size))
        clear FF FG kF kG lF lG HB5 hbb6 hb6
        have FF := GF
        have kF := FF.out.1
        have lF := FF.out.2.1
        have FG := GG
        have kG := FG.out.1
        have lG := FG.out.2.1
        clear GF GG
        go_wp2_with fail
        refine (within_is true (HQ.out.1.congr (form_within HGF.out.1 HGG.out.1)) FF.out.2.2 FG.out.2.2 (by omega) (by omega) HGF.out.2.2 HGG.out.2.2).mono ?_
        rintro e w7 ⟨rfl, hb7⟩
        have hbb7 := hb7
        have GF := Lib.hid (FF.out.below hbb7)
        have GG := Lib.hid (FG.out.below hbb7)
        have HB7 := Lib.hid (HB6.out.trans (hbb7.mono HB6.out.size))
        clear FF FG kF kG lF lG HB6 hbb7 hb7
        have FF := GF
        have kF := FF.out.1
        have lF := FF.out.2.1
        have FG := GG
        have kG := FG.out.1
        have lG := FG.out.2.1
        clear GF GG
        go_wp2_with fail
        refine (within_is q (HQ.out.2.1.congr (form_within HGG.out.1 HGF.out.1)) FG.out.2.2 FF.out.2.2 (by omega) (by omega) HGG.out.2.2 HGF.out.2.2).mono ?_
        rintro e w8 ⟨rfl, hb8⟩
        have hbb8 := hb8
        have GF := Lib.hid (FF.out.below hbb8)
        have GG := Lib.hid (FG.out.below hbb8)
        have HB8 := Lib.hid (HB7.out.trans (hbb8.mono HB7.out.size))
        clear FF FG kF kG lF lG HB7 hbb8 hb8
        have FF := GF
        have kF := FF.out.1
        have lF := FF.out.2.1
        have FG := GG
        have kG := FG.out.1
        have lG := FG.out.2.1
        clear GF GG
        go_wp2_with fail
        refine (conflict_is s (HQ.out.2.2.congr (form_confl HGF.out.2.1 HGG.out.2.1 HGF.out.2.2 HGG.out.2.2 HGF.out.1 HGG.out.1)) FF.out.2.2 FG.out.2.2 (by omega) (by omega)).mono ?_
        rintro e w9 ⟨rfl, hb9⟩
        have hbb9 := hb9
        have GF := Lib.hid (FF.out.below hbb9)
        have GG := Lib.hid (FG.out.below hbb9)
        have HB9 := Lib.hid (HB8.out.trans (hbb9.mono HB8.out.size))
        clear FF FG kF kG lF lG HB8 hbb9 hb9
        have FF := GF
        have kF := FF.out.1
        have lF := FF.out.2.1
        have FG := GG
        have kG := FG.out.1
        have lG := FG.out.2.1
        clear GF GG
        go_wp2_with fail
        refine (refConflict_is s HQ.out.2.2 (RdK.below HL0.out HB9.out) (RdK.below HL1.out HB9.out) (by omega) (by omega) HGF.out.2.1 HGG.out.2.1).mono ?_
        rintro e w10 ⟨rfl, hb10⟩
        have hbb10 := hb10
        have GF := Lib.hid (FF.out.below hbb10)
        have GG := Lib.hid (FG.out.below hbb10)
        have HB10 := Lib.hid (HB9.out.trans (hbb10.mono HB9.out.size))
        clear FF FG kF kG lF lG HB9 hbb10 hb10
        have FF := GF
        have kF := FF.out.1
        have lF := FF.out.2.1
        have FG := GG
        have kG := FG.out.1
        have lG := FG.out.2.1
        clear GF GG
        go_wp2_with fail
        refine (same_is q (HQ.out.2.1.congr ⟨fun h => (form_same HGF.out.1 HGG.out.1).2 ⟨HQ.out.1.pos, h⟩, fun h => ((form_same HGF.out.1 HGG.out.1).1 h).2⟩) FF.out.2.2 FG.out.2.2 (by omega)).mono ?_
        rintro e w11 ⟨rfl, hb11⟩
        have hbb11 := hb11
        have GF := Lib.hid (FF.out.below hbb11)
        have GG := Lib.hid (FG.out.below hbb11)
        have HB11 := Lib.hid (HB10.out.trans (hbb11.mono HB10.out.size))
        clear FF FG kF kG lF lG HB10 hbb11 hb11
        have FF := GF
        have kF := FF.out.1
        have lF := FF.out.2.1
        have FG := GG
        have kG := FG.out.1
        have lG := FG.out.2.1
        clear GF GG
        go_wp2_with fail
        refine (awake_ok _).mono ?_
        rintro e w12 ⟨rfl, hb12⟩
        have hbb12 := hb12
        have GF := Lib.hid (FF.out.below hbb12)
        have GG := Lib.hid (FG.out.below hbb12)
        have HB12 := Lib.hid (HB11.out.trans (hbb12.mono HB11.out.size))
        clear FF FG kF kG lF lG HB11 hbb12 hb12
        have FF := GF
        have kF := FF.out.1
        have lF := FF.out.2.1
        have FG := GG
        have kG := FG.out.1
        have lG := FG.out.2.1
        clear GF GG
        go_wp2_with fail
        go_ret
        exact ⟨rfl, HB12.out⟩
      | false =>
        go_wp2_with fail
        refine (refWithin_is false HQ.out.1 (RdK.below (RdK.below HL0.out HB4.out) (one_box _ _)) (RdK.below (RdK.below HL1.out HB4.out) (one_box _ _)) (by omega) (by omega) HGF.out.2.1 HGG.out.2.1).mono ?_
        rintro e w5 ⟨rfl, hb5⟩
        have hbb5 := unbox hb5
        have GF := Lib.hid (FF.out.below hbb5)
        have GG := Lib.hid (Ft.made (A := AG) (l := outG) (c := cG) hb5 RDG.out)
        have HB5 := Lib.hid (HB4.out.trans (hbb5.mono HB4.out.size))
        clear FF kF lF RDG HB4 hbb5 hb5
        have FF := GF
        have kF := FF.out.1
        have lF := FF.out.2.1
        have FG := GG
        have kG := FG.out.1
        have lG := FG.out.2.1
        clear GF GG
        go_wp2_with fail
        refine (refWithin_is q HQ.out.2.1 (RdK.below HL1.out HB5.out) (RdK.below HL0.out HB5.out) (by omega) (by omega) HGG.out.2.1 HGF.out.2.1).mono ?_
        rintro e w6 ⟨rfl, hb6⟩
        have hbb6 := hb6
        have GF := Lib.hid (FF.out.below hbb6)
        have GG := Lib.hid (FG.out.below hbb6)
        have HB6 := Lib.hid (HB5.out.trans (hbb6.mono HB5.out.size))
        clear FF FG kF kG lF lG HB5 hbb6 hb6
        have FF := GF
        have kF := FF.out.1
        have lF := FF.out.2.1
        have FG := GG
        have kG := FG.out.1
        have lG := FG.out.2.1
        clear GF GG
        go_wp2_with fail
        refine (within_is false (HQ.out.1.congr (form_within HGF.out.1 HGG.out.1)) FF.out.2.2 FG.out.2.2 (by omega) (by omega) HGF.out.2.2 HGG.out.2.2).mono ?_
        rintro e w7 ⟨rfl, hb7⟩
        have hbb7 := hb7
        have GF := Lib.hid (FF.out.below hbb7)
        have GG := Lib.hid (FG.out.below hbb7)
        have HB7 := Lib.hid (HB6.out.trans (hbb7.mono HB6.out.size))
        clear FF FG kF kG lF lG HB6 hbb7 hb7
        have FF := GF
        have kF := FF.out.1
        have lF := FF.out.2.1
        have FG := GG
        have kG := FG.out.1
        have lG := FG.out.2.1
        clear GF GG
        go_wp2_with fail
        refine (within_is q (HQ.out.2.1.congr (form_within HGG.out.1 HGF.out.1)) FG.out.2.2 FF.out.2.2 (by omega) (by omega) HGG.out.2.2 HGF.out.2.2).mono ?_
        rintro e w8 ⟨rfl, hb8⟩
        have hbb8 := hb8
        have GF := Lib.hid (FF.out.below hbb8)
        have GG := Lib.hid (FG.out.below hbb8)
        have HB8 := Lib.hid (HB7.out.trans (hbb8.mono HB7.out.size))
        clear FF FG kF kG lF lG HB7 hbb8 hb8
        have FF := GF
        have kF := FF.out.1
        have lF := FF.out.2.1
        have FG := GG
        have kG := FG.out.1
        have lG := FG.out.2.1
        clear GF GG
        go_wp2_with fail
        refine (conflict_is s (HQ.out.2.2.congr (form_confl HGF.out.2.1 HGG.out.2.1 HGF.out.2.2 HGG.out.2.2 HGF.out.1 HGG.out.1)) FF.out.2.2 FG.out.2.2 (by omega) (by omega)).mono ?_
        rintro e w9 ⟨rfl, hb9⟩
        have hbb9 := hb9
        have GF := Lib.hid (FF.out.below hbb9)
        have GG := Lib.hid (FG.out.below hbb9)
        have HB9 := Lib.hid (HB8.out.trans (hbb9.mono HB8.out.size))
        clear FF FG kF kG lF lG HB8 hbb9 hb9
        have FF := GF
        have kF := FF.out.1
        have lF := FF.out.2.1
        have FG := GG
        have kG := FG.out.1
        have lG := FG.out.2.1
        clear GF GG
        go_wp2_with fail
        refine (refConflict_is s HQ.out.2.2 (RdK.below HL0.out HB9.out) (RdK.below HL1.out HB9.out) (by omega) (by omega) HGF.out.2.1 HGG.out.2.1).mono ?_
        rintro e w10 ⟨rfl, hb10⟩
        have hbb10 := hb10
        have GF := Lib.hid (FF.out.below hbb10)
        have GG := Lib.hid (FG.out.below hbb10)
        have HB10 := Lib.hid (HB9.out.trans (hbb10.mono HB9.out.size))
        clear FF FG kF kG lF lG HB9 hbb10 hb10
        have FF := GF
        have kF := FF.out.1
        have lF := FF.out.2.1
        have FG := GG
        have kG := FG.out.1
        have lG := FG.out.2.1
        clear GF GG
        go_wp2_with fail
        refine (same_is false (.no fun h => HQ.out.1.neg ((form_same HGF.out.1 HGG.out.1).1 h).1) FF.out.2.2 FG.out.2.2 (by omega)).mono ?_
        rintro e w11 ⟨rfl, hb11⟩
        have hbb11 := hb11
        have GF := Lib.hid (FF.out.below hbb11)
        have GG := Lib.hid (FG.out.below hbb11)
        have HB11 := Lib.hid (HB10.out.trans (hbb11.mono HB10.out.size))
        clear FF FG kF kG lF lG HB10 hbb11 hb11
        have FF := GF
        have kF := FF.out.1
        have lF := FF.out.2.1
        have FG := GG
        have kG := FG.out.1
        have lG := FG.out.2.1
        clear GF GG
        go_wp2_with fail
        refine (awake_ok _).mono ?_
        rintro e w12 ⟨rfl, hb12⟩
        have hbb12 := hb12
        have GF := Lib.hid (FF.out.below hbb12)
        have GG := Lib.hid (FG.out.below hbb12)
        have HB12 := Lib.hid (HB11.out.trans (hbb12.mono HB11.out.size))
        clear FF FG kF kG lF lG HB11 hbb12 hb12
        have FF := GF
        have kF := FF.out.1
        have lF := FF.out.2.1
        have FG := GG
        have kG := FG.out.1
        have lG := FG.out.2.1
        clear GF GG
        go_wp2_with fail
        go_ret
        exact ⟨rfl, HB12.out⟩

set_option maxRecDepth 100000 in
theorem footHolds_lifted (os : Os) (started : os.Started) (H : Type) (enc : TypeId × Value → H) :
    ReturnsInHanded {} Try.checked os 6 .any (Rows.footHoldsSpec.pre6 enc Try.prog Try.f6 Rows.footHoldsRow.domain false) (Rows.footHoldsSpec.post enc Try.prog Try.f6 false true false false) := by
  refine law_lifted os started H enc 6 Try.f6 Rows.footHoldsSpec (by kernel_rfl) Try.func6 rfl (by kernel_rfl) ?_ ?_
    (ChangeSpec.witness6 (enc := enc) (C := Try.checked) false ⟨#[], #[.slice none 0 0, .slice none 0 0], []⟩ 8 (by kernel_rfl) (by kernel_rfl) (by kernel_rfl) (by kernel_rfl)) ?_
  · rw [Try.params6]
    intro t ht
    simp at ht
    subst ht
    exact ⟨by kernel_rfl, of_decide_eq_true (by kernel_rfl)⟩
  · intro ds hl
    rw [Try.params6] at hl
    match ds, hl with
    | [d1, d2], _ => exact ⟨rfl, rfl, rfl⟩
  · intro W base args ds p hval hA
    rw [Try.params6] at hA hval
    obtain ⟨v0, v1, d0, d1, p0, p1, hargs, rfl, rfl, h0, h1⟩ := trodAll_two hA
    subst hargs
    obtain ⟨l0, r0, f0⟩ := claims_of_trod (hval 0 22 v0 rfl rfl) h0
    obtain ⟨l1, r1, f1⟩ := claims_of_trod (hval 1 22 v1 rfl rfl) h1
    by_cases g0 : FewP l0
    · by_cases g1 : FewP l1
      · exact fholds_near W _ _ v0 v1 l0 l1 r0 r1 f0 f1 g0 g1
      · exact fholds_far1 W _ _ v0 v1 l0 l1 r0 r1 f0 f1 g0 g1
    · exact fholds_far0 W _ _ v0 v1 l0 l1 r0 r1 f0 f1 g0

theorem footHolds_holds : Rows.FootHoldsSaid :=
  OpenClaim.holds_of_wide 6 Try.f6 rfl rfl rfl rfl rfl rfl rfl ⟨rfl, rfl, rfl, rfl, rfl⟩ rfl rfl rfl rfl rfl (by kernel_rfl) Try.func6 (by kernel_rfl)
    (of_decide_eq_true (by kernel_rfl)) (by unfold Func.isWrapper; rw [if_neg (of_decide_eq_false (by kernel_rfl))]; exact ⟨rfl, rfl⟩)
    (fun os started H enc _ => footHolds_lifted os started H enc)

#print axioms footHolds_holds

end Go.Proofs.Ytdmpdlpfanfjoaa
