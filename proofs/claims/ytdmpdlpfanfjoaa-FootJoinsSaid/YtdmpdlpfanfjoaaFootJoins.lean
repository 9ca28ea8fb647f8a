/- Proved: FootJoins returns true for every input: both are within Join, Join is within all that both are within, and it conflicts just with what one of both does; no condition. -/
import Derived.Test.YtdmpdlpfanfjoaaFootZ
namespace Go.Proofs.Ytdmpdlpfanfjoaa
open Go.ChangeShapes Go.WideShapes Go.ChangeAt Go.RowKit

set_option maxRecDepth 100000 in
set_option maxHeartbeats 4000000 in
theorem joins_far0 (w0 : World) (F0 F1 F2 : Nat → Prop) (v0 v1 v2 : Value) (l0 l1 l2 : List Cl) (h0 : ClRd w0 F0 v0 l0) (h1 : ClRd w0 F1 v1 l1) (h2 : ClRd w0 F2 v2 l2) (f0 : ∀ c ∈ l0, c.fits) (_f1 : ∀ c ∈ l1, c.fits) (_f2 : ∀ c ∈ l2, c.fits)  (g0 : ¬ FewP l0) :
    Calls Try.prog 8 #[v0, v1, v2] w0 fun e w' => e = .returned (.bool true) ∧ Below w0.heap.size w0 w' := by
  obtain ⟨A0, c0, rfl, _, _⟩ := h0.slice
  obtain ⟨A1, c1, rfl, _, _⟩ := h1.slice
  obtain ⟨A2, c2, rfl, _, _⟩ := h2.slice
  have HL0 := Lib.hid h0
  have HL1 := Lib.hid h1
  have HL2 := Lib.hid h2
  clear h0 h1 h2
  have HW0 := Lib.hid g0
  clear g0
  go_enter Try.func8, Try.ntmps8
  go_wp2_with fail
  refine (few_ok _ F0 _ l0 HL0.out f0).mono ?_
  rintro e w1 ⟨r1, hr1, rfl, hb1⟩
  obtain rfl : r1 = false := Bool.eq_false_iff.2 (fun hh => (HW0.out) (hr1.1 hh))
  clear hr1
  have hbb1 := hb1
  have HB1 := Lib.hid hbb1
  clear hbb1 hb1
  go_wp2_with fail
  refine (awake_ok _).mono ?_
  rintro e w2 ⟨rfl, hb2⟩
  have hbb2 := hb2
  have HB2 := Lib.hid (HB1.out.trans (hbb2.mono HB1.out.size))
  clear HB1 hbb2 hb2
  go_wp2_with fail
  go_ret
  exact ⟨rfl, HB2.out⟩

set_option maxRecDepth 100000 in
set_option maxHeartbeats 4000000 in
theorem joins_far1 (w0 : World) (F0 F1 F2 : Nat → Prop) (v0 v1 v2 : Value) (l0 l1 l2 : List Cl) (h0 : ClRd w0 F0 v0 l0) (h1 : ClRd w0 F1 v1 l1) (h2 : ClRd w0 F2 v2 l2) (f0 : ∀ c ∈ l0, c.fits) (f1 : ∀ c ∈ l1, c.fits) (_f2 : ∀ c ∈ l2, c.fits) (g0 : FewP l0) (g1 : ¬ FewP l1) :
    Calls Try.prog 8 #[v0, v1, v2] w0 fun e w' => e = .returned (.bool true) ∧ Below w0.heap.size w0 w' := by
  obtain ⟨A0, c0, rfl, _, _⟩ := h0.slice
  obtain ⟨A1, c1, rfl, _, _⟩ := h1.slice
  obtain ⟨A2, c2, rfl, _, _⟩ := h2.slice
  have HL0 := Lib.hid h0
  have HL1 := Lib.hid h1
  have HL2 := Lib.hid h2
  clear h0 h1 h2
  have HW0 := Lib.hid g0
  clear g0
  have HW1 := Lib.hid g1
  clear g1
  go_enter Try.func8, Try.ntmps8
  go_wp2_with fail
  refine (few_ok _ F0 _ l0 HL0.out f0).mono ?_
  rintro e w1 ⟨r1, hr1, rfl, hb1⟩
  obtain rfl : r1 = true := hr1.2 (HW0.out)
  clear hr1
  have hbb1 := hb1
  have HB1 := Lib.hid hbb1
  clear hbb1 hb1
  go_wp2_with fail
  refine (few_ok _ F1 _ l1 (RdK.below HL1.out HB1.out) f1).mono ?_
  rintro e w2 ⟨r2, hr2, rfl, hb2⟩
  obtain rfl : r2 = false := Bool.eq_false_iff.2 (fun hh => (HW1.out) (hr2.1 hh))
  clear hr2
  have hbb2 := hb2
  have HB2 := Lib.hid (HB1.out.trans (hbb2.mono HB1.out.size))
  clear HB1 hbb2 hb2
  go_wp2_with fail
  refine (awake_ok _).mono ?_
  rintro e w3 ⟨rfl, hb3⟩
  have hbb3 := hb3
  have HB3 := Lib.hid (HB2.out.trans (hbb3.mono HB2.out.size))
  clear HB2 hbb3 hb3
  go_wp2_with fail
  go_ret
  exact ⟨rfl, HB3.out⟩

set_option maxRecDepth 100000 in
set_option maxHeartbeats 4000000 in
theorem joins_far2 (w0 : World) (F0 F1 F2 : Nat → Prop) (v0 v1 v2 : Value) (l0 l1 l2 : List Cl) (h0 : ClRd w0 F0 v0 l0) (h1 : ClRd w0 F1 v1 l1) (h2 : ClRd w0 F2 v2 l2) (f0 : ∀ c ∈ l0, c.fits) (f1 : ∀ c ∈ l1, c.fits) (f2 : ∀ c ∈ l2, c.fits) (g0 : FewP l0) (g1 : FewP l1) (g2 : ¬ FewP l2) :
    Calls Try.prog 8 #[v0, v1, v2] w0 fun e w' => e = .returned (.bool true) ∧ Below w0.heap.size w0 w' := by
  obtain ⟨A0, c0, rfl, _, _⟩ := h0.slice
  obtain ⟨A1, c1, rfl, _, _⟩ := h1.slice
  obtain ⟨A2, c2, rfl, _, _⟩ := h2.slice
  have HL0 := Lib.hid h0
  have HL1 := Lib.hid h1
  have HL2 := Lib.hid h2
  clear h0 h1 h2
  have HW0 := Lib.hid g0
  clear g0
  have HW1 := Lib.hid g1
  clear g1
  have HW2 := Lib.hid g2
  clear g2
  go_enter Try.func8, Try.ntmps8
  go_wp2_with fail
  refine (few_ok _ F0 _ l0 HL0.out f0).mono ?_
  rintro e w1 ⟨r1, hr1, rfl, hb1⟩
  obtain rfl : r1 = true := hr1.2 (HW0.out)
  clear hr1
  have hbb1 := hb1
  have HB1 := Lib.hid hbb1
  clear hbb1 hb1
  go_wp2_with fail
  refine (few_ok _ F1 _ l1 (RdK.below HL1.out HB1.out) f1).mono ?_
  rintro e w2 ⟨r2, hr2, rfl, hb2⟩
  obtain rfl : r2 = true := hr2.2 (HW1.out)
  clear hr2
  have hbb2 := hb2
  have HB2 := Lib.hid (HB1.out.trans (hbb2.mono HB1.out.size))
  clear HB1 hbb2 hb2
  go_wp2_with fail
  refine (few_ok _ F2 _ l2 (RdK.below HL2.out HB2.out) f2).mono ?_
  rintro e w3 ⟨r3, hr3, rfl, hb3⟩
  obtain rfl : r3 = false := Bool.eq_false_iff.2 (fun hh => (HW2.out) (hr3.1 hh))
  clear hr3
  have hbb3 := hb3
  have HB3 := Lib.hid (HB2.out.trans (hbb3.mono HB2.out.size))
  clear HB2 hbb3 hb3
  go_wp2_with fail
  refine (awake_ok _).mono ?_
  rintro e w4 ⟨rfl, hb4⟩
  have hbb4 := hb4
  have HB4 := Lib.hid (HB3.out.trans (hbb4.mono HB3.out.size))
  clear HB3 hbb4 hb4
  go_wp2_with fail
  go_ret
  exact ⟨rfl, HB4.out⟩

set_option maxRecDepth 100000 in
set_option maxHeartbeats 4000000 in
theorem joins_near (w0 : World) (F0 F1 F2 : Nat → Prop) (v0 v1 v2 : Value) (l0 l1 l2 : List Cl) (h0 : ClRd w0 F0 v0 l0) (h1 : ClRd w0 F1 v1 l1) (h2 : ClRd w0 F2 v2 l2) (f0 : ∀ c ∈ l0, c.fits) (f1 : ∀ c ∈ l1, c.fits) (f2 : ∀ c ∈ l2, c.fits) (g0 : FewP l0) (g1 : FewP l1) (g2 : FewP l2) :
    Calls Try.prog 8 #[v0, v1, v2] w0 fun e w' => e = .returned (.bool true) ∧ Below w0.heap.size w0 w' := by
  obtain ⟨A0, c0, rfl, _, _⟩ := h0.slice
  obtain ⟨A1, c1, rfl, _, _⟩ := h1.slice
  obtain ⟨A2, c2, rfl, _, _⟩ := h2.slice
  have HL0 := Lib.hid h0
  have HL1 := Lib.hid h1
  have HL2 := Lib.hid h2
  clear h0 h1 h2
  have HW0 := Lib.hid g0
  clear g0
  have HW1 := Lib.hid g1
  clear g1
  have HW2 := Lib.hid g2
  clear g2
  go_enter Try.func8, Try.ntmps8
  go_wp2_with fail
  refine (few_ok _ F0 _ l0 HL0.out f0).mono ?_
  rintro e w1 ⟨r1, hr1, rfl, hb1⟩
  obtain rfl : r1 = true := hr1.2 (HW0.out)
  clear hr1
  have hbb1 := hb1
  have HB1 := Lib.hid hbb1
  clear hbb1 hb1
  go_wp2_with fail
  refine (few_ok _ F1 _ l1 (RdK.below HL1.out HB1.out) f1).mono ?_
  rintro e w2 ⟨r2, hr2, rfl, hb2⟩
  obtain rfl : r2 = true := hr2.2 (HW1.out)
  clear hr2
  have hbb2 := hb2
  have HB2 := Lib.hid (HB1.out.trans (hbb2.mono HB1.out.size))
  clear HB1 hbb2 hb2
  go_wp2_with fail
  refine (few_ok _ F2 _ l2 (RdK.below HL2.out HB2.out) f2).mono ?_
  rintro e w3 ⟨r3, hr3, rfl, hb3⟩
  obtain rfl : r3 = true := hr3.2 (HW2.out)
  clear hr3
  have hbb3 := hb3
  have HB3 := Lib.hid (HB2.out.trans (hbb3.mono HB2.out.size))
  clear HB2 hbb3 hb3
  go_wp2_with fail
  refine (new_ok _ F0 _ l0 (RdK.below HL0.out HB3.out) (by have := HW0.out.1; omega) f0).mono ?_
  intro e w4 hnp
  obtain ⟨v4, n4, rfl, hnv⟩ := hnp.named
  have hb4 := hnv.1
  have HNV4 := Lib.hid hnv.cases
  clear hnv hnp
  have hbb4 := hb4
  have HB4 := Lib.hid (HB3.out.trans (hbb4.mono HB3.out.size))
  clear HB3 hbb4 hb4
  rcases HNV4.out with ⟨hn0, rfl⟩ | ⟨rfl, he0, outF, hf, h64F, AF, cF, rfl, hO⟩
  · clear HNV4
    have e1 : (n4 == 0) = false := by simpa using hn0
    have e2 : (n4 != 0) = true := by simpa using hn0
    clear hn0
    go_wp2_with fail
    refine (new_ok _ F1 _ l1 (RdK.below (RdK.below HL1.out HB4.out) (one_box _ _)) (by have := HW1.out.1; omega) f1).mono ?_
    intro e w5 hnp
    obtain ⟨v5, n5, rfl, hnv⟩ := hnp.named
    have hb5 := hnv.1
    obtain ⟨A5, m5, c5, rfl⟩ := hnv.slice
    clear hnv hnp
    have hbb5 := unbox hb5
    have HB5 := Lib.hid (HB4.out.trans (hbb5.mono HB4.out.size))
    clear HB4 hbb5 hb5
    go_wp2_with fail
    refine (new_ok _ F2 _ l2 (RdK.below (RdK.below HL2.out HB5.out) (one_box _ _)) (by have := HW2.out.1; omega) f2).mono ?_
    intro e w6 hnp
    obtain ⟨v6, n6, rfl, hnv⟩ := hnp.named
    have hb6 := hnv.1
    obtain ⟨A6, m6, c6, rfl⟩ := hnv.slice
    clear hnv hnp
    have hbb6 := unbox hb6
    have HB6 := Lib.hid (HB5.out.trans (hbb6.mono HB5.out.size))
    clear HB5 hbb6 hb6
    go_wp2_with fail
    refine (awake_ok _).mono ?_
    rintro e w7 ⟨rfl, hb7⟩
    have hbb7 := unbox hb7
    have HB7 := Lib.hid (HB6.out.trans (hbb7.mono HB6.out.size))
    clear HB6 hbb7 hb7
    go_wp2_with fail
    go_ret
    exact ⟨rfl, HB7.out⟩
  · clear HNV4
    have hg0 : Good l0 := fun c hc => ⟨ok_of_errOf he0 c hc, f0 c hc⟩
    have HGF := Lib.hid (And.intro hf (And.intro hg0 (form_good hf hg0)))
    have RDF := Lib.hid (fresh_rd hO)
    clear hf hg0 he0 hO
    go_wp2_with fail
    refine (new_ok _ F1 _ l1 (RdK.below (RdK.below HL1.out HB4.out) (one_box _ _)) (by have := HW1.out.1; omega) f1).mono ?_
    intro e w5 hnp
    obtain ⟨v5, n5, rfl, hnv⟩ := hnp.named
    have hb5 := hnv.1
    have HNV5 := Lib.hid hnv.cases
    clear hnv hnp
    have hbb5 := unbox hb5
    have GF := Lib.hid (Ft.made (A := AF) (l := outF) (c := cF) hb5 RDF.out)
    have HB5 := Lib.hid (HB4.out.trans (hbb5.mono HB4.out.size))
    clear RDF HB4 hbb5 hb5
    have FF := GF
    have kF := FF.out.1
    have lF := FF.out.2.1
    clear GF
    rcases HNV5.out with ⟨hn0, rfl⟩ | ⟨rfl, he0, outG, hf, h64G, AG, cG, rfl, hO⟩
    · clear HNV5
      have e1 : (n5 == 0) = false := by simpa using hn0
      have e2 : (n5 != 0) = true := by simpa using hn0
      clear hn0
      go_wp2_with fail
      refine (new_ok _ F2 _ l2 (RdK.below (RdK.below HL2.out HB5.out) (one_box _ _)) (by have := HW2.out.1; omega) f2).mono ?_
      intro e w6 hnp
      obtain ⟨v6, n6, rfl, hnv⟩ := hnp.named
      have hb6 := hnv.1
      obtain ⟨A6, m6, c6, rfl⟩ := hnv.slice
      clear hnv hnp
      have hbb6 := unbox hb6
      have GF := Lib.hid (FF.out.below hbb6)
      have HB6 := Lib.hid (HB5.out.trans (hbb6.mono HB5.out.size))
      clear FF kF lF HB5 hbb6 hb6
      have FF := GF
      have kF := FF.out.1
      have lF := FF.out.2.1
      clear GF
      go_wp2_with fail
      refine (awake_ok _).mono ?_
      rintro e w7 ⟨rfl, hb7⟩
      have hbb7 := unbox hb7
      have GF := Lib.hid (FF.out.below hbb7)
      have HB7 := Lib.hid (HB6.out.trans (hbb7.mono HB6.out.size))
      clear FF kF lF HB6 hbb7 hb7
      have FF := GF
      have kF := FF.out.1
      have lF := FF.out.2.1
      clear GF
      go_wp2_with fail
      go_ret
      exact ⟨rfl, HB7.out⟩
    · clear HNV5
      have hg0 : Good l1 := fun c hc => ⟨ok_of_errOf he0 c hc, f1 c hc⟩
      have HGG := Lib.hid (And.intro hf (And.intro hg0 (form_good hf hg0)))
      have RDG := Lib.hid (fresh_rd hO)
      clear hf hg0 he0 hO
      go_wp2_with fail
      refine (new_ok _ F2 _ l2 (RdK.below (RdK.below HL2.out HB5.out) (one_box _ _)) (by have := HW2.out.1; omega) f2).mono ?_
      intro e w6 hnp
      obtain ⟨v6, n6, rfl, hnv⟩ := hnp.named
      have hb6 := hnv.1
      have HNV6 := Lib.hid hnv.cases
      clear hnv hnp
      have hbb6 := unbox hb6
      have GF := Lib.hid (FF.out.below hbb6)
      have GG := Lib.hid (Ft.made (A := AG) (l := outG) (c := cG) hb6 RDG.out)
      have HB6 := Lib.hid (HB5.out.trans (hbb6.mono HB5.out.size))
      clear FF kF lF RDG HB5 hbb6 hb6
      have FF := GF
      have kF := FF.out.1
      have lF := FF.out.2.1
      have FG := GG
      have kG := FG.out.1
      have lG := FG.out.2.1
      clear GF GG
      rcases HNV6.out with ⟨hn0, rfl⟩ | ⟨rfl, he0, outK, hf, h64K, AK, cK, rfl, hO⟩
      · clear HNV6
        have e1 : (n6 == 0) = false := by simpa using hn0
        have e2 : (n6 != 0) = true := by simpa using hn0
        clear hn0
        go_wp2_with fail
        refine (awake_ok _).mono ?_
        rintro e w7 ⟨rfl, hb7⟩
        have hbb7 := unbox hb7
        have GF := Lib.hid (FF.out.below hbb7)
        have GG := Lib.hid (FG.out.below hbb7)
        have HB7 := Lib.hid (HB6.out.trans (hbb7.mono HB6.out.size))
        clear FF FG kF kG lF lG HB6 hbb7 hb7
        have FF := GF
        have kF := FF.out.1
        have lF := FF.out.2.1
        have FG := GG
        have kG := FG.out.1
        have lG := FG.out.2.1
        clear GF GG
        go_wp2_with fail
        go_ret
        exact ⟨rfl, HB7.out⟩
      · clear HNV6
        have hg0 : Good l2 := fun c hc => ⟨ok_of_errOf he0 c hc, f2 c hc⟩
        have HGK := Lib.hid (And.intro hf (And.intro hg0 (form_good hf hg0)))
        have RDK := Lib.hid (fresh_rd hO)
        clear hf hg0 he0 hO
        go_wp2_with fail
        refine (join_ok _ (fun _ => True) (fun _ => True) _ _ outF outG (RdK.below FF.out.2.2 (one_box _ _)) (RdK.below FG.out.2.2 (one_box _ _)) (by omega) (by omega) HGF.out.2.2.fits HGG.out.2.2.fits).mono ?_
        intro e w7 hnp
        obtain ⟨v7, n7, rfl, hnv⟩ := hnp.named
        have hb7 := hnv.1
        have HNV := Lib.hid (hnv.good (HGF.out.2.2.append HGG.out.2.2).ok)
        clear hnv hnp
        have hbb7 := unbox hb7
        have GF := Lib.hid (FF.out.below hbb7)
        have GG := Lib.hid (FG.out.below hbb7)
        have GK := Lib.hid (Ft.made (A := AK) (l := outK) (c := cK) hb7 RDK.out)
        have HB7 := Lib.hid (HB6.out.trans (hbb7.mono HB6.out.size))
        clear FF FG kF kG lF lG RDK HB6 hbb7 hb7
        have FF := GF
        have kF := FF.out.1
        have lF := FF.out.2.1
        have FG := GG
        have kG := FG.out.1
        have lG := FG.out.2.1
        have FK := GK
        have kK := FK.out.1
        have lK := FK.out.2.1
        clear GF GG GK
        obtain ⟨outJ, hfj, hcase⟩ := HNV.out
        have HFJ := Lib.hid (And.intro hfj (form_good hfj (HGF.out.2.2.append HGG.out.2.2)))
        clear hfj HNV
        rcases hcase with ⟨h64J, rfl, rfl⟩ | ⟨h64J, rfl, AJ, cJ, rfl, hO⟩
        · skip
          have RDJ : Hid (ClRd w7 (fun _ => True) (.slice none 0 0) []) := Lib.hid (RdK.nil _ _ _)
          go_wp2_with fail
          refine (join_ok _ (fun _ => True) (fun _ => True) _ _ outG outF (RdK.below FG.out.2.2 (one_box _ _)) (RdK.below FF.out.2.2 (one_box _ _)) (by omega) (by omega) HGG.out.2.2.fits HGF.out.2.2.fits).mono ?_
          intro e w8 hnp
          obtain ⟨v8, n8, rfl, hnv⟩ := hnp.named
          have hb8 := hnv.1
          obtain ⟨outO, hfo, hco⟩ := hnv.good (HGG.out.2.2.append HGF.out.2.2).ok
          obtain rfl : outJ = outO := (join_comm HFJ.out.1).unique hfo
          obtain ⟨rfl, rfl⟩ : v8 = .slice none 0 0 ∧ n8 = 23 := by
            rcases hco with ⟨_, rfl, rfl⟩ | ⟨h, _⟩
            · exact ⟨rfl, rfl⟩
            · omega
          clear hnv hnp hfo hco
          have hbb8 := unbox hb8
          have GF := Lib.hid (FF.out.below hbb8)
          have GG := Lib.hid (FG.out.below hbb8)
          have GK := Lib.hid (FK.out.below hbb8)
          have GJ := Lib.hid (Ft.made (A := none) (l := ([] : List Cl)) (c := 0) hb8 RDJ.out)
          have HB8 := Lib.hid (HB7.out.trans (hbb8.mono HB7.out.size))
          clear FF FG FK kF kG kK lF lG lK RDJ HB7 hbb8 hb8
          have FF := GF
          have kF := FF.out.1
          have lF := FF.out.2.1
          have FG := GG
          have kG := FG.out.1
          have lG := FG.out.2.1
          have FK := GK
          have kK := FK.out.1
          have lK := FK.out.2.1
          have FJ := GJ
          have kJ := FJ.out.1
          have lJ := FJ.out.2.1
          clear GF GG GK GJ
          have RDO : Hid (ClRd w8 (fun _ => True) (.slice none 0 0) []) := Lib.hid (RdK.nil _ _ _)
          go_wp2_with fail
          have hbb9 := one_box w8 (.cells #[.slice none (([] : List Cl)).length 0] 30)
          have GO := Ft.box 30 (A := none) (l := ([] : List Cl)) (c := 0) RDO.out
          generalize w8.alloc (.cells #[.slice none (([] : List Cl)).length 0] 30) = w9 at hbb9 GO ⊢
          have FO := Lib.hid GO
          have kO := FO.out.1
          have lO := FO.out.2.1
          clear GO RDO
          have GF := Lib.hid (FF.out.below hbb9)
          have GG := Lib.hid (FG.out.below hbb9)
          have GK := Lib.hid (FK.out.below hbb9)
          have GJ := Lib.hid (FJ.out.below hbb9)
          have HB9 := Lib.hid (HB8.out.trans (hbb9.mono HB8.out.size))
          clear FF FG FK FJ kF kG kK kJ lF lG lK lJ HB8 hbb9
          have FF := GF
          have kF := FF.out.1
          have lF := FF.out.2.1
          have FG := GG
          have kG := FG.out.1
          have lG := FG.out.2.1
          have FK := GK
          have kK := FK.out.1
          have lK := FK.out.2.1
          have FJ := GJ
          have kJ := FJ.out.1
          have lJ := FJ.out.2.1
          clear GF GG GK GJ
          have rrJ := FJ.out.2.2
          have rrO := FO.out.2.2
          go_region_held3 (fun w' => Below w9.heap.size w9 w' ∧ w'.cell? ⟨w7.heap.size, 0, none⟩ = some (.slice none (([] : List Cl)).length 0) ∧ w'.cell? ⟨w8.heap.size, 0, none⟩ = some (.slice none (([] : List Cl)).length 0)) (first | exact held2 (by assumption) (by assumption) | exact ⟨(Below.refl _ _).drew, kJ, kO⟩) (first | (go_at_call 23; refine (len_ok _ (fun _ => True) _ [] (RdK.below (by first | exact FJ.out.2.2 | exact FO.out.2.2) (‹Below w9.heap.size w9 _ ∧ _›).1)).mono ?_; rintro e wn ⟨rfl, hbn⟩) | (go_at_call 18; refine (awake_ok _).mono ?_; rintro e wn ⟨rfl, hbn⟩))
          all_goals
            have hz := (‹Below w9.heap.size w9 _ ∧ _›).1
            go_wp2_with fail
            go_ret
            exact ⟨rfl, HB9.out.trans (hz.mono HB9.out.size)⟩
        · have RDJ := Lib.hid (fresh_rd hO)
          clear hO
          go_wp2_with fail
          refine (join_ok _ (fun _ => True) (fun _ => True) _ _ outG outF (RdK.below FG.out.2.2 (one_box _ _)) (RdK.below FF.out.2.2 (one_box _ _)) (by omega) (by omega) HGG.out.2.2.fits HGF.out.2.2.fits).mono ?_
          intro e w8 hnp
          obtain ⟨v8, n8, rfl, hnv⟩ := hnp.named
          have hb8 := hnv.1
          obtain ⟨outO, hfo, hco⟩ := hnv.good (HGG.out.2.2.append HGF.out.2.2).ok
          obtain rfl : outJ = outO := (join_comm HFJ.out.1).unique hfo
          obtain ⟨rfl, AO, cO, rfl, hO⟩ : n8 = 0 ∧ ∃ A c, v8 = .slice A outJ.length c ∧ w8.ownsRow _ 28 5 (.slice A outJ.length c) outJ.length (outJ.map Cl.cells).flatten := by
            rcases hco with ⟨h, _⟩ | ⟨_, h⟩
            · omega
            · exact h
          have RDO := Lib.hid (fresh_rd hO)
          clear hnv hnp hfo hco hO
          have hbb8 := unbox hb8
          have GF := Lib.hid (FF.out.below hbb8)
          have GG := Lib.hid (FG.out.below hbb8)
          have GK := Lib.hid (FK.out.below hbb8)
          have GJ := Lib.hid (Ft.made (A := AJ) (l := outJ) (c := cJ) hb8 RDJ.out)
          have HB8 := Lib.hid (HB7.out.trans (hbb8.mono HB7.out.size))
          clear FF FG FK kF kG kK lF lG lK RDJ HB7 hbb8 hb8
          have FF := GF
          have kF := FF.out.1
          have lF := FF.out.2.1
          have FG := GG
          have kG := FG.out.1
          have lG := FG.out.2.1
          have FK := GK
          have kK := FK.out.1
          have lK := FK.out.2.1
          have FJ := GJ
          have kJ := FJ.out.1
          have lJ := FJ.out.2.1
          clear GF GG GK GJ
          go_upto_region 12 with fail
          have hbb9 := one_box w8 (.cells #[.slice AO (outJ).length cO] 30)
          have GO := Ft.box 30 (A := AO) (l := outJ) (c := cO) RDO.out
          generalize w8.alloc (.cells #[.slice AO (outJ).length cO] 30) = w9 at hbb9 GO ⊢
          have FO := Lib.hid GO
          have kO := FO.out.1
          have lO := FO.out.2.1
          clear GO RDO
          have GF := Lib.hid (FF.out.below hbb9)
          have GG := Lib.hid (FG.out.below hbb9)
          have GK := Lib.hid (FK.out.below hbb9)
          have GJ := Lib.hid (FJ.out.below hbb9)
          have HB9 := Lib.hid (HB8.out.trans (hbb9.mono HB8.out.size))
          clear FF FG FK FJ kF kG kK kJ lF lG lK lJ HB8 hbb9
          have FF := GF
          have kF := FF.out.1
          have lF := FF.out.2.1
          have FG := GG
          have kG := FG.out.1
          have lG := FG.out.2.1
          have FK := GK
          have kK := FK.out.1
          have lK := FK.out.2.1
          have FJ := GJ
          have kJ := FJ.out.1
          have lJ := FJ.out.2.1
          clear GF GG GK GJ
          obtain ⟨wFK, hwFK⟩ := bool_of (WithinP outF outK)
          obtain ⟨wGK, hwGK⟩ := bool_of (WithinP outG outK)
          obtain ⟨wFG, hwFG⟩ := bool_of (WithinP outF outG)
          obtain ⟨cFK, hcFK⟩ := bool_of (ConflP outF outK)
          obtain ⟨cGK, hcGK⟩ := bool_of (ConflP outG outK)
          obtain ⟨cFG, hcFG⟩ := bool_of (ConflP outF outG)
          have HQ := Lib.hid (And.intro hwFK (And.intro hwGK (And.intro hwFG (And.intro hcFK (And.intro hcGK hcFG)))))
          clear hwFK hwGK hwFG hcFK hcGK hcFG
          go_cut [122] from 89 to 122 (fun s122 wx => s122 = .bool false ∧ Below w9.heap.size w9 wx)
          case first =>
            cases wFK with
            | true =>
              have rrF := FF.out.2.2
              have rrG := FG.out.2.2
              have rrK := FK.out.2.2
              have rrJ := FJ.out.2.2
              have rrO := FO.out.2.2
              go_region_held3 (fun w' => Below w9.heap.size w9 w' ∧ w'.cell? ⟨w4.heap.size, 0, none⟩ = some (.slice AF (outF).length cF) ∧ w'.cell? ⟨w5.heap.size, 0, none⟩ = some (.slice AG (outG).length cG) ∧ w'.cell? ⟨w6.heap.size, 0, none⟩ = some (.slice AK (outK).length cK) ∧ w'.cell? ⟨w7.heap.size, 0, none⟩ = some (.slice AJ (outJ).length cJ) ∧ w'.cell? ⟨w8.heap.size, 0, none⟩ = some (.slice AO (outJ).length cO)) (first | exact held5 (by assumption) (by assumption) | exact ⟨(Below.refl _ _).drew, kF, kG, kK, kJ, kO⟩) (first | (go_at_call 27; (with_reducible refine (same_is (a := outJ) (b := outJ) true (.yes rfl) (ClRd.below rrJ (‹Below w9.heap.size w9 _ ∧ _›).1) (ClRd.below rrO (‹Below w9.heap.size w9 _ ∧ _›).1) (by omega)).mono ?_); rintro e wn ⟨rfl, hbn⟩) | (go_at_call 29; (with_reducible refine (within_is (a := outF) (b := outJ) true (.yes (within_join_l HFJ.out.1)) (ClRd.below rrF (‹Below w9.heap.size w9 _ ∧ _›).1) (ClRd.below rrJ (‹Below w9.heap.size w9 _ ∧ _›).1) (by omega) (by omega) HGF.out.2.2 HFJ.out.2).mono ?_); rintro e wn ⟨rfl, hbn⟩) | (go_at_call 29; (with_reducible refine (within_is (a := outG) (b := outJ) true (.yes (within_join_r HFJ.out.1)) (ClRd.below rrG (‹Below w9.heap.size w9 _ ∧ _›).1) (ClRd.below rrJ (‹Below w9.heap.size w9 _ ∧ _›).1) (by omega) (by omega) HGG.out.2.2 HFJ.out.2).mono ?_); rintro e wn ⟨rfl, hbn⟩) | (go_at_call 29; (with_reducible refine (within_is (a := outF) (b := outK) true (HQ.out.1) (ClRd.below rrF (‹Below w9.heap.size w9 _ ∧ _›).1) (ClRd.below rrK (‹Below w9.heap.size w9 _ ∧ _›).1) (by omega) (by omega) HGF.out.2.2 HGK.out.2.2).mono ?_); rintro e wn ⟨rfl, hbn⟩) | (go_at_call 29; (with_reducible refine (within_is (a := outG) (b := outK) wGK (HQ.out.2.1) (ClRd.below rrG (‹Below w9.heap.size w9 _ ∧ _›).1) (ClRd.below rrK (‹Below w9.heap.size w9 _ ∧ _›).1) (by omega) (by omega) HGG.out.2.2 HGK.out.2.2).mono ?_); rintro e wn ⟨rfl, hbn⟩) | (go_at_call 29; (with_reducible refine (within_is (a := outJ) (b := outK) wGK (HQ.out.2.1.congr ⟨fun h => (within_join HFJ.out.1).2 ⟨HQ.out.1.pos, h⟩, fun h => ((within_join HFJ.out.1).1 h).2⟩) (ClRd.below rrJ (‹Below w9.heap.size w9 _ ∧ _›).1) (ClRd.below rrK (‹Below w9.heap.size w9 _ ∧ _›).1) (by omega) (by omega) HFJ.out.2 HGK.out.2.2).mono ?_); rintro e wn ⟨rfl, hbn⟩))
              all_goals
                have hz := (‹Below w9.heap.size w9 _ ∧ _›).1
                go_wp2_with fail
                go_meet
                exact ⟨by simp, hz⟩
            | false =>
              have rrF := FF.out.2.2
              have rrG := FG.out.2.2
              have rrK := FK.out.2.2
              have rrJ := FJ.out.2.2
              have rrO := FO.out.2.2
              refine wp_region_held_drew (S := (fun w' => Below w9.heap.size w9 w' ∧ w'.cell? ⟨w4.heap.size, 0, none⟩ = some (.slice AF (outF).length cF) ∧ w'.cell? ⟨w5.heap.size, 0, none⟩ = some (.slice AG (outG).length cG) ∧ w'.cell? ⟨w6.heap.size, 0, none⟩ = some (.slice AK (outK).length cK) ∧ w'.cell? ⟨w7.heap.size, 0, none⟩ = some (.slice AJ (outJ).length cJ) ∧ w'.cell? ⟨w8.heap.size, 0, none⟩ = some (.slice AO (outJ).length cO))) (by kernel_rfl) ⟨(Below.refl _ _).drew, kF, kG, kK, kJ, kO⟩ (fun hHeld => ?_)
              refine take_lit (i := 0) (v := ?_) rfl (by kernel_rfl) (by kernel_rfl) (by kernel_rfl) (fun _ _ _ h => h) (by rfl) (fun w hSw => ?_) hHeld ?_
              rotate_left
              · obtain ⟨s0, s1, s2, s3, s4, s5⟩ := hSw; go_simp; try with_reducible rfl
              try simp only [Act.put, List.setIfInBounds_toArray, List.set_cons_zero, List.set_cons_succ]
              refine take_lit (i := 1) (v := ?_) rfl (by kernel_rfl) (by kernel_rfl) (by kernel_rfl) (fun _ _ _ h => h) (by rfl) (fun w hSw => ?_) hHeld ?_
              rotate_left
              · obtain ⟨s0, s1, s2, s3, s4, s5⟩ := hSw; go_simp; try with_reducible rfl
              try simp only [Act.put, List.setIfInBounds_toArray, List.set_cons_zero, List.set_cons_succ]
              refine take_lit (i := 2) (v := ?_) rfl (by kernel_rfl) (by kernel_rfl) (by kernel_rfl) (fun _ _ _ h => h) (by rfl) (fun w hSw => ?_) hHeld ?_
              rotate_left
              · obtain ⟨s0, s1, s2, s3, s4, s5⟩ := hSw; go_simp; try with_reducible rfl
              try simp only [Act.put, List.setIfInBounds_toArray, List.set_cons_zero, List.set_cons_succ]
              refine take_lit (i := 3) (v := ?_) rfl (by kernel_rfl) (by kernel_rfl) (by kernel_rfl) (fun _ _ _ h => h) (by rfl) (fun w hSw => ?_) hHeld ?_
              rotate_left
              · obtain ⟨s0, s1, s2, s3, s4, s5⟩ := hSw; go_simp; try with_reducible rfl
              try simp only [Act.put, List.setIfInBounds_toArray, List.set_cons_zero, List.set_cons_succ]
              refine take_lit (i := 4) (v := ?_) rfl (by kernel_rfl) (by kernel_rfl) (by kernel_rfl) (fun _ _ _ h => h) (by rfl) (fun w hSw => ?_) hHeld ?_
              rotate_left
              · obtain ⟨s0, s1, s2, s3, s4, s5⟩ := hSw; go_simp; try with_reducible rfl
              try simp only [Act.put, List.setIfInBounds_toArray, List.set_cons_zero, List.set_cons_succ]
              refine wpAnyH_ready (rs := [5]) (by kernel_rfl) (by simp) (cons_lit (i := 5) rfl (fun K hK => ?_) AllReadyH.nil)
              go_simp
              refine (same_is (a := outJ) (b := outJ) true (.yes rfl) (ClRd.below rrJ hHeld.1) (ClRd.below rrO hHeld.1) (by omega)).mono ?_
              rintro e wn ⟨rfl, hbn⟩
              try go_simp
              refine hK.out _ _ (held5 hHeld hbn) (fun hHeld2 => ?_)
              clear hK K hHeld hbn
              have hHeld := hHeld2
              clear hHeld2
              try simp only [Act.put, List.setIfInBounds_toArray, List.set_cons_zero, List.set_cons_succ]
              refine take_lit (i := 6) (v := ?_) rfl (by kernel_rfl) (by kernel_rfl) (by kernel_rfl) (fun _ _ _ h => h) (by rfl) (fun w hSw => ?_) hHeld ?_
              rotate_left
              · obtain ⟨s0, s1, s2, s3, s4, s5⟩ := hSw; go_simp; try with_reducible rfl
              try simp only [Act.put, List.setIfInBounds_toArray, List.set_cons_zero, List.set_cons_succ]
              refine take_lit (i := 7) (v := ?_) rfl (by kernel_rfl) (by kernel_rfl) (by kernel_rfl) (fun _ _ _ h => h) (by rfl) (fun w hSw => ?_) hHeld ?_
              rotate_left
              · obtain ⟨s0, s1, s2, s3, s4, s5⟩ := hSw; go_simp; try with_reducible rfl
              try simp only [Act.put, List.setIfInBounds_toArray, List.set_cons_zero, List.set_cons_succ]
              refine take_lit (i := 8) (v := ?_) rfl (by kernel_rfl) (by kernel_rfl) (by kernel_rfl) (fun _ _ _ h => h) (by rfl) (fun w hSw => ?_) hHeld ?_
              rotate_left
              · obtain ⟨s0, s1, s2, s3, s4, s5⟩ := hSw; go_simp; try with_reducible rfl
              try simp only [Act.put, List.setIfInBounds_toArray, List.set_cons_zero, List.set_cons_succ]
              refine take_lit (i := 9) (v := ?_) rfl (by kernel_rfl) (by kernel_rfl) (by kernel_rfl) (fun _ _ _ h => h) (by rfl) (fun w hSw => ?_) hHeld ?_
              rotate_left
              · obtain ⟨s0, s1, s2, s3, s4, s5⟩ := hSw; go_simp; try with_reducible rfl
              try simp only [Act.put, List.setIfInBounds_toArray, List.set_cons_zero, List.set_cons_succ]
              refine take_lit (i := 10) (v := ?_) rfl (by kernel_rfl) (by kernel_rfl) (by kernel_rfl) (fun _ _ _ h => h) (by rfl) (fun w hSw => ?_) hHeld ?_
              rotate_left
              · obtain ⟨s0, s1, s2, s3, s4, s5⟩ := hSw; go_simp; try with_reducible rfl
              try simp only [Act.put, List.setIfInBounds_toArray, List.set_cons_zero, List.set_cons_succ]
              refine wpAnyH_ready (rs := [11]) (by kernel_rfl) (by simp) (cons_lit (i := 11) rfl (fun K hK => ?_) AllReadyH.nil)
              go_simp
              refine (within_is (a := outF) (b := outJ) true (.yes (within_join_l HFJ.out.1)) (ClRd.below rrF hHeld.1) (ClRd.below rrJ hHeld.1) (by omega) (by omega) HGF.out.2.2 HFJ.out.2).mono ?_
              rintro e wn ⟨rfl, hbn⟩
              try go_simp
              refine hK.out _ _ (held5 hHeld hbn) (fun hHeld2 => ?_)
              clear hK K hHeld hbn
              have hHeld := hHeld2
              clear hHeld2
              try simp only [Act.put, List.setIfInBounds_toArray, List.set_cons_zero, List.set_cons_succ]
              refine take_lit (i := 12) (v := ?_) rfl (by kernel_rfl) (by kernel_rfl) (by kernel_rfl) (fun _ _ _ h => h) (by rfl) (fun w hSw => ?_) hHeld ?_
              rotate_left
              · obtain ⟨s0, s1, s2, s3, s4, s5⟩ := hSw; go_simp; try with_reducible rfl
              try simp only [Act.put, List.setIfInBounds_toArray, List.set_cons_zero, List.set_cons_succ]
              refine take_lit (i := 13) (v := ?_) rfl (by kernel_rfl) (by kernel_rfl) (by kernel_rfl) (fun _ _ _ h => h) (by rfl) (fun w hSw => ?_) hHeld ?_
              rotate_left
              · obtain ⟨s0, s1, s2, s3, s4, s5⟩ := hSw; go_simp; try with_reducible rfl
              try simp only [Act.put, List.setIfInBounds_toArray, List.set_cons_zero, List.set_cons_succ]
              refine take_lit (i := 14) (v := ?_) rfl (by kernel_rfl) (by kernel_rfl) (by kernel_rfl) (fun _ _ _ h => h) (by rfl) (fun w hSw => ?_) hHeld ?_
              rotate_left
              · obtain ⟨s0, s1, s2, s3, s4, s5⟩ := hSw; go_simp; try with_reducible rfl
              try simp only [Act.put, List.setIfInBounds_toArray, List.set_cons_zero, List.set_cons_succ]
              refine take_lit (i := 15) (v := ?_) rfl (by kernel_rfl) (by kernel_rfl) (by kernel_rfl) (fun _ _ _ h => h) (by rfl) (fun w hSw => ?_) hHeld ?_
              rotate_left
              · obtain ⟨s0, s1, s2, s3, s4, s5⟩ := hSw; go_simp; try with_reducible rfl
              try simp only [Act.put, List.setIfInBounds_toArray, List.set_cons_zero, List.set_cons_succ]
              refine take_lit (i := 16) (v := ?_) rfl (by kernel_rfl) (by kernel_rfl) (by kernel_rfl) (fun _ _ _ h => h) (by rfl) (fun w hSw => ?_) hHeld ?_
              rotate_left
              · obtain ⟨s0, s1, s2, s3, s4, s5⟩ := hSw; go_simp; try with_reducible rfl
              try simp only [Act.put, List.setIfInBounds_toArray, List.set_cons_zero, List.set_cons_succ]
              refine wpAnyH_ready (rs := [17]) (by kernel_rfl) (by simp) (cons_lit (i := 17) rfl (fun K hK => ?_) AllReadyH.nil)
              go_simp
              refine (within_is (a := outG) (b := outJ) true (.yes (within_join_r HFJ.out.1)) (ClRd.below rrG hHeld.1) (ClRd.below rrJ hHeld.1) (by omega) (by omega) HGG.out.2.2 HFJ.out.2).mono ?_
              rintro e wn ⟨rfl, hbn⟩
              try go_simp
              refine hK.out _ _ (held5 hHeld hbn) (fun hHeld2 => ?_)
              clear hK K hHeld hbn
              have hHeld := hHeld2
              clear hHeld2
              try simp only [Act.put, List.setIfInBounds_toArray, List.set_cons_zero, List.set_cons_succ]
              refine take_lit (i := 18) (v := ?_) rfl (by kernel_rfl) (by kernel_rfl) (by kernel_rfl) (fun _ _ _ h => h) (by rfl) (fun w hSw => ?_) hHeld ?_
              rotate_left
              · obtain ⟨s0, s1, s2, s3, s4, s5⟩ := hSw; go_simp; try with_reducible rfl
              try simp only [Act.put, List.setIfInBounds_toArray, List.set_cons_zero, List.set_cons_succ]
              refine take_lit (i := 19) (v := ?_) rfl (by kernel_rfl) (by kernel_rfl) (by kernel_rfl) (fun _ _ _ h => h) (by rfl) (fun w hSw => ?_) hHeld ?_
              rotate_left
              · obtain ⟨s0, s1, s2, s3, s4, s5⟩ := hSw; go_simp; try with_reducible rfl
              try simp only [Act.put, List.setIfInBounds_toArray, List.set_cons_zero, List.set_cons_succ]
              refine take_lit (i := 20) (v := ?_) rfl (by kernel_rfl) (by kernel_rfl) (by kernel_rfl) (fun _ _ _ h => h) (by rfl) (fun w hSw => ?_) hHeld ?_
              rotate_left
              · obtain ⟨s0, s1, s2, s3, s4, s5⟩ := hSw; go_simp; try with_reducible rfl
              try simp only [Act.put, List.setIfInBounds_toArray, List.set_cons_zero, List.set_cons_succ]
              refine take_lit (i := 21) (v := ?_) rfl (by kernel_rfl) (by kernel_rfl) (by kernel_rfl) (fun _ _ _ h => h) (by rfl) (fun w hSw => ?_) hHeld ?_
              rotate_left
              · obtain ⟨s0, s1, s2, s3, s4, s5⟩ := hSw; go_simp; try with_reducible rfl
              try simp only [Act.put, List.setIfInBounds_toArray, List.set_cons_zero, List.set_cons_succ]
              refine take_lit (i := 22) (v := ?_) rfl (by kernel_rfl) (by kernel_rfl) (by kernel_rfl) (fun _ _ _ h => h) (by rfl) (fun w hSw => ?_) hHeld ?_
              rotate_left
              · obtain ⟨s0, s1, s2, s3, s4, s5⟩ := hSw; go_simp; try with_reducible rfl
              try simp only [Act.put, List.setIfInBounds_toArray, List.set_cons_zero, List.set_cons_succ]
              refine wpAnyH_ready (rs := [23]) (by kernel_rfl) (by simp) (cons_lit (i := 23) rfl (fun K hK => ?_) AllReadyH.nil)
              go_simp
              refine (within_is (a := outF) (b := outK) false (HQ.out.1) (ClRd.below rrF hHeld.1) (ClRd.below rrK hHeld.1) (by omega) (by omega) HGF.out.2.2 HGK.out.2.2).mono ?_
              rintro e wn ⟨rfl, hbn⟩
              try go_simp
              refine hK.out _ _ (held5 hHeld hbn) (fun hHeld2 => ?_)
              clear hK K hHeld hbn
              have hHeld := hHeld2
              clear hHeld2
              try simp only [Act.put, List.setIfInBounds_toArray, List.set_cons_zero, List.set_cons_succ]
              refine take_lit (i := 24) (v := ?_) rfl (by kernel_rfl) (by kernel_rfl) (by kernel_rfl) (fun _ _ _ h => h) (by rfl) (fun w hSw => ?_) hHeld ?_
              rotate_left
              · obtain ⟨s0, s1, s2, s3, s4, s5⟩ := hSw; go_simp; try with_reducible rfl
              try simp only [Act.put, List.setIfInBounds_toArray, List.set_cons_zero, List.set_cons_succ]
              refine take_no (i := 25) rfl (by kernel_rfl) (by kernel_rfl) (by kernel_rfl) (fun _ _ _ h => h) (by rfl) hHeld ?_
              try simp only [Act.put, List.setIfInBounds_toArray, List.set_cons_zero, List.set_cons_succ]
              refine take_no (i := 26) rfl (by kernel_rfl) (by kernel_rfl) (by kernel_rfl) (fun _ _ _ h => h) (by rfl) hHeld ?_
              try simp only [Act.put, List.setIfInBounds_toArray, List.set_cons_zero, List.set_cons_succ]
              refine take_no (i := 27) rfl (by kernel_rfl) (by kernel_rfl) (by kernel_rfl) (fun _ _ _ h => h) (by rfl) hHeld ?_
              try simp only [Act.put, List.setIfInBounds_toArray, List.set_cons_zero, List.set_cons_succ]
              refine take_no (i := 28) rfl (by kernel_rfl) (by kernel_rfl) (by kernel_rfl) (fun _ _ _ h => h) (by rfl) hHeld ?_
              try simp only [Act.put, List.setIfInBounds_toArray, List.set_cons_zero, List.set_cons_succ]
              refine take_no (i := 29) rfl (by kernel_rfl) (by kernel_rfl) (by kernel_rfl) (fun _ _ _ h => h) (by rfl) hHeld ?_
              try simp only [Act.put, List.setIfInBounds_toArray, List.set_cons_zero, List.set_cons_succ]
              refine take_no (i := 30) rfl (by kernel_rfl) (by kernel_rfl) (by kernel_rfl) (fun _ _ _ h => h) (by rfl) hHeld ?_
              try simp only [Act.put, List.setIfInBounds_toArray, List.set_cons_zero, List.set_cons_succ]
              refine take_no (i := 31) rfl (by kernel_rfl) (by kernel_rfl) (by kernel_rfl) (fun _ _ _ h => h) (by rfl) hHeld ?_
              try simp only [Act.put, List.setIfInBounds_toArray, List.set_cons_zero, List.set_cons_succ]
              refine take_lit (i := 32) (v := ?_) rfl (by kernel_rfl) (by kernel_rfl) (by kernel_rfl) (fun _ _ _ h => h) (by rfl) (fun w hSw => ?_) hHeld ?_
              rotate_left
              · obtain ⟨s0, s1, s2, s3, s4, s5⟩ := hSw; go_simp; try with_reducible rfl
              try simp only [Act.put, List.setIfInBounds_toArray, List.set_cons_zero, List.set_cons_succ]
              refine take_lit (i := 33) (v := ?_) rfl (by kernel_rfl) (by kernel_rfl) (by kernel_rfl) (fun _ _ _ h => h) (by rfl) (fun w hSw => ?_) hHeld ?_
              rotate_left
              · obtain ⟨s0, s1, s2, s3, s4, s5⟩ := hSw; go_simp; try with_reducible rfl
              try simp only [Act.put, List.setIfInBounds_toArray, List.set_cons_zero, List.set_cons_succ]
              refine wpAnyH_done (by kernel_rfl) ?_ _
              have hz := hHeld.1
              go_wp2_with fail
              go_meet
              exact ⟨by simp, hz⟩
          case rest =>
            obtain ⟨rfl, hcb⟩ := hcut
            obtain ⟨w10, rfl⟩ : ∃ w10 : World, w10 = wc := ⟨_, rfl⟩
            have hbb10 := hcb
            have GF := Lib.hid (FF.out.below hbb10)
            have GG := Lib.hid (FG.out.below hbb10)
            have GK := Lib.hid (FK.out.below hbb10)
            have GJ := Lib.hid (FJ.out.below hbb10)
            have GO := Lib.hid (FO.out.below hbb10)
            have HB10 := Lib.hid (HB9.out.trans (hbb10.mono HB9.out.size))
            clear FF FG FK FJ FO kF kG kK kJ kO lF lG lK lJ lO HB9 hbb10 hcb
            have FF := GF
            have kF := FF.out.1
            have lF := FF.out.2.1
            have FG := GG
            have kG := FG.out.1
            have lG := FG.out.2.1
            have FK := GK
            have kK := FK.out.1
            have lK := FK.out.2.1
            have FJ := GJ
            have kJ := FJ.out.1
            have lJ := FJ.out.2.1
            have FO := GO
            have kO := FO.out.1
            have lO := FO.out.2.1
            clear GF GG GK GJ GO
            go_upto_region 14 with fail
            go_cut [152] from 123 to 152 (fun s152 wx => s152 = .bool false ∧ Below w10.heap.size w10 wx)
            case first =>
              cases wFG with
              | false =>
                have HX10 := Lib.hid (Below.refl w10.heap.size w10)
                go_wp2_with fail
                refine (within_is (a := outF) (b := outG) false (HQ.out.2.2.1) FF.out.2.2 FG.out.2.2 (by omega) (by omega) HGF.out.2.2 HGG.out.2.2).mono ?_
                rintro e w11 ⟨rfl, hb11⟩
                have HX11 := Lib.hid (HX10.out.trans (hb11.mono HX10.out.size))
                clear HX10
                have hbb11 := hb11
                have GF := Lib.hid (FF.out.below hbb11)
                have GG := Lib.hid (FG.out.below hbb11)
                have GK := Lib.hid (FK.out.below hbb11)
                have GJ := Lib.hid (FJ.out.below hbb11)
                have GO := Lib.hid (FO.out.below hbb11)
                have HB11 := Lib.hid (HB10.out.trans (hbb11.mono HB10.out.size))
                clear FF FG FK FJ FO kF kG kK kJ kO lF lG lK lJ lO HB10 hbb11 hb11
                have FF := GF
                have kF := FF.out.1
                have lF := FF.out.2.1
                have FG := GG
                have kG := FG.out.1
                have lG := FG.out.2.1
                have FK := GK
                have kK := FK.out.1
                have lK := FK.out.2.1
                have FJ := GJ
                have kJ := FJ.out.1
                have lJ := FJ.out.2.1
                have FO := GO
                have kO := FO.out.1
                have lO := FO.out.2.1
                clear GF GG GK GJ GO
                go_wp2_with fail
                refine (within_is (a := outF) (b := outG) false (HQ.out.2.2.1) FF.out.2.2 FG.out.2.2 (by omega) (by omega) HGF.out.2.2 HGG.out.2.2).mono ?_
                rintro e w12 ⟨rfl, hb12⟩
                have HX12 := Lib.hid (HX11.out.trans (hb12.mono HX11.out.size))
                clear HX11
                have hbb12 := hb12
                have GF := Lib.hid (FF.out.below hbb12)
                have GG := Lib.hid (FG.out.below hbb12)
                have GK := Lib.hid (FK.out.below hbb12)
                have GJ := Lib.hid (FJ.out.below hbb12)
                have GO := Lib.hid (FO.out.below hbb12)
                have HB12 := Lib.hid (HB11.out.trans (hbb12.mono HB11.out.size))
                clear FF FG FK FJ FO kF kG kK kJ kO lF lG lK lJ lO HB11 hbb12 hb12
                have FF := GF
                have kF := FF.out.1
                have lF := FF.out.2.1
                have FG := GG
                have kG := FG.out.1
                have lG := FG.out.2.1
                have FK := GK
                have kK := FK.out.1
                have lK := FK.out.2.1
                have FJ := GJ
                have kJ := FJ.out.1
                have lJ := FJ.out.2.1
                have FO := GO
                have kO := FO.out.1
                have lO := FO.out.2.1
                clear GF GG GK GJ GO
                go_wp2_with fail
                go_meet
                exact ⟨rfl, HX12.out⟩
              | true =>
                cases cFK with
                | true =>
                  cases wGK with
                  | true =>
                    have HX10 := Lib.hid (Below.refl w10.heap.size w10)
                    go_wp2_with fail
                    refine (within_is (a := outF) (b := outG) true (HQ.out.2.2.1) FF.out.2.2 FG.out.2.2 (by omega) (by omega) HGF.out.2.2 HGG.out.2.2).mono ?_
                    rintro e w11 ⟨rfl, hb11⟩
                    have HX11 := Lib.hid (HX10.out.trans (hb11.mono HX10.out.size))
                    clear HX10
                    have hbb11 := hb11
                    have GF := Lib.hid (FF.out.below hbb11)
                    have GG := Lib.hid (FG.out.below hbb11)
                    have GK := Lib.hid (FK.out.below hbb11)
                    have GJ := Lib.hid (FJ.out.below hbb11)
                    have GO := Lib.hid (FO.out.below hbb11)
                    have HB11 := Lib.hid (HB10.out.trans (hbb11.mono HB10.out.size))
                    clear FF FG FK FJ FO kF kG kK kJ kO lF lG lK lJ lO HB10 hbb11 hb11
                    have FF := GF
                    have kF := FF.out.1
                    have lF := FF.out.2.1
                    have FG := GG
                    have kG := FG.out.1
                    have lG := FG.out.2.1
                    have FK := GK
                    have kK := FK.out.1
                    have lK := FK.out.2.1
                    have FJ := GJ
                    have kJ := FJ.out.1
                    have lJ := FJ.out.2.1
                    have FO := GO
                    have kO := FO.out.1
                    have lO := FO.out.2.1
                    clear GF GG GK GJ GO
                    go_wp2_with fail
                    refine (conflict_is (a := outF) (b := outK) true (HQ.out.2.2.2.1) FF.out.2.2 FK.out.2.2 (by omega) (by omega)).mono ?_
                    rintro e w12 ⟨rfl, hb12⟩
                    have HX12 := Lib.hid (HX11.out.trans (hb12.mono HX11.out.size))
                    clear HX11
                    have hbb12 := hb12
                    have GF := Lib.hid (FF.out.below hbb12)
                    have GG := Lib.hid (FG.out.below hbb12)
                    have GK := Lib.hid (FK.out.below hbb12)
                    have GJ := Lib.hid (FJ.out.below hbb12)
                    have GO := Lib.hid (FO.out.below hbb12)
                    have HB12 := Lib.hid (HB11.out.trans (hbb12.mono HB11.out.size))
                    clear FF FG FK FJ FO kF kG kK kJ kO lF lG lK lJ lO HB11 hbb12 hb12
                    have FF := GF
                    have kF := FF.out.1
                    have lF := FF.out.2.1
                    have FG := GG
                    have kG := FG.out.1
                    have lG := FG.out.2.1
                    have FK := GK
                    have kK := FK.out.1
                    have lK := FK.out.2.1
                    have FJ := GJ
                    have kJ := FJ.out.1
                    have lJ := FJ.out.2.1
                    have FO := GO
                    have kO := FO.out.1
                    have lO := FO.out.2.1
                    clear GF GG GK GJ GO
                    go_wp2_with fail
                    refine (conflict_is (a := outG) (b := outK) true (.yes (confl_mono HGF.out.2.2 HGG.out.2.2 HGK.out.2.2 HQ.out.2.2.1.pos HQ.out.2.2.2.1.pos)) FG.out.2.2 FK.out.2.2 (by omega) (by omega)).mono ?_
                    rintro e w13 ⟨rfl, hb13⟩
                    have HX13 := Lib.hid (HX12.out.trans (hb13.mono HX12.out.size))
                    clear HX12
                    have hbb13 := hb13
                    have GF := Lib.hid (FF.out.below hbb13)
                    have GG := Lib.hid (FG.out.below hbb13)
                    have GK := Lib.hid (FK.out.below hbb13)
                    have GJ := Lib.hid (FJ.out.below hbb13)
                    have GO := Lib.hid (FO.out.below hbb13)
                    have HB13 := Lib.hid (HB12.out.trans (hbb13.mono HB12.out.size))
                    clear FF FG FK FJ FO kF kG kK kJ kO lF lG lK lJ lO HB12 hbb13 hb13
                    have FF := GF
                    have kF := FF.out.1
                    have lF := FF.out.2.1
                    have FG := GG
                    have kG := FG.out.1
                    have lG := FG.out.2.1
                    have FK := GK
                    have kK := FK.out.1
                    have lK := FK.out.2.1
                    have FJ := GJ
                    have kJ := FJ.out.1
                    have lJ := FJ.out.2.1
                    have FO := GO
                    have kO := FO.out.1
                    have lO := FO.out.2.1
                    clear GF GG GK GJ GO
                    go_wp2_with fail
                    refine (within_is (a := outF) (b := outG) true (HQ.out.2.2.1) FF.out.2.2 FG.out.2.2 (by omega) (by omega) HGF.out.2.2 HGG.out.2.2).mono ?_
                    rintro e w14 ⟨rfl, hb14⟩
                    have HX14 := Lib.hid (HX13.out.trans (hb14.mono HX13.out.size))
                    clear HX13
                    have hbb14 := hb14
                    have GF := Lib.hid (FF.out.below hbb14)
                    have GG := Lib.hid (FG.out.below hbb14)
                    have GK := Lib.hid (FK.out.below hbb14)
                    have GJ := Lib.hid (FJ.out.below hbb14)
                    have GO := Lib.hid (FO.out.below hbb14)
                    have HB14 := Lib.hid (HB13.out.trans (hbb14.mono HB13.out.size))
                    clear FF FG FK FJ FO kF kG kK kJ kO lF lG lK lJ lO HB13 hbb14 hb14
                    have FF := GF
                    have kF := FF.out.1
                    have lF := FF.out.2.1
                    have FG := GG
                    have kG := FG.out.1
                    have lG := FG.out.2.1
                    have FK := GK
                    have kK := FK.out.1
                    have lK := FK.out.2.1
                    have FJ := GJ
                    have kJ := FJ.out.1
                    have lJ := FJ.out.2.1
                    have FO := GO
                    have kO := FO.out.1
                    have lO := FO.out.2.1
                    clear GF GG GK GJ GO
                    go_wp2_with fail
                    refine (within_is (a := outG) (b := outK) true (HQ.out.2.1) FG.out.2.2 FK.out.2.2 (by omega) (by omega) HGG.out.2.2 HGK.out.2.2).mono ?_
                    rintro e w15 ⟨rfl, hb15⟩
                    have HX15 := Lib.hid (HX14.out.trans (hb15.mono HX14.out.size))
                    clear HX14
                    have hbb15 := hb15
                    have GF := Lib.hid (FF.out.below hbb15)
                    have GG := Lib.hid (FG.out.below hbb15)
                    have GK := Lib.hid (FK.out.below hbb15)
                    have GJ := Lib.hid (FJ.out.below hbb15)
                    have GO := Lib.hid (FO.out.below hbb15)
                    have HB15 := Lib.hid (HB14.out.trans (hbb15.mono HB14.out.size))
                    clear FF FG FK FJ FO kF kG kK kJ kO lF lG lK lJ lO HB14 hbb15 hb15
                    have FF := GF
                    have kF := FF.out.1
                    have lF := FF.out.2.1
                    have FG := GG
                    have kG := FG.out.1
                    have lG := FG.out.2.1
                    have FK := GK
                    have kK := FK.out.1
                    have lK := FK.out.2.1
                    have FJ := GJ
                    have kJ := FJ.out.1
                    have lJ := FJ.out.2.1
                    have FO := GO
                    have kO := FO.out.1
                    have lO := FO.out.2.1
                    clear GF GG GK GJ GO
                    go_wp2_with fail
                    refine (within_is (a := outF) (b := outK) true (.yes (within_trans HQ.out.2.2.1.pos HQ.out.2.1.pos)) FF.out.2.2 FK.out.2.2 (by omega) (by omega) HGF.out.2.2 HGK.out.2.2).mono ?_
                    rintro e w16 ⟨rfl, hb16⟩
                    have HX16 := Lib.hid (HX15.out.trans (hb16.mono HX15.out.size))
                    clear HX15
                    have hbb16 := hb16
                    have GF := Lib.hid (FF.out.below hbb16)
                    have GG := Lib.hid (FG.out.below hbb16)
                    have GK := Lib.hid (FK.out.below hbb16)
                    have GJ := Lib.hid (FJ.out.below hbb16)
                    have GO := Lib.hid (FO.out.below hbb16)
                    have HB16 := Lib.hid (HB15.out.trans (hbb16.mono HB15.out.size))
                    clear FF FG FK FJ FO kF kG kK kJ kO lF lG lK lJ lO HB15 hbb16 hb16
                    have FF := GF
                    have kF := FF.out.1
                    have lF := FF.out.2.1
                    have FG := GG
                    have kG := FG.out.1
                    have lG := FG.out.2.1
                    have FK := GK
                    have kK := FK.out.1
                    have lK := FK.out.2.1
                    have FJ := GJ
                    have kJ := FJ.out.1
                    have lJ := FJ.out.2.1
                    have FO := GO
                    have kO := FO.out.1
                    have lO := FO.out.2.1
                    clear GF GG GK GJ GO
                    go_wp2_with fail
                    go_meet
                    exact ⟨rfl, HX16.out⟩
                  | false =>
                    have HX10 := Lib.hid (Below.refl w10.heap.size w10)
                    go_wp2_with fail
                    refine (within_is (a := outF) (b := outG) true (HQ.out.2.2.1) FF.out.2.2 FG.out.2.2 (by omega) (by omega) HGF.out.2.2 HGG.out.2.2).mono ?_
                    rintro e w11 ⟨rfl, hb11⟩
                    have HX11 := Lib.hid (HX10.out.trans (hb11.mono HX10.out.size))
                    clear HX10
                    have hbb11 := hb11
                    have GF := Lib.hid (FF.out.below hbb11)
                    have GG := Lib.hid (FG.out.below hbb11)
                    have GK := Lib.hid (FK.out.below hbb11)
                    have GJ := Lib.hid (FJ.out.below hbb11)
                    have GO := Lib.hid (FO.out.below hbb11)
                    have HB11 := Lib.hid (HB10.out.trans (hbb11.mono HB10.out.size))
                    clear FF FG FK FJ FO kF kG kK kJ kO lF lG lK lJ lO HB10 hbb11 hb11
                    have FF := GF
                    have kF := FF.out.1
                    have lF := FF.out.2.1
                    have FG := GG
                    have kG := FG.out.1
                    have lG := FG.out.2.1
                    have FK := GK
                    have kK := FK.out.1
                    have lK := FK.out.2.1
                    have FJ := GJ
                    have kJ := FJ.out.1
                    have lJ := FJ.out.2.1
                    have FO := GO
                    have kO := FO.out.1
                    have lO := FO.out.2.1
                    clear GF GG GK GJ GO
                    go_wp2_with fail
                    refine (conflict_is (a := outF) (b := outK) true (HQ.out.2.2.2.1) FF.out.2.2 FK.out.2.2 (by omega) (by omega)).mono ?_
                    rintro e w12 ⟨rfl, hb12⟩
                    have HX12 := Lib.hid (HX11.out.trans (hb12.mono HX11.out.size))
                    clear HX11
                    have hbb12 := hb12
                    have GF := Lib.hid (FF.out.below hbb12)
                    have GG := Lib.hid (FG.out.below hbb12)
                    have GK := Lib.hid (FK.out.below hbb12)
                    have GJ := Lib.hid (FJ.out.below hbb12)
                    have GO := Lib.hid (FO.out.below hbb12)
                    have HB12 := Lib.hid (HB11.out.trans (hbb12.mono HB11.out.size))
                    clear FF FG FK FJ FO kF kG kK kJ kO lF lG lK lJ lO HB11 hbb12 hb12
                    have FF := GF
                    have kF := FF.out.1
                    have lF := FF.out.2.1
                    have FG := GG
                    have kG := FG.out.1
                    have lG := FG.out.2.1
                    have FK := GK
                    have kK := FK.out.1
                    have lK := FK.out.2.1
                    have FJ := GJ
                    have kJ := FJ.out.1
                    have lJ := FJ.out.2.1
                    have FO := GO
                    have kO := FO.out.1
                    have lO := FO.out.2.1
                    clear GF GG GK GJ GO
                    go_wp2_with fail
                    refine (conflict_is (a := outG) (b := outK) true (.yes (confl_mono HGF.out.2.2 HGG.out.2.2 HGK.out.2.2 HQ.out.2.2.1.pos HQ.out.2.2.2.1.pos)) FG.out.2.2 FK.out.2.2 (by omega) (by omega)).mono ?_
                    rintro e w13 ⟨rfl, hb13⟩
                    have HX13 := Lib.hid (HX12.out.trans (hb13.mono HX12.out.size))
                    clear HX12
                    have hbb13 := hb13
                    have GF := Lib.hid (FF.out.below hbb13)
                    have GG := Lib.hid (FG.out.below hbb13)
                    have GK := Lib.hid (FK.out.below hbb13)
                    have GJ := Lib.hid (FJ.out.below hbb13)
                    have GO := Lib.hid (FO.out.below hbb13)
                    have HB13 := Lib.hid (HB12.out.trans (hbb13.mono HB12.out.size))
                    clear FF FG FK FJ FO kF kG kK kJ kO lF lG lK lJ lO HB12 hbb13 hb13
                    have FF := GF
                    have kF := FF.out.1
                    have lF := FF.out.2.1
                    have FG := GG
                    have kG := FG.out.1
                    have lG := FG.out.2.1
                    have FK := GK
                    have kK := FK.out.1
                    have lK := FK.out.2.1
                    have FJ := GJ
                    have kJ := FJ.out.1
                    have lJ := FJ.out.2.1
                    have FO := GO
                    have kO := FO.out.1
                    have lO := FO.out.2.1
                    clear GF GG GK GJ GO
                    go_wp2_with fail
                    refine (within_is (a := outF) (b := outG) true (HQ.out.2.2.1) FF.out.2.2 FG.out.2.2 (by omega) (by omega) HGF.out.2.2 HGG.out.2.2).mono ?_
                    rintro e w14 ⟨rfl, hb14⟩
                    have HX14 := Lib.hid (HX13.out.trans (hb14.mono HX13.out.size))
                    clear HX13
                    have hbb14 := hb14
                    have GF := Lib.hid (FF.out.below hbb14)
                    have GG := Lib.hid (FG.out.below hbb14)
                    have GK := Lib.hid (FK.out.below hbb14)
                    have GJ := Lib.hid (FJ.out.below hbb14)
                    have GO := Lib.hid (FO.out.below hbb14)
                    have HB14 := Lib.hid (HB13.out.trans (hbb14.mono HB13.out.size))
                    clear FF FG FK FJ FO kF kG kK kJ kO lF lG lK lJ lO HB13 hbb14 hb14
                    have FF := GF
                    have kF := FF.out.1
                    have lF := FF.out.2.1
                    have FG := GG
                    have kG := FG.out.1
                    have lG := FG.out.2.1
                    have FK := GK
                    have kK := FK.out.1
                    have lK := FK.out.2.1
                    have FJ := GJ
                    have kJ := FJ.out.1
                    have lJ := FJ.out.2.1
                    have FO := GO
                    have kO := FO.out.1
                    have lO := FO.out.2.1
                    clear GF GG GK GJ GO
                    go_wp2_with fail
                    refine (within_is (a := outG) (b := outK) false (HQ.out.2.1) FG.out.2.2 FK.out.2.2 (by omega) (by omega) HGG.out.2.2 HGK.out.2.2).mono ?_
                    rintro e w15 ⟨rfl, hb15⟩
                    have HX15 := Lib.hid (HX14.out.trans (hb15.mono HX14.out.size))
                    clear HX14
                    have hbb15 := hb15
                    have GF := Lib.hid (FF.out.below hbb15)
                    have GG := Lib.hid (FG.out.below hbb15)
                    have GK := Lib.hid (FK.out.below hbb15)
                    have GJ := Lib.hid (FJ.out.below hbb15)
                    have GO := Lib.hid (FO.out.below hbb15)
                    have HB15 := Lib.hid (HB14.out.trans (hbb15.mono HB14.out.size))
                    clear FF FG FK FJ FO kF kG kK kJ kO lF lG lK lJ lO HB14 hbb15 hb15
                    have FF := GF
                    have kF := FF.out.1
                    have lF := FF.out.2.1
                    have FG := GG
                    have kG := FG.out.1
                    have lG := FG.out.2.1
                    have FK := GK
                    have kK := FK.out.1
                    have lK := FK.out.2.1
                    have FJ := GJ
                    have kJ := FJ.out.1
                    have lJ := FJ.out.2.1
                    have FO := GO
                    have kO := FO.out.1
                    have lO := FO.out.2.1
                    clear GF GG GK GJ GO
                    go_wp2_with fail
                    go_meet
                    exact ⟨rfl, HX15.out⟩
                | false =>
                  cases wGK with
                  | true =>
                    have HX10 := Lib.hid (Below.refl w10.heap.size w10)
                    go_wp2_with fail
                    refine (within_is (a := outF) (b := outG) true (HQ.out.2.2.1) FF.out.2.2 FG.out.2.2 (by omega) (by omega) HGF.out.2.2 HGG.out.2.2).mono ?_
                    rintro e w11 ⟨rfl, hb11⟩
                    have HX11 := Lib.hid (HX10.out.trans (hb11.mono HX10.out.size))
                    clear HX10
                    have hbb11 := hb11
                    have GF := Lib.hid (FF.out.below hbb11)
                    have GG := Lib.hid (FG.out.below hbb11)
                    have GK := Lib.hid (FK.out.below hbb11)
                    have GJ := Lib.hid (FJ.out.below hbb11)
                    have GO := Lib.hid (FO.out.below hbb11)
                    have HB11 := Lib.hid (HB10.out.trans (hbb11.mono HB10.out.size))
                    clear FF FG FK FJ FO kF kG kK kJ kO lF lG lK lJ lO HB10 hbb11 hb11
                    have FF := GF
                    have kF := FF.out.1
                    have lF := FF.out.2.1
                    have FG := GG
                    have kG := FG.out.1
                    have lG := FG.out.2.1
                    have FK := GK
                    have kK := FK.out.1
                    have lK := FK.out.2.1
                    have FJ := GJ
                    have kJ := FJ.out.1
                    have lJ := FJ.out.2.1
                    have FO := GO
                    have kO := FO.out.1
                    have lO := FO.out.2.1
                    clear GF GG GK GJ GO
                    go_wp2_with fail
                    refine (conflict_is (a := outF) (b := outK) false (HQ.out.2.2.2.1) FF.out.2.2 FK.out.2.2 (by omega) (by omega)).mono ?_
                    rintro e w12 ⟨rfl, hb12⟩
                    have HX12 := Lib.hid (HX11.out.trans (hb12.mono HX11.out.size))
                    clear HX11
                    have hbb12 := hb12
                    have GF := Lib.hid (FF.out.below hbb12)
                    have GG := Lib.hid (FG.out.below hbb12)
                    have GK := Lib.hid (FK.out.below hbb12)
                    have GJ := Lib.hid (FJ.out.below hbb12)
                    have GO := Lib.hid (FO.out.below hbb12)
                    have HB12 := Lib.hid (HB11.out.trans (hbb12.mono HB11.out.size))
                    clear FF FG FK FJ FO kF kG kK kJ kO lF lG lK lJ lO HB11 hbb12 hb12
                    have FF := GF
                    have kF := FF.out.1
                    have lF := FF.out.2.1
                    have FG := GG
                    have kG := FG.out.1
                    have lG := FG.out.2.1
                    have FK := GK
                    have kK := FK.out.1
                    have lK := FK.out.2.1
                    have FJ := GJ
                    have kJ := FJ.out.1
                    have lJ := FJ.out.2.1
                    have FO := GO
                    have kO := FO.out.1
                    have lO := FO.out.2.1
                    clear GF GG GK GJ GO
                    go_wp2_with fail
                    refine (within_is (a := outF) (b := outG) true (HQ.out.2.2.1) FF.out.2.2 FG.out.2.2 (by omega) (by omega) HGF.out.2.2 HGG.out.2.2).mono ?_
                    rintro e w13 ⟨rfl, hb13⟩
                    have HX13 := Lib.hid (HX12.out.trans (hb13.mono HX12.out.size))
                    clear HX12
                    have hbb13 := hb13
                    have GF := Lib.hid (FF.out.below hbb13)
                    have GG := Lib.hid (FG.out.below hbb13)
                    have GK := Lib.hid (FK.out.below hbb13)
                    have GJ := Lib.hid (FJ.out.below hbb13)
                    have GO := Lib.hid (FO.out.below hbb13)
                    have HB13 := Lib.hid (HB12.out.trans (hbb13.mono HB12.out.size))
                    clear FF FG FK FJ FO kF kG kK kJ kO lF lG lK lJ lO HB12 hbb13 hb13
                    have FF := GF
                    have kF := FF.out.1
                    have lF := FF.out.2.1
                    have FG := GG
                    have kG := FG.out.1
                    have lG := FG.out.2.1
                    have FK := GK
                    have kK := FK.out.1
                    have lK := FK.out.2.1
                    have FJ := GJ
                    have kJ := FJ.out.1
                    have lJ := FJ.out.2.1
                    have FO := GO
                    have kO := FO.out.1
                    have lO := FO.out.2.1
                    clear GF GG GK GJ GO
                    go_wp2_with fail
                    refine (within_is (a := outG) (b := outK) true (HQ.out.2.1) FG.out.2.2 FK.out.2.2 (by omega) (by omega) HGG.out.2.2 HGK.out.2.2).mono ?_
                    rintro e w14 ⟨rfl, hb14⟩
                    have HX14 := Lib.hid (HX13.out.trans (hb14.mono HX13.out.size))
                    clear HX13
                    have hbb14 := hb14
                    have GF := Lib.hid (FF.out.below hbb14)
                    have GG := Lib.hid (FG.out.below hbb14)
                    have GK := Lib.hid (FK.out.below hbb14)
                    have GJ := Lib.hid (FJ.out.below hbb14)
                    have GO := Lib.hid (FO.out.below hbb14)
                    have HB14 := Lib.hid (HB13.out.trans (hbb14.mono HB13.out.size))
                    clear FF FG FK FJ FO kF kG kK kJ kO lF lG lK lJ lO HB13 hbb14 hb14
                    have FF := GF
                    have kF := FF.out.1
                    have lF := FF.out.2.1
                    have FG := GG
                    have kG := FG.out.1
                    have lG := FG.out.2.1
                    have FK := GK
                    have kK := FK.out.1
                    have lK := FK.out.2.1
                    have FJ := GJ
                    have kJ := FJ.out.1
                    have lJ := FJ.out.2.1
                    have FO := GO
                    have kO := FO.out.1
                    have lO := FO.out.2.1
                    clear GF GG GK GJ GO
                    go_wp2_with fail
                    refine (within_is (a := outF) (b := outK) true (.yes (within_trans HQ.out.2.2.1.pos HQ.out.2.1.pos)) FF.out.2.2 FK.out.2.2 (by omega) (by omega) HGF.out.2.2 HGK.out.2.2).mono ?_
                    rintro e w15 ⟨rfl, hb15⟩
                    have HX15 := Lib.hid (HX14.out.trans (hb15.mono HX14.out.size))
                    clear HX14
                    have hbb15 := hb15
                    have GF := Lib.hid (FF.out.below hbb15)
                    have GG := Lib.hid (FG.out.below hbb15)
                    have GK := Lib.hid (FK.out.below hbb15)
                    have GJ := Lib.hid (FJ.out.below hbb15)
                    have GO := Lib.hid (FO.out.below hbb15)
                    have HB15 := Lib.hid (HB14.out.trans (hbb15.mono HB14.out.size))
                    clear FF FG FK FJ FO kF kG kK kJ kO lF lG lK lJ lO HB14 hbb15 hb15
                    have FF := GF
                    have kF := FF.out.1
                    have lF := FF.out.2.1
                    have FG := GG
                    have kG := FG.out.1
                    have lG := FG.out.2.1
                    have FK := GK
                    have kK := FK.out.1
                    have lK := FK.out.2.1
                    have FJ := GJ
                    have kJ := FJ.out.1
                    have lJ := FJ.out.2.1
                    have FO := GO
                    have kO := FO.out.1
                    have lO := FO.out.2.1
                    clear GF GG GK GJ GO
                    go_wp2_with fail
                    go_meet
                    exact ⟨rfl, HX15.out⟩
                  | false =>
                    have HX10 := Lib.hid (Below.refl w10.heap.size w10)
                    go_wp2_with fail
                    refine (within_is (a := outF) (b := outG) true (HQ.out.2.2.1) FF.out.2.2 FG.out.2.2 (by omega) (by omega) HGF.out.2.2 HGG.out.2.2).mono ?_
                    rintro e w11 ⟨rfl, hb11⟩
                    have HX11 := Lib.hid (HX10.out.trans (hb11.mono HX10.out.size))
                    clear HX10
                    have hbb11 := hb11
                    have GF := Lib.hid (FF.out.below hbb11)
                    have GG := Lib.hid (FG.out.below hbb11)
                    have GK := Lib.hid (FK.out.below hbb11)
                    have GJ := Lib.hid (FJ.out.below hbb11)
                    have GO := Lib.hid (FO.out.below hbb11)
                    have HB11 := Lib.hid (HB10.out.trans (hbb11.mono HB10.out.size))
                    clear FF FG FK FJ FO kF kG kK kJ kO lF lG lK lJ lO HB10 hbb11 hb11
                    have FF := GF
                    have kF := FF.out.1
                    have lF := FF.out.2.1
                    have FG := GG
                    have kG := FG.out.1
                    have lG := FG.out.2.1
                    have FK := GK
                    have kK := FK.out.1
                    have lK := FK.out.2.1
                    have FJ := GJ
                    have kJ := FJ.out.1
                    have lJ := FJ.out.2.1
                    have FO := GO
                    have kO := FO.out.1
                    have lO := FO.out.2.1
                    clear GF GG GK GJ GO
                    go_wp2_with fail
                    refine (conflict_is (a := outF) (b := outK) false (HQ.out.2.2.2.1) FF.out.2.2 FK.out.2.2 (by omega) (by omega)).mono ?_
                    rintro e w12 ⟨rfl, hb12⟩
                    have HX12 := Lib.hid (HX11.out.trans (hb12.mono HX11.out.size))
                    clear HX11
                    have hbb12 := hb12
                    have GF := Lib.hid (FF.out.below hbb12)
                    have GG := Lib.hid (FG.out.below hbb12)
                    have GK := Lib.hid (FK.out.below hbb12)
                    have GJ := Lib.hid (FJ.out.below hbb12)
                    have GO := Lib.hid (FO.out.below hbb12)
                    have HB12 := Lib.hid (HB11.out.trans (hbb12.mono HB11.out.size))
                    clear FF FG FK FJ FO kF kG kK kJ kO lF lG lK lJ lO HB11 hbb12 hb12
                    have FF := GF
                    have kF := FF.out.1
                    have lF := FF.out.2.1
                    have FG := GG
                    have kG := FG.out.1
                    have lG := FG.out.2.1
                    have FK := GK
                    have kK := FK.out.1
                    have lK := FK.out.2.1
                    have FJ := GJ
                    have kJ := FJ.out.1
                    have lJ := FJ.out.2.1
                    have FO := GO
                    have kO := FO.out.1
                    have lO := FO.out.2.1
                    clear GF GG GK GJ GO
                    go_wp2_with fail
                    refine (within_is (a := outF) (b := outG) true (HQ.out.2.2.1) FF.out.2.2 FG.out.2.2 (by omega) (by omega) HGF.out.2.2 HGG.out.2.2).mono ?_
                    rintro e w13 ⟨rfl, hb13⟩
                    have HX13 := Lib.hid (HX12.out.trans (hb13.mono HX12.out.size))
                    clear HX12
                    have hbb13 := hb13
                    have GF := Lib.hid (FF.out.below hbb13)
                    have GG := Lib.hid (FG.out.below hbb13)
                    have GK := Lib.hid (FK.out.below hbb13)
                    have GJ := Lib.hid (FJ.out.below hbb13)
                    have GO := Lib.hid (FO.out.below hbb13)
                    have HB13 := Lib.hid (HB12.out.trans (hbb13.mono HB12.out.size))
                    clear FF FG FK FJ FO kF kG kK kJ kO lF lG lK lJ lO HB12 hbb13 hb13
                    have FF := GF
                    have kF := FF.out.1
                    have lF := FF.out.2.1
                    have FG := GG
                    have kG := FG.out.1
                    have lG := FG.out.2.1
                    have FK := GK
                    have kK := FK.out.1
                    have lK := FK.out.2.1
                    have FJ := GJ
                    have kJ := FJ.out.1
                    have lJ := FJ.out.2.1
                    have FO := GO
                    have kO := FO.out.1
                    have lO := FO.out.2.1
                    clear GF GG GK GJ GO
                    go_wp2_with fail
                    refine (within_is (a := outG) (b := outK) false (HQ.out.2.1) FG.out.2.2 FK.out.2.2 (by omega) (by omega) HGG.out.2.2 HGK.out.2.2).mono ?_
                    rintro e w14 ⟨rfl, hb14⟩
                    have HX14 := Lib.hid (HX13.out.trans (hb14.mono HX13.out.size))
                    clear HX13
                    have hbb14 := hb14
                    have GF := Lib.hid (FF.out.below hbb14)
                    have GG := Lib.hid (FG.out.below hbb14)
                    have GK := Lib.hid (FK.out.below hbb14)
                    have GJ := Lib.hid (FJ.out.below hbb14)
                    have GO := Lib.hid (FO.out.below hbb14)
                    have HB14 := Lib.hid (HB13.out.trans (hbb14.mono HB13.out.size))
                    clear FF FG FK FJ FO kF kG kK kJ kO lF lG lK lJ lO HB13 hbb14 hb14
                    have FF := GF
                    have kF := FF.out.1
                    have lF := FF.out.2.1
                    have FG := GG
                    have kG := FG.out.1
                    have lG := FG.out.2.1
                    have FK := GK
                    have kK := FK.out.1
                    have lK := FK.out.2.1
                    have FJ := GJ
                    have kJ := FJ.out.1
                    have lJ := FJ.out.2.1
                    have FO := GO
                    have kO := FO.out.1
                    have lO := FO.out.2.1
                    clear GF GG GK GJ GO
                    go_wp2_with fail
                    go_meet
                    exact ⟨rfl, HX14.out⟩
            case rest =>
              obtain ⟨rfl, hcb⟩ := hcut
              obtain ⟨w11, rfl⟩ : ∃ w11 : World, w11 = wc := ⟨_, rfl⟩
              have hbb11 := hcb
              have GF := Lib.hid (FF.out.below hbb11)
              have GG := Lib.hid (FG.out.below hbb11)
              have GK := Lib.hid (FK.out.below hbb11)
              have GJ := Lib.hid (FJ.out.below hbb11)
              have GO := Lib.hid (FO.out.below hbb11)
              have HB11 := Lib.hid (HB10.out.trans (hbb11.mono HB10.out.size))
              clear FF FG FK FJ FO kF kG kK kJ kO lF lG lK lJ lO HB10 hbb11 hcb
              have FF := GF
              have kF := FF.out.1
              have lF := FF.out.2.1
              have FG := GG
              have kG := FG.out.1
              have lG := FG.out.2.1
              have FK := GK
              have kK := FK.out.1
              have lK := FK.out.2.1
              have FJ := GJ
              have kJ := FJ.out.1
              have lJ := FJ.out.2.1
              have FO := GO
              have kO := FO.out.1
              have lO := FO.out.2.1
              clear GF GG GK GJ GO
              go_upto_region 16 with fail
              cases cFK with
              | true =>
                have rrF := FF.out.2.2
                have rrG := FG.out.2.2
                have rrK := FK.out.2.2
                have rrJ := FJ.out.2.2
                refine wp_region_held_drew (S := (fun w' => Below w11.heap.size w11 w' ∧ w'.cell? ⟨w4.heap.size, 0, none⟩ = some (.slice AF (outF).length cF) ∧ w'.cell? ⟨w5.heap.size, 0, none⟩ = some (.slice AG (outG).length cG) ∧ w'.cell? ⟨w6.heap.size, 0, none⟩ = some (.slice AK (outK).length cK) ∧ w'.cell? ⟨w7.heap.size, 0, none⟩ = some (.slice AJ (outJ).length cJ))) (by kernel_rfl) ⟨(Below.refl _ _).drew, kF, kG, kK, kJ⟩ (fun hHeld => ?_)
                refine take_lit (i := 0) (v := ?_) rfl (by kernel_rfl) (by kernel_rfl) (by kernel_rfl) (fun _ _ _ h => h) (by rfl) (fun w hSw => ?_) hHeld ?_
                rotate_left
                · obtain ⟨s0, s1, s2, s3, s4⟩ := hSw; go_simp; try with_reducible rfl
                try simp only [Act.put, List.setIfInBounds_toArray, List.set_cons_zero, List.set_cons_succ]
                refine take_lit (i := 1) (v := ?_) rfl (by kernel_rfl) (by kernel_rfl) (by kernel_rfl) (fun _ _ _ h => h) (by rfl) (fun w hSw => ?_) hHeld ?_
                rotate_left
                · obtain ⟨s0, s1, s2, s3, s4⟩ := hSw; go_simp; try with_reducible rfl
                try simp only [Act.put, List.setIfInBounds_toArray, List.set_cons_zero, List.set_cons_succ]
                refine take_lit (i := 3) (v := ?_) rfl (by kernel_rfl) (by kernel_rfl) (by kernel_rfl) (fun _ _ _ h => h) (by rfl) (fun w hSw => ?_) hHeld ?_
                rotate_left
                · obtain ⟨s0, s1, s2, s3, s4⟩ := hSw; go_simp; try with_reducible rfl
                try simp only [Act.put, List.setIfInBounds_toArray, List.set_cons_zero, List.set_cons_succ]
                refine take_lit (i := 4) (v := ?_) rfl (by kernel_rfl) (by kernel_rfl) (by kernel_rfl) (fun _ _ _ h => h) (by rfl) (fun w hSw => ?_) hHeld ?_
                rotate_left
                · obtain ⟨s0, s1, s2, s3, s4⟩ := hSw; go_simp; try with_reducible rfl
                try simp only [Act.put, List.setIfInBounds_toArray, List.set_cons_zero, List.set_cons_succ]
                refine wpAnyH_ready (rs := [2]) (by kernel_rfl) (by simp) (cons_lit (i := 2) rfl (fun K hK => ?_) AllReadyH.nil)
                go_simp
                refine (conflict_is (a := outJ) (b := outK) true (.yes ((confl_join HGF.out.2.2 HGG.out.2.2 HFJ.out.2 HGK.out.2.2 HFJ.out.1).2 (.inl HQ.out.2.2.2.1.pos))) (ClRd.below rrJ hHeld.1) (ClRd.below rrK hHeld.1) (by omega) (by omega)).mono ?_
                rintro e wn ⟨rfl, hbn⟩
                try go_simp
                refine hK.out _ _ (held4 hHeld hbn) (fun hHeld2 => ?_)
                clear hK K hHeld hbn
                have hHeld := hHeld2
                clear hHeld2
                try simp only [Act.put, List.setIfInBounds_toArray, List.set_cons_zero, List.set_cons_succ]
                refine wpAnyH_ready (rs := [5]) (by kernel_rfl) (by simp) (cons_lit (i := 5) rfl (fun K hK => ?_) AllReadyH.nil)
                go_simp
                refine (conflict_is (a := outF) (b := outK) true (HQ.out.2.2.2.1) (ClRd.below rrF hHeld.1) (ClRd.below rrK hHeld.1) (by omega) (by omega)).mono ?_
                rintro e wn ⟨rfl, hbn⟩
                try go_simp
                refine hK.out _ _ (held4 hHeld hbn) (fun hHeld2 => ?_)
                clear hK K hHeld hbn
                have hHeld := hHeld2
                clear hHeld2
                try simp only [Act.put, List.setIfInBounds_toArray, List.set_cons_zero, List.set_cons_succ]
                refine take_lit (i := 6) (v := ?_) rfl (by kernel_rfl) (by kernel_rfl) (by kernel_rfl) (fun _ _ _ h => h) (by rfl) (fun w hSw => ?_) hHeld ?_
                rotate_left
                · obtain ⟨s0, s1, s2, s3, s4⟩ := hSw; go_simp; try with_reducible rfl
                try simp only [Act.put, List.setIfInBounds_toArray, List.set_cons_zero, List.set_cons_succ]
                refine take_no (i := 7) rfl (by kernel_rfl) (by kernel_rfl) (by kernel_rfl) (fun _ _ _ h => h) (by rfl) hHeld ?_
                try simp only [Act.put, List.setIfInBounds_toArray, List.set_cons_zero, List.set_cons_succ]
                refine take_no (i := 8) rfl (by kernel_rfl) (by kernel_rfl) (by kernel_rfl) (fun _ _ _ h => h) (by rfl) hHeld ?_
                try simp only [Act.put, List.setIfInBounds_toArray, List.set_cons_zero, List.set_cons_succ]
                refine take_no (i := 9) rfl (by kernel_rfl) (by kernel_rfl) (by kernel_rfl) (fun _ _ _ h => h) (by rfl) hHeld ?_
                try simp only [Act.put, List.setIfInBounds_toArray, List.set_cons_zero, List.set_cons_succ]
                refine take_lit (i := 10) (v := ?_) rfl (by kernel_rfl) (by kernel_rfl) (by kernel_rfl) (fun _ _ _ h => h) (by rfl) (fun w hSw => ?_) hHeld ?_
                rotate_left
                · obtain ⟨s0, s1, s2, s3, s4⟩ := hSw; go_simp; try with_reducible rfl
                try simp only [Act.put, List.setIfInBounds_toArray, List.set_cons_zero, List.set_cons_succ]
                refine take_lit (i := 11) (v := ?_) rfl (by kernel_rfl) (by kernel_rfl) (by kernel_rfl) (fun _ _ _ h => h) (by rfl) (fun w hSw => ?_) hHeld ?_
                rotate_left
                · obtain ⟨s0, s1, s2, s3, s4⟩ := hSw; go_simp; try with_reducible rfl
                try simp only [Act.put, List.setIfInBounds_toArray, List.set_cons_zero, List.set_cons_succ]
                refine take_lit (i := 12) (v := ?_) rfl (by kernel_rfl) (by kernel_rfl) (by kernel_rfl) (fun _ _ _ h => h) (by rfl) (fun w hSw => ?_) hHeld ?_
                rotate_left
                · obtain ⟨s0, s1, s2, s3, s4⟩ := hSw; go_simp; try with_reducible rfl
                try simp only [Act.put, List.setIfInBounds_toArray, List.set_cons_zero, List.set_cons_succ]
                refine take_lit (i := 13) (v := ?_) rfl (by kernel_rfl) (by kernel_rfl) (by kernel_rfl) (fun _ _ _ h => h) (by rfl) (fun w hSw => ?_) hHeld ?_
                rotate_left
                · obtain ⟨s0, s1, s2, s3, s4⟩ := hSw; go_simp; try with_reducible rfl
                try simp only [Act.put, List.setIfInBounds_toArray, List.set_cons_zero, List.set_cons_succ]
                refine take_lit (i := 14) (v := ?_) rfl (by kernel_rfl) (by kernel_rfl) (by kernel_rfl) (fun _ _ _ h => h) (by rfl) (fun w hSw => ?_) hHeld ?_
                rotate_left
                · obtain ⟨s0, s1, s2, s3, s4⟩ := hSw; go_simp; try with_reducible rfl
                try simp only [Act.put, List.setIfInBounds_toArray, List.set_cons_zero, List.set_cons_succ]
                refine take_lit (i := 16) (v := ?_) rfl (by kernel_rfl) (by kernel_rfl) (by kernel_rfl) (fun _ _ _ h => h) (by rfl) (fun w hSw => ?_) hHeld ?_
                rotate_left
                · obtain ⟨s0, s1, s2, s3, s4⟩ := hSw; go_simp; try with_reducible rfl
                try simp only [Act.put, List.setIfInBounds_toArray, List.set_cons_zero, List.set_cons_succ]
                refine take_lit (i := 17) (v := ?_) rfl (by kernel_rfl) (by kernel_rfl) (by kernel_rfl) (fun _ _ _ h => h) (by rfl) (fun w hSw => ?_) hHeld ?_
                rotate_left
                · obtain ⟨s0, s1, s2, s3, s4⟩ := hSw; go_simp; try with_reducible rfl
                try simp only [Act.put, List.setIfInBounds_toArray, List.set_cons_zero, List.set_cons_succ]
                refine wpAnyH_ready (rs := [15]) (by kernel_rfl) (by simp) (cons_lit (i := 15) rfl (fun K hK => ?_) AllReadyH.nil)
                go_simp
                refine (conflict_is (a := outF) (b := outG) cFG (HQ.out.2.2.2.2.2) (ClRd.below rrF hHeld.1) (ClRd.below rrG hHeld.1) (by omega) (by omega)).mono ?_
                rintro e wn ⟨rfl, hbn⟩
                try go_simp
                refine hK.out _ _ (held4 hHeld hbn) (fun hHeld2 => ?_)
                clear hK K hHeld hbn
                have hHeld := hHeld2
                clear hHeld2
                try simp only [Act.put, List.setIfInBounds_toArray, List.set_cons_zero, List.set_cons_succ]
                refine wpAnyH_ready (rs := [18]) (by kernel_rfl) (by simp) (cons_lit (i := 18) rfl (fun K hK => ?_) AllReadyH.nil)
                go_simp
                refine (conflict_is (a := outG) (b := outF) cFG (HQ.out.2.2.2.2.2.congr confl_symm) (ClRd.below rrG hHeld.1) (ClRd.below rrF hHeld.1) (by omega) (by omega)).mono ?_
                rintro e wn ⟨rfl, hbn⟩
                try go_simp
                refine hK.out _ _ (held4 hHeld hbn) (fun hHeld2 => ?_)
                clear hK K hHeld hbn
                have hHeld := hHeld2
                clear hHeld2
                try simp only [Act.put, List.setIfInBounds_toArray, List.set_cons_zero, List.set_cons_succ]
                refine take_lit (i := 19) (v := ?_) rfl (by kernel_rfl) (by kernel_rfl) (by kernel_rfl) (fun _ _ _ h => h) (by rfl) (fun w hSw => ?_) hHeld ?_
                rotate_left
                · obtain ⟨s0, s1, s2, s3, s4⟩ := hSw; go_simp; try with_reducible rfl
                try simp only [Act.put, List.setIfInBounds_toArray, List.set_cons_zero, List.set_cons_succ]
                refine take_lit (i := 20) (v := ?_) rfl (by kernel_rfl) (by kernel_rfl) (by kernel_rfl) (fun _ _ _ h => h) (by rfl) (fun w hSw => ?_) hHeld ?_
                rotate_left
                · obtain ⟨s0, s1, s2, s3, s4⟩ := hSw; go_simp; try with_reducible rfl
                try simp only [Act.put, List.setIfInBounds_toArray, List.set_cons_zero, List.set_cons_succ]
                refine take_lit (i := 21) (v := ?_) rfl (by kernel_rfl) (by kernel_rfl) (by kernel_rfl) (fun _ _ _ h => h) (by rfl) (fun w hSw => ?_) hHeld ?_
                rotate_left
                · obtain ⟨s0, s1, s2, s3, s4⟩ := hSw; go_simp; try with_reducible rfl
                try simp only [Act.put, List.setIfInBounds_toArray, List.set_cons_zero, List.set_cons_succ]
                refine wpAnyH_ready (rs := [22]) (by kernel_rfl) (by simp) (cons_lit (i := 22) rfl (fun K hK => ?_) AllReadyH.nil)
                go_simp
                refine (awake_ok _).mono ?_
                rintro e wn ⟨rfl, hbn⟩
                try go_simp
                refine hK.out _ _ (held4 hHeld hbn) (fun hHeld2 => ?_)
                clear hK K hHeld hbn
                have hHeld := hHeld2
                clear hHeld2
                try simp only [Act.put, List.setIfInBounds_toArray, List.set_cons_zero, List.set_cons_succ]
                refine take_lit (i := 23) (v := ?_) rfl (by kernel_rfl) (by kernel_rfl) (by kernel_rfl) (fun _ _ _ h => h) (by rfl) (fun w hSw => ?_) hHeld ?_
                rotate_left
                · obtain ⟨s0, s1, s2, s3, s4⟩ := hSw; go_simp; try with_reducible rfl
                try simp only [Act.put, List.setIfInBounds_toArray, List.set_cons_zero, List.set_cons_succ]
                refine take_lit (i := 24) (v := ?_) rfl (by kernel_rfl) (by kernel_rfl) (by kernel_rfl) (fun _ _ _ h => h) (by rfl) (fun w hSw => ?_) hHeld ?_
                rotate_left
                · obtain ⟨s0, s1, s2, s3, s4⟩ := hSw; go_simp; try with_reducible rfl
                try simp only [Act.put, List.setIfInBounds_toArray, List.set_cons_zero, List.set_cons_succ]
                refine wpAnyH_done (by kernel_rfl) ?_ _
                have hz := hHeld.1
                go_wp2_with fail
                go_ret
                exact ⟨rfl, HB11.out.trans (hz.mono HB11.out.size)⟩
              | false =>
                have rrF := FF.out.2.2
                have rrG := FG.out.2.2
                have rrK := FK.out.2.2
                have rrJ := FJ.out.2.2
                go_region_held3 (fun w' => Below w11.heap.size w11 w' ∧ w'.cell? ⟨w4.heap.size, 0, none⟩ = some (.slice AF (outF).length cF) ∧ w'.cell? ⟨w5.heap.size, 0, none⟩ = some (.slice AG (outG).length cG) ∧ w'.cell? ⟨w6.heap.size, 0, none⟩ = some (.slice AK (outK).length cK) ∧ w'.cell? ⟨w7.heap.size, 0, none⟩ = some (.slice AJ (outJ).length cJ)) (first | exact held4 (by assumption) (by assumption) | exact ⟨(Below.refl _ _).drew, kF, kG, kK, kJ⟩) (first | (go_at_call 30; (with_reducible refine (conflict_is (a := outJ) (b := outK) cGK (HQ.out.2.2.2.2.1.congr ⟨fun h => (confl_join HGF.out.2.2 HGG.out.2.2 HFJ.out.2 HGK.out.2.2 HFJ.out.1).2 (.inr h), fun h => ((confl_join HGF.out.2.2 HGG.out.2.2 HFJ.out.2 HGK.out.2.2 HFJ.out.1).1 h).resolve_left HQ.out.2.2.2.1.neg⟩) (ClRd.below rrJ (‹Below w11.heap.size w11 _ ∧ _›).1) (ClRd.below rrK (‹Below w11.heap.size w11 _ ∧ _›).1) (by omega) (by omega)).mono ?_); rintro e wn ⟨rfl, hbn⟩) | (go_at_call 30; (with_reducible refine (conflict_is (a := outF) (b := outK) false (HQ.out.2.2.2.1) (ClRd.below rrF (‹Below w11.heap.size w11 _ ∧ _›).1) (ClRd.below rrK (‹Below w11.heap.size w11 _ ∧ _›).1) (by omega) (by omega)).mono ?_); rintro e wn ⟨rfl, hbn⟩) | (go_at_call 30; (with_reducible refine (conflict_is (a := outG) (b := outK) cGK (HQ.out.2.2.2.2.1) (ClRd.below rrG (‹Below w11.heap.size w11 _ ∧ _›).1) (ClRd.below rrK (‹Below w11.heap.size w11 _ ∧ _›).1) (by omega) (by omega)).mono ?_); rintro e wn ⟨rfl, hbn⟩) | (go_at_call 30; (with_reducible refine (conflict_is (a := outF) (b := outG) cFG (HQ.out.2.2.2.2.2) (ClRd.below rrF (‹Below w11.heap.size w11 _ ∧ _›).1) (ClRd.below rrG (‹Below w11.heap.size w11 _ ∧ _›).1) (by omega) (by omega)).mono ?_); rintro e wn ⟨rfl, hbn⟩) | (go_at_call 30; (with_reducible refine (conflict_is (a := outG) (b := outF) cFG (HQ.out.2.2.2.2.2.congr confl_symm) (ClRd.below rrG (‹Below w11.heap.size w11 _ ∧ _›).1) (ClRd.below rrF (‹Below w11.heap.size w11 _ ∧ _›).1) (by omega) (by omega)).mono ?_); rintro e wn ⟨rfl, hbn⟩) | (go_at_call 18; refine (awake_ok _).mono ?_; rintro e wn ⟨rfl, hbn⟩))
                all_goals
                  have hz := (‹Below w11.heap.size w11 _ ∧ _›).1
                  go_wp2_with fail
                  go_ret
                  exact ⟨rfl, HB11.out.trans (hz.mono HB11.out.size)⟩

set_option maxRecDepth 100000 in
theorem footJoins_lifted (os : Os) (started : os.Started) (H : Type) (enc : TypeId × Value → H) :
    ReturnsInHanded {} Try.checked os 8 .any (Rows.footJoinsSpec.pre6 enc Try.prog Try.f8 Rows.footJoinsRow.domain false) (Rows.footJoinsSpec.post enc Try.prog Try.f8 false true false false) := by
  refine law_lifted os started H enc 8 Try.f8 Rows.footJoinsSpec (by kernel_rfl) Try.func8 rfl (by kernel_rfl) ?_ ?_
    (ChangeSpec.witness6 (enc := enc) (C := Try.checked) false ⟨#[], #[.slice none 0 0, .slice none 0 0, .slice none 0 0], []⟩ 8 (by kernel_rfl) (by kernel_rfl) (by kernel_rfl) (by kernel_rfl)) ?_
  · rw [Try.params8]
    intro t ht
    simp at ht
    subst ht
    exact ⟨by kernel_rfl, of_decide_eq_true (by kernel_rfl)⟩
  · intro ds hl
    rw [Try.params8] at hl
    match ds, hl with
    | [d1, d2, d3], _ => exact ⟨rfl, rfl, rfl⟩
  · intro W base args ds p hval hA
    rw [Try.params8] at hA hval
    obtain ⟨v0, v1, v2, d0, d1, d2, p0, p1, p2, hargs, rfl, rfl, h0, h1, h2⟩ := trodAll_three hA
    subst hargs
    obtain ⟨l0, r0, f0⟩ := claims_of_trod (hval 0 22 v0 rfl rfl) h0
    obtain ⟨l1, r1, f1⟩ := claims_of_trod (hval 1 22 v1 rfl rfl) h1
    obtain ⟨l2, r2, f2⟩ := claims_of_trod (hval 2 22 v2 rfl rfl) h2
    by_cases g0 : FewP l0
    · by_cases g1 : FewP l1
      · by_cases g2 : FewP l2
        · exact joins_near W _ _ _ v0 v1 v2 l0 l1 l2 r0 r1 r2 f0 f1 f2 g0 g1 g2
        · exact joins_far2 W _ _ _ v0 v1 v2 l0 l1 l2 r0 r1 r2 f0 f1 f2 g0 g1 g2
      · exact joins_far1 W _ _ _ v0 v1 v2 l0 l1 l2 r0 r1 r2 f0 f1 f2 g0 g1
    · exact joins_far0 W _ _ _ v0 v1 v2 l0 l1 l2 r0 r1 r2 f0 f1 f2 g0

theorem footJoins_holds : Rows.FootJoinsSaid :=
  OpenClaim.holds_of_wide 8 Try.f8 rfl rfl rfl rfl rfl rfl rfl ⟨rfl, rfl, rfl, rfl, rfl⟩ rfl rfl rfl rfl rfl (by kernel_rfl) Try.func8 (by kernel_rfl)
    (of_decide_eq_true (by kernel_rfl)) (by unfold Func.isWrapper; rw [if_neg (of_decide_eq_false (by kernel_rfl))]; exact ⟨rfl, rfl⟩)
    (fun os started H enc _ => footJoins_lifted os started H enc)

#print axioms footJoins_holds

end Go.Proofs.Ytdmpdlpfanfjoaa
