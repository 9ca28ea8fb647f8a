/- Proved: FootNone returns true for every input: a footprint without claims is within all, conflicts with none, and turns none by Join; no condition. -/
import Derived.Test.YtdmpdlpfanfjoaaFootY
namespace Go.Proofs.Ytdmpdlpfanfjoaa
open Go.ChangeShapes Go.WideShapes Go.ChangeAt Go.RowKit

set_option maxRecDepth 100000 in
set_option maxHeartbeats 1000000 in
theorem none_far (w0 : World) (F : Nat → Prop) (v : Value) (l : List Cl) (h : ClRd w0 F v l) (hfit : ∀ c ∈ l, c.fits) (hfew : ¬ FewP l) :
    Calls Try.prog 9 #[v] w0 fun e w' => e = .returned (.bool true) ∧ Below w0.heap.size w0 w' := by
  obtain ⟨A, c, rfl, hnc, hcm⟩ := h.slice
  have HL := Lib.hid h
  have HFW := Lib.hid hfew
  clear h hfew
  go_enter Try.func9, Try.ntmps9
  go_wp2_with fail
  refine (few_ok _ F _ l HL.out hfit).mono ?_
  rintro e w1 ⟨r1, hr1, rfl, hb1⟩
  obtain rfl : r1 = false := Bool.eq_false_iff.2 (fun hh => (HFW.out) (hr1.1 hh))
  clear hr1
  have hbb1 := hb1
  have HB1 := Lib.hid hbb1
  clear hbb1 hb1
  go_wp2_with fail
  refine (awake_ok _).mono ?_
  rintro e w2 ⟨rfl, hb2⟩
  have hbb2 := hb2
  have HB2 := Lib.hid (HB1.out.trans (hbb2.mono HB1.out.size))
  clear HB1 hbb2 hb2
  go_wp2_with fail
  go_ret
  exact ⟨rfl, HB2.out⟩

theorem form_nil_iff {l out : List Cl} (h : IsForm l out) (hl : Good l) (ho : Good out) : out = [] ↔ l = [] := by
  rw [← lev_nil_iff ho, ← lev_nil_iff hl]
  exact ⟨fun h' t => by rw [← h.2]; exact h' t, fun h' t => by rw [h.2]; exact h' t⟩

set_option maxRecDepth 100000 in
set_option maxHeartbeats 1000000 in
theorem none_near (w0 : World) (F : Nat → Prop) (v : Value) (l : List Cl) (h : ClRd w0 F v l) (hfit : ∀ c ∈ l, c.fits) (hfew : FewP l) :
    Calls Try.prog 9 #[v] w0 fun e w' => e = .returned (.bool true) ∧ Below w0.heap.size w0 w' := by
  obtain ⟨A, c, rfl, hnc, hcm⟩ := h.slice
  have HL := Lib.hid h
  have HFW := Lib.hid hfew
  clear h hfew
  go_enter Try.func9, Try.ntmps9
  go_wp2_with fail
  refine (few_ok _ F _ l HL.out hfit).mono ?_
  rintro e w1 ⟨r1, hr1, rfl, hb1⟩
  obtain rfl : r1 = true := hr1.2 (HFW.out)
  clear hr1
  have hbb1 := hb1
  have HB1 := Lib.hid hbb1
  clear hbb1 hb1
  have RDN : Hid (ClRd w1 (fun _ => True) (.slice none 0 0) []) := Lib.hid (RdK.nil _ _ _)
  go_wp2_with fail
  refine (new_ok _ (fun _ => True) _ [] (RdK.nil _ _ _) (by decide) (fun c hc => by simp at hc)).mono ?_
  intro e w2 hnp
  obtain ⟨v2, n2, rfl, hnv⟩ := hnp.named
  have hb2 := hnv.1
  obtain ⟨rfl, AE, cE, rfl, hO⟩ := hnv.known (Good.nil.ok) (isForm_nil) (by decide)
  have RDE := Lib.hid (fresh_rd hO)
  clear hO hnv hnp
  have hbb2 := unbox hb2
  have GN := Lib.hid (Ft.made (A := none) (l := ([] : List Cl)) (c := 0) hb2 RDN.out)
  have HB2 := Lib.hid (HB1.out.trans (hbb2.mono HB1.out.size))
  clear RDN HB1 hbb2 hb2
  have FN := GN
  have kN := FN.out.1
  have lN := FN.out.2.1
  clear GN
  go_wp2_with fail
  refine (new_ok _ F _ l (RdK.below (RdK.below HL.out HB2.out) (one_box _ _)) (by have := HFW.out.1; omega) hfit).mono ?_
  intro e w3 hnp
  obtain ⟨v3, n3, rfl, hnv⟩ := hnp.named
  have hb3 := hnv.1
  have HNV := Lib.hid hnv.2
  clear hnp hnv
  have hbb3 := unbox hb3
  have GN := Lib.hid (FN.out.below hbb3)
  have GE := Lib.hid (Ft.made (A := AE) (l := ([] : List Cl)) (c := cE) hb3 RDE.out)
  have HB3 := Lib.hid (HB2.out.trans (hbb3.mono HB2.out.size))
  clear FN kN lN RDE HB2 hbb3 hb3
  have FN := GN
  have kN := FN.out.1
  have lN := FN.out.2.1
  have FE := GE
  have kE := FE.out.1
  have lE := FE.out.2.1
  clear GN GE
  rcases HNV.out with ⟨h1, rfl, rfl⟩ | ⟨h1, out, hf, ⟨h3, rfl, rfl⟩ | ⟨h3, rfl, AF, cF, rfl, hO⟩⟩
  · clear HNV
    have e1 : (errOf l == 0) = false := by simpa using h1
    have e2 : (errOf l != 0) = true := by simpa using h1
    clear h1
    have RDF : Hid (ClRd w3 (fun _ => True) (.slice none 0 0) []) := Lib.hid (RdK.nil _ _ _)
    go_wp2_with fail
    refine (same_ok _ (fun _ => True) (fun _ => True) _ _ [] [] (RdK.below FN.out.2.2 (one_box _ _)) (RdK.below FE.out.2.2 (one_box _ _)) (by decide)).mono ?_
    rintro e w4 ⟨r4, hr4, rfl, hb4⟩
    obtain rfl : r4 = true := hr4.2 (rfl)
    clear hr4
    have hbb4 := unbox hb4
    have GN := Lib.hid (FN.out.below hbb4)
    have GE := Lib.hid (FE.out.below hbb4)
    have GF := Lib.hid (Ft.made (A := none) (l := ([] : List Cl)) (c := 0) hb4 RDF.out)
    have HB4 := Lib.hid (HB3.out.trans (hbb4.mono HB3.out.size))
    clear FN FE kN kE lN lE RDF HB3 hbb4 hb4
    have FN := GN
    have kN := FN.out.1
    have lN := FN.out.2.1
    have FE := GE
    have kE := FE.out.1
    have lE := FE.out.2.1
    have FF := GF
    have kF := FF.out.1
    have lF := FF.out.2.1
    clear GN GE GF
    go_wp2_with fail
    refine (len_ok _ (fun _ => True) _ _ FN.out.2.2).mono ?_
    rintro e w5 ⟨rfl, hb5⟩
    have hbb5 := hb5
    have GN := Lib.hid (FN.out.below hbb5)
    have GE := Lib.hid (FE.out.below hbb5)
    have GF := Lib.hid (FF.out.below hbb5)
    have HB5 := Lib.hid (HB4.out.trans (hbb5.mono HB4.out.size))
    clear FN FE FF kN kE kF lN lE lF HB4 hbb5 hb5
    have FN := GN
    have kN := FN.out.1
    have lN := FN.out.2.1
    have FE := GE
    have kE := FE.out.1
    have lE := FE.out.2.1
    have FF := GF
    have kF := FF.out.1
    have lF := FF.out.2.1
    clear GN GE GF
    go_wp2_with fail
    refine (claims_ok _ (fun _ => True) _ [] FN.out.2.2 (by decide)).mono ?_
    rintro e w6 ⟨A6, c6, rfl, _, hb6⟩
    have hbb6 := hb6
    have GN := Lib.hid (FN.out.below hbb6)
    have GE := Lib.hid (FE.out.below hbb6)
    have GF := Lib.hid (FF.out.below hbb6)
    have HB6 := Lib.hid (HB5.out.trans (hbb6.mono HB5.out.size))
    clear FN FE FF kN kE kF lN lE lF HB5 hbb6 hb6
    have FN := GN
    have kN := FN.out.1
    have lN := FN.out.2.1
    have FE := GE
    have kE := FE.out.1
    have lE := FE.out.2.1
    have FF := GF
    have kF := FF.out.1
    have lF := FF.out.2.1
    clear GN GE GF
    go_wp2_with fail
    refine (same_ok _ (fun _ => True) (fun _ => True) _ _ [] [] FF.out.2.2 FN.out.2.2 (by decide)).mono ?_
    rintro e w7 ⟨r7, hr7, rfl, hb7⟩
    obtain rfl : r7 = true := hr7.2 (rfl)
    clear hr7
    have hbb7 := hb7
    have GN := Lib.hid (FN.out.below hbb7)
    have GE := Lib.hid (FE.out.below hbb7)
    have GF := Lib.hid (FF.out.below hbb7)
    have HB7 := Lib.hid (HB6.out.trans (hbb7.mono HB6.out.size))
    clear FN FE FF kN kE kF lN lE lF HB6 hbb7 hb7
    have FN := GN
    have kN := FN.out.1
    have lN := FN.out.2.1
    have FE := GE
    have kE := FE.out.1
    have lE := FE.out.2.1
    have FF := GF
    have kF := FF.out.1
    have lF := FF.out.2.1
    clear GN GE GF
    go_wp2_with fail
    refine (awake_ok _).mono ?_
    rintro e w8 ⟨rfl, hb8⟩
    have hbb8 := hb8
    have GN := Lib.hid (FN.out.below hbb8)
    have GE := Lib.hid (FE.out.below hbb8)
    have GF := Lib.hid (FF.out.below hbb8)
    have HB8 := Lib.hid (HB7.out.trans (hbb8.mono HB7.out.size))
    clear FN FE FF kN kE kF lN lE lF HB7 hbb8 hb8
    have FN := GN
    have kN := FN.out.1
    have lN := FN.out.2.1
    have FE := GE
    have kE := FE.out.1
    have lE := FE.out.2.1
    have FF := GF
    have kF := FF.out.1
    have lF := FF.out.2.1
    clear GN GE GF
    go_wp2_with fail
    go_ret
    exact ⟨rfl, HB8.out⟩
  · clear HNV
    clear h1 hf
    have RDF : Hid (ClRd w3 (fun _ => True) (.slice none 0 0) []) := Lib.hid (RdK.nil _ _ _)
    go_wp2_with fail
    refine (same_ok _ (fun _ => True) (fun _ => True) _ _ [] [] (RdK.below FN.out.2.2 (one_box _ _)) (RdK.below FE.out.2.2 (one_box _ _)) (by decide)).mono ?_
    rintro e w4 ⟨r4, hr4, rfl, hb4⟩
    obtain rfl : r4 = true := hr4.2 (rfl)
    clear hr4
    have hbb4 := unbox hb4
    have GN := Lib.hid (FN.out.below hbb4)
    have GE := Lib.hid (FE.out.below hbb4)
    have GF := Lib.hid (Ft.made (A := none) (l := ([] : List Cl)) (c := 0) hb4 RDF.out)
    have HB4 := Lib.hid (HB3.out.trans (hbb4.mono HB3.out.size))
    clear FN FE kN kE lN lE RDF HB3 hbb4 hb4
    have FN := GN
    have kN := FN.out.1
    have lN := FN.out.2.1
    have FE := GE
    have kE := FE.out.1
    have lE := FE.out.2.1
    have FF := GF
    have kF := FF.out.1
    have lF := FF.out.2.1
    clear GN GE GF
    go_wp2_with fail
    refine (len_ok _ (fun _ => True) _ _ FN.out.2.2).mono ?_
    rintro e w5 ⟨rfl, hb5⟩
    have hbb5 := hb5
    have GN := Lib.hid (FN.out.below hbb5)
    have GE := Lib.hid (FE.out.below hbb5)
    have GF := Lib.hid (FF.out.below hbb5)
    have HB5 := Lib.hid (HB4.out.trans (hbb5.mono HB4.out.size))
    clear FN FE FF kN kE kF lN lE lF HB4 hbb5 hb5
    have FN := GN
    have kN := FN.out.1
    have lN := FN.out.2.1
    have FE := GE
    have kE := FE.out.1
    have lE := FE.out.2.1
    have FF := GF
    have kF := FF.out.1
    have lF := FF.out.2.1
    clear GN GE GF
    go_wp2_with fail
    refine (claims_ok _ (fun _ => True) _ [] FN.out.2.2 (by decide)).mono ?_
    rintro e w6 ⟨A6, c6, rfl, _, hb6⟩
    have hbb6 := hb6
    have GN := Lib.hid (FN.out.below hbb6)
    have GE := Lib.hid (FE.out.below hbb6)
    have GF := Lib.hid (FF.out.below hbb6)
    have HB6 := Lib.hid (HB5.out.trans (hbb6.mono HB5.out.size))
    clear FN FE FF kN kE kF lN lE lF HB5 hbb6 hb6
    have FN := GN
    have kN := FN.out.1
    have lN := FN.out.2.1
    have FE := GE
    have kE := FE.out.1
    have lE := FE.out.2.1
    have FF := GF
    have kF := FF.out.1
    have lF := FF.out.2.1
    clear GN GE GF
    go_wp2_with fail
    refine (same_ok _ (fun _ => True) (fun _ => True) _ _ [] [] FF.out.2.2 FN.out.2.2 (by decide)).mono ?_
    rintro e w7 ⟨r7, hr7, rfl, hb7⟩
    obtain rfl : r7 = true := hr7.2 (rfl)
    clear hr7
    have hbb7 := hb7
    have GN := Lib.hid (FN.out.below hbb7)
    have GE := Lib.hid (FE.out.below hbb7)
    have GF := Lib.hid (FF.out.below hbb7)
    have HB7 := Lib.hid (HB6.out.trans (hbb7.mono HB6.out.size))
    clear FN FE FF kN kE kF lN lE lF HB6 hbb7 hb7
    have FN := GN
    have kN := FN.out.1
    have lN := FN.out.2.1
    have FE := GE
    have kE := FE.out.1
    have lE := FE.out.2.1
    have FF := GF
    have kF := FF.out.1
    have lF := FF.out.2.1
    clear GN GE GF
    go_wp2_with fail
    refine (awake_ok _).mono ?_
    rintro e w8 ⟨rfl, hb8⟩
    have hbb8 := hb8
    have GN := Lib.hid (FN.out.below hbb8)
    have GE := Lib.hid (FE.out.below hbb8)
    have GF := Lib.hid (FF.out.below hbb8)
    have HB8 := Lib.hid (HB7.out.trans (hbb8.mono HB7.out.size))
    clear FN FE FF kN kE kF lN lE lF HB7 hbb8 hb8
    have FN := GN
    have kN := FN.out.1
    have lN := FN.out.2.1
    have FE := GE
    have kE := FE.out.1
    have lE := FE.out.2.1
    have FF := GF
    have kF := FF.out.1
    have lF := FF.out.2.1
    clear GN GE GF
    go_wp2_with fail
    go_ret
    exact ⟨rfl, HB8.out⟩
  · clear HNV
    have hgl : Good l := fun c hc => ⟨ok_of_errOf h1 c hc, hfit c hc⟩
    have HG := Lib.hid (And.intro hf (And.intro hgl (And.intro (form_good hf hgl) h3)))
    have RDF := Lib.hid (fresh_rd hO)
    have hol : out.length ≤ 64 := h3
    clear h1 hf hgl h3 hO
    go_wp2_with fail
    refine (same_ok _ (fun _ => True) (fun _ => True) _ _ [] [] (RdK.below FN.out.2.2 (one_box _ _)) (RdK.below FE.out.2.2 (one_box _ _)) (by decide)).mono ?_
    rintro e w4 ⟨r4, hr4, rfl, hb4⟩
    obtain rfl : r4 = true := hr4.2 (rfl)
    clear hr4
    have hbb4 := unbox hb4
    have GN := Lib.hid (FN.out.below hbb4)
    have GE := Lib.hid (FE.out.below hbb4)
    have GF := Lib.hid (Ft.made (A := AF) (l := out) (c := cF) hb4 RDF.out)
    have HB4 := Lib.hid (HB3.out.trans (hbb4.mono HB3.out.size))
    clear FN FE kN kE lN lE RDF HB3 hbb4 hb4
    have FN := GN
    have kN := FN.out.1
    have lN := FN.out.2.1
    have FE := GE
    have kE := FE.out.1
    have lE := FE.out.2.1
    have FF := GF
    have kF := FF.out.1
    have lF := FF.out.2.1
    clear GN GE GF
    go_wp2_with fail
    refine (len_ok _ (fun _ => True) _ _ FN.out.2.2).mono ?_
    rintro e w5 ⟨rfl, hb5⟩
    have hbb5 := hb5
    have GN := Lib.hid (FN.out.below hbb5)
    have GE := Lib.hid (FE.out.below hbb5)
    have GF := Lib.hid (FF.out.below hbb5)
    have HB5 := Lib.hid (HB4.out.trans (hbb5.mono HB4.out.size))
    clear FN FE FF kN kE kF lN lE lF HB4 hbb5 hb5
    have FN := GN
    have kN := FN.out.1
    have lN := FN.out.2.1
    have FE := GE
    have kE := FE.out.1
    have lE := FE.out.2.1
    have FF := GF
    have kF := FF.out.1
    have lF := FF.out.2.1
    clear GN GE GF
    go_wp2_with fail
    refine (claims_ok _ (fun _ => True) _ [] FN.out.2.2 (by decide)).mono ?_
    rintro e w6 ⟨A6, c6, rfl, _, hb6⟩
    have hbb6 := hb6
    have GN := Lib.hid (FN.out.below hbb6)
    have GE := Lib.hid (FE.out.below hbb6)
    have GF := Lib.hid (FF.out.below hbb6)
    have HB6 := Lib.hid (HB5.out.trans (hbb6.mono HB5.out.size))
    clear FN FE FF kN kE kF lN lE lF HB5 hbb6 hb6
    have FN := GN
    have kN := FN.out.1
    have lN := FN.out.2.1
    have FE := GE
    have kE := FE.out.1
    have lE := FE.out.2.1
    have FF := GF
    have kF := FF.out.1
    have lF := FF.out.2.1
    clear GN GE GF
    go_wp2_with fail
    refine (join_ok _ (fun _ => True) (fun _ => True) _ _ out [] FF.out.2.2 FN.out.2.2 (by omega) (by decide) HG.out.2.2.1.fits Good.nil.fits).mono ?_
    intro e w7 hnp
    obtain ⟨v7, n7, rfl, hnv⟩ := hnp.named
    have hb7 := hnv.1
    obtain ⟨rfl, AA, cA, rfl, hO⟩ := hnv.known ((HG.out.2.2.1.append Good.nil).ok) ((by rw [List.append_nil]; exact HG.out.1.self : IsForm (out ++ []) out)) (hol)
    have RDA := Lib.hid (fresh_rd hO)
    clear hO hnv hnp
    have hbb7 := hb7
    have GN := Lib.hid (FN.out.below hbb7)
    have GE := Lib.hid (FE.out.below hbb7)
    have GF := Lib.hid (FF.out.below hbb7)
    have HB7 := Lib.hid (HB6.out.trans (hbb7.mono HB6.out.size))
    clear FN FE FF kN kE kF lN lE lF HB6 hbb7 hb7
    have FN := GN
    have kN := FN.out.1
    have lN := FN.out.2.1
    have FE := GE
    have kE := FE.out.1
    have lE := FE.out.2.1
    have FF := GF
    have kF := FF.out.1
    have lF := FF.out.2.1
    clear GN GE GF
    go_wp2_with fail
    refine (join_ok _ (fun _ => True) (fun _ => True) _ _ [] out (RdK.below FE.out.2.2 (one_box _ _)) (RdK.below FF.out.2.2 (one_box _ _)) (by decide) (by omega) Good.nil.fits HG.out.2.2.1.fits).mono ?_
    intro e w8 hnp
    obtain ⟨v8, n8, rfl, hnv⟩ := hnp.named
    have hb8 := hnv.1
    obtain ⟨rfl, AB, cB, rfl, hO⟩ := hnv.known ((Good.nil.append HG.out.2.2.1).ok) ((HG.out.1.self : IsForm ([] ++ out) out)) (hol)
    have RDB := Lib.hid (fresh_rd hO)
    clear hO hnv hnp
    have hbb8 := unbox hb8
    have GN := Lib.hid (FN.out.below hbb8)
    have GE := Lib.hid (FE.out.below hbb8)
    have GF := Lib.hid (FF.out.below hbb8)
    have GA := Lib.hid (Ft.made (A := AA) (l := out) (c := cA) hb8 RDA.out)
    have HB8 := Lib.hid (HB7.out.trans (hbb8.mono HB7.out.size))
    clear FN FE FF kN kE kF lN lE lF RDA HB7 hbb8 hb8
    have FN := GN
    have kN := FN.out.1
    have lN := FN.out.2.1
    have FE := GE
    have kE := FE.out.1
    have lE := FE.out.2.1
    have FF := GF
    have kF := FF.out.1
    have lF := FF.out.2.1
    have FA := GA
    have kA := FA.out.1
    have lA := FA.out.2.1
    clear GN GE GF GA
    go_wp2_with fail
    refine (same_ok _ (fun _ => True) (fun _ => True) _ _ out out (RdK.below FA.out.2.2 (one_box _ _)) (RdK.below FF.out.2.2 (one_box _ _)) (by omega)).mono ?_
    rintro e w9 ⟨r9, hr9, rfl, hb9⟩
    obtain rfl : r9 = true := hr9.2 (rfl)
    clear hr9
    have hbb9 := unbox hb9
    have GN := Lib.hid (FN.out.below hbb9)
    have GE := Lib.hid (FE.out.below hbb9)
    have GF := Lib.hid (FF.out.below hbb9)
    have GA := Lib.hid (FA.out.below hbb9)
    have GB := Lib.hid (Ft.made (A := AB) (l := out) (c := cB) hb9 RDB.out)
    have HB9 := Lib.hid (HB8.out.trans (hbb9.mono HB8.out.size))
    clear FN FE FF FA kN kE kF kA lN lE lF lA RDB HB8 hbb9 hb9
    have FN := GN
    have kN := FN.out.1
    have lN := FN.out.2.1
    have FE := GE
    have kE := FE.out.1
    have lE := FE.out.2.1
    have FF := GF
    have kF := FF.out.1
    have lF := FF.out.2.1
    have FA := GA
    have kA := FA.out.1
    have lA := FA.out.2.1
    have FB := GB
    have kB := FB.out.1
    have lB := FB.out.2.1
    clear GN GE GF GA GB
    go_wp2_with fail
    refine (same_ok _ (fun _ => True) (fun _ => True) _ _ out out FB.out.2.2 FF.out.2.2 (by omega)).mono ?_
    rintro e w10 ⟨r10, hr10, rfl, hb10⟩
    obtain rfl : r10 = true := hr10.2 (rfl)
    clear hr10
    have hbb10 := hb10
    have GN := Lib.hid (FN.out.below hbb10)
    have GE := Lib.hid (FE.out.below hbb10)
    have GF := Lib.hid (FF.out.below hbb10)
    have GA := Lib.hid (FA.out.below hbb10)
    have GB := Lib.hid (FB.out.below hbb10)
    have HB10 := Lib.hid (HB9.out.trans (hbb10.mono HB9.out.size))
    clear FN FE FF FA FB kN kE kF kA kB lN lE lF lA lB HB9 hbb10 hb10
    have FN := GN
    have kN := FN.out.1
    have lN := FN.out.2.1
    have FE := GE
    have kE := FE.out.1
    have lE := FE.out.2.1
    have FF := GF
    have kF := FF.out.1
    have lF := FF.out.2.1
    have FA := GA
    have kA := FA.out.1
    have lA := FA.out.2.1
    have FB := GB
    have kB := FB.out.1
    have lB := FB.out.2.1
    clear GN GE GF GA GB
    go_wp2_with fail
    refine (within_ok _ (fun _ => True) (fun _ => True) _ _ [] out FN.out.2.2 FF.out.2.2 (by decide) (by omega) Good.nil.proper Good.nil.fits HG.out.2.2.1.fits).mono ?_
    rintro e w11 ⟨r11, hr11, rfl, hb11⟩
    obtain rfl : r11 = true := hr11.2 (fun c hc => by simp at hc)
    clear hr11
    have hbb11 := hb11
    have GN := Lib.hid (FN.out.below hbb11)
    have GE := Lib.hid (FE.out.below hbb11)
    have GF := Lib.hid (FF.out.below hbb11)
    have GA := Lib.hid (FA.out.below hbb11)
    have GB := Lib.hid (FB.out.below hbb11)
    have HB11 := Lib.hid (HB10.out.trans (hbb11.mono HB10.out.size))
    clear FN FE FF FA FB kN kE kF kA kB lN lE lF lA lB HB10 hbb11 hb11
    have FN := GN
    have kN := FN.out.1
    have lN := FN.out.2.1
    have FE := GE
    have kE := FE.out.1
    have lE := FE.out.2.1
    have FF := GF
    have kF := FF.out.1
    have lF := FF.out.2.1
    have FA := GA
    have kA := FA.out.1
    have lA := FA.out.2.1
    have FB := GB
    have kB := FB.out.1
    have lB := FB.out.2.1
    clear GN GE GF GA GB
    by_cases hln : l = []
    · have hlz : (l.length == 0) = true := by simp [hln]
      have hlz2 : ((l.length : Int) == 0) = true := by simp [hln]
      have HZ := Lib.hid (form_nil_iff HG.out.1 HG.out.2.1 HG.out.2.2.1 |>.2 hln)
      clear hln
      go_wp2_with fail
      refine (within_ok _ (fun _ => True) (fun _ => True) _ _ out [] FF.out.2.2 FN.out.2.2 (by omega) (by decide) HG.out.2.2.1.proper HG.out.2.2.1.fits Good.nil.fits).mono ?_
      rintro e w12 ⟨r12, hr12, rfl, hb12⟩
      obtain rfl : r12 = true := hr12.2 (by rw [HZ.out]; exact fun c hc => by simp at hc)
      clear hr12
      have hbb12 := hb12
      have GN := Lib.hid (FN.out.below hbb12)
      have GE := Lib.hid (FE.out.below hbb12)
      have GF := Lib.hid (FF.out.below hbb12)
      have GA := Lib.hid (FA.out.below hbb12)
      have GB := Lib.hid (FB.out.below hbb12)
      have HB12 := Lib.hid (HB11.out.trans (hbb12.mono HB11.out.size))
      clear FN FE FF FA FB kN kE kF kA kB lN lE lF lA lB HB11 hbb12 hb12
      have FN := GN
      have kN := FN.out.1
      have lN := FN.out.2.1
      have FE := GE
      have kE := FE.out.1
      have lE := FE.out.2.1
      have FF := GF
      have kF := FF.out.1
      have lF := FF.out.2.1
      have FA := GA
      have kA := FA.out.1
      have lA := FA.out.2.1
      have FB := GB
      have kB := FB.out.1
      have lB := FB.out.2.1
      clear GN GE GF GA GB
      go_wp2_with fail
      refine (conflict_ok _ (fun _ => True) (fun _ => True) _ _ out [] FF.out.2.2 FN.out.2.2 (by omega) (by decide)).mono ?_
      rintro e w13 ⟨r13, hr13, rfl, hb13⟩
      obtain rfl : r13 = false := Bool.eq_false_iff.2 (fun hh => (fun ⟨_, _, d, hd, _⟩ => by simp at hd) (hr13.1 hh))
      clear hr13
      have hbb13 := hb13
      have GN := Lib.hid (FN.out.below hbb13)
      have GE := Lib.hid (FE.out.below hbb13)
      have GF := Lib.hid (FF.out.below hbb13)
      have GA := Lib.hid (FA.out.below hbb13)
      have GB := Lib.hid (FB.out.below hbb13)
      have HB13 := Lib.hid (HB12.out.trans (hbb13.mono HB12.out.size))
      clear FN FE FF FA FB kN kE kF kA kB lN lE lF lA lB HB12 hbb13 hb13
      have FN := GN
      have kN := FN.out.1
      have lN := FN.out.2.1
      have FE := GE
      have kE := FE.out.1
      have lE := FE.out.2.1
      have FF := GF
      have kF := FF.out.1
      have lF := FF.out.2.1
      have FA := GA
      have kA := FA.out.1
      have lA := FA.out.2.1
      have FB := GB
      have kB := FB.out.1
      have lB := FB.out.2.1
      clear GN GE GF GA GB
      go_wp2_with fail
      refine (conflict_ok _ (fun _ => True) (fun _ => True) _ _ [] out FN.out.2.2 FF.out.2.2 (by decide) (by omega)).mono ?_
      rintro e w14 ⟨r14, hr14, rfl, hb14⟩
      obtain rfl : r14 = false := Bool.eq_false_iff.2 (fun hh => (fun ⟨_, hd, _⟩ => by simp at hd) (hr14.1 hh))
      clear hr14
      have hbb14 := hb14
      have GN := Lib.hid (FN.out.below hbb14)
      have GE := Lib.hid (FE.out.below hbb14)
      have GF := Lib.hid (FF.out.below hbb14)
      have GA := Lib.hid (FA.out.below hbb14)
      have GB := Lib.hid (FB.out.below hbb14)
      have HB14 := Lib.hid (HB13.out.trans (hbb14.mono HB13.out.size))
      clear FN FE FF FA FB kN kE kF kA kB lN lE lF lA lB HB13 hbb14 hb14
      have FN := GN
      have kN := FN.out.1
      have lN := FN.out.2.1
      have FE := GE
      have kE := FE.out.1
      have lE := FE.out.2.1
      have FF := GF
      have kF := FF.out.1
      have lF := FF.out.2.1
      have FA := GA
      have kA := FA.out.1
      have lA := FA.out.2.1
      have FB := GB
      have kB := FB.out.1
      have lB := FB.out.2.1
      clear GN GE GF GA GB
      go_wp2_with fail
      refine (awake_ok _).mono ?_
      rintro e w15 ⟨rfl, hb15⟩
      have hbb15 := hb15
      have GN := Lib.hid (FN.out.below hbb15)
      have GE := Lib.hid (FE.out.below hbb15)
      have GF := Lib.hid (FF.out.below hbb15)
      have GA := Lib.hid (FA.out.below hbb15)
      have GB := Lib.hid (FB.out.below hbb15)
      have HB15 := Lib.hid (HB14.out.trans (hbb15.mono HB14.out.size))
      clear FN FE FF FA FB kN kE kF kA kB lN lE lF lA lB HB14 hbb15 hb15
      have FN := GN
      have kN := FN.out.1
      have lN := FN.out.2.1
      have FE := GE
      have kE := FE.out.1
      have lE := FE.out.2.1
      have FF := GF
      have kF := FF.out.1
      have lF := FF.out.2.1
      have FA := GA
      have kA := FA.out.1
      have lA := FA.out.2.1
      have FB := GB
      have kB := FB.out.1
      have lB := FB.out.2.1
      clear GN GE GF GA GB
      go_wp2_with fail
      go_ret
      exact ⟨rfl, HB15.out⟩
    · have hlz : (l.length == 0) = false := by simpa using hln
      have hlz2 : ((l.length : Int) == 0) = false := by simp; exact hln
      have HZ := Lib.hid (fun hh => hln (form_nil_iff HG.out.1 HG.out.2.1 HG.out.2.2.1 |>.1 hh))
      clear hln
      go_wp2_with fail
      refine (within_ok _ (fun _ => True) (fun _ => True) _ _ out [] FF.out.2.2 FN.out.2.2 (by omega) (by decide) HG.out.2.2.1.proper HG.out.2.2.1.fits Good.nil.fits).mono ?_
      rintro e w12 ⟨r12, hr12, rfl, hb12⟩
      obtain rfl : r12 = false := Bool.eq_false_iff.2 (fun hh => (fun hh => HZ.out ((lev_nil_iff HG.out.2.2.1).1 (fun t => by have := within_lev.1 hh t; rwa [lev_nil] at this))) (hr12.1 hh))
      clear hr12
      have hbb12 := hb12
      have GN := Lib.hid (FN.out.below hbb12)
      have GE := Lib.hid (FE.out.below hbb12)
      have GF := Lib.hid (FF.out.below hbb12)
      have GA := Lib.hid (FA.out.below hbb12)
      have GB := Lib.hid (FB.out.below hbb12)
      have HB12 := Lib.hid (HB11.out.trans (hbb12.mono HB11.out.size))
      clear FN FE FF FA FB kN kE kF kA kB lN lE lF lA lB HB11 hbb12 hb12
      have FN := GN
      have kN := FN.out.1
      have lN := FN.out.2.1
      have FE := GE
      have kE := FE.out.1
      have lE := FE.out.2.1
      have FF := GF
      have kF := FF.out.1
      have lF := FF.out.2.1
      have FA := GA
      have kA := FA.out.1
      have lA := FA.out.2.1
      have FB := GB
      have kB := FB.out.1
      have lB := FB.out.2.1
      clear GN GE GF GA GB
      go_wp2_with fail
      refine (conflict_ok _ (fun _ => True) (fun _ => True) _ _ out [] FF.out.2.2 FN.out.2.2 (by omega) (by decide)).mono ?_
      rintro e w13 ⟨r13, hr13, rfl, hb13⟩
      obtain rfl : r13 = false := Bool.eq_false_iff.2 (fun hh => (fun ⟨_, _, d, hd, _⟩ => by simp at hd) (hr13.1 hh))
      clear hr13
      have hbb13 := hb13
      have GN := Lib.hid (FN.out.below hbb13)
      have GE := Lib.hid (FE.out.below hbb13)
      have GF := Lib.hid (FF.out.below hbb13)
      have GA := Lib.hid (FA.out.below hbb13)
      have GB := Lib.hid (FB.out.below hbb13)
      have HB13 := Lib.hid (HB12.out.trans (hbb13.mono HB12.out.size))
      clear FN FE FF FA FB kN kE kF kA kB lN lE lF lA lB HB12 hbb13 hb13
      have FN := GN
      have kN := FN.out.1
      have lN := FN.out.2.1
      have FE := GE
      have kE := FE.out.1
      have lE := FE.out.2.1
      have FF := GF
      have kF := FF.out.1
      have lF := FF.out.2.1
      have FA := GA
      have kA := FA.out.1
      have lA := FA.out.2.1
      have FB := GB
      have kB := FB.out.1
      have lB := FB.out.2.1
      clear GN GE GF GA GB
      go_wp2_with fail
      refine (conflict_ok _ (fun _ => True) (fun _ => True) _ _ [] out FN.out.2.2 FF.out.2.2 (by decide) (by omega)).mono ?_
      rintro e w14 ⟨r14, hr14, rfl, hb14⟩
      obtain rfl : r14 = false := Bool.eq_false_iff.2 (fun hh => (fun ⟨_, hd, _⟩ => by simp at hd) (hr14.1 hh))
      clear hr14
      have hbb14 := hb14
      have GN := Lib.hid (FN.out.below hbb14)
      have GE := Lib.hid (FE.out.below hbb14)
      have GF := Lib.hid (FF.out.below hbb14)
      have GA := Lib.hid (FA.out.below hbb14)
      have GB := Lib.hid (FB.out.below hbb14)
      have HB14 := Lib.hid (HB13.out.trans (hbb14.mono HB13.out.size))
      clear FN FE FF FA FB kN kE kF kA kB lN lE lF lA lB HB13 hbb14 hb14
      have FN := GN
      have kN := FN.out.1
      have lN := FN.out.2.1
      have FE := GE
      have kE := FE.out.1
      have lE := FE.out.2.1
      have FF := GF
      have kF := FF.out.1
      have lF := FF.out.2.1
      have FA := GA
      have kA := FA.out.1
      have lA := FA.out.2.1
      have FB := GB
      have kB := FB.out.1
      have lB := FB.out.2.1
      clear GN GE GF GA GB
      go_wp2_with fail
      refine (awake_ok _).mono ?_
      rintro e w15 ⟨rfl, hb15⟩
      have hbb15 := hb15
      have GN := Lib.hid (FN.out.below hbb15)
      have GE := Lib.hid (FE.out.below hbb15)
      have GF := Lib.hid (FF.out.below hbb15)
      have GA := Lib.hid (FA.out.below hbb15)
      have GB := Lib.hid (FB.out.below hbb15)
      have HB15 := Lib.hid (HB14.out.trans (hbb15.mono HB14.out.size))
      clear FN FE FF FA FB kN kE kF kA kB lN lE lF lA lB HB14 hbb15 hb15
      have FN := GN
      have kN := FN.out.1
      have lN := FN.out.2.1
      have FE := GE
      have kE := FE.out.1
      have lE := FE.out.2.1
      have FF := GF
      have kF := FF.out.1
      have lF := FF.out.2.1
      have FA := GA
      have kA := FA.out.1
      have lA := FA.out.2.1
      have FB := GB
      have kB := FB.out.1
      have lB := FB.out.2.1
      clear GN GE GF GA GB
      go_wp2_with fail
      go_ret
      exact ⟨rfl, HB15.out⟩

set_option maxRecDepth 100000 in
theorem footNone_lifted (os : Os) (started : os.Started) (H : Type) (enc : TypeId × Value → H) :
    ReturnsInHanded {} Try.checked os 9 .any (Rows.footNoneSpec.pre6 enc Try.prog Try.f9 Rows.footNoneRow.domain false) (Rows.footNoneSpec.post enc Try.prog Try.f9 false true false false) := by
  refine law_lifted os started H enc 9 Try.f9 Rows.footNoneSpec (by kernel_rfl) Try.func9 rfl (by kernel_rfl) ?_ ?_
    (ChangeSpec.witness6 (enc := enc) (C := Try.checked) false ⟨#[], #[.slice none 0 0], []⟩ 8 (by kernel_rfl) (by kernel_rfl) (by kernel_rfl) (by kernel_rfl)) ?_
  · rw [Try.params9]
    intro t ht
    simp at ht
    subst ht
    exact ⟨by kernel_rfl, of_decide_eq_true (by kernel_rfl)⟩
  · intro ds hl
    rw [Try.params9] at hl
    match ds, hl with
    | [d1], _ => exact ⟨rfl, rfl, rfl⟩
  · intro W base args ds p hval hA
    rw [Try.params9] at hA hval
    obtain ⟨v0, d0, hargs, rfl, h0⟩ := trodAll_one hA
    subst hargs
    obtain ⟨l0, r0, f0⟩ := claims_of_trod (hval 0 22 v0 rfl rfl) h0
    by_cases hf : FewP l0
    · exact none_near W _ v0 l0 r0 f0 hf
    · exact none_far W _ v0 l0 r0 f0 hf

theorem footNone_holds : Rows.FootNoneSaid :=
  OpenClaim.holds_of_wide 9 Try.f9 rfl rfl rfl rfl rfl rfl rfl ⟨rfl, rfl, rfl, rfl, rfl⟩ rfl rfl rfl rfl rfl (by kernel_rfl) Try.func9 (by kernel_rfl)
    (of_decide_eq_true (by kernel_rfl)) (by unfold Func.isWrapper; rw [if_neg (of_decide_eq_false (by kernel_rfl))]; exact ⟨rfl, rfl⟩)
    (fun os started H enc _ => footNone_lifted os started H enc)

#print axioms footNone_holds

end Go.Proofs.Ytdmpdlpfanfjoaa
