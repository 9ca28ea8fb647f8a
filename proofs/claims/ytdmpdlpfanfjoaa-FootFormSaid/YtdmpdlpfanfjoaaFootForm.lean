/- Proved: FootForm returns true for every input: New of Claims is the same footprint, the order in which claims are told does not count, nor how often, and each claim alone is within; no condition. -/
import Derived.Test.YtdmpdlpfanfjoaaFootFormP
namespace Go.Proofs.Ytdmpdlpfanfjoaa
open Go.ChangeShapes Go.WideShapes Go.ChangeAt Go.RowKit

/-- While the claims are told anew. -/
def TurnR (wB : World) (l : List Cl) (q : Nat → Nat) (k : Nat) (v : Value) (wr : World) : Prop := wr.ownsRow wB.heap.size 28 5 v (turnL l q k).length ((turnL l q k).map Cl.cells).flatten ∧ Below wB.heap.size wB wr

set_option maxRecDepth 100000 in
set_option maxHeartbeats 4000000 in
theorem form_far (w0 : World) (F : Nat → Prop) (v : Value) (l : List Cl) (fr : Int) (h : ClRd w0 F v l) (hfit : ∀ c ∈ l, c.fits) (hfew : ¬ FewP l) (_hfr : I64 fr) :
    Calls Try.prog 7 #[v, .int .i64 fr] w0 fun e w' => e = .returned (.bool true) ∧ Below w0.heap.size w0 w' := by
  obtain ⟨A, c, rfl, hnc, hcm⟩ := h.slice
  have HL := Lib.hid h
  have HFW := Lib.hid hfew
  clear h hfew
  go_enter Try.func7, Try.ntmps7
  go_wp2_with fail
  refine (few_ok _ F _ l HL.out hfit).mono ?_
  rintro e w1 ⟨r1, hr1, rfl, hb1⟩
  obtain rfl : r1 = false := Bool.eq_false_iff.2 (fun hh => (HFW.out) (hr1.1 hh))
  clear hr1
  have hbb1 := hb1
  have HB1 := Lib.hid hbb1
  clear hbb1 hb1
  go_wp2_with fail
  refine (awake_ok _).mono ?_
  rintro e w2 ⟨rfl, hb2⟩
  have hbb2 := hb2
  have HB2 := Lib.hid (HB1.out.trans (hbb2.mono HB1.out.size))
  clear HB1 hbb2 hb2
  go_wp2_with fail
  go_ret
  exact ⟨rfl, HB2.out⟩

set_option maxRecDepth 100000 in
set_option maxHeartbeats 4000000 in
theorem form_near (w0 : World) (F : Nat → Prop) (v : Value) (l : List Cl) (fr : Int) (h : ClRd w0 F v l) (hfit : ∀ c ∈ l, c.fits) (hfew : FewP l) (_hfr : I64 fr) :
    Calls Try.prog 7 #[v, .int .i64 fr] w0 fun e w' => e = .returned (.bool true) ∧ Below w0.heap.size w0 w' := by
  obtain ⟨i2, hi2, hy0, hy1, hy2⟩ := info_parts Try.info28
  obtain ⟨A, c, rfl, hnc, hcm⟩ := h.slice
  have HL := Lib.hid h
  have HFW := Lib.hid hfew
  have HHI2 := Lib.hid hi2
  clear h hfew hi2
  go_enter Try.func7, Try.ntmps7
  have hl100 : l.length ≤ 100 := HFW.out.1
  go_wp2_with fail
  refine (few_ok _ F _ l HL.out hfit).mono ?_
  rintro e w1 ⟨r1, hr1, rfl, hb1⟩
  obtain rfl : r1 = true := hr1.2 (HFW.out)
  clear hr1
  have hbb1 := hb1
  have HB1 := Lib.hid hbb1
  clear hbb1 hb1
  go_wp2_with fail
  refine (new_ok _ F _ l (RdK.below HL.out HB1.out) (by omega) hfit).mono ?_
  intro e w2 hnp
  obtain ⟨v2, n2, rfl, hnv⟩ := hnp.named
  have hb2 := hnv.1
  have HNV2 := Lib.hid hnv.cases
  clear hnv hnp
  have hbb2 := hb2
  have HB2 := Lib.hid (HB1.out.trans (hbb2.mono HB1.out.size))
  clear HB1 hbb2 hb2
  rcases HNV2.out with ⟨hn0, rfl⟩ | ⟨rfl, he0, outF, hf, h64F, AF, cF, rfl, hO⟩
  · clear HNV2
    have e1 : (n2 == 0) = false := by simpa using hn0
    have e2 : (n2 != 0) = true := by simpa using hn0
    clear hn0
    have RDF : Hid (ClRd w2 (fun _ => True) (.slice none 0 0) []) := Lib.hid (RdK.nil _ _ _)
    go_wp2_with fail
    refine (len_ok _ (fun _ => True) _ _ (RdK.below RDF.out (one_box _ _))).mono ?_
    rintro e w3 ⟨rfl, hb3⟩
    have hbb3 := unbox hb3
    have GF := Lib.hid (Ft.made (A := none) (l := ([] : List Cl)) (c := 0) hb3 RDF.out)
    have HB3 := Lib.hid (HB2.out.trans (hbb3.mono HB2.out.size))
    clear RDF HB2 hbb3 hb3
    have FF := GF
    have kF := FF.out.1
    have lF := FF.out.2.1
    clear GF
    go_wp2_with fail
    refine (awake_ok _).mono ?_
    rintro e w4 ⟨rfl, hb4⟩
    have hbb4 := hb4
    have GF := Lib.hid (FF.out.below hbb4)
    have HB4 := Lib.hid (HB3.out.trans (hbb4.mono HB3.out.size))
    clear FF kF lF HB3 hbb4 hb4
    have FF := GF
    have kF := FF.out.1
    have lF := FF.out.2.1
    clear GF
    go_wp2_with fail
    go_ret
    exact ⟨rfl, HB4.out⟩
  · clear HNV2
    have hg0 : Good l := fun c hc => ⟨ok_of_errOf he0 c hc, hfit c hc⟩
    have HGF := Lib.hid (And.intro hf (And.intro hg0 (form_good hf hg0)))
    have RDF := Lib.hid (fresh_rd hO)
    clear hf hg0 he0 hO
    go_wp2_with fail
    refine (claims_ok _ (fun _ => True) _ _ (RdK.below RDF.out (one_box _ _)) (by omega)).mono ?_
    rintro e w3 ⟨A1, c1, rfl, hO1, hb3⟩
    have RX1 := Lib.hid (fresh_rd hO1)
    clear hO1
    have hbb3 := unbox hb3
    have GF := Lib.hid (Ft.made (A := AF) (l := outF) (c := cF) hb3 RDF.out)
    have HB3 := Lib.hid (HB2.out.trans (hbb3.mono HB2.out.size))
    clear RDF HB2 hbb3 hb3
    have FF := GF
    have kF := FF.out.1
    have lF := FF.out.2.1
    clear GF
    go_wp2_with fail
    refine (new_ok _ (fun _ => True) _ outF RX1.out (by omega) HGF.out.2.2.fits).mono ?_
    intro e w4 hnp
    obtain ⟨v4, n4, rfl, hnv⟩ := hnp.named
    have hb4 := hnv.1
    obtain ⟨rfl, AG, cG, rfl, hO⟩ := hnv.known (HGF.out.2.2.ok) (HGF.out.1.self) (h64F)
    have RDG := Lib.hid (fresh_rd hO)
    clear hO hnv hnp
    have hbb4 := hb4
    have GF := Lib.hid (FF.out.below hbb4)
    have HB4 := Lib.hid (HB3.out.trans (hbb4.mono HB3.out.size))
    clear FF kF lF HB3 hbb4 hb4
    have FF := GF
    have kF := FF.out.1
    have lF := FF.out.2.1
    clear GF
    go_upto_region 7 with fail
    have hbb5 := one_box w4 (.cells #[.slice AG (outF).length cG] 30)
    have GG := Ft.box 30 (A := AG) (l := outF) (c := cG) RDG.out
    generalize w4.alloc (.cells #[.slice AG (outF).length cG] 30) = w5 at hbb5 GG ⊢
    have FG := Lib.hid GG
    have kG := FG.out.1
    have lG := FG.out.2.1
    clear GG RDG
    have GF := Lib.hid (FF.out.below hbb5)
    have HB5 := Lib.hid (HB4.out.trans (hbb5.mono HB4.out.size))
    clear FF kF lF HB4 hbb5
    have FF := GF
    have kF := FF.out.1
    have lF := FF.out.2.1
    clear GF
    go_cut [55] from 40 to 55 (fun s55 wx => s55 = .bool false ∧ Below w5.heap.size w5 wx)
    case first =>
      have rrF := FF.out.2.2
      have rrG := FG.out.2.2
      refine wp_region_held_drew (S := (fun w' => Below w5.heap.size w5 w' ∧ w'.cell? ⟨w2.heap.size, 0, none⟩ = some (.slice AF (outF).length cF) ∧ w'.cell? ⟨w4.heap.size, 0, none⟩ = some (.slice AG (outF).length cG))) (by kernel_rfl) ⟨(Below.refl _ _).drew, kF, kG⟩ (fun hHeld => ?_)
      refine take_lit (i := 0) (v := ?_) rfl (by kernel_rfl) (by kernel_rfl) (by kernel_rfl) (fun _ _ _ h => h) (by rfl) (fun w hSw => ?_) hHeld ?_
      rotate_left
      · obtain ⟨s0, s1, s2⟩ := hSw; go_simp; try with_reducible rfl
      try simp only [Act.put, List.setIfInBounds_toArray, List.set_cons_zero, List.set_cons_succ]
      refine take_lit (i := 1) (v := ?_) rfl (by kernel_rfl) (by kernel_rfl) (by kernel_rfl) (fun _ _ _ h => h) (by rfl) (fun w hSw => ?_) hHeld ?_
      rotate_left
      · obtain ⟨s0, s1, s2⟩ := hSw; go_simp; try with_reducible rfl
      try simp only [Act.put, List.setIfInBounds_toArray, List.set_cons_zero, List.set_cons_succ]
      refine take_lit (i := 2) (v := ?_) rfl (by kernel_rfl) (by kernel_rfl) (by kernel_rfl) (fun _ _ _ h => h) (by rfl) (fun w hSw => ?_) hHeld ?_
      rotate_left
      · obtain ⟨s0, s1, s2⟩ := hSw; go_simp; try with_reducible rfl
      try simp only [Act.put, List.setIfInBounds_toArray, List.set_cons_zero, List.set_cons_succ]
      refine take_lit (i := 3) (v := ?_) rfl (by kernel_rfl) (by kernel_rfl) (by kernel_rfl) (fun _ _ _ h => h) (by rfl) (fun w hSw => ?_) hHeld ?_
      rotate_left
      · obtain ⟨s0, s1, s2⟩ := hSw; go_simp; try with_reducible rfl
      try simp only [Act.put, List.setIfInBounds_toArray, List.set_cons_zero, List.set_cons_succ]
      refine take_lit (i := 4) (v := ?_) rfl (by kernel_rfl) (by kernel_rfl) (by kernel_rfl) (fun _ _ _ h => h) (by rfl) (fun w hSw => ?_) hHeld ?_
      rotate_left
      · obtain ⟨s0, s1, s2⟩ := hSw; go_simp; try with_reducible rfl
      try simp only [Act.put, List.setIfInBounds_toArray, List.set_cons_zero, List.set_cons_succ]
      refine wpAnyH_ready (rs := [5]) (by kernel_rfl) (by simp) (cons_lit (i := 5) rfl (fun K hK => ?_) AllReadyH.nil)
      go_simp
      refine (same_is (a := outF) (b := outF) true (.yes rfl) (ClRd.below rrF hHeld.1) (ClRd.below rrG hHeld.1) (by omega)).mono ?_
      rintro e wn ⟨rfl, hbn⟩
      try go_simp
      refine hK.out _ _ (held2 hHeld hbn) (fun hHeld2 => ?_)
      clear hK K hHeld hbn
      have hHeld := hHeld2
      clear hHeld2
      try simp only [Act.put, List.setIfInBounds_toArray, List.set_cons_zero, List.set_cons_succ]
      refine take_lit (i := 6) (v := ?_) rfl (by kernel_rfl) (by kernel_rfl) (by kernel_rfl) (fun _ _ _ h => h) (by rfl) (fun w hSw => ?_) hHeld ?_
      rotate_left
      · obtain ⟨s0, s1, s2⟩ := hSw; go_simp; try with_reducible rfl
      try simp only [Act.put, List.setIfInBounds_toArray, List.set_cons_zero, List.set_cons_succ]
      refine take_lit (i := 7) (v := ?_) rfl (by kernel_rfl) (by kernel_rfl) (by kernel_rfl) (fun _ _ _ h => h) (by rfl) (fun w hSw => ?_) hHeld ?_
      rotate_left
      · obtain ⟨s0, s1, s2⟩ := hSw; go_simp; try with_reducible rfl
      try simp only [Act.put, List.setIfInBounds_toArray, List.set_cons_zero, List.set_cons_succ]
      refine take_lit (i := 8) (v := ?_) rfl (by kernel_rfl) (by kernel_rfl) (by kernel_rfl) (fun _ _ _ h => h) (by rfl) (fun w hSw => ?_) hHeld ?_
      rotate_left
      · obtain ⟨s0, s1, s2⟩ := hSw; go_simp; try with_reducible rfl
      try simp only [Act.put, List.setIfInBounds_toArray, List.set_cons_zero, List.set_cons_succ]
      refine take_lit (i := 9) (v := ?_) rfl (by kernel_rfl) (by kernel_rfl) (by kernel_rfl) (fun _ _ _ h => h) (by rfl) (fun w hSw => ?_) hHeld ?_
      rotate_left
      · obtain ⟨s0, s1, s2⟩ := hSw; go_simp; try with_reducible rfl
      try simp only [Act.put, List.setIfInBounds_toArray, List.set_cons_zero, List.set_cons_succ]
      refine take_lit (i := 11) (v := ?_) rfl (by kernel_rfl) (by kernel_rfl) (by kernel_rfl) (fun _ _ _ h => h) (by rfl) (fun w hSw => ?_) hHeld ?_
      rotate_left
      · obtain ⟨s0, s1, s2⟩ := hSw; go_simp; try with_reducible rfl
      try simp only [Act.put, List.setIfInBounds_toArray, List.set_cons_zero, List.set_cons_succ]
      refine wpAnyH_ready (rs := [10]) (by kernel_rfl) (by simp) (cons_lit (i := 10) rfl (fun K hK => ?_) AllReadyH.nil)
      go_simp
      refine (claims_ok _ (fun _ => True) _ outF (ClRd.below rrF hHeld.1) (by omega)).mono ?_
      rintro e wn ⟨A2, c2, rfl, hO2, hbn⟩
      have hb2 := hbn
      have RX2 := Lib.hid (fresh_rd hO2)
      clear hO2
      try go_simp
      refine hK.out _ _ (held2 hHeld hbn) (fun hHeld2 => ?_)
      clear hK K hHeld hbn
      have hHeld := hHeld2
      clear hHeld2
      try simp only [Act.put, List.setIfInBounds_toArray, List.set_cons_zero, List.set_cons_succ]
      refine wpAnyH_ready (rs := [12]) (by kernel_rfl) (by simp) (cons_lit (i := 12) rfl (fun K hK => ?_) AllReadyH.nil)
      go_simp
      refine (claims_ok _ (fun _ => True) _ outF (ClRd.below rrG hHeld.1) (by omega)).mono ?_
      rintro e wn ⟨A3, c3, rfl, hO3, hbn⟩
      have hb3 := hbn
      have RX3 := Lib.hid (fresh_rd hO3)
      clear hO3
      have RY2 := Lib.hid (ClRd.below RX2.out hbn)
      clear RX2
      try go_simp
      refine hK.out _ _ (held2 hHeld hbn) (fun hHeld2 => ?_)
      clear hK K hHeld hbn
      have hHeld := hHeld2
      clear hHeld2
      try simp only [Act.put, List.setIfInBounds_toArray, List.set_cons_zero, List.set_cons_succ]
      refine wpAnyH_ready (rs := [13]) (by kernel_rfl) (by simp) (cons_lit (i := 13) rfl (fun K hK => ?_) AllReadyH.nil)
      go_simp
      refine ((lawClaims_ok _ (fun _ => True) (fun _ => True) _ _ outF outF RY2.out RX3.out (by omega)).mono (fun _ _ h => h.ans (.yes rfl : Tells true (outF = outF)))).mono ?_
      rintro e wn ⟨rfl, hbn⟩
      try go_simp
      refine hK.out _ _ (held2 hHeld hbn) (fun hHeld2 => ?_)
      clear hK K hHeld hbn
      have hHeld := hHeld2
      clear hHeld2
      try simp only [Act.put, List.setIfInBounds_toArray, List.set_cons_zero, List.set_cons_succ]
      refine take_lit (i := 14) (v := ?_) rfl (by kernel_rfl) (by kernel_rfl) (by kernel_rfl) (fun _ _ _ h => h) (by rfl) (fun w hSw => ?_) hHeld ?_
      rotate_left
      · obtain ⟨s0, s1, s2⟩ := hSw; go_simp; try with_reducible rfl
      try simp only [Act.put, List.setIfInBounds_toArray, List.set_cons_zero, List.set_cons_succ]
      refine take_lit (i := 15) (v := ?_) rfl (by kernel_rfl) (by kernel_rfl) (by kernel_rfl) (fun _ _ _ h => h) (by rfl) (fun w hSw => ?_) hHeld ?_
      rotate_left
      · obtain ⟨s0, s1, s2⟩ := hSw; go_simp; try with_reducible rfl
      try simp only [Act.put, List.setIfInBounds_toArray, List.set_cons_zero, List.set_cons_succ]
      refine wpAnyH_done (by kernel_rfl) ?_ _
      have hz := hHeld.1
      go_wp2_with fail
      go_meet
      exact ⟨by simp, hz⟩
    case rest =>
      obtain ⟨rfl, hcb⟩ := hcut
      obtain ⟨w6, rfl⟩ : ∃ w6 : World, w6 = wc := ⟨_, rfl⟩
      have hbb6 := hcb
      have GF := Lib.hid (FF.out.below hbb6)
      have GG := Lib.hid (FG.out.below hbb6)
      have HB6 := Lib.hid (HB5.out.trans (hbb6.mono HB5.out.size))
      clear FF FG kF kG lF lG HB5 hbb6 hcb
      have FF := GF
      have kF := FF.out.1
      have lF := FF.out.2.1
      have FG := GG
      have kG := FG.out.1
      have lG := FG.out.2.1
      clear GF GG
      have hq := fun i (hi : i < l.length) => (turn_bounds fr (n := l.length) (i := i) (by omega)).2.2.2.2.2
      have HQ := Lib.hid hq
      clear hq
      go_wp2_with fail
      go_loopw [9, 11] (fun v i wr => ∃ k : Nat, k ≤ l.length ∧ i = .int .i64 (k : Int) ∧ TurnR w6 l (turnQ fr l.length) k v wr) (fun _ i _ => l.length - (intOf i).toNat)
      case atStart => exact ⟨0, Nat.zero_le _, rfl, World.ownsRow_nil _ _ _ _, Below.refl _ _⟩
      case round =>
        obtain ⟨k, hk, rfl, hown, hbl⟩ := hrel
        by_cases hlt : k < l.length
        · obtain ⟨t1, t2, t3, t4, t5, t6⟩ := turn_bounds fr (n := l.length) (i := k) (by omega)
          obtain ⟨a1, ea1⟩ : ∃ a1, fr.tmod (l.length : Int) = a1 := ⟨_, rfl⟩
          rw [ea1] at t1 t2 t3 t4 t5
          obtain ⟨a2, ea2⟩ : ∃ a2, (a1 + (l.length : Int)).tmod (l.length : Int) = a2 := ⟨_, rfl⟩
          rw [ea2] at t3 t4 t5
          obtain ⟨q, hq⟩ : ∃ q, turnQ fr l.length k = q := ⟨_, rfl⟩
          rw [hq] at t5 t6
          obtain ⟨x, hx⟩ : ∃ x, l[q]? = some x := ⟨_, List.getElem?_eq_getElem t6⟩
          obtain ⟨y, hy⟩ : ∃ y, l[k]? = some y := ⟨_, List.getElem?_eq_getElem hlt⟩
          obtain ⟨b1, o1, rfl, hF1, c0, c1, c2, c3, c4⟩ := HL.out.at_ hx
          obtain ⟨b2, o2, eb, hF2, d0, d1, d2, d3, d4⟩ := HL.out.at_ hy
          injection eb with eb
          injection eb with e1 e2
          subst e1 e2
          have hb1 : b1 < w0.heap.size := World.block_lt_of_cell? w0 _ c0
          have hb0 : Below w0.heap.size w0 wr := HB6.out.trans (hbl.mono HB6.out.size)
          have hb1r : b1 < wr.heap.size := Nat.lt_of_lt_of_le hb1 hb0.size
          have c0' := (hb0.cell (p := ⟨b1, o1 + q * 5, none⟩) hb1).trans c0
          have c1' := (hb0.cell (p := ⟨b1, o1 + q * 5 + 1, none⟩) hb1).trans c1
          have c2' := (hb0.cell (p := ⟨b1, o1 + q * 5 + 2, none⟩) hb1).trans c2
          have c3' := (hb0.cell (p := ⟨b1, o1 + q * 5 + 3, none⟩) hb1).trans c3
          have c4' := (hb0.cell (p := ⟨b1, o1 + q * 5 + 4, none⟩) hb1).trans c4
          have d0' := (hb0.cell (p := ⟨b1, o1 + k * 5, none⟩) hb1).trans d0
          have d1' := (hb0.cell (p := ⟨b1, o1 + k * 5 + 1, none⟩) hb1).trans d1
          have d2' := (hb0.cell (p := ⟨b1, o1 + k * 5 + 2, none⟩) hb1).trans d2
          have d3' := (hb0.cell (p := ⟨b1, o1 + k * 5 + 3, none⟩) hb1).trans d3
          have d4' := (hb0.cell (p := ⟨b1, o1 + k * 5 + 4, none⟩) hb1).trans d4
          have htl : turnL l (turnQ fr l.length) (k + 1) = turnL l (turnQ fr l.length) k ++ [x, y] := by
            rw [turnL, hq]
            simp [hx, hy]
          have htn : (turnL l (turnQ fr l.length) k).length ≤ 200 := by rw [turnL_len]; omega
          obtain ⟨A9, c9, rfl⟩ := ownsRow_slice hown
          obtain ⟨tl, htl0⟩ : ∃ tl, turnL l (turnQ fr l.length) k = tl := ⟨_, rfl⟩
          rw [htl0] at hown htl htn
          obtain ⟨nt, hnt⟩ : ∃ nt, tl.length = nt := ⟨_, rfl⟩
          rw [htl0, hnt]
          rw [hnt] at hown htn
          have hown' := hown.alloc (.cells #[.bool x.wr, .int .i64 x.col, .string ⟨x.key.toArray⟩, .int .i64 x.lo, .int .i64 x.hi, .bool y.wr, .int .i64 y.col, .string ⟨y.key.toArray⟩, .int .i64 y.lo, .int .i64 y.hi] 28)
          have hnews := World.news_of_block (heap_alloc_new wr (.cells #[.bool x.wr, .int .i64 x.col, .string ⟨x.key.toArray⟩, .int .i64 x.lo, .int .i64 x.hi, .bool y.wr, .int .i64 y.col, .string ⟨y.key.toArray⟩, .int .i64 y.lo, .int .i64 y.hi] 28))
          have hsr := hbl.size
          have HX := Lib.hid (And.intro hown' (And.intro hnews (And.intro hown (And.intro hbl (And.intro htl (And.intro htl0 hnt))))))
          clear hown' hnews hown hbl htl htl0 hnt hx hy c0 c1 c2 c3 c4 d0 d1 d2 d3 d4 hb0 hq
          have wq1 : IntKind.i64.wrap (a1 + (l.length : Int)) = a1 + (l.length : Int) := IntWalk.i64_in _ (by omega)
          have wq2 : IntKind.i64.wrap (a2 + (k : Int)) = a2 + (k : Int) := IntWalk.i64_in _ (by omega)
          have wq3 : ¬ l = [] := by rintro rfl; simp at hlt
          have q0 : (0 : Int) ≤ (q : Int) := by omega
          have q1 : (q : Int) < (l.length : Int) := by omega
          have k0 : (0 : Int) ≤ (k : Int) := by omega
          have k1 : (k : Int) < (l.length : Int) := by omega
          go_upto_region 14 with fail
          have hb1B : b1 < w6.heap.size := Nat.lt_of_lt_of_le hb1 HB6.out.size
          have c0B := (HX.out.2.2.2.1.cell (p := ⟨b1, o1 + q * 5, none⟩) hb1B).symm.trans c0'
          have c1B := (HX.out.2.2.2.1.cell (p := ⟨b1, o1 + q * 5 + 1, none⟩) hb1B).symm.trans c1'
          have c2B := (HX.out.2.2.2.1.cell (p := ⟨b1, o1 + q * 5 + 2, none⟩) hb1B).symm.trans c2'
          have c3B := (HX.out.2.2.2.1.cell (p := ⟨b1, o1 + q * 5 + 3, none⟩) hb1B).symm.trans c3'
          have c4B := (HX.out.2.2.2.1.cell (p := ⟨b1, o1 + q * 5 + 4, none⟩) hb1B).symm.trans c4'
          have d0B := (HX.out.2.2.2.1.cell (p := ⟨b1, o1 + k * 5, none⟩) hb1B).symm.trans d0'
          have d1B := (HX.out.2.2.2.1.cell (p := ⟨b1, o1 + k * 5 + 1, none⟩) hb1B).symm.trans d1'
          have d2B := (HX.out.2.2.2.1.cell (p := ⟨b1, o1 + k * 5 + 2, none⟩) hb1B).symm.trans d2'
          have d3B := (HX.out.2.2.2.1.cell (p := ⟨b1, o1 + k * 5 + 3, none⟩) hb1B).symm.trans d3'
          have d4B := (HX.out.2.2.2.1.cell (p := ⟨b1, o1 + k * 5 + 4, none⟩) hb1B).symm.trans d4'
          clear c0' c1' c2' c3' c4' d0' d1' d2' d3' d4'
          refine wp_region_held_drew (S := (fun w' => Below w6.heap.size w6 w')) (by kernel_rfl) HX.out.2.2.2.1.drew (fun hHeld => ?_)
          refine take_lit (i := 0) (v := ?_) rfl (by kernel_rfl) (by kernel_rfl) (by kernel_rfl) (fun _ _ _ h => h) (by rfl) (fun w hSw => ?_) hHeld ?_
          rotate_left
          · go_simp; try with_reducible rfl
          try simp only [Act.put, List.setIfInBounds_toArray, List.set_cons_zero, List.set_cons_succ]
          refine take_lit (i := 1) (v := ?_) rfl (by kernel_rfl) (by kernel_rfl) (by kernel_rfl) (fun _ _ _ h => h) (by rfl) (fun w hSw => ?_) hHeld ?_
          rotate_left
          · go_simp; try with_reducible rfl
          try simp only [Act.put, List.setIfInBounds_toArray, List.set_cons_zero, List.set_cons_succ]
          refine take_lit (i := 2) (v := ?_) rfl (by kernel_rfl) (by kernel_rfl) (by kernel_rfl) (fun _ _ _ h => h) (by rfl) (fun w hSw => ?_) hHeld ?_
          rotate_left
          · go_simp; try with_reducible rfl
          try simp only [Act.put, List.setIfInBounds_toArray, List.set_cons_zero, List.set_cons_succ]
          refine take_lit (i := 3) (v := ?_) rfl (by kernel_rfl) (by kernel_rfl) (by kernel_rfl) (fun _ _ _ h => h) (by rfl) (fun w hSw => ?_) hHeld ?_
          rotate_left
          · go_simp; try with_reducible rfl
          try simp only [Act.put, List.setIfInBounds_toArray, List.set_cons_zero, List.set_cons_succ]
          refine take_lit (i := 4) (v := ?_) rfl (by kernel_rfl) (by kernel_rfl) (by kernel_rfl) (fun _ _ _ h => h) (by rfl) (fun w hSw => ?_) hHeld ?_
          rotate_left
          · go_simp; try with_reducible rfl
          try simp only [Act.put, List.setIfInBounds_toArray, List.set_cons_zero, List.set_cons_succ]
          refine take_lit (i := 5) (v := ?_) rfl (by kernel_rfl) (by kernel_rfl) (by kernel_rfl) (fun _ _ _ h => h) (by rfl) (fun w hSw => ?_) hHeld ?_
          rotate_left
          · go_simp; try with_reducible rfl
          try simp only [Act.put, List.setIfInBounds_toArray, List.set_cons_zero, List.set_cons_succ]
          refine take_lit (i := 6) (v := ?_) rfl (by kernel_rfl) (by kernel_rfl) (by kernel_rfl) (fun _ _ _ h => h) (by rfl) (fun w hSw => ?_) hHeld ?_
          rotate_left
          · go_simp; try with_reducible rfl
          try simp only [Act.put, List.setIfInBounds_toArray, List.set_cons_zero, List.set_cons_succ]
          refine take_lit (i := 7) (v := ?_) rfl (by kernel_rfl) (by kernel_rfl) (by kernel_rfl) (fun _ _ _ h => h) (by rfl) (fun w hSw => ?_) hHeld ?_
          rotate_left
          · go_simp; try with_reducible rfl
          try simp only [Act.put, List.setIfInBounds_toArray, List.set_cons_zero, List.set_cons_succ]
          refine take_lit (i := 8) (v := ?_) rfl (by kernel_rfl) (by kernel_rfl) (by kernel_rfl) (fun _ _ _ h => h) (by rfl) (fun w hSw => ?_) hHeld ?_
          rotate_left
          · go_simp; try with_reducible rfl
          try simp only [Act.put, List.setIfInBounds_toArray, List.set_cons_zero, List.set_cons_succ]
          refine take_lit (i := 9) (v := ?_) rfl (by kernel_rfl) (by kernel_rfl) (by kernel_rfl) (fun _ _ _ h => h) (by rfl) (fun w hSw => ?_) hHeld ?_
          rotate_left
          · go_simp; try with_reducible rfl
          try simp only [Act.put, List.setIfInBounds_toArray, List.set_cons_zero, List.set_cons_succ]
          refine take_lit (i := 10) (v := ?_) rfl (by kernel_rfl) (by kernel_rfl) (by kernel_rfl) (fun _ _ _ h => h) (by rfl) (fun w hSw => ?_) hHeld ?_
          rotate_left
          · go_simp; try with_reducible rfl
          try simp only [Act.put, List.setIfInBounds_toArray, List.set_cons_zero, List.set_cons_succ]
          refine take_lit (i := 11) (v := ?_) rfl (by kernel_rfl) (by kernel_rfl) (by kernel_rfl) (fun _ _ _ h => h) (by rfl) (fun w hSw => ?_) hHeld ?_
          rotate_left
          · go_simp; try with_reducible rfl
          try simp only [Act.put, List.setIfInBounds_toArray, List.set_cons_zero, List.set_cons_succ]
          refine take_lit (i := 12) (v := ?_) rfl (by kernel_rfl) (by kernel_rfl) (by kernel_rfl) (fun _ _ _ h => h) (by rfl) (fun w hSw => ?_) hHeld ?_
          rotate_left
          · go_simp; try with_reducible rfl
          try simp only [Act.put, List.setIfInBounds_toArray, List.set_cons_zero, List.set_cons_succ]
          refine take_lit (i := 13) (v := ?_) rfl (by kernel_rfl) (by kernel_rfl) (by kernel_rfl) (fun _ _ _ h => h) (by rfl) (fun w hSw => ?_) hHeld ?_
          rotate_left
          · go_simp; try with_reducible rfl
          try simp only [Act.put, List.setIfInBounds_toArray, List.set_cons_zero, List.set_cons_succ]
          refine take_lit (i := 14) (v := ?_) rfl (by kernel_rfl) (by kernel_rfl) (by kernel_rfl) (fun _ _ _ h => h) (by rfl) (fun w hSw => ?_) hHeld ?_
          rotate_left
          · have z0 := (hSw.cell (p := ⟨b1, o1 + q * 5, none⟩) hb1B).trans c0B; have z1 := (hSw.cell (p := ⟨b1, o1 + q * 5 + 1, none⟩) hb1B).trans c1B; have z2 := (hSw.cell (p := ⟨b1, o1 + q * 5 + 2, none⟩) hb1B).trans c2B; have z3 := (hSw.cell (p := ⟨b1, o1 + q * 5 + 3, none⟩) hb1B).trans c3B; have z4 := (hSw.cell (p := ⟨b1, o1 + q * 5 + 4, none⟩) hb1B).trans c4B; go_simp; try with_reducible rfl
          try simp only [Act.put, List.setIfInBounds_toArray, List.set_cons_zero, List.set_cons_succ]
          refine take_lit (i := 15) (v := ?_) rfl (by kernel_rfl) (by kernel_rfl) (by kernel_rfl) (fun _ _ _ h => h) (by rfl) (fun w hSw => ?_) hHeld ?_
          rotate_left
          · go_simp; try with_reducible rfl
          try simp only [Act.put, List.setIfInBounds_toArray, List.set_cons_zero, List.set_cons_succ]
          refine take_lit (i := 16) (v := ?_) rfl (by kernel_rfl) (by kernel_rfl) (by kernel_rfl) (fun _ _ _ h => h) (by rfl) (fun w hSw => ?_) hHeld ?_
          rotate_left
          · go_simp; try with_reducible rfl
          try simp only [Act.put, List.setIfInBounds_toArray, List.set_cons_zero, List.set_cons_succ]
          refine take_lit (i := 17) (v := ?_) rfl (by kernel_rfl) (by kernel_rfl) (by kernel_rfl) (fun _ _ _ h => h) (by rfl) (fun w hSw => ?_) hHeld ?_
          rotate_left
          · go_simp; try with_reducible rfl
          try simp only [Act.put, List.setIfInBounds_toArray, List.set_cons_zero, List.set_cons_succ]
          refine take_lit (i := 18) (v := ?_) rfl (by kernel_rfl) (by kernel_rfl) (by kernel_rfl) (fun _ _ _ h => h) (by rfl) (fun w hSw => ?_) hHeld ?_
          rotate_left
          · have z0 := (hSw.cell (p := ⟨b1, o1 + k * 5, none⟩) hb1B).trans d0B; have z1 := (hSw.cell (p := ⟨b1, o1 + k * 5 + 1, none⟩) hb1B).trans d1B; have z2 := (hSw.cell (p := ⟨b1, o1 + k * 5 + 2, none⟩) hb1B).trans d2B; have z3 := (hSw.cell (p := ⟨b1, o1 + k * 5 + 3, none⟩) hb1B).trans d3B; have z4 := (hSw.cell (p := ⟨b1, o1 + k * 5 + 4, none⟩) hb1B).trans d4B; go_simp; try with_reducible rfl
          try simp only [Act.put, List.setIfInBounds_toArray, List.set_cons_zero, List.set_cons_succ]
          refine wpAnyH_ready (rs := [19]) (by kernel_rfl) (by simp) (cons_lit (i := 19) rfl (fun K hK => ?_) AllReadyH.nil)
          go_simp
          refine hK.out _ _ (HX.out.2.2.2.1.drew.alloc hsr _) (fun hHeld2 => ?_)
          clear hK K hHeld
          have hHeld := hHeld2
          clear hHeld2
          try simp only [Act.put, List.setIfInBounds_toArray, List.set_cons_zero, List.set_cons_succ]
          refine wpAnyH_ready (rs := [20]) (by kernel_rfl) (by simp) (cons_lit (i := 20) rfl (fun K hK => ?_) AllReadyH.nil)
          (refine step_append_lies _ (by rfl) _ _ 22 (by rfl) w6.heap.size 28 i2 _ 5 48 Try.underlying22 HHI2.out hy0 hy1 hy2 (by rfl) (by decide) (.slice A9 nt c9) nt _ (by rfl) HX.out.1 ⟨wr.heap.size, 0, none⟩ 2 2 [.bool x.wr, .int .i64 x.col, .string ⟨x.key.toArray⟩, .int .i64 x.lo, .int .i64 x.hi, .bool y.wr, .int .i64 y.col, .string ⟨y.key.toArray⟩, .int .i64 y.lo, .int .i64 y.hi] (by rfl) (by rfl) HX.out.2.1 (by simp [Value.oneCell']) (by decide) (by unfold maxLen; omega) (by omega) (by simp; omega) (wr.heap.size + 1) (by simp) ?_)
          intro g3 cap3 wA hown3 hgrow3 hat3 hlt3
          refine hK.out _ _ (((HX.out.2.2.2.1.alloc hsr _).drew).grown hgrow3 (by simp; omega) (fun j hj => (HX.out.2.2.1.lt j hj).1)) (fun hHeld2 => ?_)
          clear hK K hHeld
          have hHeld := hHeld2
          clear hHeld2
          try simp only [Act.put, List.setIfInBounds_toArray, List.set_cons_zero, List.set_cons_succ]
          refine take_lit (i := 21) (v := ?_) rfl (by kernel_rfl) (by kernel_rfl) (by kernel_rfl) (fun _ _ _ h => h) (by rfl) (fun w hSw => ?_) hHeld ?_
          rotate_left
          · go_simp; try with_reducible rfl
          try simp only [Act.put, List.setIfInBounds_toArray, List.set_cons_zero, List.set_cons_succ]
          refine wpAnyH_done (by kernel_rfl) ?_ _
          have HG3 := Lib.hid (And.intro hown3 hHeld)
          clear hown3 hgrow3 hat3 hHeld wq1 wq2 wq3 ea1 ea2 t5 c0B c1B c2B c3B c4B d0B d1B d2B d3B d4B
          go_wp2_with fail
          go_roundw
          case rel =>
            refine ⟨k + 1, by omega, by go_num, ?_, HG3.out.2⟩
            rw [HX.out.2.2.2.2.1]
            have := HX.out.2.2.2.2.2.2
            simpa [Cl.cells, this] using HG3.out.1
          case measure => simp [intOf]; omega
        · have hkl : k = l.length := by omega
          subst hkl
          have HTN := Lib.hid hown
          clear hown
          obtain ⟨w7, rfl⟩ : ∃ w7 : World, w7 = wr := ⟨_, rfl⟩
          have hbb7 := hbl
          have GF := Lib.hid (FF.out.below hbb7)
          have GG := Lib.hid (FG.out.below hbb7)
          have HB7 := Lib.hid (HB6.out.trans (hbb7.mono HB6.out.size))
          clear FF FG kF kG lF lG HB6 hbb7 hbl
          have FF := GF
          have kF := FF.out.1
          have lF := FF.out.2.1
          have FG := GG
          have kG := FG.out.1
          have lG := FG.out.2.1
          clear GF GG
          obtain ⟨A9, c9, rfl⟩ := ownsRow_slice HTN.out
          have htn : (turnL l (turnQ fr l.length) l.length).length ≤ 200 := by rw [turnL_len]; omega
          obtain ⟨tl, htl0⟩ : ∃ tl, turnL l (turnQ fr l.length) l.length = tl := ⟨_, rfl⟩
          rw [htl0] at HTN htn
          rw [htl0]
          have hmem : ∀ c, c ∈ tl ↔ c ∈ l := fun c => by rw [← htl0]; exact turnL_same HQ.out c
          have hgt : Good tl := fun c hc => HGF.out.2.1 c ((hmem c).1 hc)
          have hft : IsForm tl outF := HGF.out.1.congr (lev_same hmem)
          have HT := Lib.hid (And.intro hgt hft)
          have RDT := Lib.hid (fresh_rd HTN.out)
          clear hmem hgt hft HTN htl0 HQ
          go_wp2_with fail
          refine (new_ok _ (fun _ => True) _ tl RDT.out (by omega) HT.out.1.fits).mono ?_
          intro e w8 hnp
          obtain ⟨v8, n8, rfl, hnv⟩ := hnp.named
          have hb8 := hnv.1
          obtain ⟨rfl, AX, cX, rfl, hO⟩ := hnv.known (HT.out.1.ok) (HT.out.2) (h64F)
          have RDX := Lib.hid (fresh_rd hO)
          clear hO hnv hnp
          have hbb8 := hb8
          have GF := Lib.hid (FF.out.below hbb8)
          have GG := Lib.hid (FG.out.below hbb8)
          have HB8 := Lib.hid (HB7.out.trans (hbb8.mono HB7.out.size))
          clear FF FG kF kG lF lG HB7 hbb8 hb8
          have FF := GF
          have kF := FF.out.1
          have lF := FF.out.2.1
          have FG := GG
          have kG := FG.out.1
          have lG := FG.out.2.1
          clear GF GG
          clear RDT
          go_upto_region 16 with fail
          have hbb9 := one_box w8 (.cells #[.slice AX (outF).length cX] 30)
          have GX := Ft.box 30 (A := AX) (l := outF) (c := cX) RDX.out
          generalize w8.alloc (.cells #[.slice AX (outF).length cX] 30) = w9 at hbb9 GX ⊢
          have FX := Lib.hid GX
          have kX := FX.out.1
          have lX := FX.out.2.1
          clear GX RDX
          have GF := Lib.hid (FF.out.below hbb9)
          have GG := Lib.hid (FG.out.below hbb9)
          have HB9 := Lib.hid (HB8.out.trans (hbb9.mono HB8.out.size))
          clear FF FG kF kG lF lG HB8 hbb9
          have FF := GF
          have kF := FF.out.1
          have lF := FF.out.2.1
          have FG := GG
          have kG := FG.out.1
          have lG := FG.out.2.1
          clear GF GG
          go_cut [98] from 89 to 98 (fun s98 wx => s98 = .bool false ∧ Below w9.heap.size w9 wx)
          case first =>
            have rrF := FF.out.2.2
            have rrX := FX.out.2.2
            refine wp_region_held_drew (S := (fun w' => Below w9.heap.size w9 w' ∧ w'.cell? ⟨w2.heap.size, 0, none⟩ = some (.slice AF (outF).length cF) ∧ w'.cell? ⟨w8.heap.size, 0, none⟩ = some (.slice AX (outF).length cX))) (by kernel_rfl) ⟨(Below.refl _ _).drew, kF, kX⟩ (fun hHeld => ?_)
            refine take_lit (i := 0) (v := ?_) rfl (by kernel_rfl) (by kernel_rfl) (by kernel_rfl) (fun _ _ _ h => h) (by rfl) (fun w hSw => ?_) hHeld ?_
            rotate_left
            · obtain ⟨s0, s1, s2⟩ := hSw; go_simp; try with_reducible rfl
            try simp only [Act.put, List.setIfInBounds_toArray, List.set_cons_zero, List.set_cons_succ]
            refine take_lit (i := 1) (v := ?_) rfl (by kernel_rfl) (by kernel_rfl) (by kernel_rfl) (fun _ _ _ h => h) (by rfl) (fun w hSw => ?_) hHeld ?_
            rotate_left
            · obtain ⟨s0, s1, s2⟩ := hSw; go_simp; try with_reducible rfl
            try simp only [Act.put, List.setIfInBounds_toArray, List.set_cons_zero, List.set_cons_succ]
            refine take_lit (i := 2) (v := ?_) rfl (by kernel_rfl) (by kernel_rfl) (by kernel_rfl) (fun _ _ _ h => h) (by rfl) (fun w hSw => ?_) hHeld ?_
            rotate_left
            · obtain ⟨s0, s1, s2⟩ := hSw; go_simp; try with_reducible rfl
            try simp only [Act.put, List.setIfInBounds_toArray, List.set_cons_zero, List.set_cons_succ]
            refine take_lit (i := 3) (v := ?_) rfl (by kernel_rfl) (by kernel_rfl) (by kernel_rfl) (fun _ _ _ h => h) (by rfl) (fun w hSw => ?_) hHeld ?_
            rotate_left
            · obtain ⟨s0, s1, s2⟩ := hSw; go_simp; try with_reducible rfl
            try simp only [Act.put, List.setIfInBounds_toArray, List.set_cons_zero, List.set_cons_succ]
            refine take_lit (i := 5) (v := ?_) rfl (by kernel_rfl) (by kernel_rfl) (by kernel_rfl) (fun _ _ _ h => h) (by rfl) (fun w hSw => ?_) hHeld ?_
            rotate_left
            · obtain ⟨s0, s1, s2⟩ := hSw; go_simp; try with_reducible rfl
            try simp only [Act.put, List.setIfInBounds_toArray, List.set_cons_zero, List.set_cons_succ]
            refine wpAnyH_ready (rs := [4]) (by kernel_rfl) (by simp) (cons_lit (i := 4) rfl (fun K hK => ?_) AllReadyH.nil)
            go_simp
            refine (claims_ok _ (fun _ => True) _ outF (ClRd.below rrF hHeld.1) (by omega)).mono ?_
            rintro e wn ⟨A2, c2, rfl, hO2, hbn⟩
            have hb2 := hbn
            have RX2 := Lib.hid (fresh_rd hO2)
            clear hO2
            try go_simp
            refine hK.out _ _ (held2 hHeld hbn) (fun hHeld2 => ?_)
            clear hK K hHeld hbn
            have hHeld := hHeld2
            clear hHeld2
            try simp only [Act.put, List.setIfInBounds_toArray, List.set_cons_zero, List.set_cons_succ]
            refine wpAnyH_ready (rs := [6]) (by kernel_rfl) (by simp) (cons_lit (i := 6) rfl (fun K hK => ?_) AllReadyH.nil)
            go_simp
            refine (claims_ok _ (fun _ => True) _ outF (ClRd.below rrX hHeld.1) (by omega)).mono ?_
            rintro e wn ⟨A3, c3, rfl, hO3, hbn⟩
            have hb3 := hbn
            have RX3 := Lib.hid (fresh_rd hO3)
            clear hO3
            have RY2 := Lib.hid (ClRd.below RX2.out hbn)
            clear RX2
            try go_simp
            refine hK.out _ _ (held2 hHeld hbn) (fun hHeld2 => ?_)
            clear hK K hHeld hbn
            have hHeld := hHeld2
            clear hHeld2
            try simp only [Act.put, List.setIfInBounds_toArray, List.set_cons_zero, List.set_cons_succ]
            refine wpAnyH_ready (rs := [7]) (by kernel_rfl) (by simp) (cons_lit (i := 7) rfl (fun K hK => ?_) AllReadyH.nil)
            go_simp
            refine ((lawClaims_ok _ (fun _ => True) (fun _ => True) _ _ outF outF RY2.out RX3.out (by omega)).mono (fun _ _ h => h.ans (.yes rfl : Tells true (outF = outF)))).mono ?_
            rintro e wn ⟨rfl, hbn⟩
            try go_simp
            refine hK.out _ _ (held2 hHeld hbn) (fun hHeld2 => ?_)
            clear hK K hHeld hbn
            have hHeld := hHeld2
            clear hHeld2
            try simp only [Act.put, List.setIfInBounds_toArray, List.set_cons_zero, List.set_cons_succ]
            refine take_lit (i := 8) (v := ?_) rfl (by kernel_rfl) (by kernel_rfl) (by kernel_rfl) (fun _ _ _ h => h) (by rfl) (fun w hSw => ?_) hHeld ?_
            rotate_left
            · obtain ⟨s0, s1, s2⟩ := hSw; go_simp; try with_reducible rfl
            try simp only [Act.put, List.setIfInBounds_toArray, List.set_cons_zero, List.set_cons_succ]
            refine take_lit (i := 9) (v := ?_) rfl (by kernel_rfl) (by kernel_rfl) (by kernel_rfl) (fun _ _ _ h => h) (by rfl) (fun w hSw => ?_) hHeld ?_
            rotate_left
            · obtain ⟨s0, s1, s2⟩ := hSw; go_simp; try with_reducible rfl
            try simp only [Act.put, List.setIfInBounds_toArray, List.set_cons_zero, List.set_cons_succ]
            refine wpAnyH_done (by kernel_rfl) ?_ _
            have hz := hHeld.1
            go_wp2_with fail
            go_meet
            exact ⟨by simp, hz⟩
          case rest =>
            obtain ⟨rfl, hcb⟩ := hcut
            obtain ⟨w10, rfl⟩ : ∃ w10 : World, w10 = wc := ⟨_, rfl⟩
            have hbb10 := hcb
            have GF := Lib.hid (FF.out.below hbb10)
            have GG := Lib.hid (FG.out.below hbb10)
            have GX := Lib.hid (FX.out.below hbb10)
            have HB10 := Lib.hid (HB9.out.trans (hbb10.mono HB9.out.size))
            clear FF FG FX kF kG kX lF lG lX HB9 hbb10 hcb
            have FF := GF
            have kF := FF.out.1
            have lF := FF.out.2.1
            have FG := GG
            have kG := FG.out.1
            have lG := FG.out.2.1
            have FX := GX
            have kX := FX.out.1
            have lX := FX.out.2.1
            clear GF GG GX
            go_wp2_with fail
            go_loopw [14] (fun i wr => ∃ k : Nat, k ≤ l.length ∧ i = .int .i64 (k : Int) ∧ Ft wr w2.heap.size AF outF cF ∧ Below w0.heap.size w0 wr) (fun i _ => l.length - (intOf i).toNat)
            case atStart => exact ⟨0, Nat.zero_le _, rfl, FF.out, HB10.out⟩
            case round =>
              obtain ⟨k, hk, rfl, hft, hbl⟩ := hrel
              clear FF kF lF FG kG lG FX kX lX HB10
              obtain ⟨w11, rfl⟩ : ∃ w11 : World, w11 = wr := ⟨_, rfl⟩
              have FF := Lib.hid hft
              have kF := FF.out.1
              have lF := FF.out.2.1
              have HB11 := Lib.hid hbl
              clear hft hbl
              by_cases hlt : k < l.length
              · obtain ⟨y, hy⟩ : ∃ y, l[k]? = some y := ⟨_, List.getElem?_eq_getElem hlt⟩
                obtain ⟨b1, o1, rfl, hF1, d0, d1, d2, d3, d4⟩ := HL.out.at_ hy
                have hb1 : b1 < w0.heap.size := World.block_lt_of_cell? w0 _ d0
                have hb1r : b1 < w11.heap.size := Nat.lt_of_lt_of_le hb1 HB11.out.size
                have d0' := (HB11.out.cell (p := ⟨b1, o1 + k * 5, none⟩) hb1).trans d0
                have d1' := (HB11.out.cell (p := ⟨b1, o1 + k * 5 + 1, none⟩) hb1).trans d1
                have d2' := (HB11.out.cell (p := ⟨b1, o1 + k * 5 + 2, none⟩) hb1).trans d2
                have d3' := (HB11.out.cell (p := ⟨b1, o1 + k * 5 + 3, none⟩) hb1).trans d3
                have d4' := (HB11.out.cell (p := ⟨b1, o1 + k * 5 + 4, none⟩) hb1).trans d4
                have hmy := List.mem_of_getElem? hy
                have HY := Lib.hid hmy
                clear d0 d1 d2 d3 d4 hy hmy
                go_wp2_with fail
                refine (new_ok _ (fun _ => True) _ [y] (cl_of_block (heap_alloc_new _ _) rfl trivial (by simp [maxLen])) (by simp) (fun c hc => by simp at hc; subst hc; exact hfit _ HY.out)).mono ?_
                intro e w12 hnp
                obtain ⟨v12, n12, rfl, hnv⟩ := hnp.named
                have hb12 := unbox hnv.1
                obtain ⟨rfl, AY, cY, rfl, hO⟩ := hnv.known (fun c hc => by simp at hc; subst hc; exact HGF.out.2.1.ok _ HY.out) (isForm_one (HGF.out.2.1.ok _ HY.out)) (by simp)
                have RDY := Lib.hid (fresh_rd hO)
                clear hO hnv hnp
                have x0' := (hb12.cell (p := ⟨b1, o1 + k * 5, none⟩) hb1r).trans d0'
                have x1' := (hb12.cell (p := ⟨b1, o1 + k * 5 + 1, none⟩) hb1r).trans d1'
                have x2' := (hb12.cell (p := ⟨b1, o1 + k * 5 + 2, none⟩) hb1r).trans d2'
                have x3' := (hb12.cell (p := ⟨b1, o1 + k * 5 + 3, none⟩) hb1r).trans d3'
                have x4' := (hb12.cell (p := ⟨b1, o1 + k * 5 + 4, none⟩) hb1r).trans d4'
                clear d0' d1' d2' d3' d4'
                have hbb12 := hb12
                have GF := Lib.hid (FF.out.below hbb12)
                have HB12 := Lib.hid (HB11.out.trans (hbb12.mono HB11.out.size))
                clear FF kF lF HB11 hbb12 hb12
                have FF := GF
                have kF := FF.out.1
                have lF := FF.out.2.1
                clear GF
                have hGy : Good [y] := fun c hc => by simp at hc; subst hc; exact HGF.out.2.1 _ HY.out
                have HGY := Lib.hid hGy
                clear hGy
                cases hw : y.wr with
                | true =>
                  rw [hw] at x0'
                  have HW := Lib.hid hw
                  clear hw
                  have hb1s : b1 < w12.heap.size := Nat.lt_of_lt_of_le hb1 HB12.out.size
                  go_wp2_with fail
                  refine (within_is (a := [y]) (b := outF) true (.yes (within_one HY.out HGF.out.1)) (RdK.below RDY.out (one_box _ _)) (RdK.below FF.out.2.2 (one_box _ _)) (by simp) (by omega) HGY.out HGF.out.2.2).mono ?_
                  rintro e w13 ⟨rfl, hb13⟩
                  have y0' := ((unbox hb13).cell (p := ⟨b1, o1 + k * 5, none⟩) hb1s).trans x0'
                  clear x0' x1' x2' x3' x4' hb1s
                  have hbb13 := unbox hb13
                  have GF := Lib.hid (FF.out.below hbb13)
                  have GY := Lib.hid (Ft.made (A := AY) (l := [y]) (c := cY) hb13 RDY.out)
                  have HB13 := Lib.hid (HB12.out.trans (hbb13.mono HB12.out.size))
                  clear FF kF lF RDY HB12 hbb13 hb13
                  have FF := GF
                  have kF := FF.out.1
                  have lF := FF.out.2.1
                  have FY := GY
                  have kY := FY.out.1
                  have lY := FY.out.2.1
                  clear GF GY
                  go_wp2_with fail
                  refine (conflict_is (a := [y]) (b := outF) true (.yes (confl_one HY.out HW.out HGF.out.2.1 HGF.out.1)) FY.out.2.2 FF.out.2.2 (by simp) (by omega)).mono ?_
                  rintro e w14 ⟨rfl, hb14⟩
                  have hbb14 := hb14
                  have GF := Lib.hid (FF.out.below hbb14)
                  have GY := Lib.hid (FY.out.below hbb14)
                  have HB14 := Lib.hid (HB13.out.trans (hbb14.mono HB13.out.size))
                  clear FF FY kF kY lF lY HB13 hbb14 hb14
                  have FF := GF
                  have kF := FF.out.1
                  have lF := FF.out.2.1
                  have FY := GY
                  have kY := FY.out.1
                  have lY := FY.out.2.1
                  clear GF GY
                  go_wp2_with fail
                  go_roundw
                  case rel => exact ⟨k + 1, by omega, by go_num, FF.out, HB14.out⟩
                  case measure => simp [intOf]; omega
                | false =>
                  rw [hw] at x0'
                  have HW := Lib.hid hw
                  clear hw
                  have hb1s : b1 < w12.heap.size := Nat.lt_of_lt_of_le hb1 HB12.out.size
                  go_wp2_with fail
                  refine (within_is (a := [y]) (b := outF) true (.yes (within_one HY.out HGF.out.1)) (RdK.below RDY.out (one_box _ _)) (RdK.below FF.out.2.2 (one_box _ _)) (by simp) (by omega) HGY.out HGF.out.2.2).mono ?_
                  rintro e w13 ⟨rfl, hb13⟩
                  have y0' := ((unbox hb13).cell (p := ⟨b1, o1 + k * 5, none⟩) hb1s).trans x0'
                  clear x0' x1' x2' x3' x4' hb1s
                  have hbb13 := unbox hb13
                  have GF := Lib.hid (FF.out.below hbb13)
                  have GY := Lib.hid (Ft.made (A := AY) (l := [y]) (c := cY) hb13 RDY.out)
                  have HB13 := Lib.hid (HB12.out.trans (hbb13.mono HB12.out.size))
                  clear FF kF lF RDY HB12 hbb13 hb13
                  have FF := GF
                  have kF := FF.out.1
                  have lF := FF.out.2.1
                  have FY := GY
                  have kY := FY.out.1
                  have lY := FY.out.2.1
                  clear GF GY
                  go_wp2_with fail
                  go_roundw
                  case rel => exact ⟨k + 1, by omega, by go_num, FF.out, HB13.out⟩
                  case measure => simp [intOf]; omega
              · have hkl : k = l.length := by omega
                subst hkl
                go_wp2_with fail
                refine (within_is (a := outF) (b := outF) true (.yes (within_refl outF)) FF.out.2.2 FF.out.2.2 (by omega) (by omega) HGF.out.2.2 HGF.out.2.2).mono ?_
                rintro e w12 ⟨rfl, hb12⟩
                have hbb12 := hb12
                have GF := Lib.hid (FF.out.below hbb12)
                have HB12 := Lib.hid (HB11.out.trans (hbb12.mono HB11.out.size))
                clear FF kF lF HB11 hbb12 hb12
                have FF := GF
                have kF := FF.out.1
                have lF := FF.out.2.1
                clear GF
                go_wp2_with fail
                refine (awake_ok _).mono ?_
                rintro e w13 ⟨rfl, hb13⟩
                have hbb13 := hb13
                have GF := Lib.hid (FF.out.below hbb13)
                have HB13 := Lib.hid (HB12.out.trans (hbb13.mono HB12.out.size))
                clear FF kF lF HB12 hbb13 hb13
                have FF := GF
                have kF := FF.out.1
                have lF := FF.out.2.1
                clear GF
                go_wp2_with fail
                go_ret
                exact ⟨rfl, HB13.out⟩

set_option maxRecDepth 100000 in
theorem footForm_lifted (os : Os) (started : os.Started) (H : Type) (enc : TypeId × Value → H) :
    ReturnsInHanded {} Try.checked os 7 .any (Rows.footFormSpec.pre6 enc Try.prog Try.f7 Rows.footFormRow.domain false) (Rows.footFormSpec.post enc Try.prog Try.f7 false true false false) := by
  refine law_lifted os started H enc 7 Try.f7 Rows.footFormSpec (by kernel_rfl) Try.func7 rfl (by kernel_rfl) ?_ ?_
    (ChangeSpec.witness6 (enc := enc) (C := Try.checked) false ⟨#[], #[.slice none 0 0, .int .i64 0], []⟩ 8 (by kernel_rfl) (by kernel_rfl) (by kernel_rfl) (by kernel_rfl)) ?_
  · rw [Try.params7]
    intro t ht
    simp at ht
    rcases ht with rfl | rfl
    · exact ⟨by kernel_rfl, of_decide_eq_true (by kernel_rfl)⟩
    · exact ⟨by kernel_rfl, of_decide_eq_true (by kernel_rfl)⟩
  · intro ds hl
    rw [Try.params7] at hl
    match ds, hl with
    | [d1, d2], _ => exact ⟨rfl, rfl, rfl⟩
  · intro W base args ds p hval hA
    rw [Try.params7] at hA hval
    obtain ⟨v0, v1, d0, d1, p0, p1, hargs, rfl, rfl, h0, h1⟩ := trodAll_two hA
    subst hargs
    obtain ⟨l0, r0, f0⟩ := claims_of_trod (hval 0 22 v0 rfl rfl) h0
    obtain ⟨n1, rfl, rfl, rfl, wn1⟩ := open_int Try.underlying3 (hval 1 3 v1 rfl rfl) h1
    have b1 := bounds_i64 wn1
    by_cases hf : FewP l0
    · exact form_near W _ v0 l0 n1 r0 f0 hf b1
    · exact form_far W _ v0 l0 n1 r0 f0 hf b1

theorem footForm_holds : Rows.FootFormSaid :=
  OpenClaim.holds_of_wide 7 Try.f7 rfl rfl rfl rfl rfl rfl rfl ⟨rfl, rfl, rfl, rfl, rfl⟩ rfl rfl rfl rfl rfl (by kernel_rfl) Try.func7 (by kernel_rfl)
    (of_decide_eq_true (by kernel_rfl)) (by unfold Func.isWrapper; rw [if_neg (of_decide_eq_false (by kernel_rfl))]; exact ⟨rfl, rfl⟩)
    (fun os started H enc _ => footForm_lifted os started H enc)

#print axioms footForm_holds

end Go.Proofs.Ytdmpdlpfanfjoaa
