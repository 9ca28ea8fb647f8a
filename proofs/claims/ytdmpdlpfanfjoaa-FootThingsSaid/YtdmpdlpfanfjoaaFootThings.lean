/- Proved: FootThings returns true for every input: a footprint is within another one just if each of its things is, tried one by one, and two conflict just if one of their things does; no condition. -/
import Derived.Test.YtdmpdlpfanfjoaaFootThingsP
namespace Go.Proofs.Ytdmpdlpfanfjoaa
open Go.ChangeShapes Go.WideShapes Go.ChangeAt Go.RowKit

/-- While the things are tried. -/
def ThR (w0 : World) (a b f g : List Cl) (BF : Nat) (AF : Option Addr) (cF : Nat) (BG : Nat) (AG : Option Addr) (cG : Nat) (s9 s10 s11 : Value) (wr : World) : Prop :=
  ∃ (m : Nat) (x y : Bool), m ≤ a.length + b.length + 64 ∧ s9 = .bool x ∧ s10 = .bool y ∧ s11 = .int .i64 (m : Int) ∧ Tells x (AllLe f g a b m) ∧ Tells y (AnyCf f g a b m) ∧ Ft wr BF AF f cF ∧ Ft wr BG AG g cG ∧ Below w0.heap.size w0 wr

set_option maxRecDepth 100000 in
set_option maxHeartbeats 4000000 in
theorem things_farA (w0 : World) (F0 F1 : Nat → Prop) (v0 v1 : Value) (l0 l1 : List Cl) (h0 : ClRd w0 F0 v0 l0) (h1 : ClRd w0 F1 v1 l1) (_f0 : ∀ c ∈ l0, c.fits) (_f1 : ∀ c ∈ l1, c.fits) (hl0 : 40 < l0.length) :
    Calls Try.prog 5 #[v0, v1] w0 fun e w' => e = .returned (.bool true) ∧ Below w0.heap.size w0 w' := by
  obtain ⟨A0, c0, rfl, _, _⟩ := h0.slice
  obtain ⟨A1, c1, rfl, _, _⟩ := h1.slice
  have HL0 := Lib.hid h0
  have HL1 := Lib.hid h1
  clear h0 h1
  go_enter Try.func5, Try.ntmps5
  go_wp2_with fail
  refine (awake_ok _).mono ?_
  rintro e w1 ⟨rfl, hb1⟩
  have hbb1 := hb1
  have HB1 := Lib.hid hbb1
  clear hbb1 hb1
  go_wp2_with fail
  go_ret
  exact ⟨rfl, HB1.out⟩

set_option maxRecDepth 100000 in
set_option maxHeartbeats 4000000 in
theorem things_farB (w0 : World) (F0 F1 : Nat → Prop) (v0 v1 : Value) (l0 l1 : List Cl) (h0 : ClRd w0 F0 v0 l0) (h1 : ClRd w0 F1 v1 l1) (_f0 : ∀ c ∈ l0, c.fits) (_f1 : ∀ c ∈ l1, c.fits) (hl0 : l0.length ≤ 40) (hl1 : 40 < l1.length) :
    Calls Try.prog 5 #[v0, v1] w0 fun e w' => e = .returned (.bool true) ∧ Below w0.heap.size w0 w' := by
  obtain ⟨A0, c0, rfl, _, _⟩ := h0.slice
  obtain ⟨A1, c1, rfl, _, _⟩ := h1.slice
  have HL0 := Lib.hid h0
  have HL1 := Lib.hid h1
  clear h0 h1
  go_enter Try.func5, Try.ntmps5
  go_wp2_with fail
  refine (awake_ok _).mono ?_
  rintro e w1 ⟨rfl, hb1⟩
  have hbb1 := hb1
  have HB1 := Lib.hid hbb1
  clear hbb1 hb1
  go_wp2_with fail
  go_ret
  exact ⟨rfl, HB1.out⟩

set_option maxRecDepth 100000 in
set_option maxHeartbeats 4000000 in
theorem things_farC (w0 : World) (F0 F1 : Nat → Prop) (v0 v1 : Value) (l0 l1 : List Cl) (h0 : ClRd w0 F0 v0 l0) (h1 : ClRd w0 F1 v1 l1) (_f0 : ∀ c ∈ l0, c.fits) (_f1 : ∀ c ∈ l1, c.fits) (hl0 : l0.length ≤ 40) (hl1 : l1.length ≤ 40) (g0 : ¬ NearP l0) :
    Calls Try.prog 5 #[v0, v1] w0 fun e w' => e = .returned (.bool true) ∧ Below w0.heap.size w0 w' := by
  obtain ⟨A0, c0, rfl, _, _⟩ := h0.slice
  obtain ⟨A1, c1, rfl, _, _⟩ := h1.slice
  have HL0 := Lib.hid h0
  have HL1 := Lib.hid h1
  clear h0 h1
  have HW0 := Lib.hid g0
  clear g0
  go_enter Try.func5, Try.ntmps5
  go_wp2_with fail
  refine (near_ok _ F0 _ l0 HL0.out).mono ?_
  rintro e w1 ⟨r1, hr1, rfl, hb1⟩
  obtain rfl : r1 = false := Bool.eq_false_iff.2 (fun hh => (HW0.out) (hr1.1 hh))
  clear hr1
  have hbb1 := hb1
  have HB1 := Lib.hid hbb1
  clear hbb1 hb1
  go_wp2_with fail
  refine (awake_ok _).mono ?_
  rintro e w2 ⟨rfl, hb2⟩
  have hbb2 := hb2
  have HB2 := Lib.hid (HB1.out.trans (hbb2.mono HB1.out.size))
  clear HB1 hbb2 hb2
  go_wp2_with fail
  go_ret
  exact ⟨rfl, HB2.out⟩

set_option maxRecDepth 100000 in
set_option maxHeartbeats 4000000 in
theorem things_farD (w0 : World) (F0 F1 : Nat → Prop) (v0 v1 : Value) (l0 l1 : List Cl) (h0 : ClRd w0 F0 v0 l0) (h1 : ClRd w0 F1 v1 l1) (_f0 : ∀ c ∈ l0, c.fits) (_f1 : ∀ c ∈ l1, c.fits) (hl0 : l0.length ≤ 40) (hl1 : l1.length ≤ 40) (g0 : NearP l0) (g1 : ¬ NearP l1) :
    Calls Try.prog 5 #[v0, v1] w0 fun e w' => e = .returned (.bool true) ∧ Below w0.heap.size w0 w' := by
  obtain ⟨A0, c0, rfl, _, _⟩ := h0.slice
  obtain ⟨A1, c1, rfl, _, _⟩ := h1.slice
  have HL0 := Lib.hid h0
  have HL1 := Lib.hid h1
  clear h0 h1
  have HW0 := Lib.hid g0
  clear g0
  have HW1 := Lib.hid g1
  clear g1
  go_enter Try.func5, Try.ntmps5
  go_wp2_with fail
  refine (near_ok _ F0 _ l0 HL0.out).mono ?_
  rintro e w1 ⟨r1, hr1, rfl, hb1⟩
  obtain rfl : r1 = true := hr1.2 (HW0.out)
  clear hr1
  have hbb1 := hb1
  have HB1 := Lib.hid hbb1
  clear hbb1 hb1
  go_wp2_with fail
  refine (near_ok _ F1 _ l1 (RdK.below HL1.out HB1.out)).mono ?_
  rintro e w2 ⟨r2, hr2, rfl, hb2⟩
  obtain rfl : r2 = false := Bool.eq_false_iff.2 (fun hh => (HW1.out) (hr2.1 hh))
  clear hr2
  have hbb2 := hb2
  have HB2 := Lib.hid (HB1.out.trans (hbb2.mono HB1.out.size))
  clear HB1 hbb2 hb2
  go_wp2_with fail
  refine (awake_ok _).mono ?_
  rintro e w3 ⟨rfl, hb3⟩
  have hbb3 := hb3
  have HB3 := Lib.hid (HB2.out.trans (hbb3.mono HB2.out.size))
  clear HB2 hbb3 hb3
  go_wp2_with fail
  go_ret
  exact ⟨rfl, HB3.out⟩

set_option maxRecDepth 100000 in
set_option maxHeartbeats 4000000 in
theorem things_near (w0 : World) (F0 F1 : Nat → Prop) (v0 v1 : Value) (l0 l1 : List Cl) (h0 : ClRd w0 F0 v0 l0) (h1 : ClRd w0 F1 v1 l1) (f0 : ∀ c ∈ l0, c.fits) (f1 : ∀ c ∈ l1, c.fits) (hl0 : l0.length ≤ 40) (hl1 : l1.length ≤ 40) (g0 : NearP l0) (g1 : NearP l1) :
    Calls Try.prog 5 #[v0, v1] w0 fun e w' => e = .returned (.bool true) ∧ Below w0.heap.size w0 w' := by
  obtain ⟨A0, c0, rfl, _, _⟩ := h0.slice
  obtain ⟨A1, c1, rfl, _, _⟩ := h1.slice
  have HL0 := Lib.hid h0
  have HL1 := Lib.hid h1
  clear h0 h1
  have HW0 := Lib.hid g0
  clear g0
  have HW1 := Lib.hid g1
  clear g1
  go_enter Try.func5, Try.ntmps5
  go_wp2_with fail
  refine (near_ok _ F0 _ l0 HL0.out).mono ?_
  rintro e w1 ⟨r1, hr1, rfl, hb1⟩
  obtain rfl : r1 = true := hr1.2 (HW0.out)
  clear hr1
  have hbb1 := hb1
  have HB1 := Lib.hid hbb1
  clear hbb1 hb1
  go_wp2_with fail
  refine (near_ok _ F1 _ l1 (RdK.below HL1.out HB1.out)).mono ?_
  rintro e w2 ⟨r2, hr2, rfl, hb2⟩
  obtain rfl : r2 = true := hr2.2 (HW1.out)
  clear hr2
  have hbb2 := hb2
  have HB2 := Lib.hid (HB1.out.trans (hbb2.mono HB1.out.size))
  clear HB1 hbb2 hb2
  go_wp2_with fail
  refine (new_ok _ F0 _ l0 (RdK.below HL0.out HB2.out) (by omega) f0).mono ?_
  intro e w3 hnp
  obtain ⟨v3, n3, rfl, hnv⟩ := hnp.named
  have hb3 := hnv.1
  have HNV3 := Lib.hid hnv.cases
  clear hnv hnp
  have hbb3 := hb3
  have HB3 := Lib.hid (HB2.out.trans (hbb3.mono HB2.out.size))
  clear HB2 hbb3 hb3
  rcases HNV3.out with ⟨hn0, rfl⟩ | ⟨rfl, he0, outF, hf, h64F, AF, cF, rfl, hO⟩
  · clear HNV3
    have e1 : (n3 == 0) = false := by simpa using hn0
    have e2 : (n3 != 0) = true := by simpa using hn0
    clear hn0
    go_wp2_with fail
    refine (new_ok _ F1 _ l1 (RdK.below (RdK.below HL1.out HB3.out) (one_box _ _)) (by omega) f1).mono ?_
    intro e w4 hnp
    obtain ⟨v4, n4, rfl, hnv⟩ := hnp.named
    have hb4 := hnv.1
    obtain ⟨A4, m4, c4, rfl⟩ := hnv.slice
    clear hnv hnp
    have hbb4 := unbox hb4
    have HB4 := Lib.hid (HB3.out.trans (hbb4.mono HB3.out.size))
    clear HB3 hbb4 hb4
    go_wp2_with fail
    refine (awake_ok _).mono ?_
    rintro e w5 ⟨rfl, hb5⟩
    have hbb5 := unbox hb5
    have HB5 := Lib.hid (HB4.out.trans (hbb5.mono HB4.out.size))
    clear HB4 hbb5 hb5
    go_wp2_with fail
    go_ret
    exact ⟨rfl, HB5.out⟩
  · clear HNV3
    have hg0 : Good l0 := fun c hc => ⟨ok_of_errOf he0 c hc, f0 c hc⟩
    have HGF := Lib.hid (And.intro hf (And.intro hg0 (form_good hf hg0)))
    have RDF := Lib.hid (fresh_rd hO)
    clear hf hg0 he0 hO
    go_wp2_with fail
    refine (new_ok _ F1 _ l1 (RdK.below (RdK.below HL1.out HB3.out) (one_box _ _)) (by omega) f1).mono ?_
    intro e w4 hnp
    obtain ⟨v4, n4, rfl, hnv⟩ := hnp.named
    have hb4 := hnv.1
    have HNV4 := Lib.hid hnv.cases
    clear hnv hnp
    have hbb4 := unbox hb4
    have GF := Lib.hid (Ft.made (A := AF) (l := outF) (c := cF) hb4 RDF.out)
    have HB4 := Lib.hid (HB3.out.trans (hbb4.mono HB3.out.size))
    clear RDF HB3 hbb4 hb4
    have FF := GF
    have kF := FF.out.1
    have lF := FF.out.2.1
    clear GF
    rcases HNV4.out with ⟨hn0, rfl⟩ | ⟨rfl, he0, outG, hf, h64G, AG, cG, rfl, hO⟩
    · clear HNV4
      have e1 : (n4 == 0) = false := by simpa using hn0
      have e2 : (n4 != 0) = true := by simpa using hn0
      clear hn0
      go_wp2_with fail
      refine (awake_ok _).mono ?_
      rintro e w5 ⟨rfl, hb5⟩
      have hbb5 := unbox hb5
      have GF := Lib.hid (FF.out.below hbb5)
      have HB5 := Lib.hid (HB4.out.trans (hbb5.mono HB4.out.size))
      clear FF kF lF HB4 hbb5 hb5
      have FF := GF
      have kF := FF.out.1
      have lF := FF.out.2.1
      clear GF
      go_wp2_with fail
      go_ret
      exact ⟨rfl, HB5.out⟩
    · clear HNV4
      have hg0 : Good l1 := fun c hc => ⟨ok_of_errOf he0 c hc, f1 c hc⟩
      have HGG := Lib.hid (And.intro hf (And.intro hg0 (form_good hf hg0)))
      have RDG := Lib.hid (fresh_rd hO)
      clear hf hg0 he0 hO
      go_upto_region 7 with fail
      have hbb5 := one_box w4 (.cells #[.slice AG (outG).length cG] 30)
      have GG := Ft.box 30 (A := AG) (l := outG) (c := cG) RDG.out
      generalize w4.alloc (.cells #[.slice AG (outG).length cG] 30) = w5 at hbb5 GG ⊢
      have FG := Lib.hid GG
      have kG := FG.out.1
      have lG := FG.out.2.1
      clear GG RDG
      have GF := Lib.hid (FF.out.below hbb5)
      have HB5 := Lib.hid (HB4.out.trans (hbb5.mono HB4.out.size))
      clear FF kF lF HB4 hbb5
      have FF := GF
      have kF := FF.out.1
      have lF := FF.out.2.1
      clear GF
      go_wp2_with fail
      go_loopw [9, 10, 11] (fun s9 s10 s11 wr => ThR w0 l0 l1 outF outG w3.heap.size AF cF w4.heap.size AG cG s9 s10 s11 wr) (fun _ _ i _ => l0.length + l1.length + 64 - (intOf i).toNat)
      case atStart => exact ⟨0, true, false, by omega, rfl, rfl, rfl, .yes (allLe_zero _ _ _ _), .no (anyCf_zero _ _ _ _), FF.out, FG.out, HB5.out⟩
      case round =>
        obtain ⟨m, x, y, hm, rfl, rfl, rfl, hx, hy, hfF, hfG, hbl⟩ := hrel
        clear FF kF lF FG kG lG HB5
        obtain ⟨w6, rfl⟩ : ∃ w6 : World, w6 = wr := ⟨_, rfl⟩
        have HB6 := Lib.hid hbl
        have HXY := Lib.hid (And.intro hx hy)
        have FF := Lib.hid hfF
        have kF := FF.out.1
        have lF := FF.out.2.1
        have FG := Lib.hid hfG
        have kG := FG.out.1
        have lG := FG.out.2.1
        clear hfF hfG hbl hx hy
        by_cases hlt : m < l0.length + l1.length + 64
        · obtain ⟨⟨tc, tk, tn⟩, ht⟩ : ∃ t, thingAt l0 l1 m = t := ⟨_, rfl⟩
          have HT := Lib.hid ht
          clear ht
          have OF := FF
          have OG := FG
          have OB := HB6
          go_upto_region 13 with fail
          have hC0 := Bx.new w6 #[.bool false, .int .i64 (-1), .string ⟨#[]⟩, .int .i64 0, .int .i64 0] 28
          have hS0 : Since w6 (w6.alloc (.cells #[.bool false, .int .i64 (-1), .string ⟨#[]⟩, .int .i64 0, .int .i64 0] 28)) := one_box _ _
          generalize w6.alloc (.cells #[.bool false, .int .i64 (-1), .string ⟨#[]⟩, .int .i64 0, .int .i64 0] 28) = wa at hC0 hS0 ⊢
          obtain ⟨s13, hs13⟩ := bool_of (m < l0.length)
          go_cut [11, 68] from 54 to 177 (fun s11 s68 wx => s11 = .int .i64 (m : Int) ∧ s68 = .bool s13 ∧ Bx wx w6.heap.size #[.bool false, .int .i64 (-1), .string ⟨#[]⟩, .int .i64 0, .int .i64 0] 28 ∧ Since w6 wx)
          case first =>
            cases s13 with
            | true =>
              have q1 := hs13.pos
              clear hs13
              go_wp2_with fail
              go_meet
              exact ⟨rfl, (by first | rfl | simp | (simp; omega)), hC0, hS0⟩
            | false =>
              have q1 := hs13.neg
              clear hs13
              go_wp2_with fail
              go_meet
              exact ⟨rfl, (by first | rfl | simp | (simp; omega)), hC0, hS0⟩
          case rest =>
            obtain ⟨rfl, rfl, hC1, hS1⟩ := hcut
            clear hC0 hS0
            have hC0 := hC1
            have hS0 := hS1
            clear hC1 hS1
            have HS13 := Lib.hid hs13
            clear hs13
            obtain ⟨wa, rfl⟩ : ∃ wa : World, wa = wc := ⟨_, rfl⟩
            go_upto_if 68 with fail
            go_cut [11, 13] from 54 to 177 (fun s11 _ wx => s11 = .int .i64 (m : Int) ∧ Bx wx w6.heap.size #[.bool false, .int .i64 tc, .string ⟨tk.toArray⟩, .int .i64 tn, .int .i64 tn] 28 ∧ Since w6 wx)
            case first =>
              have HC := Lib.hid (And.intro hC0 hS0)
              obtain ⟨u0, u1, u2, u3, u4⟩ := hC0.cells5
              have ul := hC0.lt
              have uf0 := hC0.frozen (j := 0)
              have uf1 := hC0.frozen (j := 1)
              have uf2 := hC0.frozen (j := 2)
              have uf3 := hC0.frozen (j := 3)
              have uf4 := hC0.frozen (j := 4)
              clear hC0 hS0
              cases s13 with
              | true =>
                have q1 := HS13.out.pos
                obtain ⟨z, hz⟩ : ∃ z, l0[m]? = some z := ⟨_, List.getElem?_eq_getElem (by omega)⟩
                obtain ⟨b1, o1, rfl, hF1, d0, d1, d2, d3, d4⟩ := HL0.out.at_ hz
                have dl0 := World.block_lt_of_cell? w0 _ d2
                have hb0 : Below w0.heap.size w0 wa := OB.out.trans (Below.mono HC.out.2 OB.out.size)
                have d2' := (hb0.cell (p := ⟨b1, o1 + m * 5 + 2, none⟩) dl0).trans d2
                clear d0 d1 d2 d3 d4 hb0
                have ht := HT.out
                rw [thing_a hz] at ht
                injection ht with e1 e2
                injection e2 with e2 e3
                subst e1 e2 e3
                clear hz HT
                go_wp2_with fail
                go_meet
                exact ⟨rfl, by simpa using HC.out.1.set 2 (.string ⟨z.key.toArray⟩), HC.out.2.set (Nat.le_refl _) _ _⟩
              | false =>
                have q1 := HS13.out.neg
                by_cases q2 : m < l0.length + l1.length
                · obtain ⟨z, hz⟩ : ∃ z, l1[m - l0.length]? = some z := ⟨_, List.getElem?_eq_getElem (by omega)⟩
                  obtain ⟨b1, o1, rfl, hF1, d0, d1, d2, d3, d4⟩ := HL1.out.at_ hz
                  have dl0 := World.block_lt_of_cell? w0 _ d2
                  have hb0 : Below w0.heap.size w0 wa := OB.out.trans (Below.mono HC.out.2 OB.out.size)
                  have d2' := (hb0.cell (p := ⟨b1, o1 + (m - l0.length) * 5 + 2, none⟩) dl0).trans d2
                  clear d0 d1 d2 d3 d4 hb0
                  have ht := HT.out
                  rw [thing_b (by omega) hz] at ht
                  injection ht with e1 e2
                  injection e2 with e2 e3
                  subst e1 e2 e3
                  clear hz HT
                  have hsub : (m : Int) - (l0.length : Int) = ((m - l0.length : Nat) : Int) := by omega
                  have q0 : (0 : Int) ≤ ((m - l0.length : Nat) : Int) := by omega
                  have q1 : ((m - l0.length : Nat) : Int) < (l1.length : Int) := by omega
                  go_wp2_with fail
                  go_meet
                  exact ⟨rfl, by simpa using HC.out.1.set 2 (.string ⟨z.key.toArray⟩), HC.out.2.set (Nat.le_refl _) _ _⟩
                · have ht := HT.out
                  rw [thing_c (by omega)] at ht
                  injection ht with e1 e2
                  injection e2 with e2 e3
                  clear HT
                  obtain ⟨z, hz⟩ : ∃ z : Int, (m : Int) - (l0.length : Int) - (l1.length : Int) = z := ⟨_, rfl⟩
                  rw [hz] at e1 e3
                  have z0 : 0 ≤ z := by omega
                  have z1 : z < 64 := by omega
                  have zd : 0 ≤ z.tmod 16 ∧ z.tmod 16 < 16 := by rw [Int.tmod_eq_emod_of_nonneg z0]; omega
                  have zq : 0 ≤ z.tdiv 16 ∧ z.tdiv 16 < 4 := by rw [Int.tdiv_eq_ediv_of_nonneg z0]; omega
                  obtain ⟨za, hza⟩ : ∃ za, z.tdiv 16 = za := ⟨_, rfl⟩
                  obtain ⟨zb, hzb⟩ : ∃ zb, z.tmod 16 = zb := ⟨_, rfl⟩
                  rw [hza] at zq e1
                  rw [hzb] at zd e3
                  obtain ⟨zd0, zd1⟩ := zd
                  obtain ⟨zq0, zq1⟩ := zq
                  subst e1 e2 e3
                  go_wp2_with fail
                  go_meet
                  exact ⟨rfl, by simpa using ((((HC.out.1.set 0 (.bool false)).set 1 (.int .i64 za)).set 2 (.string ⟨#[]⟩)).set 3 (.int .i64 (zb - 3))).set 4 (.int .i64 (zb - 3)), (((((HC.out.2.set (Nat.le_refl _) _ _).set (Nat.le_refl _) _ _).set (Nat.le_refl _) _ _).set (Nat.le_refl _) _ _).set (Nat.le_refl _) _ _)⟩
            case rest =>
              obtain ⟨rfl, hC, hS⟩ := hcut
              clear hC0 hS0
              have hcb := hS
              unfold Since at hcb
              obtain ⟨w7, rfl⟩ : ∃ w7 : World, w7 = wc := ⟨_, rfl⟩
              have hbb7 := hcb
              have GF := Lib.hid (FF.out.below hbb7)
              have GG := Lib.hid (FG.out.below hbb7)
              have HB7 := Lib.hid (HB6.out.trans (hbb7.mono HB6.out.size))
              clear FF FG kF kG lF lG HB6 hbb7 hcb
              have FF := GF
              have kF := FF.out.1
              have lF := FF.out.2.1
              have FG := GG
              have kG := FG.out.1
              have lG := FG.out.2.1
              clear GF GG
              have XC := Lib.hid (hC)
              obtain ⟨y0, y1, y2, y3, y4⟩ := XC.out.cells5
              have yl := XC.out.lt
              have yf := XC.out.frozen (j := 0)
              have XS := Lib.hid (hS)
              clear hC hS
              obtain ⟨sk, hsk⟩ := bool_of (tc < 0 ∧ tk = [])
              have HSK := Lib.hid hsk
              clear hsk
              go_upto_region 19 with fail
              go_cut [11, 114] from 54 to 177 (fun s11 s114 wx => s11 = .int .i64 (m : Int) ∧ s114 = .bool sk ∧ Below w7.heap.size w7 wx)
              case first =>
                by_cases q1 : tc < 0
                · cases tk with
                  | nil =>
                    obtain rfl : sk = true := HSK.out.2 ⟨q1, rfl⟩
                    go_wp2_with fail
                    go_meet
                    exact ⟨rfl, rfl, Below.refl _ _⟩
                  | cons k1 k2 =>
                    obtain rfl : sk = false := Bool.eq_false_iff.2 (fun hh => by have := (HSK.out.1 hh).2; cases this)
                    go_wp2_with fail
                    go_meet
                    exact ⟨rfl, by simp, Below.refl _ _⟩
                · obtain rfl : sk = false := Bool.eq_false_iff.2 (fun hh => q1 (HSK.out.1 hh).1)
                  go_wp2_with fail
                  go_meet
                  exact ⟨rfl, by simp, Below.refl _ _⟩
              case rest =>
                obtain ⟨rfl, rfl, hcb⟩ := hcut
                obtain ⟨w8, rfl⟩ : ∃ w8 : World, w8 = wc := ⟨_, rfl⟩
                have hbb8 := hcb
                have GF := Lib.hid (FF.out.below hbb8)
                have GG := Lib.hid (FG.out.below hbb8)
                have HB8 := Lib.hid (HB7.out.trans (hbb8.mono HB7.out.size))
                have GXC := Lib.hid (XC.out.below hbb8)
                have GXS := Lib.hid (XS.out.below hbb8)
                clear XC y0 y1 y2 y3 y4 yl yf
                have XC := GXC
                clear GXC
                obtain ⟨y0, y1, y2, y3, y4⟩ := XC.out.cells5
                have yl := XC.out.lt
                have yf := XC.out.frozen (j := 0)
                clear XS
                have XS := GXS
                clear GXS
                clear FF FG kF kG lF lG HB7 hbb8 hcb
                have FF := GF
                have kF := FF.out.1
                have lF := FF.out.2.1
                have FG := GG
                have kG := FG.out.1
                have lG := FG.out.2.1
                clear GF GG
                cases sk with
                | true =>
                  go_wp2_with fail
                  go_roundw
                  case rel => exact ⟨m + 1, x, y, by omega, rfl, rfl, by go_num, skip_le HGF.out.2.2 HGG.out.2.2 HT.out HSK.out.pos HXY.out.1, skip_cf HGF.out.2.2 HT.out HSK.out.pos HXY.out.2, FF.out, FG.out, HB8.out⟩
                  case measure => simp [intOf]; omega
                | false =>
                  have HOK := Lib.hid (fun b => thing_ok HGF.out.2.1 HGG.out.2.1 hlt HT.out HSK.out.neg b)
                  go_wp2_with fail
                  refine (new_ok _ (fun _ => True) _ [(oneT false (tc, tk, tn))] (cl_of_block (heap_alloc_new _ _) rfl trivial (by simp [maxLen])) (by simp) (HOK.out false).fits).mono ?_
                  intro e w9 hnp
                  obtain ⟨v9, n9, rfl, hnv⟩ := hnp.named
                  have hb9 := unbox hnv.1
                  obtain ⟨rfl, AR, cR, rfl, hO⟩ := hnv.known (HOK.out false).ok (isForm_one ((HOK.out false).ok _ (by simp))) (by simp)
                  have RDR := Lib.hid (fresh_rd hO)
                  have hN : ClRd w9 (fun k => k ≠ w6.heap.size) (.slice AR [(oneT false (tc, tk, tn))].length cR) [(oneT false (tc, tk, tn))] := RdK.of_own hO (cl_len _) (by decide) (fun g hg => by have h1 := (hO.lt g hg).1; simp at h1; omega)
                  have HN := Lib.hid hN
                  clear hN
                  clear hO hnv hnp
                  have hbb9 := hb9
                  have GF := Lib.hid (FF.out.below hbb9)
                  have GG := Lib.hid (FG.out.below hbb9)
                  have HB9 := Lib.hid (HB8.out.trans (hbb9.mono HB8.out.size))
                  have GXC := Lib.hid (XC.out.below hbb9)
                  have GXS := Lib.hid (XS.out.below hbb9)
                  clear XC y0 y1 y2 y3 y4 yl yf
                  have XC := GXC
                  clear GXC
                  obtain ⟨y0, y1, y2, y3, y4⟩ := XC.out.cells5
                  have yl := XC.out.lt
                  have yf := XC.out.frozen (j := 0)
                  clear XS
                  have XS := GXS
                  clear GXS
                  clear FF FG kF kG lF lG HB8 hbb9 hb9
                  have FF := GF
                  have kF := FF.out.1
                  have lF := FF.out.2.1
                  have FG := GG
                  have kG := FG.out.1
                  have lG := FG.out.2.1
                  clear GF GG
                  have hRB := yl
                  go_upto_region 21 with fail
                  have hN := ClRd.below HN.out (one_box w9 (.cells #[.slice AR [oneT false (tc, tk, tn)].length cR] 30))
                  clear HN
                  have hbb10 := one_box w9 (.cells #[.slice AR ([(oneT false (tc, tk, tn))]).length cR] 30)
                  have GR := Ft.box 30 (A := AR) (l := [(oneT false (tc, tk, tn))]) (c := cR) RDR.out
                  generalize w9.alloc (.cells #[.slice AR ([(oneT false (tc, tk, tn))]).length cR] 30) = w10 at hN hbb10 GR ⊢
                  have FR := Lib.hid GR
                  have kR := FR.out.1
                  have lR := FR.out.2.1
                  clear GR RDR
                  have GF := Lib.hid (FF.out.below hbb10)
                  have GG := Lib.hid (FG.out.below hbb10)
                  have HB10 := Lib.hid (HB9.out.trans (hbb10.mono HB9.out.size))
                  have GXC := Lib.hid (XC.out.below hbb10)
                  have GXS := Lib.hid (XS.out.below hbb10)
                  clear XC y0 y1 y2 y3 y4 yl yf
                  have XC := GXC
                  clear GXC
                  obtain ⟨y0, y1, y2, y3, y4⟩ := XC.out.cells5
                  have yl := XC.out.lt
                  have yf := XC.out.frozen (j := 0)
                  clear XS
                  have XS := GXS
                  clear GXS
                  clear FF FG kF kG lF lG HB9 hbb10
                  have FF := GF
                  have kF := FF.out.1
                  have lF := FF.out.2.1
                  have FG := GG
                  have kG := FG.out.1
                  have lG := FG.out.2.1
                  clear GF GG
                  have HN := Lib.hid hN
                  clear hN
                  go_upto_region 22 with fail
                  have gC : Bx (w10.setCell ⟨w6.heap.size, 0, none⟩ (.bool true)) w6.heap.size #[.bool true, .int .i64 tc, .string ⟨tk.toArray⟩, .int .i64 tn, .int .i64 tn] 28 := by simpa using XC.out.set 0 (.bool true)
                  have gS := XS.out.set (Nat.le_refl _) 0 (.bool true)
                  have gR := FR.out.set (B := w6.heap.size) (by omega) HN.out 0 (.bool true)
                  generalize w10.setCell ⟨w6.heap.size, 0, none⟩ (.bool true) = w11 at gC gS gR ⊢
                  clear XC XS FF FG FR kF kG kR lF lG lR HB10 HN y0 y1 y2 y3 y4 yl yf
                  have FF := Lib.hid (OF.out.below gS)
                  have FG := Lib.hid (OG.out.below gS)
                  have FR := Lib.hid gR
                  have HB11 := Lib.hid (OB.out.trans (Below.mono gS OB.out.size))
                  have kF := FF.out.1
                  have lF := FF.out.2.1
                  have kG := FG.out.1
                  have lG := FG.out.2.1
                  have kR := FR.out.1
                  have lR := FR.out.2.1
                  have XC := Lib.hid (gC)
                  obtain ⟨y0, y1, y2, y3, y4⟩ := XC.out.cells5
                  have yl := XC.out.lt
                  have yf := XC.out.frozen (j := 0)
                  clear gC gS gR
                  go_wp2_with fail
                  refine (new_ok _ (fun _ => True) _ [(oneT true (tc, tk, tn))] (cl_of_block (heap_alloc_new _ _) rfl trivial (by simp [maxLen])) (by simp) (HOK.out true).fits).mono ?_
                  intro e w12 hnp
                  obtain ⟨v12, n12, rfl, hnv⟩ := hnp.named
                  have hb12 := unbox hnv.1
                  obtain ⟨rfl, AX, cX, rfl, hO⟩ := hnv.known (HOK.out true).ok (isForm_one ((HOK.out true).ok _ (by simp))) (by simp)
                  have RDX := Lib.hid (fresh_rd hO)
                  clear hO hnv hnp
                  have hbb12 := hb12
                  have GF := Lib.hid (FF.out.below hbb12)
                  have GG := Lib.hid (FG.out.below hbb12)
                  have GR := Lib.hid (FR.out.below hbb12)
                  have HB12 := Lib.hid (HB11.out.trans (hbb12.mono HB11.out.size))
                  have GXC := Lib.hid (XC.out.below hbb12)
                  clear XC y0 y1 y2 y3 y4 yl yf
                  have XC := GXC
                  clear GXC
                  obtain ⟨y0, y1, y2, y3, y4⟩ := XC.out.cells5
                  have yl := XC.out.lt
                  have yf := XC.out.frozen (j := 0)
                  clear FF FG FR kF kG kR lF lG lR HB11 hbb12 hb12
                  have FF := GF
                  have kF := FF.out.1
                  have lF := FF.out.2.1
                  have FG := GG
                  have kG := FG.out.1
                  have lG := FG.out.2.1
                  have FR := GR
                  have kR := FR.out.1
                  have lR := FR.out.2.1
                  clear GF GG GR
                  go_upto_region 25 with fail
                  have hbb13 := one_box w12 (.cells #[.slice AX ([(oneT true (tc, tk, tn))]).length cX] 30)
                  have GX := Ft.box 30 (A := AX) (l := [(oneT true (tc, tk, tn))]) (c := cX) RDX.out
                  generalize w12.alloc (.cells #[.slice AX ([(oneT true (tc, tk, tn))]).length cX] 30) = w13 at hbb13 GX ⊢
                  have FX := Lib.hid GX
                  have kX := FX.out.1
                  have lX := FX.out.2.1
                  clear GX RDX
                  have GF := Lib.hid (FF.out.below hbb13)
                  have GG := Lib.hid (FG.out.below hbb13)
                  have GR := Lib.hid (FR.out.below hbb13)
                  have HB13 := Lib.hid (HB12.out.trans (hbb13.mono HB12.out.size))
                  have GXC := Lib.hid (XC.out.below hbb13)
                  clear XC y0 y1 y2 y3 y4 yl yf
                  have XC := GXC
                  clear GXC
                  obtain ⟨y0, y1, y2, y3, y4⟩ := XC.out.cells5
                  have yl := XC.out.lt
                  have yf := XC.out.frozen (j := 0)
                  clear FF FG FR kF kG kR lF lG lR HB12 hbb13
                  have FF := GF
                  have kF := FF.out.1
                  have lF := FF.out.2.1
                  have FG := GG
                  have kG := FG.out.1
                  have lG := FG.out.2.1
                  have FR := GR
                  have kR := FR.out.1
                  have lR := FR.out.2.1
                  clear GF GG GR
                  clear XC y0 y1 y2 y3 y4 yl yf
                  obtain ⟨rf, wf, rg, wg, hTT⟩ := tellsT_is outF outG (tc, tk, tn)
                  have HTT := Lib.hid hTT
                  clear hTT
                  go_cut [9, 11] from 54 to 177 (fun s s11 wx => s11 = .int .i64 (m : Int) ∧ (∃ r, s = .bool r ∧ Tells r (AllLe outF outG l0 l1 (m + 1))) ∧ Below w13.heap.size w13 wx)
                  case first =>
                    have XZ := Lib.hid ((show Since w13 w13 from Below.refl _ _))
                    cases x with
                    | true =>
                      cases rf with
                      | true =>
                        go_wp2_with fail
                        refine (within_is (a := [oneT false (tc, tk, tn)]) (b := outF) true (HTT.out.1.congr (within_T false).symm) FR.out.2.2 FF.out.2.2 (by simp) (by omega) (HOK.out false) HGF.out.2.2).mono ?_
                        rintro e w14 ⟨rfl, hb14⟩
                        have hbb14 := hb14
                        have GF := Lib.hid (FF.out.below hbb14)
                        have GG := Lib.hid (FG.out.below hbb14)
                        have GR := Lib.hid (FR.out.below hbb14)
                        have GX := Lib.hid (FX.out.below hbb14)
                        have HB14 := Lib.hid (HB13.out.trans (hbb14.mono HB13.out.size))
                        have GXZ := Lib.hid (XZ.out.below hbb14)
                        clear XZ
                        have XZ := GXZ
                        clear GXZ
                        clear FF FG FR FX kF kG kR kX lF lG lR lX HB13 hbb14 hb14
                        have FF := GF
                        have kF := FF.out.1
                        have lF := FF.out.2.1
                        have FG := GG
                        have kG := FG.out.1
                        have lG := FG.out.2.1
                        have FR := GR
                        have kR := FR.out.1
                        have lR := FR.out.2.1
                        have FX := GX
                        have kX := FX.out.1
                        have lX := FX.out.2.1
                        clear GF GG GR GX
                        cases rg with
                        | true =>
                          go_wp2_with fail
                          refine (within_is (a := [oneT false (tc, tk, tn)]) (b := outG) true (HTT.out.2.2.1.congr (within_T false).symm) FR.out.2.2 FG.out.2.2 (by simp) (by omega) (HOK.out false) HGG.out.2.2).mono ?_
                          rintro e w15 ⟨rfl, hb15⟩
                          have hbb15 := hb15
                          have GF := Lib.hid (FF.out.below hbb15)
                          have GG := Lib.hid (FG.out.below hbb15)
                          have GR := Lib.hid (FR.out.below hbb15)
                          have GX := Lib.hid (FX.out.below hbb15)
                          have HB15 := Lib.hid (HB14.out.trans (hbb15.mono HB14.out.size))
                          have GXZ := Lib.hid (XZ.out.below hbb15)
                          clear XZ
                          have XZ := GXZ
                          clear GXZ
                          clear FF FG FR FX kF kG kR kX lF lG lR lX HB14 hbb15 hb15
                          have FF := GF
                          have kF := FF.out.1
                          have lF := FF.out.2.1
                          have FG := GG
                          have kG := FG.out.1
                          have lG := FG.out.2.1
                          have FR := GR
                          have kR := FR.out.1
                          have lR := FR.out.2.1
                          have FX := GX
                          have kX := FX.out.1
                          have lX := FX.out.2.1
                          clear GF GG GR GX
                          cases wf with
                          | true =>
                            go_wp2_with fail
                            refine (within_is (a := [oneT true (tc, tk, tn)]) (b := outF) true (HTT.out.2.1.congr (within_T true).symm) FX.out.2.2 FF.out.2.2 (by simp) (by omega) (HOK.out true) HGF.out.2.2).mono ?_
                            rintro e w16 ⟨rfl, hb16⟩
                            have hbb16 := hb16
                            have GF := Lib.hid (FF.out.below hbb16)
                            have GG := Lib.hid (FG.out.below hbb16)
                            have GR := Lib.hid (FR.out.below hbb16)
                            have GX := Lib.hid (FX.out.below hbb16)
                            have HB16 := Lib.hid (HB15.out.trans (hbb16.mono HB15.out.size))
                            have GXZ := Lib.hid (XZ.out.below hbb16)
                            clear XZ
                            have XZ := GXZ
                            clear GXZ
                            clear FF FG FR FX kF kG kR kX lF lG lR lX HB15 hbb16 hb16
                            have FF := GF
                            have kF := FF.out.1
                            have lF := FF.out.2.1
                            have FG := GG
                            have kG := FG.out.1
                            have lG := FG.out.2.1
                            have FR := GR
                            have kR := FR.out.1
                            have lR := FR.out.2.1
                            have FX := GX
                            have kX := FX.out.1
                            have lX := FX.out.2.1
                            clear GF GG GR GX
                            go_wp2_with fail
                            refine (within_is (a := [oneT true (tc, tk, tn)]) (b := outG) wg (HTT.out.2.2.2.congr (within_T true).symm) FX.out.2.2 FG.out.2.2 (by simp) (by omega) (HOK.out true) HGG.out.2.2).mono ?_
                            rintro e w17 ⟨rfl, hb17⟩
                            have hbb17 := hb17
                            have GF := Lib.hid (FF.out.below hbb17)
                            have GG := Lib.hid (FG.out.below hbb17)
                            have GR := Lib.hid (FR.out.below hbb17)
                            have GX := Lib.hid (FX.out.below hbb17)
                            have HB17 := Lib.hid (HB16.out.trans (hbb17.mono HB16.out.size))
                            have GXZ := Lib.hid (XZ.out.below hbb17)
                            clear XZ
                            have XZ := GXZ
                            clear GXZ
                            clear FF FG FR FX kF kG kR kX lF lG lR lX HB16 hbb17 hb17
                            have FF := GF
                            have kF := FF.out.1
                            have lF := FF.out.2.1
                            have FG := GG
                            have kG := FG.out.1
                            have lG := FG.out.2.1
                            have FR := GR
                            have kR := FR.out.1
                            have lR := FR.out.2.1
                            have FX := GX
                            have kX := FX.out.1
                            have lX := FX.out.2.1
                            clear GF GG GR GX
                            go_wp2_with fail
                            go_meet
                            exact ⟨rfl, ⟨_, rfl, by simpa using step_le HT.out HXY.out.1 HTT.out⟩, XZ.out⟩
                          | false =>
                            go_wp2_with fail
                            refine (within_is (a := [oneT true (tc, tk, tn)]) (b := outF) false (HTT.out.2.1.congr (within_T true).symm) FX.out.2.2 FF.out.2.2 (by simp) (by omega) (HOK.out true) HGF.out.2.2).mono ?_
                            rintro e w16 ⟨rfl, hb16⟩
                            have hbb16 := hb16
                            have GF := Lib.hid (FF.out.below hbb16)
                            have GG := Lib.hid (FG.out.below hbb16)
                            have GR := Lib.hid (FR.out.below hbb16)
                            have GX := Lib.hid (FX.out.below hbb16)
                            have HB16 := Lib.hid (HB15.out.trans (hbb16.mono HB15.out.size))
                            have GXZ := Lib.hid (XZ.out.below hbb16)
                            clear XZ
                            have XZ := GXZ
                            clear GXZ
                            clear FF FG FR FX kF kG kR kX lF lG lR lX HB15 hbb16 hb16
                            have FF := GF
                            have kF := FF.out.1
                            have lF := FF.out.2.1
                            have FG := GG
                            have kG := FG.out.1
                            have lG := FG.out.2.1
                            have FR := GR
                            have kR := FR.out.1
                            have lR := FR.out.2.1
                            have FX := GX
                            have kX := FX.out.1
                            have lX := FX.out.2.1
                            clear GF GG GR GX
                            go_wp2_with fail
                            go_meet
                            exact ⟨rfl, ⟨_, rfl, by simpa using step_le HT.out HXY.out.1 HTT.out⟩, XZ.out⟩
                        | false =>
                          go_wp2_with fail
                          refine (within_is (a := [oneT false (tc, tk, tn)]) (b := outG) false (HTT.out.2.2.1.congr (within_T false).symm) FR.out.2.2 FG.out.2.2 (by simp) (by omega) (HOK.out false) HGG.out.2.2).mono ?_
                          rintro e w15 ⟨rfl, hb15⟩
                          have hbb15 := hb15
                          have GF := Lib.hid (FF.out.below hbb15)
                          have GG := Lib.hid (FG.out.below hbb15)
                          have GR := Lib.hid (FR.out.below hbb15)
                          have GX := Lib.hid (FX.out.below hbb15)
                          have HB15 := Lib.hid (HB14.out.trans (hbb15.mono HB14.out.size))
                          have GXZ := Lib.hid (XZ.out.below hbb15)
                          clear XZ
                          have XZ := GXZ
                          clear GXZ
                          clear FF FG FR FX kF kG kR kX lF lG lR lX HB14 hbb15 hb15
                          have FF := GF
                          have kF := FF.out.1
                          have lF := FF.out.2.1
                          have FG := GG
                          have kG := FG.out.1
                          have lG := FG.out.2.1
                          have FR := GR
                          have kR := FR.out.1
                          have lR := FR.out.2.1
                          have FX := GX
                          have kX := FX.out.1
                          have lX := FX.out.2.1
                          clear GF GG GR GX
                          go_wp2_with fail
                          go_meet
                          exact ⟨rfl, ⟨_, rfl, by simpa using step_le HT.out HXY.out.1 HTT.out⟩, XZ.out⟩
                      | false =>
                        obtain rfl := HTT.out.rw
                        go_wp2_with fail
                        refine (within_is (a := [oneT false (tc, tk, tn)]) (b := outF) false (HTT.out.1.congr (within_T false).symm) FR.out.2.2 FF.out.2.2 (by simp) (by omega) (HOK.out false) HGF.out.2.2).mono ?_
                        rintro e w14 ⟨rfl, hb14⟩
                        have hbb14 := hb14
                        have GF := Lib.hid (FF.out.below hbb14)
                        have GG := Lib.hid (FG.out.below hbb14)
                        have GR := Lib.hid (FR.out.below hbb14)
                        have GX := Lib.hid (FX.out.below hbb14)
                        have HB14 := Lib.hid (HB13.out.trans (hbb14.mono HB13.out.size))
                        have GXZ := Lib.hid (XZ.out.below hbb14)
                        clear XZ
                        have XZ := GXZ
                        clear GXZ
                        clear FF FG FR FX kF kG kR kX lF lG lR lX HB13 hbb14 hb14
                        have FF := GF
                        have kF := FF.out.1
                        have lF := FF.out.2.1
                        have FG := GG
                        have kG := FG.out.1
                        have lG := FG.out.2.1
                        have FR := GR
                        have kR := FR.out.1
                        have lR := FR.out.2.1
                        have FX := GX
                        have kX := FX.out.1
                        have lX := FX.out.2.1
                        clear GF GG GR GX
                        go_wp2_with fail
                        refine (within_is (a := [oneT true (tc, tk, tn)]) (b := outF) false (HTT.out.2.1.congr (within_T true).symm) FX.out.2.2 FF.out.2.2 (by simp) (by omega) (HOK.out true) HGF.out.2.2).mono ?_
                        rintro e w15 ⟨rfl, hb15⟩
                        have hbb15 := hb15
                        have GF := Lib.hid (FF.out.below hbb15)
                        have GG := Lib.hid (FG.out.below hbb15)
                        have GR := Lib.hid (FR.out.below hbb15)
                        have GX := Lib.hid (FX.out.below hbb15)
                        have HB15 := Lib.hid (HB14.out.trans (hbb15.mono HB14.out.size))
                        have GXZ := Lib.hid (XZ.out.below hbb15)
                        clear XZ
                        have XZ := GXZ
                        clear GXZ
                        clear FF FG FR FX kF kG kR kX lF lG lR lX HB14 hbb15 hb15
                        have FF := GF
                        have kF := FF.out.1
                        have lF := FF.out.2.1
                        have FG := GG
                        have kG := FG.out.1
                        have lG := FG.out.2.1
                        have FR := GR
                        have kR := FR.out.1
                        have lR := FR.out.2.1
                        have FX := GX
                        have kX := FX.out.1
                        have lX := FX.out.2.1
                        clear GF GG GR GX
                        go_wp2_with fail
                        go_meet
                        exact ⟨rfl, ⟨_, rfl, by simpa using step_le HT.out HXY.out.1 HTT.out⟩, XZ.out⟩
                    | false =>
                      go_wp2_with fail
                      go_meet
                      exact ⟨rfl, ⟨_, rfl, by simpa using step_le HT.out HXY.out.1 HTT.out⟩, XZ.out⟩
                  case rest =>
                    obtain ⟨rfl, ⟨x2, rfl, hx2⟩, hcb⟩ := hcut
                    have Hx2 := Lib.hid hx2
                    clear hx2
                    obtain ⟨w14, rfl⟩ : ∃ w14 : World, w14 = wc := ⟨_, rfl⟩
                    have hbb14 := hcb
                    have GF := Lib.hid (FF.out.below hbb14)
                    have GG := Lib.hid (FG.out.below hbb14)
                    have GR := Lib.hid (FR.out.below hbb14)
                    have GX := Lib.hid (FX.out.below hbb14)
                    have HB14 := Lib.hid (HB13.out.trans (hbb14.mono HB13.out.size))
                    clear FF FG FR FX kF kG kR kX lF lG lR lX HB13 hbb14 hcb
                    have FF := GF
                    have kF := FF.out.1
                    have lF := FF.out.2.1
                    have FG := GG
                    have kG := FG.out.1
                    have lG := FG.out.2.1
                    have FR := GR
                    have kR := FR.out.1
                    have lR := FR.out.2.1
                    have FX := GX
                    have kX := FX.out.1
                    have lX := FX.out.2.1
                    clear GF GG GR GX
                    go_upto_region 26 with fail
                    cases y with
                    | true =>
                      go_wp2_with fail
                      go_roundw
                      case rel => exact ⟨m + 1, x2, _, by omega, rfl, rfl, by go_num, Hx2.out, by simpa using step_cf HT.out HXY.out.2 HTT.out, FF.out, FG.out, HB14.out⟩
                      case measure => simp [intOf]; omega
                    | false =>
                      cases wf with
                      | true =>
                        go_wp2_with fail
                        refine (within_is (a := [oneT true (tc, tk, tn)]) (b := outF) true (HTT.out.2.1.congr (within_T true).symm) FX.out.2.2 FF.out.2.2 (by simp) (by omega) (HOK.out true) HGF.out.2.2).mono ?_
                        rintro e w15 ⟨rfl, hb15⟩
                        have hbb15 := hb15
                        have GF := Lib.hid (FF.out.below hbb15)
                        have GG := Lib.hid (FG.out.below hbb15)
                        have GR := Lib.hid (FR.out.below hbb15)
                        have GX := Lib.hid (FX.out.below hbb15)
                        have HB15 := Lib.hid (HB14.out.trans (hbb15.mono HB14.out.size))
                        clear FF FG FR FX kF kG kR kX lF lG lR lX HB14 hbb15 hb15
                        have FF := GF
                        have kF := FF.out.1
                        have lF := FF.out.2.1
                        have FG := GG
                        have kG := FG.out.1
                        have lG := FG.out.2.1
                        have FR := GR
                        have kR := FR.out.1
                        have lR := FR.out.2.1
                        have FX := GX
                        have kX := FX.out.1
                        have lX := FX.out.2.1
                        clear GF GG GR GX
                        cases rg with
                        | true =>
                          go_wp2_with fail
                          refine (within_is (a := [oneT false (tc, tk, tn)]) (b := outG) true (HTT.out.2.2.1.congr (within_T false).symm) FR.out.2.2 FG.out.2.2 (by simp) (by omega) (HOK.out false) HGG.out.2.2).mono ?_
                          rintro e w16 ⟨rfl, hb16⟩
                          have hbb16 := hb16
                          have GF := Lib.hid (FF.out.below hbb16)
                          have GG := Lib.hid (FG.out.below hbb16)
                          have GR := Lib.hid (FR.out.below hbb16)
                          have GX := Lib.hid (FX.out.below hbb16)
                          have HB16 := Lib.hid (HB15.out.trans (hbb16.mono HB15.out.size))
                          clear FF FG FR FX kF kG kR kX lF lG lR lX HB15 hbb16 hb16
                          have FF := GF
                          have kF := FF.out.1
                          have lF := FF.out.2.1
                          have FG := GG
                          have kG := FG.out.1
                          have lG := FG.out.2.1
                          have FR := GR
                          have kR := FR.out.1
                          have lR := FR.out.2.1
                          have FX := GX
                          have kX := FX.out.1
                          have lX := FX.out.2.1
                          clear GF GG GR GX
                          go_wp2_with fail
                          go_roundw
                          case rel => exact ⟨m + 1, x2, _, by omega, rfl, rfl, by go_num, Hx2.out, by simpa using step_cf HT.out HXY.out.2 HTT.out, FF.out, FG.out, HB16.out⟩
                          case measure => simp [intOf]; omega
                        | false =>
                          obtain rfl := HTT.out.rwg
                          go_wp2_with fail
                          refine (within_is (a := [oneT false (tc, tk, tn)]) (b := outG) false (HTT.out.2.2.1.congr (within_T false).symm) FR.out.2.2 FG.out.2.2 (by simp) (by omega) (HOK.out false) HGG.out.2.2).mono ?_
                          rintro e w16 ⟨rfl, hb16⟩
                          have hbb16 := hb16
                          have GF := Lib.hid (FF.out.below hbb16)
                          have GG := Lib.hid (FG.out.below hbb16)
                          have GR := Lib.hid (FR.out.below hbb16)
                          have GX := Lib.hid (FX.out.below hbb16)
                          have HB16 := Lib.hid (HB15.out.trans (hbb16.mono HB15.out.size))
                          clear FF FG FR FX kF kG kR kX lF lG lR lX HB15 hbb16 hb16
                          have FF := GF
                          have kF := FF.out.1
                          have lF := FF.out.2.1
                          have FG := GG
                          have kG := FG.out.1
                          have lG := FG.out.2.1
                          have FR := GR
                          have kR := FR.out.1
                          have lR := FR.out.2.1
                          have FX := GX
                          have kX := FX.out.1
                          have lX := FX.out.2.1
                          clear GF GG GR GX
                          cases rf with
                          | true =>
                            go_wp2_with fail
                            refine (within_is (a := [oneT false (tc, tk, tn)]) (b := outF) true (HTT.out.1.congr (within_T false).symm) FR.out.2.2 FF.out.2.2 (by simp) (by omega) (HOK.out false) HGF.out.2.2).mono ?_
                            rintro e w17 ⟨rfl, hb17⟩
                            have hbb17 := hb17
                            have GF := Lib.hid (FF.out.below hbb17)
                            have GG := Lib.hid (FG.out.below hbb17)
                            have GR := Lib.hid (FR.out.below hbb17)
                            have GX := Lib.hid (FX.out.below hbb17)
                            have HB17 := Lib.hid (HB16.out.trans (hbb17.mono HB16.out.size))
                            clear FF FG FR FX kF kG kR kX lF lG lR lX HB16 hbb17 hb17
                            have FF := GF
                            have kF := FF.out.1
                            have lF := FF.out.2.1
                            have FG := GG
                            have kG := FG.out.1
                            have lG := FG.out.2.1
                            have FR := GR
                            have kR := FR.out.1
                            have lR := FR.out.2.1
                            have FX := GX
                            have kX := FX.out.1
                            have lX := FX.out.2.1
                            clear GF GG GR GX
                            go_wp2_with fail
                            refine (within_is (a := [oneT true (tc, tk, tn)]) (b := outG) false (HTT.out.2.2.2.congr (within_T true).symm) FX.out.2.2 FG.out.2.2 (by simp) (by omega) (HOK.out true) HGG.out.2.2).mono ?_
                            rintro e w18 ⟨rfl, hb18⟩
                            have hbb18 := hb18
                            have GF := Lib.hid (FF.out.below hbb18)
                            have GG := Lib.hid (FG.out.below hbb18)
                            have GR := Lib.hid (FR.out.below hbb18)
                            have GX := Lib.hid (FX.out.below hbb18)
                            have HB18 := Lib.hid (HB17.out.trans (hbb18.mono HB17.out.size))
                            clear FF FG FR FX kF kG kR kX lF lG lR lX HB17 hbb18 hb18
                            have FF := GF
                            have kF := FF.out.1
                            have lF := FF.out.2.1
                            have FG := GG
                            have kG := FG.out.1
                            have lG := FG.out.2.1
                            have FR := GR
                            have kR := FR.out.1
                            have lR := FR.out.2.1
                            have FX := GX
                            have kX := FX.out.1
                            have lX := FX.out.2.1
                            clear GF GG GR GX
                            go_wp2_with fail
                            go_roundw
                            case rel => exact ⟨m + 1, x2, _, by omega, rfl, rfl, by go_num, Hx2.out, by simpa using step_cf HT.out HXY.out.2 HTT.out, FF.out, FG.out, HB18.out⟩
                            case measure => simp [intOf]; omega
                          | false =>
                            go_wp2_with fail
                            refine (within_is (a := [oneT false (tc, tk, tn)]) (b := outF) false (HTT.out.1.congr (within_T false).symm) FR.out.2.2 FF.out.2.2 (by simp) (by omega) (HOK.out false) HGF.out.2.2).mono ?_
                            rintro e w17 ⟨rfl, hb17⟩
                            have hbb17 := hb17
                            have GF := Lib.hid (FF.out.below hbb17)
                            have GG := Lib.hid (FG.out.below hbb17)
                            have GR := Lib.hid (FR.out.below hbb17)
                            have GX := Lib.hid (FX.out.below hbb17)
                            have HB17 := Lib.hid (HB16.out.trans (hbb17.mono HB16.out.size))
                            clear FF FG FR FX kF kG kR kX lF lG lR lX HB16 hbb17 hb17
                            have FF := GF
                            have kF := FF.out.1
                            have lF := FF.out.2.1
                            have FG := GG
                            have kG := FG.out.1
                            have lG := FG.out.2.1
                            have FR := GR
                            have kR := FR.out.1
                            have lR := FR.out.2.1
                            have FX := GX
                            have kX := FX.out.1
                            have lX := FX.out.2.1
                            clear GF GG GR GX
                            go_wp2_with fail
                            go_roundw
                            case rel => exact ⟨m + 1, x2, _, by omega, rfl, rfl, by go_num, Hx2.out, by simpa using step_cf HT.out HXY.out.2 HTT.out, FF.out, FG.out, HB17.out⟩
                            case measure => simp [intOf]; omega
                      | false =>
                        go_wp2_with fail
                        refine (within_is (a := [oneT true (tc, tk, tn)]) (b := outF) false (HTT.out.2.1.congr (within_T true).symm) FX.out.2.2 FF.out.2.2 (by simp) (by omega) (HOK.out true) HGF.out.2.2).mono ?_
                        rintro e w15 ⟨rfl, hb15⟩
                        have hbb15 := hb15
                        have GF := Lib.hid (FF.out.below hbb15)
                        have GG := Lib.hid (FG.out.below hbb15)
                        have GR := Lib.hid (FR.out.below hbb15)
                        have GX := Lib.hid (FX.out.below hbb15)
                        have HB15 := Lib.hid (HB14.out.trans (hbb15.mono HB14.out.size))
                        clear FF FG FR FX kF kG kR kX lF lG lR lX HB14 hbb15 hb15
                        have FF := GF
                        have kF := FF.out.1
                        have lF := FF.out.2.1
                        have FG := GG
                        have kG := FG.out.1
                        have lG := FG.out.2.1
                        have FR := GR
                        have kR := FR.out.1
                        have lR := FR.out.2.1
                        have FX := GX
                        have kX := FX.out.1
                        have lX := FX.out.2.1
                        clear GF GG GR GX
                        cases rf with
                        | true =>
                          go_wp2_with fail
                          refine (within_is (a := [oneT false (tc, tk, tn)]) (b := outF) true (HTT.out.1.congr (within_T false).symm) FR.out.2.2 FF.out.2.2 (by simp) (by omega) (HOK.out false) HGF.out.2.2).mono ?_
                          rintro e w16 ⟨rfl, hb16⟩
                          have hbb16 := hb16
                          have GF := Lib.hid (FF.out.below hbb16)
                          have GG := Lib.hid (FG.out.below hbb16)
                          have GR := Lib.hid (FR.out.below hbb16)
                          have GX := Lib.hid (FX.out.below hbb16)
                          have HB16 := Lib.hid (HB15.out.trans (hbb16.mono HB15.out.size))
                          clear FF FG FR FX kF kG kR kX lF lG lR lX HB15 hbb16 hb16
                          have FF := GF
                          have kF := FF.out.1
                          have lF := FF.out.2.1
                          have FG := GG
                          have kG := FG.out.1
                          have lG := FG.out.2.1
                          have FR := GR
                          have kR := FR.out.1
                          have lR := FR.out.2.1
                          have FX := GX
                          have kX := FX.out.1
                          have lX := FX.out.2.1
                          clear GF GG GR GX
                          go_wp2_with fail
                          refine (within_is (a := [oneT true (tc, tk, tn)]) (b := outG) wg (HTT.out.2.2.2.congr (within_T true).symm) FX.out.2.2 FG.out.2.2 (by simp) (by omega) (HOK.out true) HGG.out.2.2).mono ?_
                          rintro e w17 ⟨rfl, hb17⟩
                          have hbb17 := hb17
                          have GF := Lib.hid (FF.out.below hbb17)
                          have GG := Lib.hid (FG.out.below hbb17)
                          have GR := Lib.hid (FR.out.below hbb17)
                          have GX := Lib.hid (FX.out.below hbb17)
                          have HB17 := Lib.hid (HB16.out.trans (hbb17.mono HB16.out.size))
                          clear FF FG FR FX kF kG kR kX lF lG lR lX HB16 hbb17 hb17
                          have FF := GF
                          have kF := FF.out.1
                          have lF := FF.out.2.1
                          have FG := GG
                          have kG := FG.out.1
                          have lG := FG.out.2.1
                          have FR := GR
                          have kR := FR.out.1
                          have lR := FR.out.2.1
                          have FX := GX
                          have kX := FX.out.1
                          have lX := FX.out.2.1
                          clear GF GG GR GX
                          go_wp2_with fail
                          go_roundw
                          case rel => exact ⟨m + 1, x2, _, by omega, rfl, rfl, by go_num, Hx2.out, by simpa using step_cf HT.out HXY.out.2 HTT.out, FF.out, FG.out, HB17.out⟩
                          case measure => simp [intOf]; omega
                        | false =>
                          go_wp2_with fail
                          refine (within_is (a := [oneT false (tc, tk, tn)]) (b := outF) false (HTT.out.1.congr (within_T false).symm) FR.out.2.2 FF.out.2.2 (by simp) (by omega) (HOK.out false) HGF.out.2.2).mono ?_
                          rintro e w16 ⟨rfl, hb16⟩
                          have hbb16 := hb16
                          have GF := Lib.hid (FF.out.below hbb16)
                          have GG := Lib.hid (FG.out.below hbb16)
                          have GR := Lib.hid (FR.out.below hbb16)
                          have GX := Lib.hid (FX.out.below hbb16)
                          have HB16 := Lib.hid (HB15.out.trans (hbb16.mono HB15.out.size))
                          clear FF FG FR FX kF kG kR kX lF lG lR lX HB15 hbb16 hb16
                          have FF := GF
                          have kF := FF.out.1
                          have lF := FF.out.2.1
                          have FG := GG
                          have kG := FG.out.1
                          have lG := FG.out.2.1
                          have FR := GR
                          have kR := FR.out.1
                          have lR := FR.out.2.1
                          have FX := GX
                          have kX := FX.out.1
                          have lX := FX.out.2.1
                          clear GF GG GR GX
                          go_wp2_with fail
                          go_roundw
                          case rel => exact ⟨m + 1, x2, _, by omega, rfl, rfl, by go_num, Hx2.out, by simpa using step_cf HT.out HXY.out.2 HTT.out, FF.out, FG.out, HB16.out⟩
                          case measure => simp [intOf]; omega
        · have hkl : m = l0.length + l1.length + 64 := by omega
          subst hkl
          have HE := Lib.hid (And.intro (HXY.out.1.congr (all_within HGF.out.1 HGF.out.2.1 HW0.out)) (HXY.out.2.congr (any_confl HGF.out.1 HGF.out.2.1 HW0.out HGF.out.2.2 HGG.out.2.2)))
          clear HXY
          go_wp2_with fail
          refine (within_is x HE.out.1 FF.out.2.2 FG.out.2.2 (by omega) (by omega) HGF.out.2.2 HGG.out.2.2).mono ?_
          rintro e w7 ⟨rfl, hb7⟩
          have hbb7 := hb7
          have GF := Lib.hid (FF.out.below hbb7)
          have GG := Lib.hid (FG.out.below hbb7)
          have HB7 := Lib.hid (HB6.out.trans (hbb7.mono HB6.out.size))
          clear FF FG kF kG lF lG HB6 hbb7 hb7
          have FF := GF
          have kF := FF.out.1
          have lF := FF.out.2.1
          have FG := GG
          have kG := FG.out.1
          have lG := FG.out.2.1
          clear GF GG
          go_wp2_with fail
          refine (conflict_is y HE.out.2 FF.out.2.2 FG.out.2.2 (by omega) (by omega)).mono ?_
          rintro e w8 ⟨rfl, hb8⟩
          have hbb8 := hb8
          have GF := Lib.hid (FF.out.below hbb8)
          have GG := Lib.hid (FG.out.below hbb8)
          have HB8 := Lib.hid (HB7.out.trans (hbb8.mono HB7.out.size))
          clear FF FG kF kG lF lG HB7 hbb8 hb8
          have FF := GF
          have kF := FF.out.1
          have lF := FF.out.2.1
          have FG := GG
          have kG := FG.out.1
          have lG := FG.out.2.1
          clear GF GG
          go_wp2_with fail
          refine (awake_ok _).mono ?_
          rintro e w9 ⟨rfl, hb9⟩
          have hbb9 := hb9
          have GF := Lib.hid (FF.out.below hbb9)
          have GG := Lib.hid (FG.out.below hbb9)
          have HB9 := Lib.hid (HB8.out.trans (hbb9.mono HB8.out.size))
          clear FF FG kF kG lF lG HB8 hbb9 hb9
          have FF := GF
          have kF := FF.out.1
          have lF := FF.out.2.1
          have FG := GG
          have kG := FG.out.1
          have lG := FG.out.2.1
          clear GF GG
          go_wp2_with fail
          go_ret
          exact ⟨rfl, HB9.out⟩

set_option maxRecDepth 100000 in
theorem footThings_lifted (os : Os) (started : os.Started) (H : Type) (enc : TypeId × Value → H) :
    ReturnsInHanded {} Try.checked os 5 .any (Rows.footThingsSpec.pre6 enc Try.prog Try.f5 Rows.footThingsRow.domain false) (Rows.footThingsSpec.post enc Try.prog Try.f5 false true false false) := by
  refine law_lifted os started H enc 5 Try.f5 Rows.footThingsSpec (by kernel_rfl) Try.func5 rfl (by kernel_rfl) ?_ ?_
    (ChangeSpec.witness6 (enc := enc) (C := Try.checked) false ⟨#[], #[.slice none 0 0, .slice none 0 0], []⟩ 8 (by kernel_rfl) (by kernel_rfl) (by kernel_rfl) (by kernel_rfl)) ?_
  · rw [Try.params5]
    intro t ht
    simp at ht
    subst ht
    exact ⟨by kernel_rfl, of_decide_eq_true (by kernel_rfl)⟩
  · intro ds hl
    rw [Try.params5] at hl
    match ds, hl with
    | [d1, d2], _ => exact ⟨rfl, rfl, rfl⟩
  · intro W base args ds p hval hA
    rw [Try.params5] at hA hval
    obtain ⟨v0, v1, d0, d1, p0, p1, hargs, rfl, rfl, h0, h1⟩ := trodAll_two hA
    subst hargs
    obtain ⟨l0, r0, f0⟩ := claims_of_trod (hval 0 22 v0 rfl rfl) h0
    obtain ⟨l1, r1, f1⟩ := claims_of_trod (hval 1 22 v1 rfl rfl) h1
    by_cases h0 : l0.length ≤ 40
    · by_cases h1 : l1.length ≤ 40
      · by_cases g0 : NearP l0
        · by_cases g1 : NearP l1
          · exact things_near W _ _ v0 v1 l0 l1 r0 r1 f0 f1 h0 h1 g0 g1
          · exact things_farD W _ _ v0 v1 l0 l1 r0 r1 f0 f1 h0 h1 g0 g1
        · exact things_farC W _ _ v0 v1 l0 l1 r0 r1 f0 f1 h0 h1 g0
      · exact things_farB W _ _ v0 v1 l0 l1 r0 r1 f0 f1 h0 (by omega)
    · exact things_farA W _ _ v0 v1 l0 l1 r0 r1 f0 f1 (by omega)

theorem footThings_holds : Rows.FootThingsSaid :=
  OpenClaim.holds_of_wide 5 Try.f5 rfl rfl rfl rfl rfl rfl rfl ⟨rfl, rfl, rfl, rfl, rfl⟩ rfl rfl rfl rfl rfl (by kernel_rfl) Try.func5 (by kernel_rfl)
    (of_decide_eq_true (by kernel_rfl)) (by unfold Func.isWrapper; rw [if_neg (of_decide_eq_false (by kernel_rfl))]; exact ⟨rfl, rfl⟩)
    (fun os started H enc _ => footThings_lifted os started H enc)

#print axioms footThings_holds

end Go.Proofs.Ytdmpdlpfanfjoaa
