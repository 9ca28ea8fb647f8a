/- Proved: FootParts returns true for every input: a claim of values that is parted, or told twice, in parts that overlap, is the same footprint; no condition. -/
import Derived.Test.YtdmpdlpfanfjoaaFootPartsP
namespace Go.Proofs.Ytdmpdlpfanfjoaa
open Go.ChangeShapes Go.WideShapes Go.ChangeAt Go.RowKit

set_option maxRecDepth 100000 in
set_option maxHeartbeats 4000000 in
theorem parts_farA (w0 : World) (F : Nat → Prop) (v : Value) (l : List Cl) (z : Int) (p q : Int) (h : ClRd w0 F v l) (_hfit : ∀ c ∈ l, c.fits) (hlen : 60 < l.length) :
    Calls Try.prog 4 #[v, .agg #[.int .i64 z, .int .i64 p, .int .i64 q]] w0 fun e w' => e = .returned (.bool true) ∧ Below w0.heap.size w0 w' := by
  obtain ⟨A, c, rfl, hnc, hcm⟩ := h.slice
  have HL := Lib.hid h
  clear h
  go_enter Try.func4, Try.ntmps4
  go_upto_region 2 with fail
  have hbb1 := one_box w0 (.cells #[.int .i64 z, .int .i64 p, .int .i64 q] 38)
  have hT := Bx.new w0 #[.int .i64 z, .int .i64 p, .int .i64 q] 38
  generalize w0.alloc (.cells #[.int .i64 z, .int .i64 p, .int .i64 q] 38) = w1 at hbb1 hT ⊢
  have HB1 := Lib.hid hbb1
  clear hbb1
  have XT := Lib.hid (hT)
  obtain ⟨kT0, kT1, kT2⟩ := XT.out.cells3
  have kTl := XT.out.lt
  clear hT
  go_wp2_with fail
  refine (awake_ok _).mono ?_
  rintro e w2 ⟨rfl, hb2⟩
  have hbb2 := hb2
  have HB2 := Lib.hid (HB1.out.trans (hbb2.mono HB1.out.size))
  have GXT := Lib.hid (XT.out.below hbb2)
  clear XT kT0 kT1 kT2 kTl
  have XT := GXT
  clear GXT
  obtain ⟨kT0, kT1, kT2⟩ := XT.out.cells3
  have kTl := XT.out.lt
  clear HB1 hbb2 hb2
  go_wp2_with fail
  go_ret
  exact ⟨rfl, HB2.out⟩

set_option maxRecDepth 100000 in
set_option maxHeartbeats 4000000 in
theorem parts_farB (w0 : World) (F : Nat → Prop) (v : Value) (l : List Cl) (z : Int) (p q : Int) (h : ClRd w0 F v l) (hfit : ∀ c ∈ l, c.fits) (hlen : l.length ≤ 60) (hfew : ¬ FewP l) :
    Calls Try.prog 4 #[v, .agg #[.int .i64 z, .int .i64 p, .int .i64 q]] w0 fun e w' => e = .returned (.bool true) ∧ Below w0.heap.size w0 w' := by
  obtain ⟨A, c, rfl, hnc, hcm⟩ := h.slice
  have HL := Lib.hid h
  clear h
  have HFW := Lib.hid hfew
  clear hfew
  go_enter Try.func4, Try.ntmps4
  go_upto_region 2 with fail
  have hbb1 := one_box w0 (.cells #[.int .i64 z, .int .i64 p, .int .i64 q] 38)
  have hT := Bx.new w0 #[.int .i64 z, .int .i64 p, .int .i64 q] 38
  generalize w0.alloc (.cells #[.int .i64 z, .int .i64 p, .int .i64 q] 38) = w1 at hbb1 hT ⊢
  have HB1 := Lib.hid hbb1
  clear hbb1
  have XT := Lib.hid (hT)
  obtain ⟨kT0, kT1, kT2⟩ := XT.out.cells3
  have kTl := XT.out.lt
  clear hT
  go_wp2_with fail
  refine (few_ok _ F _ l (RdK.below HL.out HB1.out) hfit).mono ?_
  rintro e w2 ⟨r2, hr2, rfl, hb2⟩
  obtain rfl : r2 = false := Bool.eq_false_iff.2 (fun hh => (HFW.out) (hr2.1 hh))
  clear hr2
  have hbb2 := hb2
  have HB2 := Lib.hid (HB1.out.trans (hbb2.mono HB1.out.size))
  have GXT := Lib.hid (XT.out.below hbb2)
  clear XT kT0 kT1 kT2 kTl
  have XT := GXT
  clear GXT
  obtain ⟨kT0, kT1, kT2⟩ := XT.out.cells3
  have kTl := XT.out.lt
  clear HB1 hbb2 hb2
  go_wp2_with fail
  refine (awake_ok _).mono ?_
  rintro e w3 ⟨rfl, hb3⟩
  have hbb3 := hb3
  have HB3 := Lib.hid (HB2.out.trans (hbb3.mono HB2.out.size))
  have GXT := Lib.hid (XT.out.below hbb3)
  clear XT kT0 kT1 kT2 kTl
  have XT := GXT
  clear GXT
  obtain ⟨kT0, kT1, kT2⟩ := XT.out.cells3
  have kTl := XT.out.lt
  clear HB2 hbb3 hb3
  go_wp2_with fail
  go_ret
  exact ⟨rfl, HB3.out⟩

set_option maxRecDepth 100000 in
set_option maxHeartbeats 4000000 in
theorem parts_farC (w0 : World) (F : Nat → Prop) (v : Value) (l : List Cl) (z : Int) (p q : Int) (h : ClRd w0 F v l) (hfit : ∀ c ∈ l, c.fits) (hlen : l.length ≤ 60) (hfew : FewP l) (h0 : z < 0) :
    Calls Try.prog 4 #[v, .agg #[.int .i64 z, .int .i64 p, .int .i64 q]] w0 fun e w' => e = .returned (.bool true) ∧ Below w0.heap.size w0 w' := by
  obtain ⟨A, c, rfl, hnc, hcm⟩ := h.slice
  have HL := Lib.hid h
  clear h
  have HFW := Lib.hid hfew
  clear hfew
  have hl100 : l.length ≤ 100 := HFW.out.1
  go_enter Try.func4, Try.ntmps4
  go_upto_region 2 with fail
  have hbb1 := one_box w0 (.cells #[.int .i64 z, .int .i64 p, .int .i64 q] 38)
  have hT := Bx.new w0 #[.int .i64 z, .int .i64 p, .int .i64 q] 38
  generalize w0.alloc (.cells #[.int .i64 z, .int .i64 p, .int .i64 q] 38) = w1 at hbb1 hT ⊢
  have HB1 := Lib.hid hbb1
  clear hbb1
  have XT := Lib.hid (hT)
  obtain ⟨kT0, kT1, kT2⟩ := XT.out.cells3
  have kTl := XT.out.lt
  clear hT
  go_wp2_with fail
  refine (few_ok _ F _ l (RdK.below HL.out HB1.out) hfit).mono ?_
  rintro e w2 ⟨r2, hr2, rfl, hb2⟩
  obtain rfl : r2 = true := hr2.2 (HFW.out)
  clear hr2
  have hbb2 := hb2
  have HB2 := Lib.hid (HB1.out.trans (hbb2.mono HB1.out.size))
  have GXT := Lib.hid (XT.out.below hbb2)
  clear XT kT0 kT1 kT2 kTl
  have XT := GXT
  clear GXT
  obtain ⟨kT0, kT1, kT2⟩ := XT.out.cells3
  have kTl := XT.out.lt
  clear HB1 hbb2 hb2
  go_wp2_with fail
  refine (awake_ok _).mono ?_
  rintro e w3 ⟨rfl, hb3⟩
  have hbb3 := hb3
  have HB3 := Lib.hid (HB2.out.trans (hbb3.mono HB2.out.size))
  have GXT := Lib.hid (XT.out.below hbb3)
  clear XT kT0 kT1 kT2 kTl
  have XT := GXT
  clear GXT
  obtain ⟨kT0, kT1, kT2⟩ := XT.out.cells3
  have kTl := XT.out.lt
  clear HB2 hbb3 hb3
  go_wp2_with fail
  go_ret
  exact ⟨rfl, HB3.out⟩

set_option maxRecDepth 100000 in
set_option maxHeartbeats 4000000 in
theorem parts_farD (w0 : World) (F : Nat → Prop) (v : Value) (l : List Cl) (z : Int) (p q : Int) (h : ClRd w0 F v l) (hfit : ∀ c ∈ l, c.fits) (hlen : l.length ≤ 60) (hfew : FewP l) (h0 : 0 ≤ z) (h1 : (l.length : Int) ≤ z) :
    Calls Try.prog 4 #[v, .agg #[.int .i64 z, .int .i64 p, .int .i64 q]] w0 fun e w' => e = .returned (.bool true) ∧ Below w0.heap.size w0 w' := by
  obtain ⟨A, c, rfl, hnc, hcm⟩ := h.slice
  have HL := Lib.hid h
  clear h
  have HFW := Lib.hid hfew
  clear hfew
  have hl100 : l.length ≤ 100 := HFW.out.1
  go_enter Try.func4, Try.ntmps4
  go_upto_region 2 with fail
  have hbb1 := one_box w0 (.cells #[.int .i64 z, .int .i64 p, .int .i64 q] 38)
  have hT := Bx.new w0 #[.int .i64 z, .int .i64 p, .int .i64 q] 38
  generalize w0.alloc (.cells #[.int .i64 z, .int .i64 p, .int .i64 q] 38) = w1 at hbb1 hT ⊢
  have HB1 := Lib.hid hbb1
  clear hbb1
  have XT := Lib.hid (hT)
  obtain ⟨kT0, kT1, kT2⟩ := XT.out.cells3
  have kTl := XT.out.lt
  clear hT
  go_wp2_with fail
  refine (few_ok _ F _ l (RdK.below HL.out HB1.out) hfit).mono ?_
  rintro e w2 ⟨r2, hr2, rfl, hb2⟩
  obtain rfl : r2 = true := hr2.2 (HFW.out)
  clear hr2
  have hbb2 := hb2
  have HB2 := Lib.hid (HB1.out.trans (hbb2.mono HB1.out.size))
  have GXT := Lib.hid (XT.out.below hbb2)
  clear XT kT0 kT1 kT2 kTl
  have XT := GXT
  clear GXT
  obtain ⟨kT0, kT1, kT2⟩ := XT.out.cells3
  have kTl := XT.out.lt
  clear HB1 hbb2 hb2
  go_wp2_with fail
  refine (awake_ok _).mono ?_
  rintro e w3 ⟨rfl, hb3⟩
  have hbb3 := hb3
  have HB3 := Lib.hid (HB2.out.trans (hbb3.mono HB2.out.size))
  have GXT := Lib.hid (XT.out.below hbb3)
  clear XT kT0 kT1 kT2 kTl
  have XT := GXT
  clear GXT
  obtain ⟨kT0, kT1, kT2⟩ := XT.out.cells3
  have kTl := XT.out.lt
  clear HB2 hbb3 hb3
  go_wp2_with fail
  go_ret
  exact ⟨rfl, HB3.out⟩

set_option maxRecDepth 100000 in
set_option maxHeartbeats 4000000 in
theorem parts_farE (w0 : World) (F : Nat → Prop) (v : Value) (l : List Cl) (z : Int) (p q : Int) (h : ClRd w0 F v l) (hfit : ∀ c ∈ l, c.fits) (hlen : l.length ≤ 60) (hfew : FewP l) (h0 : 0 ≤ z) (h1 : z < (l.length : Int)) (h2 : q < 0) :
    Calls Try.prog 4 #[v, .agg #[.int .i64 z, .int .i64 p, .int .i64 q]] w0 fun e w' => e = .returned (.bool true) ∧ Below w0.heap.size w0 w' := by
  obtain ⟨A, c, rfl, hnc, hcm⟩ := h.slice
  have HL := Lib.hid h
  clear h
  have HFW := Lib.hid hfew
  clear hfew
  have hl100 : l.length ≤ 100 := HFW.out.1
  go_enter Try.func4, Try.ntmps4
  go_upto_region 2 with fail
  have hbb1 := one_box w0 (.cells #[.int .i64 z, .int .i64 p, .int .i64 q] 38)
  have hT := Bx.new w0 #[.int .i64 z, .int .i64 p, .int .i64 q] 38
  generalize w0.alloc (.cells #[.int .i64 z, .int .i64 p, .int .i64 q] 38) = w1 at hbb1 hT ⊢
  have HB1 := Lib.hid hbb1
  clear hbb1
  have XT := Lib.hid (hT)
  obtain ⟨kT0, kT1, kT2⟩ := XT.out.cells3
  have kTl := XT.out.lt
  clear hT
  go_wp2_with fail
  refine (few_ok _ F _ l (RdK.below HL.out HB1.out) hfit).mono ?_
  rintro e w2 ⟨r2, hr2, rfl, hb2⟩
  obtain rfl : r2 = true := hr2.2 (HFW.out)
  clear hr2
  have hbb2 := hb2
  have HB2 := Lib.hid (HB1.out.trans (hbb2.mono HB1.out.size))
  have GXT := Lib.hid (XT.out.below hbb2)
  clear XT kT0 kT1 kT2 kTl
  have XT := GXT
  clear GXT
  obtain ⟨kT0, kT1, kT2⟩ := XT.out.cells3
  have kTl := XT.out.lt
  clear HB1 hbb2 hb2
  go_wp2_with fail
  refine (awake_ok _).mono ?_
  rintro e w3 ⟨rfl, hb3⟩
  have hbb3 := hb3
  have HB3 := Lib.hid (HB2.out.trans (hbb3.mono HB2.out.size))
  have GXT := Lib.hid (XT.out.below hbb3)
  clear XT kT0 kT1 kT2 kTl
  have XT := GXT
  clear GXT
  obtain ⟨kT0, kT1, kT2⟩ := XT.out.cells3
  have kTl := XT.out.lt
  clear HB2 hbb3 hb3
  go_wp2_with fail
  go_ret
  exact ⟨rfl, HB3.out⟩

set_option maxRecDepth 100000 in
set_option maxHeartbeats 4000000 in
theorem parts_farF (w0 : World) (F : Nat → Prop) (v : Value) (l : List Cl) (z : Int) (p q : Int) (h : ClRd w0 F v l) (hfit : ∀ c ∈ l, c.fits) (hlen : l.length ≤ 60) (hfew : FewP l) (h0 : 0 ≤ z) (h1 : z < (l.length : Int)) (h2 : 0 ≤ q) (h3 : 20 < q) :
    Calls Try.prog 4 #[v, .agg #[.int .i64 z, .int .i64 p, .int .i64 q]] w0 fun e w' => e = .returned (.bool true) ∧ Below w0.heap.size w0 w' := by
  obtain ⟨A, c, rfl, hnc, hcm⟩ := h.slice
  have HL := Lib.hid h
  clear h
  have HFW := Lib.hid hfew
  clear hfew
  have hl100 : l.length ≤ 100 := HFW.out.1
  go_enter Try.func4, Try.ntmps4
  go_upto_region 2 with fail
  have hbb1 := one_box w0 (.cells #[.int .i64 z, .int .i64 p, .int .i64 q] 38)
  have hT := Bx.new w0 #[.int .i64 z, .int .i64 p, .int .i64 q] 38
  generalize w0.alloc (.cells #[.int .i64 z, .int .i64 p, .int .i64 q] 38) = w1 at hbb1 hT ⊢
  have HB1 := Lib.hid hbb1
  clear hbb1
  have XT := Lib.hid (hT)
  obtain ⟨kT0, kT1, kT2⟩ := XT.out.cells3
  have kTl := XT.out.lt
  clear hT
  go_wp2_with fail
  refine (few_ok _ F _ l (RdK.below HL.out HB1.out) hfit).mono ?_
  rintro e w2 ⟨r2, hr2, rfl, hb2⟩
  obtain rfl : r2 = true := hr2.2 (HFW.out)
  clear hr2
  have hbb2 := hb2
  have HB2 := Lib.hid (HB1.out.trans (hbb2.mono HB1.out.size))
  have GXT := Lib.hid (XT.out.below hbb2)
  clear XT kT0 kT1 kT2 kTl
  have XT := GXT
  clear GXT
  obtain ⟨kT0, kT1, kT2⟩ := XT.out.cells3
  have kTl := XT.out.lt
  clear HB1 hbb2 hb2
  go_wp2_with fail
  refine (awake_ok _).mono ?_
  rintro e w3 ⟨rfl, hb3⟩
  have hbb3 := hb3
  have HB3 := Lib.hid (HB2.out.trans (hbb3.mono HB2.out.size))
  have GXT := Lib.hid (XT.out.below hbb3)
  clear XT kT0 kT1 kT2 kTl
  have XT := GXT
  clear GXT
  obtain ⟨kT0, kT1, kT2⟩ := XT.out.cells3
  have kTl := XT.out.lt
  clear HB2 hbb3 hb3
  go_wp2_with fail
  go_ret
  exact ⟨rfl, HB3.out⟩

set_option maxRecDepth 100000 in
set_option maxHeartbeats 4000000 in
theorem parts_near (w0 : World) (F : Nat → Prop) (v : Value) (l : List Cl) (k : Nat) (p q : Int) (h : ClRd w0 F v l) (hfit : ∀ c ∈ l, c.fits) (hfew : FewP l) (hlen : l.length ≤ 60) (hk : k < l.length) (hp : I64 p) (hq0 : 0 ≤ q) (hq1 : q ≤ 20) :
    Calls Try.prog 4 #[v, .agg #[.int .i64 (k : Int), .int .i64 p, .int .i64 q]] w0 fun e w' => e = .returned (.bool true) ∧ Below w0.heap.size w0 w' := by
  obtain ⟨i2, hi2, hy0, hy1, hy2⟩ := info_parts Try.info28
  obtain ⟨A, c, rfl, hnc, hcm⟩ := h.slice
  obtain ⟨x, hx⟩ : ∃ x, l[k]? = some x := ⟨_, List.getElem?_eq_getElem hk⟩
  obtain ⟨b1, o1, rfl, hF1, d0, d1, d2, d3, d4⟩ := h.at_ hx
  have hxl := List.mem_of_getElem? hx
  have hxf := hfit x hxl
  obtain ⟨_, hlo, hhi, _⟩ := hxf
  unfold I64 at hlo hhi hp
  obtain ⟨hlo1, hlo2⟩ := hlo
  obtain ⟨hhi1, hhi2⟩ := hhi
  obtain ⟨hp1, hp2⟩ := hp
  have k0 : (0 : Int) ≤ (k : Int) := by omega
  have k1 : (k : Int) < (l.length : Int) := by omega
  have hD : CellsAt w0 b1 (o1 + k * 5) x := ⟨World.block_lt_of_cell? w0 _ d0, d0, d1, d2, d3, d4⟩
  clear d0 d1 d2 d3 d4
  have XD := Lib.hid (hD)
  obtain ⟨dl, d0, d1, d2, d3, d4⟩ := XD.out
  clear hD
  have HL := Lib.hid h
  have HFW := Lib.hid hfew
  have HHI2 := Lib.hid hi2
  have HX := Lib.hid hx
  clear h hfew hi2 hx
  go_enter Try.func4, Try.ntmps4
  go_upto_region 2 with fail
  have hbb1 := one_box w0 (.cells #[.int .i64 (k : Int), .int .i64 p, .int .i64 q] 38)
  have hT := Bx.new w0 #[.int .i64 (k : Int), .int .i64 p, .int .i64 q] 38
  generalize w0.alloc (.cells #[.int .i64 (k : Int), .int .i64 p, .int .i64 q] 38) = w1 at hbb1 hT ⊢
  have GXD := Lib.hid (XD.out.below hbb1)
  clear XD dl d0 d1 d2 d3 d4
  have XD := GXD
  clear GXD
  obtain ⟨dl, d0, d1, d2, d3, d4⟩ := XD.out
  have HB1 := Lib.hid hbb1
  clear hbb1
  have XT := Lib.hid (hT)
  obtain ⟨kT0, kT1, kT2⟩ := XT.out.cells3
  have kTl := XT.out.lt
  clear hT
  go_wp2_with fail
  refine (few_ok _ F _ l (RdK.below HL.out HB1.out) hfit).mono ?_
  rintro e w2 ⟨r2, hr2, rfl, hb2⟩
  obtain rfl : r2 = true := hr2.2 (HFW.out)
  clear hr2
  have hbb2 := hb2
  have HB2 := Lib.hid (HB1.out.trans (hbb2.mono HB1.out.size))
  have GXD := Lib.hid (XD.out.below hbb2)
  have GXT := Lib.hid (XT.out.below hbb2)
  clear XD dl d0 d1 d2 d3 d4
  have XD := GXD
  clear GXD
  obtain ⟨dl, d0, d1, d2, d3, d4⟩ := XD.out
  clear XT kT0 kT1 kT2 kTl
  have XT := GXT
  clear GXT
  obtain ⟨kT0, kT1, kT2⟩ := XT.out.cells3
  have kTl := XT.out.lt
  clear HB1 hbb2 hb2
  go_wp2_with fail
  refine (new_ok _ F _ l (RdK.below HL.out HB2.out) (by omega) hfit).mono ?_
  intro e w3 hnp
  obtain ⟨v3, n3, rfl, hnv⟩ := hnp.named
  have hb3 := hnv.1
  have HNV3 := Lib.hid hnv.cases
  clear hnv hnp
  have hbb3 := hb3
  have HB3 := Lib.hid (HB2.out.trans (hbb3.mono HB2.out.size))
  have GXD := Lib.hid (XD.out.below hbb3)
  have GXT := Lib.hid (XT.out.below hbb3)
  clear XD dl d0 d1 d2 d3 d4
  have XD := GXD
  clear GXD
  obtain ⟨dl, d0, d1, d2, d3, d4⟩ := XD.out
  clear XT kT0 kT1 kT2 kTl
  have XT := GXT
  clear GXT
  obtain ⟨kT0, kT1, kT2⟩ := XT.out.cells3
  have kTl := XT.out.lt
  clear HB2 hbb3 hb3
  rcases HNV3.out with ⟨hn0, rfl⟩ | ⟨rfl, he0, outF, hf, h64F, AF, cF, rfl, hO⟩
  · clear HNV3
    have e1 : (n3 == 0) = false := by simpa using hn0
    have e2 : (n3 != 0) = true := by simpa using hn0
    clear hn0
    go_wp2_with fail
    refine (awake_ok _).mono ?_
    rintro e w4 ⟨rfl, hb4⟩
    have hu4 := unbox (unbox hb4)
    clear hb4
    have hbb4 := hu4
    have HB4 := Lib.hid (HB3.out.trans (hbb4.mono HB3.out.size))
    have GXD := Lib.hid (XD.out.below hbb4)
    have GXT := Lib.hid (XT.out.below hbb4)
    clear XD dl d0 d1 d2 d3 d4
    have XD := GXD
    clear GXD
    obtain ⟨dl, d0, d1, d2, d3, d4⟩ := XD.out
    clear XT kT0 kT1 kT2 kTl
    have XT := GXT
    clear GXT
    obtain ⟨kT0, kT1, kT2⟩ := XT.out.cells3
    have kTl := XT.out.lt
    clear HB3 hbb4 hu4
    go_wp2_with fail
    go_ret
    exact ⟨rfl, HB4.out⟩
  · clear HNV3
    have hg0 : Good l := fun c hc => ⟨ok_of_errOf he0 c hc, hfit c hc⟩
    have HGF := Lib.hid (And.intro hf (And.intro hg0 (form_good hf hg0)))
    have RDF := Lib.hid (fresh_rd hO)
    clear hf hg0 he0 hO
    go_upto_region 5 with fail
    have hbb4 := one_box w3 (.cells #[.slice AF (outF).length cF] 30)
    have GF := Ft.box 30 (A := AF) (l := outF) (c := cF) RDF.out
    generalize w3.alloc (.cells #[.slice AF (outF).length cF] 30) = w4 at hbb4 GF ⊢
    have FF := Lib.hid GF
    have kF := FF.out.1
    have lF := FF.out.2.1
    clear GF RDF
    have HB4 := Lib.hid (HB3.out.trans (hbb4.mono HB3.out.size))
    have GXD := Lib.hid (XD.out.below hbb4)
    have GXT := Lib.hid (XT.out.below hbb4)
    clear XD dl d0 d1 d2 d3 d4
    have XD := GXD
    clear GXD
    obtain ⟨dl, d0, d1, d2, d3, d4⟩ := XD.out
    clear XT kT0 kT1 kT2 kTl
    have XT := GXT
    clear GXT
    obtain ⟨kT0, kT1, kT2⟩ := XT.out.cells3
    have kTl := XT.out.lt
    clear HB3 hbb4
    by_cases hc1 : x.col < 0
    · go_wp2_with fail
      refine (awake_ok _).mono ?_
      rintro e w5 ⟨rfl, hb5⟩
      have hu5 := unbox hb5
      clear hb5
      have hbb5 := hu5
      have GF := Lib.hid (FF.out.below hbb5)
      have HB5 := Lib.hid (HB4.out.trans (hbb5.mono HB4.out.size))
      have GXD := Lib.hid (XD.out.below hbb5)
      have GXT := Lib.hid (XT.out.below hbb5)
      clear XD dl d0 d1 d2 d3 d4
      have XD := GXD
      clear GXD
      obtain ⟨dl, d0, d1, d2, d3, d4⟩ := XD.out
      clear XT kT0 kT1 kT2 kTl
      have XT := GXT
      clear GXT
      obtain ⟨kT0, kT1, kT2⟩ := XT.out.cells3
      have kTl := XT.out.lt
      clear FF kF lF HB4 hbb5 hu5
      have FF := GF
      have kF := FF.out.1
      have lF := FF.out.2.1
      clear GF
      go_wp2_with fail
      go_ret
      exact ⟨rfl, HB5.out⟩
    · have hc1n : 0 ≤ x.col := by omega
      by_cases hc2 : p < x.lo
      · go_wp2_with fail
        refine (awake_ok _).mono ?_
        rintro e w5 ⟨rfl, hb5⟩
        have hu5 := unbox hb5
        clear hb5
        have hbb5 := hu5
        have GF := Lib.hid (FF.out.below hbb5)
        have HB5 := Lib.hid (HB4.out.trans (hbb5.mono HB4.out.size))
        have GXD := Lib.hid (XD.out.below hbb5)
        have GXT := Lib.hid (XT.out.below hbb5)
        clear XD dl d0 d1 d2 d3 d4
        have XD := GXD
        clear GXD
        obtain ⟨dl, d0, d1, d2, d3, d4⟩ := XD.out
        clear XT kT0 kT1 kT2 kTl
        have XT := GXT
        clear GXT
        obtain ⟨kT0, kT1, kT2⟩ := XT.out.cells3
        have kTl := XT.out.lt
        clear FF kF lF HB4 hbb5 hu5
        have FF := GF
        have kF := FF.out.1
        have lF := FF.out.2.1
        clear GF
        go_wp2_with fail
        go_ret
        exact ⟨rfl, HB5.out⟩
      · have hc2n : x.lo ≤ p := by omega
        by_cases hc3 : x.hi ≤ p
        · go_wp2_with fail
          refine (awake_ok _).mono ?_
          rintro e w5 ⟨rfl, hb5⟩
          have hu5 := unbox hb5
          clear hb5
          have hbb5 := hu5
          have GF := Lib.hid (FF.out.below hbb5)
          have HB5 := Lib.hid (HB4.out.trans (hbb5.mono HB4.out.size))
          have GXD := Lib.hid (XD.out.below hbb5)
          have GXT := Lib.hid (XT.out.below hbb5)
          clear XD dl d0 d1 d2 d3 d4
          have XD := GXD
          clear GXD
          obtain ⟨dl, d0, d1, d2, d3, d4⟩ := XD.out
          clear XT kT0 kT1 kT2 kTl
          have XT := GXT
          clear GXT
          obtain ⟨kT0, kT1, kT2⟩ := XT.out.cells3
          have kTl := XT.out.lt
          clear FF kF lF HB4 hbb5 hu5
          have FF := GF
          have kF := FF.out.1
          have lF := FF.out.2.1
          clear GF
          go_wp2_with fail
          go_ret
          exact ⟨rfl, HB5.out⟩
        · have hc3n : p < x.hi := by omega
          go_upto_region 10 with fail
          have hP := parts_start w4 x
          generalize (((w4.alloc (.cells #[.bool x.wr, .int .i64 x.col, .string ⟨x.key.toArray⟩, .int .i64 x.lo, .int .i64 x.hi] 28)).alloc (.cells #[.bool x.wr, .int .i64 x.col, .string ⟨x.key.toArray⟩, .int .i64 x.lo, .int .i64 x.hi] 28)).alloc (.cells #[.bool x.wr, .int .i64 x.col, .string ⟨x.key.toArray⟩, .int .i64 x.lo, .int .i64 x.hi] 28)) = wz at hP ⊢
          obtain ⟨u0, u1, u2, u3, u4⟩ := hP.1.cells5
          obtain ⟨v0, v1, v2, v3, v4⟩ := hP.2.1.cells5
          obtain ⟨z0, z1, z2, z3, z4⟩ := hP.2.2.1.cells5
          have vl := hP.2.1.lt
          have vf := hP.2.1.frozen (j := 4)
          have zl := hP.2.2.1.lt
          have zf := hP.2.2.1.frozen (j := 3)
          have XTr := XT.out.below hP.2.2.2
          obtain ⟨s0, s1, s2⟩ := XTr.cells3
          have sl := XTr.lt
          clear XTr
          go_upto_region 11 with fail
          have hP := hP.first (z := p)
          clear u0 u1 u2 u3 u4 v0 v1 v2 v3 v4 z0 z1 z2 z3 z4 zl zf vl vf s0 s1 s2 sl
          generalize wz.setCell ⟨w4.heap.size + 1, 4, none⟩ (.int .i64 p) = wy at hP ⊢
          obtain ⟨u0, u1, u2, u3, u4⟩ := hP.1.cells5
          obtain ⟨v0, v1, v2, v3, v4⟩ := hP.2.1.cells5
          obtain ⟨z0, z1, z2, z3, z4⟩ := hP.2.2.1.cells5
          have vl := hP.2.1.lt
          have vf := hP.2.1.frozen (j := 4)
          have zl := hP.2.2.1.lt
          have zf := hP.2.2.1.frozen (j := 3)
          have XTr := XT.out.below hP.2.2.2
          obtain ⟨s0, s1, s2⟩ := XTr.cells3
          have sl := XTr.lt
          clear XTr
          go_upto_region 12 with fail
          have hP := hP.next (z := p + 1)
          clear u0 u1 u2 u3 u4 v0 v1 v2 v3 v4 z0 z1 z2 z3 z4 zl zf vl vf s0 s1 s2 sl
          generalize wy.setCell ⟨w4.heap.size + 1 + 1, 3, none⟩ (.int .i64 (p + 1)) = wx at hP ⊢
          have HPx := Lib.hid hP
          clear hP
          go_wp2_with fail
          go_loopw [11] (fun i wr => ∃ (m : Nat) (y : Int), (m : Int) ≤ q ∧ i = .int .i64 (m : Int) ∧ x.lo ≤ y ∧ y ≤ p + 1 ∧ PartsR w4 x p y wr) (fun i _ => q.toNat - (intOf i).toNat)
          case atStart => exact ⟨0, p + 1, by omega, rfl, by omega, by omega, HPx.out⟩
          case round =>
            obtain ⟨m, y, hm, rfl, hyl, hyh, hP⟩ := hrel
            obtain ⟨u0, u1, u2, u3, u4⟩ := hP.1.cells5
            obtain ⟨v0, v1, v2, v3, v4⟩ := hP.2.1.cells5
            obtain ⟨z0, z1, z2, z3, z4⟩ := hP.2.2.1.cells5
            have vl := hP.2.1.lt
            have vf := hP.2.1.frozen (j := 4)
            have zl := hP.2.2.1.lt
            have zf := hP.2.2.1.frozen (j := 3)
            have XTr := XT.out.below hP.2.2.2
            obtain ⟨s0, s1, s2⟩ := XTr.cells3
            have sl := XTr.lt
            clear XTr
            have HP := Lib.hid hP
            clear hP
            by_cases hgo : (m : Int) < q ∧ x.lo < y
            · obtain ⟨hgo1, hgo2⟩ := hgo
              go_wp2_with fail
              go_roundw
              case rel => exact ⟨m + 1, y - 1, by omega, by go_num, by omega, by omega, HP.out.next⟩
              case measure => simp [intOf]; omega
            · by_cases hg1 : (m : Int) < q
              · have hg2 : ¬ x.lo < y := fun h => hgo ⟨hg1, h⟩
                clear hgo
                go_upto_region 16 with fail
                clear HPx
                clear u0 u1 u2 u3 u4 v0 v1 v2 v3 v4 z0 z1 z2 z3 z4 zl zf vl vf s0 s1 s2 sl
                have hbl := HP.out.2.2.2
                obtain ⟨w5, rfl⟩ : ∃ w5 : World, w5 = wr := ⟨_, rfl⟩
                have hbb5 := hbl
                have GF := Lib.hid (FF.out.below hbb5)
                have HB5 := Lib.hid (HB4.out.trans (hbb5.mono HB4.out.size))
                have GXD := Lib.hid (XD.out.below hbb5)
                have GXT := Lib.hid (XT.out.below hbb5)
                clear XD dl d0 d1 d2 d3 d4
                have XD := GXD
                clear GXD
                obtain ⟨dl, d0, d1, d2, d3, d4⟩ := XD.out
                clear XT kT0 kT1 kT2 kTl
                have XT := GXT
                clear GXT
                obtain ⟨kT0, kT1, kT2⟩ := XT.out.cells3
                have kTl := XT.out.lt
                clear FF kF lF HB4 hbb5 hbl
                have FF := GF
                have kF := FF.out.1
                have lF := FF.out.2.1
                clear GF
                have HGM := Lib.hid (And.intro (parts_good HX.out HGF.out.2.1 hc1n hyl hyh hc3n hc2n) (And.intro (HGF.out.1.congr (parts_lev HX.out hyl hyh (by omega))) (parts_len HX.out (x := p) (y := y))))
                by_cases hcap : c = k + 1
                · subst hcap
                  have hkl : k + 1 = l.length := by omega
                  have HCAP := Lib.hid hkl
                  clear hkl
                  have HLz := Lib.hid ((RdK.below HL.out HB5.out))
                  go_upto_region 18 with (at_builtin; go_loud (refine wpList_append_rdk _ rfl _ _ 22 rfl w5.heap.size 28 i2 _ 5 48 Try.underlying22 HHI2.out hy0 hy1 hy2 rfl (by decide) (.slice none 0 0) 0 [] rfl (World.ownsRow_nil _ _ _ _) F (.slice (some ⟨b1, o1, none⟩) k (k + 1)) ((l.take k).map Cl.cells) rfl (by have := clrd_take HLz.out (n := k) (by omega); exact this) (cl_len _) (cl_one _) (by rw [List.length_map, List.length_take]; omega) (by rw [List.length_map, List.length_take]; unfold maxLen; omega) (Nat.le_refl _) ?_); intro v5 mw5 hO5 hg5 hat5; rw [List.length_map, List.length_take, Nat.min_eq_left (by omega : k ≤ l.length), Nat.zero_add, List.nil_append] at hO5; obtain ⟨A5, c5, rfl⟩ := ownsRow_slice hO5; have hb5 : Below w5.heap.size w5 mw5 := (Below.refl _ _).grown hg5 (Nat.le_refl _) (fun j hj => (by cases hj)); have hsz5 : w5.heap.size ≤ mw5.heap.size := hb5.size; have hO5a := hO5.alloc (.cells #[.bool x.wr, .int .i64 x.col, .string ⟨x.key.toArray⟩, .int .i64 y, .int .i64 x.hi] 28); have hnews := World.news_of_block (heap_alloc_new mw5 (.cells #[.bool x.wr, .int .i64 x.col, .string ⟨x.key.toArray⟩, .int .i64 y, .int .i64 x.hi] 28)); obtain ⟨z0, z1, z2, z3, z4⟩ := (HP.out.2.2.1.below hb5).cells5; have zl := (HP.out.2.2.1.below hb5).lt; have H5 := Lib.hid (And.intro hO5 (And.intro hb5 (And.intro hO5a hnews))); clear hO5 hg5 hat5 hb5 hO5a hnews)
                  go_upto_region 19 with (at_builtin; go_loud (refine wpList_append_lies _ rfl _ _ 22 rfl w5.heap.size 28 i2 _ 5 48 Try.underlying22 HHI2.out hy0 hy1 hy2 rfl (by decide) (.slice A5 k c5) k _ rfl H5.out.2.2.1 ⟨mw5.heap.size, 0, none⟩ 1 1 [.bool x.wr, .int .i64 x.col, .string ⟨x.key.toArray⟩, .int .i64 y, .int .i64 x.hi] rfl rfl H5.out.2.2.2 (by simp [Value.oneCell']) (by decide) (by unfold maxLen; omega) (by omega) (by simp; omega) _ rfl ?_); intro g6 c6 mw6 hO6 hg6 hat6 hlt6; have hb6 : Below w5.heap.size w5 mw6 := (H5.out.2.1.alloc hsz5 _).grown hg6 (by simp; omega) (fun j hj => (H5.out.1.lt j hj).1); have hsz6 : w5.heap.size ≤ mw6.heap.size := hb6.size; have H6 := Lib.hid (And.intro hO6 hb6); clear hO6 hg6 hat6 hlt6 hb6 z0 z1 z2 z3 z4 zl)
                  go_upto_region 20 with (at_builtin; go_loud (refine wpList_append_rdk _ rfl _ _ 22 rfl w5.heap.size 28 i2 _ 5 48 Try.underlying22 HHI2.out hy0 hy1 hy2 rfl (by decide) (.slice (some ⟨g6, 0, none⟩) (k + 1) c6) (k + 1) _ rfl H6.out.1 F (.slice (some ⟨b1, o1, none⟩) 0 0) ((l.drop (k + 1)).map Cl.cells) rfl (by have hks : l.drop (k + 1) = [] := List.drop_eq_nil_of_le (by have := HCAP.out; omega); rw [hks]; exact clrd_none) (cl_len _) (cl_one _) (by rw [List.length_map, List.length_drop]; omega) (by rw [List.length_map, List.length_drop]; unfold maxLen; omega) hsz6 ?_); intro v7 mw7 hO7 hg7 hat7; rw [List.length_map, List.length_drop, show k + 1 + (l.length - (k + 1)) = l.length by omega] at hO7; obtain ⟨A7, c7, rfl⟩ := ownsRow_slice hO7; have hb7 : Below w5.heap.size w5 mw7 := H6.out.2.grown hg7 hsz6 (fun j hj => (H6.out.1.lt j hj).1); have hsz7 : w5.heap.size ≤ mw7.heap.size := hb7.size; have hO7a := hO7.alloc (.cells #[.bool x.wr, .int .i64 x.col, .string ⟨x.key.toArray⟩, .int .i64 x.lo, .int .i64 p] 28); have hnews := World.news_of_block (heap_alloc_new mw7 (.cells #[.bool x.wr, .int .i64 x.col, .string ⟨x.key.toArray⟩, .int .i64 x.lo, .int .i64 p] 28)); obtain ⟨z0, z1, z2, z3, z4⟩ := (HP.out.2.1.below hb7).cells5; have zl := (HP.out.2.1.below hb7).lt; have H7 := Lib.hid (And.intro hO7 (And.intro hb7 (And.intro hO7a hnews))); clear hO7 hg7 hat7 hb7 hO7a hnews)
                  go_upto_region 21 with (at_builtin; go_loud (refine wpList_append_lies _ rfl _ _ 22 rfl w5.heap.size 28 i2 _ 5 48 Try.underlying22 HHI2.out hy0 hy1 hy2 rfl (by decide) (.slice A7 l.length c7) l.length _ rfl H7.out.2.2.1 ⟨mw7.heap.size, 0, none⟩ 1 1 [.bool x.wr, .int .i64 x.col, .string ⟨x.key.toArray⟩, .int .i64 x.lo, .int .i64 p] rfl rfl H7.out.2.2.2 (by simp [Value.oneCell']) (by decide) (by unfold maxLen; omega) (by omega) (by simp; omega) _ rfl ?_); intro g8 c8 mw8 hO8 hg8 hat8 hlt8; have hb8 : Below w5.heap.size w5 mw8 := (H7.out.2.1.alloc hsz7 _).grown hg8 (by simp; omega) (fun j hj => (H7.out.1.lt j hj).1); have hO9 : mw8.ownsRow w5.heap.size 28 5 (.slice (some ⟨g8, 0, none⟩) (partsL l k x p y).length c8) (partsL l k x p y).length ((partsL l k x p y).map Cl.cells).flatten := (by rw [HGM.out.2.2]; simpa [partsL, Cl.cells] using hO8); have hr8 := fresh_rd hO9; rw [HGM.out.2.2] at hr8; have R8 := Lib.hid hr8; clear hO8 hg8 hat8 hlt8 hO9 hr8 H5 H6 H7 z0 z1 z2 z3 z4 zl)
                  clear HLz HP
                  obtain ⟨w6, rfl⟩ : ∃ w6 : World, w6 = mw8 := ⟨_, rfl⟩
                  have hbb6 := hb8
                  have GF := Lib.hid (FF.out.below hbb6)
                  have HB6 := Lib.hid (HB5.out.trans (hbb6.mono HB5.out.size))
                  have GXD := Lib.hid (XD.out.below hbb6)
                  have GXT := Lib.hid (XT.out.below hbb6)
                  clear XD dl d0 d1 d2 d3 d4
                  have XD := GXD
                  clear GXD
                  obtain ⟨dl, d0, d1, d2, d3, d4⟩ := XD.out
                  clear XT kT0 kT1 kT2 kTl
                  have XT := GXT
                  clear GXT
                  obtain ⟨kT0, kT1, kT2⟩ := XT.out.cells3
                  have kTl := XT.out.lt
                  clear FF kF lF HB5 hbb6 hb8
                  have FF := GF
                  have kF := FF.out.1
                  have lF := FF.out.2.1
                  clear GF
                  go_wp2_with fail
                  refine (new_ok _ (fun _ => True) _ (partsL l k x p y) R8.out (by rw [HGM.out.2.2]; omega) HGM.out.1.fits).mono ?_
                  intro e w7 hnp
                  obtain ⟨v7, n7, rfl, hnv⟩ := hnp.named
                  have hb7 := hnv.1
                  obtain ⟨rfl, AG, cG, rfl, hO⟩ := hnv.known (HGM.out.1.ok) (HGM.out.2.1) (h64F)
                  have RDG := Lib.hid (fresh_rd hO)
                  clear hO hnv hnp
                  have hbb7 := hb7
                  have GF := Lib.hid (FF.out.below hbb7)
                  have HB7 := Lib.hid (HB6.out.trans (hbb7.mono HB6.out.size))
                  have GXD := Lib.hid (XD.out.below hbb7)
                  have GXT := Lib.hid (XT.out.below hbb7)
                  clear XD dl d0 d1 d2 d3 d4
                  have XD := GXD
                  clear GXD
                  obtain ⟨dl, d0, d1, d2, d3, d4⟩ := XD.out
                  clear XT kT0 kT1 kT2 kTl
                  have XT := GXT
                  clear GXT
                  obtain ⟨kT0, kT1, kT2⟩ := XT.out.cells3
                  have kTl := XT.out.lt
                  clear FF kF lF HB6 hbb7 hb7
                  have FF := GF
                  have kF := FF.out.1
                  have lF := FF.out.2.1
                  clear GF
                  clear R8
                  go_upto_region 22 with fail
                  have hbb8 := one_box w7 (.cells #[.slice AG (outF).length cG] 30)
                  have GG := Ft.box 30 (A := AG) (l := outF) (c := cG) RDG.out
                  generalize w7.alloc (.cells #[.slice AG (outF).length cG] 30) = w8 at hbb8 GG ⊢
                  have FG := Lib.hid GG
                  have kG := FG.out.1
                  have lG := FG.out.2.1
                  clear GG RDG
                  have GF := Lib.hid (FF.out.below hbb8)
                  have HB8 := Lib.hid (HB7.out.trans (hbb8.mono HB7.out.size))
                  have GXD := Lib.hid (XD.out.below hbb8)
                  have GXT := Lib.hid (XT.out.below hbb8)
                  clear XD dl d0 d1 d2 d3 d4
                  have XD := GXD
                  clear GXD
                  obtain ⟨dl, d0, d1, d2, d3, d4⟩ := XD.out
                  clear XT kT0 kT1 kT2 kTl
                  have XT := GXT
                  clear GXT
                  obtain ⟨kT0, kT1, kT2⟩ := XT.out.cells3
                  have kTl := XT.out.lt
                  clear FF kF lF HB7 hbb8
                  have FF := GF
                  have kF := FF.out.1
                  have lF := FF.out.2.1
                  clear GF
                  have rrF := FF.out.2.2
                  have rrG := FG.out.2.2
                  refine wp_region_held_drew (S := (fun w' => Below w8.heap.size w8 w' ∧ w'.cell? ⟨w3.heap.size, 0, none⟩ = some (.slice AF (outF).length cF) ∧ w'.cell? ⟨w7.heap.size, 0, none⟩ = some (.slice AG (outF).length cG))) (by kernel_rfl) ⟨(Below.refl _ _).drew, kF, kG⟩ (fun hHeld => ?_)
                  refine take_lit (i := 0) (v := ?_) rfl (by kernel_rfl) (by kernel_rfl) (by kernel_rfl) (fun _ _ _ h => h) (by rfl) (fun w hSw => ?_) hHeld ?_
                  rotate_left
                  · obtain ⟨s0, s1, s2⟩ := hSw; go_simp; try with_reducible rfl
                  try simp only [Act.put, List.setIfInBounds_toArray, List.set_cons_zero, List.set_cons_succ]
                  refine take_lit (i := 1) (v := ?_) rfl (by kernel_rfl) (by kernel_rfl) (by kernel_rfl) (fun _ _ _ h => h) (by rfl) (fun w hSw => ?_) hHeld ?_
                  rotate_left
                  · obtain ⟨s0, s1, s2⟩ := hSw; go_simp; try with_reducible rfl
                  try simp only [Act.put, List.setIfInBounds_toArray, List.set_cons_zero, List.set_cons_succ]
                  refine take_lit (i := 2) (v := ?_) rfl (by kernel_rfl) (by kernel_rfl) (by kernel_rfl) (fun _ _ _ h => h) (by rfl) (fun w hSw => ?_) hHeld ?_
                  rotate_left
                  · obtain ⟨s0, s1, s2⟩ := hSw; go_simp; try with_reducible rfl
                  try simp only [Act.put, List.setIfInBounds_toArray, List.set_cons_zero, List.set_cons_succ]
                  refine take_lit (i := 3) (v := ?_) rfl (by kernel_rfl) (by kernel_rfl) (by kernel_rfl) (fun _ _ _ h => h) (by rfl) (fun w hSw => ?_) hHeld ?_
                  rotate_left
                  · obtain ⟨s0, s1, s2⟩ := hSw; go_simp; try with_reducible rfl
                  try simp only [Act.put, List.setIfInBounds_toArray, List.set_cons_zero, List.set_cons_succ]
                  refine take_lit (i := 4) (v := ?_) rfl (by kernel_rfl) (by kernel_rfl) (by kernel_rfl) (fun _ _ _ h => h) (by rfl) (fun w hSw => ?_) hHeld ?_
                  rotate_left
                  · obtain ⟨s0, s1, s2⟩ := hSw; go_simp; try with_reducible rfl
                  try simp only [Act.put, List.setIfInBounds_toArray, List.set_cons_zero, List.set_cons_succ]
                  refine wpAnyH_ready (rs := [5]) (by kernel_rfl) (by simp) (cons_lit (i := 5) rfl (fun K hK => ?_) AllReadyH.nil)
                  go_simp
                  refine (same_is (a := outF) (b := outF) true (.yes rfl) (ClRd.below rrF hHeld.1) (ClRd.below rrG hHeld.1) (by omega)).mono ?_
                  rintro e wn ⟨rfl, hbn⟩
                  try go_simp
                  refine hK.out _ _ (held2 hHeld hbn) (fun hHeld2 => ?_)
                  clear hK K hHeld hbn
                  have hHeld := hHeld2
                  clear hHeld2
                  try simp only [Act.put, List.setIfInBounds_toArray, List.set_cons_zero, List.set_cons_succ]
                  refine take_lit (i := 6) (v := ?_) rfl (by kernel_rfl) (by kernel_rfl) (by kernel_rfl) (fun _ _ _ h => h) (by rfl) (fun w hSw => ?_) hHeld ?_
                  rotate_left
                  · obtain ⟨s0, s1, s2⟩ := hSw; go_simp; try with_reducible rfl
                  try simp only [Act.put, List.setIfInBounds_toArray, List.set_cons_zero, List.set_cons_succ]
                  refine take_lit (i := 7) (v := ?_) rfl (by kernel_rfl) (by kernel_rfl) (by kernel_rfl) (fun _ _ _ h => h) (by rfl) (fun w hSw => ?_) hHeld ?_
                  rotate_left
                  · obtain ⟨s0, s1, s2⟩ := hSw; go_simp; try with_reducible rfl
                  try simp only [Act.put, List.setIfInBounds_toArray, List.set_cons_zero, List.set_cons_succ]
                  refine take_lit (i := 8) (v := ?_) rfl (by kernel_rfl) (by kernel_rfl) (by kernel_rfl) (fun _ _ _ h => h) (by rfl) (fun w hSw => ?_) hHeld ?_
                  rotate_left
                  · obtain ⟨s0, s1, s2⟩ := hSw; go_simp; try with_reducible rfl
                  try simp only [Act.put, List.setIfInBounds_toArray, List.set_cons_zero, List.set_cons_succ]
                  refine take_lit (i := 10) (v := ?_) rfl (by kernel_rfl) (by kernel_rfl) (by kernel_rfl) (fun _ _ _ h => h) (by rfl) (fun w hSw => ?_) hHeld ?_
                  rotate_left
                  · obtain ⟨s0, s1, s2⟩ := hSw; go_simp; try with_reducible rfl
                  try simp only [Act.put, List.setIfInBounds_toArray, List.set_cons_zero, List.set_cons_succ]
                  refine wpAnyH_ready (rs := [9]) (by kernel_rfl) (by simp) (cons_lit (i := 9) rfl (fun K hK => ?_) AllReadyH.nil)
                  go_simp
                  refine (claims_ok _ (fun _ => True) _ outF (ClRd.below rrF hHeld.1) (by omega)).mono ?_
                  rintro e wn ⟨A2, c2, rfl, hO2, hbn⟩
                  have RX2 := Lib.hid (fresh_rd hO2)
                  clear hO2
                  try go_simp
                  refine hK.out _ _ (held2 hHeld hbn) (fun hHeld2 => ?_)
                  clear hK K hHeld hbn
                  have hHeld := hHeld2
                  clear hHeld2
                  try simp only [Act.put, List.setIfInBounds_toArray, List.set_cons_zero, List.set_cons_succ]
                  refine wpAnyH_ready (rs := [11]) (by kernel_rfl) (by simp) (cons_lit (i := 11) rfl (fun K hK => ?_) AllReadyH.nil)
                  go_simp
                  refine (claims_ok _ (fun _ => True) _ outF (ClRd.below rrG hHeld.1) (by omega)).mono ?_
                  rintro e wn ⟨A3, c3, rfl, hO3, hbn⟩
                  have RX3 := Lib.hid (fresh_rd hO3)
                  clear hO3
                  have RY2 := Lib.hid (ClRd.below RX2.out hbn)
                  clear RX2
                  try go_simp
                  refine hK.out _ _ (held2 hHeld hbn) (fun hHeld2 => ?_)
                  clear hK K hHeld hbn
                  have hHeld := hHeld2
                  clear hHeld2
                  try simp only [Act.put, List.setIfInBounds_toArray, List.set_cons_zero, List.set_cons_succ]
                  refine wpAnyH_ready (rs := [12]) (by kernel_rfl) (by simp) (cons_lit (i := 12) rfl (fun K hK => ?_) AllReadyH.nil)
                  go_simp
                  refine ((lawClaims_ok _ (fun _ => True) (fun _ => True) _ _ outF outF RY2.out RX3.out (by omega)).mono (fun _ _ h => h.ans (.yes rfl : Tells true (outF = outF)))).mono ?_
                  rintro e wn ⟨rfl, hbn⟩
                  try go_simp
                  refine hK.out _ _ (held2 hHeld hbn) (fun hHeld2 => ?_)
                  clear hK K hHeld hbn
                  have hHeld := hHeld2
                  clear hHeld2
                  try simp only [Act.put, List.setIfInBounds_toArray, List.set_cons_zero, List.set_cons_succ]
                  refine take_lit (i := 13) (v := ?_) rfl (by kernel_rfl) (by kernel_rfl) (by kernel_rfl) (fun _ _ _ h => h) (by rfl) (fun w hSw => ?_) hHeld ?_
                  rotate_left
                  · obtain ⟨s0, s1, s2⟩ := hSw; go_simp; try with_reducible rfl
                  try simp only [Act.put, List.setIfInBounds_toArray, List.set_cons_zero, List.set_cons_succ]
                  refine take_lit (i := 14) (v := ?_) rfl (by kernel_rfl) (by kernel_rfl) (by kernel_rfl) (fun _ _ _ h => h) (by rfl) (fun w hSw => ?_) hHeld ?_
                  rotate_left
                  · obtain ⟨s0, s1, s2⟩ := hSw; go_simp; try with_reducible rfl
                  try simp only [Act.put, List.setIfInBounds_toArray, List.set_cons_zero, List.set_cons_succ]
                  refine wpAnyH_ready (rs := [15]) (by kernel_rfl) (by simp) (cons_lit (i := 15) rfl (fun K hK => ?_) AllReadyH.nil)
                  go_simp
                  refine (awake_ok _).mono ?_
                  rintro e wn ⟨rfl, hbn⟩
                  try go_simp
                  refine hK.out _ _ (held2 hHeld hbn) (fun hHeld2 => ?_)
                  clear hK K hHeld hbn
                  have hHeld := hHeld2
                  clear hHeld2
                  try simp only [Act.put, List.setIfInBounds_toArray, List.set_cons_zero, List.set_cons_succ]
                  refine take_lit (i := 16) (v := ?_) rfl (by kernel_rfl) (by kernel_rfl) (by kernel_rfl) (fun _ _ _ h => h) (by rfl) (fun w hSw => ?_) hHeld ?_
                  rotate_left
                  · obtain ⟨s0, s1, s2⟩ := hSw; go_simp; try with_reducible rfl
                  try simp only [Act.put, List.setIfInBounds_toArray, List.set_cons_zero, List.set_cons_succ]
                  refine take_lit (i := 17) (v := ?_) rfl (by kernel_rfl) (by kernel_rfl) (by kernel_rfl) (fun _ _ _ h => h) (by rfl) (fun w hSw => ?_) hHeld ?_
                  rotate_left
                  · obtain ⟨s0, s1, s2⟩ := hSw; go_simp; try with_reducible rfl
                  try simp only [Act.put, List.setIfInBounds_toArray, List.set_cons_zero, List.set_cons_succ]
                  refine wpAnyH_done (by kernel_rfl) ?_ _
                  have hz := hHeld.1
                  go_wp2_with fail
                  go_ret
                  exact ⟨rfl, HB8.out.trans (hz.mono HB8.out.size)⟩
                · have hcap2 : k + 1 < c := by omega
                  have HLz := Lib.hid ((RdK.below HL.out HB5.out))
                  go_upto_region 18 with (at_builtin; go_loud (refine wpList_append_rdk _ rfl _ _ 22 rfl w5.heap.size 28 i2 _ 5 48 Try.underlying22 HHI2.out hy0 hy1 hy2 rfl (by decide) (.slice none 0 0) 0 [] rfl (World.ownsRow_nil _ _ _ _) F (.slice (some ⟨b1, o1, none⟩) k c) ((l.take k).map Cl.cells) rfl (by have := clrd_take HLz.out (n := k) (by omega); exact this) (cl_len _) (cl_one _) (by rw [List.length_map, List.length_take]; omega) (by rw [List.length_map, List.length_take]; unfold maxLen; omega) (Nat.le_refl _) ?_); intro v5 mw5 hO5 hg5 hat5; rw [List.length_map, List.length_take, Nat.min_eq_left (by omega : k ≤ l.length), Nat.zero_add, List.nil_append] at hO5; obtain ⟨A5, c5, rfl⟩ := ownsRow_slice hO5; have hb5 : Below w5.heap.size w5 mw5 := (Below.refl _ _).grown hg5 (Nat.le_refl _) (fun j hj => (by cases hj)); have hsz5 : w5.heap.size ≤ mw5.heap.size := hb5.size; have hO5a := hO5.alloc (.cells #[.bool x.wr, .int .i64 x.col, .string ⟨x.key.toArray⟩, .int .i64 y, .int .i64 x.hi] 28); have hnews := World.news_of_block (heap_alloc_new mw5 (.cells #[.bool x.wr, .int .i64 x.col, .string ⟨x.key.toArray⟩, .int .i64 y, .int .i64 x.hi] 28)); obtain ⟨z0, z1, z2, z3, z4⟩ := (HP.out.2.2.1.below hb5).cells5; have zl := (HP.out.2.2.1.below hb5).lt; have H5 := Lib.hid (And.intro hO5 (And.intro hb5 (And.intro hO5a hnews))); clear hO5 hg5 hat5 hb5 hO5a hnews)
                  go_upto_region 19 with (at_builtin; go_loud (refine wpList_append_lies _ rfl _ _ 22 rfl w5.heap.size 28 i2 _ 5 48 Try.underlying22 HHI2.out hy0 hy1 hy2 rfl (by decide) (.slice A5 k c5) k _ rfl H5.out.2.2.1 ⟨mw5.heap.size, 0, none⟩ 1 1 [.bool x.wr, .int .i64 x.col, .string ⟨x.key.toArray⟩, .int .i64 y, .int .i64 x.hi] rfl rfl H5.out.2.2.2 (by simp [Value.oneCell']) (by decide) (by unfold maxLen; omega) (by omega) (by simp; omega) _ rfl ?_); intro g6 c6 mw6 hO6 hg6 hat6 hlt6; have hb6 : Below w5.heap.size w5 mw6 := (H5.out.2.1.alloc hsz5 _).grown hg6 (by simp; omega) (fun j hj => (H5.out.1.lt j hj).1); have hsz6 : w5.heap.size ≤ mw6.heap.size := hb6.size; have H6 := Lib.hid (And.intro hO6 hb6); clear hO6 hg6 hat6 hlt6 hb6 z0 z1 z2 z3 z4 zl)
                  go_upto_region 20 with (at_builtin; go_loud (refine wpList_append_rdk _ rfl _ _ 22 rfl w5.heap.size 28 i2 _ 5 48 Try.underlying22 HHI2.out hy0 hy1 hy2 rfl (by decide) (.slice (some ⟨g6, 0, none⟩) (k + 1) c6) (k + 1) _ rfl H6.out.1 F (.slice (some ⟨b1, o1 + (k + 1) * 5, none⟩) (l.length - (k + 1)) (c - (k + 1))) ((l.drop (k + 1)).map Cl.cells) rfl (by have := clrd_drop HLz.out (n := k + 1) (by omega); exact ClRd.below this H6.out.2) (cl_len _) (cl_one _) (by rw [List.length_map, List.length_drop]; omega) (by rw [List.length_map, List.length_drop]; unfold maxLen; omega) hsz6 ?_); intro v7 mw7 hO7 hg7 hat7; rw [List.length_map, List.length_drop, show k + 1 + (l.length - (k + 1)) = l.length by omega] at hO7; obtain ⟨A7, c7, rfl⟩ := ownsRow_slice hO7; have hb7 : Below w5.heap.size w5 mw7 := H6.out.2.grown hg7 hsz6 (fun j hj => (H6.out.1.lt j hj).1); have hsz7 : w5.heap.size ≤ mw7.heap.size := hb7.size; have hO7a := hO7.alloc (.cells #[.bool x.wr, .int .i64 x.col, .string ⟨x.key.toArray⟩, .int .i64 x.lo, .int .i64 p] 28); have hnews := World.news_of_block (heap_alloc_new mw7 (.cells #[.bool x.wr, .int .i64 x.col, .string ⟨x.key.toArray⟩, .int .i64 x.lo, .int .i64 p] 28)); obtain ⟨z0, z1, z2, z3, z4⟩ := (HP.out.2.1.below hb7).cells5; have zl := (HP.out.2.1.below hb7).lt; have H7 := Lib.hid (And.intro hO7 (And.intro hb7 (And.intro hO7a hnews))); clear hO7 hg7 hat7 hb7 hO7a hnews)
                  go_upto_region 21 with (at_builtin; go_loud (refine wpList_append_lies _ rfl _ _ 22 rfl w5.heap.size 28 i2 _ 5 48 Try.underlying22 HHI2.out hy0 hy1 hy2 rfl (by decide) (.slice A7 l.length c7) l.length _ rfl H7.out.2.2.1 ⟨mw7.heap.size, 0, none⟩ 1 1 [.bool x.wr, .int .i64 x.col, .string ⟨x.key.toArray⟩, .int .i64 x.lo, .int .i64 p] rfl rfl H7.out.2.2.2 (by simp [Value.oneCell']) (by decide) (by unfold maxLen; omega) (by omega) (by simp; omega) _ rfl ?_); intro g8 c8 mw8 hO8 hg8 hat8 hlt8; have hb8 : Below w5.heap.size w5 mw8 := (H7.out.2.1.alloc hsz7 _).grown hg8 (by simp; omega) (fun j hj => (H7.out.1.lt j hj).1); have hO9 : mw8.ownsRow w5.heap.size 28 5 (.slice (some ⟨g8, 0, none⟩) (partsL l k x p y).length c8) (partsL l k x p y).length ((partsL l k x p y).map Cl.cells).flatten := (by rw [HGM.out.2.2]; simpa [partsL, Cl.cells] using hO8); have hr8 := fresh_rd hO9; rw [HGM.out.2.2] at hr8; have R8 := Lib.hid hr8; clear hO8 hg8 hat8 hlt8 hO9 hr8 H5 H6 H7 z0 z1 z2 z3 z4 zl)
                  clear HLz HP
                  obtain ⟨w6, rfl⟩ : ∃ w6 : World, w6 = mw8 := ⟨_, rfl⟩
                  have hbb6 := hb8
                  have GF := Lib.hid (FF.out.below hbb6)
                  have HB6 := Lib.hid (HB5.out.trans (hbb6.mono HB5.out.size))
                  have GXD := Lib.hid (XD.out.below hbb6)
                  have GXT := Lib.hid (XT.out.below hbb6)
                  clear XD dl d0 d1 d2 d3 d4
                  have XD := GXD
                  clear GXD
                  obtain ⟨dl, d0, d1, d2, d3, d4⟩ := XD.out
                  clear XT kT0 kT1 kT2 kTl
                  have XT := GXT
                  clear GXT
                  obtain ⟨kT0, kT1, kT2⟩ := XT.out.cells3
                  have kTl := XT.out.lt
                  clear FF kF lF HB5 hbb6 hb8
                  have FF := GF
                  have kF := FF.out.1
                  have lF := FF.out.2.1
                  clear GF
                  go_wp2_with fail
                  refine (new_ok _ (fun _ => True) _ (partsL l k x p y) R8.out (by rw [HGM.out.2.2]; omega) HGM.out.1.fits).mono ?_
                  intro e w7 hnp
                  obtain ⟨v7, n7, rfl, hnv⟩ := hnp.named
                  have hb7 := hnv.1
                  obtain ⟨rfl, AG, cG, rfl, hO⟩ := hnv.known (HGM.out.1.ok) (HGM.out.2.1) (h64F)
                  have RDG := Lib.hid (fresh_rd hO)
                  clear hO hnv hnp
                  have hbb7 := hb7
                  have GF := Lib.hid (FF.out.below hbb7)
                  have HB7 := Lib.hid (HB6.out.trans (hbb7.mono HB6.out.size))
                  have GXD := Lib.hid (XD.out.below hbb7)
                  have GXT := Lib.hid (XT.out.below hbb7)
                  clear XD dl d0 d1 d2 d3 d4
                  have XD := GXD
                  clear GXD
                  obtain ⟨dl, d0, d1, d2, d3, d4⟩ := XD.out
                  clear XT kT0 kT1 kT2 kTl
                  have XT := GXT
                  clear GXT
                  obtain ⟨kT0, kT1, kT2⟩ := XT.out.cells3
                  have kTl := XT.out.lt
                  clear FF kF lF HB6 hbb7 hb7
                  have FF := GF
                  have kF := FF.out.1
                  have lF := FF.out.2.1
                  clear GF
                  clear R8
                  go_upto_region 22 with fail
                  have hbb8 := one_box w7 (.cells #[.slice AG (outF).length cG] 30)
                  have GG := Ft.box 30 (A := AG) (l := outF) (c := cG) RDG.out
                  generalize w7.alloc (.cells #[.slice AG (outF).length cG] 30) = w8 at hbb8 GG ⊢
                  have FG := Lib.hid GG
                  have kG := FG.out.1
                  have lG := FG.out.2.1
                  clear GG RDG
                  have GF := Lib.hid (FF.out.below hbb8)
                  have HB8 := Lib.hid (HB7.out.trans (hbb8.mono HB7.out.size))
                  have GXD := Lib.hid (XD.out.below hbb8)
                  have GXT := Lib.hid (XT.out.below hbb8)
                  clear XD dl d0 d1 d2 d3 d4
                  have XD := GXD
                  clear GXD
                  obtain ⟨dl, d0, d1, d2, d3, d4⟩ := XD.out
                  clear XT kT0 kT1 kT2 kTl
                  have XT := GXT
                  clear GXT
                  obtain ⟨kT0, kT1, kT2⟩ := XT.out.cells3
                  have kTl := XT.out.lt
                  clear FF kF lF HB7 hbb8
                  have FF := GF
                  have kF := FF.out.1
                  have lF := FF.out.2.1
                  clear GF
                  have rrF := FF.out.2.2
                  have rrG := FG.out.2.2
                  refine wp_region_held_drew (S := (fun w' => Below w8.heap.size w8 w' ∧ w'.cell? ⟨w3.heap.size, 0, none⟩ = some (.slice AF (outF).length cF) ∧ w'.cell? ⟨w7.heap.size, 0, none⟩ = some (.slice AG (outF).length cG))) (by kernel_rfl) ⟨(Below.refl _ _).drew, kF, kG⟩ (fun hHeld => ?_)
                  refine take_lit (i := 0) (v := ?_) rfl (by kernel_rfl) (by kernel_rfl) (by kernel_rfl) (fun _ _ _ h => h) (by rfl) (fun w hSw => ?_) hHeld ?_
                  rotate_left
                  · obtain ⟨s0, s1, s2⟩ := hSw; go_simp; try with_reducible rfl
                  try simp only [Act.put, List.setIfInBounds_toArray, List.set_cons_zero, List.set_cons_succ]
                  refine take_lit (i := 1) (v := ?_) rfl (by kernel_rfl) (by kernel_rfl) (by kernel_rfl) (fun _ _ _ h => h) (by rfl) (fun w hSw => ?_) hHeld ?_
                  rotate_left
                  · obtain ⟨s0, s1, s2⟩ := hSw; go_simp; try with_reducible rfl
                  try simp only [Act.put, List.setIfInBounds_toArray, List.set_cons_zero, List.set_cons_succ]
                  refine take_lit (i := 2) (v := ?_) rfl (by kernel_rfl) (by kernel_rfl) (by kernel_rfl) (fun _ _ _ h => h) (by rfl) (fun w hSw => ?_) hHeld ?_
                  rotate_left
                  · obtain ⟨s0, s1, s2⟩ := hSw; go_simp; try with_reducible rfl
                  try simp only [Act.put, List.setIfInBounds_toArray, List.set_cons_zero, List.set_cons_succ]
                  refine take_lit (i := 3) (v := ?_) rfl (by kernel_rfl) (by kernel_rfl) (by kernel_rfl) (fun _ _ _ h => h) (by rfl) (fun w hSw => ?_) hHeld ?_
                  rotate_left
                  · obtain ⟨s0, s1, s2⟩ := hSw; go_simp; try with_reducible rfl
                  try simp only [Act.put, List.setIfInBounds_toArray, List.set_cons_zero, List.set_cons_succ]
                  refine take_lit (i := 4) (v := ?_) rfl (by kernel_rfl) (by kernel_rfl) (by kernel_rfl) (fun _ _ _ h => h) (by rfl) (fun w hSw => ?_) hHeld ?_
                  rotate_left
                  · obtain ⟨s0, s1, s2⟩ := hSw; go_simp; try with_reducible rfl
                  try simp only [Act.put, List.setIfInBounds_toArray, List.set_cons_zero, List.set_cons_succ]
                  refine wpAnyH_ready (rs := [5]) (by kernel_rfl) (by simp) (cons_lit (i := 5) rfl (fun K hK => ?_) AllReadyH.nil)
                  go_simp
                  refine (same_is (a := outF) (b := outF) true (.yes rfl) (ClRd.below rrF hHeld.1) (ClRd.below rrG hHeld.1) (by omega)).mono ?_
                  rintro e wn ⟨rfl, hbn⟩
                  try go_simp
                  refine hK.out _ _ (held2 hHeld hbn) (fun hHeld2 => ?_)
                  clear hK K hHeld hbn
                  have hHeld := hHeld2
                  clear hHeld2
                  try simp only [Act.put, List.setIfInBounds_toArray, List.set_cons_zero, List.set_cons_succ]
                  refine take_lit (i := 6) (v := ?_) rfl (by kernel_rfl) (by kernel_rfl) (by kernel_rfl) (fun _ _ _ h => h) (by rfl) (fun w hSw => ?_) hHeld ?_
                  rotate_left
                  · obtain ⟨s0, s1, s2⟩ := hSw; go_simp; try with_reducible rfl
                  try simp only [Act.put, List.setIfInBounds_toArray, List.set_cons_zero, List.set_cons_succ]
                  refine take_lit (i := 7) (v := ?_) rfl (by kernel_rfl) (by kernel_rfl) (by kernel_rfl) (fun _ _ _ h => h) (by rfl) (fun w hSw => ?_) hHeld ?_
                  rotate_left
                  · obtain ⟨s0, s1, s2⟩ := hSw; go_simp; try with_reducible rfl
                  try simp only [Act.put, List.setIfInBounds_toArray, List.set_cons_zero, List.set_cons_succ]
                  refine take_lit (i := 8) (v := ?_) rfl (by kernel_rfl) (by kernel_rfl) (by kernel_rfl) (fun _ _ _ h => h) (by rfl) (fun w hSw => ?_) hHeld ?_
                  rotate_left
                  · obtain ⟨s0, s1, s2⟩ := hSw; go_simp; try with_reducible rfl
                  try simp only [Act.put, List.setIfInBounds_toArray, List.set_cons_zero, List.set_cons_succ]
                  refine take_lit (i := 10) (v := ?_) rfl (by kernel_rfl) (by kernel_rfl) (by kernel_rfl) (fun _ _ _ h => h) (by rfl) (fun w hSw => ?_) hHeld ?_
                  rotate_left
                  · obtain ⟨s0, s1, s2⟩ := hSw; go_simp; try with_reducible rfl
                  try simp only [Act.put, List.setIfInBounds_toArray, List.set_cons_zero, List.set_cons_succ]
                  refine wpAnyH_ready (rs := [9]) (by kernel_rfl) (by simp) (cons_lit (i := 9) rfl (fun K hK => ?_) AllReadyH.nil)
                  go_simp
                  refine (claims_ok _ (fun _ => True) _ outF (ClRd.below rrF hHeld.1) (by omega)).mono ?_
                  rintro e wn ⟨A2, c2, rfl, hO2, hbn⟩
                  have RX2 := Lib.hid (fresh_rd hO2)
                  clear hO2
                  try go_simp
                  refine hK.out _ _ (held2 hHeld hbn) (fun hHeld2 => ?_)
                  clear hK K hHeld hbn
                  have hHeld := hHeld2
                  clear hHeld2
                  try simp only [Act.put, List.setIfInBounds_toArray, List.set_cons_zero, List.set_cons_succ]
                  refine wpAnyH_ready (rs := [11]) (by kernel_rfl) (by simp) (cons_lit (i := 11) rfl (fun K hK => ?_) AllReadyH.nil)
                  go_simp
                  refine (claims_ok _ (fun _ => True) _ outF (ClRd.below rrG hHeld.1) (by omega)).mono ?_
                  rintro e wn ⟨A3, c3, rfl, hO3, hbn⟩
                  have RX3 := Lib.hid (fresh_rd hO3)
                  clear hO3
                  have RY2 := Lib.hid (ClRd.below RX2.out hbn)
                  clear RX2
                  try go_simp
                  refine hK.out _ _ (held2 hHeld hbn) (fun hHeld2 => ?_)
                  clear hK K hHeld hbn
                  have hHeld := hHeld2
                  clear hHeld2
                  try simp only [Act.put, List.setIfInBounds_toArray, List.set_cons_zero, List.set_cons_succ]
                  refine wpAnyH_ready (rs := [12]) (by kernel_rfl) (by simp) (cons_lit (i := 12) rfl (fun K hK => ?_) AllReadyH.nil)
                  go_simp
                  refine ((lawClaims_ok _ (fun _ => True) (fun _ => True) _ _ outF outF RY2.out RX3.out (by omega)).mono (fun _ _ h => h.ans (.yes rfl : Tells true (outF = outF)))).mono ?_
                  rintro e wn ⟨rfl, hbn⟩
                  try go_simp
                  refine hK.out _ _ (held2 hHeld hbn) (fun hHeld2 => ?_)
                  clear hK K hHeld hbn
                  have hHeld := hHeld2
                  clear hHeld2
                  try simp only [Act.put, List.setIfInBounds_toArray, List.set_cons_zero, List.set_cons_succ]
                  refine take_lit (i := 13) (v := ?_) rfl (by kernel_rfl) (by kernel_rfl) (by kernel_rfl) (fun _ _ _ h => h) (by rfl) (fun w hSw => ?_) hHeld ?_
                  rotate_left
                  · obtain ⟨s0, s1, s2⟩ := hSw; go_simp; try with_reducible rfl
                  try simp only [Act.put, List.setIfInBounds_toArray, List.set_cons_zero, List.set_cons_succ]
                  refine take_lit (i := 14) (v := ?_) rfl (by kernel_rfl) (by kernel_rfl) (by kernel_rfl) (fun _ _ _ h => h) (by rfl) (fun w hSw => ?_) hHeld ?_
                  rotate_left
                  · obtain ⟨s0, s1, s2⟩ := hSw; go_simp; try with_reducible rfl
                  try simp only [Act.put, List.setIfInBounds_toArray, List.set_cons_zero, List.set_cons_succ]
                  refine wpAnyH_ready (rs := [15]) (by kernel_rfl) (by simp) (cons_lit (i := 15) rfl (fun K hK => ?_) AllReadyH.nil)
                  go_simp
                  refine (awake_ok _).mono ?_
                  rintro e wn ⟨rfl, hbn⟩
                  try go_simp
                  refine hK.out _ _ (held2 hHeld hbn) (fun hHeld2 => ?_)
                  clear hK K hHeld hbn
                  have hHeld := hHeld2
                  clear hHeld2
                  try simp only [Act.put, List.setIfInBounds_toArray, List.set_cons_zero, List.set_cons_succ]
                  refine take_lit (i := 16) (v := ?_) rfl (by kernel_rfl) (by kernel_rfl) (by kernel_rfl) (fun _ _ _ h => h) (by rfl) (fun w hSw => ?_) hHeld ?_
                  rotate_left
                  · obtain ⟨s0, s1, s2⟩ := hSw; go_simp; try with_reducible rfl
                  try simp only [Act.put, List.setIfInBounds_toArray, List.set_cons_zero, List.set_cons_succ]
                  refine take_lit (i := 17) (v := ?_) rfl (by kernel_rfl) (by kernel_rfl) (by kernel_rfl) (fun _ _ _ h => h) (by rfl) (fun w hSw => ?_) hHeld ?_
                  rotate_left
                  · obtain ⟨s0, s1, s2⟩ := hSw; go_simp; try with_reducible rfl
                  try simp only [Act.put, List.setIfInBounds_toArray, List.set_cons_zero, List.set_cons_succ]
                  refine wpAnyH_done (by kernel_rfl) ?_ _
                  have hz := hHeld.1
                  go_wp2_with fail
                  go_ret
                  exact ⟨rfl, HB8.out.trans (hz.mono HB8.out.size)⟩
              · clear hgo
                go_upto_region 16 with fail
                clear HPx
                clear u0 u1 u2 u3 u4 v0 v1 v2 v3 v4 z0 z1 z2 z3 z4 zl zf vl vf s0 s1 s2 sl
                have hbl := HP.out.2.2.2
                obtain ⟨w5, rfl⟩ : ∃ w5 : World, w5 = wr := ⟨_, rfl⟩
                have hbb5 := hbl
                have GF := Lib.hid (FF.out.below hbb5)
                have HB5 := Lib.hid (HB4.out.trans (hbb5.mono HB4.out.size))
                have GXD := Lib.hid (XD.out.below hbb5)
                have GXT := Lib.hid (XT.out.below hbb5)
                clear XD dl d0 d1 d2 d3 d4
                have XD := GXD
                clear GXD
                obtain ⟨dl, d0, d1, d2, d3, d4⟩ := XD.out
                clear XT kT0 kT1 kT2 kTl
                have XT := GXT
                clear GXT
                obtain ⟨kT0, kT1, kT2⟩ := XT.out.cells3
                have kTl := XT.out.lt
                clear FF kF lF HB4 hbb5 hbl
                have FF := GF
                have kF := FF.out.1
                have lF := FF.out.2.1
                clear GF
                have HGM := Lib.hid (And.intro (parts_good HX.out HGF.out.2.1 hc1n hyl hyh hc3n hc2n) (And.intro (HGF.out.1.congr (parts_lev HX.out hyl hyh (by omega))) (parts_len HX.out (x := p) (y := y))))
                by_cases hcap : c = k + 1
                · subst hcap
                  have hkl : k + 1 = l.length := by omega
                  have HCAP := Lib.hid hkl
                  clear hkl
                  have HLz := Lib.hid ((RdK.below HL.out HB5.out))
                  go_upto_region 18 with (at_builtin; go_loud (refine wpList_append_rdk _ rfl _ _ 22 rfl w5.heap.size 28 i2 _ 5 48 Try.underlying22 HHI2.out hy0 hy1 hy2 rfl (by decide) (.slice none 0 0) 0 [] rfl (World.ownsRow_nil _ _ _ _) F (.slice (some ⟨b1, o1, none⟩) k (k + 1)) ((l.take k).map Cl.cells) rfl (by have := clrd_take HLz.out (n := k) (by omega); exact this) (cl_len _) (cl_one _) (by rw [List.length_map, List.length_take]; omega) (by rw [List.length_map, List.length_take]; unfold maxLen; omega) (Nat.le_refl _) ?_); intro v5 mw5 hO5 hg5 hat5; rw [List.length_map, List.length_take, Nat.min_eq_left (by omega : k ≤ l.length), Nat.zero_add, List.nil_append] at hO5; obtain ⟨A5, c5, rfl⟩ := ownsRow_slice hO5; have hb5 : Below w5.heap.size w5 mw5 := (Below.refl _ _).grown hg5 (Nat.le_refl _) (fun j hj => (by cases hj)); have hsz5 : w5.heap.size ≤ mw5.heap.size := hb5.size; have hO5a := hO5.alloc (.cells #[.bool x.wr, .int .i64 x.col, .string ⟨x.key.toArray⟩, .int .i64 y, .int .i64 x.hi] 28); have hnews := World.news_of_block (heap_alloc_new mw5 (.cells #[.bool x.wr, .int .i64 x.col, .string ⟨x.key.toArray⟩, .int .i64 y, .int .i64 x.hi] 28)); obtain ⟨z0, z1, z2, z3, z4⟩ := (HP.out.2.2.1.below hb5).cells5; have zl := (HP.out.2.2.1.below hb5).lt; have H5 := Lib.hid (And.intro hO5 (And.intro hb5 (And.intro hO5a hnews))); clear hO5 hg5 hat5 hb5 hO5a hnews)
                  go_upto_region 19 with (at_builtin; go_loud (refine wpList_append_lies _ rfl _ _ 22 rfl w5.heap.size 28 i2 _ 5 48 Try.underlying22 HHI2.out hy0 hy1 hy2 rfl (by decide) (.slice A5 k c5) k _ rfl H5.out.2.2.1 ⟨mw5.heap.size, 0, none⟩ 1 1 [.bool x.wr, .int .i64 x.col, .string ⟨x.key.toArray⟩, .int .i64 y, .int .i64 x.hi] rfl rfl H5.out.2.2.2 (by simp [Value.oneCell']) (by decide) (by unfold maxLen; omega) (by omega) (by simp; omega) _ rfl ?_); intro g6 c6 mw6 hO6 hg6 hat6 hlt6; have hb6 : Below w5.heap.size w5 mw6 := (H5.out.2.1.alloc hsz5 _).grown hg6 (by simp; omega) (fun j hj => (H5.out.1.lt j hj).1); have hsz6 : w5.heap.size ≤ mw6.heap.size := hb6.size; have H6 := Lib.hid (And.intro hO6 hb6); clear hO6 hg6 hat6 hlt6 hb6 z0 z1 z2 z3 z4 zl)
                  go_upto_region 20 with (at_builtin; go_loud (refine wpList_append_rdk _ rfl _ _ 22 rfl w5.heap.size 28 i2 _ 5 48 Try.underlying22 HHI2.out hy0 hy1 hy2 rfl (by decide) (.slice (some ⟨g6, 0, none⟩) (k + 1) c6) (k + 1) _ rfl H6.out.1 F (.slice (some ⟨b1, o1, none⟩) 0 0) ((l.drop (k + 1)).map Cl.cells) rfl (by have hks : l.drop (k + 1) = [] := List.drop_eq_nil_of_le (by have := HCAP.out; omega); rw [hks]; exact clrd_none) (cl_len _) (cl_one _) (by rw [List.length_map, List.length_drop]; omega) (by rw [List.length_map, List.length_drop]; unfold maxLen; omega) hsz6 ?_); intro v7 mw7 hO7 hg7 hat7; rw [List.length_map, List.length_drop, show k + 1 + (l.length - (k + 1)) = l.length by omega] at hO7; obtain ⟨A7, c7, rfl⟩ := ownsRow_slice hO7; have hb7 : Below w5.heap.size w5 mw7 := H6.out.2.grown hg7 hsz6 (fun j hj => (H6.out.1.lt j hj).1); have hsz7 : w5.heap.size ≤ mw7.heap.size := hb7.size; have hO7a := hO7.alloc (.cells #[.bool x.wr, .int .i64 x.col, .string ⟨x.key.toArray⟩, .int .i64 x.lo, .int .i64 p] 28); have hnews := World.news_of_block (heap_alloc_new mw7 (.cells #[.bool x.wr, .int .i64 x.col, .string ⟨x.key.toArray⟩, .int .i64 x.lo, .int .i64 p] 28)); obtain ⟨z0, z1, z2, z3, z4⟩ := (HP.out.2.1.below hb7).cells5; have zl := (HP.out.2.1.below hb7).lt; have H7 := Lib.hid (And.intro hO7 (And.intro hb7 (And.intro hO7a hnews))); clear hO7 hg7 hat7 hb7 hO7a hnews)
                  go_upto_region 21 with (at_builtin; go_loud (refine wpList_append_lies _ rfl _ _ 22 rfl w5.heap.size 28 i2 _ 5 48 Try.underlying22 HHI2.out hy0 hy1 hy2 rfl (by decide) (.slice A7 l.length c7) l.length _ rfl H7.out.2.2.1 ⟨mw7.heap.size, 0, none⟩ 1 1 [.bool x.wr, .int .i64 x.col, .string ⟨x.key.toArray⟩, .int .i64 x.lo, .int .i64 p] rfl rfl H7.out.2.2.2 (by simp [Value.oneCell']) (by decide) (by unfold maxLen; omega) (by omega) (by simp; omega) _ rfl ?_); intro g8 c8 mw8 hO8 hg8 hat8 hlt8; have hb8 : Below w5.heap.size w5 mw8 := (H7.out.2.1.alloc hsz7 _).grown hg8 (by simp; omega) (fun j hj => (H7.out.1.lt j hj).1); have hO9 : mw8.ownsRow w5.heap.size 28 5 (.slice (some ⟨g8, 0, none⟩) (partsL l k x p y).length c8) (partsL l k x p y).length ((partsL l k x p y).map Cl.cells).flatten := (by rw [HGM.out.2.2]; simpa [partsL, Cl.cells] using hO8); have hr8 := fresh_rd hO9; rw [HGM.out.2.2] at hr8; have R8 := Lib.hid hr8; clear hO8 hg8 hat8 hlt8 hO9 hr8 H5 H6 H7 z0 z1 z2 z3 z4 zl)
                  clear HLz HP
                  obtain ⟨w6, rfl⟩ : ∃ w6 : World, w6 = mw8 := ⟨_, rfl⟩
                  have hbb6 := hb8
                  have GF := Lib.hid (FF.out.below hbb6)
                  have HB6 := Lib.hid (HB5.out.trans (hbb6.mono HB5.out.size))
                  have GXD := Lib.hid (XD.out.below hbb6)
                  have GXT := Lib.hid (XT.out.below hbb6)
                  clear XD dl d0 d1 d2 d3 d4
                  have XD := GXD
                  clear GXD
                  obtain ⟨dl, d0, d1, d2, d3, d4⟩ := XD.out
                  clear XT kT0 kT1 kT2 kTl
                  have XT := GXT
                  clear GXT
                  obtain ⟨kT0, kT1, kT2⟩ := XT.out.cells3
                  have kTl := XT.out.lt
                  clear FF kF lF HB5 hbb6 hb8
                  have FF := GF
                  have kF := FF.out.1
                  have lF := FF.out.2.1
                  clear GF
                  go_wp2_with fail
                  refine (new_ok _ (fun _ => True) _ (partsL l k x p y) R8.out (by rw [HGM.out.2.2]; omega) HGM.out.1.fits).mono ?_
                  intro e w7 hnp
                  obtain ⟨v7, n7, rfl, hnv⟩ := hnp.named
                  have hb7 := hnv.1
                  obtain ⟨rfl, AG, cG, rfl, hO⟩ := hnv.known (HGM.out.1.ok) (HGM.out.2.1) (h64F)
                  have RDG := Lib.hid (fresh_rd hO)
                  clear hO hnv hnp
                  have hbb7 := hb7
                  have GF := Lib.hid (FF.out.below hbb7)
                  have HB7 := Lib.hid (HB6.out.trans (hbb7.mono HB6.out.size))
                  have GXD := Lib.hid (XD.out.below hbb7)
                  have GXT := Lib.hid (XT.out.below hbb7)
                  clear XD dl d0 d1 d2 d3 d4
                  have XD := GXD
                  clear GXD
                  obtain ⟨dl, d0, d1, d2, d3, d4⟩ := XD.out
                  clear XT kT0 kT1 kT2 kTl
                  have XT := GXT
                  clear GXT
                  obtain ⟨kT0, kT1, kT2⟩ := XT.out.cells3
                  have kTl := XT.out.lt
                  clear FF kF lF HB6 hbb7 hb7
                  have FF := GF
                  have kF := FF.out.1
                  have lF := FF.out.2.1
                  clear GF
                  clear R8
                  go_upto_region 22 with fail
                  have hbb8 := one_box w7 (.cells #[.slice AG (outF).length cG] 30)
                  have GG := Ft.box 30 (A := AG) (l := outF) (c := cG) RDG.out
                  generalize w7.alloc (.cells #[.slice AG (outF).length cG] 30) = w8 at hbb8 GG ⊢
                  have FG := Lib.hid GG
                  have kG := FG.out.1
                  have lG := FG.out.2.1
                  clear GG RDG
                  have GF := Lib.hid (FF.out.below hbb8)
                  have HB8 := Lib.hid (HB7.out.trans (hbb8.mono HB7.out.size))
                  have GXD := Lib.hid (XD.out.below hbb8)
                  have GXT := Lib.hid (XT.out.below hbb8)
                  clear XD dl d0 d1 d2 d3 d4
                  have XD := GXD
                  clear GXD
                  obtain ⟨dl, d0, d1, d2, d3, d4⟩ := XD.out
                  clear XT kT0 kT1 kT2 kTl
                  have XT := GXT
                  clear GXT
                  obtain ⟨kT0, kT1, kT2⟩ := XT.out.cells3
                  have kTl := XT.out.lt
                  clear FF kF lF HB7 hbb8
                  have FF := GF
                  have kF := FF.out.1
                  have lF := FF.out.2.1
                  clear GF
                  have rrF := FF.out.2.2
                  have rrG := FG.out.2.2
                  refine wp_region_held_drew (S := (fun w' => Below w8.heap.size w8 w' ∧ w'.cell? ⟨w3.heap.size, 0, none⟩ = some (.slice AF (outF).length cF) ∧ w'.cell? ⟨w7.heap.size, 0, none⟩ = some (.slice AG (outF).length cG))) (by kernel_rfl) ⟨(Below.refl _ _).drew, kF, kG⟩ (fun hHeld => ?_)
                  refine take_lit (i := 0) (v := ?_) rfl (by kernel_rfl) (by kernel_rfl) (by kernel_rfl) (fun _ _ _ h => h) (by rfl) (fun w hSw => ?_) hHeld ?_
                  rotate_left
                  · obtain ⟨s0, s1, s2⟩ := hSw; go_simp; try with_reducible rfl
                  try simp only [Act.put, List.setIfInBounds_toArray, List.set_cons_zero, List.set_cons_succ]
                  refine take_lit (i := 1) (v := ?_) rfl (by kernel_rfl) (by kernel_rfl) (by kernel_rfl) (fun _ _ _ h => h) (by rfl) (fun w hSw => ?_) hHeld ?_
                  rotate_left
                  · obtain ⟨s0, s1, s2⟩ := hSw; go_simp; try with_reducible rfl
                  try simp only [Act.put, List.setIfInBounds_toArray, List.set_cons_zero, List.set_cons_succ]
                  refine take_lit (i := 2) (v := ?_) rfl (by kernel_rfl) (by kernel_rfl) (by kernel_rfl) (fun _ _ _ h => h) (by rfl) (fun w hSw => ?_) hHeld ?_
                  rotate_left
                  · obtain ⟨s0, s1, s2⟩ := hSw; go_simp; try with_reducible rfl
                  try simp only [Act.put, List.setIfInBounds_toArray, List.set_cons_zero, List.set_cons_succ]
                  refine take_lit (i := 3) (v := ?_) rfl (by kernel_rfl) (by kernel_rfl) (by kernel_rfl) (fun _ _ _ h => h) (by rfl) (fun w hSw => ?_) hHeld ?_
                  rotate_left
                  · obtain ⟨s0, s1, s2⟩ := hSw; go_simp; try with_reducible rfl
                  try simp only [Act.put, List.setIfInBounds_toArray, List.set_cons_zero, List.set_cons_succ]
                  refine take_lit (i := 4) (v := ?_) rfl (by kernel_rfl) (by kernel_rfl) (by kernel_rfl) (fun _ _ _ h => h) (by rfl) (fun w hSw => ?_) hHeld ?_
                  rotate_left
                  · obtain ⟨s0, s1, s2⟩ := hSw; go_simp; try with_reducible rfl
                  try simp only [Act.put, List.setIfInBounds_toArray, List.set_cons_zero, List.set_cons_succ]
                  refine wpAnyH_ready (rs := [5]) (by kernel_rfl) (by simp) (cons_lit (i := 5) rfl (fun K hK => ?_) AllReadyH.nil)
                  go_simp
                  refine (same_is (a := outF) (b := outF) true (.yes rfl) (ClRd.below rrF hHeld.1) (ClRd.below rrG hHeld.1) (by omega)).mono ?_
                  rintro e wn ⟨rfl, hbn⟩
                  try go_simp
                  refine hK.out _ _ (held2 hHeld hbn) (fun hHeld2 => ?_)
                  clear hK K hHeld hbn
                  have hHeld := hHeld2
                  clear hHeld2
                  try simp only [Act.put, List.setIfInBounds_toArray, List.set_cons_zero, List.set_cons_succ]
                  refine take_lit (i := 6) (v := ?_) rfl (by kernel_rfl) (by kernel_rfl) (by kernel_rfl) (fun _ _ _ h => h) (by rfl) (fun w hSw => ?_) hHeld ?_
                  rotate_left
                  · obtain ⟨s0, s1, s2⟩ := hSw; go_simp; try with_reducible rfl
                  try simp only [Act.put, List.setIfInBounds_toArray, List.set_cons_zero, List.set_cons_succ]
                  refine take_lit (i := 7) (v := ?_) rfl (by kernel_rfl) (by kernel_rfl) (by kernel_rfl) (fun _ _ _ h => h) (by rfl) (fun w hSw => ?_) hHeld ?_
                  rotate_left
                  · obtain ⟨s0, s1, s2⟩ := hSw; go_simp; try with_reducible rfl
                  try simp only [Act.put, List.setIfInBounds_toArray, List.set_cons_zero, List.set_cons_succ]
                  refine take_lit (i := 8) (v := ?_) rfl (by kernel_rfl) (by kernel_rfl) (by kernel_rfl) (fun _ _ _ h => h) (by rfl) (fun w hSw => ?_) hHeld ?_
                  rotate_left
                  · obtain ⟨s0, s1, s2⟩ := hSw; go_simp; try with_reducible rfl
                  try simp only [Act.put, List.setIfInBounds_toArray, List.set_cons_zero, List.set_cons_succ]
                  refine take_lit (i := 10) (v := ?_) rfl (by kernel_rfl) (by kernel_rfl) (by kernel_rfl) (fun _ _ _ h => h) (by rfl) (fun w hSw => ?_) hHeld ?_
                  rotate_left
                  · obtain ⟨s0, s1, s2⟩ := hSw; go_simp; try with_reducible rfl
                  try simp only [Act.put, List.setIfInBounds_toArray, List.set_cons_zero, List.set_cons_succ]
                  refine wpAnyH_ready (rs := [9]) (by kernel_rfl) (by simp) (cons_lit (i := 9) rfl (fun K hK => ?_) AllReadyH.nil)
                  go_simp
                  refine (claims_ok _ (fun _ => True) _ outF (ClRd.below rrF hHeld.1) (by omega)).mono ?_
                  rintro e wn ⟨A2, c2, rfl, hO2, hbn⟩
                  have RX2 := Lib.hid (fresh_rd hO2)
                  clear hO2
                  try go_simp
                  refine hK.out _ _ (held2 hHeld hbn) (fun hHeld2 => ?_)
                  clear hK K hHeld hbn
                  have hHeld := hHeld2
                  clear hHeld2
                  try simp only [Act.put, List.setIfInBounds_toArray, List.set_cons_zero, List.set_cons_succ]
                  refine wpAnyH_ready (rs := [11]) (by kernel_rfl) (by simp) (cons_lit (i := 11) rfl (fun K hK => ?_) AllReadyH.nil)
                  go_simp
                  refine (claims_ok _ (fun _ => True) _ outF (ClRd.below rrG hHeld.1) (by omega)).mono ?_
                  rintro e wn ⟨A3, c3, rfl, hO3, hbn⟩
                  have RX3 := Lib.hid (fresh_rd hO3)
                  clear hO3
                  have RY2 := Lib.hid (ClRd.below RX2.out hbn)
                  clear RX2
                  try go_simp
                  refine hK.out _ _ (held2 hHeld hbn) (fun hHeld2 => ?_)
                  clear hK K hHeld hbn
                  have hHeld := hHeld2
                  clear hHeld2
                  try simp only [Act.put, List.setIfInBounds_toArray, List.set_cons_zero, List.set_cons_succ]
                  refine wpAnyH_ready (rs := [12]) (by kernel_rfl) (by simp) (cons_lit (i := 12) rfl (fun K hK => ?_) AllReadyH.nil)
                  go_simp
                  refine ((lawClaims_ok _ (fun _ => True) (fun _ => True) _ _ outF outF RY2.out RX3.out (by omega)).mono (fun _ _ h => h.ans (.yes rfl : Tells true (outF = outF)))).mono ?_
                  rintro e wn ⟨rfl, hbn⟩
                  try go_simp
                  refine hK.out _ _ (held2 hHeld hbn) (fun hHeld2 => ?_)
                  clear hK K hHeld hbn
                  have hHeld := hHeld2
                  clear hHeld2
                  try simp only [Act.put, List.setIfInBounds_toArray, List.set_cons_zero, List.set_cons_succ]
                  refine take_lit (i := 13) (v := ?_) rfl (by kernel_rfl) (by kernel_rfl) (by kernel_rfl) (fun _ _ _ h => h) (by rfl) (fun w hSw => ?_) hHeld ?_
                  rotate_left
                  · obtain ⟨s0, s1, s2⟩ := hSw; go_simp; try with_reducible rfl
                  try simp only [Act.put, List.setIfInBounds_toArray, List.set_cons_zero, List.set_cons_succ]
                  refine take_lit (i := 14) (v := ?_) rfl (by kernel_rfl) (by kernel_rfl) (by kernel_rfl) (fun _ _ _ h => h) (by rfl) (fun w hSw => ?_) hHeld ?_
                  rotate_left
                  · obtain ⟨s0, s1, s2⟩ := hSw; go_simp; try with_reducible rfl
                  try simp only [Act.put, List.setIfInBounds_toArray, List.set_cons_zero, List.set_cons_succ]
                  refine wpAnyH_ready (rs := [15]) (by kernel_rfl) (by simp) (cons_lit (i := 15) rfl (fun K hK => ?_) AllReadyH.nil)
                  go_simp
                  refine (awake_ok _).mono ?_
                  rintro e wn ⟨rfl, hbn⟩
                  try go_simp
                  refine hK.out _ _ (held2 hHeld hbn) (fun hHeld2 => ?_)
                  clear hK K hHeld hbn
                  have hHeld := hHeld2
                  clear hHeld2
                  try simp only [Act.put, List.setIfInBounds_toArray, List.set_cons_zero, List.set_cons_succ]
                  refine take_lit (i := 16) (v := ?_) rfl (by kernel_rfl) (by kernel_rfl) (by kernel_rfl) (fun _ _ _ h => h) (by rfl) (fun w hSw => ?_) hHeld ?_
                  rotate_left
                  · obtain ⟨s0, s1, s2⟩ := hSw; go_simp; try with_reducible rfl
                  try simp only [Act.put, List.setIfInBounds_toArray, List.set_cons_zero, List.set_cons_succ]
                  refine take_lit (i := 17) (v := ?_) rfl (by kernel_rfl) (by kernel_rfl) (by kernel_rfl) (fun _ _ _ h => h) (by rfl) (fun w hSw => ?_) hHeld ?_
                  rotate_left
                  · obtain ⟨s0, s1, s2⟩ := hSw; go_simp; try with_reducible rfl
                  try simp only [Act.put, List.setIfInBounds_toArray, List.set_cons_zero, List.set_cons_succ]
                  refine wpAnyH_done (by kernel_rfl) ?_ _
                  have hz := hHeld.1
                  go_wp2_with fail
                  go_ret
                  exact ⟨rfl, HB8.out.trans (hz.mono HB8.out.size)⟩
                · have hcap2 : k + 1 < c := by omega
                  have HLz := Lib.hid ((RdK.below HL.out HB5.out))
                  go_upto_region 18 with (at_builtin; go_loud (refine wpList_append_rdk _ rfl _ _ 22 rfl w5.heap.size 28 i2 _ 5 48 Try.underlying22 HHI2.out hy0 hy1 hy2 rfl (by decide) (.slice none 0 0) 0 [] rfl (World.ownsRow_nil _ _ _ _) F (.slice (some ⟨b1, o1, none⟩) k c) ((l.take k).map Cl.cells) rfl (by have := clrd_take HLz.out (n := k) (by omega); exact this) (cl_len _) (cl_one _) (by rw [List.length_map, List.length_take]; omega) (by rw [List.length_map, List.length_take]; unfold maxLen; omega) (Nat.le_refl _) ?_); intro v5 mw5 hO5 hg5 hat5; rw [List.length_map, List.length_take, Nat.min_eq_left (by omega : k ≤ l.length), Nat.zero_add, List.nil_append] at hO5; obtain ⟨A5, c5, rfl⟩ := ownsRow_slice hO5; have hb5 : Below w5.heap.size w5 mw5 := (Below.refl _ _).grown hg5 (Nat.le_refl _) (fun j hj => (by cases hj)); have hsz5 : w5.heap.size ≤ mw5.heap.size := hb5.size; have hO5a := hO5.alloc (.cells #[.bool x.wr, .int .i64 x.col, .string ⟨x.key.toArray⟩, .int .i64 y, .int .i64 x.hi] 28); have hnews := World.news_of_block (heap_alloc_new mw5 (.cells #[.bool x.wr, .int .i64 x.col, .string ⟨x.key.toArray⟩, .int .i64 y, .int .i64 x.hi] 28)); obtain ⟨z0, z1, z2, z3, z4⟩ := (HP.out.2.2.1.below hb5).cells5; have zl := (HP.out.2.2.1.below hb5).lt; have H5 := Lib.hid (And.intro hO5 (And.intro hb5 (And.intro hO5a hnews))); clear hO5 hg5 hat5 hb5 hO5a hnews)
                  go_upto_region 19 with (at_builtin; go_loud (refine wpList_append_lies _ rfl _ _ 22 rfl w5.heap.size 28 i2 _ 5 48 Try.underlying22 HHI2.out hy0 hy1 hy2 rfl (by decide) (.slice A5 k c5) k _ rfl H5.out.2.2.1 ⟨mw5.heap.size, 0, none⟩ 1 1 [.bool x.wr, .int .i64 x.col, .string ⟨x.key.toArray⟩, .int .i64 y, .int .i64 x.hi] rfl rfl H5.out.2.2.2 (by simp [Value.oneCell']) (by decide) (by unfold maxLen; omega) (by omega) (by simp; omega) _ rfl ?_); intro g6 c6 mw6 hO6 hg6 hat6 hlt6; have hb6 : Below w5.heap.size w5 mw6 := (H5.out.2.1.alloc hsz5 _).grown hg6 (by simp; omega) (fun j hj => (H5.out.1.lt j hj).1); have hsz6 : w5.heap.size ≤ mw6.heap.size := hb6.size; have H6 := Lib.hid (And.intro hO6 hb6); clear hO6 hg6 hat6 hlt6 hb6 z0 z1 z2 z3 z4 zl)
                  go_upto_region 20 with (at_builtin; go_loud (refine wpList_append_rdk _ rfl _ _ 22 rfl w5.heap.size 28 i2 _ 5 48 Try.underlying22 HHI2.out hy0 hy1 hy2 rfl (by decide) (.slice (some ⟨g6, 0, none⟩) (k + 1) c6) (k + 1) _ rfl H6.out.1 F (.slice (some ⟨b1, o1 + (k + 1) * 5, none⟩) (l.length - (k + 1)) (c - (k + 1))) ((l.drop (k + 1)).map Cl.cells) rfl (by have := clrd_drop HLz.out (n := k + 1) (by omega); exact ClRd.below this H6.out.2) (cl_len _) (cl_one _) (by rw [List.length_map, List.length_drop]; omega) (by rw [List.length_map, List.length_drop]; unfold maxLen; omega) hsz6 ?_); intro v7 mw7 hO7 hg7 hat7; rw [List.length_map, List.length_drop, show k + 1 + (l.length - (k + 1)) = l.length by omega] at hO7; obtain ⟨A7, c7, rfl⟩ := ownsRow_slice hO7; have hb7 : Below w5.heap.size w5 mw7 := H6.out.2.grown hg7 hsz6 (fun j hj => (H6.out.1.lt j hj).1); have hsz7 : w5.heap.size ≤ mw7.heap.size := hb7.size; have hO7a := hO7.alloc (.cells #[.bool x.wr, .int .i64 x.col, .string ⟨x.key.toArray⟩, .int .i64 x.lo, .int .i64 p] 28); have hnews := World.news_of_block (heap_alloc_new mw7 (.cells #[.bool x.wr, .int .i64 x.col, .string ⟨x.key.toArray⟩, .int .i64 x.lo, .int .i64 p] 28)); obtain ⟨z0, z1, z2, z3, z4⟩ := (HP.out.2.1.below hb7).cells5; have zl := (HP.out.2.1.below hb7).lt; have H7 := Lib.hid (And.intro hO7 (And.intro hb7 (And.intro hO7a hnews))); clear hO7 hg7 hat7 hb7 hO7a hnews)
                  go_upto_region 21 with (at_builtin; go_loud (refine wpList_append_lies _ rfl _ _ 22 rfl w5.heap.size 28 i2 _ 5 48 Try.underlying22 HHI2.out hy0 hy1 hy2 rfl (by decide) (.slice A7 l.length c7) l.length _ rfl H7.out.2.2.1 ⟨mw7.heap.size, 0, none⟩ 1 1 [.bool x.wr, .int .i64 x.col, .string ⟨x.key.toArray⟩, .int .i64 x.lo, .int .i64 p] rfl rfl H7.out.2.2.2 (by simp [Value.oneCell']) (by decide) (by unfold maxLen; omega) (by omega) (by simp; omega) _ rfl ?_); intro g8 c8 mw8 hO8 hg8 hat8 hlt8; have hb8 : Below w5.heap.size w5 mw8 := (H7.out.2.1.alloc hsz7 _).grown hg8 (by simp; omega) (fun j hj => (H7.out.1.lt j hj).1); have hO9 : mw8.ownsRow w5.heap.size 28 5 (.slice (some ⟨g8, 0, none⟩) (partsL l k x p y).length c8) (partsL l k x p y).length ((partsL l k x p y).map Cl.cells).flatten := (by rw [HGM.out.2.2]; simpa [partsL, Cl.cells] using hO8); have hr8 := fresh_rd hO9; rw [HGM.out.2.2] at hr8; have R8 := Lib.hid hr8; clear hO8 hg8 hat8 hlt8 hO9 hr8 H5 H6 H7 z0 z1 z2 z3 z4 zl)
                  clear HLz HP
                  obtain ⟨w6, rfl⟩ : ∃ w6 : World, w6 = mw8 := ⟨_, rfl⟩
                  have hbb6 := hb8
                  have GF := Lib.hid (FF.out.below hbb6)
                  have HB6 := Lib.hid (HB5.out.trans (hbb6.mono HB5.out.size))
                  have GXD := Lib.hid (XD.out.below hbb6)
                  have GXT := Lib.hid (XT.out.below hbb6)
                  clear XD dl d0 d1 d2 d3 d4
                  have XD := GXD
                  clear GXD
                  obtain ⟨dl, d0, d1, d2, d3, d4⟩ := XD.out
                  clear XT kT0 kT1 kT2 kTl
                  have XT := GXT
                  clear GXT
                  obtain ⟨kT0, kT1, kT2⟩ := XT.out.cells3
                  have kTl := XT.out.lt
                  clear FF kF lF HB5 hbb6 hb8
                  have FF := GF
                  have kF := FF.out.1
                  have lF := FF.out.2.1
                  clear GF
                  go_wp2_with fail
                  refine (new_ok _ (fun _ => True) _ (partsL l k x p y) R8.out (by rw [HGM.out.2.2]; omega) HGM.out.1.fits).mono ?_
                  intro e w7 hnp
                  obtain ⟨v7, n7, rfl, hnv⟩ := hnp.named
                  have hb7 := hnv.1
                  obtain ⟨rfl, AG, cG, rfl, hO⟩ := hnv.known (HGM.out.1.ok) (HGM.out.2.1) (h64F)
                  have RDG := Lib.hid (fresh_rd hO)
                  clear hO hnv hnp
                  have hbb7 := hb7
                  have GF := Lib.hid (FF.out.below hbb7)
                  have HB7 := Lib.hid (HB6.out.trans (hbb7.mono HB6.out.size))
                  have GXD := Lib.hid (XD.out.below hbb7)
                  have GXT := Lib.hid (XT.out.below hbb7)
                  clear XD dl d0 d1 d2 d3 d4
                  have XD := GXD
                  clear GXD
                  obtain ⟨dl, d0, d1, d2, d3, d4⟩ := XD.out
                  clear XT kT0 kT1 kT2 kTl
                  have XT := GXT
                  clear GXT
                  obtain ⟨kT0, kT1, kT2⟩ := XT.out.cells3
                  have kTl := XT.out.lt
                  clear FF kF lF HB6 hbb7 hb7
                  have FF := GF
                  have kF := FF.out.1
                  have lF := FF.out.2.1
                  clear GF
                  clear R8
                  go_upto_region 22 with fail
                  have hbb8 := one_box w7 (.cells #[.slice AG (outF).length cG] 30)
                  have GG := Ft.box 30 (A := AG) (l := outF) (c := cG) RDG.out
                  generalize w7.alloc (.cells #[.slice AG (outF).length cG] 30) = w8 at hbb8 GG ⊢
                  have FG := Lib.hid GG
                  have kG := FG.out.1
                  have lG := FG.out.2.1
                  clear GG RDG
                  have GF := Lib.hid (FF.out.below hbb8)
                  have HB8 := Lib.hid (HB7.out.trans (hbb8.mono HB7.out.size))
                  have GXD := Lib.hid (XD.out.below hbb8)
                  have GXT := Lib.hid (XT.out.below hbb8)
                  clear XD dl d0 d1 d2 d3 d4
                  have XD := GXD
                  clear GXD
                  obtain ⟨dl, d0, d1, d2, d3, d4⟩ := XD.out
                  clear XT kT0 kT1 kT2 kTl
                  have XT := GXT
                  clear GXT
                  obtain ⟨kT0, kT1, kT2⟩ := XT.out.cells3
                  have kTl := XT.out.lt
                  clear FF kF lF HB7 hbb8
                  have FF := GF
                  have kF := FF.out.1
                  have lF := FF.out.2.1
                  clear GF
                  have rrF := FF.out.2.2
                  have rrG := FG.out.2.2
                  refine wp_region_held_drew (S := (fun w' => Below w8.heap.size w8 w' ∧ w'.cell? ⟨w3.heap.size, 0, none⟩ = some (.slice AF (outF).length cF) ∧ w'.cell? ⟨w7.heap.size, 0, none⟩ = some (.slice AG (outF).length cG))) (by kernel_rfl) ⟨(Below.refl _ _).drew, kF, kG⟩ (fun hHeld => ?_)
                  refine take_lit (i := 0) (v := ?_) rfl (by kernel_rfl) (by kernel_rfl) (by kernel_rfl) (fun _ _ _ h => h) (by rfl) (fun w hSw => ?_) hHeld ?_
                  rotate_left
                  · obtain ⟨s0, s1, s2⟩ := hSw; go_simp; try with_reducible rfl
                  try simp only [Act.put, List.setIfInBounds_toArray, List.set_cons_zero, List.set_cons_succ]
                  refine take_lit (i := 1) (v := ?_) rfl (by kernel_rfl) (by kernel_rfl) (by kernel_rfl) (fun _ _ _ h => h) (by rfl) (fun w hSw => ?_) hHeld ?_
                  rotate_left
                  · obtain ⟨s0, s1, s2⟩ := hSw; go_simp; try with_reducible rfl
                  try simp only [Act.put, List.setIfInBounds_toArray, List.set_cons_zero, List.set_cons_succ]
                  refine take_lit (i := 2) (v := ?_) rfl (by kernel_rfl) (by kernel_rfl) (by kernel_rfl) (fun _ _ _ h => h) (by rfl) (fun w hSw => ?_) hHeld ?_
                  rotate_left
                  · obtain ⟨s0, s1, s2⟩ := hSw; go_simp; try with_reducible rfl
                  try simp only [Act.put, List.setIfInBounds_toArray, List.set_cons_zero, List.set_cons_succ]
                  refine take_lit (i := 3) (v := ?_) rfl (by kernel_rfl) (by kernel_rfl) (by kernel_rfl) (fun _ _ _ h => h) (by rfl) (fun w hSw => ?_) hHeld ?_
                  rotate_left
                  · obtain ⟨s0, s1, s2⟩ := hSw; go_simp; try with_reducible rfl
                  try simp only [Act.put, List.setIfInBounds_toArray, List.set_cons_zero, List.set_cons_succ]
                  refine take_lit (i := 4) (v := ?_) rfl (by kernel_rfl) (by kernel_rfl) (by kernel_rfl) (fun _ _ _ h => h) (by rfl) (fun w hSw => ?_) hHeld ?_
                  rotate_left
                  · obtain ⟨s0, s1, s2⟩ := hSw; go_simp; try with_reducible rfl
                  try simp only [Act.put, List.setIfInBounds_toArray, List.set_cons_zero, List.set_cons_succ]
                  refine wpAnyH_ready (rs := [5]) (by kernel_rfl) (by simp) (cons_lit (i := 5) rfl (fun K hK => ?_) AllReadyH.nil)
                  go_simp
                  refine (same_is (a := outF) (b := outF) true (.yes rfl) (ClRd.below rrF hHeld.1) (ClRd.below rrG hHeld.1) (by omega)).mono ?_
                  rintro e wn ⟨rfl, hbn⟩
                  try go_simp
                  refine hK.out _ _ (held2 hHeld hbn) (fun hHeld2 => ?_)
                  clear hK K hHeld hbn
                  have hHeld := hHeld2
                  clear hHeld2
                  try simp only [Act.put, List.setIfInBounds_toArray, List.set_cons_zero, List.set_cons_succ]
                  refine take_lit (i := 6) (v := ?_) rfl (by kernel_rfl) (by kernel_rfl) (by kernel_rfl) (fun _ _ _ h => h) (by rfl) (fun w hSw => ?_) hHeld ?_
                  rotate_left
                  · obtain ⟨s0, s1, s2⟩ := hSw; go_simp; try with_reducible rfl
                  try simp only [Act.put, List.setIfInBounds_toArray, List.set_cons_zero, List.set_cons_succ]
                  refine take_lit (i := 7) (v := ?_) rfl (by kernel_rfl) (by kernel_rfl) (by kernel_rfl) (fun _ _ _ h => h) (by rfl) (fun w hSw => ?_) hHeld ?_
                  rotate_left
                  · obtain ⟨s0, s1, s2⟩ := hSw; go_simp; try with_reducible rfl
                  try simp only [Act.put, List.setIfInBounds_toArray, List.set_cons_zero, List.set_cons_succ]
                  refine take_lit (i := 8) (v := ?_) rfl (by kernel_rfl) (by kernel_rfl) (by kernel_rfl) (fun _ _ _ h => h) (by rfl) (fun w hSw => ?_) hHeld ?_
                  rotate_left
                  · obtain ⟨s0, s1, s2⟩ := hSw; go_simp; try with_reducible rfl
                  try simp only [Act.put, List.setIfInBounds_toArray, List.set_cons_zero, List.set_cons_succ]
                  refine take_lit (i := 10) (v := ?_) rfl (by kernel_rfl) (by kernel_rfl) (by kernel_rfl) (fun _ _ _ h => h) (by rfl) (fun w hSw => ?_) hHeld ?_
                  rotate_left
                  · obtain ⟨s0, s1, s2⟩ := hSw; go_simp; try with_reducible rfl
                  try simp only [Act.put, List.setIfInBounds_toArray, List.set_cons_zero, List.set_cons_succ]
                  refine wpAnyH_ready (rs := [9]) (by kernel_rfl) (by simp) (cons_lit (i := 9) rfl (fun K hK => ?_) AllReadyH.nil)
                  go_simp
                  refine (claims_ok _ (fun _ => True) _ outF (ClRd.below rrF hHeld.1) (by omega)).mono ?_
                  rintro e wn ⟨A2, c2, rfl, hO2, hbn⟩
                  have RX2 := Lib.hid (fresh_rd hO2)
                  clear hO2
                  try go_simp
                  refine hK.out _ _ (held2 hHeld hbn) (fun hHeld2 => ?_)
                  clear hK K hHeld hbn
                  have hHeld := hHeld2
                  clear hHeld2
                  try simp only [Act.put, List.setIfInBounds_toArray, List.set_cons_zero, List.set_cons_succ]
                  refine wpAnyH_ready (rs := [11]) (by kernel_rfl) (by simp) (cons_lit (i := 11) rfl (fun K hK => ?_) AllReadyH.nil)
                  go_simp
                  refine (claims_ok _ (fun _ => True) _ outF (ClRd.below rrG hHeld.1) (by omega)).mono ?_
                  rintro e wn ⟨A3, c3, rfl, hO3, hbn⟩
                  have RX3 := Lib.hid (fresh_rd hO3)
                  clear hO3
                  have RY2 := Lib.hid (ClRd.below RX2.out hbn)
                  clear RX2
                  try go_simp
                  refine hK.out _ _ (held2 hHeld hbn) (fun hHeld2 => ?_)
                  clear hK K hHeld hbn
                  have hHeld := hHeld2
                  clear hHeld2
                  try simp only [Act.put, List.setIfInBounds_toArray, List.set_cons_zero, List.set_cons_succ]
                  refine wpAnyH_ready (rs := [12]) (by kernel_rfl) (by simp) (cons_lit (i := 12) rfl (fun K hK => ?_) AllReadyH.nil)
                  go_simp
                  refine ((lawClaims_ok _ (fun _ => True) (fun _ => True) _ _ outF outF RY2.out RX3.out (by omega)).mono (fun _ _ h => h.ans (.yes rfl : Tells true (outF = outF)))).mono ?_
                  rintro e wn ⟨rfl, hbn⟩
                  try go_simp
                  refine hK.out _ _ (held2 hHeld hbn) (fun hHeld2 => ?_)
                  clear hK K hHeld hbn
                  have hHeld := hHeld2
                  clear hHeld2
                  try simp only [Act.put, List.setIfInBounds_toArray, List.set_cons_zero, List.set_cons_succ]
                  refine take_lit (i := 13) (v := ?_) rfl (by kernel_rfl) (by kernel_rfl) (by kernel_rfl) (fun _ _ _ h => h) (by rfl) (fun w hSw => ?_) hHeld ?_
                  rotate_left
                  · obtain ⟨s0, s1, s2⟩ := hSw; go_simp; try with_reducible rfl
                  try simp only [Act.put, List.setIfInBounds_toArray, List.set_cons_zero, List.set_cons_succ]
                  refine take_lit (i := 14) (v := ?_) rfl (by kernel_rfl) (by kernel_rfl) (by kernel_rfl) (fun _ _ _ h => h) (by rfl) (fun w hSw => ?_) hHeld ?_
                  rotate_left
                  · obtain ⟨s0, s1, s2⟩ := hSw; go_simp; try with_reducible rfl
                  try simp only [Act.put, List.setIfInBounds_toArray, List.set_cons_zero, List.set_cons_succ]
                  refine wpAnyH_ready (rs := [15]) (by kernel_rfl) (by simp) (cons_lit (i := 15) rfl (fun K hK => ?_) AllReadyH.nil)
                  go_simp
                  refine (awake_ok _).mono ?_
                  rintro e wn ⟨rfl, hbn⟩
                  try go_simp
                  refine hK.out _ _ (held2 hHeld hbn) (fun hHeld2 => ?_)
                  clear hK K hHeld hbn
                  have hHeld := hHeld2
                  clear hHeld2
                  try simp only [Act.put, List.setIfInBounds_toArray, List.set_cons_zero, List.set_cons_succ]
                  refine take_lit (i := 16) (v := ?_) rfl (by kernel_rfl) (by kernel_rfl) (by kernel_rfl) (fun _ _ _ h => h) (by rfl) (fun w hSw => ?_) hHeld ?_
                  rotate_left
                  · obtain ⟨s0, s1, s2⟩ := hSw; go_simp; try with_reducible rfl
                  try simp only [Act.put, List.setIfInBounds_toArray, List.set_cons_zero, List.set_cons_succ]
                  refine take_lit (i := 17) (v := ?_) rfl (by kernel_rfl) (by kernel_rfl) (by kernel_rfl) (fun _ _ _ h => h) (by rfl) (fun w hSw => ?_) hHeld ?_
                  rotate_left
                  · obtain ⟨s0, s1, s2⟩ := hSw; go_simp; try with_reducible rfl
                  try simp only [Act.put, List.setIfInBounds_toArray, List.set_cons_zero, List.set_cons_succ]
                  refine wpAnyH_done (by kernel_rfl) ?_ _
                  have hz := hHeld.1
                  go_wp2_with fail
                  go_ret
                  exact ⟨rfl, HB8.out.trans (hz.mono HB8.out.size)⟩

set_option maxRecDepth 100000 in
theorem footParts_lifted (os : Os) (started : os.Started) (H : Type) (enc : TypeId × Value → H) :
    ReturnsInHanded {} Try.checked os 4 .any (Rows.footPartsSpec.pre6 enc Try.prog Try.f4 Rows.footPartsRow.domain false) (Rows.footPartsSpec.post enc Try.prog Try.f4 false true false false) := by
  refine law_lifted os started H enc 4 Try.f4 Rows.footPartsSpec (by kernel_rfl) Try.func4 rfl (by kernel_rfl) ?_ ?_
    (ChangeSpec.witness6 (enc := enc) (C := Try.checked) false ⟨#[], #[.slice none 0 0, .agg #[.int .i64 0, .int .i64 0, .int .i64 0]], []⟩ 8 (by kernel_rfl) (by kernel_rfl) (by kernel_rfl) (by kernel_rfl)) ?_
  · rw [Try.params4]
    intro t ht
    simp at ht
    rcases ht with rfl | rfl
    · exact ⟨by kernel_rfl, of_decide_eq_true (by kernel_rfl)⟩
    · exact ⟨by kernel_rfl, of_decide_eq_true (by kernel_rfl)⟩
  · intro ds hl
    rw [Try.params4] at hl
    match ds, hl with
    | [d1, d2], _ => exact ⟨rfl, rfl, rfl⟩
  · intro W base args ds p hval hA
    rw [Try.params4] at hA hval
    obtain ⟨v0, v1, d0, d1, p0, p1, hargs, rfl, rfl, h0, h1⟩ := trodAll_two hA
    subst hargs
    obtain ⟨l0, r0, f0⟩ := claims_of_trod (hval 0 22 v0 rfl rfl) h0
    obtain ⟨x1, q1⟩ := open_three (hval 1 38 v1 rfl rfl) h1
    obtain ⟨p1, p2, rfl, _, b1, _⟩ := q1
    by_cases g0 : 60 < l0.length
    · exact parts_farA W _ v0 l0 x1 p1 p2 r0 f0 g0
    · by_cases g1 : FewP l0
      · by_cases g2 : x1 < 0
        · exact parts_farC W _ v0 l0 x1 p1 p2 r0 f0 (by omega) g1 g2
        · by_cases g3 : (l0.length : Int) ≤ x1
          · exact parts_farD W _ v0 l0 x1 p1 p2 r0 f0 (by omega) g1 (by omega) g3
          · by_cases g4 : p2 < 0
            · exact parts_farE W _ v0 l0 x1 p1 p2 r0 f0 (by omega) g1 (by omega) (by omega) g4
            · by_cases g5 : 20 < p2
              · exact parts_farF W _ v0 l0 x1 p1 p2 r0 f0 (by omega) g1 (by omega) (by omega) (by omega) g5
              · obtain ⟨k, rfl⟩ : ∃ k : Nat, x1 = (k : Int) := ⟨x1.toNat, by omega⟩
                exact parts_near W _ v0 l0 k p1 p2 r0 f0 g1 (by omega) (by omega) b1 (by omega) (by omega)
      · exact parts_farB W _ v0 l0 x1 p1 p2 r0 f0 (by omega) g1

theorem footParts_holds : Rows.FootPartsSaid :=
  OpenClaim.holds_of_wide 4 Try.f4 rfl rfl rfl rfl rfl rfl rfl ⟨rfl, rfl, rfl, rfl, rfl⟩ rfl rfl rfl rfl rfl (by kernel_rfl) Try.func4 (by kernel_rfl)
    (of_decide_eq_true (by kernel_rfl)) (by unfold Func.isWrapper; rw [if_neg (of_decide_eq_false (by kernel_rfl))]; exact ⟨rfl, rfl⟩)
    (fun os started H enc _ => footParts_lifted os started H enc)

#print axioms footParts_holds

end Go.Proofs.Ytdmpdlpfanfjoaa
