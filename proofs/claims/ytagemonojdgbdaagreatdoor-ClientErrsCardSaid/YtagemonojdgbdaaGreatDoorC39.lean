import Derived.Test.YtagemonojdgbdaaGreatDoorC20
import Derived.Test.YtagemonojdgbdaaGreatDoorC38
import Derived.Deep.RegionWith
namespace Go.Proofs.YtagemonojdgbdaaGreatDoor
set_option maxRecDepth 100000
open Go.RowKit

section
variable {R : Type} {c : RC} {K : (Nat → Prop) → R → World → Prop} {get : R → List UInt8 → Option Rw} {w : World} {s : PS R}
theorem MI.drew (h : MI c K w s) (hc : c.Fit) (hK : KOk K) : MI c K w.drew s := h.below hc hK ((Below.refl _ _).drew)
end
def pcOf (w : World) (M : Nat) : Int := match w.cell? ⟨M, 17, none⟩ with
 | some (.int _ n) => n
 | _ => 0
theorem MI.pcOf {R : Type} {c : RC} {K : (Nat → Prop) → R → World → Prop} {w : World} {s : PS R} (h : MI c K w s) : pcOf w c.M = s.pc := by
 obtain ⟨f, h1, _⟩ := h
 have := h1.pc
 unfold Proofs.YtagemonojdgbdaaGreatDoor.pcOf
 rw [this]
 rfl
def ActsOk {R : Type} (c : RC) (K : (Nat → Prop) → R → World → Prop) (act : POp → PS R → PS R × Int) (fr tt : Nat) : Prop :=
 ∀ (i : Nat) (x : POp), fr ≤ i → i < tt → c.ops[i]? = some x → (1 ≤ x.d ∧ x.d ≤ 15) ∧ ∀ (s : PS R), s.pc = (i : Int) + 1 →
  (∀ w, MI c K w s → Calls Tryz.prog (actF x.d.toNat) #[.pointer (some ⟨c.M, 0, none⟩), x.val] w (ActR c K (act x s) w)) ∧ ((act x s).2 = 0 → s.pc ≤ (act x s).1.pc)
def BlkR {R : Type} (c : RC) (K : (Nat → Prop) → R → World → Prop) (act : POp → PS R → PS R × Int) (fr tt : Nat) (s0 : PS R) (w wr : World) : Prop :=
 ∃ (s : PS R) (g : Nat), MI c K wr s ∧ Only c.W w wr ∧ blockP c.fuel c.ops act tt (tt - fr) s0 = blockP c.fuel c.ops act tt g s ∧ (tt : Int) - s.pc ≤ g ∧ (fr : Int) ≤ s.pc
set_option maxHeartbeats 4000000 in
theorem block_ok {R : Type} {c : RC} {K : (Nat → Prop) → R → World → Prop} {act : POp → PS R → PS R × Int} {w : World} {s : PS R} (hc : c.Fit) (hK : KOk K) (h : MI c K w s) (fr tt : Nat) (hft : fr ≤ tt) (hto : tt ≤ c.ops.length) (ha : ActsOk c K act fr tt) :
  Calls Tryz.prog 66 #[.pointer (some ⟨c.M, 0, none⟩), .int .i64 fr, .int .i64 tt] w (ActR c K (blockP c.fuel c.ops act tt (tt - fr) { s with pc := fr }) w) := by
 have hlen := hc.ops
 have h0 : MI c K (w.setCell ⟨c.M, 17, none⟩ (.int .i64 fr)) { s with pc := fr } := by
  refine h.turn hc hK (only1 w c.M 17 _) (fun f hm => hm.setPc _) rfl rfl ?_
  obtain ⟨_, _, _, _, _, _, _, h7⟩ := h
  exact ⟨h7.1, h7.2.1, by show (0 : Int) ≤ (fr : Int); omega, by show (fr : Int) ≤ 1000; omega⟩
 have HC := Lib.hid (And.intro hc (And.intro hK ha))
 have H0 := Lib.hid (show BlkR c K act fr tt { s with pc := fr } w (w.setCell ⟨c.M, 17, none⟩ (.int .i64 fr)) from ⟨_, tt - fr, h0, (only1 w c.M 17 _).toS hc, rfl, by show (tt : Int) - (fr : Int) ≤ ((tt - fr : Nat) : Int); omega, Int.le_refl _⟩)
 obtain ⟨f, hm, _⟩ := h
 have cf := hm.free 17
 have cp := hm.pc
 simp only [RC.ms] at cp
 clear hm ha h0 hc hK
 go_enter Tryz.func66, Tryz.ntmps66
 go_wp2_with fail
 go_step3
 go_wp2_with fail
 go_step3
 go_wp2_with fail
 go_loopw [7] (fun e wr => e = .int .i64 0 ∧ BlkR c K act fr tt { s with pc := fr } w wr) (fun _ wr => ((tt : Int) - pcOf wr c.M).toNat)
 case atStart => exact ⟨rfl, H0.out⟩
 case round =>
  obtain ⟨rfl, s1, g, r1, r2, r3, r4, r5⟩ := hrel
  have HR := Lib.hid (And.intro r1 (And.intro r2 (And.intro r3 (And.intro r4 r5))))
  have hpc := r1.pcOf
  obtain ⟨f1, hm1, _, _, hops, _, _, hfit⟩ := r1
  have c17 := hm1.pc
  simp only [RC.ms] at c17
  by_cases hlt : s1.pc < tt
  ·obtain ⟨i, hi⟩ : ∃ i : Nat, s1.pc = (i : Int) := ⟨s1.pc.toNat, by have := hfit.2.2.1; omega⟩
   have hi1 : fr ≤ i := by omega
   have hi2 : i < tt := by omega
   obtain ⟨x, hx⟩ : ∃ x, c.ops[i]? = some x := ⟨_, List.getElem?_eq_getElem (by omega)⟩
   obtain ⟨g', rfl⟩ : ∃ g', g = g' + 1 := ⟨g - 1, by omega⟩
   have hxp : c.ops[s1.pc.toNat]? = some x := by rw [hi]; simpa using hx
   by_cases hdry : c.fuel ≤ s1.steps
   ·have HE := Lib.hid (And.intro (blockP_dry (fuel := c.fuel) (ops := c.ops) (act := act) (g := g') hlt hdry) (mstep_no HC.out.1 HC.out.2.1 HR.out.1 hdry))
    clear r2 r3 r4 r5 hpc hm1 hops hfit hx hxp hi
    go_wp2_with fail
    refine HE.out.2.mono ?_
    rintro e w2 ⟨rfl, hI, ho⟩
    have HI := Lib.hid (And.intro hI ho)
    clear hI ho
    go_wp2_with fail
    go_ret
    refine ⟨?_, ?_, HR.out.2.1.trans HI.out.2 (fun _ _ h => h)⟩
    ·rw [HR.out.2.2.1, HE.out.1]; rfl
    ·rw [HR.out.2.2.1, HE.out.1]; exact HI.out.1
   ·have hst : s1.steps < c.fuel := by omega
    have HX := Lib.hid (And.intro hx (And.intro hxp (And.intro hi (And.intro hst hlt))))
    have HS := Lib.hid (mstep_ok HC.out.1 HC.out.2.1 HR.out.1 hst)
    clear r2 r3 r4 r5 hpc hm1 hops hfit hx hxp hdry hst hi
    go_wp2_with fail
    refine HS.out.mono ?_
    rintro e w2 ⟨rfl, hI, ho⟩
    clear c17 hlt
    have HI := Lib.hid (And.intro hI (HR.out.2.1.trans ho (fun _ _ h => h)))
    obtain ⟨f2, hm2, _, _, hops2, _, hS2, hfit2⟩ := hI
    obtain ⟨A, cp2, hov, hlc, hcm⟩ := hops2.slice
    unfold maxLen at hcm
    have c0 := hm2.ops
    have c17 := hm2.pc
    have f17 := hm2.free 17
    rw [hov] at hops2
    obtain ⟨b, o, rfl, hFb, d0, d1, d2, d3, d4⟩ := hops2.at_ HX.out.1
    simp only [RC.ms, hov, HX.out.2.2.1] at c0 c17
    have hMl := hm2.lt
    obtain ⟨xd, xa, xb, xc, xn⟩ := x
    simp only at d0 d1 d2 d3 d4
    have hbM : ¬ b = c.M := fun e => hFb (by rw [e]; exact HC.out.1.own)
    have hbl := World.block_lt_of_cell? _ _ d0
    simp only at hbl
    have i1 : (0 : Int) ≤ (i : Int) := by omega
    have i2 : (i : Int) < (c.ops.length : Int) := by omega
    clear hops2 hm2 hfit2 hS2 ho hov hFb HS
    go_upto_region 6 with fail
    go_region
    go_upto_region 7 with fail
    have hb6 : Below w2.heap.size w2 (w2.alloc (.cells #[.int .i64 xd, .int .i64 xa, .int .i64 xb, .int .i64 xc, .int .i64 xn] 104)).drew := (one_new w2 (.cells #[.int .i64 xd, .int .i64 xa, .int .i64 xb, .int .i64 xc, .int .i64 xn] 104)).drew
    have k6 : (w2.alloc (.cells #[.int .i64 xd, .int .i64 xa, .int .i64 xb, .int .i64 xc, .int .i64 xn] 104)).drew.heap[w2.heap.size]? = some (.cells #[.int .i64 xd, .int .i64 xa, .int .i64 xb, .int .i64 xc, .int .i64 xn] 104 (0, 0)) := heap_alloc_new w2 _
    clear c0 c17 f17 d0 d1 d2 d3 d4
    generalize (w2.alloc (.cells #[.int .i64 xd, .int .i64 xa, .int .i64 xb, .int .i64 xc, .int .i64 xn] 104)).drew = w6 at hb6 k6 ⊢
    obtain ⟨O, hO⟩ : ∃ y, w2.heap.size = y := ⟨_, rfl⟩
    rw [hO] at k6 ⊢
    have hI6 := HI.out.1.below HC.out.1 HC.out.2.1 hb6
    have hOM : ¬ O = c.M := by omega
    obtain ⟨f6, hm6, _⟩ := hI6
    have c17 := hm6.pc
    have f17 := hm6.free 17
    simp only [RC.ms, HX.out.2.2.1] at c17
    have hw1 : IntKind.i64.wrap ((i : Int) + 1) = (i : Int) + 1 := by rw [IntKind.wrap_i64]; omega
    have h7 : MI c K (w6.setCell ⟨c.M, 17, none⟩ (.int .i64 ((i : Int) + 1))) { s1 with steps := s1.steps + 1, pc := s1.pc + 1 } := by
     have h6 := HI.out.1.below HC.out.1 HC.out.2.1 hb6
     refine h6.turn HC.out.1 HC.out.2.1 (only1 w6 c.M 17 _) (fun f hm => ?_) rfl rfl ?_
     ·have := hm.setPc ((i : Int) + 1)
      simp only [RC.ms, HX.out.2.2.1] at this ⊢
      exact this
     ·obtain ⟨_, _, _, _, _, _, _, q7⟩ := h6
      exact ⟨q7.1, q7.2.1, by show 0 ≤ s1.pc + 1; have := q7.2.2.1; simp only at this; omega, by show s1.pc + 1 ≤ 1000; rw [HX.out.2.2.1]; omega⟩
    have k7 := (only1 w6 c.M 17 (.int .i64 ((i : Int) + 1))).heap k6 hOM
    have hO7 : Only c.W w (w6.setCell ⟨c.M, 17, none⟩ (.int .i64 ((i : Int) + 1))) := (HI.out.2.trans (Only.of_below hb6 c.W) (fun _ _ h => h)).trans ((only1 w6 c.M 17 _).toS HC.out.1) (fun _ _ h => h)
    have H7 := Lib.hid (And.intro h7 (And.intro k7 hO7))
    clear h7 k7 hO7 hm6 k6 hb6 hO
    go_upto_region 8 with fail
    generalize w6.setCell ⟨c.M, 17, none⟩ (.int .i64 ((i : Int) + 1)) = w7 at H7 ⊢
    clear c17 f17 hw1
    obtain ⟨⟨hd1, hd2⟩, hact⟩ := HC.out.2.2 i _ hi1 hi2 HX.out.1
    simp only at hd1 hd2
    obtain ⟨dn, rfl⟩ : ∃ dn : Nat, xd = (dn : Int) := ⟨xd.toNat, by omega⟩
    obtain ⟨h7, k7, hO7⟩ := H7.out
    obtain ⟨f7, hm7, _⟩ := id h7
    have ca := hm7.act (show 1 ≤ dn by omega) (show dn ≤ 15 by omega)
    have hen := actF_enters (show 1 ≤ dn by omega) (show dn ≤ 15 by omega)
    obtain ⟨fn, hfn⟩ : ∃ fn, actF dn = fn := ⟨_, rfl⟩
    have hact2 := hact { s1 with steps := s1.steps + 1, pc := s1.pc + 1 } (by show s1.pc + 1 = (i : Int) + 1; rw [HX.out.2.2.1])
    rw [show (POp.mk (dn : Int) xa xb xc xn).d.toNat = dn from Int.toNat_natCast dn] at hact2
    rw [hfn] at ca hen hact2
    unfold fnV at ca
    have HA := Lib.hid (And.intro (hact2.1 w7.drew (h7.drew HC.out.1 HC.out.2.1)) hact2.2)
    obtain ⟨e0, e1, e2, e3, e4⟩ := blk_cell5 k7
    have j1 : (0 : Int) ≤ (dn : Int) := by omega
    have j2 : (dn : Int) < 16 := by omega
    clear h7 k7 hO7 hm7 hact hact2 hfn
    go_still_tail 9, (by kernel_rfl)
    change wpList _ _ _ _ _ w7.drew
    have HD := Lib.hid (Below.refl w7.heap.size w7).drew
    generalize w7.drew = w8 at HA HD ⊢
    go_wp2_with fail
    obtain ⟨s3, n, hp⟩ : ∃ s3 n, act (POp.mk (dn : Int) xa xb xc xn) { s1 with steps := s1.steps + 1, pc := s1.pc + 1 } = (s3, n) := ⟨_, _, rfl⟩
    rw [hp] at HA
    have HP := Lib.hid hp
    clear hp
    refine HA.out.1.mono ?_
    rintro e w9 ⟨rfl, hI9, ho9⟩
    have hO9 : Only c.W w w9 := (H7.out.2.2.trans (Only.of_below HD.out c.W) (fun _ _ h => h)).trans ho9 (fun _ _ h => h)
    by_cases hn : n = 0
    ·subst hn
     have HE := Lib.hid (blockP_on (g := g') (tt := (tt : Int)) HX.out.2.2.2.2 HX.out.2.2.2.1 HX.out.2.1 HP.out)
     have HF := Lib.hid (And.intro hI9 hO9)
     have hpc9 := hI9.pcOf
     have hge := HA.out.2 rfl
     have hpcr := HR.out.1.pcOf
     simp only [HX.out.2.2.1] at hge hpcr hpc9
     have HG := Lib.hid (And.intro hge (And.intro hpcr hpc9))
     clear hI9 hO9 ho9 hge hpcr hpc9
     go_wp2_with fail
     go_roundw
     case rel =>
      refine ⟨rfl, s3, g', HF.out.1, HF.out.2, by rw [HR.out.2.2.1, HE.out], ?_, ?_⟩
      ·have h1 := HR.out.2.2.2.1
       have h2 := HG.out.1
       rw [HX.out.2.2.1] at h1
       omega
      ·have h2 := HG.out.1
       omega
     case measure =>
      rw [HG.out.2.1, HG.out.2.2]
      have h2 := HG.out.1
      omega
    ·have hn2 : (n != 0) = true := by simpa using hn
     have HE := Lib.hid (blockP_stop (g := g') (tt := (tt : Int)) HX.out.2.2.2.2 HX.out.2.2.2.1 HX.out.2.1 HP.out hn)
     have HF := Lib.hid (And.intro hI9 hO9)
     clear hn hI9 hO9 ho9
     go_wp2_with fail
     go_ret
     refine ⟨?_, ?_, HF.out.2⟩
     ·rw [HR.out.2.2.1, HE.out]; rfl
     ·rw [HR.out.2.2.1, HE.out]; exact HF.out.1
  ·have HE := Lib.hid (blockP_end (fuel := c.fuel) (ops := c.ops) (act := act) (g := g) (show (tt : Int) ≤ s1.pc by omega))
   clear r2 r3 r4 r5 hpc hm1 hops hfit
   go_wp2_with fail
   go_ret
   refine ⟨?_, ?_, HR.out.2.1⟩
   ·rw [HR.out.2.2.1, HE.out]; rfl
   ·rw [HR.out.2.2.1, HE.out]; exact HR.out.1
end Go.Proofs.YtagemonojdgbdaaGreatDoor
