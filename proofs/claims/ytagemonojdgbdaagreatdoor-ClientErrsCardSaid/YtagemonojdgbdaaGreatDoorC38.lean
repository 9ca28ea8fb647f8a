import Derived.Test.YtagemonojdgbdaaGreatDoorC23
import Derived.Test.YtagemonojdgbdaaGreatDoorC37
namespace Go.Proofs.YtagemonojdgbdaaGreatDoor
set_option maxRecDepth 100000
open Go.RowKit
structure RC where
 M : Nat
 S : Nat → Prop
 W : Nat → Prop
 Z : Nat → Prop
 ops : List POp
 opsV : Value
 b : Value
 fuel : Int
 may : Value
 ok : Cl → Bool
 lo : Nat
def RC.ms {R : Type} (c : RC) (s : PS R) (f : Value) : MS := ⟨c.opsV, s.pc, s.reg, c.b, c.fuel, c.may, s.value, s.steps, f, 0⟩
structure RC.Fit (c : RC) : Prop where
 own : c.S c.M
 wown : c.W c.M
 sub : ∀ k, c.W k → c.S k
 zown : c.Z c.M
 zsub : ∀ k, c.Z k → c.S k
 low : c.lo ≤ c.M
 ops : c.ops.length ≤ 64
 fuel : 0 ≤ c.fuel ∧ c.fuel ≤ 10000
def PS.Fit {R : Type} (s : PS R) : Prop := (∀ i, RegOk (s.reg i)) ∧ (0 ≤ s.steps ∧ s.steps ≤ 10000) ∧ 0 ≤ s.pc ∧ s.pc ≤ 1000
structure KOk {R : Type} (K : (Nat → Prop) → R → World → Prop) : Prop where
 only : ∀ (Z : Nat → Prop) (r : R) (w w' : World) (G : Nat → Prop), (∀ k, G k → Z k) → K Z r w → Only G w w' → K Z r w'
 lend : ∀ (Z : Nat → Prop) (r : R) (w : World) (b : Nat), K Z r w → w.heap.size ≤ b → K (fun k => Z k ∨ k = b) r w
 back : ∀ (Z Z' : Nat → Prop) (r : R) (w : World), (∀ k, Z' k → Z k) → K Z r w → K Z' r w
def MI {R : Type} (c : RC) (K : (Nat → Prop) → R → World → Prop) (w : World) (s : PS R) : Prop :=
 ∃ f, MachAt w c.M (c.ms s f) ∧ FootIs w c.S f s.cl ∧ MayAt w c.S c.may c.ok ∧ OpRd w (fun k => ¬ c.S k) c.opsV c.ops ∧ K c.Z s.rows w ∧ (∀ k, c.S k → k < w.heap.size) ∧ s.Fit
def ActR {R : Type} (c : RC) (K : (Nat → Prop) → R → World → Prop) (p : PS R × Int) (w : World) (e : Ending) (w' : World) : Prop := e = .returned (.int .i64 p.2) ∧ MI c K w' p.1 ∧ Only c.W w w'
section
variable {R : Type} {c : RC} {K : (Nat → Prop) → R → World → Prop} {w w' : World} {s s' : PS R}
theorem OpRd.only {S G : Nat → Prop} {v : Value} {l : List POp} (h : OpRd w G v l) (ho : Only S w w') (hd : ∀ k, G k → ¬ S k) : OpRd w' G v l := RdK.only h ho hd
theorem MI.turn (h : MI c K w s) (hc : c.Fit) (hK : KOk K) (ho : Only (fun k => k = c.M) w w') (hm : ∀ f, MachAt w c.M (c.ms s f) → MachAt w' c.M (c.ms s' f)) (hcl : s'.cl = s.cl) (hr : s'.rows = s.rows) (hf : s'.Fit) : MI c K w' s' := by
 obtain ⟨f, h1, h2, h3, h4, h5, h6, h7⟩ := h
 have hS : ∀ k, k = c.M → c.S k := fun k hk => by subst hk; exact hc.own
 refine ⟨f, hm f h1, by rw [hcl]; exact h2.only ho hS, h3.only ho hS, h4.only ho (fun k hk e => hk (hS k e)), by rw [hr]; exact hK.only _ _ _ _ _ (fun k hk => by subst hk; exact hc.zown) h5 ho, fun k hk => Nat.lt_of_lt_of_le (h6 k hk) ho.size, hf⟩
theorem MI.below (h : MI c K w s) (hc : c.Fit) (hK : KOk K) (hb : Below w.heap.size w w') : MI c K w' s :=
 h.turn hc hK (Only.of_below hb _) (fun f hm => hm.below hb) rfl rfl (by obtain ⟨_, _, _, _, _, _, _, h7⟩ := h; exact h7)
theorem Only.toS (hc : c.Fit) (ho : Only (fun k => k = c.M) w w') : Only c.W w w' := ho.mono (fun k _ hk => by subst hk; exact hc.wown)
theorem mstep_ok (hc : c.Fit) (hK : KOk K) (h : MI c K w s) (hlt : s.steps < c.fuel) :
  Calls Tryz.prog 114 #[.pointer (some ⟨c.M, 0, none⟩)] w (ActR c K ({ s with steps := s.steps + 1 }, 0) w) := by
 have h0 := h
 obtain ⟨f, h1, _, _, _, _, _, h7⟩ := h
 refine (step_ok w c.M (c.ms s f) h1 h7.2.1.1 (by have := h7.2.1.2; simp only [RC.ms]; omega) hlt).mono ?_
 rintro e w' ⟨rfl, hm, ho⟩
 refine ⟨rfl, ?_, ho.toS hc⟩
 have hf := hc.fuel
 obtain ⟨f', g1, g2, g3, g4, g5, g6, g7⟩ := h0
 obtain rfl : f' = f := by
  have := g1.foot
  rw [h1.foot] at this
  simp only [RC.ms, Option.some.injEq] at this
  exact this.symm
 exact (show MI c K w s from ⟨f', g1, g2, g3, g4, g5, g6, g7⟩).turn hc hK ho (fun f'' hf'' => by
  obtain rfl : f'' = f' := by
   have := hf''.foot
   rw [h1.foot] at this
   simp only [RC.ms, Option.some.injEq] at this
   exact this.symm
  exact hm) rfl rfl ⟨g7.1, ⟨by show 0 ≤ s.steps + 1; have := g7.2.1.1; omega, by show s.steps + 1 ≤ 10000; omega⟩, g7.2.2⟩
theorem mstep_no (hc : c.Fit) (hK : KOk K) (h : MI c K w s) (hle : c.fuel ≤ s.steps) :
  Calls Tryz.prog 114 #[.pointer (some ⟨c.M, 0, none⟩)] w (ActR c K (s, 20) w) := by
 have h0 := h
 obtain ⟨f, h1, _, _, _, _, _, h7⟩ := h
 refine (step_no w c.M (c.ms s f) h1 hle).mono ?_
 rintro e w' ⟨rfl, hm, ho⟩
 exact ⟨rfl, h0.turn hc hK ho (fun f'' hf'' => by
  obtain rfl : f'' = f := by
   have := hf''.foot
   rw [h1.foot] at this
   simp only [RC.ms, Option.some.injEq] at this
   exact this.symm
  exact hm) rfl rfl h7, ho.toS hc⟩
end
theorem RdK.bound {k : Nat} {w : World} {F : Nat → Prop} {v : Value} {xs : List (List Value)} (h : RdK k w F v xs) (hk : ∀ x ∈ xs, x.length = k) (hk0 : 0 < k) : RdK k w (fun b => F b ∧ b < w.heap.size) v xs := by
 obtain ⟨A, n, c, h1, h2, h3, h4, h5⟩ := h
 refine ⟨A, n, c, h1, h2, h3, h4, fun h0 => ?_⟩
 obtain ⟨b, o, e1, e2, e3⟩ := h5 h0
 refine ⟨b, o, e1, ⟨e2, ?_⟩, e3⟩
 obtain ⟨x, hx⟩ : ∃ x, xs[0]? = some x := ⟨_, List.getElem?_eq_getElem (by omega)⟩
 have hxl := hk x (List.mem_of_getElem? hx)
 exact World.block_lt_of_cell? _ _ (e3 0 x hx 0 _ (List.getElem?_eq_getElem (by omega)))
def actF : Nat → FuncId
 | 1 => 99
 | 2 => 100
 | 3 => 101
 | 4 => 102
 | 5 => 103
 | 6 => 104
 | 7 => 105
 | 8 => 106
 | 9 => 107
 | 10 => 108
 | 11 => 109
 | 12 => 110
 | 13 => 111
 | 14 => 112
 | _ => 113
theorem MachAt.act {w : World} {M : Nat} {s : MS} (h : MachAt w M s) {d : Nat} (h1 : 1 ≤ d) (h2 : d ≤ 15) : w.cell? ⟨M, 1 + d, none⟩ = some (fnV (actF d)) := by
 match d, h1, h2 with
 | 1, _, _ | 2, _, _ | 3, _, _ | 4, _, _ | 5, _, _ | 6, _, _ | 7, _, _ | 8, _, _ | 9, _, _ | 10, _, _ | 11, _, _ | 12, _, _ | 13, _, _ | 14, _, _ | 15, _, _ => simp [World.cell?, h.is, MS.cells, actF]
theorem actF_enters {d : Nat} (h1 : 1 ≤ d) (h2 : d ≤ 15) : ∀ args w, (callFunc (actF d) args).run Tryz.prog w = .ok (.enter (actF d) args) w := by
 match d, h1, h2 with
 | 1, _, _ => exact enters_of Tryz.func99 (by kernel_rfl) rfl
 | 2, _, _ => exact enters_of Tryz.func100 (by kernel_rfl) rfl
 | 3, _, _ => exact enters_of Tryz.func101 (by kernel_rfl) rfl
 | 4, _, _ => exact enters_of Tryz.func102 (by kernel_rfl) rfl
 | 5, _, _ => exact enters_of Tryz.func103 (by kernel_rfl) rfl
 | 6, _, _ => exact enters_of Tryz.func104 (by kernel_rfl) rfl
 | 7, _, _ => exact enters_of Tryz.func105 (by kernel_rfl) rfl
 | 8, _, _ => exact enters_of Tryz.func106 (by kernel_rfl) rfl
 | 9, _, _ => exact enters_of Tryz.func107 (by kernel_rfl) rfl
 | 10, _, _ => exact enters_of Tryz.func108 (by kernel_rfl) rfl
 | 11, _, _ => exact enters_of Tryz.func109 (by kernel_rfl) rfl
 | 12, _, _ => exact enters_of Tryz.func110 (by kernel_rfl) rfl
 | 13, _, _ => exact enters_of Tryz.func111 (by kernel_rfl) rfl
 | 14, _, _ => exact enters_of Tryz.func112 (by kernel_rfl) rfl
 | 15, _, _ => exact enters_of Tryz.func113 (by kernel_rfl) rfl
end Go.Proofs.YtagemonojdgbdaaGreatDoor
