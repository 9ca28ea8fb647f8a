import Derived.Test.YtagemonojdgbdaaGreatDoorQ33
import Derived.Test.YtagemonojdgbdaaGreatDoorQ40
namespace Go.Proofs.YtagemonojdgbdaaGreatDoor
set_option maxRecDepth 100000
open Go.RowKit
structure RC where
 M : Nat
 S : Nat -> Prop
 W : Nat -> Prop
 Z : Nat -> Prop
 ops : List cC
 opsV : Value
 b : Value
 fuel : Int
 may : Value
 ok : Cl -> Bool
 lo : Nat
def RC.ms {R : Type} (c : RC) (s : PS R) (f : Value) : MS := ⟨c.opsV, s.pc, s.ij, c.b, c.fuel, c.may, s.value, s.steps, f, 0⟩
structure RC.Fit (c : RC) : Prop where
 own : c.S c.M
 K6 : c.W c.M
 sub : ∀ k, c.W k -> c.S k
 K7 : c.Z c.M
 Ro : ∀ k, c.Z k -> c.S k
 low : c.lo <= c.M
 ops : c.ops.length <= 64
 fuel : 0 <= c.fuel /\ c.fuel <= 10000
def PS.Fit {R : Type} (s : PS R) : Prop := (∀ i, fO (s.ij i)) /\ (0 <= s.steps /\ s.steps <= 10000) /\ 0 <= s.pc /\ s.pc <= 1000
structure yt {R : Type} (K : (Nat -> Prop) -> R -> World -> Prop) : Prop where
 only : ∀ (Z : Nat -> Prop) (r : R) (w w' : World) (G : Nat -> Prop), (∀ k, G k -> Z k) -> K Z r w -> Only G w w' -> K Z r w'
 eN : ∀ (Z : Nat -> Prop) (r : R) (w : World) (b : Nat), K Z r w -> w.heap.size <= b -> K (fun k => Z k \/ k = b) r w
 back : ∀ (Z Z' : Nat -> Prop) (r : R) (w : World), (∀ k, Z' k -> Z k) -> K Z r w -> K Z' r w
def MI {R : Type} (c : RC) (K : (Nat -> Prop) -> R -> World -> Prop) (w : World) (s : PS R) : Prop :=
 ∃ f, aB w c.M (c.ms s f) /\ ia w c.S f s.cl /\ tZ w c.S c.may c.ok /\ pS w (fun k => ¬ c.S k) c.opsV c.ops /\ K c.Z s.rows w /\ (∀ k, c.S k -> k < w.heap.size) /\ s.Fit
def Dq {R : Type} (c : RC) (K : (Nat -> Prop) -> R -> World -> Prop) (p : PS R × Int) (w : World) (e : Ending) (w' : World) : Prop := e = .returned (.int .i64 p.2) /\ MI c K w' p.1 /\ Only c.W w w'
section
variable {R : Type} {c : RC} {K : (Nat -> Prop) -> R -> World -> Prop} {w w' : World} {s s' : PS R}
theorem pS.only {S G : Nat -> Prop} {v : Value} {l : List cC} (h : pS w G v l) (ho : Only S w w') (hd : ∀ k, G k -> ¬ S k) : pS w' G v l := bE.only h ho hd
theorem MI.turn (h : MI c K w s) (hc : c.Fit) (hK : yt K) (ho : Only (fun k => k = c.M) w w') (hm : ∀ f, aB w c.M (c.ms s f) -> aB w' c.M (c.ms s' f)) (hcl : s'.cl = s.cl) (hr : s'.rows = s.rows) (hf : s'.Fit) : MI c K w' s' := by
 obtain ⟨f, h1, h2, h3, h4, h5, h6, h7⟩ := h
 have hS : ∀ k, k = c.M -> c.S k := fun k hk => by subst hk; exact hc.own
 refine ⟨f, hm f h1, by rw [hcl]; exact h2.only ho hS, h3.only ho hS, h4.only ho (fun k hk e => hk (hS k e)), by rw [hr]; exact hK.only _ _ _ _ _ (fun k hk => by subst hk; exact hc.K7) h5 ho, fun k hk => Nat.lt_of_lt_of_le (h6 k hk) ho.size, hf⟩
theorem MI.below (h : MI c K w s) (hc : c.Fit) (hK : yt K) (hb : Below w.heap.size w w') : MI c K w' s :=
 h.turn hc hK (Only.of_below hb _) (fun f hm => hm.below hb) rfl rfl (by obtain ⟨_, _, _, _, _, _, _, h7⟩ := h; exact h7)
theorem Only.K8 (hc : c.Fit) (ho : Only (fun k => k = c.M) w w') : Only c.W w w' := ho.mono (fun k _ hk => by subst hk; exact hc.K6)
theorem FZ (hc : c.Fit) (hK : yt K) (h : MI c K w s) (hlt : s.steps < c.fuel) :
  Calls Tryz.prog 114 #[.pointer (some ⟨c.M, 0, none⟩)] w (Dq c K ({ s with steps := s.steps + 1 }, 0) w) := by
 have h0 := h
 obtain ⟨f, h1, _, _, _, _, _, h7⟩ := h
 refine (IG w c.M (c.ms s f) h1 h7.2.1.1 (by have := h7.2.1.2; simp only [RC.ms]; omega) hlt).mono ?_
 rintro e w' ⟨rfl, hm, ho⟩
 refine ⟨rfl, ?_, ho.K8 hc⟩
 have hf := hc.fuel
 obtain ⟨f', g1, g2, g3, g4, g5, g6, g7⟩ := h0
 obtain rfl : f' = f := by
  have := g1.foot
  rw [h1.foot] at this
  simp only [RC.ms, Option.some.injEq] at this
  exact this.symm
 exact (show MI c K w s from ⟨f', g1, g2, g3, g4, g5, g6, g7⟩).turn hc hK ho (fun LY Ao => by
  obtain rfl : LY = f' := by
   have := Ao.foot
   rw [h1.foot] at this
   simp only [RC.ms, Option.some.injEq] at this
   exact this.symm
  exact hm) rfl rfl ⟨g7.1, ⟨by show 0 <= s.steps + 1; have := g7.2.1.1; omega, by show s.steps + 1 <= 10000; omega⟩, g7.2.2⟩
theorem F3 (hc : c.Fit) (hK : yt K) (h : MI c K w s) (hle : c.fuel <= s.steps) :
  Calls Tryz.prog 114 #[.pointer (some ⟨c.M, 0, none⟩)] w (Dq c K (s, 20) w) := by
 have h0 := h
 obtain ⟨f, h1, _, _, _, _, _, h7⟩ := h
 refine (IH w c.M (c.ms s f) h1 hle).mono ?_
 rintro e w' ⟨rfl, hm, ho⟩
 exact ⟨rfl, h0.turn hc hK ho (fun LY Ao => by
  obtain rfl : LY = f := by
   have := Ao.foot
   rw [h1.foot] at this
   simp only [RC.ms, Option.some.injEq] at this
   exact this.symm
  exact hm) rfl rfl h7, ho.K8 hc⟩
end
def RC.eN (c : RC) (R0 : Nat) : RC := { c with S := fun k => c.S k \/ k = R0, Z := fun k => c.Z k \/ k = R0 }
theorem RC.Fit.eN {c : RC} (h : c.Fit) (R0 : Nat) : (c.eN R0).Fit := ⟨.inl h.own, h.K6, fun k hk => .inl (h.sub k hk), .inl h.K7, fun k hk => hk.elim (fun h' => .inl (h.Ro k h')) .inr, h.low, h.ops, h.fuel⟩
theorem bE.bound {k : Nat} {w : World} {F : Nat -> Prop} {v : Value} {xs : List (List Value)} (h : bE k w F v xs) (hk : ∀ x ∈ xs, x.length = k) (dW : 0 < k) : bE k w (fun b => F b /\ b < w.heap.size) v xs := by
 obtain ⟨A, n, c, h1, h2, h3, h4, h5⟩ := h
 refine ⟨A, n, c, h1, h2, h3, h4, fun h0 => ?_⟩
 obtain ⟨b, o, e1, e2, e3⟩ := h5 h0
 refine ⟨b, o, e1, ⟨e2, ?_⟩, e3⟩
 obtain ⟨x, hx⟩ : ∃ x, xs[0]? = some x := ⟨_, List.getElem?_eq_getElem (by omega)⟩
 have hxl := hk x (List.mem_of_getElem? hx)
 exact World.block_lt_of_cell? _ _ (e3 0 x hx 0 _ (List.getElem?_eq_getElem (by omega)))
theorem MI.eN {R : Type} {c : RC} {K : (Nat -> Prop) -> R -> World -> Prop} {w w1 : World} {s : PS R} {R0 : Nat} (h : MI c K w s) (hc : c.Fit) (hK : yt K) (hb : Below w.heap.size w w1) (hR : w.heap.size <= R0) (WO : R0 < w1.heap.size) : MI (c.eN R0) K w1 s := by
 have h' := h.below hc hK hb
 obtain ⟨f, h1, h2, h3, h4, h5, h6, h7⟩ := h
 obtain ⟨f', g1, _, _, _, g5, g6, _⟩ := h'
 have ho := Only.of_below hb (fun _ => False)
 have hF : ∀ k, (¬ c.S k /\ k < w.heap.size) -> ¬ (c.eN R0).S k := fun k hk hs => hs.elim hk.1 (fun e => by omega)
 have Pg : f' = f := by
  have e1 := g1.foot
  rw [(h1.below hb).foot] at e1
  simp only [RC.ms, Option.some.injEq] at e1
  exact e1.symm
 subst Pg
 refine ⟨f', g1, ⟨(bE.mono (bE.bound h2.1 (bI _) (by decide)) hF).only ho (fun _ _ h => h), h2.2⟩, ?_, bE.only (bE.mono (bE.bound h4 (fun x hx => by obtain ⟨y, _, rfl⟩ := List.mem_map.1 hx; rfl) (by decide)) hF) ho (fun _ _ h => h), hK.only _ _ _ _ _ (fun _ h => h.elim) (hK.eN _ _ _ _ h5 hR) ho, fun k hk => hk.elim (g6 k) (fun e => by omega), h7⟩
 rcases h3 with h3 | ⟨B, fv, f, e1, e2, e3, e4, e5⟩
 ·exact .inl h3
 ·exact .inr ⟨B, fv, f, e1, hF B ⟨e2, World.block_lt_of_cell? _ _ e3⟩, ho.cell e3 (fun h => h), (bE.mono (bE.bound e4 (bI _) (by decide)) hF).only ho (fun _ _ h => h), e5⟩
theorem MI.back {R : Type} {c : RC} {K : (Nat -> Prop) -> R -> World -> Prop} {w w' : World} {s : PS R} {R0 : Nat} (h : MI (c.eN R0) K w s) (hR : ¬ c.S R0) (hc : c.Fit) (hK : yt K) (ho : Only (fun k => k = R0) w w') : MI c K w' s := by
 obtain ⟨f, h1, h2, h3, h4, h5, h6, h7⟩ := h
 have hT : ∀ k, k = R0 -> (c.eN R0).S k := fun k hk => .inr hk
 have hF : ∀ k, ¬ (c.eN R0).S k -> ¬ c.S k := fun k hk hs => hk (.inl hs)
 refine ⟨f, h1.only ho (fun e => hR (by rw [<- e]; exact hc.own)), ⟨bE.mono (h2.only ho hT).1 hF, h2.2⟩, ?_, bE.mono (h4.only ho (fun k hk e => hk (hT k e))) hF, hK.back _ _ _ _ (fun k hk => .inl hk) (hK.only _ _ _ _ _ (fun k hk => .inr hk) h5 ho), fun k hk => Nat.lt_of_lt_of_le (h6 k (.inl hk)) ho.size, h7⟩
 rcases h3.only ho hT with h3 | ⟨B, fv, f, e1, e2, e3, e4, e5⟩
 ·exact .inl h3
 ·exact .inr ⟨B, fv, f, e1, hF B e2, e3, bE.mono e4 hF, e5⟩
def Dr : Nat -> FuncId
 | 1 => 99
 | 2 => 100
 | 3 => 101
 | 4 => 102
 | 5 => 103
 | 6 => 104
 | 7 => 105
 | 8 => 106
 | 9 => 107
 | 10 => 108
 | 11 => 109
 | 12 => 110
 | 13 => 111
 | 14 => 112
 | _ => 113
theorem aB.act {w : World} {M : Nat} {s : MS} (h : aB w M s) {d : Nat} (h1 : 1 <= d) (h2 : d <= 15) : w.cell? ⟨M, 1 + d, none⟩ = some (mh (Dr d)) := by
 match d, h1, h2 with
 | 1, _, _ | 2, _, _ | 3, _, _ | 4, _, _ | 5, _, _ | 6, _, _ | 7, _, _ | 8, _, _ | 9, _, _ | 10, _, _ | 11, _, _ | 12, _, _ | 13, _, _ | 14, _, _ | 15, _, _ => simp [World.cell?, h.is, MS.cells, Dr]
theorem yu {d : Nat} (h1 : 1 <= d) (h2 : d <= 15) : ∀ args w, (callFunc (Dr d) args).run Tryz.prog w = .ok (.enter (Dr d) args) w := by
 match d, h1, h2 with
 | 1, _, _ => exact enters_of Tryz.func99 (by kernel_rfl) rfl
 | 2, _, _ => exact enters_of Tryz.func100 (by kernel_rfl) rfl
 | 3, _, _ => exact enters_of Tryz.func101 (by kernel_rfl) rfl
 | 4, _, _ => exact enters_of Tryz.func102 (by kernel_rfl) rfl
 | 5, _, _ => exact enters_of Tryz.func103 (by kernel_rfl) rfl
 | 6, _, _ => exact enters_of Tryz.func104 (by kernel_rfl) rfl
 | 7, _, _ => exact enters_of Tryz.func105 (by kernel_rfl) rfl
 | 8, _, _ => exact enters_of Tryz.func106 (by kernel_rfl) rfl
 | 9, _, _ => exact enters_of Tryz.func107 (by kernel_rfl) rfl
 | 10, _, _ => exact enters_of Tryz.func108 (by kernel_rfl) rfl
 | 11, _, _ => exact enters_of Tryz.func109 (by kernel_rfl) rfl
 | 12, _, _ => exact enters_of Tryz.func110 (by kernel_rfl) rfl
 | 13, _, _ => exact enters_of Tryz.func111 (by kernel_rfl) rfl
 | 14, _, _ => exact enters_of Tryz.func112 (by kernel_rfl) rfl
 | 15, _, _ => exact enters_of Tryz.func113 (by kernel_rfl) rfl
end Go.Proofs.YtagemonojdgbdaaGreatDoor
