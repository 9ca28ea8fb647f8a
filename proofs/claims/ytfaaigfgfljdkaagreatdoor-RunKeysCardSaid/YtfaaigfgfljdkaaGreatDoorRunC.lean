/- The machine in general: what holds of it while it runs ('MI'); step, block, acts. -/
import Derived.Test.YtfaaigfgfljdkaaGreatDoorRunP
import Derived.Test.YtfaaigfgfljdkaaGreatDoorRunB
import Derived.Test.YtfaaigfgfljdkaaGreatDoorProcC
namespace Go.Proofs.YtfaaigfgfljdkaaGreatDoor
set_option maxRecDepth 100000
open Go.RowKit

/-- What a run has that does not turn. -/
structure RC where
  M : Nat
  S : Nat → Prop
  W : Nat → Prop
  ops : List POp
  opsV : Value
  b : Value
  fuel : Int
  may : Value
  ok : Cl → Bool
  lo : Nat
/-- The machine of a state, its footprint being f. -/
def RC.ms {R : Type} (c : RC) (s : PS R) (f : Value) : MS := ⟨c.opsV, s.pc, s.reg, c.b, c.fuel, c.may, s.value, s.steps, f, 0⟩
/-- What stays so for a run's constants. -/
structure RC.Fit (c : RC) : Prop where
  own : c.S c.M
  wown : c.W c.M
  sub : ∀ k, c.W k → c.S k
  low : c.lo ≤ c.M
  ops : c.ops.length ≤ 64
  fuel : 0 ≤ c.fuel ∧ c.fuel ≤ 10000
/-- Numbers are within bounds. -/
def PS.Fit {R : Type} (s : PS R) : Prop := (∀ i, RegOk (s.reg i)) ∧ (0 ≤ s.steps ∧ s.steps ≤ 10000) ∧ 0 ≤ s.pc ∧ s.pc ≤ 1000
/-- What is known of rows stays so while the machine's own block turns. -/
def KOk {R : Type} (lo : Nat) (K : R → World → Prop) : Prop := ∀ (r : R) (w w' : World) (G : Nat → Prop), (∀ k, G k → lo ≤ k) → K r w → Only G w w' → K r w'
/-- What holds of the machine while it runs. -/
def MI {R : Type} (c : RC) (K : R → World → Prop) (w : World) (s : PS R) : Prop :=
  ∃ f, MachAt w c.M (c.ms s f) ∧ FootIs w c.S f s.cl ∧ MayAt w c.S c.may c.ok ∧ OpRd w (fun k => ¬ c.S k) c.opsV c.ops ∧ K s.rows w ∧ (∀ k, c.S k → k < w.heap.size) ∧ s.Fit
/-- What a step or an op of the machine leaves. -/
def ActR {R : Type} (c : RC) (K : R → World → Prop) (p : PS R × Int) (w : World) (e : Ending) (w' : World) : Prop := e = .returned (.int .i64 p.2) ∧ MI c K w' p.1 ∧ Only c.W w w'
section
variable {R : Type} {c : RC} {K : R → World → Prop} {w w' : World} {s s' : PS R}
theorem OpRd.only {S G : Nat → Prop} {v : Value} {l : List POp} (h : OpRd w G v l) (ho : Only S w w') (hd : ∀ k, G k → ¬ S k) : OpRd w' G v l := RdK.only h ho hd
/-- The machine's own block turns, nothing else that is known. -/
theorem MI.turn (h : MI c K w s) (hc : c.Fit) (hK : KOk c.lo K) (ho : Only (fun k => k = c.M) w w') (hm : ∀ f, MachAt w c.M (c.ms s f) → MachAt w' c.M (c.ms s' f)) (hcl : s'.cl = s.cl) (hr : s'.rows = s.rows) (hf : s'.Fit) : MI c K w' s' := by
  obtain ⟨f, h1, h2, h3, h4, h5, h6, h7⟩ := h
  have hS : ∀ k, k = c.M → c.S k := fun k hk => by subst hk; exact hc.own
  refine ⟨f, hm f h1, by rw [hcl]; exact h2.only ho hS, h3.only ho hS, h4.only ho (fun k hk e => hk (hS k e)), by rw [hr]; exact hK _ _ _ _ (fun k hk => by subst hk; exact hc.low) h5 ho, fun k hk => Nat.lt_of_lt_of_le (h6 k hk) ho.size, hf⟩
theorem MI.below (h : MI c K w s) (hc : c.Fit) (hK : KOk c.lo K) (hb : Below w.heap.size w w') : MI c K w' s :=
  h.turn hc hK (Only.of_below hb _) (fun f hm => hm.below hb) rfl rfl (by obtain ⟨_, _, _, _, _, _, _, h7⟩ := h; exact h7)
theorem Only.toS (hc : c.Fit) (ho : Only (fun k => k = c.M) w w') : Only c.W w w' := ho.mono (fun k _ hk => by subst hk; exact hc.wown)
theorem mstep_ok (hc : c.Fit) (hK : KOk c.lo K) (h : MI c K w s) (hlt : s.steps < c.fuel) :
    Calls Tryz.prog 184 #[.pointer (some ⟨c.M, 0, none⟩)] w (ActR c K ({ s with steps := s.steps + 1 }, 0) w) := by
  have h0 := h
  obtain ⟨f, h1, _, _, _, _, _, h7⟩ := h
  refine (step_ok w c.M (c.ms s f) h1 h7.2.1.1 (by have := h7.2.1.2; simp only [RC.ms]; omega) hlt).mono ?_
  rintro e w' ⟨rfl, hm, ho⟩
  refine ⟨rfl, ?_, ho.toS hc⟩
  have hf := hc.fuel
  obtain ⟨f', g1, g2, g3, g4, g5, g6, g7⟩ := h0
  obtain rfl : f' = f := by
    have := g1.foot
    rw [h1.foot] at this
    simp only [RC.ms, Option.some.injEq] at this
    exact this.symm
  exact (show MI c K w s from ⟨f', g1, g2, g3, g4, g5, g6, g7⟩).turn hc hK ho (fun f'' hf'' => by
    obtain rfl : f'' = f' := by
      have := hf''.foot
      rw [h1.foot] at this
      simp only [RC.ms, Option.some.injEq] at this
      exact this.symm
    exact hm) rfl rfl ⟨g7.1, ⟨by show 0 ≤ s.steps + 1; have := g7.2.1.1; omega, by show s.steps + 1 ≤ 10000; omega⟩, g7.2.2⟩
theorem mstep_no (hc : c.Fit) (hK : KOk c.lo K) (h : MI c K w s) (hle : c.fuel ≤ s.steps) :
    Calls Tryz.prog 184 #[.pointer (some ⟨c.M, 0, none⟩)] w (ActR c K (s, 20) w) := by
  have h0 := h
  obtain ⟨f, h1, _, _, _, _, _, h7⟩ := h
  refine (step_no w c.M (c.ms s f) h1 hle).mono ?_
  rintro e w' ⟨rfl, hm, ho⟩
  exact ⟨rfl, h0.turn hc hK ho (fun f'' hf'' => by
    obtain rfl : f'' = f := by
      have := hf''.foot
      rw [h1.foot] at this
      simp only [RC.ms, Option.some.injEq] at this
      exact this.symm
    exact hm) rfl rfl h7, ho.toS hc⟩
end
/-- A block of one's own beside the machine's. -/
def RC.lend (c : RC) (R0 : Nat) : RC := { c with S := fun k => c.S k ∨ k = R0 }
theorem RC.Fit.lend {c : RC} (h : c.Fit) (R0 : Nat) : (c.lend R0).Fit := ⟨.inl h.own, h.wown, fun k hk => .inl (h.sub k hk), h.low, h.ops, h.fuel⟩
theorem RdK.bound {k : Nat} {w : World} {F : Nat → Prop} {v : Value} {xs : List (List Value)} (h : RdK k w F v xs) (hk : ∀ x ∈ xs, x.length = k) (hk0 : 0 < k) : RdK k w (fun b => F b ∧ b < w.heap.size) v xs := by
  obtain ⟨A, n, c, h1, h2, h3, h4, h5⟩ := h
  refine ⟨A, n, c, h1, h2, h3, h4, fun h0 => ?_⟩
  obtain ⟨b, o, e1, e2, e3⟩ := h5 h0
  refine ⟨b, o, e1, ⟨e2, ?_⟩, e3⟩
  obtain ⟨x, hx⟩ : ∃ x, xs[0]? = some x := ⟨_, List.getElem?_eq_getElem (by omega)⟩
  have hxl := hk x (List.mem_of_getElem? hx)
  exact World.block_lt_of_cell? _ _ (e3 0 x hx 0 _ (List.getElem?_eq_getElem (by omega)))
theorem MI.lend {R : Type} {c : RC} {K : R → World → Prop} {w w1 : World} {s : PS R} {R0 : Nat} (h : MI c K w s) (hc : c.Fit) (hK : KOk c.lo K) (hb : Below w.heap.size w w1) (hR : w.heap.size ≤ R0) (hR1 : R0 < w1.heap.size) : MI (c.lend R0) K w1 s := by
  have h' := h.below hc hK hb
  obtain ⟨f, h1, h2, h3, h4, h5, h6, h7⟩ := h
  obtain ⟨f', g1, _, _, _, g5, g6, _⟩ := h'
  have ho := Only.of_below hb (fun _ => False)
  have hF : ∀ k, (¬ c.S k ∧ k < w.heap.size) → ¬ (c.lend R0).S k := fun k hk hs => hs.elim hk.1 (fun e => by omega)
  have hff : f' = f := by
    have e1 := g1.foot
    rw [(h1.below hb).foot] at e1
    simp only [RC.ms, Option.some.injEq] at e1
    exact e1.symm
  subst hff
  refine ⟨f', g1, ⟨(RdK.mono (RdK.bound h2.1 (cl_len _) (by decide)) hF).only ho (fun _ _ h => h), h2.2⟩, ?_, RdK.only (RdK.mono (RdK.bound h4 (fun x hx => by obtain ⟨y, _, rfl⟩ := List.mem_map.1 hx; rfl) (by decide)) hF) ho (fun _ _ h => h), g5, fun k hk => hk.elim (g6 k) (fun e => by omega), h7⟩
  rcases h3 with h3 | ⟨B, fv, f, e1, e2, e3, e4, e5⟩
  · exact .inl h3
  · exact .inr ⟨B, fv, f, e1, hF B ⟨e2, World.block_lt_of_cell? _ _ e3⟩, ho.cell e3 (fun h => h), (RdK.mono (RdK.bound e4 (cl_len _) (by decide)) hF).only ho (fun _ _ h => h), e5⟩
theorem MI.back {R : Type} {c : RC} {K : R → World → Prop} {w w' : World} {s : PS R} {R0 : Nat} (h : MI (c.lend R0) K w s) (hR : ¬ c.S R0) (hc : c.Fit) (hK : KOk c.lo K) (hlo : c.lo ≤ R0) (ho : Only (fun k => k = R0) w w') : MI c K w' s := by
  obtain ⟨f, h1, h2, h3, h4, h5, h6, h7⟩ := h
  have hT : ∀ k, k = R0 → (c.lend R0).S k := fun k hk => .inr hk
  have hF : ∀ k, ¬ (c.lend R0).S k → ¬ c.S k := fun k hk hs => hk (.inl hs)
  refine ⟨f, h1.only ho (fun e => hR (by rw [← e]; exact hc.own)), ⟨RdK.mono (h2.only ho hT).1 hF, h2.2⟩, ?_, RdK.mono (h4.only ho (fun k hk e => hk (hT k e))) hF, hK _ _ _ _ (fun k hk => by subst hk; exact hlo) h5 ho, fun k hk => Nat.lt_of_lt_of_le (h6 k (.inl hk)) ho.size, h7⟩
  rcases h3.only ho hT with h3 | ⟨B, fv, f, e1, e2, e3, e4, e5⟩
  · exact .inl h3
  · exact .inr ⟨B, fv, f, e1, hF B e2, e3, RdK.mono e4 hF, e5⟩
/-- The function of what an op does. -/
def actF : Nat → FuncId
  | 1 => 169
  | 2 => 170
  | 3 => 171
  | 4 => 172
  | 5 => 173
  | 6 => 174
  | 7 => 175
  | 8 => 176
  | 9 => 177
  | 10 => 178
  | 11 => 179
  | 12 => 180
  | 13 => 181
  | 14 => 182
  | _ => 183
theorem MachAt.act {w : World} {M : Nat} {s : MS} (h : MachAt w M s) {d : Nat} (h1 : 1 ≤ d) (h2 : d ≤ 15) : w.cell? ⟨M, 1 + d, none⟩ = some (fnV (actF d)) := by
  match d, h1, h2 with
  | 1, _, _ | 2, _, _ | 3, _, _ | 4, _, _ | 5, _, _ | 6, _, _ | 7, _, _ | 8, _, _ | 9, _, _ | 10, _, _ | 11, _, _ | 12, _, _ | 13, _, _ | 14, _, _ | 15, _, _ => simp [World.cell?, h.is, MS.cells, actF]
theorem actF_enters {d : Nat} (h1 : 1 ≤ d) (h2 : d ≤ 15) : ∀ args w, (callFunc (actF d) args).run Tryz.prog w = .ok (.enter (actF d) args) w := by
  match d, h1, h2 with
  | 1, _, _ => exact enters_of Tryz.func169 (by kernel_rfl) rfl
  | 2, _, _ => exact enters_of Tryz.func170 (by kernel_rfl) rfl
  | 3, _, _ => exact enters_of Tryz.func171 (by kernel_rfl) rfl
  | 4, _, _ => exact enters_of Tryz.func172 (by kernel_rfl) rfl
  | 5, _, _ => exact enters_of Tryz.func173 (by kernel_rfl) rfl
  | 6, _, _ => exact enters_of Tryz.func174 (by kernel_rfl) rfl
  | 7, _, _ => exact enters_of Tryz.func175 (by kernel_rfl) rfl
  | 8, _, _ => exact enters_of Tryz.func176 (by kernel_rfl) rfl
  | 9, _, _ => exact enters_of Tryz.func177 (by kernel_rfl) rfl
  | 10, _, _ => exact enters_of Tryz.func178 (by kernel_rfl) rfl
  | 11, _, _ => exact enters_of Tryz.func179 (by kernel_rfl) rfl
  | 12, _, _ => exact enters_of Tryz.func180 (by kernel_rfl) rfl
  | 13, _, _ => exact enters_of Tryz.func181 (by kernel_rfl) rfl
  | 14, _, _ => exact enters_of Tryz.func182 (by kernel_rfl) rfl
  | 15, _, _ => exact enters_of Tryz.func183 (by kernel_rfl) rfl
end Go.Proofs.YtfaaigfgfljdkaaGreatDoor
