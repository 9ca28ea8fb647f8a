/- The same contracts with a named answer; what Join does with things. -/
import Derived.Test.YtifpaagppjmbhaaGreatDoorFootY
namespace Go.Proofs.YtifpaagppjmbhaaGreatDoor
set_option maxRecDepth 100000
open Go.RowKit

/-- An answer that tells whether something is so. -/
def Tells (b : Bool) (p : Prop) : Prop := b = true ↔ p
theorem Tells.yes {p : Prop} (h : p) : Tells true p := ⟨fun _ => h, fun _ => rfl⟩
theorem Tells.no {p : Prop} (h : ¬ p) : Tells false p := ⟨(fun e => by cases e), fun e => absurd e h⟩
theorem Tells.pos {p : Prop} (h : Tells true p) : p := h.1 rfl
theorem Tells.neg {p : Prop} (h : Tells false p) : ¬ p := fun e => by have := h.2 e; cases this
theorem Tells.congr {b : Bool} {p q : Prop} (h : Tells b p) (e : p ↔ q) : Tells b q := h.trans e
theorem bool_of (p : Prop) : ∃ b : Bool, Tells b p := by
  by_cases h : p
  · exact ⟨true, .yes h⟩
  · exact ⟨false, .no h⟩
theorem ClRd.below {w w' : World} {F : Nat → Prop} {v : Value} {l : List Cl} (h : ClRd w F v l) (hb : Below w.heap.size w w') : ClRd w' F v l := RdK.below h hb
/-- A call that answers b, and leaves all that was there. -/
def Ans (b : Bool) (w : World) (e : Ending) (w' : World) : Prop := e = .returned (.bool b) ∧ Below w.heap.size w w'
theorem BoolP.ans {p : Prop} {r : Bool} (hr : r = true ↔ p) {w : World} {e : Ending} {w' : World} (h : BoolP p w e w') : Ans r w e w' := by
  obtain ⟨b, hb, rfl, hw⟩ := h
  have : b = r := by
    cases b <;> cases r <;> simp_all
  subst this
  exact ⟨rfl, hw⟩
theorem within_is {w : World} {F G : Nat → Prop} {v u : Value} {a b : List Cl} (r : Bool) (hr : Tells r (WithinP a b)) (ha : ClRd w F v a) (hb : ClRd w G u b) (hla : a.length ≤ 1000000) (hlb : b.length ≤ 1000000) (ga : Good a) (gb : Good b) :
    Calls Tryz.prog 86 #[.agg #[v], .agg #[u]] w (Ans r w) := (within_ok w F G v u a b ha hb hla hlb ga.proper ga.fits gb.fits).mono fun _ _ h => h.ans hr
theorem conflict_is {w : World} {F G : Nat → Prop} {v u : Value} {a b : List Cl} (r : Bool) (hr : Tells r (ConflP a b)) (ha : ClRd w F v a) (hb : ClRd w G u b) (hla : a.length ≤ 1000000) (hlb : b.length ≤ 1000000) :
    Calls Tryz.prog 229 #[.agg #[v], .agg #[u]] w (Ans r w) := (conflict_ok w F G v u a b ha hb hla hlb).mono fun _ _ h => h.ans hr
theorem take_no {P : Program} {md : Region.Mode} {l : List Oper} {Q : Exit → Act → World → Prop} {S : World → Prop} {i : Nat} {oi : Oper} {fuel : Nat} {listed : Array Bool} {a : Act} {w : World} (hi : l[i]? = some oi)
    (hs : Region.noSelect l.toArray = true) (hf : Region.free md l.toArray listed i = true) (hr : (Region.ready md l.toArray listed).contains i = true)
    (hQ : ∀ c a w, Q (.panic c) (a.put oi.dst undef) w → Q (.panic c) a w) (hw : Region.wanted oi (yielded l.toArray a.tmps) = false) (hS : S w)
    (h : wpAnyH P md l.toArray Q S fuel (listed.setIfInBounds i true) (a.put oi.dst undef) w) : wpAnyH P md l.toArray Q S (fuel + 1) listed a w :=
  wpAnyH_take (by simpa using hi) hs hf hr hQ (.inr ⟨hw, rfl⟩) hS h
/-- A footprint whose box has just been made. -/
theorem Ft.box {W : World} {A : Option Addr} {l : List Cl} {c : Nat} (t : TypeId) (h : ClRd W (fun _ => True) (.slice A l.length c) l) : Ft (W.alloc (.cells #[.slice A l.length c] t)) W.heap.size A l c :=
  ⟨blk_cell (heap_alloc_new _ _), by simp, RdK.below h (one_box _ _)⟩
theorem held1 {wk W W' : World} {b1 : Nat} {v1 : Value} (h : Below wk.heap.size wk W ∧ W.cell? ⟨b1, 0, none⟩ = some v1) (hb : Below W.heap.size W W') : Below wk.heap.size wk W' ∧ W'.cell? ⟨b1, 0, none⟩ = some v1 :=
  ⟨h.1.trans (hb.mono h.1.size), (hb.cell (p := ⟨b1, 0, none⟩) (World.block_lt_of_cell? _ _ h.2)).trans h.2⟩
theorem held2 {wk W W' : World} {b1 b2 : Nat} {v1 v2 : Value} (h : Below wk.heap.size wk W ∧ W.cell? ⟨b1, 0, none⟩ = some v1 ∧ W.cell? ⟨b2, 0, none⟩ = some v2) (hb : Below W.heap.size W W') :
    Below wk.heap.size wk W' ∧ W'.cell? ⟨b1, 0, none⟩ = some v1 ∧ W'.cell? ⟨b2, 0, none⟩ = some v2 :=
  ⟨h.1.trans (hb.mono h.1.size), (held1 ⟨h.1, h.2.1⟩ hb).2, (held1 ⟨h.1, h.2.2⟩ hb).2⟩
theorem held3 {wk W W' : World} {b1 b2 b3 : Nat} {v1 v2 v3 : Value} (h : Below wk.heap.size wk W ∧ W.cell? ⟨b1, 0, none⟩ = some v1 ∧ W.cell? ⟨b2, 0, none⟩ = some v2 ∧ W.cell? ⟨b3, 0, none⟩ = some v3) (hb : Below W.heap.size W W') :
    Below wk.heap.size wk W' ∧ W'.cell? ⟨b1, 0, none⟩ = some v1 ∧ W'.cell? ⟨b2, 0, none⟩ = some v2 ∧ W'.cell? ⟨b3, 0, none⟩ = some v3 :=
  ⟨h.1.trans (hb.mono h.1.size), (held1 ⟨h.1, h.2.1⟩ hb).2, (held1 ⟨h.1, h.2.2.1⟩ hb).2, (held1 ⟨h.1, h.2.2.2⟩ hb).2⟩
theorem held4 {wk W W' : World} {b1 b2 b3 b4 : Nat} {v1 v2 v3 v4 : Value} (h : Below wk.heap.size wk W ∧ W.cell? ⟨b1, 0, none⟩ = some v1 ∧ W.cell? ⟨b2, 0, none⟩ = some v2 ∧ W.cell? ⟨b3, 0, none⟩ = some v3 ∧ W.cell? ⟨b4, 0, none⟩ = some v4) (hb : Below W.heap.size W W') :
    Below wk.heap.size wk W' ∧ W'.cell? ⟨b1, 0, none⟩ = some v1 ∧ W'.cell? ⟨b2, 0, none⟩ = some v2 ∧ W'.cell? ⟨b3, 0, none⟩ = some v3 ∧ W'.cell? ⟨b4, 0, none⟩ = some v4 :=
  ⟨h.1.trans (hb.mono h.1.size), (held1 ⟨h.1, h.2.1⟩ hb).2, (held1 ⟨h.1, h.2.2.1⟩ hb).2, (held1 ⟨h.1, h.2.2.2.1⟩ hb).2, (held1 ⟨h.1, h.2.2.2.2⟩ hb).2⟩
theorem held5 {wk W W' : World} {b1 b2 b3 b4 b5 : Nat} {v1 v2 v3 v4 v5 : Value} (h : Below wk.heap.size wk W ∧ W.cell? ⟨b1, 0, none⟩ = some v1 ∧ W.cell? ⟨b2, 0, none⟩ = some v2 ∧ W.cell? ⟨b3, 0, none⟩ = some v3 ∧ W.cell? ⟨b4, 0, none⟩ = some v4 ∧ W.cell? ⟨b5, 0, none⟩ = some v5) (hb : Below W.heap.size W W') :
    Below wk.heap.size wk W' ∧ W'.cell? ⟨b1, 0, none⟩ = some v1 ∧ W'.cell? ⟨b2, 0, none⟩ = some v2 ∧ W'.cell? ⟨b3, 0, none⟩ = some v3 ∧ W'.cell? ⟨b4, 0, none⟩ = some v4 ∧ W'.cell? ⟨b5, 0, none⟩ = some v5 :=
  ⟨h.1.trans (hb.mono h.1.size), (held1 ⟨h.1, h.2.1⟩ hb).2, (held1 ⟨h.1, h.2.2.1⟩ hb).2, (held1 ⟨h.1, h.2.2.2.1⟩ hb).2, (held1 ⟨h.1, h.2.2.2.2.1⟩ hb).2, (held1 ⟨h.1, h.2.2.2.2.2⟩ hb).2⟩

/-- New's answer: nothing, and what is wrong; or the form. -/
theorem NewV.cases {l : List Cl} {w w' : World} {v : Value} {n : Int} (h : NewV l w v n w') : (n ≠ 0 ∧ v = .slice none 0 0) ∨ (n = 0 ∧ errOf l = 0 ∧ ∃ out, IsForm l out ∧ out.length ≤ 64 ∧ ∃ A c, v = .slice A out.length c ∧ w'.ownsRow w.heap.size 119 5 (.slice A out.length c) out.length (out.map Cl.cells).flatten) := by
  rcases h.2 with ⟨h1, rfl, rfl⟩ | ⟨h1, out, hf, ⟨h3, rfl, rfl⟩ | ⟨h3, rfl, h4⟩⟩
  · exact .inl ⟨h1, rfl⟩
  · exact .inl ⟨by decide, rfl⟩
  · exact .inr ⟨rfl, h1, out, hf, h3, h4⟩
/-- New's answer at claims that may be. -/
theorem NewV.good {l : List Cl} {w w' : World} {v : Value} {n : Int} (h : NewV l w v n w') (ho : ∀ c ∈ l, Ok c) : ∃ out, IsForm l out ∧ ((64 < out.length ∧ v = .slice none 0 0 ∧ n = 23) ∨
    (out.length ≤ 64 ∧ n = 0 ∧ ∃ A c, v = .slice A out.length c ∧ w'.ownsRow w.heap.size 119 5 (.slice A out.length c) out.length (out.map Cl.cells).flatten)) := by
  rcases h.2 with ⟨h1, _⟩ | ⟨h1, h2⟩
  · exact absurd (errOf_ok ho) h1
  · exact h2

theorem lev_join {f g j : List Cl} (h : IsForm (f ++ g) j) (t : Thing) : lev j t = max (lev f t) (lev g t) := by rw [h.2, lev_append]
theorem join_comm {f g j : List Cl} (h : IsForm (f ++ g) j) : IsForm (g ++ f) j := ⟨h.1, fun t => by rw [h.2, lev_append, lev_append]; omega⟩
theorem within_join_l {f g j : List Cl} (h : IsForm (f ++ g) j) : WithinP f j := within_lev.2 fun t => by rw [lev_join h]; omega
theorem within_join_r {f g j : List Cl} (h : IsForm (f ++ g) j) : WithinP g j := within_lev.2 fun t => by rw [lev_join h]; omega
theorem within_join {f g j k : List Cl} (h : IsForm (f ++ g) j) : WithinP j k ↔ WithinP f k ∧ WithinP g k := by
  rw [within_lev, within_lev, within_lev]
  constructor
  · intro hh
    exact ⟨fun t => by have := hh t; rw [lev_join h] at this; omega, fun t => by have := hh t; rw [lev_join h] at this; omega⟩
  · intro ⟨h1, h2⟩ t
    have := h1 t
    have := h2 t
    rw [lev_join h]
    omega
theorem within_trans {f g k : List Cl} (h : WithinP f g) (h' : WithinP g k) : WithinP f k := by
  rw [within_lev] at *
  exact fun t => Int.le_trans (h t) (h' t)
theorem confl_mono {f g k : List Cl} (gf : Good f) (gg : Good g) (gk : Good k) (h : WithinP f g) (hc : ConflP f k) : ConflP g k := by
  rw [confl_lev gf gk] at hc
  rw [confl_lev gg gk]
  rw [within_lev] at h
  obtain ⟨t, h1, h2, h3⟩ := hc
  have := h t
  have := lev_bd g t
  exact ⟨t, by omega, h2, by omega⟩
theorem confl_join {f g j k : List Cl} (gf : Good f) (gg : Good g) (gj : Good j) (gk : Good k) (h : IsForm (f ++ g) j) : ConflP j k ↔ ConflP f k ∨ ConflP g k := by
  rw [confl_lev gj gk, confl_lev gf gk, confl_lev gg gk]
  constructor
  · rintro ⟨t, h1, h2, h3⟩
    rw [lev_join h] at h1 h3
    have b1 := lev_bd f t
    have b2 := lev_bd g t
    by_cases hc : lev g t ≤ lev f t
    · exact .inl ⟨t, by omega, h2, by omega⟩
    · exact .inr ⟨t, by omega, h2, by omega⟩
  · have b : ∀ t, lev f t ≤ 2 ∧ lev g t ≤ 2 := fun t => ⟨(lev_bd f t).2, (lev_bd g t).2⟩
    rintro (⟨t, h1, h2, h3⟩ | ⟨t, h1, h2, h3⟩)
    · have := b t
      exact ⟨t, by rw [lev_join h]; omega, h2, by rw [lev_join h]; omega⟩
    · have := b t
      exact ⟨t, by rw [lev_join h]; omega, h2, by rw [lev_join h]; omega⟩
theorem confl_symm {f g : List Cl} : ConflP f g ↔ ConflP g f := by
  constructor
  · rintro ⟨c, hc, d, hd, h1, h2, h3, h4, h5⟩
    exact ⟨d, hd, c, hc, h1.symm, h2.symm, h3.symm, h5, h4⟩
  · rintro ⟨c, hc, d, hd, h1, h2, h3, h4, h5⟩
    exact ⟨d, hd, c, hc, h1.symm, h2.symm, h3.symm, h5, h4⟩

end Go.Proofs.YtifpaagppjmbhaaGreatDoor
