/- Words and plain laws for LocksGo: a row of footprints, what is released in which order. -/
import Derived.Test.YtdmpdlpfanfjoaaLockQ
namespace Go.Proofs.Ytdmpdlpfanfjoaa
open Go.RowKit

/-- Footprints in a row that is only read. -/
def FeetRd (w : World) (C : Nat → Prop) (v : Value) (l : List Ent) : Prop :=
  ∃ A c, v = .slice A l.length c ∧ ∀ (i : Nat) (e : Ent), l[i]? = some e → ∃ b o A' c', A = some ⟨b, o, none⟩ ∧ C b ∧ w.cell? ⟨b, o + i, none⟩ = some (.slice A' e.2.length c') ∧ ClRd w C (.slice A' e.2.length c') e.2 ∧ e.2.length ≤ 64
theorem FeetRd.only {w w' : World} {C S : Nat → Prop} {v : Value} {l : List Ent} (h : FeetRd w C v l) (ho : Only S w w') (hS : ∀ k, C k → ¬ S k) : FeetRd w' C v l := by
  obtain ⟨A, c, rfl, hx⟩ := h
  refine ⟨A, c, rfl, fun i e he => ?_⟩
  obtain ⟨b, o, A', c', hA, hb, hc, hr, hl⟩ := hx i e he
  exact ⟨b, o, A', c', hA, hb, ho.cell hc (hS b hb), RdK.only hr ho hS, hl⟩
theorem FeetRd.below {w w' : World} {C : Nat → Prop} {v : Value} {l : List Ent} (h : FeetRd w C v l) (hb : Below w.heap.size w w') : FeetRd w' C v l := h.only (Only.of_below hb (fun _ => False)) (fun _ _ => id)
/-- Footprints in a row that grows. -/
def FeetOw (w0 w : World) (F C : Nat → Prop) (v : Value) (l : List Ent) : Prop :=
  ∃ vs : List Value, w.ownsRow w0.heap.size 30 1 v l.length vs ∧ (∀ (i : Nat) (e : Ent), l[i]? = some e → ∃ A c, vs[i]? = some (.slice A e.2.length c) ∧ ClRd w C (.slice A e.2.length c) e.2 ∧ e.2.length ≤ 64) ∧ ∀ g, v.ownBlock = some g → ¬ F g ∧ ¬ C g
theorem FeetOw.nil (w0 w : World) (F C : Nat → Prop) : FeetOw w0 w F C (.slice none 0 0) [] := ⟨[], World.ownsRow_nil _ _ _ _, fun i e h => by simp at h, fun g hg => by simp [Value.ownBlock] at hg⟩
theorem FeetOw.mor {w0 w w' : World} {F C : Nat → Prop} {v : Value} {l : List Ent} (h : FeetOw w0 w F C v l) (hb : Below w.heap.size w w') : FeetOw w0 w' F (Mor C w w') v l := by
  obtain ⟨vs, ho, hx, hn⟩ := h
  refine ⟨vs, own_below ho hb, fun i e he => ?_, fun g hg => ⟨(hn g hg).1, fun hh => hh.elim (hn g hg).2 (fun hh => by have := (ho.lt g hg).2; have := hh.1; omega)⟩⟩
  obtain ⟨A, c, h1, h2, h3⟩ := hx i e he
  exact ⟨A, c, h1, RdK.mono (RdK.below h2 hb) (fun _ => .inl), h3⟩
theorem FeetOw.only {w0 w w' : World} {F F' C : Nat → Prop} {v : Value} {l : List Ent} (h : FeetOw w0 w F C v l) (ho : Only F w w') (hC : ∀ k, C k → ¬ F k) (hF : ∀ k, F' k → F k ∨ w.heap.size ≤ k) : FeetOw w0 w' F' C v l := by
  obtain ⟨vs, hw, hx, hn⟩ := h
  refine ⟨vs, own_only hw ho (fun g hg => (hn g hg).1), fun i e he => ?_, fun g hg => ⟨fun hh => (hF g hh).elim (hn g hg).1 (fun hh => by have := (hw.lt g hg).2; omega), (hn g hg).2⟩⟩
  obtain ⟨A, c, h1, h2, h3⟩ := hx i e he
  exact ⟨A, c, h1, RdK.only h2 ho hC, h3⟩
/-- One footprint more. -/
theorem FeetOw.append {w0 w w' : World} {F C : Nat → Prop} {v : Value} {l : List Ent} {f : List Cl} {A : Option Addr} {c g cap : Nat} {id : Int} {vs : List Value} {o : Obj} (ho : w.ownsRow w0.heap.size 30 1 v l.length vs)
    (hx : ∀ (i : Nat) (e : Ent), l[i]? = some e → ∃ A c, vs[i]? = some (.slice A e.2.length c) ∧ ClRd w C (.slice A e.2.length c) e.2 ∧ e.2.length ≤ 64) (hn : ∀ g, v.ownBlock = some g → ¬ F g ∧ ¬ C g)
    (hr : ClRd w C (.slice A f.length c) f) (hl : f.length ≤ 64) (hw' : w'.ownsRow w0.heap.size 30 1 (.slice (some ⟨g, 0, none⟩) (l.length + 1) cap) (l.length + 1) (vs ++ [.slice A f.length c])) (hg : (w.alloc o).grownBy w' v.ownBlock) (hat : v.ownBlock = some g ∨ g = (w.alloc o).heap.size)
    (hF : ∀ k, F k → k < w.heap.size) (hC : ∀ k, C k → k < w.heap.size) : FeetOw w0 w' F C (.slice (some ⟨g, 0, none⟩) (l.length + 1) cap) (l ++ [(id, f)]) ∧ Only (fun k => v.ownBlock = some k) w w' := by
  have hs : (w.alloc o).heap.size = w.heap.size + 1 := by simp
  have hon : Only (fun k => v.ownBlock = some k) w w' := ((Only.refl (fun k => v.ownBlock = some k) w).alloc o).grown hg (fun k hk _ => hk)
  have hCn : ∀ k, C k → ¬ (v.ownBlock = some k) := fun k hk e => (hn k e).2 hk
  refine ⟨⟨vs ++ [.slice A f.length c], by simpa using hw', fun i e he => ?_, fun k hk => ?_⟩, hon⟩
  · have hvl : vs.length = l.length := by simpa using ho.1
    by_cases hi : i < l.length
    · rw [List.getElem?_append_left hi] at he
      obtain ⟨A1, c1, h1, h2, h3⟩ := hx i e he
      exact ⟨A1, c1, by rw [List.getElem?_append_left (by omega)]; exact h1, RdK.only h2 hon hCn, h3⟩
    · have hi2 : i = l.length := by
        have := (List.getElem?_eq_some_iff.1 he).1
        simp at this
        omega
      subst hi2
      rw [List.getElem?_append_right (Nat.le_refl _)] at he
      simp at he
      subst he
      exact ⟨A, c, by rw [List.getElem?_append_right (by omega)]; simp [hvl], RdK.only hr hon hCn, hl⟩
  · have hk : g = k := by simpa [Value.ownBlock] using hk
    subst hk
    rcases hat with hh | hh
    · exact hn _ hh
    · exact ⟨fun h => by have := hF _ h; omega, fun h => by have := hC _ h; omega⟩
theorem FeetOw.rd {w0 w : World} {F C : Nat → Prop} {v : Value} {l : List Ent} (h : FeetOw w0 w F C v l) : FeetRd w (fun k => C k ∨ v.ownBlock = some k) v l := by
  obtain ⟨vs, ho, hx, hn⟩ := h
  obtain ⟨A, c, rfl⟩ := ownsRow_slice ho
  refine ⟨A, c, rfl, fun i e he => ?_⟩
  have hlt := (List.getElem?_eq_some_iff.1 he).1
  obtain ⟨A1, c1, h1, h2, h3⟩ := hx i e he
  obtain ⟨g, cap, hv, _, _⟩ := ho.form (by omega)
  injection hv with e1 _ _
  subst e1
  refine ⟨g, 0, A1, c1, rfl, .inr rfl, ?_, RdK.mono h2 (fun _ => .inl), h3⟩
  rw [Nat.zero_add, ho.cellAt i (by omega)]
  exact h1
/-- What has been released, and what is in line. -/
def GoInv (l0 lk : List Ent) (outs : List Int) : Prop := (∀ e ∈ lk, e ∈ l0) ∧ ∀ o ∈ outs, o ∉ nums lk ∧ ∃ f, (o, f) ∈ l0 ∧ ∀ x ∈ lk, x.1 < o → ¬ ConflP f x.2
theorem GoInv.start (l : List Ent) : GoInv l l [] := ⟨fun _ h => h, fun o h => by cases h⟩
theorem GoInv.step {l0 lk : List Ent} {outs : List Int} (h : GoInv l0 lk outs) (hr : Rise lk) {id : Int} (hid : id ∈ ready lk) : GoInv l0 (outL lk id) (outs ++ [id]) := by
  refine ⟨fun e he => h.1 e (mem_out.1 he).1, fun o ho => ?_⟩
  rcases List.mem_append.1 ho with ho | ho
  · obtain ⟨h1, f, h2, h3⟩ := h.2 o ho
    exact ⟨fun hh => h1 (mem_nums_out.1 hh).1, f, h2, fun x hx => h3 x (mem_out.1 hx).1⟩
  · simp at ho
    subst ho
    obtain ⟨hm, hrd⟩ := mem_ready.1 hid
    obtain ⟨f, hf⟩ := mem_nums.1 hm
    refine ⟨out_not _, f, h.1 _ hf, fun x hx hlt hc => ?_⟩
    have hx' := (mem_out.1 hx).1
    have := rdyB_iff.1 hrd x.1
    rw [wtB_true.2 ⟨f, x.2, ftOf_of_mem hr hf, ftOf_of_mem hr hx', hlt, confl_turn hc⟩] at this
    cases this
/-- A number that is in line, or was. -/
theorem GoInv.at_ {l0 : List Ent} (hp : Placed l0) {i : Int} {f : List Cl} (hf : (i, f) ∈ l0) : ∃ k : Nat, k < l0.length ∧ i = (k : Int) ∧ l0[k]? = some ((k : Int), f) := by
  obtain ⟨k, hk, he⟩ := List.getElem_of_mem hf
  have h1 : l0[k]? = some (i, f) := by rw [List.getElem?_eq_getElem hk, he]
  have h2 := hp k _ h1
  simp only at h2
  subst h2
  exact ⟨k, hk, rfl, h1⟩
theorem GoInv.ready_at {l0 lk : List Ent} {outs : List Int} (h : GoInv l0 lk outs) (hp : Placed l0) {i : Int} (hi : i ∈ ready lk) : ∃ (k : Nat) (f : List Cl), k < l0.length ∧ i = (k : Int) ∧ l0[k]? = some ((k : Int), f) ∧ (i, f) ∈ lk := by
  obtain ⟨f, hf⟩ := mem_nums.1 (mem_ready.1 hi).1
  obtain ⟨k, h1, h2, h3⟩ := GoInv.at_ hp (h.1 _ hf)
  exact ⟨k, f, h1, h2, h3, hf⟩
theorem FeetRd.at_ {w : World} {C : Nat → Prop} {A : Option Addr} {n c : Nat} {l : List Ent} (h : FeetRd w C (.slice A n c) l) {i : Nat} {e : Ent} (he : l[i]? = some e) : ∃ b o A' c', A = some ⟨b, o, none⟩ ∧ w.cell? ⟨b, o + i, none⟩ = some (.slice A' e.2.length c') ∧ ClRd w C (.slice A' e.2.length c') e.2 ∧ e.2.length ≤ 64 := by
  obtain ⟨A1, c1, hv, hx⟩ := h
  injection hv with e1 e2 e3
  subst e1
  obtain ⟨b, o, A', c', hA, _, hc, hr, hl⟩ := hx i e he
  exact ⟨b, o, A', c', hA, hc, hr, hl⟩
theorem idx_mod {x n : Int} (hn : 0 < n) : ∃ r : Int, ∃ j : Nat, x.tmod n = r ∧ (r + n).tmod n = (j : Int) ∧ (j : Int) < n ∧ -n < r ∧ r < n := by
  have h1 : -n < x.tmod n := by
    have := Int.lt_tmod_of_pos x hn
    omega
  have h2 : x.tmod n < n := Int.tmod_lt_of_pos x hn
  have h3 : 0 ≤ x.tmod n + n := by omega
  have h4 : (x.tmod n + n).tmod n = (x.tmod n + n) % n := Int.tmod_eq_emod_of_nonneg h3
  have h5 := Int.emod_nonneg (x.tmod n + n) (show n ≠ 0 by omega)
  have h6 := Int.emod_lt_of_pos (x.tmod n + n) hn
  exact ⟨x.tmod n, ((x.tmod n + n) % n).toNat, rfl, by rw [h4]; omega, by omega, h1, h2⟩

/-- While all are released. -/
def GoS (w0 wK : World) (F C : Nat → Prop) (b : Nat) (sm : Bool) (la : Int) (l0 lk : List Ent) (n : Nat) (fv ov : Value) (outs : List Int) (w : World) : Prop :=
  One w0 w F C b sm la lk n ∧ FeetRd w C fv l0 ∧ w.ownsRow wK.heap.size 3 1 ov outs.length (outs.map (Value.int .i64)) ∧ wK.heap.size ≤ w.heap.size ∧ w0.heap.size ≤ wK.heap.size ∧ (∀ k, F k → k < wK.heap.size) ∧ (∀ k, C k → k < wK.heap.size)
theorem GoS.below {w0 wK w w' : World} {F C : Nat → Prop} {b n : Nat} {sm : Bool} {la : Int} {l0 lk : List Ent} {fv ov : Value} {outs : List Int} (h : GoS w0 wK F C b sm la l0 lk n fv ov outs w) (hb : Below w.heap.size w w') : GoS w0 wK F C b sm la l0 lk n fv ov outs w' :=
  ⟨h.1.below hb, h.2.1.below hb, own_below h.2.2.1 hb, Nat.le_trans h.2.2.2.1 hb.size, h.2.2.2.2⟩
theorem GoS.rel {w0 wK w w' : World} {F C : Nat → Prop} {b n n' : Nat} {sm : Bool} {la : Int} {l0 lk lk' : List Ent} {fv ov : Value} {outs : List Int} (h : GoS w0 wK F C b sm la l0 lk n fv ov outs w) (ho : Only F w w') (h' : One w0 w' F C b sm la lk' n') : GoS w0 wK F C b sm la l0 lk' n' fv ov outs w' :=
  ⟨h', h.2.1.only ho h.1.cF, own_only h.2.2.1 ho (fun g hg hF => by have := (h.2.2.1.lt g hg).1; have := h.2.2.2.2.2.1 g hF; omega), Nat.le_trans h.2.2.2.1 ho.size, h.2.2.2.2⟩
theorem GoS.app {w0 wK w w' : World} {F C : Nat → Prop} {b n : Nat} {sm : Bool} {la id : Int} {l0 lk : List Ent} {fv ov : Value} {outs : List Int} {g cap : Nat} {o : Obj} (h : GoS w0 wK F C b sm la l0 lk n fv ov outs w)
    (hw : w'.ownsRow wK.heap.size 3 1 (.slice (some ⟨g, 0, none⟩) (outs.length + 1) cap) (outs.length + 1) (outs.map (Value.int .i64) ++ [.int .i64 id])) (hg : (w.alloc o).grownBy w' ov.ownBlock) :
    GoS w0 wK F C b sm la l0 lk n fv (.slice (some ⟨g, 0, none⟩) (outs.length + 1) cap) (outs ++ [id]) w' ∧ Only (fun k => ov.ownBlock = some k) w w' := by
  have hon : Only (fun k => ov.ownBlock = some k) w w' := ((Only.refl (fun k => ov.ownBlock = some k) w).alloc o).grown hg (fun k hk _ => hk)
  have hno : ∀ k, ov.ownBlock = some k → wK.heap.size ≤ k := fun k hk => (h.2.2.1.lt k hk).1
  have hF : ∀ k, F k → ¬ (ov.ownBlock = some k) := fun k hk e => by have := hno k e; have := h.2.2.2.2.2.1 k hk; omega
  have hC : ∀ k, C k → ¬ (ov.ownBlock = some k) := fun k hk e => by have := hno k e; have := h.2.2.2.2.2.2 k hk; omega
  refine ⟨⟨⟨h.1.1.only hon hF hC, h.1.2.1, h.1.2.2.trans (Only.belowN hon h.1.2.2.size (fun k hk e => by have := hno k e; have := h.2.2.2.2.1; omega))⟩, h.2.1.only hon hC, by simpa using hw, Nat.le_trans h.2.2.2.1 hon.size, h.2.2.2.2⟩, hon⟩
theorem GoS.rdN {w0 wK w w' : World} {F C : Nat → Prop} {b n : Nat} {sm : Bool} {la : Int} {l0 lk : List Ent} {fv ov v : Value} {outs : List Int} {xs : List Value} (h : GoS w0 wK F C b sm la l0 lk n fv ov outs w) {M : Nat} (hM : wK.heap.size ≤ M) (hr : Rd w (fun k => M ≤ k) v xs) (ho : Only F w w') : Rd w' (fun k => M ≤ k) v xs :=
  hr.only ho (fun k hk hF => by have := h.2.2.2.2.2.1 k hF; omega)

end Go.Proofs.Ytdmpdlpfanfjoaa
