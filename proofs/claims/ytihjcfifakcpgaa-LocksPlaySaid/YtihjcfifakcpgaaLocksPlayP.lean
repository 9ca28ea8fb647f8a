/- Locks and the row beside them: one state of both. -/
import Derived.Test.YtihjcfifakcpgaaLocksPlayF
namespace Go.Proofs.Ytihjcfifakcpgaa
open Go.RowKit

/-- What is known of numbers: whether there was one, the last one, those that are there. -/
abbrev PSt := Bool × Int × List Ent
def badE (s : PSt) (id : Int) : Bool := s.1 && decide (id ≤ s.2.1)
def enqC (s : PSt) (id : Int) : Int := if badE s id = true then 17 else 0
def enqS (s : PSt) (id : Int) (f : List Cl) : PSt := if badE s id = true then s else (true, id, s.2.2 ++ [(id, f)])
noncomputable def relC (s : PSt) (id : Int) : Int := if id ∈ nums s.2.2 then (if rdyB s.2.2 id = true then 0 else 18) else 14
noncomputable def relS (s : PSt) (id : Int) : PSt := if id ∈ nums s.2.2 ∧ rdyB s.2.2 id = true then (s.1, s.2.1, outL s.2.2 id) else s
theorem badE_iff {s : PSt} {id : Int} : badE s id = true ↔ s.1 = true ∧ id ≤ s.2.1 := by simp [badE]
theorem enqS_len (s : PSt) (id : Int) (f : List Cl) : (enqS s id f).2.2.length ≤ s.2.2.length + 1 := by
  unfold enqS
  split
  · omega
  · simp
theorem relS_len (s : PSt) (id : Int) : (relS s id).2.2.length ≤ s.2.2.length := by
  unfold relS
  split
  · exact outL_le _ _
  · exact Nat.le_refl _

/-- Locks at b1 that know s, a row at b2 that knows t. -/
structure PlayS (w0 w : World) (F G C : Nat → Prop) (b1 b2 n : Nat) (s t : PSt) : Prop where
  lk : LkAt w F C b1 s.1 s.2.1 s.2.2 n
  rw : RowAt w G C b2 t.1 t.2.1 t.2.2
  fg : ∀ k, F k → ¬ G k
  f0 : ∀ k, F k → w0.heap.size ≤ k
  g0 : ∀ k, G k → w0.heap.size ≤ k
  bl : Below w0.heap.size w0 w
section
variable {w0 w w' : World} {F G C : Nat → Prop} {b1 b2 n : Nat} {s t : PSt}
theorem RowAt.below {b : Nat} {sm : Bool} {la : Int} {l : List Ent} (h : RowAt w F C b sm la l) (hb : Below w.heap.size w w') : RowAt w' F C b sm la l := let ⟨lv, xs, hh⟩ := h; ⟨lv, xs, hh.below hb⟩
theorem RowAt.only {S : Nat → Prop} {b : Nat} {sm : Bool} {la : Int} {l : List Ent} (h : RowAt w F C b sm la l) (ho : Only S w w') (hF : ∀ k, F k → ¬ S k) (hC : ∀ k, C k → ¬ S k) : RowAt w' F C b sm la l := let ⟨lv, xs, hh⟩ := h; ⟨lv, xs, hh.only ho hF hC⟩
theorem RowAt.flt {b : Nat} {sm : Bool} {la : Int} {l : List Ent} (h : RowAt w F C b sm la l) : ∀ k, F k → k < w.heap.size := let ⟨_, _, hh⟩ := h; hh.flt
theorem RowAt.clt {b : Nat} {sm : Bool} {la : Int} {l : List Ent} (h : RowAt w F C b sm la l) : ∀ k, C k → k < w.heap.size ∧ ¬ F k := let ⟨_, _, hh⟩ := h; hh.clt
theorem RowAt.mor {b : Nat} {sm : Bool} {la : Int} {l : List Ent} (h : RowAt w F C b sm la l) (hb : Below w.heap.size w w') : RowAt w' F (Mor C w w') b sm la l := by
  obtain ⟨lv, xs, hh⟩ := h
  have h2 := hh.below hb
  exact ⟨lv, xs, { h2 with
    feet := fun i e x he hx => let ⟨A, c, e1, e2, e3⟩ := h2.feet i e x he hx; ⟨A, c, e1, RdK.mono e2 (fun _ => .inl), e3⟩
    clt := fun k hk => hk.elim (fun hc => h2.clt k hc) (fun hn => ⟨hn.2, fun hF => by have := hh.flt k hF; have := hn.1; omega⟩) }⟩
theorem PlayS.below (h : PlayS w0 w F G C b1 b2 n s t) (hb : Below w.heap.size w w') : PlayS w0 w' F G C b1 b2 n s t :=
  ⟨h.lk.below hb, h.rw.below hb, h.fg, h.f0, h.g0, h.bl.trans (hb.mono h.bl.size)⟩
theorem PlayS.mor (h : PlayS w0 w F G C b1 b2 n s t) (hb : Below w.heap.size w w') : PlayS w0 w' F G (Mor C w w') b1 b2 n s t :=
  ⟨h.lk.mor hb, h.rw.mor hb, h.fg, h.f0, h.g0, h.bl.trans (hb.mono h.bl.size)⟩
theorem PlayS.flt (h : PlayS w0 w F G C b1 b2 n s t) : ∀ k, F k ∨ G k → k < w.heap.size := fun k hk => hk.elim (h.lk.flt k) (h.rw.flt k)
theorem below_only {S : Nat → Prop} (hb : Below w0.heap.size w0 w) (ho : Only S w w') (hS : ∀ k, S k → w0.heap.size ≤ k) : Below w0.heap.size w0 w' :=
  hb.trans (ho.belowN hb.size (fun k hk hh => by have := hS k hh; omega))
/-- Locks turn alone, in what was theirs and in what is new. -/
theorem PlayS.onF {s' : PSt} {n' : Nat} (h : PlayS w0 w F G C b1 b2 n s t) (ho : Only F w w') (h' : LkAt w' (fun k => F k ∨ New w w' k) C b1 s'.1 s'.2.1 s'.2.2 n') : PlayS w0 w' (fun k => F k ∨ New w w' k) G C b1 b2 n' s' t where
  lk := h'
  rw := h.rw.only ho (fun k hg hf => h.fg k hf hg) (fun k hc => (h.lk.clt k hc).2)
  fg := fun k hk hg => hk.elim (fun hf => h.fg k hf hg) (fun hn => by have := h.rw.flt k hg; have := hn.1; omega)
  f0 := fun k hk => hk.elim (h.f0 k) (fun hn => Nat.le_trans h.bl.size hn.1)
  g0 := h.g0
  bl := below_only h.bl ho h.f0
theorem PlayS.keepF {s' : PSt} {n' : Nat} (h : PlayS w0 w F G C b1 b2 n s t) (ho : Only F w w') (h' : LkAt w' F C b1 s'.1 s'.2.1 s'.2.2 n') : PlayS w0 w' F G C b1 b2 n' s' t where
  lk := h'
  rw := h.rw.only ho (fun k hg hf => h.fg k hf hg) (fun k hc => (h.lk.clt k hc).2)
  fg := h.fg
  f0 := h.f0
  g0 := h.g0
  bl := below_only h.bl ho h.f0
theorem PlayS.onG {t' : PSt} (h : PlayS w0 w F G C b1 b2 n s t) (ho : Only G w w') (h' : RowAt w' (fun k => G k ∨ New w w' k) C b2 t'.1 t'.2.1 t'.2.2) : PlayS w0 w' F (fun k => G k ∨ New w w' k) C b1 b2 n s t' where
  lk := h.lk.only ho (fun k hf hg => h.fg k hf hg) (fun k hc => (h.rw.clt k hc).2)
  rw := h'
  fg := fun k hf hk => hk.elim (h.fg k hf) (fun hn => by have := h.lk.flt k hf; have := hn.1; omega)
  f0 := h.f0
  g0 := fun k hk => hk.elim (h.g0 k) (fun hn => Nat.le_trans h.bl.size hn.1)
  bl := below_only h.bl ho h.g0
theorem PlayS.keepG {t' : PSt} (h : PlayS w0 w F G C b1 b2 n s t) (ho : Only G w w') (h' : RowAt w' G C b2 t'.1 t'.2.1 t'.2.2) : PlayS w0 w' F G C b1 b2 n s t' where
  lk := h.lk.only ho (fun k hf hg => h.fg k hf hg) (fun k hc => (h.rw.clt k hc).2)
  rw := h'
  fg := h.fg
  f0 := h.f0
  g0 := h.g0
  bl := below_only h.bl ho h.g0
/-- What stands behind a step of Locks: the answer, both, and that nothing else has turned. -/
def StepF (w0 w : World) (F G C : Nat → Prop) (b1 b2 n : Nat) (s t : PSt) (r : Int) (e : Ending) (w' : World) : Prop :=
  e = .returned (.int .i64 r) ∧ ∃ F' n', PlayS w0 w' F' G C b1 b2 n' s t ∧ Only F w w' ∧ n' ≤ n
/-- What stands behind a step of the row. -/
def StepG (w0 w : World) (F G C : Nat → Prop) (b1 b2 n : Nat) (s t : PSt) (r : Int) (e : Ending) (w' : World) : Prop :=
  e = .returned (.int .i64 r) ∧ ∃ G', PlayS w0 w' F G' C b1 b2 n s t ∧ Only G w w'
theorem PlayS.claims (h : PlayS w0 w F G C b1 b2 n s t) (hb : Below w.heap.size w w') {A : Option Addr} {l : List Cl} {c : Nat} (hO : w'.ownsRow w.heap.size 52 5 (.slice A l.length c) l.length (l.map Cl.cells).flatten) :
    ∃ D, PlayS w0 w' F G D b1 b2 n s t ∧ ClRd w' D (.slice A l.length c) l :=
  ⟨_, h.mor hb, RdK.of_own hO (cl_len _) (by decide) (fun g hg => .inr ⟨(hO.lt g hg).1, (hO.lt g hg).2⟩)⟩
theorem PlayS.enq {id : Int} {f : List Cl} {e : Ending} (h : PlayS w0 w F G C b1 b2 n s t) (hq : EnqP F C b1 s.1 s.2.1 s.2.2 n id f w e w') : StepF w0 w F G C b1 b2 (n + s.2.2.length + 1) (enqS s id f) t (enqC s id) e w' := by
  obtain ⟨ho, ⟨h1, h2, rfl, h3⟩ | ⟨h1, rfl, h3⟩⟩ := hq
  · have hb : badE s id = true := badE_iff.2 ⟨h1, h2⟩
    refine ⟨by unfold enqC; rw [if_pos hb], F, n, ?_, ho, by omega⟩
    unfold enqS
    rw [if_pos hb]
    exact h.keepF ho h3
  · have hb : ¬ badE s id = true := fun hh => by have h4 := badE_iff.1 hh; have := h1 h4.1; omega
    refine ⟨by unfold enqC; rw [if_neg hb], (fun k => F k ∨ New w w' k), n + s.2.2.length + 1, ?_, ho, Nat.le_refl _⟩
    unfold enqS
    rw [if_neg hb]
    exact h.onF ho h3
theorem PlayS.put {id : Int} {f : List Cl} {e : Ending} (h : PlayS w0 w F G C b1 b2 n s t) (hq : RPutP G C b2 t.1 t.2.1 t.2.2 id f w e w') : StepG w0 w F G C b1 b2 n s (enqS t id f) (enqC t id) e w' := by
  obtain ⟨ho, ⟨h1, h2, rfl, h3⟩ | ⟨h1, rfl, h3⟩⟩ := hq
  · have hb : badE t id = true := badE_iff.2 ⟨h1, h2⟩
    refine ⟨by unfold enqC; rw [if_pos hb], G, ?_, ho⟩
    unfold enqS
    rw [if_pos hb]
    exact h.keepG ho h3
  · have hb : ¬ badE t id = true := fun hh => by have h4 := badE_iff.1 hh; have := h1 h4.1; omega
    refine ⟨by unfold enqC; rw [if_neg hb], (fun k => G k ∨ New w w' k), ?_, ho⟩
    unfold enqS
    rw [if_neg hb]
    exact h.onG ho h3
theorem PlayS.rel {id : Int} {e : Ending} (h : PlayS w0 w F G C b1 b2 n s t) (hq : RelP F C b1 s.1 s.2.1 s.2.2 n id w e w') : StepF w0 w F G C b1 b2 (n + s.2.2.length) (relS s id) t (relC s id) e w' := by
  obtain ⟨ho, ⟨h1, rfl, h3⟩ | ⟨h1, h2, rfl, h3⟩ | ⟨h1, h2, rfl, h3⟩⟩ := hq
  · refine ⟨by unfold relC; rw [if_neg h1], F, n, ?_, ho, by omega⟩
    unfold relS
    rw [if_neg (fun hh => h1 hh.1)]
    exact h.keepF ho h3
  · refine ⟨by unfold relC; rw [if_pos h1, if_neg (by rw [h2]; simp)], F, n, ?_, ho, by omega⟩
    unfold relS
    rw [if_neg (fun hh => by rw [h2] at hh; simp at hh)]
    exact h.keepF ho h3
  · refine ⟨by unfold relC; rw [if_pos h1, if_pos h2], F, n + s.2.2.length, ?_, ho, Nat.le_refl _⟩
    unfold relS
    rw [if_pos ⟨h1, h2⟩]
    exact h.keepF ho h3
theorem PlayS.out {id : Int} {e : Ending} (h : PlayS w0 w F G C b1 b2 n s t) (hq : ROutP G C b2 t.1 t.2.1 t.2.2 id w e w') : StepG w0 w F G C b1 b2 n s (relS t id) (relC t id) e w' := by
  obtain ⟨ho, ⟨h1, rfl, h3⟩ | ⟨h1, h2, rfl, h3⟩ | ⟨h1, h2, rfl, h3⟩⟩ := hq
  · refine ⟨by unfold relC; rw [if_neg h1], G, ?_, ho⟩
    unfold relS
    rw [if_neg (fun hh => h1 hh.1)]
    exact h.keepG ho h3
  · refine ⟨by unfold relC; rw [if_pos h1, if_neg (by rw [h2]; simp)], G, ?_, ho⟩
    unfold relS
    rw [if_neg (fun hh => by rw [h2] at hh; simp at hh)]
    exact h.keepG ho h3
  · refine ⟨by unfold relC; rw [if_pos h1, if_pos h2], (fun k => G k ∨ New w w' k), ?_, ho⟩
    unfold relS
    rw [if_pos ⟨h1, h2⟩]
    exact h.onG ho h3
end
/-- At the head of each round. -/
def PlayR (w0 : World) (b1 b2 k : Nat) (w : World) : Prop := ∃ F G C n s, PlayS w0 w F G C b1 b2 n s s ∧ s.2.2.length ≤ k ∧ n ≤ 200 * k
theorem play_start {w0 w1 : World} {b1 : Nat} (hb : Below w0.heap.size w0 w1) (h : LkAt w1 (New w0 w1) (fun _ => False) b1 false 0 [] 0) :
    PlayR w0 b1 w1.heap.size 0 (w1.alloc (.cells #[.slice none 0 0, .int .i64 0, .bool false] 30)) := by
  refine ⟨New w0 w1, fun k => k = w1.heap.size, fun _ => False, 0, (false, 0, []), ⟨h.below (box1 _ _), ?_, ?_, fun k hk => hk.1, ?_, hb.alloc hb.size _⟩, Nat.le_refl _, Nat.le_refl _⟩
  · refine ⟨.slice none 0 0, [], ?_⟩
    exact {
      blk := heap_alloc_new _ _
      own := World.ownsRow_nil _ _ _ _
      xl := rfl
      feet := fun i e x he => by simp at he
      fb := rfl
      fl := fun k hk => by simp [Value.ownBlock] at hk
      flt := fun k hk => by subst hk; simp
      clt := fun k hk => hk.elim
      i64 := fun e he => by simp at he }
  · intro k hk hh
    subst hh
    have := hk.2
    omega
  · intro k hk
    subst hk
    exact hb.size
end Go.Proofs.Ytihjcfifakcpgaa
