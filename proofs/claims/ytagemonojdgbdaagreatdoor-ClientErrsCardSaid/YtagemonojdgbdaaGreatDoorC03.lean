import Derived.Test.YtagemonojdgbdaaGreatDoorC02
import Derived.RangeFuncNested
import Derived.RangeFuncBound
import Derived.RangeFuncCalls
import Derived.RangeFuncLeaves
import Derived.Shelf.Abstract
import Derived.Shelf.RegionOpen
import Derived.OwnWalkIn
import Derived.TacticsInMore
import Derived.LoopNIn
import Derived.LoopIn
namespace Go.Proofs.YtagemonojdgbdaaGreatDoor
set_option maxRecDepth 100000
open Go.RowKit
def Stable {α : Type} (base : Nat) (J : List α → (Nat → Prop) → World → Prop) : Prop :=
 (∀ pre U A, J pre U A → ∀ k, U k → k < A.heap.size) ∧
 (∀ pre U A B S, J pre U A → Only S A B → (∀ k, S k → base ≤ k ∧ ¬ U k) → J pre U B)
theorem Stable.none {α : Type} (base : Nat) : Stable (α := α) base (fun _ _ _ => False) := ⟨fun _ _ _ h => h.elim, fun _ _ _ _ _ h => h.elim⟩
def Grow (w : World) (U U' : Nat → Prop) : Prop := ∀ k, U' k → U k ∨ w.heap.size ≤ k
theorem Grow.refl (w : World) (U : Nat → Prop) : Grow w U U := fun _ h => .inl h
def SeqG {α : Type} (P : Program) (g : Nat) (lb : Array Value) (Pre : List α → α → Array Value → (Nat → Prop) → World → Prop) (Fp : Nat → Prop) (S Sp : List α → Prop) (w : World) : Prop :=
 ∀ (l : Nat) (J Jx : List α → (Nat → Prop) → World → Prop) (W : World) (U0 : Nat → Prop), Stable W.heap.size J → Stable W.heap.size Jx → (∀ k o, Fp k → w.heap[k]? = some o → W.heap[k]? = some o) → (∀ k, Fp k → ¬ U0 k) → J [] U0 W →
  (∀ pre x args U W1, J pre U W1 → Pre pre x args U W1 → YieldAt Fence.wide 9 P l args W1 fun e W' =>
   (e = .returned (.bool true) ∧ ∃ U', J (pre ++ [x]) U' W' ∧ Only U W1 W' ∧ Grow W1 U U') ∨ (e = .returned (.bool false) ∧ ∃ U', Jx (pre ++ [x]) U' W' ∧ Only U W1 W' ∧ Grow W1 U U')) →
  CallsIn Fence.wide 9 P g (#[.func (.yield l) #[] #[]] ++ lb) W fun e W' => (∃ v, e = .returned v) ∧
   ((∃ xs U, S xs ∧ J xs U W' ∧ Only U0 W W' ∧ Grow W U0 U) ∨ (∃ pre U, Sp pre ∧ Jx pre U W' ∧ Only U0 W W' ∧ Grow W U0 U))
theorem Only.putObj (w : World) (r : Nat) (o : Obj) : Only (fun k => k = r) w (w.putObj r o) :=
 ⟨rfl, rfl, rfl, by simp, fun _ _ hk => World.putObj_heap_other hk⟩
theorem calls_marks {P : Program} {f : FuncId} {fn : Func} {c : Code} {args : Array Value} {w : World} {R : Ending → World → Prop} (hf : P.funcs[f]? = some fn) (hb : fn.body = some c)
  (h : c.wp P (bodyPostM Fence.wide 10 P fn R) { tmps := args ++ Array.replicate (fn.ntmps - args.size) undef, defers := [] } w) : Calls P f args w R :=
 callsIn_wide.1 (callsIn_of_wp_marks (F := Fence.wide) (n := 10) hf hb trivial (wpIn_wide.2 h) rfl)
theorem leave_mark {P : Program} {fn : Func} {R : Ending → World → Prop} {tmps : Array Value} {D : Nat} {w : World} {v : Value} (hK : w.heap[D]? = some (.deferred (some [])))
  (hres : (results fn tmps).run P (w.putObj D (.deferred none)) = .ok v (w.putObj D (.deferred none))) (hR : R (.returned v) (w.putObj D (.deferred none))) :
  bodyPostM Fence.wide 10 P fn R .ret { tmps := tmps, defers := [{ target := .collected D, args := #[] }] } w :=
 ⟨by simp, .inl ⟨_, _, rfl, run_takeDeferred hK, ⟨_, hres, hR⟩⟩⟩
def roundG {α : Type} (J : List α → (Nat → Prop) → World → Prop) (Jx : Code → List α → (Nat → Prop) → World → Prop) (xs : List α) (U : Nat → Prop) (W : World) : Exit → Act → World → Prop
 | .normal, _, W' => ∃ U', J xs U' W' ∧ Only U W W' ∧ Grow W U U'
 | .ret, _, W' => ∃ U', Jx .ret xs U' W' ∧ Only U W W' ∧ Grow W U U'
 | .exit id, _, W' => ∃ U', Jx (.exit id) xs U' W' ∧ Only U W W' ∧ Grow W U U'
 | .goto t, _, W' => ∃ U', Jx (.goto t) xs U' W' ∧ Only U W W' ∧ Grow W U U'
 | .panic _, _, _ => False
 | .outgrown, _, _ => False
theorem range_law {α : Type} {P : Program} {g : Operand} {ps : Array Tmp} {assign body : Code} {Q : Exit → Act → World → Prop} {a : Act} {w : World}
  {gf : Nat} {lb : Array Value} (hg : a.eval g = .func (.func gf) #[] lb) (eg : ∀ args w, (callFunc gf args).run P w = .ok (.enter gf args) w)
  {Pre : List α → α → Array Value → (Nat → Prop) → World → Prop} {Fp : Nat → Prop} {S Sp : List α → Prop} (hseq : SeqG P gf lb Pre Fp S Sp w) (hFp : ∀ k, Fp k → k < w.heap.size)
  (hps : ∀ pre x args U W, Pre pre x args U W → args.size = ps.size)
  (J : List α → (Nat → Prop) → World → Prop) (Jx : Code → List α → (Nat → Prop) → World → Prop) (hJ : Stable w.heap.size J) (hJx : ∀ c, Stable w.heap.size (Jx c)) (U0 : Nat → Prop) (h0 : J [] U0 w) (hU0 : ∀ k, Fp k → ¬ U0 k)
  (Ax : List α → α → Array Value → Act → (Nat → Prop) → World → Prop) (hAx : ∀ pre x args a₁ U V A B, Ax pre x args a₁ V A → Only V A B → (∀ k, U k → V k) → Ax pre x args a₁ U B)
  (hassign : ∀ (l : Nat) pre x args (U V : Nat → Prop) (W : World) (K : Act → World → Prop), J pre U W → (∀ k, U k → V k) → Pre pre x args V W → (∀ a₁ W₁, Ax pre x args a₁ V W₁ → Only (fun _ => False) W W₁ → K a₁ W₁) →
   assign.wpIn (Fence.wide.inRound l) 9 P (Exit.then K (fun _ _ _ => False)) { tmps := (ps.zip args).foldl (fun t (p, v) => t.setIfInBounds p v) a.tmps, defers := [] } W)
  (hbody : ∀ (l : Nat) pre x args a₁ U (W : World), J pre U W → Ax pre x args a₁ U W → body.wpIn (Fence.wide.inRound l) 9 P (roundG J Jx (pre ++ [x]) U W) a₁ W)
  (hdone : ∀ (D : Nat) xs U (W : World), w.heap.size ≤ D → ¬ U D → S xs → J xs U W → Only U0 w W → Grow w U0 U → W.heap[D]? = some (.deferred (some [])) → Q .normal { a with defers := { target := .collected D, args := #[] } :: a.defers } W)
  (hstop : ∀ (D : Nat) (c : Code) pre U (W : World), w.heap.size ≤ D → ¬ U D → Sp pre → Jx c pre U W → Only U0 w W → Grow w U0 U → W.heap[D]? = some (.deferred (some [])) → c.wpIn Fence.wide 10 P Q { a with defers := { target := .collected D, args := #[] } :: a.defers } W) :
  (Code.rangeFunc g ps assign body).wpIn Fence.wide 10 P Q a w := by
 refine wpIn_rangeFunc ?_
 intro fn hfn
 obtain ⟨rc, hrc⟩ : ∃ rc : LoopState → Option Code → Loop, rc = fun st pe => { state := st, pending := pe, fn, tmps := a.tmps, params := ps, assign, body, defers := w.heap.size } := ⟨_, rfl⟩
 obtain ⟨W1, hW1⟩ : ∃ W1, (w.alloc (.deferred (some []))).alloc (.loop (rc .ready none)) = W1 := ⟨_, rfl⟩
 have hL1 : W1.heap[w.heap.size + 1]? = some (.loop (rc .ready none)) := by
  rw [← hW1]; have := World.alloc_heap_new (w.alloc (.deferred (some []))) (.loop (rc .ready none)); rwa [World.size_alloc] at this
 have hK1 : W1.heap[w.heap.size]? = some (.deferred (some [])) := by
  rw [← hW1]; exact (Below.heap_alloc _ _ _ (by simp)).trans (World.alloc_heap_new w _)
 have hO1 : Only (fun _ => False) w W1 := by rw [← hW1]; exact ((Only.refl _ _).alloc _).alloc _
 have hsz1 : W1.heap.size = w.heap.size + 2 := by rw [← hW1]; simp
 have hI1 : J [] U0 W1 := hJ.2 _ _ _ _ _ h0 hO1 (fun _ h => h.elim)
 have hlt0 := hJ.1 _ _ _ h0
 refine ⟨w.heap.size + 1, [{ target := .collected w.heap.size, args := #[] }], W1, { target := .fn (.func gf) lb, args := #[.func (.yield (w.heap.size + 1)) #[] #[]] }, W1, gf,
  #[.func (.yield (w.heap.size + 1)) #[] #[]] ++ lb, W1, ?_, ?_, ?_, ?_, ?_, ?_⟩
 ·rw [← hW1, hrc]; exact run_enterLoop_outer _ _ _ _ _
 ·simp only [resolve, hg]
  simp [go_sem]
 ·intro f' _; trivial
 ·simp [invoke, go_sem, eg]
 ·intro h; simp [Fence.wide] at h
 · -- the iterator's contract at the caller's invariant, with the loop's two blocks beside it
  let bk : (Nat → Prop) → Nat → Prop := fun U k => U k ∨ k = w.heap.size ∨ k = w.heap.size + 1
  refine (hseq (w.heap.size + 1)
   (fun pre V W => ∃ U, V = bk U ∧ J pre U W ∧ ¬ U w.heap.size ∧ ¬ U (w.heap.size + 1) ∧ W.heap[w.heap.size + 1]? = some (.loop (rc .ready none)) ∧ W.heap[w.heap.size]? = some (.deferred (some [])))
   (fun pre V W => ∃ U c, V = bk U ∧ Jx c pre U W ∧ ¬ U w.heap.size ∧ ¬ U (w.heap.size + 1) ∧ W.heap[w.heap.size + 1]? = some (.loop (rc .done (some c))) ∧ W.heap[w.heap.size]? = some (.deferred (some [])))
   W1 (bk U0) ⟨?_, ?_⟩ ⟨?_, ?_⟩ ?_ ?_ ?_ ?_).mono ?_
  ·rintro pre V A ⟨U, rfl, hj, _, _, hl, hk⟩ k (hk' | rfl | rfl)
   ·exact hJ.1 _ _ _ hj k hk'
   ·exact (Array.getElem?_eq_some_iff.1 hk).1
   ·exact (Array.getElem?_eq_some_iff.1 hl).1
  ·rintro pre V A B S' ⟨U, rfl, hj, n1, n2, hl, hk⟩ ho hd
   exact ⟨U, rfl, hJ.2 _ _ _ _ _ hj ho (fun k hk' => ⟨by have := (hd k hk').1; omega, fun hu => (hd k hk').2 (.inl hu)⟩), n1, n2, ho.heap hl (fun hh => (hd _ hh).2 (.inr (.inr rfl))), ho.heap hk (fun hh => (hd _ hh).2 (.inr (.inl rfl)))⟩
  ·rintro pre V A ⟨U, c, rfl, hj, _, _, hl, hk⟩ k (hk' | rfl | rfl)
   ·exact (hJx c).1 _ _ _ hj k hk'
   ·exact (Array.getElem?_eq_some_iff.1 hk).1
   ·exact (Array.getElem?_eq_some_iff.1 hl).1
  ·rintro pre V A B S' ⟨U, c, rfl, hj, n1, n2, hl, hk⟩ ho hd
   exact ⟨U, c, rfl, (hJx c).2 _ _ _ _ _ hj ho (fun k hk' => ⟨by have := (hd k hk').1; omega, fun hu => (hd k hk').2 (.inl hu)⟩), n1, n2, ho.heap hl (fun hh => (hd _ hh).2 (.inr (.inr rfl))), ho.heap hk (fun hh => (hd _ hh).2 (.inr (.inl rfl)))⟩
  ·intro k o _ h; exact hO1.heap h (fun h => h)
  ·rintro k hk (h | rfl | rfl)
   ·exact hU0 k hk h
   ·have := hFp _ hk; omega
   ·have := hFp _ hk; omega
  ·exact ⟨U0, rfl, hI1, fun h => by have := hlt0 _ h; omega, fun h => by have := hlt0 _ h; omega, hL1, hK1⟩
  · -- one round
   rintro pre x args V W ⟨U, rfl, hj, n1, n2, hl, hk⟩ hpre
   have hlt : w.heap.size + 1 < W.heap.size := (Array.getElem?_eq_some_iff.1 hl).1
   have hy := run_yield (P := P) (args := args) hl (by rw [hrc]; exact hps _ _ _ _ _ hpre)
   rw [hrc] at hy
   refine ⟨fn, _, assign, body, hy, roundIn_of_wpIn hfn ?_⟩
   refine hassign _ pre x args U (bk U) W _ hj (fun k hk' => .inl hk') hpre ?_
   intro a₁ W₁ hax ho₁
   have hl₁ : W₁.heap[w.heap.size + 1]? = some (.loop (rc .ready none)) := ho₁.heap hl (fun h => h)
   have hk₁ : W₁.heap[w.heap.size]? = some (.deferred (some [])) := ho₁.heap hk (fun h => h)
   refine ⟨_, run_beginRound hl₁ (by rw [hrc]), ?_⟩
   obtain ⟨W₂, hW₂⟩ : ∃ W₂, W₁.putObj (w.heap.size + 1) (.loop { rc .ready none with state := .busy }) = W₂ := ⟨_, rfl⟩
   rw [hW₂]
   have ho₂ : Only (fun k => k = w.heap.size + 1) W₁ W₂ := by rw [← hW₂]; exact Only.putObj _ _ _
   have hlt₁ : w.heap.size + 1 < W₁.heap.size := (Array.getElem?_eq_some_iff.1 hl₁).1
   have hl₂ : W₂.heap[w.heap.size + 1]? = some (.loop { rc .ready none with state := .busy }) := by rw [← hW₂]; exact World.putObj_heap_same hlt₁
   have hk₂ : W₂.heap[w.heap.size]? = some (.deferred (some [])) := ho₂.heap hk₁ (by omega)
   have hsz₂ : W.heap.size ≤ W₂.heap.size := Nat.le_trans ho₁.size ho₂.size
   have hj₂ : J pre U W₂ := hJ.2 _ _ _ _ _ (hJ.2 _ _ _ _ _ hj ho₁ (fun _ h => h.elim)) ho₂ (fun k e => by subst e; exact ⟨by omega, n2⟩)
   have hax₂ : Ax pre x args a₁ U W₂ := hAx _ _ _ _ _ _ _ _ hax (ho₂.mono (fun k _ e => .inr (.inr e))) (fun k hk' => .inl hk')
   refine wpIn_mono (hbody _ pre x args a₁ U W₂ hj₂ hax₂) ?_
   have fin : ∀ (jump : Option Code) (W₃ : World) (U' : Nat → Prop), Only U W₂ W₃ → Grow W₂ U U' →
     (Instr.endRound (w.heap.size + 1) jump).run P W₃ = .ok (.bool jump.isNone) (W₃.putObj (w.heap.size + 1) (.loop (rc (if jump.isNone then .ready else .done) jump))) ∧
     (W₃.putObj (w.heap.size + 1) (.loop (rc (if jump.isNone then .ready else .done) jump))).heap[w.heap.size + 1]? = some (.loop (rc (if jump.isNone then .ready else .done) jump)) ∧
     (W₃.putObj (w.heap.size + 1) (.loop (rc (if jump.isNone then .ready else .done) jump))).heap[w.heap.size]? = some (.deferred (some [])) ∧
     ¬ U' w.heap.size ∧ ¬ U' (w.heap.size + 1) ∧ Only (bk U) W (W₃.putObj (w.heap.size + 1) (.loop (rc (if jump.isNone then .ready else .done) jump))) ∧ Grow W (bk U) (bk U') := fun jump W₃ U' ho₃ hg₃ => by
    have hl₃ := ho₃.heap hl₂ n2
    have hk₃ := ho₃.heap hk₂ n1
    have hr := run_endRound (P := P) jump hl₃
    rw [hrc] at hr ⊢
    refine ⟨hr, World.putObj_heap_same (Array.getElem?_eq_some_iff.1 hl₃).1, (World.putObj_heap_other (by omega)).trans hk₃, ?_, ?_, ?_, ?_⟩
    ·intro h
     rcases hg₃ _ h with h | h
     ·exact n1 h
     ·omega
    ·intro h
     rcases hg₃ _ h with h | h
     ·exact n2 h
     ·omega
    ·refine Only.trans (T := bk U) ?_ ((Only.putObj _ _ _).mono (fun k _ e => .inr (.inr e))) (fun _ _ h => h)
     refine Only.trans (T := bk U) ?_ (ho₃.mono (fun k _ e => .inl e)) (fun _ _ h => h)
     refine Only.trans (T := bk U) ?_ (ho₂.mono (fun k _ e => .inr (.inr e))) (fun _ _ h => h)
     exact ho₁.mono (fun _ _ h => h.elim)
    ·rintro k (h | h)
     ·rcases hg₃ k h with h | h
      ·exact .inl (.inl h)
      ·exact .inr (by omega)
     ·exact .inl (.inr h)
   rintro e a3 W₃ hp
   cases e with
   | normal =>
    obtain ⟨U', hj₃, ho₃, hg₃⟩ := hp
    obtain ⟨hr, hl₄, hk₄, m1, m2, hoo, hgg⟩ := fin none W₃ U' ho₃ hg₃
    exact ⟨_, _, hr, .inl ⟨rfl, bk U', ⟨U', rfl, hJ.2 _ _ _ _ _ hj₃ (Only.putObj _ _ _) (fun k e => by subst e; exact ⟨by omega, m2⟩), m1, m2, hl₄, hk₄⟩, hoo, hgg⟩⟩
   | ret =>
    obtain ⟨U', hj₃, ho₃, hg₃⟩ := hp
    obtain ⟨hr, hl₄, hk₄, m1, m2, hoo, hgg⟩ := fin (some .ret) W₃ U' ho₃ hg₃
    exact ⟨_, _, hr, .inr ⟨rfl, bk U', ⟨U', _, rfl, (hJx _).2 _ _ _ _ _ hj₃ (Only.putObj _ _ _) (fun k e => by subst e; exact ⟨by omega, m2⟩), m1, m2, hl₄, hk₄⟩, hoo, hgg⟩⟩
   | exit id =>
    obtain ⟨U', hj₃, ho₃, hg₃⟩ := hp
    obtain ⟨hr, hl₄, hk₄, m1, m2, hoo, hgg⟩ := fin (some (.exit id)) W₃ U' ho₃ hg₃
    exact ⟨_, _, hr, .inr ⟨rfl, bk U', ⟨U', _, rfl, (hJx _).2 _ _ _ _ _ hj₃ (Only.putObj _ _ _) (fun k e => by subst e; exact ⟨by omega, m2⟩), m1, m2, hl₄, hk₄⟩, hoo, hgg⟩⟩
   | goto t =>
    obtain ⟨U', hj₃, ho₃, hg₃⟩ := hp
    obtain ⟨hr, hl₄, hk₄, m1, m2, hoo, hgg⟩ := fin (some (.goto t)) W₃ U' ho₃ hg₃
    exact ⟨_, _, hr, .inr ⟨rfl, bk U', ⟨U', _, rfl, (hJx _).2 _ _ _ _ _ hj₃ (Only.putObj _ _ _) (fun k e => by subst e; exact ⟨by omega, m2⟩), m1, m2, hl₄, hk₄⟩, hoo, hgg⟩⟩
   | panic ch => exact hp.elim
   | outgrown => exact hp.elim
  · -- behind the iterator
   have fin2 : ∀ (W2 W3 : World) (U : Nat → Prop) (st : LoopState) (pe : Option Code) , Only (bk U0) W1 W2 → Grow W1 (bk U0) (bk U) → ¬ U w.heap.size → ¬ U (w.heap.size + 1) → W3 = W2.putObj (w.heap.size + 1) (.loop (rc st pe)) →
     Only U0 w W3 ∧ Grow w U0 U := fun W2 W3 U st pe ho hgr n1 n2 e => by
    subst e
    constructor
    ·refine Only.trans (T := fun k => k = w.heap.size + 1) ?_ (Only.putObj _ _ _) (fun i hi e => by omega)
     refine Only.trans (T := bk U0) (hO1.mono (fun _ _ h => h.elim)) ho ?_
     rintro i hi (h | h | h)
     ·exact h
     ·omega
     ·omega
    ·intro k hk
     rcases hgr k (.inl hk) with (h | h | h) | h
     ·exact .inl h
     ·exact .inr (by omega)
     ·exact .inr (by omega)
     ·exact .inr (by omega)
   rintro e W2 ⟨⟨v, rfl⟩, (⟨xs, V, hS, ⟨U, rfl, hj, n1, n2, hl, hk⟩, ho, hgr⟩ | ⟨pre, V, hSp, ⟨U, c, rfl, hj, n1, n2, hl, hk⟩, ho, hgr⟩)⟩
   ·obtain ⟨f1, f2⟩ := fin2 W2 _ U .exhausted none ho hgr n1 n2 rfl
    refine ⟨none, _, by have := run_endLoop (P := P) hl (by rw [hrc]; simp); rw [hrc] at this; exact this, ?_⟩
    rw [hrc] at f1
    exact hdone w.heap.size xs U _ (Nat.le_refl _) n1 hS (hJ.2 _ _ _ _ _ hj (Only.putObj _ _ _) (fun k e => by subst e; exact ⟨by omega, n2⟩)) f1 f2 ((World.putObj_heap_other (by omega)).trans hk)
   ·obtain ⟨f1, f2⟩ := fin2 W2 _ U .exhausted (some c) ho hgr n1 n2 rfl
    refine ⟨some c, _, by have := run_endLoop (P := P) hl (by rw [hrc]; simp); rw [hrc] at this; exact this, ?_⟩
    rw [hrc] at f1
    exact hstop w.heap.size c pre U _ (Nat.le_refl _) n1 hSp ((hJx c).2 _ _ _ _ _ hj (Only.putObj _ _ _) (fun k e => by subst e; exact ⟨by omega, n2⟩)) f1 f2 ((World.putObj_heap_other (by omega)).trans hk)
def SeqE (P : Program) (g : Nat) (lb : Array Value) (Fp : Nat → Prop) (w : World) : Prop :=
 ∀ (l : Nat) (W : World), (∀ k o, Fp k → w.heap[k]? = some o → W.heap[k]? = some o) →
  Calls P g (#[.func (.yield l) #[] #[]] ++ lb) W fun e W' => (∃ v, e = .returned v) ∧ Only (fun _ => False) W W'
theorem SeqE.seqG {P : Program} {g : Nat} {lb : Array Value} {Fp : Nat → Prop} {w : World} (h : SeqE P g lb Fp w) :
  SeqG (α := Unit) P g lb (fun _ _ _ _ _ => False) Fp (fun xs => xs = []) (fun _ => False) w := by
 intro l J Jx W U0 hJ hJx hag hdis h0 hY
 refine (callsIn_wide.2 (h l W hag)).mono ?_
 rintro e W' ⟨hv, ho⟩
 exact ⟨hv, .inl ⟨[], U0, rfl, hJ.2 _ _ _ _ _ h0 ho (fun _ h => h.elim), ho.mono (fun _ _ h => h.elim), Grow.refl _ _⟩⟩
theorem range_none {P : Program} {g : Operand} {ps : Array Tmp} {assign body : Code} {Q : Exit → Act → World → Prop} {a : Act} {w : World}
  {gf : Nat} {lb : Array Value} (hg : a.eval g = .func (.func gf) #[] lb) (eg : ∀ args w, (callFunc gf args).run P w = .ok (.enter gf args) w)
  {Fp : Nat → Prop} (hseq : SeqE P gf lb Fp w) (hFp : ∀ k, Fp k → k < w.heap.size)
  (hdone : ∀ (D : Nat) (W : World), w.heap.size ≤ D → Only (fun _ => False) w W → W.heap[D]? = some (.deferred (some [])) → Q .normal { a with defers := { target := .collected D, args := #[] } :: a.defers } W) :
  (Code.rangeFunc g ps assign body).wp P Q a w := by
 refine (wpIn_wide (n := 10)).1 (range_law hg eg hseq.seqG hFp ?_ (fun _ U W => U = (fun _ => False) ∧ Only (fun _ => False) w W) (fun _ _ _ _ => False) ⟨?_, ?_⟩ (fun _ => Stable.none _) (fun _ => False) ⟨rfl, Only.refl _ _⟩ (fun _ _ h => h)
  (fun _ _ _ _ _ _ => False) ?_ ?_ ?_ ?_ ?_)
 ·rintro pre x args U W h; exact h.elim
 ·rintro pre U A ⟨rfl, _⟩ k hk; exact hk.elim
 ·rintro pre U A B S' ⟨rfl, ho⟩ hS hd
  exact ⟨rfl, ⟨hS.os.trans ho.os, hS.tape.trans ho.tape, hS.output.trans ho.output, Nat.le_trans ho.size hS.size, fun k hk _ => (hS.block k (Nat.lt_of_lt_of_le hk ho.size) (fun hs => by have := (hd k hs).1; omega)).trans (ho.block k hk (fun h => h))⟩⟩
 ·rintro pre x args a₁ U V A B h; exact h.elim
 ·rintro l pre x args U V W K _ _ h; exact h.elim
 ·rintro l pre x args a₁ U W _ h; exact h.elim
 ·rintro D xs U W hD _ _ ⟨_, ho⟩ _ _ hk
  exact hdone D W hD ho hk
 ·rintro D c pre U W _ _ h; exact h.elim
end Go.Proofs.YtagemonojdgbdaaGreatDoor
