import Derived.Test.YtagemonojdgbdaaGreatDoorQ04
import Derived.ArgAppend
import Derived.Laws.IdiomCopy
namespace Go.Proofs.YtagemonojdgbdaaGreatDoor
set_option maxRecDepth 100000
open Go.RowKit
theorem bH {b : Nat} {t : TypeId} : ∀ (vs : List Value) (o : Nat) (w : World) (cs : Array Value), w.heap[b]? = some (.cells cs t (0, 0)) -> o + vs.length <= cs.size ->
  ∃ cs', (w.setCells b o vs).heap[b]? = some (.cells cs' t (0, 0)) /\ cs'.size = cs.size /\ (∀ j, ¬ (o <= j /\ j < o + vs.length) -> cs'[j]? = cs[j]?) /\ ∀ j u, vs[j]? = some u -> cs'[o + j]? = some u
 | [], o, w, cs, h, _ => ⟨cs, h, rfl, fun _ _ => rfl, fun j u hj => by simp at hj⟩
 | v :: vs, o, w, cs, h, hl => by
  have h1 := heap_setCell_same w b o cs t v h
  obtain ⟨cs', k1, k2, k3, k4⟩ := bH vs (o + 1) (w.setCell ⟨b, o, none⟩ v) (cs.setIfInBounds o v) h1 (by simp at hl ⊢; omega)
  refine ⟨cs', k1, by simpa using k2, fun j hj => ?_, fun j u hj => ?_⟩
  ·rw [k3 j (by simp at hj ⊢; omega), Array.getElem?_setIfInBounds, if_neg (by simp at hj; omega)]
  ·cases j with
   | zero =>
    have e : v = u := by simpa using hj
    subst e
    rw [Nat.add_zero, k3 o (by omega), Array.getElem?_setIfInBounds, if_pos rfl, if_pos (by simp at hl; omega)]
   | succ j =>
    have := k4 j u (by simpa using hj)
    rw [show o + (j + 1) = o + 1 + j by omega]
    exact this
theorem bj (b : Nat) : ∀ (vs : List Value) (o : Nat) (w : World), OnlyC (fun k j => k = b /\ o <= j /\ j < o + vs.length) w (w.setCells b o vs)
 | [], o, w => OnlyC.refl _ w
 | v :: vs, o, w => by
  have h1 := OnlyC.aT w b o v
  have h2 := bj b vs (o + 1) (w.setCell ⟨b, o, none⟩ v)
  have h1' : OnlyC (fun k j => k = b /\ o <= j /\ j < o + (v :: vs).length) w (w.setCell ⟨b, o, none⟩ v) := h1.mono (fun k j _ ⟨e1, e2⟩ => ⟨e1, by omega, by simp; omega⟩)
  exact h1'.trans h2 (fun k j _ ⟨e1, e2, e3⟩ => ⟨e1, by omega, by simp; omega⟩)
section
variable {k : Nat} {t : TypeId} {F G : Nat -> Nat -> Prop} {w w' : World} {v : Value} {xs : List (List Value)}
theorem qB (hk : ∀ x ∈ xs, x.length = k) : ∀ (i : Nat) (x : List Value), xs[i]? = some x -> ∀ (j : Nat) (u : Value), x[j]? = some u -> xs.flatten[i * k + j]? = some u := by
 induction xs with
 | nil => intro i x hi; simp at hi
 | cons y ys ih =>
  intro i x hi j u hj
  have hy := hk y (by simp)
  cases i with
  | zero =>
   simp at hi
   subst hi
   rw [List.flatten_cons, List.getElem?_append_left (by have := (List.getElem?_eq_some_iff.1 hj).1; omega)]
   simpa using hj
  | succ i =>
   have h1 := ih (fun z hz => hk z (by simp [hz])) i x (by simpa using hi) j u hj
   rw [List.flatten_cons, List.getElem?_append_right (by rw [hy, Nat.succ_mul]; omega)]
   rw [<- h1]
   congr 1
   rw [hy, Nat.succ_mul]; omega
theorem aj.lies (h : aj k t w v xs F) (h0 : 0 < xs.length) : ∃ b o c cs, v = .slice (some ⟨b, o, none⟩) xs.length c /\ xs.length <= c /\ c <= maxLen /\ (∀ x ∈ xs, x.length = k) /\ w.heap[b]? = some (.cells cs t (0, 0)) /\ o + c * k <= cs.size /\ (∀ j, o <= j -> j < o + c * k -> F b j) /\ ∀ j u, xs.flatten[j]? = some u -> cs[o + j]? = some u := by
 obtain ⟨A, c, h1, h2, h3, h4, ⟨h5, _⟩ | ⟨b, o, cs, h5, h6, h7, h8, h9⟩⟩ := h
 ·omega
 ·subst h5
  exact ⟨b, o, c, cs, h1, h2, h3, h4, h6, h7, h8, h9⟩
theorem cell_of_heap {w : World} {b j : Nat} {cs : Array Value} {t : TypeId} {u : Value} (h : w.heap[b]? = some (.cells cs t (0, 0))) (hc : cs[j]? = some u) : w.cell? ⟨b, j, none⟩ = some u := by simp [World.cell?, h, hc]
theorem frozen_of_heap {w : World} {b : Nat} {cs : Array Value} {t : TypeId} (h : w.heap[b]? = some (.cells cs t (0, 0))) (j : Nat) : w.frozen? ⟨b, j, none⟩ = false := by simp [World.frozen?, h]
theorem aj.rewritten {b o n c : Nat} {cs cs' : Array Value} {ys : List (List Value)} (hb : w'.heap[b]? = some (.cells cs' t (0, 0))) (hsz : cs'.size = cs.size) (h7 : o + c * k <= cs.size) (h8 : ∀ j, o <= j -> j < o + c * k -> F b j)
  (hn : ys.length = n) (hnc : n <= c) (hcm : c <= maxLen) (hk : ∀ x ∈ ys, x.length = k) (hy : ∀ j u, ys.flatten[j]? = some u -> cs'[o + j]? = some u) : aj k t w' (.slice (some ⟨b, o, none⟩) n c) ys F := by
 subst hn
 exact ⟨_, c, rfl, hnc, hcm, hk, .inr ⟨b, o, cs', rfl, hb, by omega, h8, hy⟩⟩
end
section
variable {P : Program} {k : Nat} {e : TypeId} {F G : Nat -> Nat -> Prop}
theorem cH (w : World) {ops : Array Oper} {rest : List Oper} {o : Oper} {a : Act} {Q : Exit -> Act -> World -> Prop}
  (hg : o.guard = none) (s x : Operand) (t : TypeId) (hop : o.op = Op.call { callee := Callee.builtin Builtin.append, args := #[s, x], argTypes := #[t, t] })
  (i : TypeInfo) (z : Value) (bytes : Nat) (h1 : P.underlying t = some (.slice e)) (h2 : P.info? e = some i) (h3 : i.zero = some z) (h4 : i.size = k) (h5 : i.bytes = bytes) (h6 : z.cells.size = k) (h7 : 0 < k)
  (v : Value) (xs : List (List Value)) (hs : a.eval s = v) (hv : aj k e w v xs F)
  (ad : Addr) (m c : Nat) (ys : List (List Value)) (hx : a.eval x = .slice (some ad) m c) (hm : ys.length = m) (hyk : ∀ y ∈ ys, y.length = k) (hc : ∀ j u, ys.flatten[j]? = some u -> w.cell? (ad.add j) = some u) (h1c : ∀ u ∈ ys.flatten, u.oneCell' = true)
  (b1 : xs.length + m <= maxLen) (b2 : (xs.length + m) * bytes <= 140737488355328)
  (h : ∀ v' w', aj k e w' v' (xs ++ ys) (fun b o => F b o \/ w.heap.size <= b) -> OnlyC F w w' -> wpList P ops Q rest (a.put o.dst v') w') :
  wpList P ops Q (o :: rest) a w := by
 have hv0 := hv
 obtain ⟨A, cp, rfl, q2, q3, q4, q5⟩ := hv
 have Cn : ys.flatten.length = m * k := by rw [aZ hyk, hm]
 have hxl : xs.flatten.length = xs.length * k := aZ q4
 have hall : ∀ y ∈ xs ++ ys, y.length = k := fun y hy => (List.mem_append.1 hy).elim (q4 y) (hyk y)
 have grown : ∀ v' w', w'.ownsRow w.heap.size e k v' (xs.length + m) (xs.flatten ++ ys.flatten) -> w.grownBy w' none -> wpList P ops Q rest (a.put o.dst v') w' := by
  intro v' w' r1 r2
  refine h v' w' (aj.bC (n := xs.length + m) (base := w.heap.size) (by rw [List.flatten_append]; exact r1) hall h7 (fun g j hg => .inr (r1.lt g hg).1)) (OnlyC.of_below ⟨r2.os, r2.tape, r2.output, r2.size, fun q hq => r2.block q hq (by simp)⟩ F)
 by_cases hr : xs.length + m <= cp
 ·by_cases D4 : cp = 0
  · -- nothing at all
   subst D4
   have hx0 : xs = [] := List.eq_nil_of_length_eq_zero (by omega)
   have hy0 : ys = [] := List.eq_nil_of_length_eq_zero (by omega)
   subst hx0 hy0
   subst hm
   refine wpList_plain hg fun K hK => ?_
   have hrun : (Builtin.append_ #[t, t] o.type #[.slice A ([] : List (List Value)).length 0, .slice (some ad) ([] : List (List Value)).length c]).run P w = .ok (.slice A 0 0) w := by
    have hfc := run_firstCells_some (P := P) w i.size 0 ad 0 c [] (by simp) (fun j u hj => by simp at hj)
    cases A with
    | none => simp [Builtin.append_, run_underlying h1, sizeOf, typeInfo, h2, Builtin.lenOf, hfc]
    | some A0 => simp [Builtin.append_, run_underlying h1, sizeOf, typeInfo, h2, Builtin.lenOf, hfc, storeCells]
   unfold Oper.wp
   simp only [execOp, hop, resolve, invoke, builtin, Sem.run_bind, Sem.run_pure, Result.andThen_ok, List.map_toArray, List.map_cons, List.map_nil, hs, hx, hrun]
   exact hK _ _ (h _ w (hv0.mono (fun _ _ h => .inl h)) (OnlyC.refl F w))
  ·obtain ⟨h0, _⟩ | ⟨b, off, cs, rfl, q6, q7, q8, q9⟩ := q5
   ·exact absurd h0 D4
   ·have hmul : (xs.length + m) * k <= cp * k := Nat.mul_le_mul_right k hr
    rw [Nat.add_mul] at hmul
    have hfit : off + xs.length * k + ys.flatten.length <= cs.size := by rw [Cn]; omega
    subst h4
    refine wpList_plain hg fun K hK => ?_
    have hrun := run_append_room_cells (P := P) w t o.type e i h1 h2 b off xs.length cp ad m c ys.flatten Cn hc h1c hr
     (fun j hj => by
      have hlt : off + xs.length * i.size + j < cs.size := by omega
      simp [World.cell?, q6, Array.getElem?_eq_getElem hlt]) (fun j _ => frozen_of_heap q6 _)
    unfold Oper.wp
    simp only [execOp, hop, resolve, invoke, builtin, Sem.run_bind, Sem.run_pure, Result.andThen_ok, List.map_toArray, List.map_cons, List.map_nil, hs, hx, hrun]
    obtain ⟨cs', k1, k2, k3, k4⟩ := bH ys.flatten (off + xs.length * i.size) w cs q6 hfit
    refine hK _ _ (h _ _ (aj.rewritten (ys := xs ++ ys) k1 k2 q7 (fun j a b => .inl (q8 j a b)) (by simp [hm]) hr q3 hall (fun j u hj => ?_)) ((bj b ys.flatten (off + xs.length * i.size) w).mono (fun b' j _ ⟨e1, e2, e3⟩ => ?_)))
    ·rw [List.flatten_append] at hj
     by_cases hjl : j < xs.flatten.length
     ·rw [List.getElem?_append_left hjl] at hj
      rw [k3 _ (by omega)]
      exact q9 j u hj
     ·rw [List.getElem?_append_right (by omega)] at hj
      have := k4 _ u hj
      rw [hxl] at this
      rw [show off + j = off + xs.length * i.size + (j - xs.length * i.size) by omega]
      exact this
    ·subst e1
     exact q8 j (by omega) (by omega)
 ·rcases q5 with ⟨rfl, _⟩ | ⟨b, off, cs, rfl, q6, q7, q8, q9⟩
  ·have hx0 : xs = [] := List.eq_nil_of_length_eq_zero (by omega)
   subst hx0
   cases A with
   | some A0 => exact wpList_append_grows w hg s x t hop e i z k bytes h1 h2 h3 h4 h5 h6 h7 (some A0) 0 0 [] hs (fun hh => by cases hh) (by simp) (fun b' hb' j u hj => by simp at hj) ad m c ys.flatten hx Cn hc h1c (by omega) b1 b2 (fun v' w' r1 r2 => grown v' w' r1 r2)
   | none => exact wpList_append_grows w hg s x t hop e i z k bytes h1 h2 h3 h4 h5 h6 h7 none 0 0 [] hs (fun _ => ⟨rfl, rfl⟩) (by simp) (fun b hb => by cases hb) ad m c ys.flatten hx Cn hc h1c (by omega) b1 b2 (fun v' w' r1 r2 => grown v' w' r1 r2)
  ·refine wpList_append_grows w hg s x t hop e i z k bytes h1 h2 h3 h4 h5 h6 h7 (some ⟨b, off, none⟩) xs.length cp xs.flatten hs (fun hh => by cases hh) hxl (fun b' hb' j u hj => ?_) ad m c ys.flatten hx Cn hc h1c (by omega) b1 b2 (fun v' w' r1 r2 => grown v' w' r1 r2)
   injection hb' with hb'
   subst hb'
   rw [Addr.add_lit]
   exact cell_of_heap q6 (q9 j u hj)
end
section
variable {P : Program} {k : Nat} {e : TypeId} {F : Nat -> Nat -> Prop}
theorem mo (w : World) (t ty : TypeId) (i : TypeInfo) (z : Value) (bytes : Nat) (h1 : P.underlying t = some (.slice e)) (h2 : P.info? e = some i) (h3 : i.zero = some z) (h4 : i.size = k) (h5 : i.bytes = bytes) (h6 : z.cells.size = k) (h7 : 0 < k)
  (v : Value) (xs : List (List Value)) (hv : aj k e w v xs F) (ad : Addr) (m c : Nat) (ys : List (List Value)) (hm : ys.length = m) (hyk : ∀ y ∈ ys, y.length = k) (hc : ∀ j u, ys.flatten[j]? = some u -> w.cell? (ad.add j) = some u) (h1c : ∀ u ∈ ys.flatten, u.oneCell' = true)
  (b1 : xs.length + m <= maxLen) (b2 : (xs.length + m) * bytes <= 140737488355328) :
  ∃ v' w', (Builtin.append_ #[t, t] ty #[v, .slice (some ad) m c]).run P w = .ok v' w' /\ aj k e w' v' (xs ++ ys) (fun b o => F b o \/ w.heap.size <= b) /\ OnlyC F w w' := by
 have hv0 := hv
 obtain ⟨A, cp, rfl, q2, q3, q4, q5⟩ := hv
 have Cn : ys.flatten.length = m * k := by rw [aZ hyk, hm]
 have hxl : xs.flatten.length = xs.length * k := aZ q4
 have hall : ∀ y ∈ xs ++ ys, y.length = k := fun y hy => (List.mem_append.1 hy).elim (q4 y) (hyk y)
 have grown : ∀ v' w', w'.ownsRow w.heap.size e k v' (xs.length + m) (xs.flatten ++ ys.flatten) -> w.grownBy w' none -> aj k e w' v' (xs ++ ys) (fun b o => F b o \/ w.heap.size <= b) /\ OnlyC F w w' := fun v' w' r1 r2 =>
  ⟨aj.bC (n := xs.length + m) (base := w.heap.size) (by rw [List.flatten_append]; exact r1) hall h7 (fun g j hg => .inr (r1.lt g hg).1), OnlyC.of_below ⟨r2.os, r2.tape, r2.output, r2.size, fun q hq => r2.block q hq (by simp)⟩ F⟩
 by_cases hr : xs.length + m <= cp
 ·by_cases D4 : cp = 0
  ·subst D4
   have hx0 : xs = [] := List.eq_nil_of_length_eq_zero (by omega)
   have hy0 : ys = [] := List.eq_nil_of_length_eq_zero (by omega)
   subst hx0 hy0
   subst hm
   have hrun : (Builtin.append_ #[t, t] ty #[.slice A ([] : List (List Value)).length 0, .slice (some ad) ([] : List (List Value)).length c]).run P w = .ok (.slice A 0 0) w := by
    have hfc := run_firstCells_some (P := P) w i.size 0 ad 0 c [] (by simp) (fun j u hj => by simp at hj)
    cases A with
    | none => simp [Builtin.append_, run_underlying h1, sizeOf, typeInfo, h2, Builtin.lenOf, hfc]
    | some A0 => simp [Builtin.append_, run_underlying h1, sizeOf, typeInfo, h2, Builtin.lenOf, hfc, storeCells]
   exact ⟨_, w, hrun, hv0.mono (fun _ _ h => .inl h), OnlyC.refl F w⟩
  ·obtain ⟨h0, _⟩ | ⟨b, off, cs, rfl, q6, q7, q8, q9⟩ := q5
   ·exact absurd h0 D4
   ·have hmul : (xs.length + m) * k <= cp * k := Nat.mul_le_mul_right k hr
    rw [Nat.add_mul] at hmul
    have hfit : off + xs.length * k + ys.flatten.length <= cs.size := by rw [Cn]; omega
    subst h4
    have hrun := run_append_room_cells (P := P) w t ty e i h1 h2 b off xs.length cp ad m c ys.flatten Cn hc h1c hr
     (fun j hj => by
      have hlt : off + xs.length * i.size + j < cs.size := by omega
      simp [World.cell?, q6, Array.getElem?_eq_getElem hlt]) (fun j _ => frozen_of_heap q6 _)
    obtain ⟨cs', k1, k2, k3, k4⟩ := bH ys.flatten (off + xs.length * i.size) w cs q6 hfit
    refine ⟨_, _, hrun, aj.rewritten (ys := xs ++ ys) k1 k2 q7 (fun j a b => .inl (q8 j a b)) (by simp [hm]) hr q3 hall (fun j u hj => ?_), (bj b ys.flatten (off + xs.length * i.size) w).mono (fun b' j _ ⟨e1, e2, e3⟩ => ?_)⟩
    ·rw [List.flatten_append] at hj
     by_cases hjl : j < xs.flatten.length
     ·rw [List.getElem?_append_left hjl] at hj
      rw [k3 _ (by omega)]
      exact q9 j u hj
     ·rw [List.getElem?_append_right (by omega)] at hj
      have := k4 _ u hj
      rw [hxl] at this
      rw [show off + j = off + xs.length * i.size + (j - xs.length * i.size) by omega]
      exact this
    ·subst e1
     exact q8 j (by omega) (by omega)
 ·rcases q5 with ⟨rfl, q6⟩ | ⟨b, off, cs, rfl, q6, q7, q8, q9⟩
  ·have hx0 : xs = [] := List.eq_nil_of_length_eq_zero (by omega)
   subst hx0
   cases A with
   | none =>
    obtain ⟨v', w', hrun, r1, r2, _⟩ := run_append_own (P := P) w w.heap.size t ty e i z k bytes h1 h2 h3 h4 h5 h6 h7 (.slice none 0 0) 0 [] (World.ownsRow_nil w _ e k) ad m c ys.flatten Cn hc h1c b1 b2 (Nat.le_refl _)
    exact ⟨v', w', hrun, grown v' w' r1 r2⟩
   | some A0 =>
    obtain ⟨v', w', hrun, r1, r2⟩ := run_append_arg_grows (P := P) w t ty e i z k bytes h1 h2 h3 h4 h5 h6 h7 A0 0 0 [] (by simp) (fun j u hj => by simp at hj) ad m c ys.flatten Cn hc (by have := hr; simp only [List.length_nil] at this; omega) b1 b2
    exact ⟨v', w', hrun, grown v' w' r1 r2⟩
  ·obtain ⟨v', w', hrun, r1, r2⟩ := run_append_arg_grows (P := P) w t ty e i z k bytes h1 h2 h3 h4 h5 h6 h7 ⟨b, off, none⟩ xs.length cp xs.flatten hxl (fun j u hj => by rw [Addr.add_lit]; exact cell_of_heap q6 (q9 j u hj)) ad m c ys.flatten Cn hc (by omega) b1 b2
   exact ⟨v', w', hrun, grown v' w' r1 r2⟩
theorem qC {G : Nat -> Nat -> Prop} (w : World) (t ty : TypeId) (i : TypeInfo) (z : Value) (bytes : Nat) (h1 : P.underlying t = some (.slice e)) (h2 : P.info? e = some i) (h3 : i.zero = some z) (h4 : i.size = k) (h5 : i.bytes = bytes) (h6 : z.cells.size = k) (h7 : 0 < k)
  (v : Value) (xs : List (List Value)) (hv : aj k e w v xs F) (vx : Value) (ys : List (List Value)) (hx : aj k e w vx ys G) (h1c : ∀ u ∈ ys.flatten, u.oneCell' = true) (b1 : xs.length + ys.length <= maxLen) (b2 : (xs.length + ys.length) * bytes <= 140737488355328) :
  ∃ v' w', (Builtin.append_ #[t, t] ty #[v, vx]).run P w = .ok v' w' /\ aj k e w' v' (xs ++ ys) (fun b o => F b o \/ w.heap.size <= b) /\ OnlyC F w w' := by
 obtain ⟨A2, c2, rfl, p2, p3, p4, p5⟩ := hx
 cases A2 with
 | none =>
  have hc0 : c2 = 0 := by
   rcases p5 with ⟨h, _⟩ | ⟨b, o, cs, h, _⟩
   ·exact h
   ·cases h
  have hy0 : ys = [] := List.eq_nil_of_length_eq_zero (by omega)
  subst hy0
  obtain ⟨A, cp, rfl, q2, q3, q4, q5⟩ := id hv
  refine ⟨_, w, ?_, by simpa using hv.mono (fun _ _ h => .inl h), OnlyC.refl F w⟩
  cases A with
  | none =>
   have OW : cp = 0 := by
    rcases q5 with ⟨h, _⟩ | ⟨b, o, cs, h, _⟩
    ·exact h
    ·cases h
   have hx0 : xs = [] := List.eq_nil_of_length_eq_zero (by omega)
   subst hx0 OW
   simp [Builtin.append_, run_underlying h1, sizeOf, typeInfo, h2, Builtin.lenOf, Builtin.firstCells]
  | some A0 => simp [Builtin.append_, run_underlying h1, sizeOf, typeInfo, h2, Builtin.lenOf, Builtin.firstCells, q2, storeCells]
 | some ad =>
  refine mo w t ty i z bytes h1 h2 h3 h4 h5 h6 h7 v xs hv ad ys.length c2 ys rfl p4 (fun j u hj => ?_) h1c b1 b2
  rcases p5 with ⟨h, _⟩ | ⟨b, o, cs, h, g6, g7, g8, g9⟩
  ·have hy0 : ys = [] := List.eq_nil_of_length_eq_zero (by omega)
   subst hy0
   simp at hj
  ·injection h with h
   subst h
   rw [Addr.add_lit]
   exact cell_of_heap g6 (g9 j u hj)
theorem fg {G : Nat -> Nat -> Prop} {ops : Array Oper} {o : Oper} {a : Act} {K : Act -> World -> Prop} {Q : Exit -> Act -> World -> Prop} {E : Prop} (w : World) (hgd : o.guard = none) (s x : Operand) (t : TypeId)
  (ho : o.op = .call { callee := .builtin .append, args := #[s, x], argTypes := #[t, t] })
  (i : TypeInfo) (z : Value) (bytes : Nat) (h1 : P.underlying t = some (.slice e)) (h2 : P.info? e = some i) (h3 : i.zero = some z) (h4 : i.size = k) (h5 : i.bytes = bytes) (h6 : z.cells.size = k) (h7 : 0 < k)
  (v : Value) (xs : List (List Value)) (hs : a.eval s = v) (hv : aj k e w v xs F) (vx : Value) (ys : List (List Value)) (hx : a.eval x = vx) (Mb : aj k e w vx ys G) (h1c : ∀ u ∈ ys.flatten, u.oneCell' = true)
  (b1 : xs.length + ys.length <= maxLen) (b2 : (xs.length + ys.length) * bytes <= 140737488355328)
  (h : ∀ v' w', aj k e w' v' (xs ++ ys) (fun b o => F b o \/ w.heap.size <= b) -> OnlyC F w w' -> K (a.put o.dst v') w') :
  if Region.wanted o (yielded ops a.tmps) = true then Oper.wp P o a w K Q else E := by
 have hw : Region.wanted o (yielded ops a.tmps) = true := by simp [Region.wanted, hgd]
 rw [if_pos hw]
 obtain ⟨v', w', hrun, r1, r2⟩ := qC w t o.type i z bytes h1 h2 h3 h4 h5 h6 h7 v xs hv vx ys Mb h1c b1 b2
 unfold Oper.wp execOp
 simp only [ho, resolve, invoke, builtin, Sem.run_bind, Sem.run_pure, Result.andThen_ok, List.map_toArray, List.map_cons, List.map_nil, hs, hx, hrun]
 exact h v' w' r1 r2
theorem bX {ops : Array Oper} {o : Oper} {a : Act} {K : Act -> World -> Prop} {Q : Exit -> Act -> World -> Prop} {E : Prop} (w : World) (hgd : o.guard = none) (s x : Operand) (t : TypeId)
  (ho : o.op = .call { callee := .builtin .append, args := #[s, x], argTypes := #[t, t] })
  (i : TypeInfo) (z : Value) (bytes : Nat) (h1 : P.underlying t = some (.slice e)) (h2 : P.info? e = some i) (h3 : i.zero = some z) (h4 : i.size = k) (h5 : i.bytes = bytes) (h6 : z.cells.size = k) (h7 : 0 < k)
  (v : Value) (xs : List (List Value)) (hs : a.eval s = v) (hv : aj k e w v xs F) (ad : Addr) (m c : Nat) (ys : List (List Value)) (hx : a.eval x = .slice (some ad) m c) (hm : ys.length = m) (hyk : ∀ y ∈ ys, y.length = k) (hc : ∀ j u, ys.flatten[j]? = some u -> w.cell? (ad.add j) = some u) (h1c : ∀ u ∈ ys.flatten, u.oneCell' = true)
  (b1 : xs.length + m <= maxLen) (b2 : (xs.length + m) * bytes <= 140737488355328)
  (h : ∀ v' w', aj k e w' v' (xs ++ ys) (fun b o => F b o \/ w.heap.size <= b) -> OnlyC F w w' -> K (a.put o.dst v') w') :
  if Region.wanted o (yielded ops a.tmps) = true then Oper.wp P o a w K Q else E := by
 have hw : Region.wanted o (yielded ops a.tmps) = true := by simp [Region.wanted, hgd]
 rw [if_pos hw]
 obtain ⟨v', w', hrun, r1, r2⟩ := mo w t o.type i z bytes h1 h2 h3 h4 h5 h6 h7 v xs hv ad m c ys hm hyk hc h1c b1 b2
 unfold Oper.wp execOp
 simp only [ho, resolve, invoke, builtin, Sem.run_bind, Sem.run_pure, Result.andThen_ok, List.map_toArray, List.map_cons, List.map_nil, hs, hx, hrun]
 exact h v' w' r1 r2
end
end Go.Proofs.YtagemonojdgbdaaGreatDoor
