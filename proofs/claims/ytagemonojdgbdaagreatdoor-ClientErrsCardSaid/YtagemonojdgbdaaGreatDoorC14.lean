import Derived.Test.YtagemonojdgbdaaGreatDoorC12
import Derived.Test.YtagemonojdgbdaaGreatDoorC13
import Derived.Deep.RegionHeld3
import Derived.StillTailTactics
namespace Go.Proofs.YtagemonojdgbdaaGreatDoor
set_option maxRecDepth 100000
open Go.RowKit
section
open Go.RowKit Go.Maps Go.WideShapes
theorem grown_of_below {w w' : World} (h : Below w.heap.size w w') : w.grownBy w' none := ⟨h.os, h.tape, h.output, h.size, fun k hk _ => h.block k hk⟩
def ArrAt (w : World) (A : Nat) (f : Nat → Value) : Prop := w.heap[A]? = some (.cells #[f 0, f 1, f 2, f 3] 173 (0, 0))
def Own8 (w : World) (base : Nat) (rs : Nat → Value) (ls : Nat → List (Int × Int)) : Prop :=
 (∀ j, j < 8 → w.ownsRow base 178 2 (rs j) (ls j).length ((ls j).map spc).flatten) ∧ ∀ i j, i < 8 → j < 8 → i ≠ j → ∀ g, (rs i).ownBlock = some g → (rs j).ownBlock ≠ some g
def lists (l : List Cl) (j : Nat) : List (Int × Int) := if j < 4 then spansOf l (j : Int) false else spansOf l ((j - 4 : Nat) : Int) true
def CoreR (w : World) (D : DataW Unit) (n : Nat) (rs : Nat → Value) (ls : Nat → List (Int × Int)) (wr : World) : Prop :=
 wr.ownsMap Tryz.prog 176 (plainElem Tryz.prog 3) (w.heap.size + 1) n D ∧ wr.heap[w.heap.size]? = some (.cells #[.slice none 0 0] 87 (0, 0)) ∧
  ArrAt wr (w.heap.size + 1 + 1) rs ∧ ArrAt wr (w.heap.size + 1 + 1 + 1) (fun j => rs (4 + j)) ∧ Own8 wr (w.heap.size + 1 + 1 + 1 + 1) rs ls ∧ Below w.heap.size w wr
def LoopR (w : World) (l : List Cl) (k : Nat) (wr : World) : Prop :=
 ∃ (D : DataW Unit) (rs : Nat → Value), RowsMap D (fun key => lev (l.take k) (-1, key, 0)) ∧ CoreR w D k rs (lists (l.take k)) wr
section
variable {w wr w' : World} {D D' : DataW Unit} {n n' : Nat} {rs : Nat → Value} {ls ls' : Nat → List (Int × Int)}
theorem CoreR.below (h : CoreR w D n rs ls wr) (hb : Below wr.heap.size wr w') : CoreR w D n rs ls w' := by
 obtain ⟨h1, h2, h3, h4, h5, h6⟩ := h
 have hl := h1.lt
 refine ⟨h1.kept (grown_of_below hb) (by simp), ?_, ?_, ?_, ⟨fun j hj => own_below (h5.1 j hj) hb, h5.2⟩, h6.trans (hb.mono h6.size)⟩
 ·rw [hb.block _ (by omega)]; exact h2
 ·unfold ArrAt; rw [hb.block _ (Array.getElem?_eq_some_iff.1 h3).1]; exact h3
 ·unfold ArrAt; rw [hb.block _ (Array.getElem?_eq_some_iff.1 h4).1]; exact h4
theorem CoreR.map (h : CoreR w D n rs ls wr) (hg : wr.grownBy w' (some (w.heap.size + 1))) (hm : w'.ownsMap Tryz.prog 176 (plainElem Tryz.prog 3) (w.heap.size + 1) n' D') : CoreR w D' n' rs ls w' := by
 obtain ⟨h1, h2, h3, h4, h5, h6⟩ := h
 have hl := h1.lt
 have l3 := (Array.getElem?_eq_some_iff.1 h3).1
 have l4 := (Array.getElem?_eq_some_iff.1 h4).1
 refine ⟨hm, ?_, ?_, ?_, ⟨fun j hj => (h5.1 j hj).kept hg (.inr ?_), h5.2⟩, h6.grown hg h6.size (fun j hj => by cases hj; omega)⟩
 ·rw [hg.block _ (by omega) (by simp)]; exact h2
 ·unfold ArrAt; rw [hg.block _ l3 (by intro e; injection e with e; omega)]; exact h3
 ·unfold ArrAt; rw [hg.block _ l4 (by intro e; injection e with e; omega)]; exact h4
 ·intro e
  have := (h5.1 j hj).lt _ e
  omega
theorem CoreR.lists (h : CoreR w D n rs ls wr) (he : ∀ j, j < 8 → ls' j = ls j) : CoreR w D n rs ls' wr := by
 obtain ⟨h1, h2, h3, h4, h5, h6⟩ := h
 exact ⟨h1, h2, h3, h4, ⟨fun j hj => by rw [he j hj]; exact h5.1 j hj, h5.2⟩, h6⟩
theorem CoreR.more (h : CoreR w D n rs ls wr) (hn : n ≤ n') : CoreR w D n' rs ls wr := ⟨h.1.mono hn, h.2⟩
end
def upd {α : Type} (f : Nat → α) (i : Nat) (v : α) (j : Nat) : α := if j = i then v else f j
theorem Own8.append {w w1 : World} {base : Nat} {rs : Nat → Value} {ls : Nat → List (Int × Int)} (h : Own8 w base rs ls) {i : Nat} (hi : i < 8) {v' : Value} {x : Int × Int} (hg : w.grownBy w1 (rs i).ownBlock)
  (hown : w1.ownsRow base 178 2 v' ((ls i).length + 1) (((ls i) ++ [x]).map spc).flatten) (hat : v'.ownBlock = (rs i).ownBlock ∨ v'.ownBlock = some w.heap.size) : Own8 w1 base (upd rs i v') (upd ls i (ls i ++ [x])) := by
 refine ⟨fun j hj => ?_, fun a b ha hb hab g hga hgb => ?_⟩
 ·unfold upd
  by_cases e : j = i
  ·subst e
   simpa using hown
  ·simp only [e, if_false]
   refine (h.1 j hj).kept hg ?_
   cases hb : (rs j).ownBlock with
   | none => exact .inl rfl
   | some g => exact .inr (fun e2 => h.2 j i hj hi e g hb e2.symm)
 ·unfold upd at hga hgb
  by_cases e1 : a = i
  ·subst e1
   have e2 : b ≠ a := Ne.symm hab
   simp only [if_true, e2, if_false] at hga hgb
   have hlt := ((h.1 b hb).lt g hgb).2
   rcases hat with hat | hat
   ·rw [hat] at hga
    exact h.2 a b ha hb hab g hga hgb
   ·rw [hat] at hga
    injection hga with hga
    omega
  ·by_cases e2 : b = i
   ·subst e2
    simp only [e1, if_true, if_false] at hga hgb
    have hlt := ((h.1 a ha).lt g hga).2
    rcases hat with hat | hat
    ·rw [hat] at hgb
     exact h.2 a b ha hb hab g hga hgb
    ·rw [hat] at hgb
     injection hgb with hgb
     omega
   ·simp only [e1, e2, if_false] at hga hgb
    exact h.2 a b ha hb hab g hga hgb
theorem Own8.set {w : World} {base : Nat} {rs : Nat → Value} {ls : Nat → List (Int × Int)} (h : Own8 w base rs ls) {A j : Nat} (hA : A < base) (u : Value) : Own8 (w.setCell ⟨A, j, none⟩ u) base rs ls :=
 ⟨fun i hi => own_only (h.1 i hi) (Only.set1 w A j u) (fun g hg e => by have := ((h.1 i hi).lt g hg).1; omega), h.2⟩
theorem ArrAt.set {w : World} {A : Nat} {f : Nat → Value} (h : ArrAt w A f) {j : Nat} (hj : j < 4) (u : Value) : ArrAt (w.setCell ⟨A, j, none⟩ u) A (upd f j u) := by
 have h1 := heap_setCell_same w A j _ _ u h
 unfold ArrAt
 have : j = 0 ∨ j = 1 ∨ j = 2 ∨ j = 3 := by omega
 rcases this with rfl | rfl | rfl | rfl <;> simpa [upd] using h1
theorem ArrAt.other {w w' : World} {A : Nat} {f g : Nat → Value} (h : ArrAt w A f) (hb : w'.heap[A]? = w.heap[A]?) (he : ∀ j, j < 4 → g j = f j) : ArrAt w' A g := by
 unfold ArrAt at *
 rw [hb, h, he 0 (by omega), he 1 (by omega), he 2 (by omega), he 3 (by omega)]
theorem CoreR.append {w wr w1 : World} {D : DataW Unit} {n : Nat} {rs : Nat → Value} {ls : Nat → List (Int × Int)} (h : CoreR w D n rs ls wr) {i : Nat} (hi : i < 8) {v' : Value} {x : Int × Int} (hg : wr.grownBy w1 (rs i).ownBlock)
  (hown : w1.ownsRow (w.heap.size + 1 + 1 + 1 + 1) 178 2 v' ((ls i).length + 1) (((ls i) ++ [x]).map spc).flatten) (hat : v'.ownBlock = (rs i).ownBlock ∨ v'.ownBlock = some wr.heap.size)
  {A j : Nat} (hA : (i < 4 ∧ A = w.heap.size + 1 + 1 ∧ j = i) ∨ (4 ≤ i ∧ A = w.heap.size + 1 + 1 + 1 ∧ i = 4 + j)) :
  CoreR w D n (upd rs i v') (upd ls i (ls i ++ [x])) (w1.setCell ⟨A, j, none⟩ v') := by
 obtain ⟨h1, h2, h3, h4, h5, h6⟩ := h
 have hl := h1.lt
 have l3 := (Array.getElem?_eq_some_iff.1 h3).1
 have l4 := (Array.getElem?_eq_some_iff.1 h4).1
 have hno : ∀ b, b < w.heap.size + 1 + 1 + 1 + 1 → some b ≠ (rs i).ownBlock := fun b hb e => by have := ((h5.1 i hi).lt b e.symm).1; omega
 have hAb : A < w.heap.size + 1 + 1 + 1 + 1 ∧ w.heap.size + 1 < A := by omega
 have set_o : ∀ b, b ≠ A → (w1.setCell ⟨A, j, none⟩ v').heap[b]? = w1.heap[b]? := fun b hb => Below.heap_setCell _ _ _ _ hb
 have o8 := (h5.append hi hg hown hat).set (A := A) (j := j) hAb.1 v'
 refine ⟨(h1.kept hg (hno _ (by omega))).setCell (by simp; omega) _, ?_, ?_, ?_, o8, ?_⟩
 ·rw [set_o _ (by omega), hg.block _ (by omega) (hno _ (by omega))]; exact h2
 ·rcases hA with ⟨e1, rfl, rfl⟩ | ⟨e1, rfl, rfl⟩
  ·have h3' : ArrAt w1 (w.heap.size + 1 + 1) rs := h3.other (hg.block _ l3 (hno _ (by omega))) (fun _ _ => rfl)
   exact h3'.set e1 v'
  ·refine h3.other ?_ (fun a ha => ?_)
   ·rw [set_o _ (by omega), hg.block _ l3 (hno _ (by omega))]
   ·unfold upd; rw [if_neg (by omega)]
 ·rcases hA with ⟨e1, rfl, rfl⟩ | ⟨e1, rfl, rfl⟩
  ·refine h4.other ?_ (fun a ha => ?_)
   ·rw [set_o _ (by omega), hg.block _ l4 (hno _ (by omega))]
   ·unfold upd; rw [if_neg (by omega)]
  ·have h4' : ArrAt w1 (w.heap.size + 1 + 1 + 1) (fun j => rs (4 + j)) := h4.other (hg.block _ l4 (hno _ (by omega))) (fun _ _ => rfl)
   have := h4'.set (j := j) (by omega) v'
   refine this.other rfl (fun a ha => ?_)
   unfold upd
   by_cases e : a = j
   ·subst e; simp
   ·rw [if_neg (by omega), if_neg e]
 ·exact (h6.grown hg h6.size (fun b hb => by have := ((h5.1 i hi).lt b hb).1; omega)).setCell (by simp; omega) _
theorem RowsMap.put {D : DataW Unit} {f g : List UInt8 → Int} {k : List UInt8} {v : Int} (h : RowsMap D f) (hm : IsMap D) (hv : v ≠ 0) (hs : g k = v) (ho : ∀ k', k' ≠ k → g k' = f k') : RowsMap (D.put (rowKey k) (.lit (.int .i64 v))) g := by
 intro k'
 by_cases e : k' = k
 ·subst e
  have hk : WideAt.IsKeyLit (rowKey k') := by unfold rowKey; exact trivial
  rw [atKey_put_same hm hk, has_put_same hm hk, hs]
  simp [hv]
 ·have hne : rowKey k' ≠ rowKey k := fun h => e (rowKey_inj h)
  rw [atKey_put_other hne, has_put_other hne, ho k' e]
  exact h k'
theorem RowsMap.same {D : DataW Unit} {f g : List UInt8 → Int} (h : RowsMap D f) (e : ∀ k, g k = f k) : RowsMap D g := fun k => by rw [e k]; exact h k
def errOf (l : List Cl) : Int := match l.find? (fun c => chk c != 0) with | some c => chk c | none => 0
def IsForm (l out : List Cl) : Prop := NormC out ∧ ∀ t, lev out t = lev l t
def ZeroF (n : Int) : Ending := .returned (.tuple #[.agg #[.slice none 0 0], .int .i64 n])
def NewP (l : List Cl) (w : World) (e : Ending) (w' : World) : Prop :=
 Below w.heap.size w w' ∧ ((errOf l ≠ 0 ∧ e = ZeroF (errOf l)) ∨ (errOf l = 0 ∧ ∃ out, IsForm l out ∧ ((64 < out.length ∧ e = ZeroF 23) ∨
  (out.length ≤ 64 ∧ ∃ A c, e = .returned (.tuple #[.agg #[.slice A out.length c], .int .i64 0]) ∧ w'.ownsRow w.heap.size 48 5 (.slice A out.length c) out.length (out.map Cl.cells).flatten))))
theorem arr_cells {w : World} {A : Nat} {f : Nat → Value} (h : ArrAt w A f) : ∀ j, j < 4 → w.cell? ⟨A, j, none⟩ = some (f j) ∧ w.frozen? ⟨A, j, none⟩ = false := by
 intro j hj
 have : j = 0 ∨ j = 1 ∨ j = 2 ∨ j = 3 := by omega
 rcases this with rfl | rfl | rfl | rfl <;> simp [World.cell?, World.frozen?, (show w.heap[A]? = some (.cells #[f 0, f 1, f 2, f 3] 173 (0, 0)) from h)]
theorem blk_cells5 {w : World} {b : Nat} {v0 v1 v2 v3 v4 : Value} {t : TypeId} (h : w.heap[b]? = some (.cells #[v0, v1, v2, v3, v4] t (0, 0))) :
  w.cell? ⟨b, 0, none⟩ = some v0 ∧ w.cell? ⟨b, 1, none⟩ = some v1 ∧ w.cell? ⟨b, 2, none⟩ = some v2 ∧ w.cell? ⟨b, 3, none⟩ = some v3 ∧ w.cell? ⟨b, 4, none⟩ = some v4 := by
 simp [World.cell?, h]
theorem find_first {α : Type} {p : α → Bool} : ∀ {l : List α} {k : Nat} {x : α}, (∀ c ∈ l.take k, p c = false) → l[k]? = some x → p x = true → l.find? p = some x
 | [], _, _, _, h, _ => by simp at h
 | y :: l, 0, x, _, h, hp => by simp at h; subst h; simp [hp]
 | y :: l, k + 1, x, ha, h, hp => by
  have hy := ha y (by simp)
  rw [List.find?_cons, hy]
  exact find_first (k := k) (fun c hc => ha c (by rw [List.take_succ_cons]; exact List.mem_cons_of_mem _ hc)) (by simpa using h) hp
theorem errOf_at {l : List Cl} {k : Nat} {x : Cl} (ha : ∀ c ∈ l.take k, Ok c) (hx : l[k]? = some x) (he : chk x ≠ 0) : errOf l = chk x := by
 unfold errOf
 rw [find_first (k := k) (x := x) (fun c hc => by have : chk c = 0 := ha c hc; simp [this]) hx (by simpa using he)]
theorem errOf_ok {l : List Cl} (ha : ∀ c ∈ l, Ok c) : errOf l = 0 := by
 unfold errOf
 rw [List.find?_eq_none.2 (fun c hc => by have : chk c = 0 := ha c hc; simp [this])]
theorem ok_snoc {l : List Cl} {k : Nat} {x : Cl} (ha : ∀ c ∈ l.take k, Ok c) (hx : l[k]? = some x) (h : Ok x) : ∀ c ∈ l.take (k + 1), Ok c := by
 rw [take_snoc hx]
 intro c hc
 rcases List.mem_append.1 hc with hc | hc
 ·exact ha c hc
 ·simp at hc; subst hc; exact h
theorem spans_row {l : List Cl} {x : Cl} (hx : x.col = -1) : ∀ j, j < 8 → lists (l ++ [x]) j = lists l j := by
 intro j _
 unfold lists spansOf
 have h1 : ∀ m : Nat, ¬ x.col = (m : Int) := fun m => by omega
 split <;> simp [List.filter_append, h1]
theorem spans_val {l : List Cl} {x : Cl} {j : Nat} (hx : x.col = (j : Int)) (hj : j < 4) : ∀ i, i < 8 → lists (l ++ [x]) i = upd (lists l) (if x.wr then 4 + j else j) (lists l (if x.wr then 4 + j else j) ++ [(x.lo, x.hi)]) i := by
 intro i hi
 unfold lists spansOf upd
 cases hw : x.wr with
 | true =>
  by_cases h4 : i < 4
  ·have hne : i ≠ 4 + j := by omega
   simp [List.filter_append, hw, h4, hne]
  ·by_cases e : i = 4 + j
   ·subst e
    have e2 : 4 + j - 4 = j := by omega
    simp only [h4, if_false, if_true, e2]
    simp [List.filter_append, hw, hx]
   ·have : ((j : Int) == ((i - 4 : Nat) : Int)) = false := by simp; omega
    simp [List.filter_append, hw, h4, e, hx, this]
 | false =>
  by_cases h4 : i < 4
  ·by_cases e : i = j
   ·subst e; simp [List.filter_append, hw, hx, hj]
   ·have : ((j : Int) == (i : Int)) = false := by simp; omega
    simp [List.filter_append, hw, h4, e, hx, this]
  ·have hne : i ≠ j := by omega
   simp [List.filter_append, hw, h4, hne]
theorem lists_len (l : List Cl) (j : Nat) : (lists l j).length ≤ l.length := by
 unfold lists spansOf
 split <;> simp [List.length_filter_le]
theorem take_lit {P : Program} {md : Region.Mode} {l : List Oper} {Q : Exit → Act → World → Prop} {S : World → Prop} {i : Nat} {oi : Oper} {v : Value} {fuel : Nat} {listed : Array Bool} {a : Act} {w : World} (hi : l[i]? = some oi)
  (hs : Region.noSelect l.toArray = true) (hf : Region.free md l.toArray listed i = true) (hr : (Region.ready md l.toArray listed).contains i = true)
  (hQ : ∀ c a w, Q (.panic c) (a.put oi.dst v) w → Q (.panic c) a w) (hw : Region.wanted oi (yielded l.toArray a.tmps) = true) (hy : ∀ w, S w → (execOp a.eval oi).run P w = .ok (.value v) w) (hS : S w)
  (h : wpAnyH P md l.toArray Q S fuel (listed.setIfInBounds i true) (a.put oi.dst v) w) : wpAnyH P md l.toArray Q S (fuel + 1) listed a w :=
 wpAnyH_take (by simpa using hi) hs hf hr hQ (.inl ⟨hw, hy⟩) hS h
theorem cons_lit {P : Program} {md : Region.Mode} {l : List Oper} {Q : Exit → Act → World → Prop} {S : World → Prop} {fuel : Nat} {listed : Array Bool} {a : Act} {w : World} {i : Nat} {o : Oper} {rs : List Nat} (ho : l[i]? = some o)
  (h : ∀ K' : Act → World → Prop, Shut (∀ a w, S w → (S w → wpAnyH P md l.toArray Q S fuel (listed.setIfInBounds i true) a w) → K' a w) → if Region.wanted o (yielded l.toArray a.tmps) = true then Oper.wp P o a w K' Q else K' (a.put o.dst undef) w)
  (hs : AllReadyH P md l.toArray Q S fuel listed a w rs) : AllReadyH P md l.toArray Q S fuel listed a w (i :: rs) := AllReadyH.cons (by simpa using ho) h hs
theorem after_append {w2 X w3 : World} {o : Obj} {row : Option Nat} (hg : X.grownBy w3 row) (hX : X.heap = (w2.alloc o).heap) {A j : Nat} {v : Value} (hc : w2.cell? ⟨A, j, none⟩ = some v) (hf : w2.frozen? ⟨A, j, none⟩ = false) (hne : some A ≠ row) :
  w3.cell? ⟨A, j, none⟩ = some v ∧ w3.frozen? ⟨A, j, none⟩ = false := by
 have hlt := World.block_lt_of_cell? w2 _ hc
 have hX2 : w3.heap[A]? = w2.heap[A]? := by
  rw [hg.block A (by rw [hX]; simp; exact Nat.lt_succ_of_lt hlt) hne, hX]
  exact Below.heap_alloc _ _ _ hlt
 exact ⟨(World.cell?_of_block hX2).trans hc, (World.frozen?_of_block hX2).trans hf⟩
theorem lev_row {l : List Cl} {x : Cl} (h : x.col = -1) (h0 : x.lo = 0) (h1 : x.hi = 0) (k : List UInt8) : lev (l ++ [x]) (-1, k, 0) = if k = x.key then (if x.wr = true then 2 else max (lev l (-1, k, 0)) 1) else lev l (-1, k, 0) := by
 rw [lev_snoc]
 by_cases e : k = x.key
 ·have : x.has (-1, k, 0) := ⟨h, e.symm, by simp only; omega, by simp only; omega⟩
  rw [if_pos this, if_pos e]
 ·have : ¬ x.has (-1, k, 0) := fun hh => e hh.2.1.symm
  rw [if_neg this, if_neg e]
theorem lev_notrow {l : List Cl} {x : Cl} (h : 0 ≤ x.col) (k : List UInt8) : lev (l ++ [x]) (-1, k, 0) = lev l (-1, k, 0) := by
 rw [lev_snoc, if_neg (fun hh => by have := hh.1; simp only at this; omega)]
theorem own_kept_ne {w w' : World} {base base' : Nat} {e e' : TypeId} {size size' n n' : Nat} {v v' : Value} {xs xs' : List Value} (h : w.ownsRow base e size v n xs) (h' : w.ownsRow base' e' size' v' n' xs') (hne : e ≠ e') (hg : w.grownBy w' v'.ownBlock) : w'.ownsRow base e size v n xs := by
 refine h.kept hg ?_
 cases hb : v.ownBlock with
 | none => exact .inl rfl
 | some g => exact .inr (fun e2 => own_own_ne h h' hne hb e2.symm)
def cols (W R : Int → List (Int × Int)) : Nat → List Cl
 | 0 => []
 | n + 1 => cols W R n ++ colC W R (n : Int)
theorem cols_congr {W R W' R' : Int → List (Int × Int)} : ∀ {k : Nat}, (∀ i : Nat, i < k → W i = W' i ∧ R i = R' i) → cols W R k = cols W' R' k
 | 0, _ => rfl
 | k + 1, h => by
  unfold cols colC
  rw [cols_congr (fun i hi => h i (by omega)), (h k (by omega)).1, (h k (by omega)).2]
def updI (W : Int → List (Int × Int)) (k : Nat) (x : List (Int × Int)) (i : Int) : List (Int × Int) := if i = (k : Int) then x else W i
theorem updI_same {W : Int → List (Int × Int)} {k : Nat} {x : List (Int × Int)} : updI W k x (k : Int) = x := by simp [updI]
theorem updI_other {W : Int → List (Int × Int)} {k i : Nat} {x : List (Int × Int)} (h : i ≠ k) : updI W k x (i : Int) = W i := by unfold updI; rw [if_neg (by omega)]
theorem cols_step (W R : Int → List (Int × Int)) (k : Nat) (x y : List (Int × Int)) : cols (updI W k x) (updI R k y) (k + 1) = cols W R k ++ (x.map (spCl (k : Int) true) ++ y.map (spCl (k : Int) false)) := by
 have h : cols (updI W k x) (updI R k y) k = cols W R k := cols_congr (fun i hi => ⟨updI_other (by omega), updI_other (by omega)⟩)
 show cols (updI W k x) (updI R k y) k ++ colC _ _ _ = _
 rw [h]
 unfold colC
 rw [updI_same, updI_same]
theorem formOf_cols (ks : List (Bool × List UInt8)) (W R : Int → List (Int × Int)) : formOf ks W R = ks.map rowC ++ cols W R 4 := by
 unfold formOf cols cols cols cols cols
 simp [List.append_assoc]
def ColOk (l : List Cl) (i : Int) (W R : List (Int × Int)) : Prop := (NormS W ∧ ∀ n, inS W n ↔ inS (spansOf l i true) n) ∧ NormS R ∧ ∀ n, inS R n ↔ inS (spansOf l i false) n ∧ ¬ inS W n
def Inv (w : World) (rs : Nat → Value) (ls : Nat → List (Int × Int)) (out : List Cl) (v10 : Value) (P : Nat → Prop) (wr : World) : Prop :=
 wr.heap[w.heap.size]? = some (.cells #[.slice none 0 0] 87 (0, 0)) ∧ ArrAt wr (w.heap.size + 1 + 1) rs ∧ ArrAt wr (w.heap.size + 1 + 1 + 1) (fun j => rs (4 + j)) ∧
  (∀ j, j < 8 → P j → wr.ownsRow (w.heap.size + 1 + 1 + 1 + 1) 178 2 (rs j) (ls j).length ((ls j).map spc).flatten) ∧ wr.ownsRow w.heap.size 48 5 v10 out.length (out.map Cl.cells).flatten ∧ Below w.heap.size w wr
def Dist (rs : Nat → Value) : Prop := ∀ i j, i < 8 → j < 8 → i ≠ j → ∀ g, (rs i).ownBlock = some g → (rs j).ownBlock ≠ some g
section
variable {w wr w' : World} {rs : Nat → Value} {ls : Nat → List (Int × Int)} {out out' : List Cl} {v10 v' : Value} {P P' : Nat → Prop}
theorem Inv.below (h : Inv w rs ls out v10 P wr) (hb : Below wr.heap.size wr w') : Inv w rs ls out v10 P w' := by
 obtain ⟨h1, h2, h3, h4, h5, h6⟩ := h
 refine ⟨?_, ?_, ?_, fun j hj hp => own_below (h4 j hj hp) hb, own_below h5 hb, h6.trans (hb.mono h6.size)⟩
 ·rw [hb.block _ (Array.getElem?_eq_some_iff.1 h1).1]; exact h1
 ·unfold ArrAt; rw [hb.block _ (Array.getElem?_eq_some_iff.1 h2).1]; exact h2
 ·unfold ArrAt; rw [hb.block _ (Array.getElem?_eq_some_iff.1 h3).1]; exact h3
theorem Inv.mono (h : Inv w rs ls out v10 P wr) (hp : ∀ j, P' j → P j) : Inv w rs ls out v10 P' wr := ⟨h.1, h.2.1, h.2.2.1, fun j hj h' => h.2.2.2.1 j hj (hp j h'), h.2.2.2.2⟩
theorem Inv.united (h : Inv w rs ls out v10 P wr) (hd : Dist rs) {i : Nat} (hi : i < 8) (hp : P i) (ho : Only (fun b => (rs i).ownBlock = some b) wr w') : Inv w rs ls out v10 (fun j => P j ∧ j ≠ i) w' := by
 obtain ⟨h1, h2, h3, h4, h5, h6⟩ := h
 have hri := h4 i hi hp
 have hlo : ∀ b, b < w.heap.size + 1 + 1 + 1 + 1 → ¬ (rs i).ownBlock = some b := fun b hb e => by have := (hri.lt b e).1; omega
 refine ⟨ho.heap h1 (hlo _ (by omega)), ho.heap h2 (hlo _ (by omega)), ho.heap h3 (hlo _ (by omega)), fun j hj hpj => own_only (h4 j hj hpj.1) ho (fun g hg e => hd j i hj hi hpj.2 g hg e), own_only h5 ho (fun g hg e => own_own_ne hri h5 (by decide) e hg), ?_⟩
 exact h6.trans (ho.belowN h6.size (fun k hk => hlo k (by omega)))
theorem Inv.append (h : Inv w rs ls out v10 P wr) (hg : wr.grownBy w' v10.ownBlock) (ho : w'.ownsRow w.heap.size 48 5 v' out'.length (out'.map Cl.cells).flatten) : Inv w rs ls out' v' P w' := by
 obtain ⟨h1, h2, h3, h4, h5, h6⟩ := h
 have hne : ∀ {b : Nat} {cs : Array Value} {t : TypeId} {fr : Nat × Nat}, wr.heap[b]? = some (.cells cs t fr) → (48 : TypeId) ≠ t → w'.heap[b]? = wr.heap[b]? := fun {b cs t fr} hb ht => hg.block _ (Array.getElem?_eq_some_iff.1 hb).1 (fun e => own_blk_ne h5 hb ht e.symm)
 refine ⟨(hne h1 (by decide)).trans h1, (hne h2 (by decide)).trans h2, (hne h3 (by decide)).trans h3, fun j hj hp => ?_, ho, h6.grown hg h6.size (fun j hj => (h5.lt j hj).1)⟩
 refine (h4 j hj hp).kept hg ?_
 cases hb : (rs j).ownBlock with
 | none => exact .inl rfl
 | some g => exact .inr (fun e => own_own_ne (h4 j hj hp) h5 (by decide) hb e.symm)
end
theorem joinS_fit {s : List (Int × Int)} (h : SpFit s) : SpFit (joinS s) := foldl_fit (fun _ h => by simp at h) h
theorem joinS_len (s : List (Int × Int)) : (joinS s).length ≤ s.length := by have := foldl_len (l := s) (out := []); simpa [joinS] using this
theorem cutGo_len : ∀ (os : List (Int × Int)) (s : Int × Int), (cutGo s os).length ≤ os.length + 1
 | [], s => by simp [cutGo]
 | o :: os, s => by
  unfold cutGo
  split
  ·simp
  ·have := cutGo_len os (o.2 + 1, s.2)
   split <;> split <;> simp <;> omega
theorem dropLow_len (lo : Int) (os : List (Int × Int)) : (dropLow lo os).length ≤ os.length := by
 unfold dropLow
 exact List.IsSuffix.length_le (List.dropWhile_suffix _)
theorem withoutS_len : ∀ (l os : List (Int × Int)), (withoutS l os).length ≤ l.length * (os.length + 1)
 | [], os => by simp [withoutS]
 | s :: l, os => by
  unfold withoutS
  have h1 := cutGo_len (dropLow s.1 os) s
  have h2 := dropLow_len s.1 os
  have h3 := withoutS_len l (dropLow s.1 os)
  have h4 : l.length * ((dropLow s.1 os).length + 1) ≤ l.length * (os.length + 1) := Nat.mul_le_mul_left _ (by omega)
  rw [List.length_append, List.length_cons, Nat.succ_mul]
  omega
theorem lists_fit {l : List Cl} (h : ∀ c ∈ l, c.fits) (j : Nat) : SpFit (lists l j) := by
 intro x hx
 have : ∃ i b, x ∈ spansOf l i b := by
  unfold lists at hx
  split at hx
  ·exact ⟨_, _, hx⟩
  ·exact ⟨_, _, hx⟩
 obtain ⟨i, b, hx⟩ := this
 obtain ⟨c, hc, _, _, rfl⟩ := mem_spansOf.1 hx
 exact ⟨(h c hc).2.1, (h c hc).2.2.1⟩
theorem colOk_of {l : List Cl} (hl : ∀ c ∈ l, Ok c) {i : Int} {s s' : List (Int × Int)} (hs : s.Perm (spansOf l i true)) (hs' : s'.Perm (spansOf l i false)) (h1 : LoSorted s) (h2 : LoSorted s') : ColOk l i (joinS s) (withoutS (joinS s') (joinS s)) := by
 have p1 : Proper s := fun x hx => proper_spansOf hl i true x (hs.mem_iff.1 hx)
 have p2 : Proper s' := fun x hx => proper_spansOf hl i false x (hs'.mem_iff.1 hx)
 obtain ⟨n1, m1⟩ := joinS_norm p1 h1
 obtain ⟨n2, m2⟩ := joinS_norm p2 h2
 obtain ⟨n3, m3, _⟩ := withoutS_norm n2 n1
 exact ⟨⟨n1, fun n => (m1 n).trans (inS_perm hs n)⟩, n3, fun n => by rw [m3 n, m2 n, inS_perm hs' n]⟩
theorem sorted_strict {ks : List (List UInt8)} (hn : ks.Nodup) : (ks.mergeSort fun x y => decide (x ≤ y)).Pairwise (· < ·) := by
 have h1 := List.pairwise_mergeSort (le := fun x y : List UInt8 => decide (x ≤ y)) (fun a b c h h' => by simp at *; exact List.le_trans h h') (fun a b => by simp; exact List.le_total a b) ks
 have h2 : (ks.mergeSort fun x y => decide (x ≤ y)).Nodup := (List.mergeSort_perm ks _).nodup_iff.2 hn
 refine (h1.and h2).imp ?_
 rintro a b ⟨h, hne⟩
 simp at h
 rcases Decidable.em (a < b) with h1 | h1
 ·exact h1
 ·exact absurd (List.le_antisymm h (List.not_lt.1 h1)) hne
theorem isForm_of {l : List Cl} (hl : ∀ c ∈ l, Ok c) {ks : List (List UInt8)} (hn : ks.Nodup) (hks : ∀ k, k ∈ ks ↔ lev l (-1, k, 0) ≠ 0) {rows : List Cl} (hr : (ks.mergeSort fun x y => decide (x ≤ y)).map (rowCl fun key => lev l (-1, key, 0)) = rows)
  {W R : Int → List (Int × Int)} (hco : ∀ i : Nat, i < 4 → ColOk l i (W i) (R i)) : IsForm l (rows ++ cols W R 4) := by
 have e : rows ++ cols W R 4 = formOf ((ks.mergeSort fun x y => decide (x ≤ y)).map fun k => (lev l (-1, k, 0) == 2, k)) W R := by
  rw [formOf_cols, ← hr, List.map_map]
  rfl
 rw [e]
 have hco' : ∀ i : Int, 0 ≤ i → i < 4 → ColOk l i (W i) (R i) := fun i h0 h4 => by
  obtain ⟨n, rfl⟩ : ∃ n : Nat, i = (n : Int) := ⟨i.toNat, by omega⟩
  exact hco n (by omega)
 refine form_is hl ?_ ?_ ?_ (fun i h0 h4 => (hco' i h0 h4).1) (fun i h0 h4 => (hco' i h0 h4).2)
 ·rw [List.pairwise_map]
  exact sorted_strict hn
 ·intro k
  have hb := lev_bd l (-1, k, 0)
  constructor
  ·rintro ⟨b, hb'⟩
   obtain ⟨k', hk', e⟩ := List.mem_map.1 hb'
   injection e with _ e
   subst e
   have := (hks _).1 (List.mem_mergeSort.1 hk')
   omega
  ·intro h
   exact ⟨_, List.mem_map.2 ⟨k, List.mem_mergeSort.2 ((hks k).2 (by omega)), rfl⟩⟩
 ·intro k
  constructor
  ·intro hb'
   obtain ⟨k', hk', e⟩ := List.mem_map.1 hb'
   injection e with e1 e
   subst e
   simpa using e1
  ·intro h
   refine List.mem_map.2 ⟨k, List.mem_mergeSort.2 ((hks k).2 (by omega)), ?_⟩
   rw [h]
   rfl
theorem start_loop (w : World) (l : List Cl) : LoopR w l 0 ((((w.alloc (.cells #[.slice none 0 0] 87)).alloc (.map #[] 0)).alloc (.cells #[.slice none 0 0, .slice none 0 0, .slice none 0 0, .slice none 0 0] 173)).alloc (.cells #[.slice none 0 0, .slice none 0 0, .slice none 0 0, .slice none 0 0] 173)) := by
 refine ⟨.map [], fun _ => .slice none 0 0, ?_, ?_, ?_, ?_, ?_, ⟨?_, ?_⟩, ?_⟩
 ·intro k
  simp [lev_nil, DataW.atKey, Maps.has]
 ·have h := World.ownsMap_made (H := Unit) (w.alloc (.cells #[.slice none 0 0] 87)) Tryz.prog 176 (plainElem Tryz.prog 3)
  have e : (w.alloc (.cells #[.slice none 0 0] 87)).heap.size = w.heap.size + 1 := by simp
  rw [e] at h
  exact (h.alloc _).alloc _
 ·rw [Below.heap_alloc _ _ _ (by simp; omega), Below.heap_alloc _ _ _ (by simp; omega), Below.heap_alloc _ _ _ (by simp)]
  exact heap_alloc_new _ _
 ·unfold ArrAt
  rw [Below.heap_alloc _ _ _ (by simp)]
  have e : w.heap.size + 1 + 1 = ((w.alloc (.cells #[.slice none 0 0] 87)).alloc (.map #[] 0)).heap.size := by simp
  rw [e]
  exact heap_alloc_new _ _
 ·unfold ArrAt
  have e : w.heap.size + 1 + 1 + 1 = (((w.alloc (.cells #[.slice none 0 0] 87)).alloc (.map #[] 0)).alloc (.cells #[.slice none 0 0, .slice none 0 0, .slice none 0 0, .slice none 0 0] 173)).heap.size := by simp
  rw [e]
  exact heap_alloc_new _ _
 ·intro j hj
  have : lists (l.take 0) j = [] := by simp [lists, spansOf]
  rw [this]
  exact World.ownsRow_nil _ _ _ _
 ·intro i j _ _ _ g hg
  simp [Value.ownBlock] at hg
 ·exact ((((Below.refl _ _).alloc (Nat.le_refl _) _).alloc (by simp) _).alloc (by simp; omega) _).alloc (by simp; omega) _
def ColsR (w : World) (l : List Cl) (rs : Nat → Value) (rows : List Cl) (k : Nat) (v10 : Value) (wr : World) : Prop :=
 ∃ W R : Int → List (Int × Int), (∀ i : Nat, i < k → ColOk l i (W i) (R i)) ∧ (rows ++ cols W R k).length ≤ 1000 + k * 1002000 ∧ Inv w rs (lists l) (rows ++ cols W R k) v10 (fun j => k ≤ j % 4) wr
theorem arm_close {w w2 w3 : World} {l : List Cl} {k : Nat} {x : Cl} {D : DataW Unit} {rs : Nat → Value} {i j A c' nl g3 cap3 : Nat} {A' : Option Addr} (hC : CoreR w D k rs (lists (l.take k)) w2) (hx : l[k]? = some x) (hD : RowsMap D (fun key => lev (l.take k) (-1, key, 0)))
  (hcol : x.col = (j : Int)) (hj4 : j < 4) (hi : i = if x.wr then 4 + j else j) (hv : rs i = .slice A' (lists (l.take k) i).length c') (hnl : (lists (l.take k) i).length = nl)
  (hown3 : w3.ownsRow (w.heap.size + 1 + 1 + 1 + 1) 178 2 (.slice (some ⟨g3, 0, none⟩) (nl + 1) cap3) (nl + 1) (((lists (l.take k) i).map spc).flatten ++ [.int .i64 x.lo, .int .i64 x.hi]))
  (hgrow3 : (w2.alloc (.cells #[.int .i64 x.lo, .int .i64 x.hi] 178)).drew.grownBy w3 (Value.slice A' nl c').ownBlock) (hat3 : (Value.slice A' nl c').ownBlock = some g3 ∨ g3 = w2.heap.size + 1)
  (hA : (i < 4 ∧ A = w.heap.size + 1 + 1 ∧ j = i) ∨ (4 ≤ i ∧ A = w.heap.size + 1 + 1 + 1 ∧ i = 4 + j)) : LoopR w l (k + 1) (w3.setCell ⟨A, j, none⟩ (.slice (some ⟨g3, 0, none⟩) (nl + 1) cap3)) := by
 have hi8 : i < 8 := by omega
 have hX : CoreR w D k rs (lists (l.take k)) (w2.alloc (.cells #[.int .i64 x.lo, .int .i64 x.hi] 178)).drew := hC.below (((Below.refl _ _).alloc (Nat.le_refl _) _).drew)
 have hb : (rs i).ownBlock = (Value.slice A' nl c').ownBlock := by rw [hv, hnl]
 have h := hX.append hi8 (v' := .slice (some ⟨g3, 0, none⟩) (nl + 1) cap3) (x := (x.lo, x.hi)) (by rw [hb]; exact hgrow3) (by rw [hnl]; simpa [spc] using hown3) (by
  rw [hb]
  rcases hat3 with h | h
  ·exact .inl h.symm
  ·refine .inr ?_
   subst h
   simp [Value.ownBlock]) hA
 refine ⟨D, _, ?_, (h.more (Nat.le_succ k)).lists (fun a ha => ?_)⟩
 ·rw [take_snoc hx]
  exact hD.same (fun key => lev_notrow (by omega) key)
 ·rw [take_snoc hx, spans_val hcol hj4 a ha, ← hi]
end
section
open Go.RowKit Go.Maps Go.WideShapes
set_option maxHeartbeats 1000000 in
theorem new_ok (w : World) (F : Nat → Prop) (v : Value) (l : List Cl) (h : ClRd w F v l) (hl : l.length ≤ 1000) (hfit : ∀ c ∈ l, c.fits) :
  Calls Tryz.prog 37 #[v] w (NewP l w) := by
 obtain ⟨i0, hi, hz0, hz1, hz2⟩ := info_parts Tryz.info81
 obtain ⟨i2, hi2, hy0, hy1, hy2⟩ := info_parts Tryz.info28
 obtain ⟨A, c, rfl, hnc, hcm⟩ := h.slice
 have H := Lib.hid h
 have HHI := Lib.hid hi
 clear h hi
 have hmm := @run_makeMap Tryz.prog
 go_enter Tryz.func37, Tryz.ntmps37
 go_wp2_with fail
 go_step3
 go_wp2_with fail
 go_step3
 go_wp2_with fail
 go_loopw [7, 16] (fun e i wr => e = .int .i64 0 ∧ ∃ k, k ≤ l.length ∧ i = .int .i64 (k : Int) ∧ (∀ c ∈ l.take k, Ok c) ∧ LoopR w l k wr) (fun _ i _ => l.length - (intOf i).toNat)
 case atStart => exact ⟨rfl, 0, Nat.zero_le _, rfl, by simp, start_loop w l⟩
 case round =>
  obtain ⟨rfl, k, hk, rfl, hok, D, rs, hD, hC⟩ := hrel
  by_cases hlt : k < l.length
  ·obtain ⟨x, hx⟩ : ∃ x, l[k]? = some x := ⟨_, List.getElem?_eq_getElem hlt⟩
   obtain ⟨b, o, rfl, hFb, c0, c1, c2, c3, c4⟩ := H.out.at_ hx
   have hb : b < w.heap.size := World.block_lt_of_cell? w _ c0
   have hbl := hC.2.2.2.2.2
   have c0' := (hbl.cell (p := ⟨b, o + k * 5, none⟩) hb).trans c0
   have c1' := (hbl.cell (p := ⟨b, o + k * 5 + 1, none⟩) hb).trans c1
   have c2' := (hbl.cell (p := ⟨b, o + k * 5 + 2, none⟩) hb).trans c2
   have c3' := (hbl.cell (p := ⟨b, o + k * 5 + 3, none⟩) hb).trans c3
   have c4' := (hbl.cell (p := ⟨b, o + k * 5 + 4, none⟩) hb).trans c4
   have hcon := fun W => check_ok W x
   have hxf := hfit x (List.mem_of_getElem? hx)
   have hs := hbl.size
   have HL := Lib.hid (And.intro hok (And.intro hD (And.intro hC (And.intro hbl hx))))
   clear hok hD hC hbl hx c0 c1 c2 c3 c4
   unfold Cl.val at hcon
   by_cases he : chk x = 0
   ·have hokx : Ok x := he
    rw [he] at hcon
    clear he
    go_wp2_with fail
    refine (hcon _).mono ?_
    rintro e w2 ⟨rfl, hb2⟩
    have hbx : w2.heap[wr.heap.size]? = some (.cells #[.bool x.wr, .int .i64 x.col, .string ⟨x.key.toArray⟩, .int .i64 x.lo, .int .i64 x.hi] 48 (0, 0)) := by
     rw [hb2.block wr.heap.size (by simp)]; exact heap_alloc_new _ _
    have hbw : Below wr.heap.size wr w2 := ((Below.refl _ _).alloc (Nat.le_refl _) _).trans (hb2.mono (by simp))
    have hC2 := HL.out.2.2.1.below hbw
    obtain ⟨q0, q1, q2, q3, q4⟩ := blk_cells5 hbx
    have hml := hC2.1.lt
    have hs2 := hbw.size
    have hbz : wr.heap.size < w2.heap.size := (Array.getElem?_eq_some_iff.1 hbx).1
    have HC := Lib.hid hC2
    have HBX := Lib.hid hbx
    clear hb2 hcon hbw hC2 c0' c1' c2' c3' c4' hbx
    rcases hokx.parts with ⟨e1, e2, e3, e4, e5⟩ | ⟨e1, e2, e3, e4⟩
    ·have hkey := keyOf_row (k := x.key) (by unfold maxLen; omega)
     unfold rowV at hkey
     have HK := Lib.hid (And.intro hkey (And.intro e2 (And.intro e3 e1)))
     rw [e1] at q1
     clear hkey e1 e2 e3 q3 q4
     cases hw : x.wr with
     | true =>
      rw [hw] at q0
      have HW := Lib.hid hw
      clear hw
      go_wp2_with (at_mapUpdate; go_loud (refine wpList_mapUpdate_own _ rfl _ _ _ 171 rfl 176 3 lawK Tryz.underlying171 _ (w.heap.size + 1) k D rfl HC.out.1 (by unfold maxLen; omega) _ _ _ rfl rfl HK.out.1 _ [] (plainElem_int Tryz.underlying3 (by decide)) ?_); intro w3 hown3 hgrow3)
      go_roundw
      case rel =>
       refine ⟨rfl, k + 1, by omega, by go_num, ok_snoc HL.out.1 HL.out.2.2.2.2 hokx, _, rs, ?_, ((HC.out.map hgrow3 hown3).lists (fun j hj => ?_))⟩
       ·rw [take_snoc HL.out.2.2.2.2]
        refine HL.out.2.1.put HC.out.1.isMap (by decide) ?_ (fun k' hk' => ?_)
        ·rw [lev_row HK.out.2.2.2 HK.out.2.1 HK.out.2.2.1, if_pos rfl, if_pos HW.out]
        ·rw [lev_row HK.out.2.2.2 HK.out.2.1 HK.out.2.2.1, if_neg hk']
       ·rw [take_snoc HL.out.2.2.2.2]
        exact spans_row HK.out.2.2.2 j hj
      case measure => simp [intOf]; omega
     | false =>
      rw [hw] at q0
      have HW := Lib.hid hw
      clear hw
      obtain ⟨r, hlk, hat, hwr⟩ := HC.out.1.drew.lookup_int lawK Tryz.underlying171 Tryz.underlying3 (Tryz.zero3 _) HK.out.1
      have hrl : r = lev (l.take k) (-1, x.key, 0) := by
       have h := (HL.out.2.1 x.key).1
       rw [hat] at h
       simpa using h
      have hbd := lev_bd (l.take k) (-1, x.key, 0)
      rw [← hrl] at hbd
      have HR := Lib.hid hrl
      clear hat hrl hwr
      go_upto_region 13 with fail
      go_still_tail 10, (by kernel_rfl)
      change wpList _ _ _ _ _ w2.drew
      generalize hmx : (max r 1 : Int) = mx
      have hwf : (Lit.int .i64 mx).wf = true := by
       have : mx = 1 ∨ mx = 2 := by omega
       rcases this with rfl | rfl <;> decide
      have HM := Lib.hid hmx
      clear hmx hlk
      go_wp2_with (at_mapUpdate; go_loud (refine wpList_mapUpdate_own _ rfl _ _ _ 171 rfl 176 3 lawK Tryz.underlying171 _ (w.heap.size + 1) k D rfl HC.out.1.drew (by unfold maxLen; omega) _ _ _ rfl rfl HK.out.1 _ [] (plainElem_int Tryz.underlying3 hwf) ?_); intro w3 hown3 hgrow3)
      go_roundw
      case rel =>
       have hm1 : mx ≠ 0 := by have := HM.out; omega
       have hgrow : w2.grownBy w3 (some (w.heap.size + 1)) := ⟨hgrow3.os, hgrow3.tape, hgrow3.output, hgrow3.size, hgrow3.block⟩
       refine ⟨rfl, k + 1, by omega, by go_num, ok_snoc HL.out.1 HL.out.2.2.2.2 hokx, _, rs, ?_, ((HC.out.map hgrow hown3).lists (fun j hj => ?_))⟩
       ·rw [take_snoc HL.out.2.2.2.2]
        refine HL.out.2.1.put HC.out.1.isMap hm1 ?_ (fun k' hk' => ?_)
        ·rw [lev_row HK.out.2.2.2 HK.out.2.1 HK.out.2.2.1, if_pos rfl, if_neg (by rw [HW.out]; decide), ← HR.out]
         exact HM.out
        ·rw [lev_row HK.out.2.2.2 HK.out.2.1 HK.out.2.2.1, if_neg hk']
       ·rw [take_snoc HL.out.2.2.2.2]
        exact spans_row HK.out.2.2.2 j hj
      case measure => simp [intOf]; omega
    ·obtain ⟨j, hj⟩ : ∃ j : Nat, x.col = (j : Int) := ⟨x.col.toNat, by omega⟩
     have hj4 : j < 4 := by omega
     have hj0 : (0 : Int) ≤ (j : Int) := by omega
     have hj5 : (j : Int) < 4 := by omega
     rw [hj] at q1
     have HJ := Lib.hid (And.intro hj (And.intro e1 e3))
     clear hj e1 e2 e3 q2
     cases hw : x.wr with
     | true =>
      rw [hw] at q0
      have hi8 : 4 + j < 8 := by omega
      obtain ⟨a0, a1⟩ := arr_cells HC.out.2.2.2.1 j hj4
      have hown := HC.out.2.2.2.2.1.1 (4 + j) hi8
      obtain ⟨A', c', hv⟩ := ownsRow_slice hown
      have hll : (lists (l.take k) (4 + j)).length ≤ 1000 := by
       have := lists_len (l.take k) (4 + j)
       simp at this
       omega
      simp only [hv] at a0
      obtain ⟨nl, hnl⟩ : ∃ nl, (lists (l.take k) (4 + j)).length = nl := ⟨_, rfl⟩
      rw [hnl] at a0 hll
      have hown2 := hown.alloc (.cells #[.int .i64 x.lo, .int .i64 x.hi] 178)
      rw [hv, hnl] at hown2
      have hnews := World.news_of_block (heap_alloc_new w2 (.cells #[.int .i64 x.lo, .int .i64 x.hi] 178))
      have hl3 := (Array.getElem?_eq_some_iff.1 HC.out.2.2.1).1
      have hl5 := (Array.getElem?_eq_some_iff.1 HL.out.2.2.1.2.2.2.1).1
      have hn1 : w.heap.size + 1 + 1 ≠ wr.heap.size := by omega
      have hn2 : w.heap.size + 1 + 1 + 1 ≠ wr.heap.size := by omega
      have hl4 := (Array.getElem?_eq_some_iff.1 HC.out.2.2.2.1).1
      have hgn : ∀ g, Value.ownBlock (.slice A' nl c') = some g → w.heap.size + 1 + 1 + 1 + 1 ≤ g ∧ g < w2.heap.size := fun g hg => by
       rw [← hnl, ← hv] at hg
       exact hown.lt g hg
      have hbn : ∀ g, Value.ownBlock (.slice A' nl c') = some g → g ≠ wr.heap.size := fun g hg e => by
       rw [← hnl, ← hv] at hg
       subst e
       exact own_blk_ne hown HBX.out (by decide) hg
      have HW := Lib.hid (And.intro hw (And.intro hv hnl))
      have HO := Lib.hid (And.intro hown2 (And.intro hnews (And.intro hgn hbn)))
      clear hw hv hnl hown hown2 hnews hgn hbn
      go_upto_region 15 with fail
      refine wp_region_held_drew (S := (fun w' => w'.cell? ⟨wr.heap.size, 1, none⟩ = some (.int .i64 (j : Int)) ∧ w'.cell? ⟨wr.heap.size, 3, none⟩ = some (.int .i64 x.lo) ∧ w'.cell? ⟨wr.heap.size, 4, none⟩ = some (.int .i64 x.hi))) (by kernel_rfl) ⟨q1, q3, q4⟩ (fun hHeld => ?_)
      refine take_lit (i := 0) (v := ?_) rfl (by kernel_rfl) (by kernel_rfl) (by kernel_rfl) (fun _ _ _ h => h) (by rfl) (fun w hSw => ?_) hHeld ?_
      rotate_left
      ·obtain ⟨s1, s3, s4⟩ := hSw; go_simp; try with_reducible rfl
      try simp only [pS1, pS2, pS3, pS4]
      refine take_lit (i := 1) (v := ?_) rfl (by kernel_rfl) (by kernel_rfl) (by kernel_rfl) (fun _ _ _ h => h) (by rfl) (fun w hSw => ?_) hHeld ?_
      rotate_left
      ·obtain ⟨s1, s3, s4⟩ := hSw; go_simp; try with_reducible rfl
      try simp only [pS1, pS2, pS3, pS4]
      refine take_lit (i := 2) (v := ?_) rfl (by kernel_rfl) (by kernel_rfl) (by kernel_rfl) (fun _ _ _ h => h) (by rfl) (fun w hSw => ?_) hHeld ?_
      rotate_left
      ·obtain ⟨s1, s3, s4⟩ := hSw; go_simp; try with_reducible rfl
      try simp only [pS1, pS2, pS3, pS4]
      refine take_lit (i := 3) (v := ?_) rfl (by kernel_rfl) (by kernel_rfl) (by kernel_rfl) (fun _ _ _ h => h) (by rfl) (fun w hSw => ?_) hHeld ?_
      rotate_left
      ·obtain ⟨s1, s3, s4⟩ := hSw; go_simp; try with_reducible rfl
      try simp only [pS1, pS2, pS3, pS4]
      refine take_lit (i := 4) (v := ?_) rfl (by kernel_rfl) (by kernel_rfl) (by kernel_rfl) (fun _ _ _ h => h) (by rfl) (fun w hSw => ?_) hHeld ?_
      rotate_left
      ·obtain ⟨s1, s3, s4⟩ := hSw; go_simp; try with_reducible rfl
      try simp only [pS1, pS2, pS3, pS4]
      refine take_lit (i := 6) (v := ?_) rfl (by kernel_rfl) (by kernel_rfl) (by kernel_rfl) (fun _ _ _ h => h) (by rfl) (fun w hSw => ?_) hHeld ?_
      rotate_left
      ·obtain ⟨s1, s3, s4⟩ := hSw; go_simp; try with_reducible rfl
      try simp only [pS1, pS2, pS3, pS4]
      refine take_lit (i := 7) (v := ?_) rfl (by kernel_rfl) (by kernel_rfl) (by kernel_rfl) (fun _ _ _ h => h) (by rfl) (fun w hSw => ?_) hHeld ?_
      rotate_left
      ·obtain ⟨s1, s3, s4⟩ := hSw; go_simp; try with_reducible rfl
      try simp only [pS1, pS2, pS3, pS4]
      refine take_lit (i := 8) (v := ?_) rfl (by kernel_rfl) (by kernel_rfl) (by kernel_rfl) (fun _ _ _ h => h) (by rfl) (fun w hSw => ?_) hHeld ?_
      rotate_left
      ·obtain ⟨s1, s3, s4⟩ := hSw; go_simp; try with_reducible rfl
      try simp only [pS1, pS2, pS3, pS4]
      refine take_lit (i := 9) (v := ?_) rfl (by kernel_rfl) (by kernel_rfl) (by kernel_rfl) (fun _ _ _ h => h) (by rfl) (fun w hSw => ?_) hHeld ?_
      rotate_left
      ·obtain ⟨s1, s3, s4⟩ := hSw; go_simp; try with_reducible rfl
      try simp only [pS1, pS2, pS3, pS4]
      refine take_lit (i := 10) (v := ?_) rfl (by kernel_rfl) (by kernel_rfl) (by kernel_rfl) (fun _ _ _ h => h) (by rfl) (fun w hSw => ?_) hHeld ?_
      rotate_left
      ·obtain ⟨s1, s3, s4⟩ := hSw; go_simp; try with_reducible rfl
      try simp only [pS1, pS2, pS3, pS4]
      refine wpAnyH_ready (rs := [5, 11]) (by kernel_rfl) (by simp) ?_
      refine cons_lit (i := 5) rfl (fun K hK => ?_) (cons_lit (i := 11) rfl (fun K hK => ?_) AllReadyH.nil)
      ·go_simp
       refine hK.out _ _ hHeld (fun hHeld => ?_)
       clear hK K
       try simp only [pS1, pS2, pS3, pS4]
       refine wpAnyH_ready (rs := [11]) (by kernel_rfl) (by simp) (cons_lit (i := 11) rfl (fun K hK => ?_) AllReadyH.nil)
       go_simp
       refine hK.out _ _ (by obtain ⟨s1, s3, s4⟩ := hHeld; refine ⟨?_, ?_, ?_⟩ <;> simp [*, World.cell?_alloc_some]) (fun hHeld => ?_)
       clear hK K
       try simp only [pS1, pS2, pS3, pS4]
       refine wpAnyH_ready (rs := [12]) (by kernel_rfl) (by simp) (cons_lit (i := 12) rfl (fun K hK => ?_) AllReadyH.nil)
       (refine step_append_lies _ (by rfl) _ _ 172 (by rfl) (w.heap.size + 1 + 1 + 1 + 1) 178 i0 _ 2 16 Tryz.underlying172 HHI.out hz0 hz1 hz2 (by rfl) (by decide) (.slice A' nl c') nl _ (by rfl) HO.out.1 ⟨w2.heap.size, 0, none⟩ 1 1 [.int .i64 x.lo, .int .i64 x.hi] (by rfl) (by rfl) HO.out.2.1 (by simp [Value.oneCell']) (by decide) (by unfold maxLen; omega) (by omega) (by simp; omega) (w2.heap.size + 1) (by simp) ?_)
       intro g3 cap3 w3 hown3 hgrow3 hat3 hlt3
       obtain ⟨b0, b1⟩ := after_append (o := .cells #[.int .i64 x.lo, .int .i64 x.hi] 178) (w2 := w2) hgrow3 rfl a0 a1 (fun e => by have := (HO.out.2.2.1 _ e.symm).1; omega)
       refine hK.out _ _ ⟨(hgrow3.cell_far _ (by simp; omega) (fun e => (HO.out.2.2.2 _ e.symm) rfl)).trans hHeld.1, (hgrow3.cell_far _ (by simp; omega) (fun e => (HO.out.2.2.2 _ e.symm) rfl)).trans hHeld.2.1, (hgrow3.cell_far _ (by simp; omega) (fun e => (HO.out.2.2.2 _ e.symm) rfl)).trans hHeld.2.2⟩ (fun hHeld => ?_)
       clear hK K
       try simp only [pS1, pS2, pS3, pS4]
       refine take_lit (i := 13) (v := ?_) rfl (by kernel_rfl) (by kernel_rfl) (by kernel_rfl) (fun _ _ _ h => h) (by rfl) (fun w hSw => ?_) hHeld ?_
       rotate_left
       ·obtain ⟨s1, s3, s4⟩ := hSw; go_simp; try with_reducible rfl
       try simp only [pS1, pS2, pS3, pS4]
       refine wpAnyH_ready (rs := [14]) (by kernel_rfl) (by simp) (cons_lit (i := 14) rfl (fun K hK => ?_) AllReadyH.nil)
       go_simp
       refine hK.out _ _ (by obtain ⟨s1, s3, s4⟩ := hHeld; refine ⟨?_, ?_, ?_⟩ <;> simp [*, World.cell?_setCell_far]) (fun hHeld => ?_)
       clear hK K
       try simp only [pS1, pS2, pS3, pS4]
       refine wpAnyH_done (by kernel_rfl) ?_ _
       have HG := Lib.hid (And.intro hown3 (And.intro hgrow3 hat3))
       clear hHeld hown3 hgrow3 hat3 b0 b1 a0 a1
       go_wp2_with fail
       go_roundw
       case rel => exact ⟨rfl, k + 1, by omega, by go_num, ok_snoc HL.out.1 HL.out.2.2.2.2 hokx, arm_close HC.out HL.out.2.2.2.2 HL.out.2.1 HJ.out.1 hj4 (by rw [HW.out.1]; rfl) HW.out.2.1 HW.out.2.2 HG.out.1 HG.out.2.1 HG.out.2.2 (.inr ⟨by omega, rfl, rfl⟩)⟩
       case measure => simp [intOf]; omega
      ·go_simp
       refine hK.out _ _ (by obtain ⟨s1, s3, s4⟩ := hHeld; refine ⟨?_, ?_, ?_⟩ <;> simp [*, World.cell?_alloc_some]) (fun hHeld => ?_)
       clear hK K
       try simp only [pS1, pS2, pS3, pS4]
       refine wpAnyH_ready (rs := [5]) (by kernel_rfl) (by simp) (cons_lit (i := 5) rfl (fun K hK => ?_) AllReadyH.nil)
       go_simp
       refine hK.out _ _ hHeld (fun hHeld => ?_)
       clear hK K
       try simp only [pS1, pS2, pS3, pS4]
       refine wpAnyH_ready (rs := [12]) (by kernel_rfl) (by simp) (cons_lit (i := 12) rfl (fun K hK => ?_) AllReadyH.nil)
       (refine step_append_lies _ (by rfl) _ _ 172 (by rfl) (w.heap.size + 1 + 1 + 1 + 1) 178 i0 _ 2 16 Tryz.underlying172 HHI.out hz0 hz1 hz2 (by rfl) (by decide) (.slice A' nl c') nl _ (by rfl) HO.out.1 ⟨w2.heap.size, 0, none⟩ 1 1 [.int .i64 x.lo, .int .i64 x.hi] (by rfl) (by rfl) HO.out.2.1 (by simp [Value.oneCell']) (by decide) (by unfold maxLen; omega) (by omega) (by simp; omega) (w2.heap.size + 1) (by simp) ?_)
       intro g3 cap3 w3 hown3 hgrow3 hat3 hlt3
       obtain ⟨b0, b1⟩ := after_append (o := .cells #[.int .i64 x.lo, .int .i64 x.hi] 178) (w2 := w2) hgrow3 rfl a0 a1 (fun e => by have := (HO.out.2.2.1 _ e.symm).1; omega)
       refine hK.out _ _ ⟨(hgrow3.cell_far _ (by simp; omega) (fun e => (HO.out.2.2.2 _ e.symm) rfl)).trans hHeld.1, (hgrow3.cell_far _ (by simp; omega) (fun e => (HO.out.2.2.2 _ e.symm) rfl)).trans hHeld.2.1, (hgrow3.cell_far _ (by simp; omega) (fun e => (HO.out.2.2.2 _ e.symm) rfl)).trans hHeld.2.2⟩ (fun hHeld => ?_)
       clear hK K
       try simp only [pS1, pS2, pS3, pS4]
       refine take_lit (i := 13) (v := ?_) rfl (by kernel_rfl) (by kernel_rfl) (by kernel_rfl) (fun _ _ _ h => h) (by rfl) (fun w hSw => ?_) hHeld ?_
       rotate_left
       ·obtain ⟨s1, s3, s4⟩ := hSw; go_simp; try with_reducible rfl
       try simp only [pS1, pS2, pS3, pS4]
       refine wpAnyH_ready (rs := [14]) (by kernel_rfl) (by simp) (cons_lit (i := 14) rfl (fun K hK => ?_) AllReadyH.nil)
       go_simp
       refine hK.out _ _ (by obtain ⟨s1, s3, s4⟩ := hHeld; refine ⟨?_, ?_, ?_⟩ <;> simp [*, World.cell?_setCell_far]) (fun hHeld => ?_)
       clear hK K
       try simp only [pS1, pS2, pS3, pS4]
       refine wpAnyH_done (by kernel_rfl) ?_ _
       have HG := Lib.hid (And.intro hown3 (And.intro hgrow3 hat3))
       clear hHeld hown3 hgrow3 hat3 b0 b1 a0 a1
       go_wp2_with fail
       go_roundw
       case rel => exact ⟨rfl, k + 1, by omega, by go_num, ok_snoc HL.out.1 HL.out.2.2.2.2 hokx, arm_close HC.out HL.out.2.2.2.2 HL.out.2.1 HJ.out.1 hj4 (by rw [HW.out.1]; rfl) HW.out.2.1 HW.out.2.2 HG.out.1 HG.out.2.1 HG.out.2.2 (.inr ⟨by omega, rfl, rfl⟩)⟩
       case measure => simp [intOf]; omega
     | false =>
      rw [hw] at q0
      have hi8 : j < 8 := by omega
      obtain ⟨a0, a1⟩ := arr_cells HC.out.2.2.1 j hj4
      have hown := HC.out.2.2.2.2.1.1 (j) hi8
      obtain ⟨A', c', hv⟩ := ownsRow_slice hown
      have hll : (lists (l.take k) (j)).length ≤ 1000 := by
       have := lists_len (l.take k) (j)
       simp at this
       omega
      simp only [hv] at a0
      obtain ⟨nl, hnl⟩ : ∃ nl, (lists (l.take k) (j)).length = nl := ⟨_, rfl⟩
      rw [hnl] at a0 hll
      have hown2 := hown.alloc (.cells #[.int .i64 x.lo, .int .i64 x.hi] 178)
      rw [hv, hnl] at hown2
      have hnews := World.news_of_block (heap_alloc_new w2 (.cells #[.int .i64 x.lo, .int .i64 x.hi] 178))
      have hl3 := (Array.getElem?_eq_some_iff.1 HC.out.2.2.1).1
      have hl5 := (Array.getElem?_eq_some_iff.1 HL.out.2.2.1.2.2.2.1).1
      have hn1 : w.heap.size + 1 + 1 ≠ wr.heap.size := by omega
      have hn2 : w.heap.size + 1 + 1 + 1 ≠ wr.heap.size := by omega
      have hl4 := (Array.getElem?_eq_some_iff.1 HC.out.2.2.2.1).1
      have hgn : ∀ g, Value.ownBlock (.slice A' nl c') = some g → w.heap.size + 1 + 1 + 1 + 1 ≤ g ∧ g < w2.heap.size := fun g hg => by
       rw [← hnl, ← hv] at hg
       exact hown.lt g hg
      have hbn : ∀ g, Value.ownBlock (.slice A' nl c') = some g → g ≠ wr.heap.size := fun g hg e => by
       rw [← hnl, ← hv] at hg
       subst e
       exact own_blk_ne hown HBX.out (by decide) hg
      have HW := Lib.hid (And.intro hw (And.intro hv hnl))
      have HO := Lib.hid (And.intro hown2 (And.intro hnews (And.intro hgn hbn)))
      clear hw hv hnl hown hown2 hnews hgn hbn
      go_upto_region 9 with fail
      refine wp_region_held_drew (S := (fun w' => w'.cell? ⟨wr.heap.size, 1, none⟩ = some (.int .i64 (j : Int)) ∧ w'.cell? ⟨wr.heap.size, 3, none⟩ = some (.int .i64 x.lo) ∧ w'.cell? ⟨wr.heap.size, 4, none⟩ = some (.int .i64 x.hi))) (by kernel_rfl) ⟨q1, q3, q4⟩ (fun hHeld => ?_)
      refine take_lit (i := 0) (v := ?_) rfl (by kernel_rfl) (by kernel_rfl) (by kernel_rfl) (fun _ _ _ h => h) (by rfl) (fun w hSw => ?_) hHeld ?_
      rotate_left
      ·obtain ⟨s1, s3, s4⟩ := hSw; go_simp; try with_reducible rfl
      try simp only [pS1, pS2, pS3, pS4]
      refine take_lit (i := 1) (v := ?_) rfl (by kernel_rfl) (by kernel_rfl) (by kernel_rfl) (fun _ _ _ h => h) (by rfl) (fun w hSw => ?_) hHeld ?_
      rotate_left
      ·obtain ⟨s1, s3, s4⟩ := hSw; go_simp; try with_reducible rfl
      try simp only [pS1, pS2, pS3, pS4]
      refine take_lit (i := 2) (v := ?_) rfl (by kernel_rfl) (by kernel_rfl) (by kernel_rfl) (fun _ _ _ h => h) (by rfl) (fun w hSw => ?_) hHeld ?_
      rotate_left
      ·obtain ⟨s1, s3, s4⟩ := hSw; go_simp; try with_reducible rfl
      try simp only [pS1, pS2, pS3, pS4]
      refine take_lit (i := 3) (v := ?_) rfl (by kernel_rfl) (by kernel_rfl) (by kernel_rfl) (fun _ _ _ h => h) (by rfl) (fun w hSw => ?_) hHeld ?_
      rotate_left
      ·obtain ⟨s1, s3, s4⟩ := hSw; go_simp; try with_reducible rfl
      try simp only [pS1, pS2, pS3, pS4]
      refine take_lit (i := 4) (v := ?_) rfl (by kernel_rfl) (by kernel_rfl) (by kernel_rfl) (fun _ _ _ h => h) (by rfl) (fun w hSw => ?_) hHeld ?_
      rotate_left
      ·obtain ⟨s1, s3, s4⟩ := hSw; go_simp; try with_reducible rfl
      try simp only [pS1, pS2, pS3, pS4]
      refine take_lit (i := 6) (v := ?_) rfl (by kernel_rfl) (by kernel_rfl) (by kernel_rfl) (fun _ _ _ h => h) (by rfl) (fun w hSw => ?_) hHeld ?_
      rotate_left
      ·obtain ⟨s1, s3, s4⟩ := hSw; go_simp; try with_reducible rfl
      try simp only [pS1, pS2, pS3, pS4]
      refine take_lit (i := 7) (v := ?_) rfl (by kernel_rfl) (by kernel_rfl) (by kernel_rfl) (fun _ _ _ h => h) (by rfl) (fun w hSw => ?_) hHeld ?_
      rotate_left
      ·obtain ⟨s1, s3, s4⟩ := hSw; go_simp; try with_reducible rfl
      try simp only [pS1, pS2, pS3, pS4]
      refine take_lit (i := 8) (v := ?_) rfl (by kernel_rfl) (by kernel_rfl) (by kernel_rfl) (fun _ _ _ h => h) (by rfl) (fun w hSw => ?_) hHeld ?_
      rotate_left
      ·obtain ⟨s1, s3, s4⟩ := hSw; go_simp; try with_reducible rfl
      try simp only [pS1, pS2, pS3, pS4]
      refine take_lit (i := 9) (v := ?_) rfl (by kernel_rfl) (by kernel_rfl) (by kernel_rfl) (fun _ _ _ h => h) (by rfl) (fun w hSw => ?_) hHeld ?_
      rotate_left
      ·obtain ⟨s1, s3, s4⟩ := hSw; go_simp; try with_reducible rfl
      try simp only [pS1, pS2, pS3, pS4]
      refine take_lit (i := 10) (v := ?_) rfl (by kernel_rfl) (by kernel_rfl) (by kernel_rfl) (fun _ _ _ h => h) (by rfl) (fun w hSw => ?_) hHeld ?_
      rotate_left
      ·obtain ⟨s1, s3, s4⟩ := hSw; go_simp; try with_reducible rfl
      try simp only [pS1, pS2, pS3, pS4]
      refine wpAnyH_ready (rs := [5, 11]) (by kernel_rfl) (by simp) ?_
      refine cons_lit (i := 5) rfl (fun K hK => ?_) (cons_lit (i := 11) rfl (fun K hK => ?_) AllReadyH.nil)
      ·go_simp
       refine hK.out _ _ hHeld (fun hHeld => ?_)
       clear hK K
       try simp only [pS1, pS2, pS3, pS4]
       refine wpAnyH_ready (rs := [11]) (by kernel_rfl) (by simp) (cons_lit (i := 11) rfl (fun K hK => ?_) AllReadyH.nil)
       go_simp
       refine hK.out _ _ (by obtain ⟨s1, s3, s4⟩ := hHeld; refine ⟨?_, ?_, ?_⟩ <;> simp [*, World.cell?_alloc_some]) (fun hHeld => ?_)
       clear hK K
       try simp only [pS1, pS2, pS3, pS4]
       refine wpAnyH_ready (rs := [12]) (by kernel_rfl) (by simp) (cons_lit (i := 12) rfl (fun K hK => ?_) AllReadyH.nil)
       (refine step_append_lies _ (by rfl) _ _ 172 (by rfl) (w.heap.size + 1 + 1 + 1 + 1) 178 i0 _ 2 16 Tryz.underlying172 HHI.out hz0 hz1 hz2 (by rfl) (by decide) (.slice A' nl c') nl _ (by rfl) HO.out.1 ⟨w2.heap.size, 0, none⟩ 1 1 [.int .i64 x.lo, .int .i64 x.hi] (by rfl) (by rfl) HO.out.2.1 (by simp [Value.oneCell']) (by decide) (by unfold maxLen; omega) (by omega) (by simp; omega) (w2.heap.size + 1) (by simp) ?_)
       intro g3 cap3 w3 hown3 hgrow3 hat3 hlt3
       obtain ⟨b0, b1⟩ := after_append (o := .cells #[.int .i64 x.lo, .int .i64 x.hi] 178) (w2 := w2) hgrow3 rfl a0 a1 (fun e => by have := (HO.out.2.2.1 _ e.symm).1; omega)
       refine hK.out _ _ ⟨(hgrow3.cell_far _ (by simp; omega) (fun e => (HO.out.2.2.2 _ e.symm) rfl)).trans hHeld.1, (hgrow3.cell_far _ (by simp; omega) (fun e => (HO.out.2.2.2 _ e.symm) rfl)).trans hHeld.2.1, (hgrow3.cell_far _ (by simp; omega) (fun e => (HO.out.2.2.2 _ e.symm) rfl)).trans hHeld.2.2⟩ (fun hHeld => ?_)
       clear hK K
       try simp only [pS1, pS2, pS3, pS4]
       refine take_lit (i := 13) (v := ?_) rfl (by kernel_rfl) (by kernel_rfl) (by kernel_rfl) (fun _ _ _ h => h) (by rfl) (fun w hSw => ?_) hHeld ?_
       rotate_left
       ·obtain ⟨s1, s3, s4⟩ := hSw; go_simp; try with_reducible rfl
       try simp only [pS1, pS2, pS3, pS4]
       refine wpAnyH_ready (rs := [14]) (by kernel_rfl) (by simp) (cons_lit (i := 14) rfl (fun K hK => ?_) AllReadyH.nil)
       go_simp
       refine hK.out _ _ (by obtain ⟨s1, s3, s4⟩ := hHeld; refine ⟨?_, ?_, ?_⟩ <;> simp [*, World.cell?_setCell_far]) (fun hHeld => ?_)
       clear hK K
       try simp only [pS1, pS2, pS3, pS4]
       refine wpAnyH_done (by kernel_rfl) ?_ _
       have HG := Lib.hid (And.intro hown3 (And.intro hgrow3 hat3))
       clear hHeld hown3 hgrow3 hat3 b0 b1 a0 a1
       go_wp2_with fail
       go_roundw
       case rel => exact ⟨rfl, k + 1, by omega, by go_num, ok_snoc HL.out.1 HL.out.2.2.2.2 hokx, arm_close HC.out HL.out.2.2.2.2 HL.out.2.1 HJ.out.1 hj4 (by rw [HW.out.1]; rfl) HW.out.2.1 HW.out.2.2 HG.out.1 HG.out.2.1 HG.out.2.2 (.inl ⟨hj4, rfl, rfl⟩)⟩
       case measure => simp [intOf]; omega
      ·go_simp
       refine hK.out _ _ (by obtain ⟨s1, s3, s4⟩ := hHeld; refine ⟨?_, ?_, ?_⟩ <;> simp [*, World.cell?_alloc_some]) (fun hHeld => ?_)
       clear hK K
       try simp only [pS1, pS2, pS3, pS4]
       refine wpAnyH_ready (rs := [5]) (by kernel_rfl) (by simp) (cons_lit (i := 5) rfl (fun K hK => ?_) AllReadyH.nil)
       go_simp
       refine hK.out _ _ hHeld (fun hHeld => ?_)
       clear hK K
       try simp only [pS1, pS2, pS3, pS4]
       refine wpAnyH_ready (rs := [12]) (by kernel_rfl) (by simp) (cons_lit (i := 12) rfl (fun K hK => ?_) AllReadyH.nil)
       (refine step_append_lies _ (by rfl) _ _ 172 (by rfl) (w.heap.size + 1 + 1 + 1 + 1) 178 i0 _ 2 16 Tryz.underlying172 HHI.out hz0 hz1 hz2 (by rfl) (by decide) (.slice A' nl c') nl _ (by rfl) HO.out.1 ⟨w2.heap.size, 0, none⟩ 1 1 [.int .i64 x.lo, .int .i64 x.hi] (by rfl) (by rfl) HO.out.2.1 (by simp [Value.oneCell']) (by decide) (by unfold maxLen; omega) (by omega) (by simp; omega) (w2.heap.size + 1) (by simp) ?_)
       intro g3 cap3 w3 hown3 hgrow3 hat3 hlt3
       obtain ⟨b0, b1⟩ := after_append (o := .cells #[.int .i64 x.lo, .int .i64 x.hi] 178) (w2 := w2) hgrow3 rfl a0 a1 (fun e => by have := (HO.out.2.2.1 _ e.symm).1; omega)
       refine hK.out _ _ ⟨(hgrow3.cell_far _ (by simp; omega) (fun e => (HO.out.2.2.2 _ e.symm) rfl)).trans hHeld.1, (hgrow3.cell_far _ (by simp; omega) (fun e => (HO.out.2.2.2 _ e.symm) rfl)).trans hHeld.2.1, (hgrow3.cell_far _ (by simp; omega) (fun e => (HO.out.2.2.2 _ e.symm) rfl)).trans hHeld.2.2⟩ (fun hHeld => ?_)
       clear hK K
       try simp only [pS1, pS2, pS3, pS4]
       refine take_lit (i := 13) (v := ?_) rfl (by kernel_rfl) (by kernel_rfl) (by kernel_rfl) (fun _ _ _ h => h) (by rfl) (fun w hSw => ?_) hHeld ?_
       rotate_left
       ·obtain ⟨s1, s3, s4⟩ := hSw; go_simp; try with_reducible rfl
       try simp only [pS1, pS2, pS3, pS4]
       refine wpAnyH_ready (rs := [14]) (by kernel_rfl) (by simp) (cons_lit (i := 14) rfl (fun K hK => ?_) AllReadyH.nil)
       go_simp
       refine hK.out _ _ (by obtain ⟨s1, s3, s4⟩ := hHeld; refine ⟨?_, ?_, ?_⟩ <;> simp [*, World.cell?_setCell_far]) (fun hHeld => ?_)
       clear hK K
       try simp only [pS1, pS2, pS3, pS4]
       refine wpAnyH_done (by kernel_rfl) ?_ _
       have HG := Lib.hid (And.intro hown3 (And.intro hgrow3 hat3))
       clear hHeld hown3 hgrow3 hat3 b0 b1 a0 a1
       go_wp2_with fail
       go_roundw
       case rel => exact ⟨rfl, k + 1, by omega, by go_num, ok_snoc HL.out.1 HL.out.2.2.2.2 hokx, arm_close HC.out HL.out.2.2.2.2 HL.out.2.1 HJ.out.1 hj4 (by rw [HW.out.1]; rfl) HW.out.2.1 HW.out.2.2 HG.out.1 HG.out.2.1 HG.out.2.2 (.inl ⟨hj4, rfl, rfl⟩)⟩
       case measure => simp [intOf]; omega
   ·obtain ⟨er, her⟩ : ∃ er, chk x = er := ⟨_, rfl⟩
    rw [her] at hcon he
    have he1 : (er == 0) = false := by simpa using he
    have he2 : (er != 0) = true := by simpa using he
    have HE := Lib.hid (And.intro her he)
    clear her he
    go_wp2_with fail
    refine (hcon _).mono ?_
    rintro e w2 ⟨rfl, hb2⟩
    have hC2 := HL.out.2.2.1.below (((Below.refl _ _).alloc (Nat.le_refl _) _).trans (hb2.mono (by simp)))
    have hcR := blk_cell hC2.2.1
    have hfR := blk_frozen hC2.2.1
    have HC := Lib.hid hC2
    clear hb2 hcon hC2
    go_wp2_with fail
    rw [Exit.noGoto_ret]
    have hh := heap_setCell_same w2 w.heap.size 0 _ _ (.slice none 0 0) HC.out.2.1
    refine bodyPost_ret (results_cell_row2 rfl _ _ _ _ _ _ _ rfl hh Tryz.underlying87 rfl (by kernel_rfl)) rfl ⟨HC.out.2.2.2.2.2.setCell (Nat.le_refl _) _, .inl ?_⟩
    have e1 := errOf_at HL.out.1 HL.out.2.2.2.2 (by rw [HE.out.1]; exact HE.out.2)
    rw [HE.out.1] at e1
    rw [e1]
    exact ⟨HE.out.2, rfl⟩
  ·have hkl : k = l.length := by omega
   subst hkl
   rw [List.take_length] at hok hD hC
   have hsz : Maps.size D ≤ 1000 := Nat.le_trans hC.1.size_le hl
   have HC := Lib.hid (And.intro hok (And.intro hD (And.intro hC hsz)))
   have HHI2 := Lib.hid hi2
   clear hok hD hC hsz hi2
   go_wp2_with fail
   refine (ofRows_ok wr _ _ D _ HC.out.2.2.1.1 HC.out.2.1 HC.out.2.2.2).mono ?_
   rintro e w2 ⟨ks, hkl, hnd, hks, A10, c10, rfl, hrow, hb2⟩
   obtain ⟨rows, hrows⟩ : ∃ rows, (ks.mergeSort fun x y => decide (x ≤ y)).map (rowCl fun key => lev l (-1, key, 0)) = rows := ⟨_, rfl⟩
   have hrl : rows.length = ks.length := by rw [← hrows]; simp
   rw [hrows] at hrow
   have hinv : Inv w rs (lists l) rows (.slice A10 rows.length c10) (fun _ => True) w2 := by
    obtain ⟨h1, h2, h3, h4, h5, h6⟩ := HC.out.2.2.1.below hb2
    exact ⟨h2, h3, h4, fun j hj _ => h5.1 j hj, own_base hrow (fun g hg => by have := (hrow.lt g hg).1; have := HC.out.2.2.1.2.2.2.2.2.size; omega), h6⟩
   have hdist : Dist rs := HC.out.2.2.1.2.2.2.2.1.2
   rw [hrows]
   have HK := Lib.hid (And.intro hnd (And.intro hks (And.intro hrows (And.intro hrl (And.intro hinv (And.intro hdist hkl))))))
   clear hnd hks hrows hrl hinv hdist hrow hb2 hkl
   go_wp2_with fail
   go_loopw [10, 88] (fun v i wr => ∃ k : Nat, k ≤ 4 ∧ i = .int .i64 (k : Int) ∧ ColsR w l rs rows k v wr) (fun _ i _ => 4 - (intOf i).toNat)
   case atStart =>
    obtain ⟨_, _, _, hrl, hinv, _, hkl⟩ := HK.out
    exact ⟨0, by omega, rfl, fun _ => [], fun _ => [], fun i hi => absurd hi (by omega), by simp [cols]; omega, by simpa [cols] using hinv.mono (fun _ _ => trivial)⟩
   case round =>
    obtain ⟨k, hk, rfl, W, R, hco, hlen, hinv⟩ := hrel
    rename World => w3
    by_cases hlt : k < 4
    ·obtain ⟨a0, _⟩ := arr_cells hinv.2.2.1 k hlt
     obtain ⟨a2, _⟩ := arr_cells hinv.2.1 k hlt
     have hk0 : (0 : Int) ≤ (k : Int) := by omega
     have hk4 : (k : Int) < 4 := by omega
     have hA6 : w.heap.size + 1 + 1 + 1 < w3.heap.size := (Array.getElem?_eq_some_iff.1 hinv.2.2.1).1
     obtain ⟨vW, hvW⟩ : ∃ vW, rs (4 + k) = vW := ⟨_, rfl⟩
     simp only [hvW] at a0
     have h46 : (4 + k) % 4 = k := by omega
     have hrowW := hinv.2.2.2.1 (4 + k) (by omega) (by omega)
     have hlW : lists l (4 + k) = spansOf l (k : Int) true := by unfold lists; rw [if_neg (by omega)]; congr 1; omega
     have hlR : lists l k = spansOf l (k : Int) false := by unfold lists; rw [if_pos hlt]
     have hl8 := fun j => lists_len l j
     have hf8 := fun j => lists_fit hfit j
     obtain ⟨A10, c10, rfl⟩ := ownsRow_slice hinv.2.2.2.2.1
     have hconU := united_ok w3 vW (lists l (4 + k)) (own_base (by rw [← hvW]; exact hrowW) (fun _ _ => Nat.zero_le _)) (Nat.le_trans (hl8 _) hl) (hf8 _)
     have HI := Lib.hid (And.intro hco (And.intro hlen (And.intro hinv (And.intro hvW (And.intro hlW (And.intro hlR (And.intro hl8 (And.intro hf8 hrowW))))))))
     clear hco hlen hinv hvW hlW hlR hl8 hf8 hrowW h46
     go_wp2_with fail
     refine hconU.mono ?_
     rintro e w4 ⟨s, hs1, hs2, AW, cW, rfl, hW4, ho4⟩
     have hinv4 := HI.out.2.2.1.united HK.out.2.2.2.2.2.1 (i := 4 + k) (by omega) (by omega) (by rw [HI.out.2.2.2.1]; exact ho4)
     have hsl : s.length ≤ 1000 := by rw [hs1.length_eq]; exact Nat.le_trans (HI.out.2.2.2.2.2.2.1 _) hl
     have hjl : (joinS s).length ≤ 1000 := Nat.le_trans (joinS_len s) hsl
     have hjf : SpFit (joinS s) := joinS_fit (fun x hx => HI.out.2.2.2.2.2.2.2.1 _ x (hs1.mem_iff.1 hx))
     have hrdW : SpRd w4 (fun _ => True) (.slice AW (joinS s).length cW) (joinS s) := RdK.of_own hW4 (spc_len _) (by decide) (fun _ _ => trivial)
     obtain ⟨out, hout⟩ : ∃ out, rows ++ cols W R k = out := ⟨_, rfl⟩
     rw [hout]
     rw [hout] at hinv4
     have holen : out.length ≤ 1000 + k * 1002000 := by rw [← hout]; exact HI.out.2.1
     have HJ := Lib.hid (And.intro hs1 (And.intro hs2 (And.intro hW4 (And.intro ho4 (And.intro hinv4 (And.intro hjf (And.intro hrdW hout)))))))
     clear hs1 hs2 hW4 ho4 hinv4 hjf hrdW hout hconU
     go_wp2_with fail
     refine (ofSpans_ok w4 (fun _ => True) _ true _ _ HJ.out.2.2.2.2.2.2.1 (by omega)).mono ?_
     rintro e w5 ⟨A5, c5, rfl, hO5, hb5⟩
     obtain ⟨C1, hC1⟩ : ∃ C1, (joinS s).map (spCl (k : Int) true) = C1 := ⟨_, rfl⟩
     rw [hC1] at hO5 ⊢
     have hc1l : C1.length ≤ 1000 := by rw [← hC1]; simpa using hjl
     have hrd5 : ClRd w5 (fun _ => True) (.slice A5 C1.length c5) C1 := RdK.of_own hO5 (cl_len _) (by decide) (fun _ _ => trivial)
     have hinv5 := HJ.out.2.2.2.2.1.below hb5
     have hW5 := own_below HJ.out.2.2.1 hb5
     have hs5 := hinv5.2.2.2.2.2.size
     have H5 := Lib.hid (And.intro hC1 (And.intro hrd5 (And.intro hinv5 hW5)))
     clear hC1 hrd5 hinv5 hW5 hO5 hb5
     go_wp2_with (at_builtin; go_loud (refine wpList_append_rdk _ rfl _ _ 37 rfl w.heap.size 48 i2 _ 5 48 Tryz.underlying37 HHI2.out hy0 hy1 hy2 rfl (by decide) (.slice A10 out.length c10) out.length _ rfl H5.out.2.2.1.2.2.2.2.1 (fun _ => True) (.slice A5 C1.length c5) (C1.map Cl.cells) rfl H5.out.2.1 (cl_len _) (cl_one _) (by simp; omega) (by simp; unfold maxLen; omega) hs5 ?_); intro v6 w6 hO6 hg6 hat6; have hO6' : w6.ownsRow w.heap.size 48 5 v6 (out ++ C1).length ((out ++ C1).map Cl.cells).flatten := (by simpa using hO6); obtain ⟨out1, hout1⟩ : ∃ out1, out ++ C1 = out1 := ⟨_, rfl⟩; rw [hout1] at hO6'; have hinv6 := H5.out.2.2.1.append hg6 hO6'; have hW6 := own_kept_ne H5.out.2.2.2 H5.out.2.2.1.2.2.2.2.1 (by decide) hg6; obtain ⟨a6, _⟩ := arr_cells hinv6.2.1 k hlt; have hsz6 := hg6.size; have hol1 : out1.length ≤ 2000 + k * 1002000 := (by rw [← hout1]; simp; omega); have HO1 := Lib.hid hout1; have H6 := Lib.hid (And.intro hinv6 hW6); clear hO6 hO6' hinv6 hW6 hg6 hat6 hout1)
     have hown6 := H6.out.1.2.2.2.1 k (by omega) (by omega)
     obtain ⟨A6, c6, rfl⟩ := ownsRow_slice H6.out.1.2.2.2.2.1
     refine (united_ok w6 (rs k) (lists l k) (own_base hown6 (fun _ _ => Nat.zero_le _)) (Nat.le_trans (HI.out.2.2.2.2.2.2.1 _) hl) (HI.out.2.2.2.2.2.2.2.1 _)).mono ?_
     rintro e w7 ⟨s', ht1, ht2, AR, cR, rfl, hR7, ho7⟩
     have hinv7 := H6.out.1.united HK.out.2.2.2.2.2.1 (i := k) (by omega) (by omega) ho7
     have hs7 : s'.length ≤ 1000 := by rw [ht1.length_eq]; exact Nat.le_trans (HI.out.2.2.2.2.2.2.1 _) hl
     have hj7 : (joinS s').length ≤ 1000 := Nat.le_trans (joinS_len s') hs7
     have hf7 : SpFit (joinS s') := joinS_fit (fun x hx => HI.out.2.2.2.2.2.2.2.1 _ x (ht1.mem_iff.1 hx))
     have hrdR : SpRd w7 (fun _ => True) (.slice AR (joinS s').length cR) (joinS s') := RdK.of_own hR7 (spc_len _) (by decide) (fun _ _ => trivial)
     have hrk3 := HI.out.2.2.1.2.2.2.1 k (by omega) (by omega)
     have hW7 := own_only H6.out.2 ho7 (fun g hg e => by have h1 := (H6.out.2.lt g hg).1; have h2 := (hrk3.lt g e).2; omega)
     have hrdW7 : SpRd w7 (fun _ => True) (.slice AW (joinS s).length cW) (joinS s) := RdK.of_own hW7 (spc_len _) (by decide) (fun _ _ => trivial)
     have hlw := withoutS_len (joinS s') (joinS s)
     have hlw2 : (joinS s').length * ((joinS s).length + 1) ≤ 1000 * 1001 := Nat.mul_le_mul hj7 (by omega)
     have H7 := Lib.hid (And.intro ht1 (And.intro ht2 (And.intro hinv7 (And.intro hf7 (And.intro hrdR hrdW7)))))
     clear ht1 ht2 hinv7 hf7 hrdR hrdW7 hR7 ho7 hown6 hrk3 hW7
     go_wp2_with fail
     refine (without_ok w7 (fun _ => True) _ _ _ _ H7.out.2.2.2.2.1 H7.out.2.2.2.2.2 hj7 hjl H7.out.2.2.2.1 HJ.out.2.2.2.2.2.1).mono ?_
     rintro e w8 ⟨A8, c8, rfl, hO8, hb8⟩
     have hrd8 : SpRd w8 (fun _ => True) (.slice A8 (withoutS (joinS s') (joinS s)).length c8) (withoutS (joinS s') (joinS s)) := RdK.of_own hO8 (spc_len _) (by decide) (fun _ _ => trivial)
     have hinv8 := H7.out.2.2.1.below hb8
     obtain ⟨X, hX⟩ : ∃ X, withoutS (joinS s') (joinS s) = X := ⟨_, rfl⟩
     rw [hX] at hrd8 hlw ⊢
     have hxl : X.length ≤ 1001000 := by omega
     have H8 := Lib.hid (And.intro hX (And.intro hrd8 hinv8))
     clear hX hrd8 hinv8 hO8 hb8 hlw
     go_wp2_with fail
     refine (ofSpans_ok w8 (fun _ => True) _ false _ _ H8.out.2.1 (by omega)).mono ?_
     rintro e w9 ⟨A9, c9, rfl, hO9, hb9⟩
     obtain ⟨C2, hC2⟩ : ∃ C2, X.map (spCl (k : Int) false) = C2 := ⟨_, rfl⟩
     rw [hC2] at hO9 ⊢
     have hc2l : C2.length ≤ 1001000 := by rw [← hC2]; simpa using hxl
     have hrd9 : ClRd w9 (fun _ => True) (.slice A9 C2.length c9) C2 := RdK.of_own hO9 (cl_len _) (by decide) (fun _ _ => trivial)
     have hinv9 := H8.out.2.2.below hb9
     have hs9 := hinv9.2.2.2.2.2.size
     have H9 := Lib.hid (And.intro hC2 (And.intro hrd9 (And.intro hinv9 HO1.out)))
     clear hC2 hrd9 hinv9 hO9 hb9
     go_wp2_with (at_builtin; go_loud (refine wpList_append_rdk _ rfl _ _ 37 rfl w.heap.size 48 i2 _ 5 48 Tryz.underlying37 HHI2.out hy0 hy1 hy2 rfl (by decide) (.slice A6 out1.length c6) out1.length _ rfl H9.out.2.2.1.2.2.2.2.1 (fun _ => True) (.slice A9 C2.length c9) (C2.map Cl.cells) rfl H9.out.2.1 (cl_len _) (cl_one _) (by simp; omega) (by simp; unfold maxLen; omega) hs9 ?_); intro vZ wZ hOZ hgZ hatZ)
     go_roundw
     case rel =>
      have hOZ' : wZ.ownsRow w.heap.size 48 5 vZ (out1 ++ C2).length ((out1 ++ C2).map Cl.cells).flatten := by simpa using hOZ
      have hinvZ := H9.out.2.2.1.append hgZ hOZ'
      refine ⟨k + 1, by omega, by go_num, updI W k (joinS s), updI R k X, ?_, ?_, ?_⟩
      ·intro i hi
       by_cases e : i = k
       ·subst e
        rw [updI_same, updI_same, ← H8.out.1]
        exact colOk_of HC.out.1 (by rw [← HI.out.2.2.2.2.1]; exact HJ.out.1) (by rw [← HI.out.2.2.2.2.2.1]; exact H7.out.1) HJ.out.2.1 H7.out.2.1
       ·rw [updI_other e, updI_other e]
        exact HI.out.1 i (by omega)
      ·rw [cols_step, ← List.append_assoc, HJ.out.2.2.2.2.2.2.2, H5.out.1, H9.out.1]
       have := H9.out.2.2.2
       rw [← List.append_assoc, this]
       simp; omega
      ·have e : rows ++ cols (updI W k (joinS s)) (updI R k X) (k + 1) = out1 ++ C2 := by
        rw [cols_step, ← List.append_assoc, HJ.out.2.2.2.2.2.2.2, H5.out.1, H9.out.1, ← List.append_assoc, H9.out.2.2.2]
       rw [e]
       exact hinvZ.mono (fun j hj => ⟨⟨by omega, by omega⟩, by omega⟩)
     case measure => simp [intOf]; omega
    ·obtain rfl : k = 4 := by omega
     have hform := isForm_of HC.out.1 HK.out.1 HK.out.2.1 HK.out.2.2.1 hco
     obtain ⟨out, hout⟩ : ∃ out, rows ++ cols W R 4 = out := ⟨_, rfl⟩
     rw [hout] at hform hinv hlen
     obtain ⟨AZ, cZ, rfl⟩ := ownsRow_slice hinv.2.2.2.2.1
     have hcR := blk_cell hinv.1
     have hfR := blk_frozen hinv.1
     have HF := Lib.hid (And.intro hform (And.intro hinv hout))
     clear hform hinv hout hco
     by_cases h64 : 64 < out.length
     ·go_wp2_with fail
      rw [Exit.noGoto_ret]
      have hh := heap_setCell_same w3 w.heap.size 0 _ _ (.slice none 0 0) HF.out.2.1.1
      exact bodyPost_ret (results_cell_row2 rfl _ _ _ _ _ _ _ rfl hh Tryz.underlying87 rfl (by kernel_rfl)) rfl ⟨HF.out.2.1.2.2.2.2.2.setCell (Nat.le_refl _) _, .inr ⟨errOf_ok HC.out.1, out, HF.out.1, .inl ⟨h64, rfl⟩⟩⟩
     ·go_wp2_with fail
      rw [Exit.noGoto_ret]
      have hh := heap_setCell_same w3 w.heap.size 0 _ _ (.slice AZ out.length cZ) HF.out.2.1.1
      refine bodyPost_ret (results_cell_row2 rfl _ _ _ _ _ _ _ rfl hh Tryz.underlying87 rfl (by kernel_rfl)) rfl ⟨HF.out.2.1.2.2.2.2.2.setCell (Nat.le_refl _) _, .inr ⟨errOf_ok HC.out.1, out, HF.out.1, .inr ⟨by omega, AZ, cZ, rfl, ?_⟩⟩⟩
      exact own_only HF.out.2.1.2.2.2.2.1 (Only.set1 w3 w.heap.size 0 _) (fun g hg e => by subst e; exact own_blk_ne HF.out.2.1.2.2.2.2.1 HF.out.2.1.1 (by decide) hg)
end
end Go.Proofs.YtagemonojdgbdaaGreatDoor
