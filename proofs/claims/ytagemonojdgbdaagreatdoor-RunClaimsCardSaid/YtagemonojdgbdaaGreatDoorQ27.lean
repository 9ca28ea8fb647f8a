import Derived.Test.YtagemonojdgbdaaGreatDoorQ25
import Derived.Test.YtagemonojdgbdaaGreatDoorQ26
import Derived.Deep.RegionHeld3
import Derived.StillTailTactics
namespace Go.Proofs.YtagemonojdgbdaaGreatDoor
set_option maxRecDepth 100000
open Go.RowKit
section
open Go.RowKit Go.Maps Go.WideShapes
theorem rz {w w' : World} (h : Below w.heap.size w w') : w.grownBy w' none := ⟨h.os, h.tape, h.output, h.size, fun k hk _ => h.block k hk⟩
def eF (w : World) (A : Nat) (f : Nat -> Value) : Prop := w.heap[A]? = some (.cells #[f 0, f 1, f 2, f 3] 173 (0, 0))
def zE (w : World) (base : Nat) (rs : Nat -> Value) (ls : Nat -> List (Int × Int)) : Prop :=
 (∀ j, j < 8 -> w.ownsRow base 178 2 (rs j) (ls j).length ((ls j).map jv).flatten) /\ ∀ i j, i < 8 -> j < 8 -> i ≠ j -> ∀ g, (rs i).ownBlock = some g -> (rs j).ownBlock ≠ some g
def lists (l : List Cl) (j : Nat) : List (Int × Int) := if j < 4 then bQ l (j : Int) false else bQ l ((j - 4 : Nat) : Int) true
def fN (w : World) (D : DataW Unit) (n : Nat) (rs : Nat -> Value) (ls : Nat -> List (Int × Int)) (wr : World) : Prop :=
 wr.ownsMap Tryz.prog 176 (plainElem Tryz.prog 3) (w.heap.size + 1) n D /\ wr.heap[w.heap.size]? = some (.cells #[.slice none 0 0] 87 (0, 0)) /\
  eF wr (w.heap.size + 1 + 1) rs /\ eF wr (w.heap.size + 1 + 1 + 1) (fun j => rs (4 + j)) /\ zE wr (w.heap.size + 1 + 1 + 1 + 1) rs ls /\ Below w.heap.size w wr
def Fk (w : World) (l : List Cl) (k : Nat) (wr : World) : Prop :=
 ∃ (D : DataW Unit) (rs : Nat -> Value), iB D (fun key => dN (l.take k) (-1, key, 0)) /\ fN w D k rs (lists (l.take k)) wr
section
variable {w wr w' : World} {D D' : DataW Unit} {n n' : Nat} {rs : Nat -> Value} {ls Nj : Nat -> List (Int × Int)}
theorem fN.below (h : fN w D n rs ls wr) (hb : Below wr.heap.size wr w') : fN w D n rs ls w' := by
 obtain ⟨h1, h2, h3, h4, h5, h6⟩ := h
 have hl := h1.lt
 refine ⟨h1.kept (rz hb) (by simp), ?_, ?_, ?_, ⟨fun j hj => aC (h5.1 j hj) hb, h5.2⟩, h6.trans (hb.mono h6.size)⟩
 ·rw [hb.block _ (by omega)]; exact h2
 ·unfold eF; rw [hb.block _ (Array.getElem?_eq_some_iff.1 h3).1]; exact h3
 ·unfold eF; rw [hb.block _ (Array.getElem?_eq_some_iff.1 h4).1]; exact h4
theorem fN.map (h : fN w D n rs ls wr) (hg : wr.grownBy w' (some (w.heap.size + 1))) (hm : w'.ownsMap Tryz.prog 176 (plainElem Tryz.prog 3) (w.heap.size + 1) n' D') : fN w D' n' rs ls w' := by
 obtain ⟨h1, h2, h3, h4, h5, h6⟩ := h
 have hl := h1.lt
 have l3 := (Array.getElem?_eq_some_iff.1 h3).1
 have l4 := (Array.getElem?_eq_some_iff.1 h4).1
 refine ⟨hm, ?_, ?_, ?_, ⟨fun j hj => (h5.1 j hj).kept hg (.inr ?_), h5.2⟩, h6.grown hg h6.size (fun j hj => by cases hj; omega)⟩
 ·rw [hg.block _ (by omega) (by simp)]; exact h2
 ·unfold eF; rw [hg.block _ l3 (by intro e; injection e with e; omega)]; exact h3
 ·unfold eF; rw [hg.block _ l4 (by intro e; injection e with e; omega)]; exact h4
 ·intro e
  have := (h5.1 j hj).lt _ e
  omega
theorem fN.lists (h : fN w D n rs ls wr) (he : ∀ j, j < 8 -> Nj j = ls j) : fN w D n rs Nj wr := by
 obtain ⟨h1, h2, h3, h4, h5, h6⟩ := h
 exact ⟨h1, h2, h3, h4, ⟨fun j hj => by rw [he j hj]; exact h5.1 j hj, h5.2⟩, h6⟩
theorem fN.more (h : fN w D n rs ls wr) (hn : n <= n') : fN w D n' rs ls wr := ⟨h.1.mono hn, h.2⟩
end
def upd {α : Type} (f : Nat -> α) (i : Nat) (v : α) (j : Nat) : α := if j = i then v else f j
theorem zE.append {w w1 : World} {base : Nat} {rs : Nat -> Value} {ls : Nat -> List (Int × Int)} (h : zE w base rs ls) {i : Nat} (hi : i < 8) {v' : Value} {x : Int × Int} (hg : w.grownBy w1 (rs i).ownBlock)
  (hown : w1.ownsRow base 178 2 v' ((ls i).length + 1) (((ls i) ++ [x]).map jv).flatten) (hat : v'.ownBlock = (rs i).ownBlock \/ v'.ownBlock = some w.heap.size) : zE w1 base (upd rs i v') (upd ls i (ls i ++ [x])) := by
 refine ⟨fun j hj => ?_, fun a b ha hb hab g DJ hgb => ?_⟩
 ·unfold upd
  by_cases e : j = i
  ·subst e
   simpa using hown
  ·simp only [e, if_false]
   refine (h.1 j hj).kept hg ?_
   cases hb : (rs j).ownBlock with
   | none => exact .inl rfl
   | some g => exact .inr (fun e2 => h.2 j i hj hi e g hb e2.symm)
 ·unfold upd at DJ hgb
  by_cases e1 : a = i
  ·subst e1
   have e2 : b ≠ a := Ne.symm hab
   simp only [if_true, e2, if_false] at DJ hgb
   have hlt := ((h.1 b hb).lt g hgb).2
   rcases hat with hat | hat
   ·rw [hat] at DJ
    exact h.2 a b ha hb hab g DJ hgb
   ·rw [hat] at DJ
    injection DJ with DJ
    omega
  ·by_cases e2 : b = i
   ·subst e2
    simp only [e1, if_true, if_false] at DJ hgb
    have hlt := ((h.1 a ha).lt g DJ).2
    rcases hat with hat | hat
    ·rw [hat] at hgb
     exact h.2 a b ha hb hab g DJ hgb
    ·rw [hat] at hgb
     injection hgb with hgb
     omega
   ·simp only [e1, e2, if_false] at DJ hgb
    exact h.2 a b ha hb hab g DJ hgb
theorem zE.set {w : World} {base : Nat} {rs : Nat -> Value} {ls : Nat -> List (Int × Int)} (h : zE w base rs ls) {A j : Nat} (hA : A < base) (u : Value) : zE (w.setCell ⟨A, j, none⟩ u) base rs ls :=
 ⟨fun i hi => aU (h.1 i hi) (Only.aT w A j u) (fun g hg e => by have := ((h.1 i hi).lt g hg).1; omega), h.2⟩
theorem eF.set {w : World} {A : Nat} {f : Nat -> Value} (h : eF w A f) {j : Nat} (hj : j < 4) (u : Value) : eF (w.setCell ⟨A, j, none⟩ u) A (upd f j u) := by
 have h1 := heap_setCell_same w A j _ _ u h
 unfold eF
 have : j = 0 \/ j = 1 \/ j = 2 \/ j = 3 := by omega
 rcases this with rfl | rfl | rfl | rfl <;> simpa [upd] using h1
theorem eF.other {w w' : World} {A : Nat} {f g : Nat -> Value} (h : eF w A f) (hb : w'.heap[A]? = w.heap[A]?) (he : ∀ j, j < 4 -> g j = f j) : eF w' A g := by
 unfold eF at *
 rw [hb, h, he 0 (by omega), he 1 (by omega), he 2 (by omega), he 3 (by omega)]
theorem fN.append {w wr w1 : World} {D : DataW Unit} {n : Nat} {rs : Nat -> Value} {ls : Nat -> List (Int × Int)} (h : fN w D n rs ls wr) {i : Nat} (hi : i < 8) {v' : Value} {x : Int × Int} (hg : wr.grownBy w1 (rs i).ownBlock)
  (hown : w1.ownsRow (w.heap.size + 1 + 1 + 1 + 1) 178 2 v' ((ls i).length + 1) (((ls i) ++ [x]).map jv).flatten) (hat : v'.ownBlock = (rs i).ownBlock \/ v'.ownBlock = some wr.heap.size)
  {A j : Nat} (hA : (i < 4 /\ A = w.heap.size + 1 + 1 /\ j = i) \/ (4 <= i /\ A = w.heap.size + 1 + 1 + 1 /\ i = 4 + j)) :
  fN w D n (upd rs i v') (upd ls i (ls i ++ [x])) (w1.setCell ⟨A, j, none⟩ v') := by
 obtain ⟨h1, h2, h3, h4, h5, h6⟩ := h
 have hl := h1.lt
 have l3 := (Array.getElem?_eq_some_iff.1 h3).1
 have l4 := (Array.getElem?_eq_some_iff.1 h4).1
 have hno : ∀ b, b < w.heap.size + 1 + 1 + 1 + 1 -> some b ≠ (rs i).ownBlock := fun b hb e => by have := ((h5.1 i hi).lt b e.symm).1; omega
 have Vk : A < w.heap.size + 1 + 1 + 1 + 1 /\ w.heap.size + 1 < A := by omega
 have Fl : ∀ b, b ≠ A -> (w1.setCell ⟨A, j, none⟩ v').heap[b]? = w1.heap[b]? := fun b hb => Below.heap_setCell _ _ _ _ hb
 have o8 := (h5.append hi hg hown hat).set (A := A) (j := j) Vk.1 v'
 refine ⟨(h1.kept hg (hno _ (by omega))).setCell (by simp; omega) _, ?_, ?_, ?_, o8, ?_⟩
 ·rw [Fl _ (by omega), hg.block _ (by omega) (hno _ (by omega))]; exact h2
 ·rcases hA with ⟨e1, rfl, rfl⟩ | ⟨e1, rfl, rfl⟩
  ·have h3' : eF w1 (w.heap.size + 1 + 1) rs := h3.other (hg.block _ l3 (hno _ (by omega))) (fun _ _ => rfl)
   exact h3'.set e1 v'
  ·refine h3.other ?_ (fun a ha => ?_)
   ·rw [Fl _ (by omega), hg.block _ l3 (hno _ (by omega))]
   ·unfold upd; rw [if_neg (by omega)]
 ·rcases hA with ⟨e1, rfl, rfl⟩ | ⟨e1, rfl, rfl⟩
  ·refine h4.other ?_ (fun a ha => ?_)
   ·rw [Fl _ (by omega), hg.block _ l4 (hno _ (by omega))]
   ·unfold upd; rw [if_neg (by omega)]
  ·have h4' : eF w1 (w.heap.size + 1 + 1 + 1) (fun j => rs (4 + j)) := h4.other (hg.block _ l4 (hno _ (by omega))) (fun _ _ => rfl)
   have := h4'.set (j := j) (by omega) v'
   refine this.other rfl (fun a ha => ?_)
   unfold upd
   by_cases e : a = j
   ·subst e; simp
   ·rw [if_neg (by omega), if_neg e]
 ·exact (h6.grown hg h6.size (fun b hb => by have := ((h5.1 i hi).lt b hb).1; omega)).setCell (by simp; omega) _
theorem iB.put {D : DataW Unit} {f g : List UInt8 -> Int} {k : List UInt8} {v : Int} (h : iB D f) (hm : IsMap D) (hv : v ≠ 0) (hs : g k = v) (ho : ∀ k', k' ≠ k -> g k' = f k') : iB (D.put (bY k) (.lit (.int .i64 v))) g := by
 intro k'
 by_cases e : k' = k
 ·subst e
  have hk : WideAt.IsKeyLit (bY k') := by unfold bY; exact trivial
  rw [atKey_put_same hm hk, has_put_same hm hk, hs]
  simp [hv]
 ·have hne : bY k' ≠ bY k := fun h => e (qK h)
  rw [atKey_put_other hne, has_put_other hne, ho k' e]
  exact h k'
theorem iB.same {D : DataW Unit} {f g : List UInt8 -> Int} (h : iB D f) (e : ∀ k, g k = f k) : iB D g := fun k => by rw [e k]; exact h k
def mF (l : List Cl) : Int := match l.find? (fun c => Bk c != 0) with | some c => Bk c | none => 0
def fI (l out : List Cl) : Prop := BG out /\ ∀ t, dN out t = dN l t
def Jq (n : Int) : Ending := .returned (.tuple #[.agg #[.slice none 0 0], .int .i64 n])
def Fm (l : List Cl) (w : World) (e : Ending) (w' : World) : Prop :=
 Below w.heap.size w w' /\ ((mF l ≠ 0 /\ e = Jq (mF l)) \/ (mF l = 0 /\ ∃ out, fI l out /\ ((64 < out.length /\ e = Jq 23) \/
  (out.length <= 64 /\ ∃ A c, e = .returned (.tuple #[.agg #[.slice A out.length c], .int .i64 0]) /\ w'.ownsRow w.heap.size 48 5 (.slice A out.length c) out.length (out.map Cl.cells).flatten))))
theorem jK {w : World} {A : Nat} {f : Nat -> Value} (h : eF w A f) : ∀ j, j < 4 -> w.cell? ⟨A, j, none⟩ = some (f j) /\ w.frozen? ⟨A, j, none⟩ = false := by
 intro j hj
 have : j = 0 \/ j = 1 \/ j = 2 \/ j = 3 := by omega
 rcases this with rfl | rfl | rfl | rfl <;> simp [World.cell?, World.frozen?, (show w.heap[A]? = some (.cells #[f 0, f 1, f 2, f 3] 173 (0, 0)) from h)]
theorem zF {w : World} {b : Nat} {v0 v1 v2 v3 v4 : Value} {t : TypeId} (h : w.heap[b]? = some (.cells #[v0, v1, v2, v3, v4] t (0, 0))) :
  w.cell? ⟨b, 0, none⟩ = some v0 /\ w.cell? ⟨b, 1, none⟩ = some v1 /\ w.cell? ⟨b, 2, none⟩ = some v2 /\ w.cell? ⟨b, 3, none⟩ = some v3 /\ w.cell? ⟨b, 4, none⟩ = some v4 := by
 simp [World.cell?, h]
theorem rA {α : Type} {p : α -> Bool} : ∀ {l : List α} {k : Nat} {x : α}, (∀ c ∈ l.take k, p c = false) -> l[k]? = some x -> p x = true -> l.find? p = some x
 | [], _, _, _, h, _ => by simp at h
 | y :: l, 0, x, _, h, hp => by simp at h; subst h; simp [hp]
 | y :: l, k + 1, x, ha, h, hp => by
  have hy := ha y (by simp)
  rw [List.find?_cons, hy]
  exact rA (k := k) (fun c hc => ha c (by rw [List.take_succ_cons]; exact List.mem_cons_of_mem _ hc)) (by simpa using h) hp
theorem Fp {l : List Cl} {k : Nat} {x : Cl} (ha : ∀ c ∈ l.take k, Ok c) (hx : l[k]? = some x) (he : Bk x ≠ 0) : mF l = Bk x := by
 unfold mF
 rw [rA (k := k) (x := x) (fun c hc => by have : Bk c = 0 := ha c hc; simp [this]) hx (by simpa using he)]
theorem rB {l : List Cl} (ha : ∀ c ∈ l, Ok c) : mF l = 0 := by
 unfold mF
 rw [List.find?_eq_none.2 (fun c hc => by have : Bk c = 0 := ha c hc; simp [this])]
theorem lZ {l : List Cl} {k : Nat} {x : Cl} (ha : ∀ c ∈ l.take k, Ok c) (hx : l[k]? = some x) (h : Ok x) : ∀ c ∈ l.take (k + 1), Ok c := by
 rw [cQ hx]
 intro c hc
 rcases List.mem_append.1 hc with hc | hc
 ·exact ha c hc
 ·simp at hc; subst hc; exact h
theorem tN {l : List Cl} {x : Cl} (hx : x.aG = -1) : ∀ j, j < 8 -> lists (l ++ [x]) j = lists l j := by
 intro j _
 unfold lists bQ
 have h1 : ∀ m : Nat, ¬ x.aG = (m : Int) := fun m => by omega
 split <;> simp [List.filter_append, h1]
theorem CS {l : List Cl} {x : Cl} {j : Nat} (hx : x.aG = (j : Int)) (hj : j < 4) : ∀ i, i < 8 -> lists (l ++ [x]) i = upd (lists l) (if x.wr then 4 + j else j) (lists l (if x.wr then 4 + j else j) ++ [(x.lo, x.hi)]) i := by
 intro i hi
 unfold lists bQ upd
 cases hw : x.wr with
 | true =>
  by_cases h4 : i < 4
  ·have hne : i ≠ 4 + j := by omega
   simp [List.filter_append, hw, h4, hne]
  ·by_cases e : i = 4 + j
   ·subst e
    have e2 : 4 + j - 4 = j := by omega
    simp only [h4, if_false, if_true, e2]
    simp [List.filter_append, hw, hx]
   ·have : ((j : Int) == ((i - 4 : Nat) : Int)) = false := by simp; omega
    simp [List.filter_append, hw, h4, e, hx, this]
 | false =>
  by_cases h4 : i < 4
  ·by_cases e : i = j
   ·subst e; simp [List.filter_append, hw, hx, hj]
   ·have : ((j : Int) == (i : Int)) = false := by simp; omega
    simp [List.filter_append, hw, h4, e, hx, this]
  ·have hne : i ≠ j := by omega
   simp [List.filter_append, hw, h4, hne]
theorem oK (l : List Cl) (j : Nat) : (lists l j).length <= l.length := by
 unfold lists bQ
 split <;> simp [List.length_filter_le]
theorem aY {P : Program} {md : Region.Mode} {l : List Oper} {Q : Exit -> Act -> World -> Prop} {S : World -> Prop} {i : Nat} {oi : Oper} {v : Value} {fuel : Nat} {listed : Array Bool} {a : Act} {w : World} (hi : l[i]? = some oi)
  (hs : Region.noSelect l.toArray = true) (hf : Region.free md l.toArray listed i = true) (hr : (Region.ready md l.toArray listed).contains i = true)
  (hQ : ∀ c a w, Q (.panic c) (a.put oi.dst v) w -> Q (.panic c) a w) (hw : Region.wanted oi (yielded l.toArray a.tmps) = true) (hy : ∀ w, S w -> (execOp a.eval oi).run P w = .ok (.value v) w) (hS : S w)
  (h : wpAnyH P md l.toArray Q S fuel (listed.setIfInBounds i true) (a.put oi.dst v) w) : wpAnyH P md l.toArray Q S (fuel + 1) listed a w :=
 wpAnyH_take (by simpa using hi) hs hf hr hQ (.inl ⟨hw, hy⟩) hS h
theorem cA {P : Program} {md : Region.Mode} {l : List Oper} {Q : Exit -> Act -> World -> Prop} {S : World -> Prop} {fuel : Nat} {listed : Array Bool} {a : Act} {w : World} {i : Nat} {o : Oper} {rs : List Nat} (ho : l[i]? = some o)
  (h : ∀ K' : Act -> World -> Prop, Shut (∀ a w, S w -> (S w -> wpAnyH P md l.toArray Q S fuel (listed.setIfInBounds i true) a w) -> K' a w) -> if Region.wanted o (yielded l.toArray a.tmps) = true then Oper.wp P o a w K' Q else K' (a.put o.dst undef) w)
  (hs : AllReadyH P md l.toArray Q S fuel listed a w rs) : AllReadyH P md l.toArray Q S fuel listed a w (i :: rs) := AllReadyH.cons (by simpa using ho) h hs
theorem iC {w2 X w3 : World} {o : Obj} {row : Option Nat} (hg : X.grownBy w3 row) (hX : X.heap = (w2.alloc o).heap) {A j : Nat} {v : Value} (hc : w2.cell? ⟨A, j, none⟩ = some v) (hf : w2.frozen? ⟨A, j, none⟩ = false) (hne : some A ≠ row) :
  w3.cell? ⟨A, j, none⟩ = some v /\ w3.frozen? ⟨A, j, none⟩ = false := by
 have hlt := World.block_lt_of_cell? w2 _ hc
 have Pk : w3.heap[A]? = w2.heap[A]? := by
  rw [hg.block A (by rw [hX]; simp; exact Nat.lt_succ_of_lt hlt) hne, hX]
  exact Below.heap_alloc _ _ _ hlt
 exact ⟨(World.cell?_of_block Pk).trans hc, (World.frozen?_of_block Pk).trans hf⟩
theorem p9 {l : List Cl} {x : Cl} (h : x.aG = -1) (h0 : x.lo = 0) (h1 : x.hi = 0) (k : List UInt8) : dN (l ++ [x]) (-1, k, 0) = if k = x.key then (if x.wr = true then 2 else max (dN l (-1, k, 0)) 1) else dN l (-1, k, 0) := by
 rw [xO]
 by_cases e : k = x.key
 ·have : x.has (-1, k, 0) := ⟨h, e.symm, by simp only; omega, by simp only; omega⟩
  rw [if_pos this, if_pos e]
 ·have : ¬ x.has (-1, k, 0) := fun hh => e hh.2.1.symm
  rw [if_neg this, if_neg e]
theorem zG {l : List Cl} {x : Cl} (h : 0 <= x.aG) (k : List UInt8) : dN (l ++ [x]) (-1, k, 0) = dN l (-1, k, 0) := by
 rw [xO, if_neg (fun hh => by have := hh.1; simp only at this; omega)]
theorem xW {w w' : World} {base base' : Nat} {e e' : TypeId} {size size' n n' : Nat} {v v' : Value} {xs xs' : List Value} (h : w.ownsRow base e size v n xs) (h' : w.ownsRow base' e' size' v' n' xs') (hne : e ≠ e') (hg : w.grownBy w' v'.ownBlock) : w'.ownsRow base e size v n xs := by
 refine h.kept hg ?_
 cases hb : v.ownBlock with
 | none => exact .inl rfl
 | some g => exact .inr (fun e2 => jW h h' hne hb e2.symm)
def gX (W R : Int -> List (Int × Int)) : Nat -> List Cl
 | 0 => []
 | n + 1 => gX W R n ++ pN W R (n : Int)
theorem rC {W R W' R' : Int -> List (Int × Int)} : ∀ {k : Nat}, (∀ i : Nat, i < k -> W i = W' i /\ R i = R' i) -> gX W R k = gX W' R' k
 | 0, _ => rfl
 | k + 1, h => by
  unfold gX pN
  rw [rC (fun i hi => h i (by omega)), (h k (by omega)).1, (h k (by omega)).2]
def nJ (W : Int -> List (Int × Int)) (k : Nat) (x : List (Int × Int)) (i : Int) : List (Int × Int) := if i = (k : Int) then x else W i
theorem l7 {W : Int -> List (Int × Int)} {k : Nat} {x : List (Int × Int)} : nJ W k x (k : Int) = x := by simp [nJ]
theorem kp {W : Int -> List (Int × Int)} {k i : Nat} {x : List (Int × Int)} (h : i ≠ k) : nJ W k x (i : Int) = W i := by unfold nJ; rw [if_neg (by omega)]
theorem tO (W R : Int -> List (Int × Int)) (k : Nat) (x y : List (Int × Int)) : gX (nJ W k x) (nJ R k y) (k + 1) = gX W R k ++ (x.map (oz (k : Int) true) ++ y.map (oz (k : Int) false)) := by
 have h : gX (nJ W k x) (nJ R k y) k = gX W R k := rC (fun i hi => ⟨kp (by omega), kp (by omega)⟩)
 show gX (nJ W k x) (nJ R k y) k ++ pN _ _ _ = _
 rw [h]
 unfold pN
 rw [l7, l7]
theorem xX (ks : List (Bool × List UInt8)) (W R : Int -> List (Int × Int)) : ej ks W R = ks.map sy ++ gX W R 4 := by
 unfold ej gX gX gX gX gX
 simp [List.append_assoc]
def BH (l : List Cl) (i : Int) (W R : List (Int × Int)) : Prop := (bL W /\ ∀ n, jc W n ↔ jc (bQ l i true) n) /\ bL R /\ ∀ n, jc R n ↔ jc (bQ l i false) n /\ ¬ jc W n
def Inv (w : World) (rs : Nat -> Value) (ls : Nat -> List (Int × Int)) (out : List Cl) (v10 : Value) (P : Nat -> Prop) (wr : World) : Prop :=
 wr.heap[w.heap.size]? = some (.cells #[.slice none 0 0] 87 (0, 0)) /\ eF wr (w.heap.size + 1 + 1) rs /\ eF wr (w.heap.size + 1 + 1 + 1) (fun j => rs (4 + j)) /\
  (∀ j, j < 8 -> P j -> wr.ownsRow (w.heap.size + 1 + 1 + 1 + 1) 178 2 (rs j) (ls j).length ((ls j).map jv).flatten) /\ wr.ownsRow w.heap.size 48 5 v10 out.length (out.map Cl.cells).flatten /\ Below w.heap.size w wr
def NK (rs : Nat -> Value) : Prop := ∀ i j, i < 8 -> j < 8 -> i ≠ j -> ∀ g, (rs i).ownBlock = some g -> (rs j).ownBlock ≠ some g
section
variable {w wr w' : World} {rs : Nat -> Value} {ls : Nat -> List (Int × Int)} {out out' : List Cl} {v10 v' : Value} {P P' : Nat -> Prop}
theorem Inv.below (h : Inv w rs ls out v10 P wr) (hb : Below wr.heap.size wr w') : Inv w rs ls out v10 P w' := by
 obtain ⟨h1, h2, h3, h4, h5, h6⟩ := h
 refine ⟨?_, ?_, ?_, fun j hj hp => aC (h4 j hj hp) hb, aC h5 hb, h6.trans (hb.mono h6.size)⟩
 ·rw [hb.block _ (Array.getElem?_eq_some_iff.1 h1).1]; exact h1
 ·unfold eF; rw [hb.block _ (Array.getElem?_eq_some_iff.1 h2).1]; exact h2
 ·unfold eF; rw [hb.block _ (Array.getElem?_eq_some_iff.1 h3).1]; exact h3
theorem Inv.mono (h : Inv w rs ls out v10 P wr) (hp : ∀ j, P' j -> P j) : Inv w rs ls out v10 P' wr := ⟨h.1, h.2.1, h.2.2.1, fun j hj h' => h.2.2.2.1 j hj (hp j h'), h.2.2.2.2⟩
theorem Inv.Fq (h : Inv w rs ls out v10 P wr) (hd : NK rs) {i : Nat} (hi : i < 8) (hp : P i) (ho : Only (fun b => (rs i).ownBlock = some b) wr w') : Inv w rs ls out v10 (fun j => P j /\ j ≠ i) w' := by
 obtain ⟨h1, h2, h3, h4, h5, h6⟩ := h
 have Su := h4 i hi hp
 have hlo : ∀ b, b < w.heap.size + 1 + 1 + 1 + 1 -> ¬ (rs i).ownBlock = some b := fun b hb e => by have := (Su.lt b e).1; omega
 refine ⟨ho.heap h1 (hlo _ (by omega)), ho.heap h2 (hlo _ (by omega)), ho.heap h3 (hlo _ (by omega)), fun j hj Sv => aU (h4 j hj Sv.1) ho (fun g hg e => hd j i hj hi Sv.2 g hg e), aU h5 ho (fun g hg e => jW Su h5 (by decide) e hg), ?_⟩
 exact h6.trans (ho.au h6.size (fun k hk => hlo k (by omega)))
theorem Inv.append (h : Inv w rs ls out v10 P wr) (hg : wr.grownBy w' v10.ownBlock) (ho : w'.ownsRow w.heap.size 48 5 v' out'.length (out'.map Cl.cells).flatten) : Inv w rs ls out' v' P w' := by
 obtain ⟨h1, h2, h3, h4, h5, h6⟩ := h
 have hne : ∀ {b : Nat} {cs : Array Value} {t : TypeId} {fr : Nat × Nat}, wr.heap[b]? = some (.cells cs t fr) -> (48 : TypeId) ≠ t -> w'.heap[b]? = wr.heap[b]? := fun {b cs t fr} hb ht => hg.block _ (Array.getElem?_eq_some_iff.1 hb).1 (fun e => dH h5 hb ht e.symm)
 refine ⟨(hne h1 (by decide)).trans h1, (hne h2 (by decide)).trans h2, (hne h3 (by decide)).trans h3, fun j hj hp => ?_, ho, h6.grown hg h6.size (fun j hj => (h5.lt j hj).1)⟩
 refine (h4 j hj hp).kept hg ?_
 cases hb : (rs j).ownBlock with
 | none => exact .inl rfl
 | some g => exact .inr (fun e => jW (h4 j hj hp) h5 (by decide) hb e.symm)
end
theorem tP {s : List (Int × Int)} (h : fF s) : fF (bK s) := tH (fun _ h => by simp at h) h
theorem tQ (s : List (Int × Int)) : (bK s).length <= s.length := by have := tI (l := s) (out := []); simpa [bK] using this
theorem tR : ∀ (os : List (Int × Int)) (s : Int × Int), (dA s os).length <= os.length + 1
 | [], s => by simp [dA]
 | o :: os, s => by
  unfold dA
  split
  ·simp
  ·have := tR os (o.2 + 1, s.2)
   split <;> split <;> simp <;> omega
theorem xY (lo : Int) (os : List (Int × Int)) : (bP lo os).length <= os.length := by
 unfold bP
 exact List.IsSuffix.length_le (List.dropWhile_suffix _)
theorem nK : ∀ (l os : List (Int × Int)), (bp l os).length <= l.length * (os.length + 1)
 | [], os => by simp [bp]
 | s :: l, os => by
  unfold bp
  have h1 := tR (bP s.1 os) s
  have h2 := xY s.1 os
  have h3 := nK l (bP s.1 os)
  have h4 : l.length * ((bP s.1 os).length + 1) <= l.length * (os.length + 1) := Nat.mul_le_mul_left _ (by omega)
  rw [List.length_append, List.length_cons, Nat.succ_mul]
  omega
theorem CT {l : List Cl} (h : ∀ c ∈ l, c.fits) (j : Nat) : fF (lists l j) := by
 intro x hx
 have : ∃ i b, x ∈ bQ l i b := by
  unfold lists at hx
  split at hx
  ·exact ⟨_, _, hx⟩
  ·exact ⟨_, _, hx⟩
 obtain ⟨i, b, hx⟩ := this
 obtain ⟨c, hc, _, _, rfl⟩ := jq.1 hx
 exact ⟨(h c hc).2.1, (h c hc).2.2.1⟩
theorem xZ {l : List Cl} (hl : ∀ c ∈ l, Ok c) {i : Int} {s s' : List (Int × Int)} (hs : s.Perm (bQ l i true)) (hs' : s'.Perm (bQ l i false)) (h1 : iU s) (h2 : iU s') : BH l i (bK s) (bp (bK s') (bK s)) := by
 have p1 : oJ s := fun x hx => lC hl i true x (hs.mem_iff.1 hx)
 have p2 : oJ s' := fun x hx => lC hl i false x (hs'.mem_iff.1 hx)
 obtain ⟨n1, m1⟩ := rh p1 h1
 obtain ⟨n2, m2⟩ := rh p2 h2
 obtain ⟨n3, m3, _⟩ := mD n2 n1
 exact ⟨⟨n1, fun n => (m1 n).trans (xN hs n)⟩, n3, fun n => by rw [m3 n, m2 n, xN hs' n]⟩
theorem sD {ks : List (List UInt8)} (hn : ks.Nodup) : (ks.mergeSort fun x y => decide (x <= y)).Pairwise (· < ·) := by
 have h1 := List.pairwise_mergeSort (le := fun x y : List UInt8 => decide (x <= y)) (fun a b c h h' => by simp at *; exact List.le_trans h h') (fun a b => by simp; exact List.le_total a b) ks
 have h2 : (ks.mergeSort fun x y => decide (x <= y)).Nodup := (List.mergeSort_perm ks _).nodup_iff.2 hn
 refine (h1.and h2).imp ?_
 rintro a b ⟨h, hne⟩
 simp at h
 rcases Decidable.em (a < b) with h1 | h1
 ·exact h1
 ·exact absurd (List.le_antisymm h (List.not_lt.1 h1)) hne
theorem tT {l : List Cl} (hl : ∀ c ∈ l, Ok c) {ks : List (List UInt8)} (hn : ks.Nodup) (hks : ∀ k, k ∈ ks ↔ dN l (-1, k, 0) ≠ 0) {rows : List Cl} (hr : (ks.mergeSort fun x y => decide (x <= y)).map (tM fun key => dN l (-1, key, 0)) = rows)
  {W R : Int -> List (Int × Int)} (LP : ∀ i : Nat, i < 4 -> BH l i (W i) (R i)) : fI l (rows ++ gX W R 4) := by
 have e : rows ++ gX W R 4 = ej ((ks.mergeSort fun x y => decide (x <= y)).map fun k => (dN l (-1, k, 0) == 2, k)) W R := by
  rw [xX, <- hr, List.map_map]
  rfl
 rw [e]
 have NL : ∀ i : Int, 0 <= i -> i < 4 -> BH l i (W i) (R i) := fun i h0 h4 => by
  obtain ⟨n, rfl⟩ : ∃ n : Nat, i = (n : Int) := ⟨i.toNat, by omega⟩
  exact LP n (by omega)
 refine Hw hl ?_ ?_ ?_ (fun i h0 h4 => (NL i h0 h4).1) (fun i h0 h4 => (NL i h0 h4).2)
 ·rw [List.pairwise_map]
  exact sD hn
 ·intro k
  have hb := gg l (-1, k, 0)
  constructor
  ·rintro ⟨b, hb'⟩
   obtain ⟨k', hk', e⟩ := List.mem_map.1 hb'
   injection e with _ e
   subst e
   have := (hks _).1 (List.mem_mergeSort.1 hk')
   omega
  ·intro h
   exact ⟨_, List.mem_map.2 ⟨k, List.mem_mergeSort.2 ((hks k).2 (by omega)), rfl⟩⟩
 ·intro k
  constructor
  ·intro hb'
   obtain ⟨k', hk', e⟩ := List.mem_map.1 hb'
   injection e with e1 e
   subst e
   simpa using e1
  ·intro h
   refine List.mem_map.2 ⟨k, List.mem_mergeSort.2 ((hks k).2 (by omega)), ?_⟩
   rw [h]
   rfl
theorem zH (w : World) (l : List Cl) : Fk w l 0 ((((w.alloc (.cells #[.slice none 0 0] 87)).alloc (.map #[] 0)).alloc (.cells #[.slice none 0 0, .slice none 0 0, .slice none 0 0, .slice none 0 0] 173)).alloc (.cells #[.slice none 0 0, .slice none 0 0, .slice none 0 0, .slice none 0 0] 173)) := by
 refine ⟨.map [], fun _ => .slice none 0 0, ?_, ?_, ?_, ?_, ?_, ⟨?_, ?_⟩, ?_⟩
 ·intro k
  simp [Hu, DataW.atKey, Maps.has]
 ·have h := World.ownsMap_made (H := Unit) (w.alloc (.cells #[.slice none 0 0] 87)) Tryz.prog 176 (plainElem Tryz.prog 3)
  have e : (w.alloc (.cells #[.slice none 0 0] 87)).heap.size = w.heap.size + 1 := by simp
  rw [e] at h
  exact (h.alloc _).alloc _
 ·rw [Below.heap_alloc _ _ _ (by simp; omega), Below.heap_alloc _ _ _ (by simp; omega), Below.heap_alloc _ _ _ (by simp)]
  exact heap_alloc_new _ _
 ·unfold eF
  rw [Below.heap_alloc _ _ _ (by simp)]
  have e : w.heap.size + 1 + 1 = ((w.alloc (.cells #[.slice none 0 0] 87)).alloc (.map #[] 0)).heap.size := by simp
  rw [e]
  exact heap_alloc_new _ _
 ·unfold eF
  have e : w.heap.size + 1 + 1 + 1 = (((w.alloc (.cells #[.slice none 0 0] 87)).alloc (.map #[] 0)).alloc (.cells #[.slice none 0 0, .slice none 0 0, .slice none 0 0, .slice none 0 0] 173)).heap.size := by simp
  rw [e]
  exact heap_alloc_new _ _
 ·intro j hj
  have : lists (l.take 0) j = [] := by simp [lists, bQ]
  rw [this]
  exact World.ownsRow_nil _ _ _ _
 ·intro i j _ _ _ g hg
  simp [Value.ownBlock] at hg
 ·exact ((((Below.refl _ _).alloc (Nat.le_refl _) _).alloc (by simp) _).alloc (by simp; omega) _).alloc (by simp; omega) _
def NM (w : World) (l : List Cl) (rs : Nat -> Value) (rows : List Cl) (k : Nat) (v10 : Value) (wr : World) : Prop :=
 ∃ W R : Int -> List (Int × Int), (∀ i : Nat, i < k -> BH l i (W i) (R i)) /\ (rows ++ gX W R k).length <= 1000 + k * 1002000 /\ Inv w rs (lists l) (rows ++ gX W R k) v10 (fun j => k <= j % 4) wr
theorem l8 {w w2 w3 : World} {l : List Cl} {k : Nat} {x : Cl} {D : DataW Unit} {rs : Nat -> Value} {i j A c' nl g3 zI : Nat} {A' : Option Addr} (hC : fN w D k rs (lists (l.take k)) w2) (hx : l[k]? = some x) (hD : iB D (fun key => dN (l.take k) (-1, key, 0)))
  (CU : x.aG = (j : Int)) (Gq : j < 4) (hi : i = if x.wr then 4 + j else j) (hv : rs i = .slice A' (lists (l.take k) i).length c') (hnl : (lists (l.take k) i).length = nl)
  (cX : w3.ownsRow (w.heap.size + 1 + 1 + 1 + 1) 178 2 (.slice (some ⟨g3, 0, none⟩) (nl + 1) zI) (nl + 1) (((lists (l.take k) i).map jv).flatten ++ [.int .i64 x.lo, .int .i64 x.hi]))
  (aX : (w2.alloc (.cells #[.int .i64 x.lo, .int .i64 x.hi] 178)).drew.grownBy w3 (Value.slice A' nl c').ownBlock) (kq : (Value.slice A' nl c').ownBlock = some g3 \/ g3 = w2.heap.size + 1)
  (hA : (i < 4 /\ A = w.heap.size + 1 + 1 /\ j = i) \/ (4 <= i /\ A = w.heap.size + 1 + 1 + 1 /\ i = 4 + j)) : Fk w l (k + 1) (w3.setCell ⟨A, j, none⟩ (.slice (some ⟨g3, 0, none⟩) (nl + 1) zI)) := by
 have NN : i < 8 := by omega
 have hX : fN w D k rs (lists (l.take k)) (w2.alloc (.cells #[.int .i64 x.lo, .int .i64 x.hi] 178)).drew := hC.below (((Below.refl _ _).alloc (Nat.le_refl _) _).drew)
 have hb : (rs i).ownBlock = (Value.slice A' nl c').ownBlock := by rw [hv, hnl]
 have h := hX.append NN (v' := .slice (some ⟨g3, 0, none⟩) (nl + 1) zI) (x := (x.lo, x.hi)) (by rw [hb]; exact aX) (by rw [hnl]; simpa [jv] using cX) (by
  rw [hb]
  rcases kq with h | h
  ·exact .inl h.symm
  ·refine .inr ?_
   subst h
   simp [Value.ownBlock]) hA
 refine ⟨D, _, ?_, (h.more (Nat.le_succ k)).lists (fun a ha => ?_)⟩
 ·rw [cQ hx]
  exact hD.same (fun key => zG (by omega) key)
 ·rw [cQ hx, CS CU Gq a ha, <- hi]
end
section
open Go.RowKit Go.Maps Go.WideShapes
set_option maxHeartbeats 1000000 in
theorem zJ (w : World) (F : Nat -> Prop) (v : Value) (l : List Cl) (h : cd w F v l) (hl : l.length <= 1000) (hfit : ∀ c ∈ l, c.fits) :
  Calls Tryz.prog 37 #[v] w (Fm l w) := by
 obtain ⟨i0, hi, hz0, hz1, hz2⟩ := info_parts Tryz.yY
 obtain ⟨i2, hi2, hy0, hy1, hy2⟩ := info_parts Tryz.fZ
 obtain ⟨A, c, rfl, hnc, hcm⟩ := h.slice
 have H := Lib.hid h
 have sk := Lib.hid hi
 clear h hi
 have hmm := @run_makeMap Tryz.prog
 go_enter Tryz.func37, Tryz.ntmps37
 go_wp2_with fail
 go_step3
 go_wp2_with fail
 go_step3
 go_wp2_with fail
 go_loopw [7, 16] (fun e i wr => e = .int .i64 0 /\ ∃ k, k <= l.length /\ i = .int .i64 (k : Int) /\ (∀ c ∈ l.take k, Ok c) /\ Fk w l k wr) (fun _ i _ => l.length - (intOf i).toNat)
 case atStart => exact ⟨rfl, 0, Nat.zero_le _, rfl, by simp, zH w l⟩
 case round =>
  obtain ⟨rfl, k, hk, rfl, hok, D, rs, hD, hC⟩ := hrel
  by_cases hlt : k < l.length
  ·obtain ⟨x, hx⟩ : ∃ x, l[k]? = some x := ⟨_, List.getElem?_eq_getElem hlt⟩
   obtain ⟨b, o, rfl, vN, c0, c1, c2, c3, c4⟩ := H.out.at_ hx
   have hb : b < w.heap.size := World.block_lt_of_cell? w _ c0
   have hbl := hC.2.2.2.2.2
   have c0' := (hbl.cell (p := ⟨b, o + k * 5, none⟩) hb).trans c0
   have c1' := (hbl.cell (p := ⟨b, o + k * 5 + 1, none⟩) hb).trans c1
   have Kz := (hbl.cell (p := ⟨b, o + k * 5 + 2, none⟩) hb).trans c2
   have NP := (hbl.cell (p := ⟨b, o + k * 5 + 3, none⟩) hb).trans c3
   have NQ := (hbl.cell (p := ⟨b, o + k * 5 + 4, none⟩) hb).trans c4
   have hcon := fun W => Em W x
   have uW := hfit x (List.mem_of_getElem? hx)
   have hs := hbl.size
   have HL := Lib.hid (And.intro hok (And.intro hD (And.intro hC (And.intro hbl hx))))
   clear hok hD hC hbl hx c0 c1 c2 c3 c4
   unfold Cl.val at hcon
   by_cases he : Bk x = 0
   ·have zK : Ok x := he
    rw [he] at hcon
    clear he
    go_wp2_with fail
    refine (hcon _).mono ?_
    rintro e w2 ⟨rfl, hb2⟩
    have eU : w2.heap[wr.heap.size]? = some (.cells #[.bool x.wr, .int .i64 x.aG, .string ⟨x.key.toArray⟩, .int .i64 x.lo, .int .i64 x.hi] 48 (0, 0)) := by
     rw [hb2.block wr.heap.size (by simp)]; exact heap_alloc_new _ _
    have nY : Below wr.heap.size wr w2 := ((Below.refl _ _).alloc (Nat.le_refl _) _).trans (hb2.mono (by simp))
    have CV := HL.out.2.2.1.below nY
    obtain ⟨q0, q1, q2, q3, q4⟩ := zF eU
    have Ww := CV.1.lt
    have hs2 := nY.size
    have hbz : wr.heap.size < w2.heap.size := (Array.getElem?_eq_some_iff.1 eU).1
    have HC := Lib.hid CV
    have Sw := Lib.hid eU
    clear hb2 hcon nY CV c0' c1' Kz NP NQ eU
    rcases zK.parts with ⟨e1, e2, e3, e4, e5⟩ | ⟨e1, e2, e3, e4⟩
    ·have hkey := tC (k := x.key) (by unfold maxLen; omega)
     unfold xx at hkey
     have HK := Lib.hid (And.intro hkey (And.intro e2 (And.intro e3 e1)))
     rw [e1] at q1
     clear hkey e1 e2 e3 q3 q4
     cases hw : x.wr with
     | true =>
      rw [hw] at q0
      have HW := Lib.hid hw
      clear hw
      go_wp2_with (at_mapUpdate; go_loud (refine wpList_mapUpdate_own _ rfl _ _ _ 171 rfl 176 3 CA Tryz.underlying171 _ (w.heap.size + 1) k D rfl HC.out.1 (by unfold maxLen; omega) _ _ _ rfl rfl HK.out.1 _ [] (plainElem_int Tryz.underlying3 (by decide)) ?_); intro w3 cX aX)
      go_roundw
      case rel =>
       refine ⟨rfl, k + 1, by omega, by go_num, lZ HL.out.1 HL.out.2.2.2.2 zK, _, rs, ?_, ((HC.out.map aX cX).lists (fun j hj => ?_))⟩
       ·rw [cQ HL.out.2.2.2.2]
        refine HL.out.2.1.put HC.out.1.isMap (by decide) ?_ (fun k' hk' => ?_)
        ·rw [p9 HK.out.2.2.2 HK.out.2.1 HK.out.2.2.1, if_pos rfl, if_pos HW.out]
        ·rw [p9 HK.out.2.2.2 HK.out.2.1 HK.out.2.2.1, if_neg hk']
       ·rw [cQ HL.out.2.2.2.2]
        exact tN HK.out.2.2.2 j hj
      case measure => simp [intOf]; omega
     | false =>
      rw [hw] at q0
      have HW := Lib.hid hw
      clear hw
      obtain ⟨r, hlk, hat, hwr⟩ := HC.out.1.drew.lookup_int CA Tryz.underlying171 Tryz.underlying3 (Tryz.Jm _) HK.out.1
      have hrl : r = dN (l.take k) (-1, x.key, 0) := by
       have h := (HL.out.2.1 x.key).1
       rw [hat] at h
       simpa using h
      have Vl := gg (l.take k) (-1, x.key, 0)
      rw [<- hrl] at Vl
      have HR := Lib.hid hrl
      clear hat hrl hwr
      go_upto_region 13 with fail
      go_still_tail 10, (by kernel_rfl)
      change wpList _ _ _ _ _ w2.drew
      generalize hmx : (max r 1 : Int) = mx
      have hwf : (Lit.int .i64 mx).wf = true := by
       have : mx = 1 \/ mx = 2 := by omega
       rcases this with rfl | rfl <;> decide
      have HM := Lib.hid hmx
      clear hmx hlk
      go_wp2_with (at_mapUpdate; go_loud (refine wpList_mapUpdate_own _ rfl _ _ _ 171 rfl 176 3 CA Tryz.underlying171 _ (w.heap.size + 1) k D rfl HC.out.1.drew (by unfold maxLen; omega) _ _ _ rfl rfl HK.out.1 _ [] (plainElem_int Tryz.underlying3 hwf) ?_); intro w3 cX aX)
      go_roundw
      case rel =>
       have kX : mx ≠ 0 := by have := HM.out; omega
       have hgrow : w2.grownBy w3 (some (w.heap.size + 1)) := ⟨aX.os, aX.tape, aX.output, aX.size, aX.block⟩
       refine ⟨rfl, k + 1, by omega, by go_num, lZ HL.out.1 HL.out.2.2.2.2 zK, _, rs, ?_, ((HC.out.map hgrow cX).lists (fun j hj => ?_))⟩
       ·rw [cQ HL.out.2.2.2.2]
        refine HL.out.2.1.put HC.out.1.isMap kX ?_ (fun k' hk' => ?_)
        ·rw [p9 HK.out.2.2.2 HK.out.2.1 HK.out.2.2.1, if_pos rfl, if_neg (by rw [HW.out]; decide), <- HR.out]
         exact HM.out
        ·rw [p9 HK.out.2.2.2 HK.out.2.1 HK.out.2.2.1, if_neg hk']
       ·rw [cQ HL.out.2.2.2.2]
        exact tN HK.out.2.2.2 j hj
      case measure => simp [intOf]; omega
    ·obtain ⟨j, hj⟩ : ∃ j : Nat, x.aG = (j : Int) := ⟨x.aG.toNat, by omega⟩
     have Gq : j < 4 := by omega
     have Wx : (0 : Int) <= (j : Int) := by omega
     have Wy : (j : Int) < 4 := by omega
     rw [hj] at q1
     have HJ := Lib.hid (And.intro hj (And.intro e1 e3))
     clear hj e1 e2 e3 q2
     cases hw : x.wr with
     | true =>
      rw [hw] at q0
      have NN : 4 + j < 8 := by omega
      obtain ⟨a0, a1⟩ := jK HC.out.2.2.2.1 j Gq
      have hown := HC.out.2.2.2.2.1.1 (4 + j) NN
      obtain ⟨A', c', hv⟩ := ar hown
      have hll : (lists (l.take k) (4 + j)).length <= 1000 := by
       have := oK (l.take k) (4 + j)
       simp at this
       omega
      simp only [hv] at a0
      obtain ⟨nl, hnl⟩ : ∃ nl, (lists (l.take k) (4 + j)).length = nl := ⟨_, rfl⟩
      rw [hnl] at a0 hll
      have hown2 := hown.alloc (.cells #[.int .i64 x.lo, .int .i64 x.hi] 178)
      rw [hv, hnl] at hown2
      have hnews := World.news_of_block (heap_alloc_new w2 (.cells #[.int .i64 x.lo, .int .i64 x.hi] 178))
      have Qz := (Array.getElem?_eq_some_iff.1 HC.out.2.2.1).1
      have Ss := (Array.getElem?_eq_some_iff.1 HL.out.2.2.1.2.2.2.1).1
      have qD : w.heap.size + 1 + 1 ≠ wr.heap.size := by omega
      have pM : w.heap.size + 1 + 1 + 1 ≠ wr.heap.size := by omega
      have hl4 := (Array.getElem?_eq_some_iff.1 HC.out.2.2.2.1).1
      have NR : ∀ g, Value.ownBlock (.slice A' nl c') = some g -> w.heap.size + 1 + 1 + 1 + 1 <= g /\ g < w2.heap.size := fun g hg => by
       rw [<- hnl, <- hv] at hg
       exact hown.lt g hg
      have dU : ∀ g, Value.ownBlock (.slice A' nl c') = some g -> g ≠ wr.heap.size := fun g hg e => by
       rw [<- hnl, <- hv] at hg
       subst e
       exact dH hown Sw.out (by decide) hg
      have HW := Lib.hid (And.intro hw (And.intro hv hnl))
      have HO := Lib.hid (And.intro hown2 (And.intro hnews (And.intro NR dU)))
      clear hw hv hnl hown hown2 hnews NR dU
      go_upto_region 15 with fail
      refine wp_region_held_drew (S := (fun w' => w'.cell? ⟨wr.heap.size, 1, none⟩ = some (.int .i64 (j : Int)) /\ w'.cell? ⟨wr.heap.size, 3, none⟩ = some (.int .i64 x.lo) /\ w'.cell? ⟨wr.heap.size, 4, none⟩ = some (.int .i64 x.hi))) (by kernel_rfl) ⟨q1, q3, q4⟩ (fun hHeld => ?_)
      refine aY (i := 0) (v := ?_) rfl (by kernel_rfl) (by kernel_rfl) (by kernel_rfl) (fun _ _ _ h => h) (by rfl) (fun w hSw => ?_) hHeld ?_
      rotate_left
      ·obtain ⟨s1, s3, s4⟩ := hSw; go_simp; try with_reducible rfl
      try simp only [av, ax, ay, az]
      refine aY (i := 1) (v := ?_) rfl (by kernel_rfl) (by kernel_rfl) (by kernel_rfl) (fun _ _ _ h => h) (by rfl) (fun w hSw => ?_) hHeld ?_
      rotate_left
      ·obtain ⟨s1, s3, s4⟩ := hSw; go_simp; try with_reducible rfl
      try simp only [av, ax, ay, az]
      refine aY (i := 2) (v := ?_) rfl (by kernel_rfl) (by kernel_rfl) (by kernel_rfl) (fun _ _ _ h => h) (by rfl) (fun w hSw => ?_) hHeld ?_
      rotate_left
      ·obtain ⟨s1, s3, s4⟩ := hSw; go_simp; try with_reducible rfl
      try simp only [av, ax, ay, az]
      refine aY (i := 3) (v := ?_) rfl (by kernel_rfl) (by kernel_rfl) (by kernel_rfl) (fun _ _ _ h => h) (by rfl) (fun w hSw => ?_) hHeld ?_
      rotate_left
      ·obtain ⟨s1, s3, s4⟩ := hSw; go_simp; try with_reducible rfl
      try simp only [av, ax, ay, az]
      refine aY (i := 4) (v := ?_) rfl (by kernel_rfl) (by kernel_rfl) (by kernel_rfl) (fun _ _ _ h => h) (by rfl) (fun w hSw => ?_) hHeld ?_
      rotate_left
      ·obtain ⟨s1, s3, s4⟩ := hSw; go_simp; try with_reducible rfl
      try simp only [av, ax, ay, az]
      refine aY (i := 6) (v := ?_) rfl (by kernel_rfl) (by kernel_rfl) (by kernel_rfl) (fun _ _ _ h => h) (by rfl) (fun w hSw => ?_) hHeld ?_
      rotate_left
      ·obtain ⟨s1, s3, s4⟩ := hSw; go_simp; try with_reducible rfl
      try simp only [av, ax, ay, az]
      refine aY (i := 7) (v := ?_) rfl (by kernel_rfl) (by kernel_rfl) (by kernel_rfl) (fun _ _ _ h => h) (by rfl) (fun w hSw => ?_) hHeld ?_
      rotate_left
      ·obtain ⟨s1, s3, s4⟩ := hSw; go_simp; try with_reducible rfl
      try simp only [av, ax, ay, az]
      refine aY (i := 8) (v := ?_) rfl (by kernel_rfl) (by kernel_rfl) (by kernel_rfl) (fun _ _ _ h => h) (by rfl) (fun w hSw => ?_) hHeld ?_
      rotate_left
      ·obtain ⟨s1, s3, s4⟩ := hSw; go_simp; try with_reducible rfl
      try simp only [av, ax, ay, az]
      refine aY (i := 9) (v := ?_) rfl (by kernel_rfl) (by kernel_rfl) (by kernel_rfl) (fun _ _ _ h => h) (by rfl) (fun w hSw => ?_) hHeld ?_
      rotate_left
      ·obtain ⟨s1, s3, s4⟩ := hSw; go_simp; try with_reducible rfl
      try simp only [av, ax, ay, az]
      refine aY (i := 10) (v := ?_) rfl (by kernel_rfl) (by kernel_rfl) (by kernel_rfl) (fun _ _ _ h => h) (by rfl) (fun w hSw => ?_) hHeld ?_
      rotate_left
      ·obtain ⟨s1, s3, s4⟩ := hSw; go_simp; try with_reducible rfl
      try simp only [av, ax, ay, az]
      refine wpAnyH_ready (rs := [5, 11]) (by kernel_rfl) (by simp) ?_
      refine cA (i := 5) rfl (fun K hK => ?_) (cA (i := 11) rfl (fun K hK => ?_) AllReadyH.nil)
      ·go_simp
       refine hK.out _ _ hHeld (fun hHeld => ?_)
       clear hK K
       try simp only [av, ax, ay, az]
       refine wpAnyH_ready (rs := [11]) (by kernel_rfl) (by simp) (cA (i := 11) rfl (fun K hK => ?_) AllReadyH.nil)
       go_simp
       refine hK.out _ _ (by obtain ⟨s1, s3, s4⟩ := hHeld; refine ⟨?_, ?_, ?_⟩ <;> simp [*, World.cell?_alloc_some]) (fun hHeld => ?_)
       clear hK K
       try simp only [av, ax, ay, az]
       refine wpAnyH_ready (rs := [12]) (by kernel_rfl) (by simp) (cA (i := 12) rfl (fun K hK => ?_) AllReadyH.nil)
       (refine step_append_lies _ (by rfl) _ _ 172 (by rfl) (w.heap.size + 1 + 1 + 1 + 1) 178 i0 _ 2 16 Tryz.underlying172 sk.out hz0 hz1 hz2 (by rfl) (by decide) (.slice A' nl c') nl _ (by rfl) HO.out.1 ⟨w2.heap.size, 0, none⟩ 1 1 [.int .i64 x.lo, .int .i64 x.hi] (by rfl) (by rfl) HO.out.2.1 (by simp [Value.oneCell']) (by decide) (by unfold maxLen; omega) (by omega) (by simp; omega) (w2.heap.size + 1) (by simp) ?_)
       intro g3 zI w3 cX aX kq KA
       obtain ⟨b0, b1⟩ := iC (o := .cells #[.int .i64 x.lo, .int .i64 x.hi] 178) (w2 := w2) aX rfl a0 a1 (fun e => by have := (HO.out.2.2.1 _ e.symm).1; omega)
       refine hK.out _ _ ⟨(aX.cell_far _ (by simp; omega) (fun e => (HO.out.2.2.2 _ e.symm) rfl)).trans hHeld.1, (aX.cell_far _ (by simp; omega) (fun e => (HO.out.2.2.2 _ e.symm) rfl)).trans hHeld.2.1, (aX.cell_far _ (by simp; omega) (fun e => (HO.out.2.2.2 _ e.symm) rfl)).trans hHeld.2.2⟩ (fun hHeld => ?_)
       clear hK K
       try simp only [av, ax, ay, az]
       refine aY (i := 13) (v := ?_) rfl (by kernel_rfl) (by kernel_rfl) (by kernel_rfl) (fun _ _ _ h => h) (by rfl) (fun w hSw => ?_) hHeld ?_
       rotate_left
       ·obtain ⟨s1, s3, s4⟩ := hSw; go_simp; try with_reducible rfl
       try simp only [av, ax, ay, az]
       refine wpAnyH_ready (rs := [14]) (by kernel_rfl) (by simp) (cA (i := 14) rfl (fun K hK => ?_) AllReadyH.nil)
       go_simp
       refine hK.out _ _ (by obtain ⟨s1, s3, s4⟩ := hHeld; refine ⟨?_, ?_, ?_⟩ <;> simp [*, World.cell?_setCell_far]) (fun hHeld => ?_)
       clear hK K
       try simp only [av, ax, ay, az]
       refine wpAnyH_done (by kernel_rfl) ?_ _
       have HG := Lib.hid (And.intro cX (And.intro aX kq))
       clear hHeld cX aX kq b0 b1 a0 a1
       go_wp2_with fail
       go_roundw
       case rel => exact ⟨rfl, k + 1, by omega, by go_num, lZ HL.out.1 HL.out.2.2.2.2 zK, l8 HC.out HL.out.2.2.2.2 HL.out.2.1 HJ.out.1 Gq (by rw [HW.out.1]; rfl) HW.out.2.1 HW.out.2.2 HG.out.1 HG.out.2.1 HG.out.2.2 (.inr ⟨by omega, rfl, rfl⟩)⟩
       case measure => simp [intOf]; omega
      ·go_simp
       refine hK.out _ _ (by obtain ⟨s1, s3, s4⟩ := hHeld; refine ⟨?_, ?_, ?_⟩ <;> simp [*, World.cell?_alloc_some]) (fun hHeld => ?_)
       clear hK K
       try simp only [av, ax, ay, az]
       refine wpAnyH_ready (rs := [5]) (by kernel_rfl) (by simp) (cA (i := 5) rfl (fun K hK => ?_) AllReadyH.nil)
       go_simp
       refine hK.out _ _ hHeld (fun hHeld => ?_)
       clear hK K
       try simp only [av, ax, ay, az]
       refine wpAnyH_ready (rs := [12]) (by kernel_rfl) (by simp) (cA (i := 12) rfl (fun K hK => ?_) AllReadyH.nil)
       (refine step_append_lies _ (by rfl) _ _ 172 (by rfl) (w.heap.size + 1 + 1 + 1 + 1) 178 i0 _ 2 16 Tryz.underlying172 sk.out hz0 hz1 hz2 (by rfl) (by decide) (.slice A' nl c') nl _ (by rfl) HO.out.1 ⟨w2.heap.size, 0, none⟩ 1 1 [.int .i64 x.lo, .int .i64 x.hi] (by rfl) (by rfl) HO.out.2.1 (by simp [Value.oneCell']) (by decide) (by unfold maxLen; omega) (by omega) (by simp; omega) (w2.heap.size + 1) (by simp) ?_)
       intro g3 zI w3 cX aX kq KA
       obtain ⟨b0, b1⟩ := iC (o := .cells #[.int .i64 x.lo, .int .i64 x.hi] 178) (w2 := w2) aX rfl a0 a1 (fun e => by have := (HO.out.2.2.1 _ e.symm).1; omega)
       refine hK.out _ _ ⟨(aX.cell_far _ (by simp; omega) (fun e => (HO.out.2.2.2 _ e.symm) rfl)).trans hHeld.1, (aX.cell_far _ (by simp; omega) (fun e => (HO.out.2.2.2 _ e.symm) rfl)).trans hHeld.2.1, (aX.cell_far _ (by simp; omega) (fun e => (HO.out.2.2.2 _ e.symm) rfl)).trans hHeld.2.2⟩ (fun hHeld => ?_)
       clear hK K
       try simp only [av, ax, ay, az]
       refine aY (i := 13) (v := ?_) rfl (by kernel_rfl) (by kernel_rfl) (by kernel_rfl) (fun _ _ _ h => h) (by rfl) (fun w hSw => ?_) hHeld ?_
       rotate_left
       ·obtain ⟨s1, s3, s4⟩ := hSw; go_simp; try with_reducible rfl
       try simp only [av, ax, ay, az]
       refine wpAnyH_ready (rs := [14]) (by kernel_rfl) (by simp) (cA (i := 14) rfl (fun K hK => ?_) AllReadyH.nil)
       go_simp
       refine hK.out _ _ (by obtain ⟨s1, s3, s4⟩ := hHeld; refine ⟨?_, ?_, ?_⟩ <;> simp [*, World.cell?_setCell_far]) (fun hHeld => ?_)
       clear hK K
       try simp only [av, ax, ay, az]
       refine wpAnyH_done (by kernel_rfl) ?_ _
       have HG := Lib.hid (And.intro cX (And.intro aX kq))
       clear hHeld cX aX kq b0 b1 a0 a1
       go_wp2_with fail
       go_roundw
       case rel => exact ⟨rfl, k + 1, by omega, by go_num, lZ HL.out.1 HL.out.2.2.2.2 zK, l8 HC.out HL.out.2.2.2.2 HL.out.2.1 HJ.out.1 Gq (by rw [HW.out.1]; rfl) HW.out.2.1 HW.out.2.2 HG.out.1 HG.out.2.1 HG.out.2.2 (.inr ⟨by omega, rfl, rfl⟩)⟩
       case measure => simp [intOf]; omega
     | false =>
      rw [hw] at q0
      have NN : j < 8 := by omega
      obtain ⟨a0, a1⟩ := jK HC.out.2.2.1 j Gq
      have hown := HC.out.2.2.2.2.1.1 (j) NN
      obtain ⟨A', c', hv⟩ := ar hown
      have hll : (lists (l.take k) (j)).length <= 1000 := by
       have := oK (l.take k) (j)
       simp at this
       omega
      simp only [hv] at a0
      obtain ⟨nl, hnl⟩ : ∃ nl, (lists (l.take k) (j)).length = nl := ⟨_, rfl⟩
      rw [hnl] at a0 hll
      have hown2 := hown.alloc (.cells #[.int .i64 x.lo, .int .i64 x.hi] 178)
      rw [hv, hnl] at hown2
      have hnews := World.news_of_block (heap_alloc_new w2 (.cells #[.int .i64 x.lo, .int .i64 x.hi] 178))
      have Qz := (Array.getElem?_eq_some_iff.1 HC.out.2.2.1).1
      have Ss := (Array.getElem?_eq_some_iff.1 HL.out.2.2.1.2.2.2.1).1
      have qD : w.heap.size + 1 + 1 ≠ wr.heap.size := by omega
      have pM : w.heap.size + 1 + 1 + 1 ≠ wr.heap.size := by omega
      have hl4 := (Array.getElem?_eq_some_iff.1 HC.out.2.2.2.1).1
      have NR : ∀ g, Value.ownBlock (.slice A' nl c') = some g -> w.heap.size + 1 + 1 + 1 + 1 <= g /\ g < w2.heap.size := fun g hg => by
       rw [<- hnl, <- hv] at hg
       exact hown.lt g hg
      have dU : ∀ g, Value.ownBlock (.slice A' nl c') = some g -> g ≠ wr.heap.size := fun g hg e => by
       rw [<- hnl, <- hv] at hg
       subst e
       exact dH hown Sw.out (by decide) hg
      have HW := Lib.hid (And.intro hw (And.intro hv hnl))
      have HO := Lib.hid (And.intro hown2 (And.intro hnews (And.intro NR dU)))
      clear hw hv hnl hown hown2 hnews NR dU
      go_upto_region 9 with fail
      refine wp_region_held_drew (S := (fun w' => w'.cell? ⟨wr.heap.size, 1, none⟩ = some (.int .i64 (j : Int)) /\ w'.cell? ⟨wr.heap.size, 3, none⟩ = some (.int .i64 x.lo) /\ w'.cell? ⟨wr.heap.size, 4, none⟩ = some (.int .i64 x.hi))) (by kernel_rfl) ⟨q1, q3, q4⟩ (fun hHeld => ?_)
      refine aY (i := 0) (v := ?_) rfl (by kernel_rfl) (by kernel_rfl) (by kernel_rfl) (fun _ _ _ h => h) (by rfl) (fun w hSw => ?_) hHeld ?_
      rotate_left
      ·obtain ⟨s1, s3, s4⟩ := hSw; go_simp; try with_reducible rfl
      try simp only [av, ax, ay, az]
      refine aY (i := 1) (v := ?_) rfl (by kernel_rfl) (by kernel_rfl) (by kernel_rfl) (fun _ _ _ h => h) (by rfl) (fun w hSw => ?_) hHeld ?_
      rotate_left
      ·obtain ⟨s1, s3, s4⟩ := hSw; go_simp; try with_reducible rfl
      try simp only [av, ax, ay, az]
      refine aY (i := 2) (v := ?_) rfl (by kernel_rfl) (by kernel_rfl) (by kernel_rfl) (fun _ _ _ h => h) (by rfl) (fun w hSw => ?_) hHeld ?_
      rotate_left
      ·obtain ⟨s1, s3, s4⟩ := hSw; go_simp; try with_reducible rfl
      try simp only [av, ax, ay, az]
      refine aY (i := 3) (v := ?_) rfl (by kernel_rfl) (by kernel_rfl) (by kernel_rfl) (fun _ _ _ h => h) (by rfl) (fun w hSw => ?_) hHeld ?_
      rotate_left
      ·obtain ⟨s1, s3, s4⟩ := hSw; go_simp; try with_reducible rfl
      try simp only [av, ax, ay, az]
      refine aY (i := 4) (v := ?_) rfl (by kernel_rfl) (by kernel_rfl) (by kernel_rfl) (fun _ _ _ h => h) (by rfl) (fun w hSw => ?_) hHeld ?_
      rotate_left
      ·obtain ⟨s1, s3, s4⟩ := hSw; go_simp; try with_reducible rfl
      try simp only [av, ax, ay, az]
      refine aY (i := 6) (v := ?_) rfl (by kernel_rfl) (by kernel_rfl) (by kernel_rfl) (fun _ _ _ h => h) (by rfl) (fun w hSw => ?_) hHeld ?_
      rotate_left
      ·obtain ⟨s1, s3, s4⟩ := hSw; go_simp; try with_reducible rfl
      try simp only [av, ax, ay, az]
      refine aY (i := 7) (v := ?_) rfl (by kernel_rfl) (by kernel_rfl) (by kernel_rfl) (fun _ _ _ h => h) (by rfl) (fun w hSw => ?_) hHeld ?_
      rotate_left
      ·obtain ⟨s1, s3, s4⟩ := hSw; go_simp; try with_reducible rfl
      try simp only [av, ax, ay, az]
      refine aY (i := 8) (v := ?_) rfl (by kernel_rfl) (by kernel_rfl) (by kernel_rfl) (fun _ _ _ h => h) (by rfl) (fun w hSw => ?_) hHeld ?_
      rotate_left
      ·obtain ⟨s1, s3, s4⟩ := hSw; go_simp; try with_reducible rfl
      try simp only [av, ax, ay, az]
      refine aY (i := 9) (v := ?_) rfl (by kernel_rfl) (by kernel_rfl) (by kernel_rfl) (fun _ _ _ h => h) (by rfl) (fun w hSw => ?_) hHeld ?_
      rotate_left
      ·obtain ⟨s1, s3, s4⟩ := hSw; go_simp; try with_reducible rfl
      try simp only [av, ax, ay, az]
      refine aY (i := 10) (v := ?_) rfl (by kernel_rfl) (by kernel_rfl) (by kernel_rfl) (fun _ _ _ h => h) (by rfl) (fun w hSw => ?_) hHeld ?_
      rotate_left
      ·obtain ⟨s1, s3, s4⟩ := hSw; go_simp; try with_reducible rfl
      try simp only [av, ax, ay, az]
      refine wpAnyH_ready (rs := [5, 11]) (by kernel_rfl) (by simp) ?_
      refine cA (i := 5) rfl (fun K hK => ?_) (cA (i := 11) rfl (fun K hK => ?_) AllReadyH.nil)
      ·go_simp
       refine hK.out _ _ hHeld (fun hHeld => ?_)
       clear hK K
       try simp only [av, ax, ay, az]
       refine wpAnyH_ready (rs := [11]) (by kernel_rfl) (by simp) (cA (i := 11) rfl (fun K hK => ?_) AllReadyH.nil)
       go_simp
       refine hK.out _ _ (by obtain ⟨s1, s3, s4⟩ := hHeld; refine ⟨?_, ?_, ?_⟩ <;> simp [*, World.cell?_alloc_some]) (fun hHeld => ?_)
       clear hK K
       try simp only [av, ax, ay, az]
       refine wpAnyH_ready (rs := [12]) (by kernel_rfl) (by simp) (cA (i := 12) rfl (fun K hK => ?_) AllReadyH.nil)
       (refine step_append_lies _ (by rfl) _ _ 172 (by rfl) (w.heap.size + 1 + 1 + 1 + 1) 178 i0 _ 2 16 Tryz.underlying172 sk.out hz0 hz1 hz2 (by rfl) (by decide) (.slice A' nl c') nl _ (by rfl) HO.out.1 ⟨w2.heap.size, 0, none⟩ 1 1 [.int .i64 x.lo, .int .i64 x.hi] (by rfl) (by rfl) HO.out.2.1 (by simp [Value.oneCell']) (by decide) (by unfold maxLen; omega) (by omega) (by simp; omega) (w2.heap.size + 1) (by simp) ?_)
       intro g3 zI w3 cX aX kq KA
       obtain ⟨b0, b1⟩ := iC (o := .cells #[.int .i64 x.lo, .int .i64 x.hi] 178) (w2 := w2) aX rfl a0 a1 (fun e => by have := (HO.out.2.2.1 _ e.symm).1; omega)
       refine hK.out _ _ ⟨(aX.cell_far _ (by simp; omega) (fun e => (HO.out.2.2.2 _ e.symm) rfl)).trans hHeld.1, (aX.cell_far _ (by simp; omega) (fun e => (HO.out.2.2.2 _ e.symm) rfl)).trans hHeld.2.1, (aX.cell_far _ (by simp; omega) (fun e => (HO.out.2.2.2 _ e.symm) rfl)).trans hHeld.2.2⟩ (fun hHeld => ?_)
       clear hK K
       try simp only [av, ax, ay, az]
       refine aY (i := 13) (v := ?_) rfl (by kernel_rfl) (by kernel_rfl) (by kernel_rfl) (fun _ _ _ h => h) (by rfl) (fun w hSw => ?_) hHeld ?_
       rotate_left
       ·obtain ⟨s1, s3, s4⟩ := hSw; go_simp; try with_reducible rfl
       try simp only [av, ax, ay, az]
       refine wpAnyH_ready (rs := [14]) (by kernel_rfl) (by simp) (cA (i := 14) rfl (fun K hK => ?_) AllReadyH.nil)
       go_simp
       refine hK.out _ _ (by obtain ⟨s1, s3, s4⟩ := hHeld; refine ⟨?_, ?_, ?_⟩ <;> simp [*, World.cell?_setCell_far]) (fun hHeld => ?_)
       clear hK K
       try simp only [av, ax, ay, az]
       refine wpAnyH_done (by kernel_rfl) ?_ _
       have HG := Lib.hid (And.intro cX (And.intro aX kq))
       clear hHeld cX aX kq b0 b1 a0 a1
       go_wp2_with fail
       go_roundw
       case rel => exact ⟨rfl, k + 1, by omega, by go_num, lZ HL.out.1 HL.out.2.2.2.2 zK, l8 HC.out HL.out.2.2.2.2 HL.out.2.1 HJ.out.1 Gq (by rw [HW.out.1]; rfl) HW.out.2.1 HW.out.2.2 HG.out.1 HG.out.2.1 HG.out.2.2 (.inl ⟨Gq, rfl, rfl⟩)⟩
       case measure => simp [intOf]; omega
      ·go_simp
       refine hK.out _ _ (by obtain ⟨s1, s3, s4⟩ := hHeld; refine ⟨?_, ?_, ?_⟩ <;> simp [*, World.cell?_alloc_some]) (fun hHeld => ?_)
       clear hK K
       try simp only [av, ax, ay, az]
       refine wpAnyH_ready (rs := [5]) (by kernel_rfl) (by simp) (cA (i := 5) rfl (fun K hK => ?_) AllReadyH.nil)
       go_simp
       refine hK.out _ _ hHeld (fun hHeld => ?_)
       clear hK K
       try simp only [av, ax, ay, az]
       refine wpAnyH_ready (rs := [12]) (by kernel_rfl) (by simp) (cA (i := 12) rfl (fun K hK => ?_) AllReadyH.nil)
       (refine step_append_lies _ (by rfl) _ _ 172 (by rfl) (w.heap.size + 1 + 1 + 1 + 1) 178 i0 _ 2 16 Tryz.underlying172 sk.out hz0 hz1 hz2 (by rfl) (by decide) (.slice A' nl c') nl _ (by rfl) HO.out.1 ⟨w2.heap.size, 0, none⟩ 1 1 [.int .i64 x.lo, .int .i64 x.hi] (by rfl) (by rfl) HO.out.2.1 (by simp [Value.oneCell']) (by decide) (by unfold maxLen; omega) (by omega) (by simp; omega) (w2.heap.size + 1) (by simp) ?_)
       intro g3 zI w3 cX aX kq KA
       obtain ⟨b0, b1⟩ := iC (o := .cells #[.int .i64 x.lo, .int .i64 x.hi] 178) (w2 := w2) aX rfl a0 a1 (fun e => by have := (HO.out.2.2.1 _ e.symm).1; omega)
       refine hK.out _ _ ⟨(aX.cell_far _ (by simp; omega) (fun e => (HO.out.2.2.2 _ e.symm) rfl)).trans hHeld.1, (aX.cell_far _ (by simp; omega) (fun e => (HO.out.2.2.2 _ e.symm) rfl)).trans hHeld.2.1, (aX.cell_far _ (by simp; omega) (fun e => (HO.out.2.2.2 _ e.symm) rfl)).trans hHeld.2.2⟩ (fun hHeld => ?_)
       clear hK K
       try simp only [av, ax, ay, az]
       refine aY (i := 13) (v := ?_) rfl (by kernel_rfl) (by kernel_rfl) (by kernel_rfl) (fun _ _ _ h => h) (by rfl) (fun w hSw => ?_) hHeld ?_
       rotate_left
       ·obtain ⟨s1, s3, s4⟩ := hSw; go_simp; try with_reducible rfl
       try simp only [av, ax, ay, az]
       refine wpAnyH_ready (rs := [14]) (by kernel_rfl) (by simp) (cA (i := 14) rfl (fun K hK => ?_) AllReadyH.nil)
       go_simp
       refine hK.out _ _ (by obtain ⟨s1, s3, s4⟩ := hHeld; refine ⟨?_, ?_, ?_⟩ <;> simp [*, World.cell?_setCell_far]) (fun hHeld => ?_)
       clear hK K
       try simp only [av, ax, ay, az]
       refine wpAnyH_done (by kernel_rfl) ?_ _
       have HG := Lib.hid (And.intro cX (And.intro aX kq))
       clear hHeld cX aX kq b0 b1 a0 a1
       go_wp2_with fail
       go_roundw
       case rel => exact ⟨rfl, k + 1, by omega, by go_num, lZ HL.out.1 HL.out.2.2.2.2 zK, l8 HC.out HL.out.2.2.2.2 HL.out.2.1 HJ.out.1 Gq (by rw [HW.out.1]; rfl) HW.out.2.1 HW.out.2.2 HG.out.1 HG.out.2.1 HG.out.2.2 (.inl ⟨Gq, rfl, rfl⟩)⟩
       case measure => simp [intOf]; omega
   ·obtain ⟨er, her⟩ : ∃ er, Bk x = er := ⟨_, rfl⟩
    rw [her] at hcon he
    have Wz : (er == 0) = false := by simpa using he
    have WA : (er != 0) = true := by simpa using he
    have HE := Lib.hid (And.intro her he)
    clear her he
    go_wp2_with fail
    refine (hcon _).mono ?_
    rintro e w2 ⟨rfl, hb2⟩
    have CV := HL.out.2.2.1.below (((Below.refl _ _).alloc (Nat.le_refl _) _).trans (hb2.mono (by simp)))
    have hcR := bz CV.2.1
    have Vm := ez CV.2.1
    have HC := Lib.hid CV
    clear hb2 hcon CV
    go_wp2_with fail
    rw [Exit.noGoto_ret]
    have hh := heap_setCell_same w2 w.heap.size 0 _ _ (.slice none 0 0) HC.out.2.1
    refine bodyPost_ret (aA rfl _ _ _ _ _ _ _ rfl hh Tryz.underlying87 rfl (by kernel_rfl)) rfl ⟨HC.out.2.2.2.2.2.setCell (Nat.le_refl _) _, .inl ?_⟩
    have e1 := Fp HL.out.1 HL.out.2.2.2.2 (by rw [HE.out.1]; exact HE.out.2)
    rw [HE.out.1] at e1
    rw [e1]
    exact ⟨HE.out.2, rfl⟩
  ·have hkl : k = l.length := by omega
   subst hkl
   rw [List.take_length] at hok hD hC
   have hsz : Maps.size D <= 1000 := Nat.le_trans hC.1.size_le hl
   have HC := Lib.hid (And.intro hok (And.intro hD (And.intro hC hsz)))
   have Ib := Lib.hid hi2
   clear hok hD hC hsz hi2
   go_wp2_with fail
   refine (CR wr _ _ D _ HC.out.2.2.1.1 HC.out.2.1 HC.out.2.2.2).mono ?_
   rintro e w2 ⟨ks, hkl, hnd, hks, QG, c10, rfl, hrow, hb2⟩
   obtain ⟨rows, hrows⟩ : ∃ rows, (ks.mergeSort fun x y => decide (x <= y)).map (tM fun key => dN l (-1, key, 0)) = rows := ⟨_, rfl⟩
   have hrl : rows.length = ks.length := by rw [<- hrows]; simp
   rw [hrows] at hrow
   have hinv : Inv w rs (lists l) rows (.slice QG rows.length c10) (fun _ => True) w2 := by
    obtain ⟨h1, h2, h3, h4, h5, h6⟩ := HC.out.2.2.1.below hb2
    exact ⟨h2, h3, h4, fun j hj _ => h5.1 j hj, dO hrow (fun g hg => by have := (hrow.lt g hg).1; have := HC.out.2.2.1.2.2.2.2.2.size; omega), h6⟩
   have Jr : NK rs := HC.out.2.2.1.2.2.2.2.1.2
   rw [hrows]
   have HK := Lib.hid (And.intro hnd (And.intro hks (And.intro hrows (And.intro hrl (And.intro hinv (And.intro Jr hkl))))))
   clear hnd hks hrows hrl hinv Jr hrow hb2 hkl
   go_wp2_with fail
   go_loopw [10, 88] (fun v i wr => ∃ k : Nat, k <= 4 /\ i = .int .i64 (k : Int) /\ NM w l rs rows k v wr) (fun _ i _ => 4 - (intOf i).toNat)
   case atStart =>
    obtain ⟨_, _, _, hrl, hinv, _, hkl⟩ := HK.out
    exact ⟨0, by omega, rfl, fun _ => [], fun _ => [], fun i hi => absurd hi (by omega), by simp [gX]; omega, by simpa [gX] using hinv.mono (fun _ _ => trivial)⟩
   case round =>
    obtain ⟨k, hk, rfl, W, R, LP, hlen, hinv⟩ := hrel
    rename World => w3
    by_cases hlt : k < 4
    ·obtain ⟨a0, _⟩ := jK hinv.2.2.1 k hlt
     obtain ⟨a2, _⟩ := jK hinv.2.1 k hlt
     have dW : (0 : Int) <= (k : Int) := by omega
     have hk4 : (k : Int) < 4 := by omega
     have WB : w.heap.size + 1 + 1 + 1 < w3.heap.size := (Array.getElem?_eq_some_iff.1 hinv.2.2.1).1
     obtain ⟨vW, Pm⟩ : ∃ vW, rs (4 + k) = vW := ⟨_, rfl⟩
     simp only [Pm] at a0
     have Pn : (4 + k) % 4 = k := by omega
     have Fu := hinv.2.2.2.1 (4 + k) (by omega) (by omega)
     have Sy : lists l (4 + k) = bQ l (k : Int) true := by unfold lists; rw [if_neg (by omega)]; congr 1; omega
     have I5 : lists l k = bQ l (k : Int) false := by unfold lists; rw [if_pos hlt]
     have QH := fun j => oK l j
     have QI := fun j => CT hfit j
     obtain ⟨QG, c10, rfl⟩ := ar hinv.2.2.2.2.1
     have Js := tL w3 vW (lists l (4 + k)) (dO (by rw [<- Pm]; exact Fu) (fun _ _ => Nat.zero_le _)) (Nat.le_trans (QH _) hl) (QI _)
     have HI := Lib.hid (And.intro LP (And.intro hlen (And.intro hinv (And.intro Pm (And.intro Sy (And.intro I5 (And.intro QH (And.intro QI Fu))))))))
     clear LP hlen hinv Pm Sy I5 QH QI Fu Pn
     go_wp2_with fail
     refine Js.mono ?_
     rintro e w4 ⟨s, hs1, hs2, AW, cW, rfl, QJ, Gr⟩
     have Fv := HI.out.2.2.1.Fq HK.out.2.2.2.2.2.1 (i := 4 + k) (by omega) (by omega) (by rw [HI.out.2.2.2.1]; exact Gr)
     have hsl : s.length <= 1000 := by rw [hs1.length_eq]; exact Nat.le_trans (HI.out.2.2.2.2.2.2.1 _) hl
     have hjl : (bK s).length <= 1000 := Nat.le_trans (tQ s) hsl
     have Sz : fF (bK s) := tP (fun x hx => HI.out.2.2.2.2.2.2.2.1 _ x (hs1.mem_iff.1 hx))
     have NS : jE w4 (fun _ => True) (.slice AW (bK s).length cW) (bK s) := bE.bC QJ (jl _) (by decide) (fun _ _ => trivial)
     obtain ⟨out, hout⟩ : ∃ out, rows ++ gX W R k = out := ⟨_, rfl⟩
     rw [hout]
     rw [hout] at Fv
     have SA : out.length <= 1000 + k * 1002000 := by rw [<- hout]; exact HI.out.2.1
     have HJ := Lib.hid (And.intro hs1 (And.intro hs2 (And.intro QJ (And.intro Gr (And.intro Fv (And.intro Sz (And.intro NS hout)))))))
     clear hs1 hs2 QJ Gr Fv Sz NS hout Js
     go_wp2_with fail
     refine (qJ w4 (fun _ => True) _ true _ _ HJ.out.2.2.2.2.2.2.1 (by omega)).mono ?_
     rintro e w5 ⟨A5, c5, rfl, jd, fx⟩
     obtain ⟨C1, Po⟩ : ∃ C1, (bK s).map (oz (k : Int) true) = C1 := ⟨_, rfl⟩
     rw [Po] at jd ⊢
     have Vn : C1.length <= 1000 := by rw [<- Po]; simpa using hjl
     have NT : cd w5 (fun _ => True) (.slice A5 C1.length c5) C1 := bE.bC jd (bI _) (by decide) (fun _ _ => trivial)
     have Fw := HJ.out.2.2.2.2.1.below fx
     have SB := aC HJ.out.2.2.1 fx
     have hs5 := Fw.2.2.2.2.2.size
     have H5 := Lib.hid (And.intro Po (And.intro NT (And.intro Fw SB)))
     clear Po NT Fw SB jd fx
     go_wp2_with (at_builtin; go_loud (refine aH _ rfl _ _ 37 rfl w.heap.size 48 i2 _ 5 48 Tryz.underlying37 Ib.out hy0 hy1 hy2 rfl (by decide) (.slice QG out.length c10) out.length _ rfl H5.out.2.2.1.2.2.2.2.1 (fun _ => True) (.slice A5 C1.length c5) (C1.map Cl.cells) rfl H5.out.2.1 (bI _) (eQ _) (by simp; omega) (by simp; unfold maxLen; omega) hs5 ?_); intro v6 w6 ES Gs lD; have KB : w6.ownsRow w.heap.size 48 5 v6 (out ++ C1).length ((out ++ C1).map Cl.cells).flatten := (by simpa using ES); obtain ⟨x8, BI⟩ : ∃ x8, out ++ C1 = x8 := ⟨_, rfl⟩; rw [BI] at KB; have Fx := H5.out.2.2.1.append Gs KB; have SC := xW H5.out.2.2.2 H5.out.2.2.1.2.2.2.2.1 (by decide) Gs; obtain ⟨a6, _⟩ := jK Fx.2.1 k hlt; have Vo := Gs.size; have Vp : x8.length <= 2000 + k * 1002000 := (by rw [<- BI]; simp; omega); have Vq := Lib.hid BI; have H6 := Lib.hid (And.intro Fx SC); clear ES KB Fx SC Gs lD BI)
     have fA := H6.out.1.2.2.2.1 k (by omega) (by omega)
     obtain ⟨A6, c6, rfl⟩ := ar H6.out.1.2.2.2.2.1
     refine (tL w6 (rs k) (lists l k) (dO fA (fun _ _ => Nat.zero_le _)) (Nat.le_trans (HI.out.2.2.2.2.2.2.1 _) hl) (HI.out.2.2.2.2.2.2.2.1 _)).mono ?_
     rintro e w7 ⟨s', ht1, ht2, AR, cR, rfl, SD, QK⟩
     have Jt := H6.out.1.Fq HK.out.2.2.2.2.2.1 (i := k) (by omega) (by omega) QK
     have Vr : s'.length <= 1000 := by rw [ht1.length_eq]; exact Nat.le_trans (HI.out.2.2.2.2.2.2.1 _) hl
     have SE : (bK s').length <= 1000 := Nat.le_trans (tQ s') Vr
     have SF : fF (bK s') := tP (fun x hx => HI.out.2.2.2.2.2.2.2.1 _ x (ht1.mem_iff.1 hx))
     have NU : jE w7 (fun _ => True) (.slice AR (bK s').length cR) (bK s') := bE.bC SD (jl _) (by decide) (fun _ _ => trivial)
     have NV := HI.out.2.2.1.2.2.2.1 k (by omega) (by omega)
     have SG := aU H6.out.2 QK (fun g hg e => by have h1 := (H6.out.2.lt g hg).1; have h2 := (NV.lt g e).2; omega)
     have Ju : jE w7 (fun _ => True) (.slice AW (bK s).length cW) (bK s) := bE.bC SG (jl _) (by decide) (fun _ _ => trivial)
     have SH := nK (bK s') (bK s)
     have Vs : (bK s').length * ((bK s).length + 1) <= 1000 * 1001 := Nat.mul_le_mul SE (by omega)
     have H7 := Lib.hid (And.intro ht1 (And.intro ht2 (And.intro Jt (And.intro SF (And.intro NU Ju)))))
     clear ht1 ht2 Jt SF NU Ju SD QK fA NV SG
     go_wp2_with fail
     refine (zD w7 (fun _ => True) _ _ _ _ H7.out.2.2.2.2.1 H7.out.2.2.2.2.2 SE hjl H7.out.2.2.2.1 HJ.out.2.2.2.2.2.1).mono ?_
     rintro e w8 ⟨A8, c8, rfl, Ic, yU⟩
     have KC : jE w8 (fun _ => True) (.slice A8 (bp (bK s') (bK s)).length c8) (bp (bK s') (bK s)) := bE.bC Ic (jl _) (by decide) (fun _ _ => trivial)
     have Jv := H7.out.2.2.1.below yU
     obtain ⟨X, hX⟩ : ∃ X, bp (bK s') (bK s) = X := ⟨_, rfl⟩
     rw [hX] at KC SH ⊢
     have hxl : X.length <= 1001000 := by omega
     have H8 := Lib.hid (And.intro hX (And.intro KC Jv))
     clear hX KC Jv Ic yU SH
     go_wp2_with fail
     refine (qJ w8 (fun _ => True) _ false _ _ H8.out.2.1 (by omega)).mono ?_
     rintro e w9 ⟨A9, c9, rfl, Jw, ml⟩
     obtain ⟨C2, CV⟩ : ∃ C2, X.map (oz (k : Int) false) = C2 := ⟨_, rfl⟩
     rw [CV] at Jw ⊢
     have Vt : C2.length <= 1001000 := by rw [<- CV]; simpa using hxl
     have NW : cd w9 (fun _ => True) (.slice A9 C2.length c9) C2 := bE.bC Jw (bI _) (by decide) (fun _ _ => trivial)
     have Fy := H8.out.2.2.below ml
     have bM := Fy.2.2.2.2.2.size
     have H9 := Lib.hid (And.intro CV (And.intro NW (And.intro Fy Vq.out)))
     clear CV NW Fy Jw ml
     go_wp2_with (at_builtin; go_loud (refine aH _ rfl _ _ 37 rfl w.heap.size 48 i2 _ 5 48 Tryz.underlying37 Ib.out hy0 hy1 hy2 rfl (by decide) (.slice A6 x8.length c6) x8.length _ rfl H9.out.2.2.1.2.2.2.2.1 (fun _ => True) (.slice A9 C2.length c9) (C2.map Cl.cells) rfl H9.out.2.1 (bI _) (eQ _) (by simp; omega) (by simp; unfold maxLen; omega) bM ?_); intro vZ wZ Vu Vv Vw)
     go_roundw
     case rel =>
      have QL : wZ.ownsRow w.heap.size 48 5 vZ (x8 ++ C2).length ((x8 ++ C2).map Cl.cells).flatten := by simpa using Vu
      have NY := H9.out.2.2.1.append Vv QL
      refine ⟨k + 1, by omega, by go_num, nJ W k (bK s), nJ R k X, ?_, ?_, ?_⟩
      ·intro i hi
       by_cases e : i = k
       ·subst e
        rw [l7, l7, <- H8.out.1]
        exact xZ HC.out.1 (by rw [<- HI.out.2.2.2.2.1]; exact HJ.out.1) (by rw [<- HI.out.2.2.2.2.2.1]; exact H7.out.1) HJ.out.2.1 H7.out.2.1
       ·rw [kp e, kp e]
        exact HI.out.1 i (by omega)
      ·rw [tO, <- List.append_assoc, HJ.out.2.2.2.2.2.2.2, H5.out.1, H9.out.1]
       have := H9.out.2.2.2
       rw [<- List.append_assoc, this]
       simp; omega
      ·have e : rows ++ gX (nJ W k (bK s)) (nJ R k X) (k + 1) = x8 ++ C2 := by
        rw [tO, <- List.append_assoc, HJ.out.2.2.2.2.2.2.2, H5.out.1, H9.out.1, <- List.append_assoc, H9.out.2.2.2]
       rw [e]
       exact NY.mono (fun j hj => ⟨⟨by omega, by omega⟩, by omega⟩)
     case measure => simp [intOf]; omega
    ·obtain rfl : k = 4 := by omega
     have hform := tT HC.out.1 HK.out.1 HK.out.2.1 HK.out.2.2.1 LP
     obtain ⟨out, hout⟩ : ∃ out, rows ++ gX W R 4 = out := ⟨_, rfl⟩
     rw [hout] at hform hinv hlen
     obtain ⟨AZ, cZ, rfl⟩ := ar hinv.2.2.2.2.1
     have hcR := bz hinv.1
     have Vm := ez hinv.1
     have HF := Lib.hid (And.intro hform (And.intro hinv hout))
     clear hform hinv hout LP
     by_cases h64 : 64 < out.length
     ·go_wp2_with fail
      rw [Exit.noGoto_ret]
      have hh := heap_setCell_same w3 w.heap.size 0 _ _ (.slice none 0 0) HF.out.2.1.1
      exact bodyPost_ret (aA rfl _ _ _ _ _ _ _ rfl hh Tryz.underlying87 rfl (by kernel_rfl)) rfl ⟨HF.out.2.1.2.2.2.2.2.setCell (Nat.le_refl _) _, .inr ⟨rB HC.out.1, out, HF.out.1, .inl ⟨h64, rfl⟩⟩⟩
     ·go_wp2_with fail
      rw [Exit.noGoto_ret]
      have hh := heap_setCell_same w3 w.heap.size 0 _ _ (.slice AZ out.length cZ) HF.out.2.1.1
      refine bodyPost_ret (aA rfl _ _ _ _ _ _ _ rfl hh Tryz.underlying87 rfl (by kernel_rfl)) rfl ⟨HF.out.2.1.2.2.2.2.2.setCell (Nat.le_refl _) _, .inr ⟨rB HC.out.1, out, HF.out.1, .inr ⟨by omega, AZ, cZ, rfl, ?_⟩⟩⟩
      exact aU HF.out.2.1.2.2.2.2.1 (Only.aT w3 w.heap.size 0 _) (fun g hg e => by subst e; exact dH HF.out.2.1.2.2.2.2.1 HF.out.2.1.1 (by decide) hg)
end
end Go.Proofs.YtagemonojdgbdaaGreatDoor
