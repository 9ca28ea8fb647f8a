/- Procedures: what is wrong with ops: plain; no program in sight. -/
import Derived.WalkKit
namespace Go.Proofs.YtfaaigfgfljdkaaGreatDoor
set_option maxRecDepth 100000

/-- An op: what it does, and its four fields. -/
structure POp where
  d : Int
  a : Int
  b : Int
  c : Int
  n : Int
  deriving DecidableEq

namespace POp
/-- Does an op hold others? -/
def holds (o : POp) : Bool := o.d == 13 || o.d == 14
/-- The fields by their places. -/
def fld (o : POp) (i : Nat) : Int := if i = 0 then o.a else if i = 1 then o.b else if i = 2 then o.c else o.n
end POp
/-- Has an op the i-th field? -/
def hasF (d : Int) (i : Nat) : Bool :=
  if d = 1 then i == 0 || i == 2 else if d = 8 ∨ d = 11 then decide (i < 3) else if d = 10 then i == 1 else if d = 12 then true
  else if d = 13 then i == 0 || i == 3 else if d = 14 then decide (2 ≤ i) else if d = 15 then i == 0 else decide (i < 2)
def loF (d : Int) (i : Nat) : Int := if i = 2 ∧ d = 1 then -1099511627776 else 0
def hiF (d : Int) (i : Nat) : Int :=
  if i = 0 then (if d = 9 then 4 else 7) else if i = 1 then 7 else if i = 2 then (if d = 1 then 1099511627776 else if d = 14 then 16 else 3) else (if d = 12 then 1099511627776 else 64)
/-- Is an op one, without fields that it has not? -/
def formedB (o : POp) : Bool := decide (1 ≤ o.d ∧ o.d ≤ 15) && (List.range 4).all (fun i => hasF o.d i || o.fld i == 0)
/-- Are all its fields within their bounds? -/
def rangedB (o : POp) : Bool := (List.range 4).all (fun i => !hasF o.d i || (decide (loF o.d i ≤ o.fld i) && decide (o.fld i ≤ hiF o.d i)))

/-- Where what the op of a place holds ends. -/
def endOf (k : Nat) (o : POp) : Int := (k : Int) + 1 + o.n
/-- The ends of those ahead of a place that hold it, in order. -/
def opens (l : List POp) (i : Nat) : List Int := ((l.take i).zipIdx.filter (fun x => x.1.holds && decide ((i : Int) < endOf x.2 x.1))).map (fun x => endOf x.2 x.1)
def lastOf (len : Nat) (es : List Int) : Int := es.getLast?.getD (len : Int)
/-- The place is not too deep, and what it holds ends in time. -/
def placeB (l : List POp) (i : Nat) (o : POp) : Bool := decide ((opens l i).length ≤ 8) && (!o.holds || decide (endOf i o ≤ lastOf l.length (opens l i)))
def nestedTo (l : List POp) (k : Nat) : Bool := (List.range k).all (fun i => match l[i]? with | some o => placeB l i o | none => true)
def nestedB (l : List POp) : Bool := nestedTo l l.length
/-- What is wrong with ops. -/
def opsE (l : List POp) : Int :=
  if 64 < l.length then 23 else if l.all formedB = false then 11 else if l.all rangedB = false then 10 else if nestedB l = false then 11 else 0

/-- The stack while the places are gone through: what ends at a place or ahead of it goes. -/
def pops (i : Nat) : List Int → List Int
  | [] => []
  | e :: es => if e ≤ (i : Int) then pops i es else e :: es

theorem nestedTo_zero (l : List POp) : nestedTo l 0 = true := rfl
theorem nestedTo_succ {l : List POp} {k : Nat} {o : POp} (h : l[k]? = some o) : nestedTo l (k + 1) = (nestedTo l k && placeB l k o) := by
  unfold nestedTo
  rw [List.range_succ, List.all_append]
  simp [h]
theorem nestedTo_mono {l : List POp} {k m : Nat} (h : nestedTo l m = true) (hk : k ≤ m) : nestedTo l k = true := by
  unfold nestedTo at h ⊢
  rw [List.all_eq_true] at h ⊢
  intro i hi
  exact h i (List.mem_range.2 (by have := List.mem_range.1 hi; omega))
theorem opens_zero (l : List POp) : opens l 0 = [] := by simp [opens]
theorem opens_succ {l : List POp} {k : Nat} {o : POp} (h : l[k]? = some o) :
    opens l (k + 1) = (opens l k).filter (fun e => decide ((k : Int) + 1 < e)) ++ (if o.holds = true ∧ ((k : Int) + 1 < endOf k o) then [endOf k o] else []) := by
  unfold opens
  have hlt := (List.getElem?_eq_some_iff.1 h).1
  have h1 : l.take (k + 1) = l.take k ++ [o] := by rw [List.take_add_one, h]; rfl
  have hlk : (l.take k).length = k := by simp; omega
  rw [h1, List.zipIdx_append, List.filter_append, List.map_append, hlk]
  congr 1
  · rw [List.filter_map, List.filter_filter]
    congr 1
    apply List.filter_congr
    intro x _
    simp only [Function.comp]
    rw [Bool.eq_iff_iff]
    simp only [Bool.and_eq_true, decide_eq_true_eq]
    constructor
    · rintro ⟨h1, h2⟩
      refine ⟨by push_cast at h2; exact h2, h1, by push_cast at h2; omega⟩
    · rintro ⟨h1, h2, h3⟩
      exact ⟨h2, by push_cast; exact h1⟩
  · simp only [List.zipIdx_cons, List.zipIdx_nil, List.filter_cons, List.filter_nil, Nat.zero_add]
    push_cast
    by_cases hh : o.holds = true ∧ ((k : Int) + 1 < endOf k o)
    · simp [hh.1, hh.2]
    · rw [if_neg hh]
      split
      · rename_i h2
        simp at h2
        exact absurd h2 hh
      · rfl
/-- Of a row that falls what is above a place is its beginning. -/
theorem pops_eq (i : Nat) : ∀ {es : List Int}, es.Pairwise (fun a b => a ≤ b) → pops i es = es.filter (fun e => decide ((i : Int) < e))
  | [], _ => rfl
  | e :: es, h => by
    rw [List.pairwise_cons] at h
    rw [pops, List.filter_cons]
    by_cases he : e ≤ (i : Int)
    · rw [if_pos he, if_neg (by simp; omega)]
      exact pops_eq i h.2
    · rw [if_neg he, if_pos (by simp; omega)]
      congr 1
      symm
      rw [List.filter_eq_self]
      intro x hx
      have := h.1 x hx
      simp; omega
theorem filter_ge {es : List Int} {p : Int → Bool} (h : es.Pairwise (fun a b => a ≥ b)) : (es.filter p).Pairwise (fun a b => a ≥ b) := h.filter _
/-- The ends fall, and none is beyond the last place, as long as all is well. -/
theorem opens_ok {l : List POp} : ∀ k, k ≤ l.length → nestedTo l k = true → (opens l k).Pairwise (fun a b => a ≥ b) ∧ ∀ e ∈ opens l k, (k : Int) < e ∧ e ≤ (l.length : Int)
  | 0, _, _ => by simp [opens_zero]
  | k + 1, hk, h => by
    obtain ⟨o, ho⟩ : ∃ o, l[k]? = some o := ⟨_, List.getElem?_eq_getElem (by omega)⟩
    rw [nestedTo_succ ho, Bool.and_eq_true] at h
    obtain ⟨h1, h2⟩ := opens_ok k (by omega) h.1
    rw [opens_succ ho]
    have hp := h.2
    unfold placeB at hp
    rw [Bool.and_eq_true, Bool.or_eq_true] at hp
    have hend : o.holds = true → (∀ e ∈ opens l k, endOf k o ≤ e) ∧ endOf k o ≤ (l.length : Int) := by
      intro hh
      have h3 : endOf k o ≤ lastOf l.length (opens l k) := by
        rcases hp.2 with h3 | h3
        · rw [hh] at h3; simp at h3
        · exact of_decide_eq_true h3
      unfold lastOf at h3
      cases hl : (opens l k).getLast? with
      | none =>
        rw [List.getLast?_eq_none_iff] at hl
        rw [hl] at h3 ⊢
        simp at h3 ⊢
        exact h3
      | some z =>
        rw [hl] at h3
        simp at h3
        obtain ⟨ys, hys⟩ := List.getLast?_eq_some_iff.1 hl
        have hz := h2 z (by rw [hys]; simp)
        refine ⟨fun e he => ?_, by omega⟩
        rw [hys] at he h1
        rw [List.pairwise_append] at h1
        rcases List.mem_append.1 he with h4 | h4
        · have := h1.2.2 e h4 z (by simp)
          omega
        · simp at h4; omega
    constructor
    · split
      · rename_i hc
        rw [List.pairwise_append]
        refine ⟨filter_ge h1, by simp, ?_⟩
        intro a ha b hb
        simp at hb
        subst hb
        exact (hend hc.1).1 a (List.mem_filter.1 ha).1
      · rw [List.append_nil]
        exact filter_ge h1
    · intro e he
      rcases List.mem_append.1 he with h4 | h4
      · rw [List.mem_filter] at h4
        have := h2 e h4.1
        have h5 := of_decide_eq_true h4.2
        push_cast
        omega
      · split at h4
        · rename_i hc
          simp at h4
          subst h4
          have := (hend hc.1).2
          push_cast
          omega
        · simp at h4
/-- What the ref asks of a place: how deep it is, and where the nearest end is. -/
theorem opens_min {l : List POp} {k : Nat} (hk : k ≤ l.length) (h : nestedTo l k = true) : ∀ es, es = opens l k → es.foldl min (l.length : Int) = lastOf l.length es := by
  intro es hes
  obtain ⟨h1, h2⟩ := opens_ok k hk h
  rw [← hes] at h1 h2
  have key : ∀ (es : List Int) (m : Int), es.Pairwise (fun a b => a ≥ b) → (∀ e ∈ es, e ≤ m) → es.foldl min m = es.getLast?.getD m := by
    intro es
    induction es with
    | nil => intro m _ _; rfl
    | cons e es ih =>
      intro m hp hm
      rw [List.pairwise_cons] at hp
      rw [List.foldl_cons, Int.min_eq_right (hm e (by simp)), ih e hp.2 (fun x hx => hp.1 x hx)]
      cases es with
      | nil => rfl
      | cons y ys => simp [List.getLast?_cons_cons]; rw [List.getLast?_cons]; simp
  exact key es _ h1 (fun e he => (h2 e he).2)
theorem stack_no {l : List POp} {k : Nat} {o : POp} (h : l[k]? = some o) (ho : o.holds = false) : (opens l k).filter (fun e => decide (((k + 1 : Nat) : Int) < e)) = opens l (k + 1) := by
  rw [opens_succ h, if_neg (by rw [ho]; simp), List.append_nil]
  rfl
theorem stack_yes {l : List POp} {k : Nat} {o : POp} (h : l[k]? = some o) (ho : o.holds = true) : (opens l k ++ [endOf k o]).filter (fun e => decide (((k + 1 : Nat) : Int) < e)) = opens l (k + 1) := by
  rw [opens_succ h, List.filter_append]
  congr 1
  simp only [List.filter_cons, List.filter_nil]
  push_cast
  by_cases hh : (k : Int) + 1 < endOf k o
  · simp [ho, hh]
  · simp [ho, hh]
/-- A row that falls, whose last one is above a place, is above it as a whole. -/
theorem falls_all {es : List Int} {k : Int} (h : (es).Pairwise (fun a b => a ≥ b)) (hl : ∀ e, es.getLast? = some e → k < e) : es.filter (fun e => decide (k < e)) = es := by
  rw [List.filter_eq_self]
  intro x hx
  cases hg : es.getLast? with
  | none => rw [List.getLast?_eq_none_iff] at hg; rw [hg] at hx; simp at hx
  | some z =>
    obtain ⟨ys, hys⟩ := List.getLast?_eq_some_iff.1 hg
    have hz := hl z hg
    rw [hys] at h hx
    rw [List.pairwise_append] at h
    rcases List.mem_append.1 hx with h4 | h4
    · have := h.2.2 x h4 z (by simp)
      simp; omega
    · simp at h4; subst h4; simpa using hz
theorem falls_snoc {es : List Int} {x : Int} (h : es.Pairwise (fun a b => a ≥ b)) (hx : ∀ e ∈ es, x ≤ e) : (es ++ [x]).Pairwise (fun a b => a ≥ b) := by
  rw [List.pairwise_append]
  refine ⟨h, by simp, ?_⟩
  intro a ha b hb
  simp at hb
  subst hb
  exact hx a ha
theorem falls_last {es : List Int} {x y : Int} (h : (es ++ [y]).Pairwise (fun a b => a ≥ b)) (hx : x ≤ y) : ∀ e ∈ es ++ [y], x ≤ e := by
  rw [List.pairwise_append] at h
  intro e he
  rcases List.mem_append.1 he with h4 | h4
  · have := h.2.2 e h4 y (by simp)
    omega
  · simp at h4; omega
end Go.Proofs.YtfaaigfgfljdkaaGreatDoor
