/- Numbers that are places; a line that grows at its end (the same words stand in LocksLast's own text). -/
import Derived.Test.YtihjcfifakcpgaaLockO
namespace Go.Proofs.Ytihjcfifakcpgaa
open Go.RowKit

/-- Numbers that are places. -/
def Placed (l : List Ent) : Prop := ∀ (i : Nat) (e : Ent), l[i]? = some e → e.1 = (i : Int)
theorem Placed.snoc {l : List Ent} (h : Placed l) {k : Nat} (hk : l.length = k) (f : List Cl) : Placed (l ++ [((k : Int), f)]) := by
  intro i e he
  by_cases hi : i < l.length
  · rw [List.getElem?_append_left hi] at he
    exact h i e he
  · rw [List.getElem?_append_right (by omega)] at he
    have : i - l.length = 0 := by
      have := (List.getElem?_eq_some_iff.1 he).1
      simp at this
      omega
    rw [this] at he
    simp at he
    subst he
    show (k : Int) = i
    omega
theorem Placed.mem {l : List Ent} (h : Placed l) {i : Nat} (hi : i < l.length) : (i : Int) ∈ nums l := by
  have he : l[i]? = some l[i] := List.getElem?_eq_getElem hi
  have := h i _ he
  exact mem_nums.2 ⟨l[i].2, by rw [← this]; exact List.getElem_mem hi⟩
theorem Placed.lt {l : List Ent} (h : Placed l) : ∀ e ∈ l, 0 ≤ e.1 ∧ e.1 < (l.length : Int) := by
  intro e he
  obtain ⟨i, hi, rfl⟩ := List.getElem_of_mem he
  have := h i _ (List.getElem?_eq_getElem hi)
  omega
theorem Placed.nil : Placed [] := fun i e h => by simp at h
theorem ready_snoc {l : List Ent} (hr : Rise l) {id : Int} (hid : ∀ e ∈ l, e.1 < id) (f : List Cl) : ready (l ++ [(id, f)]) = ready l ++ (if rdyB (l ++ [(id, f)]) id = true then [id] else []) := by
  unfold ready
  rw [nums_snoc, List.filter_append]
  congr 1
  · refine List.filter_congr fun i hi => ?_
    have hne : i ≠ id := fun e => by subst e; exact new_not hid hi
    unfold rdyB
    rw [opn_snoc hr hid, if_neg hne]
  · split <;> simp_all
theorem rdyB_waits {l : List Ent} {i : Int} : rdyB l i = true ↔ waits l i = [] := by
  unfold rdyB opn
  rw [beq_iff_eq, List.length_eq_zero_iff]
theorem Rd.take {w : World} {F : Nat → Prop} {A : Option Addr} {n c : Nat} {xs : List Value} (h : Rd w F (.slice A n c) xs) {m : Nat} (hm : m ≤ n) : Rd w F (.slice A m c) (xs.take m) := by
  obtain ⟨A', n', c', hv, hl, h1, h2, hx⟩ := h
  injection hv with e1 e2 e3
  subst e1 e2 e3
  refine ⟨A, m, c, rfl, by simp; omega, by omega, h2, fun h0 => ?_⟩
  obtain ⟨b, o, e, hF, hu⟩ := hx (by omega)
  refine ⟨b, o, e, hF, fun j u hj => hu j u ?_⟩
  have hlt := (List.getElem?_eq_some_iff.1 hj).1
  rw [List.getElem?_take_of_lt (by simp at hlt; omega)] at hj
  exact hj

end Go.Proofs.Ytihjcfifakcpgaa
