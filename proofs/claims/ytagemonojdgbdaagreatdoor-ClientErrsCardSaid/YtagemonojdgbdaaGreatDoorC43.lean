import Derived.Test.YtagemonojdgbdaaGreatDoorC29
import Derived.Test.YtagemonojdgbdaaGreatDoorC37
namespace Go.Proofs.YtagemonojdgbdaaGreatDoor
set_option maxRecDepth 100000
def encOp (o : POp) : List UInt8 := encU [o.d, o.a, o.b] ++ (encI [o.c] ++ encU [o.n])
def markOf (c : Cl) : Int := if c.wr then 1 else 0
def encT (s : List UInt8) : List UInt8 := leb s.length ++ s
def encCl (c : Cl) : List UInt8 := encU [markOf c] ++ (encI [c.col] ++ (encT c.key ++ encI [c.lo, c.hi]))
def inside (e : FE) : List UInt8 := encU [e.id, (e.ops.length : Int)] ++ (e.ops.flatMap encOp ++ (encU [(e.args.length : Int)] ++ (encI e.args ++ (encU [(e.cls.length : Int)] ++ e.cls.flatMap encCl))))
theorem encOp_len (o : POp) : (encOp o).length ≤ 50 := by
 unfold encOp
 have h1 := encU_len [o.d, o.a, o.b]
 have h2 := encI_len [o.c]
 have h3 := encU_len [o.n]
 simp only [List.length_append, List.length_cons, List.length_nil] at *
 omega
theorem encCl_len (c : Cl) : (encCl c).length ≤ 50 + c.key.length := by
 unfold encCl encT
 have h1 := encU_len [markOf c]
 have h2 := encI_len [c.col]
 have h3 := encI_len [c.lo, c.hi]
 have h4 := leb_length c.key.length
 simp only [List.length_append, List.length_cons, List.length_nil] at *
 omega
theorem flat_le {α : Type} {f : α → List UInt8} {m : Nat} {l : List α} (h : ∀ x ∈ l, (f x).length ≤ m) : (l.flatMap f).length ≤ m * l.length := by
 induction l with
 | nil => simp
 | cons x l ih =>
  have h1 := h x (by simp)
  have h2 := ih (fun y hy => h y (by simp [hy]))
  rw [List.flatMap_cons, List.length_append, List.length_cons, Nat.mul_succ]
  omega
theorem flat_snoc {α : Type} {f : α → List UInt8} {l : List α} {k : Nat} {x : α} (h : l[k]? = some x) : (l.take (k + 1)).flatMap f = (l.take k).flatMap f ++ f x := by
 rw [List.take_add_one, h]
 simp
theorem ops_flat (l : List POp) (k : Nat) : ((l.take k).flatMap encOp).length ≤ 50 * k := by
 have h1 := flat_le (f := encOp) (m := 50) (l := l.take k) (fun x _ => encOp_len x)
 have h2 : (l.take k).length ≤ k := by simp; omega
 exact Nat.le_trans h1 (Nat.mul_le_mul_left 50 h2)
theorem cls_flat (l : List Cl) (hl : ∀ c ∈ l, c.key.length ≤ 16) (k : Nat) : ((l.take k).flatMap encCl).length ≤ 66 * k := by
 have h1 := flat_le (f := encCl) (m := 66) (l := l.take k) (fun x hx => by have := encCl_len x; have := hl x (List.mem_of_mem_take hx); omega)
 have h2 : (l.take k).length ≤ k := by simp; omega
 exact Nat.le_trans h1 (Nat.mul_le_mul_left 66 h2)
structure FE.Good (e : FE) : Prop where
 id0 : 0 ≤ e.id
 id1 : e.id ≤ 1099511627776
 opl : e.ops.length ≤ 64
 ops : opsE e.ops = 0
 opb : ∀ o ∈ e.ops, (0 ≤ o.d ∧ o.d ≤ 15) ∧ (0 ≤ o.a ∧ o.a ≤ 7) ∧ (0 ≤ o.b ∧ o.b ≤ 7) ∧ (-1099511627776 ≤ o.c ∧ o.c ≤ 1099511627776) ∧ (0 ≤ o.n ∧ o.n ≤ 1099511627776)
 arl : e.args.length ≤ 8
 arb : ∀ n ∈ e.args, -1099511627776 ≤ n ∧ n ≤ 1099511627776
 cll : e.cls.length ≤ 64
 clo : ∀ c ∈ e.cls, Ok c
 clf : IsForm e.cls e.cls
theorem opsE_zero {l : List POp} (h : opsE l = 0) : l.length ≤ 64 ∧ l.all formedB = true ∧ l.all rangedB = true ∧ nestedB l = true := by
 unfold opsE at h
 split at h
 ·simp at h
 ·split at h
  ·simp at h
  ·split at h
   ·simp at h
   ·split at h
    ·simp at h
    ·rename_i h1 h2 h3 h4
     exact ⟨by omega, by simpa using h2, by simpa using h3, by simpa using h4⟩
theorem fld_bd {o : POp} (h1 : formedB o = true) (h2 : rangedB o = true) : (0 ≤ o.d ∧ o.d ≤ 15) ∧ (0 ≤ o.a ∧ o.a ≤ 7) ∧ (0 ≤ o.b ∧ o.b ≤ 7) ∧ (-1099511627776 ≤ o.c ∧ o.c ≤ 1099511627776) ∧ (0 ≤ o.n ∧ o.n ≤ 1099511627776) := by
 have hd := formed_do h1
 have key : ∀ i, i < 4 → (o.fld i = 0) ∨ (loF o.d i ≤ o.fld i ∧ o.fld i ≤ hiF o.d i) := by
  intro i hi
  unfold formedB at h1
  unfold rangedB at h2
  rw [Bool.and_eq_true, List.all_eq_true] at h1
  rw [List.all_eq_true] at h2
  have a1 := h1.2 i (List.mem_range.2 hi)
  have a2 := h2 i (List.mem_range.2 hi)
  cases hh : hasF o.d i with
  | true => rw [hh] at a2; simp at a2; exact .inr a2
  | false => rw [hh] at a1; simp at a1; exact .inl a1
 have k0 := key 0 (by decide)
 have k1 := key 1 (by decide)
 have k2 := key 2 (by decide)
 have k3 := key 3 (by decide)
 have e0 : o.fld 0 = o.a := rfl
 have e1 : o.fld 1 = o.b := rfl
 have e2 : o.fld 2 = o.c := rfl
 have e3 : o.fld 3 = o.n := rfl
 rw [e0] at k0
 rw [e1] at k1
 rw [e2] at k2
 rw [e3] at k3
 have l0 : loF o.d 0 = 0 ∧ hiF o.d 0 ≤ 7 := by simp [loF, hiF]; split <;> omega
 have l1 : loF o.d 1 = 0 ∧ hiF o.d 1 = 7 := by simp [loF, hiF]
 have l2 : -1099511627776 ≤ loF o.d 2 ∧ hiF o.d 2 ≤ 1099511627776 := by
  simp [loF, hiF]
  constructor
  ·split <;> omega
  ·split
   ·omega
   ·split <;> omega
 have l3 : loF o.d 3 = 0 ∧ hiF o.d 3 ≤ 1099511627776 := by simp [loF, hiF]; split <;> omega
 refine ⟨by omega, by omega, by omega, by omega, by omega⟩
theorem clsE_zero {l : List Cl} (h : clsE l = 0) : (∀ c ∈ l, Ok c) ∧ IsForm l l ∧ l.length ≤ 64 := by
 unfold clsE at h
 split at h
 ·rename_i h1; exact absurd h h1
 ·rename_i h1
  split at h
  ·simp at h
  ·rename_i h2
   split at h
   ·rename_i h3
    refine ⟨?_, h3, ?_⟩
    ·have h0 : errOf l = 0 := by simpa using h1
     unfold errOf at h0
     split at h0
     ·rename_i c hc
      have := List.find?_some hc
      simp at this
      exact absurd h0 this
     ·rename_i hc
      rw [List.find?_eq_none] at hc
      intro c hcm
      have := hc c hcm
      simpa [Ok] using this
    ·rcases Nat.lt_or_ge 64 l.length with h4 | h4
     ·exact absurd ⟨l, h3, h4⟩ h2
     ·exact h4
   ·simp at h
theorem entE_zero {e : FE} (h : entE e = 0) : e.Good := by
 unfold entE at h
 split at h
 ·rename_i h1; exact absurd h h1
 ·rename_i h1
  have h0 : entE0 e = 0 := by simpa using h1
  unfold entE0 at h0
  split at h0
  ·simp at h0
  ·rename_i hid
   unfold entE1 at h0
   split at h0
   ·rename_i h2; exact absurd h0 h2
   ·rename_i h2
    have ho : opsE e.ops = 0 := by simpa using h2
    unfold entE2 at h0
    split at h0
    ·simp at h0
    ·rename_i ha
     split at h0
     ·simp at h0
     ·rename_i hb
      have hb' : argsOk e.args = true := by simpa using hb
      unfold argsOk at hb'
      rw [List.all_eq_true] at hb'
      obtain ⟨o1, o2, o3, o4⟩ := opsE_zero ho
      rw [List.all_eq_true] at o2 o3
      obtain ⟨c1, c2, c3⟩ := clsE_zero h
      exact { id0 := by omega, id1 := by omega, opl := o1, ops := ho, opb := fun o hm => fld_bd (o2 o hm) (o3 o hm), arl := by omega, arb := fun n hn => by have := hb' n hn; rw [Bool.and_eq_true, decide_eq_true_iff, decide_eq_true_iff] at this; exact this, cll := c3, clo := c1, clf := c2 }
theorem Ok.key_len {c : Cl} (h : Ok c) : c.key.length ≤ 16 := by
 rcases h.parts with ⟨_, _, _, _, h5⟩ | ⟨_, _, h3, _⟩
 ·exact h5
 ·rw [h3]; simp
end Go.Proofs.YtagemonojdgbdaaGreatDoor
