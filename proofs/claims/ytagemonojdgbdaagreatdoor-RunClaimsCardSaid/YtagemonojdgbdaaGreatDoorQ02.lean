import Derived.WalkKit
namespace Go.Proofs.YtagemonojdgbdaaGreatDoor
set_option maxRecDepth 100000
open Go.RowKit
def jB : Nat -> Nat -> List UInt8
 | 0, n => [UInt8.ofNat n]
 | f + 1, n => if n < 128 then [UInt8.ofNat n] else UInt8.ofNat (n % 128 + 128) :: jB f (n / 128)
def mj (n : Nat) : List UInt8 := jB 9 n
theorem JL {m : Nat} (h : m < 128) : mj m = [UInt8.ofNat m] := by simp [mj, jB, h]
theorem Cj (f : Nat) : ∀ n, n < 128 ^ (f + 1) -> jB (f + 1) n = jB f n := by
 induction f with
 | zero => intro n h; simp [jB] at h ⊢; omega
 | succ f ih =>
  intro n h
  rw [jB]
  conv => rhs; rw [jB]
  split
  ·rfl
  ·rw [ih (n / 128) (by rw [Nat.div_lt_iff_lt_mul (by decide)]; rw [Nat.pow_succ] at h; exact h)]
theorem JM {m : Nat} (h : 128 <= m) (h2 : m < 18446744073709551616) : mj m = UInt8.ofNat (m % 128 + 128) :: mj (m / 128) := by
 unfold mj
 rw [jB, if_neg (by omega), <- Cj 8 (m / 128) (by rw [Nat.div_lt_iff_lt_mul (by decide)]; simp; omega)]
theorem fX (m : Nat) : (mj m).length <= 10 := by
 have : ∀ f n, (jB f n).length <= f + 1 := by
  intro f
  induction f with
  | zero => intro n; simp [jB]
  | succ f ih => intro n; rw [jB]; split <;> simp; exact ih _
 exact this 9 m
theorem GF (m : Nat) : 1 <= (mj m).length := by
 unfold mj
 rw [jB]
 split <;> simp
def rW : Nat -> Nat -> List UInt8 -> Option (Nat × List UInt8)
 | _, _, [] => none
 | k, acc, b :: rest => if k = 9 /\ 1 < b.toNat then none else if 128 <= b.toNat then rW (k + 1) (acc + (b.toNat - 128) * 128 ^ k) rest
  else if b.toNat = 0 /\ 0 < k then none else some (acc + b.toNat * 128 ^ k, rest)
theorem GG (f : Nat) : ∀ (k acc m : Nat) (rest : List UInt8), k + f = 9 -> m < 2 ^ (64 - 7 * k) -> (k = 0 \/ 0 < m) -> rW k acc (jB f m ++ rest) = some (acc + m * 128 ^ k, rest) := by
 induction f with
 | zero =>
  intro k acc m rest hk hm hp
  have Bb : k = 9 := by omega
  subst Bb
  simp at hm
  have hb : (UInt8.ofNat m).toNat = m := by simp; omega
  simp only [jB, List.singleton_append, rW, hb]
  rw [if_neg (by omega), if_neg (by omega), if_neg (by omega)]
 | succ f ih =>
  intro k acc m rest hk hm hp
  rw [jB]
  split
  ·rename_i h
   have hb : (UInt8.ofNat m).toNat = m := by simp; omega
   simp only [List.singleton_append, rW, hb]
   rw [if_neg (by omega), if_neg (by omega), if_neg (by omega)]
  ·rename_i h
   have hb : (UInt8.ofNat (m % 128 + 128)).toNat = m % 128 + 128 := by simp; omega
   simp only [List.cons_append, rW, hb]
   rw [if_neg (by omega), if_pos (by omega), ih (k + 1) _ (m / 128) rest (by omega) ?_ (.inr (by omega))]
   ·congr 2
    have : m = m % 128 + 128 * (m / 128) := by omega
    rw [Nat.add_sub_cancel, Nat.pow_succ, Nat.add_assoc]
    congr 1
    conv => rhs; rw [this]
    rw [Nat.add_mul, Nat.mul_comm (128 ^ k) 128, <- Nat.mul_assoc, Nat.mul_comm 128 (m / 128)]
   ·rw [Nat.div_lt_iff_lt_mul (by decide)]
    have h7 : 64 - 7 * k = 64 - 7 * (k + 1) + 7 := by omega
    rw [h7, Nat.pow_add] at hm
    exact hm
theorem GH : ∀ (bs : List UInt8) (k acc n : Nat) (rest : List UInt8), k <= 9 -> rW k acc bs = some (n, rest) ->
  ∃ m, n = acc + m * 128 ^ k /\ bs = jB (9 - k) m ++ rest /\ m < 2 ^ (64 - 7 * k) /\ (k = 0 \/ 0 < m) := by
 intro bs
 induction bs with
 | nil => intro k acc n rest hk h; simp [rW] at h
 | cons b bs ih =>
  intro k acc n rest hk h
  rw [rW] at h
  split at h
  ·cases h
  ·rename_i h1
   have RP := b.toNat_lt
   split at h
   ·rename_i h2
    have Bb : k ≠ 9 := by omega
    obtain ⟨m', hn, hbs, hm', hp'⟩ := ih (k + 1) _ n rest (by omega) h
    have hm0 : 0 < m' := by omega
    refine ⟨(b.toNat - 128) + 128 * m', ?_, ?_, ?_, .inr (by omega)⟩
    ·rw [hn, Nat.pow_succ, Nat.add_mul, Nat.add_assoc, Nat.mul_comm (128 ^ k) 128, <- Nat.mul_assoc, Nat.mul_comm m' 128]
    ·have e9 : 9 - k = (9 - (k + 1)) + 1 := by omega
     rw [e9, jB, if_neg (by omega), hbs]
     have e1 : (b.toNat - 128 + 128 * m') / 128 = m' := by omega
     have e2 : (b.toNat - 128 + 128 * m') % 128 + 128 = b.toNat := by omega
     rw [e1, e2]
     simp
    ·have h7 : 64 - 7 * k = 64 - 7 * (k + 1) + 7 := by omega
     rw [h7, Nat.pow_add]
     have : (2 : Nat) ^ 7 = 128 := rfl
     omega
   ·rename_i h2
    split at h
    ·cases h
    ·rename_i h3
     injection h with h
     injection h with h4 h5
     subst h5
     refine ⟨b.toNat, h4.symm, ?_, ?_, by omega⟩
     ·have hb : UInt8.ofNat b.toNat = b := by simp
      cases hf : 9 - k with
      | zero => simp [jB]
      | succ f => rw [jB, if_pos (by omega)]; simp
     ·by_cases Bb : k = 9
      ·subst Bb; simp; omega
      ·have : (2 : Nat) ^ 7 <= 2 ^ (64 - 7 * k) := Nat.pow_le_pow_right (by decide) (by omega)
       omega
structure cC where
 d : Int
 a : Int
 b : Int
 c : Int
 n : Int
 deriving DecidableEq
namespace cC
def holds (o : cC) : Bool := o.d == 13 || o.d == 14
def s5 (o : cC) (i : Nat) : Int := if i = 0 then o.a else if i = 1 then o.b else if i = 2 then o.c else o.n
end cC
def rZ (d : Int) (i : Nat) : Bool :=
 if d = 1 then i == 0 || i == 2 else if d = 8 \/ d = 11 then decide (i < 3) else if d = 10 then i == 1 else if d = 12 then true
 else if d = 13 then i == 0 || i == 3 else if d = 14 then decide (2 <= i) else if d = 15 then i == 0 else decide (i < 2)
def GI (d : Int) (i : Nat) : Int := if i = 2 /\ d = 1 then -1099511627776 else 0
def Ck (d : Int) (i : Nat) : Int :=
 if i = 0 then (if d = 9 then 4 else 7) else if i = 1 then 7 else if i = 2 then (if d = 1 then 1099511627776 else if d = 14 then 16 else 3) else (if d = 12 then 1099511627776 else 64)
def fe (o : cC) : Bool := decide (1 <= o.d /\ o.d <= 15) && (List.range 4).all (fun i => rZ o.d i || o.s5 i == 0)
def gu (o : cC) : Bool := (List.range 4).all (fun i => !rZ o.d i || (decide (GI o.d i <= o.s5 i) && decide (o.s5 i <= Ck o.d i)))
def ic (k : Nat) (o : cC) : Int := (k : Int) + 1 + o.n
def opens (l : List cC) (i : Nat) : List Int := ((l.take i).zipIdx.filter (fun x => x.1.holds && decide ((i : Int) < ic x.2 x.1))).map (fun x => ic x.2 x.1)
def uw (len : Nat) (es : List Int) : Int := es.getLast?.getD (len : Int)
def dY (l : List cC) (i : Nat) (o : cC) : Bool := decide ((opens l i).length <= 8) && (!o.holds || decide (ic i o <= uw l.length (opens l i)))
def gF (l : List cC) (k : Nat) : Bool := (List.range k).all (fun i => match l[i]? with | some o => dY l i o | none => true)
def iw (l : List cC) : Bool := gF l l.length
def opsE (l : List cC) : Int :=
 if 64 < l.length then 23 else if l.all fe = false then 11 else if l.all gu = false then 10 else if iw l = false then 11 else 0
theorem cF {l : List cC} {k : Nat} {o : cC} (h : l[k]? = some o) : gF l (k + 1) = (gF l k && dY l k o) := by
 unfold gF
 rw [List.range_succ, List.all_append]
 simp [h]
theorem gw {l : List cC} {k m : Nat} (h : gF l m = true) (hk : k <= m) : gF l k = true := by
 unfold gF at h ⊢
 rw [List.all_eq_true] at h ⊢
 intro i hi
 exact h i (List.mem_range.2 (by have := List.mem_range.1 hi; omega))
theorem qy {l : List cC} {k : Nat} {o : cC} (h : l[k]? = some o) :
  opens l (k + 1) = (opens l k).filter (fun e => decide ((k : Int) + 1 < e)) ++ (if o.holds = true /\ ((k : Int) + 1 < ic k o) then [ic k o] else []) := by
 unfold opens
 have hlt := (List.getElem?_eq_some_iff.1 h).1
 have h1 : l.take (k + 1) = l.take k ++ [o] := by rw [List.take_add_one, h]; rfl
 have hlk : (l.take k).length = k := by simp; omega
 rw [h1, List.zipIdx_append, List.filter_append, List.map_append, hlk]
 congr 1
 ·rw [List.filter_map, List.filter_filter]
  congr 1
  apply List.filter_congr
  intro x _
  simp only [Function.comp]
  rw [Bool.eq_iff_iff]
  simp only [Bool.and_eq_true, decide_eq_true_eq]
  constructor
  ·rintro ⟨h1, h2⟩
   refine ⟨by push_cast at h2; exact h2, h1, by push_cast at h2; omega⟩
  ·rintro ⟨h1, h2, h3⟩
   exact ⟨h2, by push_cast; exact h1⟩
 ·simp only [List.zipIdx_cons, List.zipIdx_nil, List.filter_cons, List.filter_nil, Nat.zero_add]
  push_cast
  by_cases hh : o.holds = true /\ ((k : Int) + 1 < ic k o)
  ·simp [hh.1, hh.2]
  ·rw [if_neg hh]
   split
   ·rename_i h2
    simp at h2
    exact absurd h2 hh
   ·rfl
theorem wP {l : List cC} {k : Nat} {o : cC} (h : l[k]? = some o) (ho : o.holds = false) : (opens l k).filter (fun e => decide (((k + 1 : Nat) : Int) < e)) = opens l (k + 1) := by
 rw [qy h, if_neg (by rw [ho]; simp), List.append_nil]
 rfl
theorem s8 {l : List cC} {k : Nat} {o : cC} (h : l[k]? = some o) (ho : o.holds = true) : (opens l k ++ [ic k o]).filter (fun e => decide (((k + 1 : Nat) : Int) < e)) = opens l (k + 1) := by
 rw [qy h, List.filter_append]
 congr 1
 simp only [List.filter_cons, List.filter_nil]
 push_cast
 by_cases hh : (k : Int) + 1 < ic k o
 ·simp [ho, hh]
 ·simp [ho, hh]
theorem Cm {es : List Int} {k : Int} (h : (es).Pairwise (fun a b => a ≥ b)) (hl : ∀ e, es.getLast? = some e -> k < e) : es.filter (fun e => decide (k < e)) = es := by
 rw [List.filter_eq_self]
 intro x hx
 cases hg : es.getLast? with
 | none => rw [List.getLast?_eq_none_iff] at hg; rw [hg] at hx; simp at hx
 | some z =>
  obtain ⟨ys, hys⟩ := List.getLast?_eq_some_iff.1 hg
  have hz := hl z hg
  rw [hys] at h hx
  rw [List.pairwise_append] at h
  rcases List.mem_append.1 hx with h4 | h4
  ·have := h.2.2 x h4 z (by simp)
   simp; omega
  ·simp at h4; subst h4; simpa using hz
theorem qz {es : List Int} {x : Int} (h : es.Pairwise (fun a b => a ≥ b)) (hx : ∀ e ∈ es, x <= e) : (es ++ [x]).Pairwise (fun a b => a ≥ b) := by
 rw [List.pairwise_append]
 refine ⟨h, by simp, ?_⟩
 intro a ha b hb
 simp at hb
 subst hb
 exact hx a ha
theorem yM {es : List Int} {x y : Int} (h : (es ++ [y]).Pairwise (fun a b => a ≥ b)) (hx : x <= y) : ∀ e ∈ es ++ [y], x <= e := by
 rw [List.pairwise_append] at h
 intro e he
 rcases List.mem_append.1 he with h4 | h4
 ·have := h.2.2 e h4 y (by simp)
  omega
 ·simp at h4; omega
end Go.Proofs.YtagemonojdgbdaaGreatDoor
