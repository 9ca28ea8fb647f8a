/- PLAIN: the keys of numbers: a number's key, and a key's number. -/
import Derived.Lib.ItoaNum
import Derived.Lib.AtoiAllCases
import Derived.Test.YtfaaigfgfljdkaaGreatDoorRunD
import Derived.Deep.QuietTactic
import Derived.BigQuiet
import Derived.Laws.DeepStrings4
import Derived.Test.YtfaaigfgfljdkaaGreatDoorShelfA
import Derived.Shelf.Strconv.ErrVarAll
import Derived.Lib.AtoiErrMem
import Derived.Test.YtfaaigfgfljdkaaGreatDoorRunH
namespace Go.Proofs.YtfaaigfgfljdkaaGreatDoor
set_option maxRecDepth 100000
open Go.Lib

/-- All bytes are digits. -/
def Dgs (l : List UInt8) : Prop := ∀ b ∈ l, 48 ≤ b.toNat ∧ b.toNat ≤ 57
/-- What digits spell. -/
def dval (l : List UInt8) : Nat := l.foldl (fun a b => a * 10 + (b.toNat - 48)) 0
theorem dval_snoc (l : List UInt8) (b : UInt8) : dval (l ++ [b]) = dval l * 10 + (b.toNat - 48) := by simp [dval]
theorem Dgs.left {l r : List UInt8} (h : Dgs (l ++ r)) : Dgs l := fun b hb => h b (List.mem_append.2 (.inl hb))
theorem snoc_of {l : List UInt8} (h : l ≠ []) : ∃ q b, l = q ++ [b] := ⟨l.dropLast, l.getLast h, (List.dropLast_concat_getLast h).symm⟩
theorem digit_nat {d : Nat} (h : d < 10) : (UInt8.ofNat (48 + d)).toNat = 48 + d := by
  simp
  omega
theorem dec_ne (m : Nat) : decDigits m ≠ [] := by
  rw [decDigits]
  split <;> simp
theorem dec_dgs : ∀ m : Nat, Dgs (decDigits m) ∧ dval (decDigits m) = m := by
  intro m
  induction m using Nat.strongRecOn with
  | _ m ih =>
    rw [decDigits]
    by_cases h : m < 10
    · rw [dif_pos h]
      refine ⟨fun b hb => ?_, ?_⟩
      · rw [List.mem_singleton] at hb
        subst hb
        have := digit_nat h
        omega
      · simp only [dval, List.foldl]
        rw [digit_nat h]
        omega
    · rw [dif_neg h]
      obtain ⟨h1, h2⟩ := ih (m / 10) (by omega)
      have hd := digit_nat (show m % 10 < 10 by omega)
      refine ⟨fun b hb => ?_, ?_⟩
      · rcases List.mem_append.1 hb with hb | hb
        · exact h1 b hb
        · rw [List.mem_singleton] at hb
          subst hb
          omega
      · rw [dval_snoc, h2, hd]
        omega
theorem dval_pos : ∀ (l : List UInt8), Dgs l → l ≠ [] → l.head? ≠ some 48 → 1 ≤ dval l := by
  intro l
  have key : ∀ n : Nat, ∀ l : List UInt8, l.length = n → Dgs l → l ≠ [] → l.head? ≠ some 48 → 1 ≤ dval l := by
    intro n
    induction n with
    | zero => intro l hl _ hn; exact absurd (List.length_eq_zero_iff.1 hl) hn
    | succ n ih =>
      intro l hl hd hn hh
      obtain ⟨q, b, rfl⟩ := snoc_of hn
      rw [dval_snoc]
      by_cases hq : q = []
      · subst hq
        simp at hh
        have hb := hd b (by simp)
        have : b.toNat ≠ 48 := fun e => hh (UInt8.toNat_inj.1 e)
        omega
      · have := ih q (by simpa using hl) hd.left hq (by
          cases q with
          | nil => exact absurd rfl hq
          | cons a t => simpa using hh)
        omega
  exact key l.length l rfl
theorem dec_unique : ∀ (l : List UInt8), Dgs l → l ≠ [] → (l.head? = some 48 → l.length = 1) → decDigits (dval l) = l := by
  intro l
  have key : ∀ n : Nat, ∀ l : List UInt8, l.length = n → Dgs l → l ≠ [] → (l.head? = some 48 → l.length = 1) → decDigits (dval l) = l := by
    intro n
    induction n with
    | zero => intro l hl _ hn; exact absurd (List.length_eq_zero_iff.1 hl) hn
    | succ n ih =>
      intro l hl hd hn hh
      obtain ⟨q, b, rfl⟩ := snoc_of hn
      have hb := hd b (by simp)
      have hbb : UInt8.ofNat (48 + (b.toNat - 48)) = b := by
        rw [show 48 + (b.toNat - 48) = b.toNat by omega]
        simp
      by_cases hq : q = []
      · subst hq
        rw [decDigits, dif_pos (by simp [dval]; omega)]
        simp only [dval, List.nil_append, List.foldl, Nat.zero_mul, Nat.zero_add]
        rw [hbb]
      · have hq48 : q.head? ≠ some 48 := by
          intro e
          cases q with
          | nil => exact absurd rfl hq
          | cons a t =>
            have := hh (by simpa using e)
            simp at this
        have hpos := dval_pos q hd.left hq hq48
        have hi := ih q (by simpa using hl) hd.left hq (fun e => absurd e hq48)
        rw [dval_snoc, decDigits, dif_neg (by omega)]
        rw [show (dval q * 10 + (b.toNat - 48)) / 10 = dval q by omega, show (dval q * 10 + (b.toNat - 48)) % 10 = b.toNat - 48 by omega, hi, hbb]
  exact key l.length l rfl
theorem dec_head {m : Nat} (h : (decDigits m).head? = some 48) : m = 0 := by
  obtain ⟨h1, h2⟩ := dec_dgs m
  by_cases hl : (decDigits m).length = 1
  · obtain ⟨b, hb⟩ := List.length_eq_one_iff.1 hl
    rw [hb] at h h2
    simp at h
    subst h
    simp [dval] at h2
    exact h2.symm
  · rw [decDigits_length] at hl
    have hm : ¬ m < 10 := fun e => hl (nDigits_small e)
    -- the digits of a number of two digits or more begin with the digits of its tenth
    have key : ∀ k : Nat, k ≠ 0 → (decDigits k).head? ≠ some 48 := by
      intro k
      induction k using Nat.strongRecOn with
      | _ k ih =>
        intro hk
        rw [decDigits]
        by_cases hk10 : k < 10
        · rw [dif_pos hk10]
          intro e
          simp only [List.head?_cons, Option.some.injEq] at e
          have := digit_nat hk10
          rw [e] at this
          have h48 : (48 : UInt8).toNat = 48 := rfl
          omega
        · rw [dif_neg hk10]
          have := ih (k / 10) (by omega) (by omega)
          intro e
          cases hc : decDigits (k / 10) with
          | nil => exact dec_ne _ hc
          | cons a t =>
            rw [hc] at this e
            simp at this e
            exact this e
    exact absurd h (key m (by omega))
def dstep (a : Nat) (b : UInt8) : Nat := a * 10 + (b.toNat - 48)
theorem dval_fold (l : List UInt8) : l.foldl dstep 0 = dval l := rfl
theorem fold_ge : ∀ (l : List UInt8) (a : Nat), a ≤ l.foldl dstep a
  | [], _ => Nat.le_refl _
  | b :: r, a => by
    have := fold_ge r (dstep a b)
    simp only [List.foldl]
    unfold dstep at this ⊢
    omega
theorem Dgs.tail {b : UInt8} {r : List UInt8} (h : Dgs (b :: r)) : Dgs r := fun x hx => h x (List.mem_cons_of_mem _ hx)
theorem parse_dgs : ∀ (l : List UInt8) (a : Nat), Dgs l → l.foldl dstep a < 18446744073709551616 → parseUint10 a l = .ok (l.foldl dstep a)
  | [], _, _, _ => rfl
  | b :: r, a, hd, h => by
    have hb := hd b (by simp)
    have hg := fold_ge r (dstep a b)
    simp only [List.foldl] at h ⊢
    have hs : dstep a b = a * 10 + (b.toNat - 48) := rfl
    rw [parseUint10, if_pos hb, if_neg (by omega), if_neg (by omega), ← hs]
    exact parse_dgs r _ hd.tail h
theorem parse_dec {m : Nat} (h : m < 18446744073709551616) : parseMag (decDigits m) = .ok m := by
  obtain ⟨h1, h2⟩ := dec_dgs m
  unfold parseMag
  rw [if_neg (dec_ne m), parse_dgs _ _ h1 (by rw [dval_fold, h2]; exact h), dval_fold, h2]
theorem dec_cons (m : Nat) : ∃ b r, decDigits m = b :: r ∧ 48 ≤ b.toNat ∧ b.toNat ≤ 57 := by
  cases h : decDigits m with
  | nil => exact absurd h (dec_ne m)
  | cons b r => exact ⟨b, r, rfl, (dec_dgs m).1 b (by rw [h]; simp)⟩
def Fits64 (n : Int) : Prop := -9223372036854775808 ≤ n ∧ n ≤ 9223372036854775807
theorem atoi_itoa {n : Int} (h : Fits64 n) : atoiAll (itoa n) = .ok n := by
  obtain ⟨h1, h2⟩ := h
  unfold itoa
  by_cases hn : n < 0
  · rw [if_pos hn, atoiAll_minus, parse_dec (by omega)]
    simp only [signed]
    rw [if_neg (by omega)]
    congr 1
    omega
  · rw [if_neg hn]
    obtain ⟨b, r, hb, h48, h57⟩ := dec_cons n.toNat
    rw [hb, atoiAll_plain b r (by omega) (by omega), ← hb, parse_dec (by omega)]
    simp only [signless]
    rw [if_neg (by omega)]
    congr 1
    omega
/-- A key's number, as the program has it. -/
def runNum (key : List UInt8) : Option Int := match atoiAll key with
  | .ok v => if itoa v = key then some v else none
  | _ => none
theorem runNum_iff {key : List UInt8} {v : Int} : runNum key = some v ↔ key = itoa v ∧ Fits64 v := by
  unfold runNum
  constructor
  · intro h
    cases ha : atoiAll key with
    | ok u =>
      rw [ha] at h
      simp only at h
      split at h
      · rename_i he
        injection h with h
        subst h
        exact ⟨he.symm, atoiAll_bounds ha⟩
      · cases h
    | _ => rw [ha] at h; cases h
  · rintro ⟨rfl, h⟩
    rw [atoi_itoa h]
    simp
/-- A key's number, as the document has it: the digits one by one, below nought. -/
def numLoop : Int → List UInt8 → Option Int
  | n, [] => some n
  | n, b :: r => if (b.toNat : Int) - 48 < 0 ∨ 9 < (b.toNat : Int) - 48 ∨ n < -922337203685477580 ∨ (n = -922337203685477580 ∧ 8 < (b.toNat : Int) - 48) then none else numLoop (10 * n - ((b.toNat : Int) - 48)) r
theorem numLoop_is : ∀ (l : List UInt8) (a : Nat), a ≤ 9223372036854775808 → ∀ m : Int, numLoop (-(a : Int)) l = some m ↔ Dgs l ∧ l.foldl dstep a ≤ 9223372036854775808 ∧ m = -((l.foldl dstep a : Nat) : Int)
  | [], a, ha, m => by
    simp only [numLoop, List.foldl, Option.some.injEq]
    constructor
    · rintro rfl
      exact ⟨fun b hb => by simp at hb, ha, rfl⟩
    · rintro ⟨_, _, rfl⟩
      rfl
  | b :: r, a, ha, m => by
    have hg := fold_ge r (dstep a b)
    have hs : dstep a b = a * 10 + (b.toNat - 48) := rfl
    rw [numLoop]
    simp only [List.foldl]
    by_cases hc : (b.toNat : Int) - 48 < 0 ∨ 9 < (b.toNat : Int) - 48 ∨ -(a : Int) < -922337203685477580 ∨ (-(a : Int) = -922337203685477580 ∧ 8 < (b.toNat : Int) - 48)
    · rw [if_pos hc]
      constructor
      · intro h; cases h
      · rintro ⟨hd, hle, _⟩
        have hb := hd b (by simp)
        omega
    · rw [if_neg hc, show 10 * -(a : Int) - ((b.toNat : Int) - 48) = -((dstep a b : Nat) : Int) by rw [hs]; omega]
      rw [numLoop_is r (dstep a b) (by rw [hs]; omega) m]
      constructor
      · rintro ⟨h1, h2, h3⟩
        refine ⟨fun x hx => ?_, h2, h3⟩
        rcases List.mem_cons.1 hx with rfl | hx
        · omega
        · exact h1 x hx
      · rintro ⟨h1, h2, h3⟩
        exact ⟨h1.tail, h2, h3⟩
theorem nDigits_le : ∀ (k m : Nat), m < 10 ^ (k + 1) → nDigits m ≤ k + 1
  | 0, m, h => by rw [nDigits_small (by simpa using h)]; omega
  | k + 1, m, h => by
    by_cases hm : m < 10
    · rw [nDigits_small hm]; omega
    · rw [nDigits_big hm]
      have := nDigits_le k (m / 10) (by rw [Nat.pow_succ] at h; omega)
      omega
def numNeg (t : List UInt8) : Option Int := if t = [] ∨ 19 < t.length ∨ t.head? = some 48 then none else numLoop 0 t
def numR (s : List UInt8) : Option Int :=
  if s.head? = some 45 then numNeg s.tail
  else if s = [] ∨ 19 < s.length ∨ (s.head? = some 48 ∧ 1 < s.length) then none
  else match numLoop 0 s with
    | none => none
    | some n => if n = -9223372036854775808 then none else some (-n)
theorem numR_iff {s : List UInt8} {v : Int} : numR s = some v ↔ s = itoa v ∧ Fits64 v := by
  have hl0 : ∀ l : List UInt8, ∀ m : Int, numLoop 0 l = some m ↔ Dgs l ∧ dval l ≤ 9223372036854775808 ∧ m = -((dval l : Nat) : Int) := fun l m => by
    have := numLoop_is l 0 (by decide) m
    rwa [dval_fold] at this
  have hlen : ∀ m : Nat, m ≤ 9223372036854775808 → (decDigits m).length ≤ 19 := fun m hm => by
    rw [decDigits_length]
    exact nDigits_le 18 m (Nat.lt_of_le_of_lt hm (by decide))
  unfold numR Fits64
  by_cases hneg : s.head? = some 45
  · rw [if_pos hneg]
    obtain ⟨t, rfl⟩ : ∃ t, s = 45 :: t := by
      cases s with
      | nil => simp at hneg
      | cons a t => simp at hneg; exact ⟨t, by rw [hneg]⟩
    show numNeg t = some v ↔ _
    unfold numNeg
    constructor
    · intro h
      split at h
      · cases h
      · rename_i hc
        obtain ⟨h1, h2, rfl⟩ := (hl0 t v).1 h
        have htn : t ≠ [] := fun e => hc (.inl e)
        have h48 : t.head? ≠ some 48 := fun e => hc (.inr (.inr e))
        have hp := dval_pos t h1 htn h48
        have hu := dec_unique t h1 htn (fun e => absurd e h48)
        refine ⟨?_, by omega, by omega⟩
        unfold itoa
        rw [if_pos (by omega), show (-((dval t : Nat) : Int)).natAbs = dval t by omega, hu]
    · rintro ⟨hs, hv1, hv2⟩
      have hvn : v < 0 := by
        by_cases hvn : v < 0
        · exact hvn
        · unfold itoa at hs
          rw [if_neg hvn] at hs
          obtain ⟨b, r, hb, hb1, _⟩ := dec_cons v.toNat
          rw [hb] at hs
          injection hs with e _
          subst e
          have : (45 : UInt8).toNat = 45 := rfl
          omega
      unfold itoa at hs
      rw [if_pos hvn] at hs
      injection hs with _ ht
      obtain ⟨g1, g2⟩ := dec_dgs v.natAbs
      rw [← ht] at g1 g2
      have hlt := hlen v.natAbs (by omega)
      rw [← ht] at hlt
      rw [if_neg (by
        rintro (e | e | e)
        · rw [e] at ht; exact dec_ne _ ht.symm
        · omega
        · rw [ht] at e
          have := dec_head e
          omega)]
      exact (hl0 t v).2 ⟨g1, by omega, by omega⟩
  · rw [if_neg hneg]
    constructor
    · intro h
      split at h
      · cases h
      · rename_i hc
        split at h
        · cases h
        · rename_i n hn
          obtain ⟨h1, h2, rfl⟩ := (hl0 s n).1 hn
          split at h
          · cases h
          · rename_i hmin
            injection h with h
            subst h
            have hsn : s ≠ [] := fun e => hc (.inl e)
            have hu := dec_unique s h1 hsn (fun e => by
              have h1 : 1 ≤ s.length := by
                cases s with
                | nil => exact absurd rfl hsn
                | cons a t => simp
              by_cases hl : 1 < s.length
              · exact absurd (.inr (.inr ⟨e, hl⟩)) hc
              · omega)
            refine ⟨?_, by omega, by omega⟩
            unfold itoa
            rw [if_neg (by omega), show (- -((dval s : Nat) : Int)).toNat = dval s by omega, hu]
    · rintro ⟨hs, hv1, hv2⟩
      have hvn : ¬ v < 0 := fun hvn => by
        unfold itoa at hs
        rw [if_pos hvn] at hs
        rw [hs] at hneg
        exact hneg rfl
      unfold itoa at hs
      rw [if_neg hvn] at hs
      obtain ⟨g1, g2⟩ := dec_dgs v.toNat
      rw [← hs] at g1 g2
      have hlt := hlen v.toNat (by omega)
      rw [← hs] at hlt
      rw [if_neg (by
        rintro (e | e | ⟨e, hl⟩)
        · rw [e] at hs; exact dec_ne _ hs.symm
        · omega
        · rw [hs] at e hl
          have := dec_head e
          rw [this, decDigits_one (by decide)] at hl
          simp at hl)]
      have hn : numLoop 0 s = some (-((dval s : Nat) : Int)) := (hl0 s _).2 ⟨g1, by omega, rfl⟩
      rw [hn]
      simp only
      rw [if_neg (by omega)]
      congr 1
      omega
theorem num_same (s : List UInt8) : runNum s = numR s := by
  cases h : runNum s with
  | none =>
    cases h' : numR s with
    | none => rfl
    | some v => rw [runNum_iff.2 (numR_iff.1 h')] at h; cases h
  | some v => exact (numR_iff.2 (runNum_iff.1 h)).symm
theorem tdiv_nat (m : Nat) : (m : Int).tdiv 10 = ((m / 10 : Nat) : Int) := by rfl
theorem tmod_nat (m : Nat) : (m : Int).tmod 10 = ((m % 10 : Nat) : Int) := by rfl
theorem tdiv_neg (m : Nat) : (-(m : Int)).tdiv 10 = -((m / 10 : Nat) : Int) := by rw [Int.neg_tdiv, tdiv_nat]
theorem tmod_neg (m : Nat) : (-(m : Int)).tmod 10 = -((m % 10 : Nat) : Int) := by rw [Int.neg_tmod, tmod_nat]
/-- The key of a number, from its tenth's: the four ways. -/
theorem itoa_one {n : Int} (h0 : 0 ≤ n) (h : n < 10) : itoa n = [UInt8.ofNat (48 + n.toNat)] := by
  unfold itoa
  rw [if_neg (by omega), decDigits_one (by omega)]
theorem itoa_more {n : Int} (h : 10 ≤ n) : itoa n = itoa (n.tdiv 10) ++ [UInt8.ofNat (48 + (n.tmod 10).toNat)] := by
  obtain ⟨m, rfl⟩ : ∃ m : Nat, n = (m : Int) := ⟨n.toNat, by omega⟩
  rw [tdiv_nat, tmod_nat]
  unfold itoa
  rw [if_neg (by omega), if_neg (by omega), show ((m : Int)).toNat = m by omega, show (((m / 10 : Nat) : Int)).toNat = m / 10 by omega, show (((m % 10 : Nat) : Int)).toNat = m % 10 by omega, decDigits, dif_neg (by omega)]
theorem itoa_neg_one {n : Int} (h0 : n < 0) (h : n.tdiv 10 = 0) : itoa n = [45, UInt8.ofNat (48 + (-n).toNat)] := by
  obtain ⟨m, rfl⟩ : ∃ m : Nat, n = -(m : Int) := ⟨n.natAbs, by omega⟩
  rw [tdiv_neg] at h
  unfold itoa
  rw [if_pos h0, show (-(m : Int)).natAbs = m by omega, decDigits_one (by omega), show (- -(m : Int)).toNat = m by omega]
theorem itoa_neg_more {n : Int} (h0 : n < 0) (h : n.tdiv 10 ≠ 0) : itoa n = itoa (n.tdiv 10) ++ [UInt8.ofNat (48 + (-(n.tmod 10)).toNat)] := by
  obtain ⟨m, rfl⟩ : ∃ m : Nat, n = -(m : Int) := ⟨n.natAbs, by omega⟩
  rw [tdiv_neg] at h
  rw [tdiv_neg, tmod_neg]
  unfold itoa
  rw [if_pos h0, if_pos (by omega), show (-(m : Int)).natAbs = m by omega, show (-((m / 10 : Nat) : Int)).natAbs = m / 10 by omega, show (- -((m % 10 : Nat) : Int)).toNat = m % 10 by omega]
  rw [show decDigits m = decDigits (m / 10) ++ [UInt8.ofNat (48 + m % 10)] by rw [decDigits, dif_neg (by omega)]]
  rfl
end Go.Proofs.YtfaaigfgfljdkaaGreatDoor

/- The document's Key: a number in decimal. -/
namespace Go.Proofs.YtfaaigfgfljdkaaGreatDoor
open Go.RowKit

def digs : ByteArray := ⟨#[48, 49, 50, 51, 52, 53, 54, 55, 56, 57]⟩
theorem itoa_len20 {n : Int} (h : I64 n) : (Lib.itoa n).length ≤ 20 := by
  unfold Lib.itoa
  split
  · have h1 := nDigits_up 18 n.natAbs (by have := h.1; omega)
    rw [List.length_cons, Lib.decDigits_length]
    omega
  · have h1 := nDigits_up 18 n.toNat (by have := h.2; omega)
    rw [Lib.decDigits_length]
    omega
theorem dig_at (d : Nat) (h : d < 10) : (⟨#[48, 49, 50, 51, 52, 53, 54, 55, 56, 57]⟩ : ByteArray).extract d (d + 1) = ⟨#[UInt8.ofNat (48 + d)]⟩ := by
  have : d = 0 ∨ d = 1 ∨ d = 2 ∨ d = 3 ∨ d = 4 ∨ d = 5 ∨ d = 6 ∨ d = 7 ∨ d = 8 ∨ d = 9 := by omega
  rcases this with rfl | rfl | rfl | rfl | rfl | rfl | rfl | rfl | rfl | rfl <;> rfl
theorem app_one (l : List UInt8) (b : UInt8) : (⟨l.toArray⟩ : ByteArray) ++ ⟨#[b]⟩ = ⟨(l ++ [b]).toArray⟩ := by
  apply ByteArray.ext
  simp
set_option maxRecDepth 100000 in
set_option maxHeartbeats 2000000 in
theorem key12_ok : ∀ (N : Nat) (n : Int) (w : World), n.natAbs ≤ N → I64 n → Calls Tryz.prog 17 #[.int .i64 n] w fun e w' => e = .returned (.string ⟨(Lib.itoa n).toArray⟩) ∧ ∃ m, w' = w.drewN m
  | N, n, w, hN, hn => by
    by_cases h0 : n < 0
    · by_cases h1 : -10 < n
      · have hcs : n = -1 ∨ n = -2 ∨ n = -3 ∨ n = -4 ∨ n = -5 ∨ n = -6 ∨ n = -7 ∨ n = -8 ∨ n = -9 := by omega
        rcases hcs with rfl | rfl | rfl | rfl | rfl | rfl | rfl | rfl | rfl
        · have HE := Lib.hid (show ((⟨#[45]⟩ : ByteArray) ++ (⟨#[48, 49, 50, 51, 52, 53, 54, 55, 56, 57]⟩ : ByteArray).extract 1 2) = ⟨(Lib.itoa (-1)).toArray⟩ by rw [itoa_neg_one (by decide) (by decide)]; rfl)
          go_enter Tryz.func17, Tryz.ntmps17
          go_wp2_with fail
          go_ret
          exact ⟨by rw [← HE.out]; rfl, 0, by rw [World.drewN_zero]⟩
        · have HE := Lib.hid (show ((⟨#[45]⟩ : ByteArray) ++ (⟨#[48, 49, 50, 51, 52, 53, 54, 55, 56, 57]⟩ : ByteArray).extract 2 3) = ⟨(Lib.itoa (-2)).toArray⟩ by rw [itoa_neg_one (by decide) (by decide)]; rfl)
          go_enter Tryz.func17, Tryz.ntmps17
          go_wp2_with fail
          go_ret
          exact ⟨by rw [← HE.out]; rfl, 0, by rw [World.drewN_zero]⟩
        · have HE := Lib.hid (show ((⟨#[45]⟩ : ByteArray) ++ (⟨#[48, 49, 50, 51, 52, 53, 54, 55, 56, 57]⟩ : ByteArray).extract 3 4) = ⟨(Lib.itoa (-3)).toArray⟩ by rw [itoa_neg_one (by decide) (by decide)]; rfl)
          go_enter Tryz.func17, Tryz.ntmps17
          go_wp2_with fail
          go_ret
          exact ⟨by rw [← HE.out]; rfl, 0, by rw [World.drewN_zero]⟩
        · have HE := Lib.hid (show ((⟨#[45]⟩ : ByteArray) ++ (⟨#[48, 49, 50, 51, 52, 53, 54, 55, 56, 57]⟩ : ByteArray).extract 4 5) = ⟨(Lib.itoa (-4)).toArray⟩ by rw [itoa_neg_one (by decide) (by decide)]; rfl)
          go_enter Tryz.func17, Tryz.ntmps17
          go_wp2_with fail
          go_ret
          exact ⟨by rw [← HE.out]; rfl, 0, by rw [World.drewN_zero]⟩
        · have HE := Lib.hid (show ((⟨#[45]⟩ : ByteArray) ++ (⟨#[48, 49, 50, 51, 52, 53, 54, 55, 56, 57]⟩ : ByteArray).extract 5 6) = ⟨(Lib.itoa (-5)).toArray⟩ by rw [itoa_neg_one (by decide) (by decide)]; rfl)
          go_enter Tryz.func17, Tryz.ntmps17
          go_wp2_with fail
          go_ret
          exact ⟨by rw [← HE.out]; rfl, 0, by rw [World.drewN_zero]⟩
        · have HE := Lib.hid (show ((⟨#[45]⟩ : ByteArray) ++ (⟨#[48, 49, 50, 51, 52, 53, 54, 55, 56, 57]⟩ : ByteArray).extract 6 7) = ⟨(Lib.itoa (-6)).toArray⟩ by rw [itoa_neg_one (by decide) (by decide)]; rfl)
          go_enter Tryz.func17, Tryz.ntmps17
          go_wp2_with fail
          go_ret
          exact ⟨by rw [← HE.out]; rfl, 0, by rw [World.drewN_zero]⟩
        · have HE := Lib.hid (show ((⟨#[45]⟩ : ByteArray) ++ (⟨#[48, 49, 50, 51, 52, 53, 54, 55, 56, 57]⟩ : ByteArray).extract 7 8) = ⟨(Lib.itoa (-7)).toArray⟩ by rw [itoa_neg_one (by decide) (by decide)]; rfl)
          go_enter Tryz.func17, Tryz.ntmps17
          go_wp2_with fail
          go_ret
          exact ⟨by rw [← HE.out]; rfl, 0, by rw [World.drewN_zero]⟩
        · have HE := Lib.hid (show ((⟨#[45]⟩ : ByteArray) ++ (⟨#[48, 49, 50, 51, 52, 53, 54, 55, 56, 57]⟩ : ByteArray).extract 8 9) = ⟨(Lib.itoa (-8)).toArray⟩ by rw [itoa_neg_one (by decide) (by decide)]; rfl)
          go_enter Tryz.func17, Tryz.ntmps17
          go_wp2_with fail
          go_ret
          exact ⟨by rw [← HE.out]; rfl, 0, by rw [World.drewN_zero]⟩
        · have HE := Lib.hid (show ((⟨#[45]⟩ : ByteArray) ++ (⟨#[48, 49, 50, 51, 52, 53, 54, 55, 56, 57]⟩ : ByteArray).extract 9 10) = ⟨(Lib.itoa (-9)).toArray⟩ by rw [itoa_neg_one (by decide) (by decide)]; rfl)
          go_enter Tryz.func17, Tryz.ntmps17
          go_wp2_with fail
          go_ret
          exact ⟨by rw [← HE.out]; rfl, 0, by rw [World.drewN_zero]⟩
      · obtain ⟨m, rfl⟩ : ∃ m : Nat, n = -(m : Int) := ⟨n.natAbs, by omega⟩
        have hm1 : m ≤ 9223372036854775808 := by have := hn.1; omega
        have hm2 : 10 ≤ m := by omega
        cases N with
        | zero => omega
        | succ N =>
          have HIH := Lib.hid (fun W => key12_ok N (-((m / 10 : Nat) : Int)) W (by omega) ⟨by omega, by omega⟩)
          have HE := Lib.hid (And.intro (itoa_neg_more (n := -(m : Int)) h0 (by rw [tdiv_neg]; omega)) (dig_at (m % 10) (by omega)))
          rw [tdiv_neg, tmod_neg] at HE
          have e1 := tdiv_neg m
          have e2 := tmod_neg m
          obtain ⟨q, hq⟩ : ∃ q, m / 10 = q := ⟨_, rfl⟩
          obtain ⟨d, hd⟩ : ∃ d, m % 10 = d := ⟨_, rfl⟩
          have hd9 : d < 10 := by omega
          have hqm : q ≤ 922337203685477580 := by omega
          have hq1 : 1 ≤ q := by omega
          rw [hq] at HIH HE e1
          rw [hd] at HE e2
          clear hq hd hn hN h1
          have w1 : IntKind.i64.wrap (-(q : Int)) = -(q : Int) := by rw [IntKind.wrap_i64]; omega
          have w2 : IntKind.i64.wrap (-(d : Int)) = -(d : Int) := by rw [IntKind.wrap_i64]; omega
          have w3 : IntKind.i64.wrap (0 - -(d : Int)) = (d : Int) := by rw [IntKind.wrap_i64]; omega
          have w4 : IntKind.i64.wrap (1 - -(d : Int)) = (d : Int) + 1 := by rw [IntKind.wrap_i64]; omega
          have w5 : IntKind.i64.wrap (d : Int) = (d : Int) := by rw [IntKind.wrap_i64]; omega
          have w6 : IntKind.i64.wrap (1 + (d : Int)) = (d : Int) + 1 := by rw [IntKind.wrap_i64]; omega
          have v1 : wrap64 (-(q : Int)) = -(q : Int) := by unfold wrap64; omega
          have hqz : ((-(q : Int)) == 0) = false := by rw [beq_eq_false_iff_ne]; omega
          have hc1 : 0 ≤ (d : Int) + 1 ∧ (d : Int) + 1 ≤ 10 := by omega
          have hc2 : (d : Int) ≤ (d : Int) + 1 := by omega
          have hc3 : ¬ 9223372036854775807 < (Lib.itoa (-(q : Int))).length + (min (d + 1) 10 - d) := by have := itoa_len20 (n := -(q : Int)) ⟨by omega, by omega⟩; omega
          go_enter Tryz.func17, Tryz.ntmps17
          go_wp2_with fail
          go_quiet (first | (go_at_call 17; exact (HIH.out _).mono (fun e w' ⟨h1, j, h2⟩ => ⟨h1, _, h2.trans (World.drewN_drewN _ _ _)⟩)) | fail)
          go_wp2_with fail
          go_ret
          refine ⟨?_, _, rfl⟩
          show Ending.returned (.string ((⟨(Lib.itoa (-(q : Int))).toArray⟩ : ByteArray) ++ (⟨#[48, 49, 50, 51, 52, 53, 54, 55, 56, 57]⟩ : ByteArray).extract d (d + 1))) = .returned (.string ⟨(Lib.itoa (-(m : Int))).toArray⟩)
          rw [HE.out.2, app_one, HE.out.1]
          simp
    · by_cases h1 : n < 10
      · have hcs : n = 0 ∨ n = 1 ∨ n = 2 ∨ n = 3 ∨ n = 4 ∨ n = 5 ∨ n = 6 ∨ n = 7 ∨ n = 8 ∨ n = 9 := by omega
        rcases hcs with rfl | rfl | rfl | rfl | rfl | rfl | rfl | rfl | rfl | rfl
        · have HE := Lib.hid (show (⟨#[48, 49, 50, 51, 52, 53, 54, 55, 56, 57]⟩ : ByteArray).extract 0 1 = ⟨(Lib.itoa 0).toArray⟩ by rw [itoa_one (by decide) (by decide)]; rfl)
          go_enter Tryz.func17, Tryz.ntmps17
          go_wp2_with fail
          go_ret
          exact ⟨by rw [← HE.out]; rfl, 0, by rw [World.drewN_zero]⟩
        · have HE := Lib.hid (show (⟨#[48, 49, 50, 51, 52, 53, 54, 55, 56, 57]⟩ : ByteArray).extract 1 2 = ⟨(Lib.itoa 1).toArray⟩ by rw [itoa_one (by decide) (by decide)]; rfl)
          go_enter Tryz.func17, Tryz.ntmps17
          go_wp2_with fail
          go_ret
          exact ⟨by rw [← HE.out]; rfl, 0, by rw [World.drewN_zero]⟩
        · have HE := Lib.hid (show (⟨#[48, 49, 50, 51, 52, 53, 54, 55, 56, 57]⟩ : ByteArray).extract 2 3 = ⟨(Lib.itoa 2).toArray⟩ by rw [itoa_one (by decide) (by decide)]; rfl)
          go_enter Tryz.func17, Tryz.ntmps17
          go_wp2_with fail
          go_ret
          exact ⟨by rw [← HE.out]; rfl, 0, by rw [World.drewN_zero]⟩
        · have HE := Lib.hid (show (⟨#[48, 49, 50, 51, 52, 53, 54, 55, 56, 57]⟩ : ByteArray).extract 3 4 = ⟨(Lib.itoa 3).toArray⟩ by rw [itoa_one (by decide) (by decide)]; rfl)
          go_enter Tryz.func17, Tryz.ntmps17
          go_wp2_with fail
          go_ret
          exact ⟨by rw [← HE.out]; rfl, 0, by rw [World.drewN_zero]⟩
        · have HE := Lib.hid (show (⟨#[48, 49, 50, 51, 52, 53, 54, 55, 56, 57]⟩ : ByteArray).extract 4 5 = ⟨(Lib.itoa 4).toArray⟩ by rw [itoa_one (by decide) (by decide)]; rfl)
          go_enter Tryz.func17, Tryz.ntmps17
          go_wp2_with fail
          go_ret
          exact ⟨by rw [← HE.out]; rfl, 0, by rw [World.drewN_zero]⟩
        · have HE := Lib.hid (show (⟨#[48, 49, 50, 51, 52, 53, 54, 55, 56, 57]⟩ : ByteArray).extract 5 6 = ⟨(Lib.itoa 5).toArray⟩ by rw [itoa_one (by decide) (by decide)]; rfl)
          go_enter Tryz.func17, Tryz.ntmps17
          go_wp2_with fail
          go_ret
          exact ⟨by rw [← HE.out]; rfl, 0, by rw [World.drewN_zero]⟩
        · have HE := Lib.hid (show (⟨#[48, 49, 50, 51, 52, 53, 54, 55, 56, 57]⟩ : ByteArray).extract 6 7 = ⟨(Lib.itoa 6).toArray⟩ by rw [itoa_one (by decide) (by decide)]; rfl)
          go_enter Tryz.func17, Tryz.ntmps17
          go_wp2_with fail
          go_ret
          exact ⟨by rw [← HE.out]; rfl, 0, by rw [World.drewN_zero]⟩
        · have HE := Lib.hid (show (⟨#[48, 49, 50, 51, 52, 53, 54, 55, 56, 57]⟩ : ByteArray).extract 7 8 = ⟨(Lib.itoa 7).toArray⟩ by rw [itoa_one (by decide) (by decide)]; rfl)
          go_enter Tryz.func17, Tryz.ntmps17
          go_wp2_with fail
          go_ret
          exact ⟨by rw [← HE.out]; rfl, 0, by rw [World.drewN_zero]⟩
        · have HE := Lib.hid (show (⟨#[48, 49, 50, 51, 52, 53, 54, 55, 56, 57]⟩ : ByteArray).extract 8 9 = ⟨(Lib.itoa 8).toArray⟩ by rw [itoa_one (by decide) (by decide)]; rfl)
          go_enter Tryz.func17, Tryz.ntmps17
          go_wp2_with fail
          go_ret
          exact ⟨by rw [← HE.out]; rfl, 0, by rw [World.drewN_zero]⟩
        · have HE := Lib.hid (show (⟨#[48, 49, 50, 51, 52, 53, 54, 55, 56, 57]⟩ : ByteArray).extract 9 10 = ⟨(Lib.itoa 9).toArray⟩ by rw [itoa_one (by decide) (by decide)]; rfl)
          go_enter Tryz.func17, Tryz.ntmps17
          go_wp2_with fail
          go_ret
          exact ⟨by rw [← HE.out]; rfl, 0, by rw [World.drewN_zero]⟩
      · obtain ⟨m, rfl⟩ : ∃ m : Nat, n = (m : Int) := ⟨n.toNat, by omega⟩
        have hm1 : m ≤ 9223372036854775807 := by have := hn.2; omega
        have hm2 : 10 ≤ m := by omega
        cases N with
        | zero => omega
        | succ N =>
          have HIH := Lib.hid (fun W => key12_ok N ((m / 10 : Nat) : Int) W (by omega) ⟨by omega, by omega⟩)
          have HE := Lib.hid (And.intro (itoa_more (n := (m : Int)) (by omega)) (dig_at (m % 10) (by omega)))
          rw [tdiv_nat, tmod_nat] at HE
          have e1 := tdiv_nat m
          have e2 := tmod_nat m
          obtain ⟨q, hq⟩ : ∃ q, m / 10 = q := ⟨_, rfl⟩
          obtain ⟨d, hd⟩ : ∃ d, m % 10 = d := ⟨_, rfl⟩
          have hd9 : d < 10 := by omega
          have hqm : q ≤ 922337203685477580 := by omega
          rw [hq] at HIH HE e1
          rw [hd] at HE e2
          clear hq hd hn hN
          have w1 : IntKind.i64.wrap (q : Int) = (q : Int) := by rw [IntKind.wrap_i64]; omega
          have w2 : IntKind.i64.wrap (d : Int) = (d : Int) := by rw [IntKind.wrap_i64]; omega
          have w3 : IntKind.i64.wrap ((d : Int) + 1) = (d : Int) + 1 := by rw [IntKind.wrap_i64]; omega
          have hc1 : 0 ≤ (d : Int) + 1 ∧ (d : Int) + 1 ≤ 10 := by omega
          have hc2 : (d : Int) ≤ (d : Int) + 1 := by omega
          have hc3 : ¬ 9223372036854775807 < (Lib.itoa ((q : Int))).length + (min (d + 1) 10 - d) := by have := itoa_len20 (n := (q : Int)) ⟨by omega, by omega⟩; omega
          go_enter Tryz.func17, Tryz.ntmps17
          go_wp2_with fail
          go_quiet (first | (go_at_call 17; exact (HIH.out _).mono (fun e w' ⟨h1, j, h2⟩ => ⟨h1, _, h2.trans (World.drewN_drewN _ _ _)⟩)) | fail)
          go_wp2_with fail
          go_ret
          refine ⟨?_, _, rfl⟩
          show Ending.returned (.string ((⟨(Lib.itoa ((q : Int))).toArray⟩ : ByteArray) ++ (⟨#[48, 49, 50, 51, 52, 53, 54, 55, 56, 57]⟩ : ByteArray).extract d (d + 1))) = .returned (.string ⟨(Lib.itoa ((m : Int))).toArray⟩)
          rw [HE.out.2, app_one, HE.out.1]
          simp
end Go.Proofs.YtfaaigfgfljdkaaGreatDoor

/- The document's Number: a key's number. -/
namespace Go.Proofs.YtfaaigfgfljdkaaGreatDoor
open Go.RowKit

def NumA (r : Option Int) (w : World) (e : Ending) (w' : World) : Prop := e = .returned (.tuple #[.int .i64 (r.getD (-1)), .bool r.isSome]) ∧ Below w.heap.size w w'
def NumR (t : List UInt8) (k : Nat) (n : Int) : Prop := numLoop 0 t = numLoop n (t.drop k) ∧ -9223372036854775808 ≤ n ∧ n ≤ 0
@[go_sem] theorem bytes_get0 (b : UInt8) (t : List UInt8) (h : 0 < (⟨(b :: t).toArray⟩ : ByteArray).size) : (⟨(b :: t).toArray⟩ : ByteArray)[0]'h = b := rfl
theorem extract_tail (b : UInt8) (t : List UInt8) : (⟨(b :: t).toArray⟩ : ByteArray).extract 1 (t.length + 1) = ⟨t.toArray⟩ := by
  apply ByteArray.ext
  simp
theorem numLoop_bad {n : Int} {b : UInt8} {r : List UInt8} (h : (b.toNat : Int) - 48 < 0 ∨ 9 < (b.toNat : Int) - 48 ∨ n < -922337203685477580 ∨ (n = -922337203685477580 ∧ 8 < (b.toNat : Int) - 48)) : numLoop n (b :: r) = none := by rw [numLoop, if_pos h]
theorem numLoop_ok {n : Int} {b : UInt8} {r : List UInt8} (h : ¬ ((b.toNat : Int) - 48 < 0 ∨ 9 < (b.toNat : Int) - 48 ∨ n < -922337203685477580 ∨ (n = -922337203685477580 ∧ 8 < (b.toNat : Int) - 48))) : numLoop n (b :: r) = numLoop (10 * n - ((b.toNat : Int) - 48)) r := by rw [numLoop, if_neg h]
theorem drop_atB {l : List UInt8} {k : Nat} {x : UInt8} (hx : l[k]? = some x) : l.drop k = x :: l.drop (k + 1) := by
  have hlt := (List.getElem?_eq_some_iff.1 hx).1
  rw [List.drop_eq_getElem_cons hlt, (List.getElem?_eq_some_iff.1 hx).2]
set_option maxRecDepth 100000 in
set_option maxHeartbeats 4000000 in
theorem number12_ok (w : World) (s : List UInt8) (hl : s.length ≤ 1000) : Calls Tryz.prog 15 #[.string ⟨s.toArray⟩] w (NumA (numR s) w) := by
  by_cases hneg : s.head? = some 45
  · obtain ⟨t, rfl⟩ : ∃ t, s = 45 :: t := by
      cases s with
      | nil => simp at hneg
      | cons b t => simp at hneg; exact ⟨t, by rw [hneg]⟩
    have hx := extract_tail 45 t
    have hnr : numR (45 :: t) = numNeg t := by unfold numR; rw [if_pos hneg] <;> rfl
    simp only [List.length_cons] at hl
    clear hneg
    go_enter Tryz.func15, Tryz.ntmps15
    go_upto_region 5 with fail
    clear hx
    by_cases hbad : t = [] ∨ 19 < t.length ∨ t.head? = some 48
    · have HN := Lib.hid (show numR (45 :: t) = none by rw [hnr, numNeg, if_pos hbad])
      clear hnr
      rcases t with _ | ⟨b, t⟩
      · go_wp2_with fail
        go_ret2
        exact ⟨by rw [HN.out]; rfl, Below.refl _ _⟩
      · by_cases h19 : 19 < t.length + 1
        · have h19' : (19 : Int) < (t.length : Int) + 1 := by omega
          go_wp2_with fail
          go_ret2
          exact ⟨by rw [HN.out]; rfl, Below.refl _ _⟩
        · have h19' : ¬ (19 : Int) < (t.length : Int) + 1 := by omega
          have hz0 : (((t.length : Int) + 1) == 0) = false := by rw [beq_eq_false_iff_ne]; omega
          obtain rfl : b = 48 := by
            rcases hbad with h | h | h
            · cases h
            · simp at h; omega
            · simpa using h
          go_wp2_with fail
          all_goals go_ret2
          all_goals exact ⟨by rw [HN.out]; rfl, Below.refl _ _⟩
    · have HNR := Lib.hid (show numR (45 :: t) = numLoop 0 t by rw [hnr, numNeg, if_neg hbad])
      have h0 : ¬ t = [] := fun h => hbad (.inl h)
      obtain ⟨b0, t0, rfl⟩ : ∃ b t0, t = b :: t0 := by
        cases t with
        | nil => exact absurd rfl h0
        | cons b t0 => exact ⟨b, t0, rfl⟩
      have h19 : ¬ (19 : Int) < (t0.length : Int) + 1 := fun h => hbad (.inr (.inl (by simp; omega)))
      have hb0 : ((b0.toNat : Int) == 48) = false := by
        rw [beq_eq_false_iff_ne]
        intro h
        exact hbad (.inr (.inr (by simp; apply UInt8.toNat_inj.1; simpa using (by omega : b0.toNat = 48))))
      have hz0 : (((t0.length : Int) + 1) == 0) = false := by rw [beq_eq_false_iff_ne]; omega
      clear hnr hbad h0
      go_wp2_with fail
      go_loop [6, 7] (fun n i => ∃ (k : Nat) (nn : Int), n = .int .i64 nn ∧ i = .int .i64 (k : Int) ∧ k ≤ (b0 :: t0).length ∧ NumR (b0 :: t0) k nn) (fun _ i => (b0 :: t0).length - (intOf i).toNat)
      case atStart => exact ⟨0, 0, rfl, rfl, Nat.zero_le _, rfl, by decide, by decide⟩
      case round =>
        obtain ⟨k, n, rfl, rfl, hk, r1, r2, r3⟩ := hrel
        rename_i u8
        have hkl : k ≤ 1000 := by
          have hk2 := hk
          have hl2 := hl
          simp only [List.length_cons] at hk2
          try simp only [List.length_cons] at hl2
          omega
        by_cases hlt : k < (b0 :: t0).length
        · obtain ⟨b, hb⟩ : ∃ b, (b0 :: t0)[k]? = some b := ⟨_, List.getElem?_eq_getElem hlt⟩
          have hbx : ∀ h, (⟨(b0 :: t0).toArray⟩ : ByteArray)[k]'h = b := fun h => by exact (List.getElem?_eq_some_iff.1 hb).2
          have hb256 : b.toNat < 256 := b.toNat_lt
          rw [drop_atB hb] at r1
          have HB := Lib.hid (fun h => show numR (45 :: b0 :: t0) = none from (by rw [HNR.out, r1, numLoop_bad h]))
          have HR := Lib.hid r1
          clear r1 hb
          obtain ⟨d, hd⟩ : ∃ d, b.toNat = d := ⟨_, rfl⟩
          rw [hd] at HB hb256
          have hw0 : wrap64 ((d : Int) - 48) = (d : Int) - 48 := by unfold wrap64; omega
          have hi1 : (0 : Int) ≤ (k : Int) := by omega
          have hi2 : (k : Int) < (t0.length : Int) + 1 := by simp only [List.length_cons] at hlt; omega
          by_cases c1 : (d : Int) - 48 < 0
          · skip
            have HN := Lib.hid (HB.out (by exact .inl c1))
            clear HB HR
            go_wp2_with fail
            go_ret2
            exact ⟨by rw [HN.out]; rfl, Below.refl _ _⟩
          by_cases c2 : 9 < (d : Int) - 48
          · skip
            have HN := Lib.hid (HB.out (by exact .inr (.inl c2)))
            clear HB HR
            go_wp2_with fail
            go_ret2
            exact ⟨by rw [HN.out]; rfl, Below.refl _ _⟩
          by_cases c3 : n < -922337203685477580
          · skip
            have HN := Lib.hid (HB.out (by exact .inr (.inr (.inl c3))))
            clear HB HR
            go_wp2_with fail
            go_ret2
            exact ⟨by rw [HN.out]; rfl, Below.refl _ _⟩
          by_cases c4 : n = -922337203685477580
          · subst c4
            by_cases c5 : 8 < (d : Int) - 48
            · skip
              have HN := Lib.hid (HB.out (by exact .inr (.inr (.inr ⟨rfl, c5⟩))))
              clear HB HR
              go_wp2_with fail
              go_ret2
              exact ⟨by rw [HN.out]; rfl, Below.refl _ _⟩
            · skip
              have HN := Lib.hid (HR.out.trans (numLoop_ok (by rw [hd]; omega)))
              rw [hd] at HN
              skip
              have hw2 : wrap64 (10 * (-922337203685477580) - ((d : Int) - 48)) = 10 * (-922337203685477580) - ((d : Int) - 48) := by unfold wrap64; omega
              skip
              clear HB HR
              go_wp2_with fail
              go_round
              case rel => exact ⟨k + 1, 10 * (-922337203685477580) - ((d : Int) - 48), rfl, by go_num, by omega, HN.out, by omega, by omega⟩
              case measure => simp [intOf]; omega
          · skip
            have HN := Lib.hid (HR.out.trans (numLoop_ok (by rw [hd]; omega)))
            rw [hd] at HN
            have hw1 : wrap64 (10 * n) = 10 * n := by unfold wrap64; omega
            have hw2 : wrap64 (10 * n - ((d : Int) - 48)) = 10 * n - ((d : Int) - 48) := by unfold wrap64; omega
            have hn4 : ((n : Int) == -922337203685477580) = false := by rw [beq_eq_false_iff_ne]; exact c4
            clear HB HR
            go_wp2_with fail
            go_round
            case rel => exact ⟨k + 1, 10 * n - ((d : Int) - 48), rfl, by go_num, by omega, HN.out, by omega, by omega⟩
            case measure => simp [intOf]; omega
        · have hi3 : ¬ (k : Int) < (t0.length : Int) + 1 := by simp only [List.length_cons] at hlt; omega
          obtain rfl : k = (b0 :: t0).length := by omega
          rw [List.drop_length] at r1
          have HN := Lib.hid (show numLoop 0 (b0 :: t0) = some n by rw [r1]; rfl)
          clear r1
          go_wp2_with fail
          go_ret2
          exact ⟨by rw [HNR.out, HN.out]; rfl, Below.refl _ _⟩
  · cases s with
    | nil =>
      go_enter Tryz.func15, Tryz.ntmps15
      go_wp2_with fail
      go_ret2
      exact ⟨rfl, Below.refl _ _⟩
    | cons b0 t0 =>
      have hb45 : ((b0.toNat : Int) == 45) = false := by
        rw [beq_eq_false_iff_ne]
        intro h
        exact hneg (by simp; apply UInt8.toNat_inj.1; simpa using (by omega : b0.toNat = 45))
      have hnr : numR (b0 :: t0) = if (b0 :: t0) = [] ∨ 19 < (b0 :: t0).length ∨ ((b0 :: t0).head? = some 48 ∧ 1 < (b0 :: t0).length) then none else match numLoop 0 (b0 :: t0) with | none => none | some n => if n = -9223372036854775808 then none else some (-n) := by unfold numR; rw [if_neg hneg] <;> rfl
      simp only [List.length_cons] at hl
      clear hneg
      have hz0 : (((t0.length : Int) + 1) == 0) = false := by rw [beq_eq_false_iff_ne]; omega
      by_cases hbad : (b0 :: t0) = [] ∨ 19 < (b0 :: t0).length ∨ ((b0 :: t0).head? = some 48 ∧ 1 < (b0 :: t0).length)
      · have HN := Lib.hid (show numR (b0 :: t0) = none by rw [hnr, if_pos hbad])
        clear hnr
        by_cases h19 : 19 < t0.length + 1
        · have h19' : (19 : Int) < (t0.length : Int) + 1 := by omega
          go_enter Tryz.func15, Tryz.ntmps15
          go_wp2_with fail
          go_ret2
          exact ⟨by rw [HN.out]; rfl, Below.refl _ _⟩
        · have h19' : ¬ (19 : Int) < (t0.length : Int) + 1 := by omega
          obtain ⟨rfl, h1l⟩ : b0 = 48 ∧ 1 < t0.length + 1 := by
            rcases hbad with h | h | h
            · cases h
            · simp at h; omega
            · exact ⟨by simpa using h.1, by simpa using h.2⟩
          have h1' : (1 : Int) < (t0.length : Int) + 1 := by omega
          go_enter Tryz.func15, Tryz.ntmps15
          go_wp2_with fail
          go_ret2
          exact ⟨by rw [HN.out]; rfl, Below.refl _ _⟩
      · have HNR := Lib.hid (show numR (b0 :: t0) = match numLoop 0 (b0 :: t0) with | none => none | some n => if n = -9223372036854775808 then none else some (-n) by rw [hnr, if_neg hbad])
        have h19 : ¬ (19 : Int) < (t0.length : Int) + 1 := fun h => hbad (.inr (.inl (by simp; omega)))
        by_cases h48 : b0 = 48
        · subst h48
          have h1' : ¬ (1 : Int) < (t0.length : Int) + 1 := fun h => hbad (.inr (.inr ⟨rfl, by simp; omega⟩))
          clear hnr hbad
          go_enter Tryz.func15, Tryz.ntmps15
          go_wp2_with fail
          go_loop [6, 7] (fun n i => ∃ (k : Nat) (nn : Int), n = .int .i64 nn ∧ i = .int .i64 (k : Int) ∧ k ≤ (48 :: t0).length ∧ NumR (48 :: t0) k nn) (fun _ i => (48 :: t0).length - (intOf i).toNat)
          case atStart => exact ⟨0, 0, rfl, rfl, Nat.zero_le _, rfl, by decide, by decide⟩
          case round =>
            obtain ⟨k, n, rfl, rfl, hk, r1, r2, r3⟩ := hrel
            rename_i u8
            have hkl : k ≤ 1000 := by
              have hk2 := hk
              have hl2 := hl
              simp only [List.length_cons] at hk2
              try simp only [List.length_cons] at hl2
              omega
            by_cases hlt : k < (48 :: t0).length
            · obtain ⟨b, hb⟩ : ∃ b, (48 :: t0)[k]? = some b := ⟨_, List.getElem?_eq_getElem hlt⟩
              have hbx : ∀ h, (⟨(48 :: t0).toArray⟩ : ByteArray)[k]'h = b := fun h => by exact (List.getElem?_eq_some_iff.1 hb).2
              have hb256 : b.toNat < 256 := b.toNat_lt
              rw [drop_atB hb] at r1
              have HB := Lib.hid (fun h => show numR (48 :: t0) = none from (by rw [HNR.out, r1, numLoop_bad h]))
              have HR := Lib.hid r1
              clear r1 hb
              obtain ⟨d, hd⟩ : ∃ d, b.toNat = d := ⟨_, rfl⟩
              rw [hd] at HB hb256
              have hw0 : wrap64 ((d : Int) - 48) = (d : Int) - 48 := by unfold wrap64; omega
              have hi1 : (0 : Int) ≤ (k : Int) := by omega
              have hi2 : (k : Int) < (t0.length : Int) + 1 := by simp only [List.length_cons] at hlt; omega
              by_cases c1 : (d : Int) - 48 < 0
              · skip
                have HN := Lib.hid (HB.out (by exact .inl c1))
                clear HB HR
                go_wp2_with fail
                go_ret2
                exact ⟨by rw [HN.out]; rfl, Below.refl _ _⟩
              by_cases c2 : 9 < (d : Int) - 48
              · skip
                have HN := Lib.hid (HB.out (by exact .inr (.inl c2)))
                clear HB HR
                go_wp2_with fail
                go_ret2
                exact ⟨by rw [HN.out]; rfl, Below.refl _ _⟩
              by_cases c3 : n < -922337203685477580
              · skip
                have HN := Lib.hid (HB.out (by exact .inr (.inr (.inl c3))))
                clear HB HR
                go_wp2_with fail
                go_ret2
                exact ⟨by rw [HN.out]; rfl, Below.refl _ _⟩
              by_cases c4 : n = -922337203685477580
              · subst c4
                by_cases c5 : 8 < (d : Int) - 48
                · skip
                  have HN := Lib.hid (HB.out (by exact .inr (.inr (.inr ⟨rfl, c5⟩))))
                  clear HB HR
                  go_wp2_with fail
                  go_ret2
                  exact ⟨by rw [HN.out]; rfl, Below.refl _ _⟩
                · skip
                  have HN := Lib.hid (HR.out.trans (numLoop_ok (by rw [hd]; omega)))
                  rw [hd] at HN
                  skip
                  have hw2 : wrap64 (10 * (-922337203685477580) - ((d : Int) - 48)) = 10 * (-922337203685477580) - ((d : Int) - 48) := by unfold wrap64; omega
                  skip
                  clear HB HR
                  go_wp2_with fail
                  go_round
                  case rel => exact ⟨k + 1, 10 * (-922337203685477580) - ((d : Int) - 48), rfl, by go_num, by omega, HN.out, by omega, by omega⟩
                  case measure => simp [intOf]; omega
              · skip
                have HN := Lib.hid (HR.out.trans (numLoop_ok (by rw [hd]; omega)))
                rw [hd] at HN
                have hw1 : wrap64 (10 * n) = 10 * n := by unfold wrap64; omega
                have hw2 : wrap64 (10 * n - ((d : Int) - 48)) = 10 * n - ((d : Int) - 48) := by unfold wrap64; omega
                have hn4 : ((n : Int) == -922337203685477580) = false := by rw [beq_eq_false_iff_ne]; exact c4
                clear HB HR
                go_wp2_with fail
                go_round
                case rel => exact ⟨k + 1, 10 * n - ((d : Int) - 48), rfl, by go_num, by omega, HN.out, by omega, by omega⟩
                case measure => simp [intOf]; omega
            · have hi3 : ¬ (k : Int) < (t0.length : Int) + 1 := by simp only [List.length_cons] at hlt; omega
              obtain rfl : k = (48 :: t0).length := by omega
              rw [List.drop_length] at r1
              have HN := Lib.hid (show numLoop 0 (48 :: t0) = some n by rw [r1]; rfl)
              clear r1
              by_cases hm : n = -9223372036854775808
              · subst hm
                go_wp2_with fail
                go_ret2
                exact ⟨by rw [HNR.out, HN.out]; rfl, Below.refl _ _⟩
              · have hm1 : (n == -9223372036854775808) = false := by rw [beq_eq_false_iff_ne]; exact hm
                have hw : wrap64 (-n) = -n := by unfold wrap64; omega
                go_wp2_with fail
                go_ret2
                exact ⟨by rw [HNR.out, HN.out]; simp only [if_neg hm]; rfl, Below.refl _ _⟩
        · have hb0 : ((b0.toNat : Int) == 48) = false := by
            rw [beq_eq_false_iff_ne]
            intro h
            exact h48 (by apply UInt8.toNat_inj.1; simpa using (by omega : b0.toNat = 48))
          clear hnr hbad h48
          go_enter Tryz.func15, Tryz.ntmps15
          go_wp2_with fail
          go_loop [6, 7] (fun n i => ∃ (k : Nat) (nn : Int), n = .int .i64 nn ∧ i = .int .i64 (k : Int) ∧ k ≤ (b0 :: t0).length ∧ NumR (b0 :: t0) k nn) (fun _ i => (b0 :: t0).length - (intOf i).toNat)
          case atStart => exact ⟨0, 0, rfl, rfl, Nat.zero_le _, rfl, by decide, by decide⟩
          case round =>
            obtain ⟨k, n, rfl, rfl, hk, r1, r2, r3⟩ := hrel
            rename_i u8
            have hkl : k ≤ 1000 := by
              have hk2 := hk
              have hl2 := hl
              simp only [List.length_cons] at hk2
              try simp only [List.length_cons] at hl2
              omega
            by_cases hlt : k < (b0 :: t0).length
            · obtain ⟨b, hb⟩ : ∃ b, (b0 :: t0)[k]? = some b := ⟨_, List.getElem?_eq_getElem hlt⟩
              have hbx : ∀ h, (⟨(b0 :: t0).toArray⟩ : ByteArray)[k]'h = b := fun h => by exact (List.getElem?_eq_some_iff.1 hb).2
              have hb256 : b.toNat < 256 := b.toNat_lt
              rw [drop_atB hb] at r1
              have HB := Lib.hid (fun h => show numR (b0 :: t0) = none from (by rw [HNR.out, r1, numLoop_bad h]))
              have HR := Lib.hid r1
              clear r1 hb
              obtain ⟨d, hd⟩ : ∃ d, b.toNat = d := ⟨_, rfl⟩
              rw [hd] at HB hb256
              have hw0 : wrap64 ((d : Int) - 48) = (d : Int) - 48 := by unfold wrap64; omega
              have hi1 : (0 : Int) ≤ (k : Int) := by omega
              have hi2 : (k : Int) < (t0.length : Int) + 1 := by simp only [List.length_cons] at hlt; omega
              by_cases c1 : (d : Int) - 48 < 0
              · skip
                have HN := Lib.hid (HB.out (by exact .inl c1))
                clear HB HR
                go_wp2_with fail
                go_ret2
                exact ⟨by rw [HN.out]; rfl, Below.refl _ _⟩
              by_cases c2 : 9 < (d : Int) - 48
              · skip
                have HN := Lib.hid (HB.out (by exact .inr (.inl c2)))
                clear HB HR
                go_wp2_with fail
                go_ret2
                exact ⟨by rw [HN.out]; rfl, Below.refl _ _⟩
              by_cases c3 : n < -922337203685477580
              · skip
                have HN := Lib.hid (HB.out (by exact .inr (.inr (.inl c3))))
                clear HB HR
                go_wp2_with fail
                go_ret2
                exact ⟨by rw [HN.out]; rfl, Below.refl _ _⟩
              by_cases c4 : n = -922337203685477580
              · subst c4
                by_cases c5 : 8 < (d : Int) - 48
                · skip
                  have HN := Lib.hid (HB.out (by exact .inr (.inr (.inr ⟨rfl, c5⟩))))
                  clear HB HR
                  go_wp2_with fail
                  go_ret2
                  exact ⟨by rw [HN.out]; rfl, Below.refl _ _⟩
                · skip
                  have HN := Lib.hid (HR.out.trans (numLoop_ok (by rw [hd]; omega)))
                  rw [hd] at HN
                  skip
                  have hw2 : wrap64 (10 * (-922337203685477580) - ((d : Int) - 48)) = 10 * (-922337203685477580) - ((d : Int) - 48) := by unfold wrap64; omega
                  skip
                  clear HB HR
                  go_wp2_with fail
                  go_round
                  case rel => exact ⟨k + 1, 10 * (-922337203685477580) - ((d : Int) - 48), rfl, by go_num, by omega, HN.out, by omega, by omega⟩
                  case measure => simp [intOf]; omega
              · skip
                have HN := Lib.hid (HR.out.trans (numLoop_ok (by rw [hd]; omega)))
                rw [hd] at HN
                have hw1 : wrap64 (10 * n) = 10 * n := by unfold wrap64; omega
                have hw2 : wrap64 (10 * n - ((d : Int) - 48)) = 10 * n - ((d : Int) - 48) := by unfold wrap64; omega
                have hn4 : ((n : Int) == -922337203685477580) = false := by rw [beq_eq_false_iff_ne]; exact c4
                clear HB HR
                go_wp2_with fail
                go_round
                case rel => exact ⟨k + 1, 10 * n - ((d : Int) - 48), rfl, by go_num, by omega, HN.out, by omega, by omega⟩
                case measure => simp [intOf]; omega
            · have hi3 : ¬ (k : Int) < (t0.length : Int) + 1 := by simp only [List.length_cons] at hlt; omega
              obtain rfl : k = (b0 :: t0).length := by omega
              rw [List.drop_length] at r1
              have HN := Lib.hid (show numLoop 0 (b0 :: t0) = some n by rw [r1]; rfl)
              clear r1
              by_cases hm : n = -9223372036854775808
              · subst hm
                go_wp2_with fail
                go_ret2
                exact ⟨by rw [HNR.out, HN.out]; rfl, Below.refl _ _⟩
              · have hm1 : (n == -9223372036854775808) = false := by rw [beq_eq_false_iff_ne]; exact hm
                have hw : wrap64 (-n) = -n := by unfold wrap64; omega
                go_wp2_with fail
                go_ret2
                exact ⟨by rw [HNR.out, HN.out]; simp only [if_neg hm]; rfl, Below.refl _ _⟩
end Go.Proofs.YtfaaigfgfljdkaaGreatDoor

/- run.Number: a key's number. -/
namespace Go.Proofs.YtfaaigfgfljdkaaGreatDoor
open Go.RowKit

theorem var_below {w w' : World} {name : String} {g : Nat} {cs : Array Value} (hg : Tryz.prog.globalNamed name = some g) (h : w.var? Tryz.prog name = some cs) (hb : Below w.heap.size w w') : w'.var? Tryz.prog name = some cs := by
  unfold World.var? at h ⊢
  rw [hg] at h ⊢
  simp only [Option.bind_some] at h ⊢
  have hlt : g < w.heap.size := by
    rcases Nat.lt_or_ge g w.heap.size with h' | h'
    · exact h'
    · rw [Array.getElem?_eq_none h'] at h; cases h
  rw [hb.block g hlt]
  exact h
/-- The errors of strconv are laid. -/
def Errs (w : World) : Prop := (∃ tp p, w.var? Tryz.prog "strconv.ErrSyntax" = some #[.iface tp p]) ∧ ∃ tp p, w.var? Tryz.prog "strconv.ErrRange" = some #[.iface tp p]
theorem Tryz.gSyn : Tryz.prog.globalNamed "strconv.ErrSyntax" = some 1 := by kernel_rfl
theorem Tryz.gRng : Tryz.prog.globalNamed "strconv.ErrRange" = some 2 := by kernel_rfl
theorem Errs.below {w w' : World} (h : Errs w) (hb : Below w.heap.size w w') : Errs w' := by
  obtain ⟨⟨t1, p1, h1⟩, t2, p2, h2⟩ := h
  exact ⟨⟨t1, p1, var_below Tryz.gSyn h1 hb⟩, t2, p2, var_below Tryz.gRng h2 hb⟩
set_option maxRecDepth 100000 in
set_option maxHeartbeats 2000000 in
theorem runNumber_ok (w : World) (s : List UInt8) (hl : s.length ≤ 1000) (ht : Tab10 w) (he : Errs w) : Calls Tryz.prog 14 #[.string ⟨s.toArray⟩] w (NumA (runNum s) w) := by
  have hsz : (⟨s.toArray⟩ : ByteArray).size ≤ 1000 := by simpa [ByteArray.size] using hl
  cases ha : Lib.atoiAll s with
  | ok v =>
    have H := Lib.hid (Any.strconv_Atoi_ok Tryz.laysC172 ⟨s.toArray⟩ (by omega) v (by simpa using ha) w)
    have hfv := Lib.atoiAll_bounds ha
    have HT := Lib.hid (And.intro ht (And.intro hfv (show runNum s = if Lib.itoa v = s then some v else none by unfold runNum; rw [ha])))
    clear ht he ha hfv
    go_enter Tryz.func14, Tryz.ntmps14
    go_wp2_with fail
    refine H.out.mono ?_
    rintro e w2 ⟨rfl, hw2⟩
    have hb2 : Below w.heap.size w w2 := by
      rcases hw2 with rfl | ⟨t, rfl⟩
      · exact Below.refl _ _
      · exact Lib.bytesWorld_below _ _ _
    have HB := Lib.hid hb2
    clear hw2 hb2
    go_wp2_with fail
    refine (key_ok w2 v HT.out.2.1 (HT.out.1.below HB.out)).mono ?_
    rintro e w3 ⟨rfl, hb3⟩
    have HB3 := Lib.hid (HB.out.trans (hb3.mono HB.out.size))
    clear hb3
    by_cases hv : Lib.itoa v = s
    · have HR := Lib.hid (show runNum s = some v by rw [HT.out.2.2, if_pos hv])
      rw [hv]
      clear hv
      go_wp2_with fail
      go_ret2
      exact ⟨by rw [HR.out]; rfl, HB3.out⟩
    · have HR := Lib.hid (show runNum s = none by rw [HT.out.2.2, if_neg hv])
      have hne : (Lib.itoa v == s) = false := by rw [beq_eq_false_iff_ne]; exact hv
      clear hv
      go_wp2_with fail
      go_ret2
      exact ⟨by rw [HR.out]; rfl, HB3.out⟩
  | range =>
    obtain ⟨_, tp, p, h1⟩ := he
    have H := Lib.hid (Any.strconv_Atoi_range_var Tryz.laysC172 ⟨s.toArray⟩ (by omega) (by simpa using ha) tp p w h1)
    have HR := Lib.hid (show runNum s = none by unfold runNum; rw [ha])
    clear ht h1 ha
    go_enter Tryz.func14, Tryz.ntmps14
    go_wp2_with fail
    refine H.out.mono ?_
    rintro e w2 ⟨N, rfl, _, _, hb2⟩
    have HB := Lib.hid hb2
    clear hb2
    go_wp2_with fail
    go_ret2
    exact ⟨by rw [HR.out]; rfl, HB.out⟩
  | _ =>
    obtain ⟨⟨tp, p, h1⟩, _⟩ := he
    have H := Lib.hid (Any.strconv_Atoi_syntax_var Tryz.laysC172 ⟨s.toArray⟩ (by omega) (by simpa using ha) tp p w h1)
    have HR := Lib.hid (show runNum s = none by unfold runNum; rw [ha])
    clear ht h1 ha
    go_enter Tryz.func14, Tryz.ntmps14
    go_wp2_with fail
    refine H.out.mono ?_
    rintro e w2 ⟨N, rfl, _, _, hb2⟩
    have HB := Lib.hid hb2
    clear hb2
    go_wp2_with fail
    go_ret2
    exact ⟨by rw [HR.out]; rfl, HB.out⟩
end Go.Proofs.YtfaaigfgfljdkaaGreatDoor

/- RunKeys, walked. -/
namespace Go.Proofs.YtfaaigfgfljdkaaGreatDoor
open Go.RowKit

/-- A key of a number: its number. -/
theorem runNum_itoa {n : Int} (h : I64 n) : runNum (Lib.itoa n) = some n := runNum_iff.2 ⟨rfl, h⟩
set_option maxRecDepth 100000 in
set_option maxHeartbeats 4000000 in
theorem rkeys_law (w0 : World) (n : Int) (s : List UInt8) (hn : I64 n) (hs : ShTab w0) (ht : Tab10 w0) (he : Errs w0) :
    Calls Tryz.prog 3 #[.int .i64 n, .string ⟨s.toArray⟩] w0 fun e w' => e = .returned (.bool true) ∧ Below w0.heap.size w0 w' := by
  by_cases hl : 30 < s.length
  · have hl' : (30 : Int) < (s.length : Int) := by omega
    have H := Lib.hid (awake12_ok w0 hs ht)
    clear hs ht he
    go_enter Tryz.func3, Tryz.ntmps3
    go_wp2_with fail
    refine H.out.mono ?_
    rintro e w1 ⟨rfl, hb⟩
    have HB := Lib.hid hb
    clear hb
    go_wp2_with fail
    go_ret
    exact ⟨rfl, HB.out⟩
  · have hl' : ¬ (30 : Int) < (s.length : Int) := by omega
    have H := Lib.hid (And.intro hs (And.intro ht he))
    have HN := Lib.hid (And.intro (num_same s) (runNum_itoa hn))
    clear hs ht he
    go_enter Tryz.func3, Tryz.ntmps3
    go_wp2_with fail
    refine (runNumber_ok w0 s (by omega) H.out.2.1 H.out.2.2).mono ?_
    rintro e w1 ⟨rfl, hb1⟩
    have HB1 := Lib.hid hb1
    clear hb1
    rw [HN.out.1]
    obtain ⟨q, hq⟩ : ∃ q, numR s = q := ⟨_, rfl⟩
    rw [hq]
    go_wp2_with fail
    refine (number12_ok w1 s (by omega)).mono ?_
    rintro e w2 ⟨rfl, hb2⟩
    have HB2 := Lib.hid (HB1.out.trans (hb2.mono HB1.out.size))
    clear hb2
    rw [hq]
    clear hq
    go_wp2_with fail
    refine (key_ok w2 n hn (H.out.2.1.below HB2.out)).mono ?_
    rintro e w3 ⟨rfl, hb3⟩
    have HB3 := Lib.hid (HB2.out.trans (hb3.mono HB2.out.size))
    clear hb3
    go_wp2_with fail
    refine (runNumber_ok w3 (Lib.itoa n) (by have := itoa_len20 hn; omega) (H.out.2.1.below HB3.out) (H.out.2.2.below HB3.out)).mono ?_
    rintro e w4 ⟨rfl, hb4⟩
    have HB4 := Lib.hid (HB3.out.trans (hb4.mono HB3.out.size))
    clear hb4
    rw [HN.out.2]
    simp only [Option.getD_some, Option.isSome_some]
    go_wp2_with fail
    refine (key_ok w4 n hn (H.out.2.1.below HB4.out)).mono ?_
    rintro e w5 ⟨rfl, hb5⟩
    have HB5 := Lib.hid (HB4.out.trans (hb5.mono HB4.out.size))
    clear hb5
    go_wp2_with fail
    refine (key12_ok n.natAbs n w5 (Nat.le_refl _) hn).mono ?_
    rintro e w6 ⟨rfl, m, rfl⟩
    have hb6 : Below w5.heap.size w5 (w5.drewN m) := by
      have h0 := Below.refl w5.heap.size w5
      exact ⟨h0.os, h0.tape, h0.output, h0.size, h0.block⟩
    generalize w5.drewN m = w6 at hb6 ⊢
    have HB6 := Lib.hid (HB5.out.trans (hb6.mono HB5.out.size))
    clear hb6
    go_wp2_with fail
    refine (awake12_ok w6 (H.out.1.below HB6.out) (H.out.2.1.below HB6.out)).mono ?_
    rintro e w7 ⟨rfl, hb7⟩
    have HB7 := Lib.hid (HB6.out.trans (hb7.mono HB6.out.size))
    clear hb7
    go_wp2_with fail
    go_ret
    exact ⟨rfl, HB7.out⟩
end Go.Proofs.YtfaaigfgfljdkaaGreatDoor
