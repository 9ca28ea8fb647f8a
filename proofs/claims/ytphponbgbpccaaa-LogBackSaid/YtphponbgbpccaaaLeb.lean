/- Numbers and texts as bytes, and how they are read: plain; no program in sight. -/
import Derived.WalkKit
namespace Go.Proofs.Ytphponbgbpccaaa

/-- The groups of a number, seven bits each, the lowest first. -/
def lebF : Nat → Nat → List UInt8
  | 0, n => [UInt8.ofNat n]
  | f + 1, n => if n < 128 then [UInt8.ofNat n] else UInt8.ofNat (n % 128 + 128) :: lebF f (n / 128)
def leb (n : Nat) : List UInt8 := lebF 9 n

theorem leb_lt {m : Nat} (h : m < 128) : leb m = [UInt8.ofNat m] := by simp [leb, lebF, h]
theorem lebF_more (f : Nat) : ∀ n, n < 128 ^ (f + 1) → lebF (f + 1) n = lebF f n := by
  induction f with
  | zero => intro n h; simp [lebF] at h ⊢; omega
  | succ f ih =>
    intro n h
    rw [lebF]
    conv => rhs; rw [lebF]
    split
    · rfl
    · rw [ih (n / 128) (by rw [Nat.div_lt_iff_lt_mul (by decide)]; rw [Nat.pow_succ] at h; exact h)]
theorem leb_ge {m : Nat} (h : 128 ≤ m) (h2 : m < 18446744073709551616) : leb m = UInt8.ofNat (m % 128 + 128) :: leb (m / 128) := by
  unfold leb
  rw [lebF, if_neg (by omega), ← lebF_more 8 (m / 128) (by rw [Nat.div_lt_iff_lt_mul (by decide)]; simp; omega)]
theorem leb_length (m : Nat) : (leb m).length ≤ 10 := by
  have : ∀ f n, (lebF f n).length ≤ f + 1 := by
    intro f
    induction f with
    | zero => intro n; simp [lebF]
    | succ f ih => intro n; rw [lebF]; split <;> simp; exact ih _
  exact this 9 m
theorem leb_pos (m : Nat) : 1 ≤ (leb m).length := by
  unfold leb
  rw [lebF]
  split <;> simp

/-- Groups are read: k of them are behind us, which come to acc. -/
def rdG : Nat → Nat → List UInt8 → Option (Nat × List UInt8)
  | _, _, [] => none
  | k, acc, b :: rest => if k = 9 ∧ 1 < b.toNat then none else if 128 ≤ b.toNat then rdG (k + 1) (acc + (b.toNat - 128) * 128 ^ k) rest
    else if b.toNat = 0 ∧ 0 < k then none else some (acc + b.toNat * 128 ^ k, rest)

theorem rdG_leb (f : Nat) : ∀ (k acc m : Nat) (rest : List UInt8), k + f = 9 → m < 2 ^ (64 - 7 * k) → (k = 0 ∨ 0 < m) → rdG k acc (lebF f m ++ rest) = some (acc + m * 128 ^ k, rest) := by
  induction f with
  | zero =>
    intro k acc m rest hk hm hp
    have hk9 : k = 9 := by omega
    subst hk9
    simp at hm
    have hb : (UInt8.ofNat m).toNat = m := by simp; omega
    simp only [lebF, List.singleton_append, rdG, hb]
    rw [if_neg (by omega), if_neg (by omega), if_neg (by omega)]
  | succ f ih =>
    intro k acc m rest hk hm hp
    rw [lebF]
    split
    · rename_i h
      have hb : (UInt8.ofNat m).toNat = m := by simp; omega
      simp only [List.singleton_append, rdG, hb]
      rw [if_neg (by omega), if_neg (by omega), if_neg (by omega)]
    · rename_i h
      have hb : (UInt8.ofNat (m % 128 + 128)).toNat = m % 128 + 128 := by simp; omega
      simp only [List.cons_append, rdG, hb]
      rw [if_neg (by omega), if_pos (by omega), ih (k + 1) _ (m / 128) rest (by omega) ?_ (.inr (by omega))]
      · congr 2
        have : m = m % 128 + 128 * (m / 128) := by omega
        rw [Nat.add_sub_cancel, Nat.pow_succ, Nat.add_assoc]
        congr 1
        conv => rhs; rw [this]
        rw [Nat.add_mul, Nat.mul_comm (128 ^ k) 128, ← Nat.mul_assoc, Nat.mul_comm 128 (m / 128)]
      · rw [Nat.div_lt_iff_lt_mul (by decide)]
        have h7 : 64 - 7 * k = 64 - 7 * (k + 1) + 7 := by omega
        rw [h7, Nat.pow_add] at hm
        exact hm

theorem rdG_inv : ∀ (bs : List UInt8) (k acc n : Nat) (rest : List UInt8), k ≤ 9 → rdG k acc bs = some (n, rest) →
    ∃ m, n = acc + m * 128 ^ k ∧ bs = lebF (9 - k) m ++ rest ∧ m < 2 ^ (64 - 7 * k) ∧ (k = 0 ∨ 0 < m) := by
  intro bs
  induction bs with
  | nil => intro k acc n rest hk h; simp [rdG] at h
  | cons b bs ih =>
    intro k acc n rest hk h
    rw [rdG] at h
    split at h
    · cases h
    · rename_i h1
      have hb256 := b.toNat_lt
      split at h
      · rename_i h2
        have hk9 : k ≠ 9 := by omega
        obtain ⟨m', hn, hbs, hm', hp'⟩ := ih (k + 1) _ n rest (by omega) h
        have hm0 : 0 < m' := by omega
        refine ⟨(b.toNat - 128) + 128 * m', ?_, ?_, ?_, .inr (by omega)⟩
        · rw [hn, Nat.pow_succ, Nat.add_mul, Nat.add_assoc, Nat.mul_comm (128 ^ k) 128, ← Nat.mul_assoc, Nat.mul_comm m' 128]
        · have e9 : 9 - k = (9 - (k + 1)) + 1 := by omega
          rw [e9, lebF, if_neg (by omega), hbs]
          have e1 : (b.toNat - 128 + 128 * m') / 128 = m' := by omega
          have e2 : (b.toNat - 128 + 128 * m') % 128 + 128 = b.toNat := by omega
          rw [e1, e2]
          simp
        · have h7 : 64 - 7 * k = 64 - 7 * (k + 1) + 7 := by omega
          rw [h7, Nat.pow_add]
          have : (2 : Nat) ^ 7 = 128 := rfl
          omega
      · rename_i h2
        split at h
        · cases h
        · rename_i h3
          injection h with h
          injection h with h4 h5
          subst h5
          refine ⟨b.toNat, h4.symm, ?_, ?_, by omega⟩
          · have hb : UInt8.ofNat b.toNat = b := by simp
            cases hf : 9 - k with
            | zero => simp [lebF]
            | succ f => rw [lebF, if_pos (by omega)]; simp
          · by_cases hk9 : k = 9
            · subst hk9; simp; omega
            · have : (2 : Nat) ^ 7 ≤ 2 ^ (64 - 7 * k) := Nat.pow_le_pow_right (by decide) (by omega)
              omega

/-- A number that fits an int, read. -/
def rdU (bs : List UInt8) : Option (Nat × List UInt8) := match rdG 0 0 bs with
  | some (n, r) => if n ≤ 9223372036854775807 then some (n, r) else none
  | none => none
theorem rdU_leb (n : Nat) (rest : List UInt8) (h : n ≤ 9223372036854775807) : rdU (leb n ++ rest) = some (n, rest) := by
  have := rdG_leb 9 0 0 n rest rfl (by simp; omega) (.inl rfl)
  simp [rdU, leb, this, h]
theorem rdU_inv {bs rest : List UInt8} {n : Nat} (h : rdU bs = some (n, rest)) : bs = leb n ++ rest ∧ n ≤ 9223372036854775807 := by
  unfold rdU at h
  cases hg : rdG 0 0 bs with
  | none => rw [hg] at h; cases h
  | some x =>
    rw [hg] at h
    obtain ⟨m, r⟩ := x
    dsimp only at h
    split at h
    · rename_i hm
      injection h with h
      injection h with h1 h2
      subst h1 h2
      obtain ⟨m', h3, h4, _, _⟩ := rdG_inv bs 0 0 m r (by decide) hg
      simp at h3
      subst h3
      exact ⟨h4, hm⟩
    · cases h

def textB (p : List UInt8) : List UInt8 := leb p.length ++ p
def textsB (ps : List (List UInt8)) : List UInt8 := (ps.map textB).flatten
def logB (ps : List (List UInt8)) : List UInt8 := leb ps.length ++ textsB ps
theorem textsB_length (ps : List (List UInt8)) (h : ∀ p ∈ ps, p.length ≤ 8192) : (textsB ps).length ≤ 8202 * ps.length := by
  induction ps with
  | nil => simp [textsB]
  | cons p ps ih =>
    have h1 := ih (fun q hq => h q (by simp [hq]))
    have h2 := h p (by simp)
    have h3 := leb_length p.length
    simp [textsB, textB] at h1 ⊢
    omega

/-- A text of at most so many bytes, read. -/
def rdT (most : Nat) (bs : List UInt8) : Option (List UInt8 × List UInt8) := match rdU bs with
  | some (n, r) => if n ≤ most ∧ n ≤ r.length then some (r.take n, r.drop n) else none
  | none => none
theorem rdT_text (most : Nat) (p rest : List UInt8) (h : p.length ≤ most) (h2 : p.length ≤ 9223372036854775807) : rdT most (textB p ++ rest) = some (p, rest) := by
  unfold rdT textB
  rw [List.append_assoc, rdU_leb _ _ h2]
  simp [h]
theorem rdT_inv {most : Nat} {bs t rest : List UInt8} (h : rdT most bs = some (t, rest)) : bs = textB t ++ rest ∧ t.length ≤ most := by
  unfold rdT at h
  cases hg : rdU bs with
  | none => rw [hg] at h; cases h
  | some x =>
    rw [hg] at h
    obtain ⟨m, r⟩ := x
    dsimp only at h
    split at h
    · rename_i hm
      injection h with h
      injection h with h1 h2
      subst h1 h2
      have hl : (r.take m).length = m := by simp; omega
      obtain ⟨e, _⟩ := rdU_inv hg
      refine ⟨?_, by omega⟩
      unfold textB
      rw [hl, List.append_assoc, List.take_append_drop]
      exact e
    · cases h

/-- So many pieces, read behind those that are there. -/
def rdTs : Nat → List (List UInt8) → List UInt8 → Option (List (List UInt8) × List UInt8)
  | 0, acc, bs => some (acc, bs)
  | n + 1, acc, bs => match rdT 8192 bs with
    | some (t, r) => if acc.length < 1024 then rdTs n (acc ++ [t]) r else none
    | none => none
theorem rdTs_texts (ps : List (List UInt8)) : ∀ (acc : List (List UInt8)) (rest : List UInt8), (∀ p ∈ ps, p.length ≤ 8192) → acc.length + ps.length ≤ 1024 → rdTs ps.length acc (textsB ps ++ rest) = some (acc ++ ps, rest) := by
  induction ps with
  | nil => intro acc rest _ _; simp [rdTs, textsB]
  | cons p ps ih =>
    intro acc rest h hl
    have h2 := h p (by simp)
    simp only [List.length_cons] at hl ⊢
    have e : textsB (p :: ps) ++ rest = textB p ++ (textsB ps ++ rest) := by simp [textsB]
    rw [rdTs, e, rdT_text 8192 p _ h2 (by omega)]
    dsimp only
    rw [if_pos (by omega), ih (acc ++ [p]) rest (fun q hq => h q (by simp [hq])) (by simp; omega)]
    simp
theorem rdTs_inv (n : Nat) : ∀ (acc : List (List UInt8)) (bs : List UInt8) (qs : List (List UInt8)) (rest : List UInt8), acc.length ≤ 1024 → (∀ p ∈ acc, p.length ≤ 8192) → rdTs n acc bs = some (qs, rest) →
    ∃ ts, qs = acc ++ ts ∧ ts.length = n ∧ bs = textsB ts ++ rest ∧ (∀ p ∈ qs, p.length ≤ 8192) ∧ qs.length ≤ 1024 := by
  induction n with
  | zero =>
    intro acc bs qs rest hl ha h
    simp [rdTs] at h
    obtain ⟨rfl, rfl⟩ := h
    exact ⟨[], by simp, rfl, by simp [textsB], ha, hl⟩
  | succ n ih =>
    intro acc bs qs rest hl ha h
    rw [rdTs] at h
    cases hg : rdT 8192 bs with
    | none => rw [hg] at h; cases h
    | some x =>
      rw [hg] at h
      obtain ⟨t, r⟩ := x
      dsimp only at h
      split at h
      · rename_i hlt
        obtain ⟨e, htl⟩ := rdT_inv hg
        obtain ⟨ts, h1, h2, h3, h4, h5⟩ := ih (acc ++ [t]) r qs rest (by simp; omega) (fun p hp => by
          rcases List.mem_append.1 hp with h | h
          · exact ha p h
          · simp at h; subst h; exact htl) h
        refine ⟨t :: ts, by rw [h1]; simp, by simp [h2], ?_, h4, h5⟩
        rw [e, h3]
        simp [textsB]
      · cases h

/-- All that is read, if nothing is left. -/
def whole : Option (List (List UInt8) × List UInt8) → Option (List (List UInt8))
  | some (qs, []) => some qs
  | some (_, _ :: _) => none
  | none => none
def parseL (bs : List UInt8) : Option (List (List UInt8)) := match rdU bs with
  | some (n, r) => whole (rdTs n [] r)
  | none => none
theorem parse_back (ps : List (List UInt8)) (h : ∀ p ∈ ps, p.length ≤ 8192) (hl : ps.length ≤ 1024) : parseL (logB ps) = some ps := by
  unfold parseL logB
  rw [rdU_leb _ _ (by omega)]
  have := rdTs_texts ps [] [] h (by simpa using hl)
  simp at this
  simp [this, whole]
theorem parse_inv {bs : List UInt8} {qs : List (List UInt8)} (h : parseL bs = some qs) : logB qs = bs ∧ (∀ p ∈ qs, p.length ≤ 8192) ∧ qs.length ≤ 1024 := by
  unfold parseL at h
  cases hg : rdU bs with
  | none => rw [hg] at h; cases h
  | some x =>
    rw [hg] at h
    obtain ⟨n, r⟩ := x
    dsimp only at h
    cases ht : rdTs n [] r with
    | none => rw [ht] at h; cases h
    | some y =>
      rw [ht] at h
      obtain ⟨qs', rest⟩ := y
      cases rest with
      | cons _ _ => cases h
      | nil =>
        injection h with h
        subst h
        obtain ⟨ts, h1, h2, h3, h4, h5⟩ := rdTs_inv n [] r qs' [] (by simp) (by simp) ht
        simp at h1 h3
        subst h1
        obtain ⟨e, _⟩ := rdU_inv hg
        refine ⟨?_, h4, h5⟩
        unfold logB
        rw [e, h3, h2]

end Go.Proofs.Ytphponbgbpccaaa
