/- Numbers and texts as bytes, and how they are read: plain; no program in sight. -/
import Derived.WalkKit
namespace Go.Proofs.YtihjcfifakcpgaaGreatDoor
set_option maxRecDepth 100000

/-- The groups of a number, seven bits each, the lowest first. -/
def lebF : Nat → Nat → List UInt8
  | 0, n => [UInt8.ofNat n]
  | f + 1, n => if n < 128 then [UInt8.ofNat n] else UInt8.ofNat (n % 128 + 128) :: lebF f (n / 128)
def leb (n : Nat) : List UInt8 := lebF 9 n

theorem leb_lt {m : Nat} (h : m < 128) : leb m = [UInt8.ofNat m] := by simp [leb, lebF, h]
theorem lebF_more (f : Nat) : ∀ n, n < 128 ^ (f + 1) → lebF (f + 1) n = lebF f n := by
  induction f with
  | zero => intro n h; simp [lebF] at h ⊢; omega
  | succ f ih =>
    intro n h
    rw [lebF]
    conv => rhs; rw [lebF]
    split
    · rfl
    · rw [ih (n / 128) (by rw [Nat.div_lt_iff_lt_mul (by decide)]; rw [Nat.pow_succ] at h; exact h)]
theorem leb_ge {m : Nat} (h : 128 ≤ m) (h2 : m < 18446744073709551616) : leb m = UInt8.ofNat (m % 128 + 128) :: leb (m / 128) := by
  unfold leb
  rw [lebF, if_neg (by omega), ← lebF_more 8 (m / 128) (by rw [Nat.div_lt_iff_lt_mul (by decide)]; simp; omega)]
theorem leb_length (m : Nat) : (leb m).length ≤ 10 := by
  have : ∀ f n, (lebF f n).length ≤ f + 1 := by
    intro f
    induction f with
    | zero => intro n; simp [lebF]
    | succ f ih => intro n; rw [lebF]; split <;> simp; exact ih _
  exact this 9 m
theorem leb_pos (m : Nat) : 1 ≤ (leb m).length := by
  unfold leb
  rw [lebF]
  split <;> simp

/-- Groups are read: k of them are behind us, which come to acc. -/
def rdG : Nat → Nat → List UInt8 → Option (Nat × List UInt8)
  | _, _, [] => none
  | k, acc, b :: rest => if k = 9 ∧ 1 < b.toNat then none else if 128 ≤ b.toNat then rdG (k + 1) (acc + (b.toNat - 128) * 128 ^ k) rest
    else if b.toNat = 0 ∧ 0 < k then none else some (acc + b.toNat * 128 ^ k, rest)

theorem rdG_leb (f : Nat) : ∀ (k acc m : Nat) (rest : List UInt8), k + f = 9 → m < 2 ^ (64 - 7 * k) → (k = 0 ∨ 0 < m) → rdG k acc (lebF f m ++ rest) = some (acc + m * 128 ^ k, rest) := by
  induction f with
  | zero =>
    intro k acc m rest hk hm hp
    have hk9 : k = 9 := by omega
    subst hk9
    simp at hm
    have hb : (UInt8.ofNat m).toNat = m := by simp; omega
    simp only [lebF, List.singleton_append, rdG, hb]
    rw [if_neg (by omega), if_neg (by omega), if_neg (by omega)]
  | succ f ih =>
    intro k acc m rest hk hm hp
    rw [lebF]
    split
    · rename_i h
      have hb : (UInt8.ofNat m).toNat = m := by simp; omega
      simp only [List.singleton_append, rdG, hb]
      rw [if_neg (by omega), if_neg (by omega), if_neg (by omega)]
    · rename_i h
      have hb : (UInt8.ofNat (m % 128 + 128)).toNat = m % 128 + 128 := by simp; omega
      simp only [List.cons_append, rdG, hb]
      rw [if_neg (by omega), if_pos (by omega), ih (k + 1) _ (m / 128) rest (by omega) ?_ (.inr (by omega))]
      · congr 2
        have : m = m % 128 + 128 * (m / 128) := by omega
        rw [Nat.add_sub_cancel, Nat.pow_succ, Nat.add_assoc]
        congr 1
        conv => rhs; rw [this]
        rw [Nat.add_mul, Nat.mul_comm (128 ^ k) 128, ← Nat.mul_assoc, Nat.mul_comm 128 (m / 128)]
      · rw [Nat.div_lt_iff_lt_mul (by decide)]
        have h7 : 64 - 7 * k = 64 - 7 * (k + 1) + 7 := by omega
        rw [h7, Nat.pow_add] at hm
        exact hm

theorem rdG_inv : ∀ (bs : List UInt8) (k acc n : Nat) (rest : List UInt8), k ≤ 9 → rdG k acc bs = some (n, rest) →
    ∃ m, n = acc + m * 128 ^ k ∧ bs = lebF (9 - k) m ++ rest ∧ m < 2 ^ (64 - 7 * k) ∧ (k = 0 ∨ 0 < m) := by
  intro bs
  induction bs with
  | nil => intro k acc n rest hk h; simp [rdG] at h
  | cons b bs ih =>
    intro k acc n rest hk h
    rw [rdG] at h
    split at h
    · cases h
    · rename_i h1
      have hb256 := b.toNat_lt
      split at h
      · rename_i h2
        have hk9 : k ≠ 9 := by omega
        obtain ⟨m', hn, hbs, hm', hp'⟩ := ih (k + 1) _ n rest (by omega) h
        have hm0 : 0 < m' := by omega
        refine ⟨(b.toNat - 128) + 128 * m', ?_, ?_, ?_, .inr (by omega)⟩
        · rw [hn, Nat.pow_succ, Nat.add_mul, Nat.add_assoc, Nat.mul_comm (128 ^ k) 128, ← Nat.mul_assoc, Nat.mul_comm m' 128]
        · have e9 : 9 - k = (9 - (k + 1)) + 1 := by omega
          rw [e9, lebF, if_neg (by omega), hbs]
          have e1 : (b.toNat - 128 + 128 * m') / 128 = m' := by omega
          have e2 : (b.toNat - 128 + 128 * m') % 128 + 128 = b.toNat := by omega
          rw [e1, e2]
          simp
        · have h7 : 64 - 7 * k = 64 - 7 * (k + 1) + 7 := by omega
          rw [h7, Nat.pow_add]
          have : (2 : Nat) ^ 7 = 128 := rfl
          omega
      · rename_i h2
        split at h
        · cases h
        · rename_i h3
          injection h with h
          injection h with h4 h5
          subst h5
          refine ⟨b.toNat, h4.symm, ?_, ?_, by omega⟩
          · have hb : UInt8.ofNat b.toNat = b := by simp
            cases hf : 9 - k with
            | zero => simp [lebF]
            | succ f => rw [lebF, if_pos (by omega)]; simp
          · by_cases hk9 : k = 9
            · subst hk9; simp; omega
            · have : (2 : Nat) ^ 7 ≤ 2 ^ (64 - 7 * k) := Nat.pow_le_pow_right (by decide) (by omega)
              omega

/-- A number that fits an int, read. -/
def rdU (bs : List UInt8) : Option (Nat × List UInt8) := match rdG 0 0 bs with
  | some (n, r) => if n ≤ 9223372036854775807 then some (n, r) else none
  | none => none
theorem rdU_leb (n : Nat) (rest : List UInt8) (h : n ≤ 9223372036854775807) : rdU (leb n ++ rest) = some (n, rest) := by
  have := rdG_leb 9 0 0 n rest rfl (by simp; omega) (.inl rfl)
  simp [rdU, leb, this, h]
theorem rdU_inv {bs rest : List UInt8} {n : Nat} (h : rdU bs = some (n, rest)) : bs = leb n ++ rest ∧ n ≤ 9223372036854775807 := by
  unfold rdU at h
  cases hg : rdG 0 0 bs with
  | none => rw [hg] at h; cases h
  | some x =>
    rw [hg] at h
    obtain ⟨m, r⟩ := x
    dsimp only at h
    split at h
    · rename_i hm
      injection h with h
      injection h with h1 h2
      subst h1 h2
      obtain ⟨m', h3, h4, _, _⟩ := rdG_inv bs 0 0 m r (by decide) hg
      simp at h3
      subst h3
      exact ⟨h4, hm⟩
    · cases h

def textB (p : List UInt8) : List UInt8 := leb p.length ++ p
def textsB (ps : List (List UInt8)) : List UInt8 := (ps.map textB).flatten
def logB (ps : List (List UInt8)) : List UInt8 := leb ps.length ++ textsB ps
theorem textsB_length (ps : List (List UInt8)) (h : ∀ p ∈ ps, p.length ≤ 8192) : (textsB ps).length ≤ 8202 * ps.length := by
  induction ps with
  | nil => simp [textsB]
  | cons p ps ih =>
    have h1 := ih (fun q hq => h q (by simp [hq]))
    have h2 := h p (by simp)
    have h3 := leb_length p.length
    simp [textsB, textB] at h1 ⊢
    omega

/-- A text of at most so many bytes, read. -/
def rdT (most : Nat) (bs : List UInt8) : Option (List UInt8 × List UInt8) := match rdU bs with
  | some (n, r) => if n ≤ most ∧ n ≤ r.length then some (r.take n, r.drop n) else none
  | none => none
theorem rdT_text (most : Nat) (p rest : List UInt8) (h : p.length ≤ most) (h2 : p.length ≤ 9223372036854775807) : rdT most (textB p ++ rest) = some (p, rest) := by
  unfold rdT textB
  rw [List.append_assoc, rdU_leb _ _ h2]
  simp [h]
theorem rdT_inv {most : Nat} {bs t rest : List UInt8} (h : rdT most bs = some (t, rest)) : bs = textB t ++ rest ∧ t.length ≤ most := by
  unfold rdT at h
  cases hg : rdU bs with
  | none => rw [hg] at h; cases h
  | some x =>
    rw [hg] at h
    obtain ⟨m, r⟩ := x
    dsimp only at h
    split at h
    · rename_i hm
      injection h with h
      injection h with h1 h2
      subst h1 h2
      have hl : (r.take m).length = m := by simp; omega
      obtain ⟨e, _⟩ := rdU_inv hg
      refine ⟨?_, by omega⟩
      unfold textB
      rw [hl, List.append_assoc, List.take_append_drop]
      exact e
    · cases h

/-- So many pieces, read behind those that are there. -/
def rdTs : Nat → List (List UInt8) → List UInt8 → Option (List (List UInt8) × List UInt8)
  | 0, acc, bs => some (acc, bs)
  | n + 1, acc, bs => match rdT 8192 bs with
    | some (t, r) => if acc.length < 1024 then rdTs n (acc ++ [t]) r else none
    | none => none
theorem rdTs_texts (ps : List (List UInt8)) : ∀ (acc : List (List UInt8)) (rest : List UInt8), (∀ p ∈ ps, p.length ≤ 8192) → acc.length + ps.length ≤ 1024 → rdTs ps.length acc (textsB ps ++ rest) = some (acc ++ ps, rest) := by
  induction ps with
  | nil => intro acc rest _ _; simp [rdTs, textsB]
  | cons p ps ih =>
    intro acc rest h hl
    have h2 := h p (by simp)
    simp only [List.length_cons] at hl ⊢
    have e : textsB (p :: ps) ++ rest = textB p ++ (textsB ps ++ rest) := by simp [textsB]
    rw [rdTs, e, rdT_text 8192 p _ h2 (by omega)]
    dsimp only
    rw [if_pos (by omega), ih (acc ++ [p]) rest (fun q hq => h q (by simp [hq])) (by simp; omega)]
    simp
theorem rdTs_inv (n : Nat) : ∀ (acc : List (List UInt8)) (bs : List UInt8) (qs : List (List UInt8)) (rest : List UInt8), acc.length ≤ 1024 → (∀ p ∈ acc, p.length ≤ 8192) → rdTs n acc bs = some (qs, rest) →
    ∃ ts, qs = acc ++ ts ∧ ts.length = n ∧ bs = textsB ts ++ rest ∧ (∀ p ∈ qs, p.length ≤ 8192) ∧ qs.length ≤ 1024 := by
  induction n with
  | zero =>
    intro acc bs qs rest hl ha h
    simp [rdTs] at h
    obtain ⟨rfl, rfl⟩ := h
    exact ⟨[], by simp, rfl, by simp [textsB], ha, hl⟩
  | succ n ih =>
    intro acc bs qs rest hl ha h
    rw [rdTs] at h
    cases hg : rdT 8192 bs with
    | none => rw [hg] at h; cases h
    | some x =>
      rw [hg] at h
      obtain ⟨t, r⟩ := x
      dsimp only at h
      split at h
      · rename_i hlt
        obtain ⟨e, htl⟩ := rdT_inv hg
        obtain ⟨ts, h1, h2, h3, h4, h5⟩ := ih (acc ++ [t]) r qs rest (by simp; omega) (fun p hp => by
          rcases List.mem_append.1 hp with h | h
          · exact ha p h
          · simp at h; subst h; exact htl) h
        refine ⟨t :: ts, by rw [h1]; simp, by simp [h2], ?_, h4, h5⟩
        rw [e, h3]
        simp [textsB]
      · cases h

/-- All that is read, if nothing is left. -/
def whole : Option (List (List UInt8) × List UInt8) → Option (List (List UInt8))
  | some (qs, []) => some qs
  | some (_, _ :: _) => none
  | none => none
def parseL (bs : List UInt8) : Option (List (List UInt8)) := match rdU bs with
  | some (n, r) => whole (rdTs n [] r)
  | none => none
theorem parse_back (ps : List (List UInt8)) (h : ∀ p ∈ ps, p.length ≤ 8192) (hl : ps.length ≤ 1024) : parseL (logB ps) = some ps := by
  unfold parseL logB
  rw [rdU_leb _ _ (by omega)]
  have := rdTs_texts ps [] [] h (by simpa using hl)
  simp at this
  simp [this, whole]
theorem parse_inv {bs : List UInt8} {qs : List (List UInt8)} (h : parseL bs = some qs) : logB qs = bs ∧ (∀ p ∈ qs, p.length ≤ 8192) ∧ qs.length ≤ 1024 := by
  unfold parseL at h
  cases hg : rdU bs with
  | none => rw [hg] at h; cases h
  | some x =>
    rw [hg] at h
    obtain ⟨n, r⟩ := x
    dsimp only at h
    cases ht : rdTs n [] r with
    | none => rw [ht] at h; cases h
    | some y =>
      rw [ht] at h
      obtain ⟨qs', rest⟩ := y
      cases rest with
      | cons _ _ => cases h
      | nil =>
        injection h with h
        subst h
        obtain ⟨ts, h1, h2, h3, h4, h5⟩ := rdTs_inv n [] r qs' [] (by simp) (by simp) ht
        simp at h1 h3
        subst h1
        obtain ⟨e, _⟩ := rdU_inv hg
        refine ⟨?_, h4, h5⟩
        unfold logB
        rw [e, h3, h2]

end Go.Proofs.YtihjcfifakcpgaaGreatDoor

/- The check sum of bytes, by nibbles and by bitsN: plain; no program in sight. -/
namespace Go.Proofs.YtihjcfifakcpgaaGreatDoor
set_option maxRecDepth 100000

/-- What four bitsN turn. -/
def nib : List Nat := [0x00000000, 0x1db71064, 0x3b6e20c8, 0x26d930ac, 0x76dc4190, 0x6b6b51f4, 0x4db26158, 0x5005713c, 0xedb88320, 0xf00f9344, 0xd6d6a3e8, 0xcb61b38c, 0x9b64c2b0, 0x86d3d2d4, 0xa00ae278, 0xbdbdf21c]
def nibAt (i : Nat) : Nat := nib.getD i 0
/-- A register behind four bitsN. -/
def half (r : Nat) : Nat := r / 16 ^^^ nibAt (r % 16)
/-- A register behind a byte. -/
def crcB (r : Nat) (x : UInt8) : Nat := half (half (r ^^^ x.toNat))
/-- A register behind bytes. -/
def crcT (r : Nat) (xs : List UInt8) : Nat := xs.foldl crcB r
/-- The check sum. -/
def crc (xs : List UInt8) : Nat := 4294967295 - crcT 4294967295 xs
/-- A number's four bytes, the lowest first. -/
def four (s : Nat) : List UInt8 := [UInt8.ofNat (s % 256), UInt8.ofNat (s / 256 % 256), UInt8.ofNat (s / 65536 % 256), UInt8.ofNat (s / 16777216 % 256)]
/-- Bytes, and their sum behind. -/
def sealB (xs : List UInt8) : List UInt8 := xs ++ four (crc xs)

theorem nib_lt : ∀ i, i < 16 → nibAt i < 4294967296 := by decide
theorem nib_top : ∀ i, i < 16 → ∀ j, j < 16 → nibAt i / 268435456 = nibAt j / 268435456 → i = j := by decide
theorem xor_lt {a b : Nat} (ha : a < 4294967296) (hb : b < 4294967296) : a ^^^ b < 4294967296 := Nat.xor_lt_two_pow (n := 32) ha hb
theorem half_lt {r : Nat} (h : r < 4294967296) : half r < 4294967296 := xor_lt (by omega) (nib_lt _ (by omega))
theorem crcB_lt {r : Nat} (h : r < 4294967296) (x : UInt8) : crcB r x < 4294967296 := half_lt (half_lt (xor_lt h (by have := x.toNat_lt; omega)))
theorem crcT_lt : ∀ {r : Nat} (xs : List UInt8), r < 4294967296 → crcT r xs < 4294967296
  | _, [], h => h
  | _, x :: xs, h => crcT_lt xs (crcB_lt h x)
theorem crc_lt (xs : List UInt8) : crc xs < 4294967296 := by unfold crc; omega
theorem xor_cancel {a b c : Nat} (h : a ^^^ c = b ^^^ c) : a = b := by
  have := congrArg (· ^^^ c) h
  simpa [Nat.xor_assoc] using this
theorem half_inj {a b : Nat} (ha : a < 4294967296) (hb : b < 4294967296) (h : half a = half b) : a = b := by
  unfold half at h
  have e : ∀ r, r < 4294967296 → (r / 16 ^^^ nibAt (r % 16)) / 268435456 = nibAt (r % 16) / 268435456 := by
    intro r hr
    have h1 := Nat.xor_div_two_pow (a := r / 16) (b := nibAt (r % 16)) (n := 28)
    have h2 : (2 : Nat) ^ 28 = 268435456 := rfl
    rw [h2] at h1
    rw [h1]
    have h3 : r / 16 / 268435456 = 0 := by omega
    rw [h3, Nat.zero_xor]
  have h1 := congrArg (· / 268435456) h
  simp only [e a ha, e b hb] at h1
  have h2 := nib_top _ (by omega) _ (by omega) h1
  rw [h2] at h
  have h3 := xor_cancel h
  omega
theorem crcB_inj {a b : Nat} (ha : a < 4294967296) (hb : b < 4294967296) {x : UInt8} (h : crcB a x = crcB b x) : a = b := by
  have hx : x.toNat < 4294967296 := by have := x.toNat_lt; omega
  exact xor_cancel (half_inj (xor_lt ha hx) (xor_lt hb hx) (half_inj (half_lt (xor_lt ha hx)) (half_lt (xor_lt hb hx)) h))
theorem crcB_ne {a : Nat} (ha : a < 4294967296) {x y : UInt8} (h : crcB a x = crcB a y) : x = y := by
  have hx : x.toNat < 4294967296 := by have := x.toNat_lt; omega
  have hy : y.toNat < 4294967296 := by have := y.toNat_lt; omega
  have h1 := half_inj (xor_lt ha hx) (xor_lt ha hy) (half_inj (half_lt (xor_lt ha hx)) (half_lt (xor_lt ha hy)) h)
  rw [Nat.xor_comm a, Nat.xor_comm a] at h1
  exact UInt8.toNat_inj.1 (xor_cancel h1)
theorem crcT_inj : ∀ {a b : Nat} (xs : List UInt8), a < 4294967296 → b < 4294967296 → crcT a xs = crcT b xs → a = b
  | _, _, [], _, _, h => h
  | _, _, x :: xs, ha, hb, h => crcB_inj ha hb (crcT_inj xs (crcB_lt ha x) (crcB_lt hb x) h)
theorem crcT_append (r : Nat) (xs ys : List UInt8) : crcT r (xs ++ ys) = crcT (crcT r xs) ys := by simp [crcT]
/-- One byte that is turned turns the sum. -/
theorem crcT_one {r : Nat} (hr : r < 4294967296) (p q : List UInt8) {x y : UInt8} (h : crcT r (p ++ x :: q) = crcT r (p ++ y :: q)) : x = y := by
  rw [crcT_append, crcT_append] at h
  exact crcB_ne (crcT_lt p hr) (crcT_inj q (crcB_lt (crcT_lt p hr) x) (crcB_lt (crcT_lt p hr) y) h)
theorem crc_one (p q : List UInt8) {x y : UInt8} (h : crc (p ++ x :: q) = crc (p ++ y :: q)) : x = y := by
  have h1 := crcT_lt (p ++ x :: q) (r := 4294967295) (by omega)
  have h2 := crcT_lt (p ++ y :: q) (r := 4294967295) (by omega)
  unfold crc at h
  exact crcT_one (by omega) p q (r := 4294967295) (by omega)
theorem four_len (s : Nat) : (four s).length = 4 := rfl
theorem four_inj {s t : Nat} (hs : s < 4294967296) (ht : t < 4294967296) (h : four s = four t) : s = t := by
  unfold four at h
  have e : ∀ n, n < 256 → (UInt8.ofNat n).toNat = n := by intro n hn; simp; omega
  simp only [List.cons.injEq, and_true] at h
  obtain ⟨h0, h1, h2, h3⟩ := h
  have g0 := congrArg UInt8.toNat h0
  have g1 := congrArg UInt8.toNat h1
  have g2 := congrArg UInt8.toNat h2
  have g3 := congrArg UInt8.toNat h3
  rw [e _ (by omega), e _ (by omega)] at g0 g1 g2 g3
  omega
theorem seal_len (xs : List UInt8) : (sealB xs).length = xs.length + 4 := by simp [sealB, four_len]

/-- A register behind one bit. -/
def bitT (r : Nat) : Nat := if r % 2 = 1 then r / 2 ^^^ 3988292384 else r / 2
theorem bitT_xor (a b : Nat) : bitT (a ^^^ b) = bitT a ^^^ bitT b := by
  unfold bitT
  have h1 : (a ^^^ b) / 2 = a / 2 ^^^ b / 2 := by simpa using Nat.xor_div_two_pow (a := a) (b := b) (n := 1)
  have h2 : (a ^^^ b) % 2 = (a % 2) ^^^ (b % 2) := by simpa using Nat.xor_mod_two_pow (a := a) (b := b) (n := 1)
  rw [h1, h2]
  rcases Nat.mod_two_eq_zero_or_one a with ha | ha <;> rcases Nat.mod_two_eq_zero_or_one b with hb | hb <;> simp only [ha, hb]
  · simp
  · simp [Nat.xor_assoc]
  · simp only [Nat.xor_zero, if_true]
    simp
    rw [Nat.xor_assoc, Nat.xor_comm (b / 2), Nat.xor_assoc]
  · simp
    rw [Nat.xor_assoc, ← Nat.xor_assoc 3988292384, Nat.xor_comm 3988292384 (b / 2), Nat.xor_assoc, Nat.xor_self, Nat.xor_zero]
theorem bitT_even (n : Nat) : bitT (2 * n) = n := by unfold bitT; rw [if_neg (by omega)]; omega
theorem four_bits (r : Nat) : bitT (bitT (bitT (bitT r))) = half r := by
  have h : r = 16 * (r / 16) ^^^ r % 16 := by
    have h1 := Nat.two_pow_add_eq_or_of_lt (i := 4) (b := r % 16) (by omega) (r / 16)
    have h2 : (2 : Nat) ^ 4 = 16 := rfl
    rw [h2] at h1
    apply Nat.eq_of_testBit_eq
    intro i
    rw [Nat.testBit_xor]
    have h3 : r = 16 * (r / 16) + r % 16 := by omega
    conv => lhs; rw [h3]
    rw [h1, Nat.testBit_or]
    have h4 : (16 * (r / 16)).testBit i = (decide (4 ≤ i) && (r / 16).testBit (i - 4)) := by
      have := Nat.testBit_two_pow_mul (i := 4) (a := r / 16) (j := i)
      rw [h2] at this
      exact this
    by_cases hi : 4 ≤ i
    · have h5 : (r % 16).testBit i = false := Nat.testBit_lt_two_pow (Nat.lt_of_lt_of_le (show r % 16 < 2 ^ 4 by simp; omega) (Nat.pow_le_pow_right (by decide) hi))
      rw [h5]; simp
    · rw [h4]; simp [hi]
  have hl : ∀ i, i < 16 → bitT (bitT (bitT (bitT i))) = nibAt i := by decide
  have hh : ∀ n, bitT (bitT (bitT (bitT (16 * n)))) = n := by
    intro n
    have e : 16 * n = 2 * (2 * (2 * (2 * n))) := by omega
    rw [e, bitT_even, bitT_even, bitT_even, bitT_even]
  conv => lhs; rw [h]
  rw [bitT_xor, bitT_xor, bitT_xor, bitT_xor, hh, hl _ (by omega)]
  rfl
/-- A register behind n bitsN. -/
def bitsN : Nat → Nat → Nat
  | 0, r => r
  | n + 1, r => bitsN n (bitT r)
theorem bitsN_succ (n r : Nat) : bitsN (n + 1) r = bitT (bitsN n r) := by
  induction n generalizing r with
  | zero => rfl
  | succ n ih => rw [bitsN, ih (bitT r)]; rfl
theorem bits8 (r : Nat) (x : UInt8) : bitsN 8 (r ^^^ x.toNat) = crcB r x := by
  unfold crcB
  rw [← four_bits, ← four_bits]
  rfl
end Go.Proofs.YtihjcfifakcpgaaGreatDoor

/- Procedures: what is wrong with ops: plain; no program in sight. -/
namespace Go.Proofs.YtihjcfifakcpgaaGreatDoor
set_option maxRecDepth 100000

/-- An op: what it does, and its four fields. -/
structure POp where
  d : Int
  a : Int
  b : Int
  c : Int
  n : Int
  deriving DecidableEq

namespace POp
/-- Does an op hold others? -/
def holds (o : POp) : Bool := o.d == 13 || o.d == 14
/-- The fields by their places. -/
def fld (o : POp) (i : Nat) : Int := if i = 0 then o.a else if i = 1 then o.b else if i = 2 then o.c else o.n
end POp
/-- Has an op the i-th field? -/
def hasF (d : Int) (i : Nat) : Bool :=
  if d = 1 then i == 0 || i == 2 else if d = 8 ∨ d = 11 then decide (i < 3) else if d = 10 then i == 1 else if d = 12 then true
  else if d = 13 then i == 0 || i == 3 else if d = 14 then decide (2 ≤ i) else if d = 15 then i == 0 else decide (i < 2)
def loF (d : Int) (i : Nat) : Int := if i = 2 ∧ d = 1 then -1099511627776 else 0
def hiF (d : Int) (i : Nat) : Int :=
  if i = 0 then (if d = 9 then 4 else 7) else if i = 1 then 7 else if i = 2 then (if d = 1 then 1099511627776 else if d = 14 then 16 else 3) else (if d = 12 then 1099511627776 else 64)
/-- Is an op one, without fields that it has not? -/
def formedB (o : POp) : Bool := decide (1 ≤ o.d ∧ o.d ≤ 15) && (List.range 4).all (fun i => hasF o.d i || o.fld i == 0)
/-- Are all its fields within their bounds? -/
def rangedB (o : POp) : Bool := (List.range 4).all (fun i => !hasF o.d i || (decide (loF o.d i ≤ o.fld i) && decide (o.fld i ≤ hiF o.d i)))

/-- Where what the op of a place holds ends. -/
def endOf (k : Nat) (o : POp) : Int := (k : Int) + 1 + o.n
/-- The ends of those ahead of a place that hold it, in order. -/
def opens (l : List POp) (i : Nat) : List Int := ((l.take i).zipIdx.filter (fun x => x.1.holds && decide ((i : Int) < endOf x.2 x.1))).map (fun x => endOf x.2 x.1)
def lastOf (len : Nat) (es : List Int) : Int := es.getLast?.getD (len : Int)
/-- The place is not too deep, and what it holds ends in time. -/
def placeB (l : List POp) (i : Nat) (o : POp) : Bool := decide ((opens l i).length ≤ 8) && (!o.holds || decide (endOf i o ≤ lastOf l.length (opens l i)))
def nestedTo (l : List POp) (k : Nat) : Bool := (List.range k).all (fun i => match l[i]? with | some o => placeB l i o | none => true)
def nestedB (l : List POp) : Bool := nestedTo l l.length
/-- What is wrong with ops. -/
def opsE (l : List POp) : Int :=
  if 64 < l.length then 23 else if l.all formedB = false then 11 else if l.all rangedB = false then 10 else if nestedB l = false then 11 else 0

/-- The stack while the places are gone through: what ends at a place or ahead of it goes. -/
def pops (i : Nat) : List Int → List Int
  | [] => []
  | e :: es => if e ≤ (i : Int) then pops i es else e :: es

theorem nestedTo_zero (l : List POp) : nestedTo l 0 = true := rfl
theorem nestedTo_succ {l : List POp} {k : Nat} {o : POp} (h : l[k]? = some o) : nestedTo l (k + 1) = (nestedTo l k && placeB l k o) := by
  unfold nestedTo
  rw [List.range_succ, List.all_append]
  simp [h]
theorem nestedTo_mono {l : List POp} {k m : Nat} (h : nestedTo l m = true) (hk : k ≤ m) : nestedTo l k = true := by
  unfold nestedTo at h ⊢
  rw [List.all_eq_true] at h ⊢
  intro i hi
  exact h i (List.mem_range.2 (by have := List.mem_range.1 hi; omega))
theorem opens_zero (l : List POp) : opens l 0 = [] := by simp [opens]
theorem opens_succ {l : List POp} {k : Nat} {o : POp} (h : l[k]? = some o) :
    opens l (k + 1) = (opens l k).filter (fun e => decide ((k : Int) + 1 < e)) ++ (if o.holds = true ∧ ((k : Int) + 1 < endOf k o) then [endOf k o] else []) := by
  unfold opens
  have hlt := (List.getElem?_eq_some_iff.1 h).1
  have h1 : l.take (k + 1) = l.take k ++ [o] := by rw [List.take_add_one, h]; rfl
  have hlk : (l.take k).length = k := by simp; omega
  rw [h1, List.zipIdx_append, List.filter_append, List.map_append, hlk]
  congr 1
  · rw [List.filter_map, List.filter_filter]
    congr 1
    apply List.filter_congr
    intro x _
    simp only [Function.comp]
    rw [Bool.eq_iff_iff]
    simp only [Bool.and_eq_true, decide_eq_true_eq]
    constructor
    · rintro ⟨h1, h2⟩
      refine ⟨by push_cast at h2; exact h2, h1, by push_cast at h2; omega⟩
    · rintro ⟨h1, h2, h3⟩
      exact ⟨h2, by push_cast; exact h1⟩
  · simp only [List.zipIdx_cons, List.zipIdx_nil, List.filter_cons, List.filter_nil, Nat.zero_add]
    push_cast
    by_cases hh : o.holds = true ∧ ((k : Int) + 1 < endOf k o)
    · simp [hh.1, hh.2]
    · rw [if_neg hh]
      split
      · rename_i h2
        simp at h2
        exact absurd h2 hh
      · rfl
/-- Of a row that falls what is above a place is its beginning. -/
theorem pops_eq (i : Nat) : ∀ {es : List Int}, es.Pairwise (fun a b => a ≤ b) → pops i es = es.filter (fun e => decide ((i : Int) < e))
  | [], _ => rfl
  | e :: es, h => by
    rw [List.pairwise_cons] at h
    rw [pops, List.filter_cons]
    by_cases he : e ≤ (i : Int)
    · rw [if_pos he, if_neg (by simp; omega)]
      exact pops_eq i h.2
    · rw [if_neg he, if_pos (by simp; omega)]
      congr 1
      symm
      rw [List.filter_eq_self]
      intro x hx
      have := h.1 x hx
      simp; omega
theorem filter_ge {es : List Int} {p : Int → Bool} (h : es.Pairwise (fun a b => a ≥ b)) : (es.filter p).Pairwise (fun a b => a ≥ b) := h.filter _
/-- The ends fall, and none is beyond the last place, as long as all is well. -/
theorem opens_ok {l : List POp} : ∀ k, k ≤ l.length → nestedTo l k = true → (opens l k).Pairwise (fun a b => a ≥ b) ∧ ∀ e ∈ opens l k, (k : Int) < e ∧ e ≤ (l.length : Int)
  | 0, _, _ => by simp [opens_zero]
  | k + 1, hk, h => by
    obtain ⟨o, ho⟩ : ∃ o, l[k]? = some o := ⟨_, List.getElem?_eq_getElem (by omega)⟩
    rw [nestedTo_succ ho, Bool.and_eq_true] at h
    obtain ⟨h1, h2⟩ := opens_ok k (by omega) h.1
    rw [opens_succ ho]
    have hp := h.2
    unfold placeB at hp
    rw [Bool.and_eq_true, Bool.or_eq_true] at hp
    have hend : o.holds = true → (∀ e ∈ opens l k, endOf k o ≤ e) ∧ endOf k o ≤ (l.length : Int) := by
      intro hh
      have h3 : endOf k o ≤ lastOf l.length (opens l k) := by
        rcases hp.2 with h3 | h3
        · rw [hh] at h3; simp at h3
        · exact of_decide_eq_true h3
      unfold lastOf at h3
      cases hl : (opens l k).getLast? with
      | none =>
        rw [List.getLast?_eq_none_iff] at hl
        rw [hl] at h3 ⊢
        simp at h3 ⊢
        exact h3
      | some z =>
        rw [hl] at h3
        simp at h3
        obtain ⟨ys, hys⟩ := List.getLast?_eq_some_iff.1 hl
        have hz := h2 z (by rw [hys]; simp)
        refine ⟨fun e he => ?_, by omega⟩
        rw [hys] at he h1
        rw [List.pairwise_append] at h1
        rcases List.mem_append.1 he with h4 | h4
        · have := h1.2.2 e h4 z (by simp)
          omega
        · simp at h4; omega
    constructor
    · split
      · rename_i hc
        rw [List.pairwise_append]
        refine ⟨filter_ge h1, by simp, ?_⟩
        intro a ha b hb
        simp at hb
        subst hb
        exact (hend hc.1).1 a (List.mem_filter.1 ha).1
      · rw [List.append_nil]
        exact filter_ge h1
    · intro e he
      rcases List.mem_append.1 he with h4 | h4
      · rw [List.mem_filter] at h4
        have := h2 e h4.1
        have h5 := of_decide_eq_true h4.2
        push_cast
        omega
      · split at h4
        · rename_i hc
          simp at h4
          subst h4
          have := (hend hc.1).2
          push_cast
          omega
        · simp at h4
/-- What the ref asks of a place: how deep it is, and where the nearest end is. -/
theorem opens_min {l : List POp} {k : Nat} (hk : k ≤ l.length) (h : nestedTo l k = true) : ∀ es, es = opens l k → es.foldl min (l.length : Int) = lastOf l.length es := by
  intro es hes
  obtain ⟨h1, h2⟩ := opens_ok k hk h
  rw [← hes] at h1 h2
  have key : ∀ (es : List Int) (m : Int), es.Pairwise (fun a b => a ≥ b) → (∀ e ∈ es, e ≤ m) → es.foldl min m = es.getLast?.getD m := by
    intro es
    induction es with
    | nil => intro m _ _; rfl
    | cons e es ih =>
      intro m hp hm
      rw [List.pairwise_cons] at hp
      rw [List.foldl_cons, Int.min_eq_right (hm e (by simp)), ih e hp.2 (fun x hx => hp.1 x hx)]
      cases es with
      | nil => rfl
      | cons y ys => simp [List.getLast?_cons_cons]; rw [List.getLast?_cons]; simp
  exact key es _ h1 (fun e he => (h2 e he).2)
theorem stack_no {l : List POp} {k : Nat} {o : POp} (h : l[k]? = some o) (ho : o.holds = false) : (opens l k).filter (fun e => decide (((k + 1 : Nat) : Int) < e)) = opens l (k + 1) := by
  rw [opens_succ h, if_neg (by rw [ho]; simp), List.append_nil]
  rfl
theorem stack_yes {l : List POp} {k : Nat} {o : POp} (h : l[k]? = some o) (ho : o.holds = true) : (opens l k ++ [endOf k o]).filter (fun e => decide (((k + 1 : Nat) : Int) < e)) = opens l (k + 1) := by
  rw [opens_succ h, List.filter_append]
  congr 1
  simp only [List.filter_cons, List.filter_nil]
  push_cast
  by_cases hh : (k : Int) + 1 < endOf k o
  · simp [ho, hh]
  · simp [ho, hh]
/-- A row that falls, whose last one is above a place, is above it as a whole. -/
theorem falls_all {es : List Int} {k : Int} (h : (es).Pairwise (fun a b => a ≥ b)) (hl : ∀ e, es.getLast? = some e → k < e) : es.filter (fun e => decide (k < e)) = es := by
  rw [List.filter_eq_self]
  intro x hx
  cases hg : es.getLast? with
  | none => rw [List.getLast?_eq_none_iff] at hg; rw [hg] at hx; simp at hx
  | some z =>
    obtain ⟨ys, hys⟩ := List.getLast?_eq_some_iff.1 hg
    have hz := hl z hg
    rw [hys] at h hx
    rw [List.pairwise_append] at h
    rcases List.mem_append.1 hx with h4 | h4
    · have := h.2.2 x h4 z (by simp)
      simp; omega
    · simp at h4; subst h4; simpa using hz
theorem falls_snoc {es : List Int} {x : Int} (h : es.Pairwise (fun a b => a ≥ b)) (hx : ∀ e ∈ es, x ≤ e) : (es ++ [x]).Pairwise (fun a b => a ≥ b) := by
  rw [List.pairwise_append]
  refine ⟨h, by simp, ?_⟩
  intro a ha b hb
  simp at hb
  subst hb
  exact hx a ha
theorem falls_last {es : List Int} {x y : Int} (h : (es ++ [y]).Pairwise (fun a b => a ≥ b)) (hx : x ≤ y) : ∀ e ∈ es ++ [y], x ≤ e := by
  rw [List.pairwise_append] at h
  intro e he
  rcases List.mem_append.1 he with h4 | h4
  · have := h.2.2 e h4 y (by simp)
    omega
  · simp at h4; omega
end Go.Proofs.YtihjcfifakcpgaaGreatDoor

/- PLAIN: a number read by dividing. -/
namespace Go.Proofs.YtihjcfifakcpgaaGreatDoor
set_option maxRecDepth 100000

/-- What groups come to. -/
def valG : List UInt8 → Nat
  | [] => 0
  | b :: r => b.toNat % 128 + 128 * valG r
/-- How many groups that go on there are at the beginning. -/
def runG : List UInt8 → Nat
  | [] => 0
  | b :: r => if 128 ≤ b.toNat then runG r + 1 else 0
theorem runG_le : ∀ bs : List UInt8, runG bs ≤ bs.length
  | [] => Nat.le_refl _
  | b :: r => by
    rw [runG]
    split
    · have := runG_le r; simp; omega
    · simp
theorem runG_get : ∀ (bs : List UInt8) (k : Nat) (x : UInt8), k < runG bs → bs[k]? = some x → 128 ≤ x.toNat
  | [], k, x, h, _ => by simp [runG] at h
  | b :: r, k, x, h, hx => by
    rw [runG] at h
    split at h
    · rename_i hb
      cases k with
      | zero => simp at hx; subst hx; exact hb
      | succ k => exact runG_get r k x (by omega) (by simpa using hx)
    · omega
theorem runG_stop : ∀ (bs : List UInt8) (x : UInt8), bs[runG bs]? = some x → x.toNat < 128
  | [], x, h => by simp at h
  | b :: r, x, h => by
    rw [runG] at h
    split at h
    · exact runG_stop r x (by simpa using h)
    · rename_i hb
      simp at h
      subst h
      omega
theorem runG_at {bs : List UInt8} {k : Nat} (h : ∀ j x, j < k → bs[j]? = some x → 128 ≤ x.toNat) (hk : k ≤ bs.length) (hs : ∀ x, bs[k]? = some x → x.toNat < 128) : runG bs = k := by
  rcases Nat.lt_trichotomy (runG bs) k with h1 | h1 | h1
  · obtain ⟨x, hx⟩ : ∃ x, bs[runG bs]? = some x := ⟨_, List.getElem?_eq_getElem (by omega)⟩
    have a := h _ x h1 hx
    have b := runG_stop bs x hx
    omega
  · exact h1
  · have := runG_le bs
    obtain ⟨x, hx⟩ : ∃ x, bs[k]? = some x := ⟨_, List.getElem?_eq_getElem (by omega)⟩
    have a := runG_get bs k x h1 hx
    have b := hs x hx
    omega
theorem lebF_run : ∀ (f m : Nat) (r : List UInt8), m < 128 ^ (f + 1) → runG (lebF f m ++ r) + 1 = (lebF f m).length
  | 0, m, r, h => by
    have : (UInt8.ofNat m).toNat = m := by simp at h ⊢; omega
    simp only [lebF, List.singleton_append, runG, this]
    rw [if_neg (by simp at h; omega)]
    simp
  | f + 1, m, r, h => by
    rw [lebF]
    split
    · rename_i hm
      have : (UInt8.ofNat m).toNat = m := by simp; omega
      simp only [List.singleton_append, runG, this]
      rw [if_neg (by omega)]
      simp
    · have : (UInt8.ofNat (m % 128 + 128)).toNat = m % 128 + 128 := by simp; omega
      simp only [List.cons_append, runG, this]
      rw [if_pos (by omega), lebF_run f (m / 128) r (by rw [Nat.div_lt_iff_lt_mul (by decide)]; rw [Nat.pow_succ] at h; exact h)]
      simp
theorem lebF_val : ∀ (f m : Nat), m < 128 ^ (f + 1) → valG (lebF f m) = m
  | 0, m, h => by
    have : (UInt8.ofNat m).toNat = m := by simp at h ⊢; omega
    simp only [lebF, valG, this]
    simp at h
    omega
  | f + 1, m, h => by
    rw [lebF]
    split
    · have : (UInt8.ofNat m).toNat = m := by simp; omega
      simp only [valG, this]
      omega
    · have : (UInt8.ofNat (m % 128 + 128)).toNat = m % 128 + 128 := by simp; omega
      simp only [valG, this]
      rw [lebF_val f (m / 128) (by rw [Nat.div_lt_iff_lt_mul (by decide)]; rw [Nat.pow_succ] at h; exact h)]
      omega
theorem pow10 : (128 : Nat) ^ (9 + 1) = 1180591620717411303424 := by decide
theorem leb_run {m : Nat} (h : m < 18446744073709551616) (r : List UInt8) : runG (leb m ++ r) + 1 = (leb m).length := lebF_run 9 m r (by rw [pow10]; omega)
theorem leb_val {m : Nat} (h : m < 18446744073709551616) : valG (leb m) = m := lebF_val 9 m (by rw [pow10]; omega)
/-- Numbers as they are read: which one, and how many bytes it has. -/
def refRd (bs : List UInt8) : Option (Nat × Nat) := (rdG 0 0 bs).map fun x => (x.1, (leb x.1).length)
theorem rdG_iff {bs : List UInt8} {m : Nat} {r : List UInt8} : rdG 0 0 bs = some (m, r) ↔ bs = leb m ++ r ∧ m < 18446744073709551616 := by
  constructor
  · intro h
    obtain ⟨k, hk, he, hl, _⟩ := rdG_inv bs 0 0 m r (by omega) h
    simp at hk hl
    subst hk
    exact ⟨by simpa [leb] using he, hl⟩
  · rintro ⟨rfl, h⟩
    have := rdG_leb 9 0 0 m r rfl (by simpa using h) (.inl rfl)
    simpa [leb] using this
/-- A ninth or tenth byte shuts a number out. -/
theorem refRd_long {bs : List UInt8} (h : bs.length < runG bs + 1 ∨ 10 < runG bs + 1) : refRd bs = none := by
  unfold refRd
  cases hr : rdG 0 0 bs with
  | none => rfl
  | some x =>
    obtain ⟨m, r⟩ := x
    obtain ⟨e, hm⟩ := rdG_iff.1 hr
    have h1 := leb_run hm r
    have h2 := leb_length m
    rw [← e] at h1
    have h3 : (leb m).length ≤ bs.length := by rw [e]; simp
    omega
theorem valG_append : ∀ (a b : List UInt8), valG (a ++ b) = valG a + 128 ^ a.length * valG b
  | [], b => by simp [valG]
  | x :: a, b => by
    rw [List.cons_append, valG, valG, valG_append a b, List.length_cons, Nat.pow_succ]
    rw [Nat.mul_add, Nat.mul_comm (128 ^ a.length) 128, Nat.mul_assoc]
    omega
theorem valG_lt : ∀ (a : List UInt8), valG a < 128 ^ a.length
  | [] => by simp [valG]
  | x :: a => by
    have := valG_lt a
    rw [valG, List.length_cons, Nat.pow_succ]
    have : x.toNat % 128 < 128 := Nat.mod_lt _ (by decide)
    omega
theorem refRd_top {bs : List UInt8} {x : UInt8} (h : runG bs + 1 = 10) (hx : bs[9]? = some x) (h1 : 1 < x.toNat) : refRd bs = none := by
  unfold refRd
  cases hr : rdG 0 0 bs with
  | none => rfl
  | some y =>
    obtain ⟨m, r⟩ := y
    obtain ⟨e, hm⟩ := rdG_iff.1 hr
    have h2 := leb_run hm r
    rw [← e, h] at h2
    have h3 := leb_val hm
    have hlt : 9 < (leb m).length := by omega
    have hx2 : (leb m)[9]? = some x := by
      rw [e, List.getElem?_append_left hlt] at hx
      exact hx
    have h4 : leb m = (leb m).take 9 ++ [x] := by
      have h5 : (leb m).take 10 = leb m := List.take_of_length_le (by omega)
      conv => lhs; rw [← h5, List.take_add_one, hx2]
      rfl
    have h6 := congrArg valG h4
    rw [h3, valG_append] at h6
    have h7 : ((leb m).take 9).length = 9 := by simp; omega
    have h8 : x.toNat < 128 := by
      have h9 : bs[runG bs]? = some x := by rw [show runG bs = 9 by omega]; exact hx
      exact runG_stop bs x h9
    rw [h7] at h6
    simp only [valG] at h6
    have h10 : (128 : Nat) ^ 9 = 9223372036854775808 := by decide
    rw [h10, Nat.mod_eq_of_lt h8] at h6
    omega
/-- What is written again tells whether it is one. -/
theorem refRd_yes {bs r : List UInt8} {m : Nat} (hm : m < 18446744073709551616) (h : bs = leb m ++ r) : refRd bs = some (m, runG bs + 1) := by
  unfold refRd
  rw [rdG_iff.2 ⟨h, hm⟩]
  simp only [Option.map_some]
  rw [h, leb_run hm r]
theorem refRd_no {bs : List UInt8} (h : ∀ r, bs ≠ leb (valG (bs.take (runG bs + 1))) ++ r) : refRd bs = none := by
  unfold refRd
  cases hr : rdG 0 0 bs with
  | none => rfl
  | some y =>
    obtain ⟨m, r⟩ := y
    obtain ⟨e, hm⟩ := rdG_iff.1 hr
    refine absurd e ?_
    have h1 : valG (bs.take (runG bs + 1)) = m := by
      have h2 := leb_run hm r
      rw [← e] at h2
      rw [h2]
      conv => lhs; rw [e]
      rw [List.take_left' rfl, leb_val hm]
    have := h r
    rw [h1] at this
    exact this
/-- What comes out of so many groups, half by half. -/
theorem valG_half (x : UInt8) (r : List UInt8) : valG (x :: r) = 2 * (64 * valG r + x.toNat % 128 / 2) + x.toNat % 128 % 2 := by
  rw [valG]
  omega
end Go.Proofs.YtihjcfifakcpgaaGreatDoor
