import Derived.WalkKit
namespace Go.Proofs.YtagemonojdgbdaaGreatDoor
set_option maxRecDepth 100000
structure POp where
 d : Int
 a : Int
 b : Int
 c : Int
 n : Int
 deriving DecidableEq
namespace POp
def holds (o : POp) : Bool := o.d == 13 || o.d == 14
def fld (o : POp) (i : Nat) : Int := if i = 0 then o.a else if i = 1 then o.b else if i = 2 then o.c else o.n
end POp
def hasF (d : Int) (i : Nat) : Bool :=
 if d = 1 then i == 0 || i == 2 else if d = 8 ∨ d = 11 then decide (i < 3) else if d = 10 then i == 1 else if d = 12 then true
 else if d = 13 then i == 0 || i == 3 else if d = 14 then decide (2 ≤ i) else if d = 15 then i == 0 else decide (i < 2)
def loF (d : Int) (i : Nat) : Int := if i = 2 ∧ d = 1 then -1099511627776 else 0
def hiF (d : Int) (i : Nat) : Int :=
 if i = 0 then (if d = 9 then 4 else 7) else if i = 1 then 7 else if i = 2 then (if d = 1 then 1099511627776 else if d = 14 then 16 else 3) else (if d = 12 then 1099511627776 else 64)
def formedB (o : POp) : Bool := decide (1 ≤ o.d ∧ o.d ≤ 15) && (List.range 4).all (fun i => hasF o.d i || o.fld i == 0)
def rangedB (o : POp) : Bool := (List.range 4).all (fun i => !hasF o.d i || (decide (loF o.d i ≤ o.fld i) && decide (o.fld i ≤ hiF o.d i)))
def endOf (k : Nat) (o : POp) : Int := (k : Int) + 1 + o.n
def opens (l : List POp) (i : Nat) : List Int := ((l.take i).zipIdx.filter (fun x => x.1.holds && decide ((i : Int) < endOf x.2 x.1))).map (fun x => endOf x.2 x.1)
def lastOf (len : Nat) (es : List Int) : Int := es.getLast?.getD (len : Int)
def placeB (l : List POp) (i : Nat) (o : POp) : Bool := decide ((opens l i).length ≤ 8) && (!o.holds || decide (endOf i o ≤ lastOf l.length (opens l i)))
def nestedTo (l : List POp) (k : Nat) : Bool := (List.range k).all (fun i => match l[i]? with | some o => placeB l i o | none => true)
def nestedB (l : List POp) : Bool := nestedTo l l.length
def opsE (l : List POp) : Int :=
 if 64 < l.length then 23 else if l.all formedB = false then 11 else if l.all rangedB = false then 10 else if nestedB l = false then 11 else 0
theorem nestedTo_succ {l : List POp} {k : Nat} {o : POp} (h : l[k]? = some o) : nestedTo l (k + 1) = (nestedTo l k && placeB l k o) := by
 unfold nestedTo
 rw [List.range_succ, List.all_append]
 simp [h]
theorem nestedTo_mono {l : List POp} {k m : Nat} (h : nestedTo l m = true) (hk : k ≤ m) : nestedTo l k = true := by
 unfold nestedTo at h ⊢
 rw [List.all_eq_true] at h ⊢
 intro i hi
 exact h i (List.mem_range.2 (by have := List.mem_range.1 hi; omega))
theorem opens_succ {l : List POp} {k : Nat} {o : POp} (h : l[k]? = some o) :
  opens l (k + 1) = (opens l k).filter (fun e => decide ((k : Int) + 1 < e)) ++ (if o.holds = true ∧ ((k : Int) + 1 < endOf k o) then [endOf k o] else []) := by
 unfold opens
 have hlt := (List.getElem?_eq_some_iff.1 h).1
 have h1 : l.take (k + 1) = l.take k ++ [o] := by rw [List.take_add_one, h]; rfl
 have hlk : (l.take k).length = k := by simp; omega
 rw [h1, List.zipIdx_append, List.filter_append, List.map_append, hlk]
 congr 1
 ·rw [List.filter_map, List.filter_filter]
  congr 1
  apply List.filter_congr
  intro x _
  simp only [Function.comp]
  rw [Bool.eq_iff_iff]
  simp only [Bool.and_eq_true, decide_eq_true_eq]
  constructor
  ·rintro ⟨h1, h2⟩
   refine ⟨by push_cast at h2; exact h2, h1, by push_cast at h2; omega⟩
  ·rintro ⟨h1, h2, h3⟩
   exact ⟨h2, by push_cast; exact h1⟩
 ·simp only [List.zipIdx_cons, List.zipIdx_nil, List.filter_cons, List.filter_nil, Nat.zero_add]
  push_cast
  by_cases hh : o.holds = true ∧ ((k : Int) + 1 < endOf k o)
  ·simp [hh.1, hh.2]
  ·rw [if_neg hh]
   split
   ·rename_i h2
    simp at h2
    exact absurd h2 hh
   ·rfl
theorem stack_no {l : List POp} {k : Nat} {o : POp} (h : l[k]? = some o) (ho : o.holds = false) : (opens l k).filter (fun e => decide (((k + 1 : Nat) : Int) < e)) = opens l (k + 1) := by
 rw [opens_succ h, if_neg (by rw [ho]; simp), List.append_nil]
 rfl
theorem stack_yes {l : List POp} {k : Nat} {o : POp} (h : l[k]? = some o) (ho : o.holds = true) : (opens l k ++ [endOf k o]).filter (fun e => decide (((k + 1 : Nat) : Int) < e)) = opens l (k + 1) := by
 rw [opens_succ h, List.filter_append]
 congr 1
 simp only [List.filter_cons, List.filter_nil]
 push_cast
 by_cases hh : (k : Int) + 1 < endOf k o
 ·simp [ho, hh]
 ·simp [ho, hh]
theorem falls_all {es : List Int} {k : Int} (h : (es).Pairwise (fun a b => a ≥ b)) (hl : ∀ e, es.getLast? = some e → k < e) : es.filter (fun e => decide (k < e)) = es := by
 rw [List.filter_eq_self]
 intro x hx
 cases hg : es.getLast? with
 | none => rw [List.getLast?_eq_none_iff] at hg; rw [hg] at hx; simp at hx
 | some z =>
  obtain ⟨ys, hys⟩ := List.getLast?_eq_some_iff.1 hg
  have hz := hl z hg
  rw [hys] at h hx
  rw [List.pairwise_append] at h
  rcases List.mem_append.1 hx with h4 | h4
  ·have := h.2.2 x h4 z (by simp)
   simp; omega
  ·simp at h4; subst h4; simpa using hz
theorem falls_snoc {es : List Int} {x : Int} (h : es.Pairwise (fun a b => a ≥ b)) (hx : ∀ e ∈ es, x ≤ e) : (es ++ [x]).Pairwise (fun a b => a ≥ b) := by
 rw [List.pairwise_append]
 refine ⟨h, by simp, ?_⟩
 intro a ha b hb
 simp at hb
 subst hb
 exact hx a ha
theorem falls_last {es : List Int} {x y : Int} (h : (es ++ [y]).Pairwise (fun a b => a ≥ b)) (hx : x ≤ y) : ∀ e ∈ es ++ [y], x ≤ e := by
 rw [List.pairwise_append] at h
 intro e he
 rcases List.mem_append.1 he with h4 | h4
 ·have := h.2.2 e h4 y (by simp)
  omega
 ·simp at h4; omega
def lebF : Nat → Nat → List UInt8
 | 0, n => [UInt8.ofNat n]
 | f + 1, n => if n < 128 then [UInt8.ofNat n] else UInt8.ofNat (n % 128 + 128) :: lebF f (n / 128)
def leb (n : Nat) : List UInt8 := lebF 9 n
theorem leb_lt {m : Nat} (h : m < 128) : leb m = [UInt8.ofNat m] := by simp [leb, lebF, h]
theorem lebF_more (f : Nat) : ∀ n, n < 128 ^ (f + 1) → lebF (f + 1) n = lebF f n := by
 induction f with
 | zero => intro n h; simp [lebF] at h ⊢; omega
 | succ f ih =>
  intro n h
  rw [lebF]
  conv => rhs; rw [lebF]
  split
  ·rfl
  ·rw [ih (n / 128) (by rw [Nat.div_lt_iff_lt_mul (by decide)]; rw [Nat.pow_succ] at h; exact h)]
theorem leb_ge {m : Nat} (h : 128 ≤ m) (h2 : m < 18446744073709551616) : leb m = UInt8.ofNat (m % 128 + 128) :: leb (m / 128) := by
 unfold leb
 rw [lebF, if_neg (by omega), ← lebF_more 8 (m / 128) (by rw [Nat.div_lt_iff_lt_mul (by decide)]; simp; omega)]
theorem leb_length (m : Nat) : (leb m).length ≤ 10 := by
 have : ∀ f n, (lebF f n).length ≤ f + 1 := by
  intro f
  induction f with
  | zero => intro n; simp [lebF]
  | succ f ih => intro n; rw [lebF]; split <;> simp; exact ih _
 exact this 9 m
theorem leb_pos (m : Nat) : 1 ≤ (leb m).length := by
 unfold leb
 rw [lebF]
 split <;> simp
def nib : List Nat := [0x00000000, 0x1db71064, 0x3b6e20c8, 0x26d930ac, 0x76dc4190, 0x6b6b51f4, 0x4db26158, 0x5005713c, 0xedb88320, 0xf00f9344, 0xd6d6a3e8, 0xcb61b38c, 0x9b64c2b0, 0x86d3d2d4, 0xa00ae278, 0xbdbdf21c]
def nibAt (i : Nat) : Nat := nib.getD i 0
def half (r : Nat) : Nat := r / 16 ^^^ nibAt (r % 16)
def crcB (r : Nat) (x : UInt8) : Nat := half (half (r ^^^ x.toNat))
def crcT (r : Nat) (xs : List UInt8) : Nat := xs.foldl crcB r
def crc (xs : List UInt8) : Nat := 4294967295 - crcT 4294967295 xs
def four (s : Nat) : List UInt8 := [UInt8.ofNat (s % 256), UInt8.ofNat (s / 256 % 256), UInt8.ofNat (s / 65536 % 256), UInt8.ofNat (s / 16777216 % 256)]
def sealB (xs : List UInt8) : List UInt8 := xs ++ four (crc xs)
theorem nib_lt : ∀ i, i < 16 → nibAt i < 4294967296 := by decide
theorem xor_lt {a b : Nat} (ha : a < 4294967296) (hb : b < 4294967296) : a ^^^ b < 4294967296 := Nat.xor_lt_two_pow (n := 32) ha hb
theorem half_lt {r : Nat} (h : r < 4294967296) : half r < 4294967296 := xor_lt (by omega) (nib_lt _ (by omega))
theorem crcB_lt {r : Nat} (h : r < 4294967296) (x : UInt8) : crcB r x < 4294967296 := half_lt (half_lt (xor_lt h (by have := x.toNat_lt; omega)))
theorem crcT_lt : ∀ {r : Nat} (xs : List UInt8), r < 4294967296 → crcT r xs < 4294967296
 | _, [], h => h
 | _, x :: xs, h => crcT_lt xs (crcB_lt h x)
theorem crc_lt (xs : List UInt8) : crc xs < 4294967296 := by unfold crc; omega
theorem four_len (s : Nat) : (four s).length = 4 := rfl
theorem seal_len (xs : List UInt8) : (sealB xs).length = xs.length + 4 := by simp [sealB, four_len]
end Go.Proofs.YtagemonojdgbdaaGreatDoor
