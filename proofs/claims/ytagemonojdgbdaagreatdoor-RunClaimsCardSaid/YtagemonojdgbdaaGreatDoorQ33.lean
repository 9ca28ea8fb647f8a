import Derived.Test.YtagemonojdgbdaaGreatDoorQ02
import Derived.Test.YtagemonojdgbdaaGreatDoorQ32
import Derived.Lib.ItoaNum
namespace Go.Proofs.YtagemonojdgbdaaGreatDoor
set_option maxRecDepth 100000
open Go.RowKit
def fO (n : Int) : Prop := -1099511627776 <= n /\ n <= 1099511627776
theorem fO.i64 {n : Int} (h : fO n) : jD n := ⟨by have := h.1; omega, by have := h.2; omega⟩
theorem iZ : ∀ (k m : Nat), m < 10 ^ (k + 1) -> Lib.nDigits m <= k + 1
 | 0, m, h => by rw [Lib.nDigits_small (by simpa using h)]; omega
 | k + 1, m, h => by
  by_cases hm : m < 10
  ·rw [Lib.nDigits_small hm]; omega
  ·rw [Lib.nDigits_big hm]
   have := iZ k (m / 10) (by rw [Nat.div_lt_iff_lt_mul (by omega)]; rw [<- Nat.pow_succ]; exact h)
   omega
theorem rK {n : Int} (h : fO n) : 1 <= (Lib.itoa n).length /\ (Lib.itoa n).length <= 16 := by
 unfold Lib.itoa
 split
 ·have h1 := iZ 14 n.natAbs (by have := h.1; omega)
  rw [List.length_cons, Lib.decDigits_length]
  omega
 ·have h1 := iZ 15 n.toNat (by have := h.2; omega)
  have h2 := Lib.nDigits_pos n.toNat
  rw [Lib.decDigits_length]
  omega
theorem yl {n : Int} (h : fO n) : cO (Lib.itoa n) = 0 := by
 have := rK h
 unfold cO
 rw [if_neg (by omega)]
def fP (n : Int) : Cl := ⟨false, -1, Lib.itoa n, 0, 0⟩
theorem ja {n : Int} (h : fO n) : Good [fP n] := by
 have hl := rK h
 intro c hc
 rw [List.mem_singleton] at hc
 subst hc
 refine ⟨?_, ⟨by unfold fP jD; simp, by unfold fP jD; simp, by unfold fP jD; simp, by unfold fP maxLen; simp only; omega⟩⟩
 unfold Ok Bk fP
 simp [yl h]
structure PS (R : Type) where
 pc : Int
 ij : Nat -> Int
 steps : Int
 cl : List Cl
 value : Int
 rows : R
section
variable {R : Type}
def dC (fuel : Int) (ops : List cC) (act : cC -> PS R -> PS R × Int) (tt : Int) : Nat -> PS R -> PS R × Int
 | 0, s => (s, 0)
 | g + 1, s =>
  if s.pc < tt then
   if fuel <= s.steps then (s, 20)
   else match ops[s.pc.toNat]? with
    | none => (s, 0)
    | some x =>
     let p := act x { s with steps := s.steps + 1, pc := s.pc + 1 }
     if p.2 = 0 then dC fuel ops act tt g p.1 else p
  else (s, 0)
variable {fuel : Int} {ops : List cC} {act : cC -> PS R -> PS R × Int} {tt : Int} {g : Nat} {s : PS R}
theorem zW (h : tt <= s.pc) : dC fuel ops act tt g s = (s, 0) := by
 cases g with
 | zero => rfl
 | succ g => rw [dC, if_neg (by omega)]
theorem zX (h : s.pc < tt) (hf : fuel <= s.steps) : dC fuel ops act tt (g + 1) s = (s, 20) := by rw [dC, if_pos h, if_pos hf]
theorem Db {x : cC} {s' : PS R} (h : s.pc < tt) (hf : s.steps < fuel) (hx : ops[s.pc.toNat]? = some x) (ha : act x { s with steps := s.steps + 1, pc := s.pc + 1 } = (s', 0)) : dC fuel ops act tt (g + 1) s = dC fuel ops act tt g s' := by
 rw [dC, if_pos h, if_neg (by omega), hx]
 simp only [ha, if_true]
theorem ym {x : cC} {s' : PS R} {n : Int} (h : s.pc < tt) (hf : s.steps < fuel) (hx : ops[s.pc.toNat]? = some x) (ha : act x { s with steps := s.steps + 1, pc := s.pc + 1 } = (s', n)) (hn : n ≠ 0) : dC fuel ops act tt (g + 1) s = (s', n) := by
 rw [dC, if_pos h, if_neg (by omega), hx]
 simp only [ha, if_neg hn]
end
def bt (n : Int) : Int := max (-1099511627776) (min n 1099511627776)
theorem mg (n : Int) : fO (bt n) := by unfold bt fO; omega
end Go.Proofs.YtagemonojdgbdaaGreatDoor
