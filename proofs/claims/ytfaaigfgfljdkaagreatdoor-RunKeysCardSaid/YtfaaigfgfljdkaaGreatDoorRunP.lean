/- PLAIN: the machine of a run: its state ('PS'), what ops of some places do ('blockP'). No program in sight. -/
import Derived.Test.YtfaaigfgfljdkaaGreatDoorProcP
import Derived.Test.YtfaaigfgfljdkaaGreatDoorNorm
import Derived.Lib.ItoaNum
namespace Go.Proofs.YtfaaigfgfljdkaaGreatDoor
set_option maxRecDepth 100000

/-- A number whose key has at most 16 bytes. -/
def RegOk (n : Int) : Prop := -1000000000000000 < n ∧ n < 10000000000000000
theorem RegOk.i64 {n : Int} (h : RegOk n) : I64 n := ⟨by have := h.1; omega, by have := h.2; omega⟩
theorem nDigits_up : ∀ (k m : Nat), m < 10 ^ (k + 1) → Lib.nDigits m ≤ k + 1
  | 0, m, h => by rw [Lib.nDigits_small (by simpa using h)]; omega
  | k + 1, m, h => by
    by_cases hm : m < 10
    · rw [Lib.nDigits_small hm]; omega
    · rw [Lib.nDigits_big hm]
      have := nDigits_up k (m / 10) (by rw [Nat.div_lt_iff_lt_mul (by omega)]; rw [← Nat.pow_succ]; exact h)
      omega
theorem itoa_len {n : Int} (h : RegOk n) : 1 ≤ (Lib.itoa n).length ∧ (Lib.itoa n).length ≤ 16 := by
  unfold Lib.itoa
  split
  · have h1 := nDigits_up 14 n.natAbs (by have := h.1; omega)
    rw [List.length_cons, Lib.decDigits_length]
    omega
  · have h1 := nDigits_up 15 n.toNat (by have := h.2; omega)
    have h2 := Lib.nDigits_pos n.toNat
    rw [Lib.decDigits_length]
    omega
theorem itoa_key {n : Int} (h : RegOk n) : keyErr (Lib.itoa n) = 0 := by
  have := itoa_len h
  unfold keyErr
  rw [if_neg (by omega)]
/-- The claim of a row. -/
def clRow (n : Int) : Cl := ⟨false, -1, Lib.itoa n, 0, 0⟩
theorem clRow_good {n : Int} (h : RegOk n) : Good [clRow n] := by
  have hl := itoa_len h
  intro c hc
  rw [List.mem_singleton] at hc
  subst hc
  refine ⟨?_, ⟨by unfold clRow I64; simp, by unfold clRow I64; simp, by unfold clRow I64; simp, by unfold clRow maxLen; simp only; omega⟩⟩
  unfold Ok chk clRow
  simp [itoa_key h]

/-- A run's state: place, registers, steps, what was claimed, the value, the rows. -/
structure PS (R : Type) where
  pc : Int
  reg : Nat → Int
  steps : Int
  cl : List Cl
  value : Int
  rows : R
section
variable {R : Type}
/-- What the ops of the places up to one do: the state then, and how it ended (OK 0, ErrFuel 20, ..). -/
def blockP (fuel : Int) (ops : List POp) (act : POp → PS R → PS R × Int) (tt : Int) : Nat → PS R → PS R × Int
  | 0, s => (s, 0)
  | g + 1, s =>
    if s.pc < tt then
      if fuel ≤ s.steps then (s, 20)
      else match ops[s.pc.toNat]? with
        | none => (s, 0)
        | some x =>
          let p := act x { s with steps := s.steps + 1, pc := s.pc + 1 }
          if p.2 = 0 then blockP fuel ops act tt g p.1 else p
    else (s, 0)
variable {fuel : Int} {ops : List POp} {act : POp → PS R → PS R × Int} {tt : Int} {g : Nat} {s : PS R}
theorem blockP_end (h : tt ≤ s.pc) : blockP fuel ops act tt g s = (s, 0) := by
  cases g with
  | zero => rfl
  | succ g => rw [blockP, if_neg (by omega)]
theorem blockP_dry (h : s.pc < tt) (hf : fuel ≤ s.steps) : blockP fuel ops act tt (g + 1) s = (s, 20) := by rw [blockP, if_pos h, if_pos hf]
theorem blockP_on {x : POp} {s' : PS R} (h : s.pc < tt) (hf : s.steps < fuel) (hx : ops[s.pc.toNat]? = some x) (ha : act x { s with steps := s.steps + 1, pc := s.pc + 1 } = (s', 0)) : blockP fuel ops act tt (g + 1) s = blockP fuel ops act tt g s' := by
  rw [blockP, if_pos h, if_neg (by omega), hx]
  simp only [ha, if_true]
theorem blockP_stop {x : POp} {s' : PS R} {n : Int} (h : s.pc < tt) (hf : s.steps < fuel) (hx : ops[s.pc.toNat]? = some x) (ha : act x { s with steps := s.steps + 1, pc := s.pc + 1 } = (s', n)) (hn : n ≠ 0) : blockP fuel ops act tt (g + 1) s = (s', n) := by
  rw [blockP, if_pos h, if_neg (by omega), hx]
  simp only [ha, if_neg hn]
end
end Go.Proofs.YtfaaigfgfljdkaaGreatDoor
