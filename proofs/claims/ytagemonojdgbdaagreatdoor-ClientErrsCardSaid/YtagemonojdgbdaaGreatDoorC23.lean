import Derived.Test.YtagemonojdgbdaaGreatDoorC17
import Derived.Test.YtagemonojdgbdaaGreatDoorC22
import Derived.Lib.ItoaNum
namespace Go.Proofs.YtagemonojdgbdaaGreatDoor
set_option maxRecDepth 100000
def RegOk (n : Int) : Prop := -1099511627776 ≤ n ∧ n ≤ 1099511627776
structure PS (R : Type) where
 pc : Int
 reg : Nat → Int
 steps : Int
 cl : List Cl
 value : Int
 rows : R
section
variable {R : Type}
def blockP (fuel : Int) (ops : List POp) (act : POp → PS R → PS R × Int) (tt : Int) : Nat → PS R → PS R × Int
 | 0, s => (s, 0)
 | g + 1, s =>
  if s.pc < tt then
   if fuel ≤ s.steps then (s, 20)
   else match ops[s.pc.toNat]? with
    | none => (s, 0)
    | some x =>
     let p := act x { s with steps := s.steps + 1, pc := s.pc + 1 }
     if p.2 = 0 then blockP fuel ops act tt g p.1 else p
  else (s, 0)
variable {fuel : Int} {ops : List POp} {act : POp → PS R → PS R × Int} {tt : Int} {g : Nat} {s : PS R}
theorem blockP_end (h : tt ≤ s.pc) : blockP fuel ops act tt g s = (s, 0) := by
 cases g with
 | zero => rfl
 | succ g => rw [blockP, if_neg (by omega)]
theorem blockP_dry (h : s.pc < tt) (hf : fuel ≤ s.steps) : blockP fuel ops act tt (g + 1) s = (s, 20) := by rw [blockP, if_pos h, if_pos hf]
theorem blockP_on {x : POp} {s' : PS R} (h : s.pc < tt) (hf : s.steps < fuel) (hx : ops[s.pc.toNat]? = some x) (ha : act x { s with steps := s.steps + 1, pc := s.pc + 1 } = (s', 0)) : blockP fuel ops act tt (g + 1) s = blockP fuel ops act tt g s' := by
 rw [blockP, if_pos h, if_neg (by omega), hx]
 simp only [ha, if_true]
theorem blockP_stop {x : POp} {s' : PS R} {n : Int} (h : s.pc < tt) (hf : s.steps < fuel) (hx : ops[s.pc.toNat]? = some x) (ha : act x { s with steps := s.steps + 1, pc := s.pc + 1 } = (s', n)) (hn : n ≠ 0) : blockP fuel ops act tt (g + 1) s = (s', n) := by
 rw [blockP, if_pos h, if_neg (by omega), hx]
 simp only [ha, if_neg hn]
end
end Go.Proofs.YtagemonojdgbdaaGreatDoor
