/- breviaryref09: Begins. -/
import Derived.Test.YtihjcfifakcpgaaRefB
namespace Go.Proofs.Ytihjcfifakcpgaa
open Go.RowKit

def begStep (col : Int) (acc : List Int) (c : Cl) : List Int := if c.col = col then (if c.hi < 9223372036854775807 then putS (putS acc c.lo) (c.hi + 1) else putS acc c.lo) else acc
/-- All numbers of a column at which what claims do may turn. -/
def begS (l : List Cl) (col : Int) : List Int := l.foldl (begStep col) []
theorem begS_snoc (l : List Cl) (c : Cl) (col : Int) : begS (l ++ [c]) col = begStep col (begS l col) c := by simp [begS]
theorem begS_len (col : Int) : ∀ (l : List Cl) (acc : List Int), (l.foldl (begStep col) acc).length ≤ acc.length + 2 * l.length
  | [], acc => by simp
  | c :: l, acc => by
    have h := begS_len col l (begStep col acc c)
    have h2 : (begStep col acc c).length ≤ acc.length + 2 := by
      unfold begStep
      split
      · split
        · have := putS_len (putS acc c.lo) (c.hi + 1); have := putS_len acc c.lo; omega
        · have := putS_len acc c.lo; omega
      · omega
    rw [List.foldl_cons, List.length_cons]
    omega
theorem begS_rising (col : Int) : ∀ (l : List Cl) (acc : List Int), Rising acc → Rising (l.foldl (begStep col) acc)
  | [], _, h => h
  | c :: l, acc, h => by
    refine begS_rising col l _ ?_
    unfold begStep
    split
    · split
      · exact putS_rising (putS_rising h)
      · exact putS_rising h
    · exact h
theorem begS_mem (col : Int) : ∀ (l : List Cl) (acc : List Int) (x : Int), x ∈ l.foldl (begStep col) acc ↔ x ∈ acc ∨ ∃ c ∈ l, c.col = col ∧ (x = c.lo ∨ (c.hi < 9223372036854775807 ∧ x = c.hi + 1))
  | [], acc, x => by simp
  | c :: l, acc, x => by
    rw [List.foldl_cons, begS_mem col l]
    have hb : x ∈ begStep col acc c ↔ x ∈ acc ∨ (c.col = col ∧ (x = c.lo ∨ (c.hi < 9223372036854775807 ∧ x = c.hi + 1))) := by
      unfold begStep
      split
      · rename_i h1
        split
        · rename_i h2
          rw [putS_mem, putS_mem]
          simp [h1, h2, or_assoc]
        · rename_i h2
          rw [putS_mem]
          simp [h1, h2]
      · rename_i h1
        simp [h1]
    rw [hb]
    constructor
    · rintro ((h | h) | ⟨d, hd, h⟩)
      · exact .inl h
      · exact .inr ⟨c, by simp, h⟩
      · exact .inr ⟨d, by simp [hd], h⟩
    · rintro (h | ⟨d, hd, h⟩)
      · exact .inl (.inl h)
      · rcases List.mem_cons.1 hd with rfl | hd
        · exact .inl (.inr h)
        · exact .inr ⟨d, hd, h⟩

def BegP (l : List Cl) (col : Int) (w : World) (e : Ending) (w' : World) : Prop := ∃ v', e = .returned v' ∧ IntRd w' v' (begS l col) ∧ Below w.heap.size w w'

end Go.Proofs.Ytihjcfifakcpgaa
