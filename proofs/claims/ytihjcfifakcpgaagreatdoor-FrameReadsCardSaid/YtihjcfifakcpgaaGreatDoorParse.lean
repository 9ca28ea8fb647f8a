/- log.Parse. -/
import Derived.Test.YtihjcfifakcpgaaGreatDoorFld
import Derived.Test.YtihjcfifakcpgaaGreatDoorLogA
import Derived.Lib.ConvBytes
namespace Go.Proofs.YtihjcfifakcpgaaGreatDoor
set_option maxRecDepth 100000
open Go.RowKit

theorem below_bytes (w : World) (e : TypeId) (s : ByteArray) : Below w.heap.size w (Lib.bytesWorld w e s) := by
  refine ⟨?_, ?_, ?_, by rw [Lib.bytesWorld_size]; omega, fun k hk => Lib.bytesWorld_at_old w e s k hk⟩
  · unfold Lib.bytesWorld World.freeze; split <;> rfl
  · unfold Lib.bytesWorld World.freeze; split <;> rfl
  · unfold Lib.bytesWorld World.freeze; split <;> rfl

theorem rd_bytes (w : World) (e : TypeId) (t : List UInt8) (h : t.length ≤ 140737488355328) : Rd (Lib.bytesWorld w e ⟨t.toArray⟩) (fun k => k = w.heap.size) (.slice (some ⟨w.heap.size, 0, none⟩) t.length (grownCap w t.length 0 e)) (t.map B8) := by
  have hs : (⟨t.toArray⟩ : ByteArray).size = t.length := by simp [ByteArray.size]
  refine ⟨_, _, _, rfl, by simp, grownCap_ge _ _ _ _, grownCap_le_maxLen _ _ _ _ (by simp only [maxLen]; omega), fun _ => ⟨w.heap.size, 0, rfl, rfl, fun j u hj => ?_⟩⟩
  have hlt : j < t.length := by have := (List.getElem?_eq_some_iff.1 hj).1; simpa using this
  simp [hlt] at hj
  subst hj
  rw [Nat.zero_add, Lib.bytesWorld_cell w e _ j (by rw [hs]; exact hlt)]
  simp [B8, hlt]

def ParseP (all : List UInt8) (w : World) (e : Ending) (w' : World) : Prop :=
  Below w.heap.size w w' ∧ match parseL all with
    | some qs => ∃ b, e = .returned (.tuple #[.pointer (some ⟨b, 0, none⟩), .int .i64 0]) ∧ LogAt w' (fun k => w.heap.size ≤ k) b qs
    | none => ∃ ec : Int, (ec != 0) = true ∧ e = .returned (.tuple #[.pointer none, .int .i64 ec])

end Go.Proofs.YtihjcfifakcpgaaGreatDoor
