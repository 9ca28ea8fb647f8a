import Derived.Test.YtagemonojdgbdaaGreatDoorC04
import Derived.Maps.RangeWalk
import Derived.Maps.OwnOps
import Derived.Maps.OwnSet
import Derived.DeepKeys4
namespace Go.Proofs.YtagemonojdgbdaaGreatDoor
set_option maxRecDepth 100000
open Go.RowKit
section
open Go.RowKit Go.Maps Go.WideShapes
theorem Tryz.laidOutM : laidOutB Tryz.prog = true := by kernel_rfl
theorem Tryz.rowK : (176 : TypeId) < Tryz.prog.types.size := of_decide_eq_true (by kernel_rfl)
theorem Tryz.wideK : (match Tryz.prog.underlying 176 with | some (.array _ _) | some (.struct _) => true | _ => false) = true := by rw [Tryz.underlying176]
theorem lawK : Keyed Tryz.prog 176 := Keyed.of_law (deep_law_laid Tryz.laidOutM (m := 2) (by omega) Tryz.rowK (by kernel_rfl) Tryz.wideK)
theorem Tryz.cellsK : Tryz.prog.cellsOf 176 = 1 := by kernel_rfl
theorem Tryz.cellsS : Tryz.prog.cellsOf 9 = 1 := by kernel_rfl
theorem Tryz.keyK : Tryz.prog.keyType 176 = true := by kernel_rfl
def rowV (k : List UInt8) : Value := .agg #[.string ⟨k.toArray⟩]
def rowKey (k : List UInt8) : Lit := .string (keyBytes [.string k])
theorem bytesLE_len (w n : Nat) : (bytesLE w n).length = w := by
 induction w generalizing n with
 | zero => rfl
 | succ w ih => simp [bytesLE, ih]
theorem rowKey_inj {a b : List UInt8} (h : rowKey a = rowKey b) : a = b := by
 unfold rowKey keyBytes at h
 simp [Lit.keyBytes] at h
 have hl : (bytesBE 8 a.length).length = (bytesBE 8 b.length).length := by simp [bytesBE, bytesLE_len]
 exact (List.append_inj h hl).2
theorem keyOf_row {k : List UInt8} (h : k.length ≤ maxLen) : keyOf Tryz.prog 176 (rowV k) = some (rowKey k) := by
 unfold keyOf rowV
 rw [Tryz.underlying176]
 simp only
 have hf : (Value.agg #[.string ⟨k.toArray⟩]).formed Tryz.prog 176 = true := by simp [Value.formed, Tryz.underlying176, Tryz.cellsK]
 have hsz : (⟨k.toArray⟩ : ByteArray).size ≤ maxLen := by simpa [ByteArray.size] using h
 rw [Tryz.keyK, hf]
 obtain ⟨d, hd⟩ : ∃ d, Tryz.prog.types.size + 1 = d + 1 + 1 := ⟨Tryz.prog.types.size - 1, by have h1 : (0 : Nat) < Tryz.prog.types.size := Nat.lt_of_le_of_lt (Nat.zero_le _) Tryz.rowK; omega⟩
 rw [hd]
 simp [Program.keyLits, Tryz.underlying176, Tryz.underlying9, Tryz.cellsK, Tryz.cellsS, Value.cells, rowKey, hsz]
theorem keyOf_row_inv {v : Value} {kl : Lit} (h : keyOf Tryz.prog 176 v = some kl) : ∃ k : List UInt8, v = rowV k ∧ kl = rowKey k ∧ k.length ≤ maxLen := by
 unfold keyOf at h
 rw [Tryz.underlying176] at h
 simp only at h
 split at h
 ·rename_i hc
  simp only [Bool.and_eq_true] at hc
  obtain ⟨d, hd⟩ : ∃ d, Tryz.prog.types.size + 1 = d + 1 + 1 := ⟨Tryz.prog.types.size - 1, by have h1 : (0 : Nat) < Tryz.prog.types.size := Nat.lt_of_le_of_lt (Nat.zero_le _) Tryz.rowK; omega⟩
  rw [hd] at h
  obtain ⟨cs, rfl⟩ : ∃ cs, v = .agg cs := by
   have := hc.2
   unfold Value.formed at this
   split at this
   ·exact ⟨_, rfl⟩
   ·cases this
   ·rw [Tryz.underlying176] at this; cases this
  have hs : cs.size = 1 := by
   have := hc.2
   simpa [Value.formed, Tryz.underlying176, Tryz.cellsK] using this
  obtain ⟨cl⟩ := cs
  match cl, hs with
  | [c0], hs1 =>
   simp [Program.keyLits, Tryz.underlying176, Tryz.underlying9, Tryz.cellsK, Tryz.cellsS, Value.cells] at h
   clear hs1 hc hs
   cases c0 <;> simp at h
   rename_i sb
   by_cases hle : sb.size ≤ maxLen
   ·rw [if_pos hle] at h
    simp at h
    exact ⟨sb.data.toList, rfl, h.symm, by rw [Array.length_toList]; exact hle⟩
   ·rw [if_neg hle] at h
    simp at h
 ·cases h
end
end Go.Proofs.YtagemonojdgbdaaGreatDoor
