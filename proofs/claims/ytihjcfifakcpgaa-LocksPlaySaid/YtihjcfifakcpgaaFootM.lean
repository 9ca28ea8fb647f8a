/- The map of rows: its keys are structs of one string. -/
import Derived.Test.YtihjcfifakcpgaaFoot
import Derived.Maps.RangeWalk
import Derived.Maps.OwnOps
import Derived.Maps.OwnSet
import Derived.DeepKeys4
namespace Go.Proofs.Ytihjcfifakcpgaa
open Go.RowKit Go.Maps Go.WideShapes

theorem Try.laidOutM : laidOutB Try.prog = true := by kernel_rfl
theorem Try.rowK : (63 : TypeId) < Try.prog.types.size := of_decide_eq_true (by kernel_rfl)
theorem Try.wideK : (match Try.prog.underlying 63 with | some (.array _ _) | some (.struct _) => true | _ => false) = true := by rw [Try.underlying63]
set_option maxRecDepth 100000 in
theorem lawK : Keyed Try.prog 63 := Keyed.of_law (deep_law_laid Try.laidOutM (m := 2) (by omega) Try.rowK (by kernel_rfl) Try.wideK)
theorem Try.cellsK : Try.prog.cellsOf 63 = 1 := by kernel_rfl
theorem Try.cellsS : Try.prog.cellsOf 9 = 1 := by kernel_rfl
theorem Try.keyK : Try.prog.keyType 63 = true := by kernel_rfl

/-- A row's key as a value, and as it reads. -/
def rowV (k : List UInt8) : Value := .agg #[.string ⟨k.toArray⟩]
def rowKey (k : List UInt8) : Lit := .string (keyBytes [.string k])

theorem bytesLE_len (w n : Nat) : (bytesLE w n).length = w := by
  induction w generalizing n with
  | zero => rfl
  | succ w ih => simp [bytesLE, ih]
theorem rowKey_inj {a b : List UInt8} (h : rowKey a = rowKey b) : a = b := by
  unfold rowKey keyBytes at h
  simp [Lit.keyBytes] at h
  have hl : (bytesBE 8 a.length).length = (bytesBE 8 b.length).length := by simp [bytesBE, bytesLE_len]
  exact (List.append_inj h hl).2

theorem keyOf_row {k : List UInt8} (h : k.length ≤ maxLen) : keyOf Try.prog 63 (rowV k) = some (rowKey k) := by
  unfold keyOf rowV
  rw [Try.underlying63]
  simp only
  have hf : (Value.agg #[.string ⟨k.toArray⟩]).formed Try.prog 63 = true := by simp [Value.formed, Try.underlying63, Try.cellsK]
  have hsz : (⟨k.toArray⟩ : ByteArray).size ≤ maxLen := by simpa [ByteArray.size] using h
  rw [Try.keyK, hf]
  obtain ⟨d, hd⟩ : ∃ d, Try.prog.types.size + 1 = d + 1 + 1 := ⟨Try.prog.types.size - 1, by have h1 : (0 : Nat) < Try.prog.types.size := Nat.lt_of_le_of_lt (Nat.zero_le _) Try.rowK; omega⟩
  rw [hd]
  simp [Program.keyLits, Try.underlying63, Try.underlying9, Try.cellsK, Try.cellsS, Value.cells, rowKey, hsz]

set_option maxRecDepth 100000 in
theorem keyOf_row_inv {v : Value} {kl : Lit} (h : keyOf Try.prog 63 v = some kl) : ∃ k : List UInt8, v = rowV k ∧ kl = rowKey k ∧ k.length ≤ maxLen := by
  unfold keyOf at h
  rw [Try.underlying63] at h
  simp only at h
  split at h
  · rename_i hc
    simp only [Bool.and_eq_true] at hc
    obtain ⟨d, hd⟩ : ∃ d, Try.prog.types.size + 1 = d + 1 + 1 := ⟨Try.prog.types.size - 1, by have h1 : (0 : Nat) < Try.prog.types.size := Nat.lt_of_le_of_lt (Nat.zero_le _) Try.rowK; omega⟩
    rw [hd] at h
    obtain ⟨cs, rfl⟩ : ∃ cs, v = .agg cs := by
      have := hc.2
      unfold Value.formed at this
      split at this
      · exact ⟨_, rfl⟩
      · cases this
      · rw [Try.underlying63] at this; cases this
    have hs : cs.size = 1 := by
      have := hc.2
      simpa [Value.formed, Try.underlying63, Try.cellsK] using this
    obtain ⟨cl⟩ := cs
    match cl, hs with
    | [c0], hs1 =>
      simp [Program.keyLits, Try.underlying63, Try.underlying9, Try.cellsK, Try.cellsS, Value.cells] at h
      clear hs1 hc hs
      cases c0 <;> simp at h
      rename_i sb
      by_cases hle : sb.size ≤ maxLen
      · rw [if_pos hle] at h
        simp at h
        exact ⟨sb.data.toList, rfl, h.symm, by rw [Array.length_toList]; exact hle⟩
      · rw [if_neg hle] at h
        simp at h
  · cases h

end Go.Proofs.Ytihjcfifakcpgaa
