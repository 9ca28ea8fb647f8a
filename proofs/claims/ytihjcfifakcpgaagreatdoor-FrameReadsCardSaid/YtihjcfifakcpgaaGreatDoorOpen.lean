/- Arguments of laws, opened: slices of slices of bytes. -/
import Derived.Test.YtihjcfifakcpgaaGreatDoorLogA
import Derived.Test.YtihjcfifakcpgaaGreatDoorLift
namespace Go.Proofs.YtihjcfifakcpgaaGreatDoor
set_option maxRecDepth 100000
open Go.ChangeShapes Go.WideShapes Go.ChangeAt Go.RowKit Go.Deep

/-- The bytes of numbers. -/
theorem byte_of_wf {n : Int} (h : (Lit.int .u8 n).wf = true) : Value.int .u8 n = B8 (UInt8.ofNat n.toNat) := by
  have hb := bounds_u8 h
  simp [B8]
  omega

theorem bytes_of_trod {H : Type} {enc : TypeId × Value → H} {W : World} {v : Value} {d : DataW H} {p : List MemPlace} {base : Nat} (hval : Value.okWide Tryz.prog W .any base 31 v)
    (h : DataW.Trod enc Tryz.prog W 0 (fun _ => true) true 31 v d p) : ∃ bs : List UInt8, Rd W (fun _ => True) v (bs.map B8) := by
  obtain ⟨a0, len, cap, rfl⟩ := okWide_slice Tryz.underlying31 hval
  obtain ⟨fuel, hf⟩ := h
  rcases open_ints Tryz.underlying31 Tryz.underlying5 (by kernel_rfl) hf with ⟨hcs, hx⟩ | ⟨a, len', cap', zs, hcs, hb, hl, hm, hz, hx, hcell, hwf⟩
  · simp [Value.cells] at hcs
    obtain ⟨rfl, rfl, rfl⟩ := hcs
    exact ⟨[], Rd.nil _ _⟩
  · simp [Value.cells] at hcs
    obtain ⟨rfl, rfl, rfl⟩ := hcs
    simp at hz
    refine ⟨(zs.map fun n => UInt8.ofNat n.toNat).take len, some a, len, cap, rfl, by simp; omega, hl, hm, fun h0 => ?_⟩
    have ha : a = ⟨a.block, a.off, none⟩ := by
      have h00 := hcell 0 (by omega)
      have : a.add 0 = a := by simp [Addr.add]
      rw [this] at h00
      exact addr_of_cell h00
    refine ⟨a.block, a.off, by rw [← ha], trivial, fun j u hj => ?_⟩
    have hjl : j < len := by have := (List.getElem?_eq_some_iff.1 hj).1; simp at this; omega
    have hjz : j < zs.length := by omega
    simp [hjl, hjz] at hj
    subst hj
    have h1 := hcell j hjz
    have h2 := hwf (zs[j]) (List.getElem_mem hjz)
    rw [← byte_of_wf h2]
    rw [ha] at h1
    unfold Addr.add at h1
    split at h1
    · subst_vars; simpa [hjz] using h1
    · simpa [hjz] using h1

theorem rows_of_trod {H : Type} {enc : TypeId × Value → H} {W : World} {v : Value} {d : DataW H} {p : List MemPlace} {base : Nat} (hval : Value.okWide Tryz.prog W .any base 55 v)
    (h : DataW.Trod enc Tryz.prog W 0 (fun _ => true) true 55 v d p) : ∃ ps, RowsRd W (fun _ => True) v ps := by
  obtain ⟨a0, len, cap, rfl⟩ := okWide_slice Tryz.underlying55 hval
  obtain ⟨fuel, hf⟩ := h
  rcases open_int_rows Tryz.underlying55 Tryz.underlying31 Tryz.underlying5 (by kernel_rfl) (by kernel_rfl) hf with ⟨hcs, hx⟩ | ⟨a, len', cap', A, L, C, Z, hcs, hb, hl, hm, hx, hcell⟩
  · simp [Value.cells] at hcs
    obtain ⟨rfl, rfl, rfl⟩ := hcs
    exact ⟨[], RowsRd.nil _ _⟩
  · simp [Value.cells] at hcs
    obtain ⟨rfl, rfl, rfl⟩ := hcs
    refine ⟨(List.range len).map fun r => ((Z r).map fun n => UInt8.ofNat n.toNat).take (L r), (List.range len).map fun r => .slice (A r) (L r) (C r), ⟨some a, len, cap, rfl, by simp, hl, hm, fun h0 => ?_⟩, by simp, fun i q hq => ?_⟩
    · have h00 := (hcell 0 (by omega)).1
      have ha : a = ⟨a.block, a.off, none⟩ := by
        have : a.add 0 = a := by simp [Addr.add]
        rw [this] at h00
        exact addr_of_cell h00
      refine ⟨a.block, a.off, by rw [← ha], trivial, fun j u hj => ?_⟩
      have hjl : j < len := by have := (List.getElem?_eq_some_iff.1 hj).1; simpa using this
      simp [hjl] at hj
      subst hj
      have := (hcell j (by omega)).1
      rw [ha] at this
      unfold Addr.add at this
      split at this
      · subst_vars; simpa using this
      · simpa using this
    · have hil : i < len := by have := (List.getElem?_eq_some_iff.1 hq).1; simpa using this
      simp [hil] at hq
      subst hq
      obtain ⟨_, hLC, hCm, hZl, hwf, hnil, hcc⟩ := hcell i (by omega)
      have hlen : (((Z i).map fun n => UInt8.ofNat n.toNat).take (L i)).length = L i := by simp; omega
      refine ⟨A i, C i, by rw [hlen]; simp [hil], ?_⟩
      rw [hlen]
      refine ⟨A i, L i, C i, rfl, by simp; omega, hLC, hCm, fun h0 => ?_⟩
      cases hA : A i with
      | none => have := hnil hA; omega
      | some a' =>
        obtain ⟨_, hcl⟩ := hcc a' hA
        have ha : a' = ⟨a'.block, a'.off, none⟩ := by
          have h00 := hcl 0 (by omega)
          have : a'.add 0 = a' := by simp [Addr.add]
          rw [this] at h00
          exact addr_of_cell h00
        refine ⟨a'.block, a'.off, by rw [← ha], trivial, fun j u hj => ?_⟩
        have hjl : j < L i := by have := (List.getElem?_eq_some_iff.1 hj).1; simp at this; omega
        have hjz : j < (Z i).length := by omega
        simp [hjl, hjz] at hj
        subst hj
        have h1 := hcl j (by omega)
        have h2 := hwf ((Z i)[j]) (List.getElem_mem hjz)
        rw [← byte_of_wf h2]
        rw [ha] at h1
        unfold Addr.add at h1
        split at h1
        · subst_vars; simpa [hjz] using h1
        · simpa [hjz] using h1

end Go.Proofs.YtihjcfifakcpgaaGreatDoor
