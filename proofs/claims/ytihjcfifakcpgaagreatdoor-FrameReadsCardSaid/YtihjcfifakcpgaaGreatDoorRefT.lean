/- An entry's bytes by the document's answer: ref13.Inside. -/
import Derived.Test.YtihjcfifakcpgaaGreatDoorRefR
import Derived.Test.YtihjcfifakcpgaaGreatDoorFrameHA
namespace Go.Proofs.YtihjcfifakcpgaaGreatDoor
set_option maxRecDepth 100000
open Go.RowKit

/-- A row of bytes that grows, beside blocks that stay (K). -/
def OutS (w0 : World) (K : Nat → Prop) (v : Value) (bs : List UInt8) (w : World) : Prop :=
  w.ownsRow w0.heap.size 5 1 v bs.length (bs.map B8) ∧ Below w0.heap.size w0 w ∧ ∀ k, K k → k < w.heap.size ∧ v.ownBlock ≠ some k
section
variable {w0 w w1 w2 : World} {K : Nat → Prop} {v v' : Value} {bs xs : List UInt8}
theorem OutS.call (h : OutS w0 K v bs w) (hb : Below w.heap.size w w1) : OutS w0 K v bs w1 ∧ Kept K w w1 :=
  ⟨⟨own_below h.1 hb, h.2.1.trans (hb.mono h.2.1.size), fun k hk => ⟨Nat.lt_of_lt_of_le (h.2.2 k hk).1 hb.size, (h.2.2 k hk).2⟩⟩, fun _ _ _ ho => (Only.of_below hb (fun _ => False)).heap ho (fun h => h)⟩
theorem OutS.app (h : OutS w0 K v bs w1) (hown : w2.ownsRow w0.heap.size 5 1 v' (bs.length + (xs.map B8).length) (bs.map B8 ++ xs.map B8)) (hg : w1.grownBy w2 v.ownBlock) (hat : v'.ownBlock = v.ownBlock ∨ v'.ownBlock = some w1.heap.size) :
    OutS w0 K v' (bs ++ xs) w2 ∧ Kept K w1 w2 := by
  refine ⟨⟨by simpa using hown, h.2.1.grown hg h.2.1.size (fun j hj => (h.1.lt j hj).1), fun k hk => ⟨Nat.lt_of_lt_of_le (h.2.2 k hk).1 hg.size, fun e => ?_⟩⟩, fun k o hk ho => (Only.of_grownBy hg).heap ho (fun e => (h.2.2 k hk).2 e)⟩
  rcases hat with hat | hat
  · exact (h.2.2 k hk).2 (hat.symm.trans e)
  · rw [hat] at e
    injection e with e
    have := (h.2.2 k hk).1
    omega
theorem OutS.box (h : OutS w0 K v bs w) (o : Obj) : OutS w0 (fun k => K k ∨ k = w.heap.size) v bs (w.alloc o) ∧ Kept K w (w.alloc o) := by
  refine ⟨⟨h.1.alloc o, h.2.1.alloc h.2.1.size o, fun k hk => ⟨?_, fun e => ?_⟩⟩, fun _ _ _ ho => (Only.of_below (one_box w o) (fun _ => False)).heap ho (fun h => h)⟩
  · rcases hk with hk | hk
    · have := (h.2.2 k hk).1; simp; omega
    · subst hk; simp
  · rcases hk with hk | hk
    · exact (h.2.2 k hk).2 e
    · subst hk
      have := (h.1.lt _ e).2
      omega
theorem OutS.less {K' : Nat → Prop} (h : OutS w0 K v bs w) (hK : ∀ k, K' k → K k) : OutS w0 K' v bs w := ⟨h.1, h.2.1, fun k hk => h.2.2 k (hK k hk)⟩
theorem OutS.slice (h : OutS w0 K v bs w) : ∃ A c, v = .slice A bs.length c := ownsRow_slice h.1
theorem Kept.heap {K : Nat → Prop} {w w' : World} (h : Kept K w w') {k : Nat} {o : Obj} (hk : K k) (ho : w.heap[k]? = some o) : w'.heap[k]? = some o := h k o hk ho
end
theorem refUintI_ok (w : World) (n : Int) (h0 : 0 ≤ n) (h1 : n ≤ 9223372036854775807) : Calls Tryz.prog 50 #[.int .i64 n] w (FreshB (leb n.toNat) w) := by
  have := refUint_ok w n.toNat (by omega)
  rw [Int.toNat_of_nonneg h0] at this
  exact this
theorem leb_more {l : List UInt8} {n m : Nat} (h : l.length ≤ n) : (l ++ leb m).length ≤ n + 10 := by
  have := leb_length m
  rw [List.length_append]
  omega

theorem blk5 {w : World} {B : Nat} {a0 a1 a2 a3 a4 : Value} {t : TypeId} (h : w.heap[B]? = some (.cells #[a0, a1, a2, a3, a4] t (0, 0))) :
    w.cell? ⟨B, 0, none⟩ = some a0 ∧ w.cell? ⟨B, 1, none⟩ = some a1 ∧ w.cell? ⟨B, 2, none⟩ = some a2 ∧ w.cell? ⟨B, 3, none⟩ = some a3 ∧ w.cell? ⟨B, 4, none⟩ = some a4 := by
  refine ⟨?_, ?_, ?_, ?_, ?_⟩ <;> simp [World.cell?, h]
set_option maxRecDepth 100000 in
set_option maxHeartbeats 8000000 in
theorem refInside_ok (w : World) (e : FE) (A1 A2 A3 : Option Addr) (c1 c2 c3 : Nat) (h : EntRd w (fun _ => True) e (.slice A1 e.ops.length c1) (.slice A2 e.args.length c2) (.slice A3 e.cls.length c3)) (hg : e.Good) :
    Calls Tryz.prog 17 #[.agg #[.int .i64 e.id, .slice A1 e.ops.length c1, .slice A2 e.args.length c2, .slice A3 e.cls.length c3]] w (FreshB (inside e) w) := by
  obtain ⟨i0, hi, hz0, hz1, hz2⟩ := info_parts Tryz.info5
  have HI := Lib.hid hi
  have l1 := hg.opl
  have l2 := hg.arl
  have l3 := hg.cll
  have hbx := one_box w (.cells #[.int .i64 e.id, .slice A1 e.ops.length c1, .slice A2 e.args.length c2, .slice A3 e.cls.length c3] 39)
  have k1 := heap_alloc_new w (.cells #[.int .i64 e.id, .slice A1 e.ops.length c1, .slice A2 e.args.length c2, .slice A3 e.cls.length c3] 39)
  have HG := Lib.hid (And.intro hg h)
  have HB := Lib.hid hbx
  clear hi hg h hbx
  go_enter Tryz.func17, Tryz.ntmps17
  go_wp2_with fail
  generalize w.alloc (.cells #[.int .i64 e.id, .slice A1 e.ops.length c1, .slice A2 e.args.length c2, .slice A3 e.cls.length c3] 39) = w1 at k1 HB ⊢
  obtain ⟨B, hB⟩ : ∃ B, w.heap.size = B := ⟨_, rfl⟩
  rw [hB] at k1 ⊢
  have HBQ := Lib.hid hB
  clear hB
  refine (refUintI_ok w1 e.id HG.out.1.id0 (by have := HG.out.1.id1; omega)).mono ?_
  rintro en w2 ⟨Ao0, co0, rfl, hO, hb2⟩
  have hBl : B < w1.heap.size := (Array.getElem?_eq_some_iff.1 k1).1
  have ho0 : OutS w (fun k => k = B) (.slice Ao0 (leb e.id.toNat).length co0) (leb e.id.toNat) w2 := ⟨own_base hO (fun g hg => Nat.le_trans HB.out.size (hO.lt g hg).1), HB.out.trans (hb2.mono HB.out.size), fun k hk => by
    subst hk
    refine ⟨Nat.lt_of_lt_of_le hBl hb2.size, fun hh => ?_⟩
    have := (hO.lt _ hh).1
    omega⟩
  have kb0 := (Only.of_below hb2 (fun _ => False)).heap k1 (fun h => h)
  obtain ⟨L0, hL0⟩ : ∃ l, leb e.id.toNat = l := ⟨_, rfl⟩
  have b0 : L0.length ≤ 10 := by rw [← hL0]; exact leb_length _
  rw [hL0] at ho0 ⊢
  have HL0 := Lib.hid hL0
  have HO0 := Lib.hid ho0
  have KB := Lib.hid kb0
  clear hO hb2 k1 hBl ho0 hL0
  obtain ⟨⟨q0, q1, q2, q3⟩, _⟩ := blk4 kb0
  clear kb0
  go_wp2_with fail
  refine (refUintI_ok w2 (e.ops.length : Int) (by omega) (by omega)).mono ?_
  rintro en wa3 ⟨Ax, cx, rfl, hO, hb⟩
  obtain ⟨ho1, hk1⟩ := HO0.out.call hb
  have HRX := Lib.hid (Rd.of_own hO (F := fun _ => True) (fun _ _ => trivial))
  have HOT := Lib.hid ho1
  have GKB := Lib.hid (hk1.heap (rfl) KB.out)
  clear ho1 hk1 hO hb HO0 q0 q1 q2 q3 KB
  obtain ⟨X1, hX1⟩ : ∃ l, leb ((e.ops.length : Int).toNat) = l := ⟨_, rfl⟩
  rw [hX1] at HRX ⊢
  have bX1 : X1.length ≤ 10 := by rw [← hX1]; exact leb_length _
  have HX1 := Lib.hid hX1
  clear hX1
  go_wp2_with (at_builtin; go_loud (refine wpList_append_rd _ rfl _ _ 31 rfl w.heap.size 5 i0 (.int .u8 0) 1 Tryz.underlying31 HI.out hz0 hz1 hz2 rfl _ L0.length _ rfl HOT.out.1 _ _ (X1.map B8) rfl HRX.out (B8_one _) (by rw [List.length_map]; omega) (by rw [List.length_map]; unfold maxLen; omega) HOT.out.2.1.size ?_); intro v' wb3 hown hgrow hat; obtain ⟨ho2, hk2⟩ := HOT.out.app hown hgrow hat; obtain ⟨Ao1, co1, rfl⟩ := ho2.slice; obtain ⟨L1, hL1⟩ : ∃ l, L0 ++ X1 = l := ⟨_, rfl⟩; have b1 : L1.length ≤ 20 := (by rw [← hL1, List.length_append]; omega); rw [hL1] at ho2 ⊢; have HL1 := Lib.hid hL1; have HO1 := Lib.hid ho2; have KB := Lib.hid (hk2.heap (rfl) GKB.out); obtain ⟨⟨q0, q1, q2, q3⟩, _⟩ := blk4 KB.out; clear hown hgrow hat ho2 hk2 HOT HRX GKB hL1)
  have hstart := HO1.out
  have hkb0 := KB.out
  clear q0 q1 q2 q3
  go_loopw [3, 4] (fun z i wr => ∃ k : Nat, k ≤ e.ops.length ∧ i = .int .i64 (k : Int) ∧ ∃ cur, cur = L1 ++ (e.ops.take k).flatMap encOp ∧ cur.length ≤ 20 + 50 * k ∧ OutS w (fun k => k = B) z cur wr ∧ wr.heap[B]? = some (.cells #[.int .i64 e.id, .slice A1 e.ops.length c1, .slice A2 e.args.length c2, .slice A3 e.cls.length c3] 39 (0, 0))) (fun _ i _ => e.ops.length - (intOf i).toNat)
  case atStart => exact ⟨0, Nat.zero_le _, rfl, L1, by simp, by omega, hstart, hkb0⟩
  case round =>
    obtain ⟨k, hk, rfl, L11, hcur, b11, hos, hkb⟩ := hrel
    obtain ⟨Ao11, co11, rfl⟩ := hos.slice
    by_cases hlt : k < e.ops.length
    · obtain ⟨x, hx⟩ : ∃ x, e.ops[k]? = some x := ⟨_, List.getElem?_eq_getElem hlt⟩
      obtain ⟨b, o, rfl, hFb, t0, t1, t2, t3, t4⟩ := HG.out.2.1.at_ hx
      have hbw := World.block_lt_of_cell? _ _ t0
      have hgx := HG.out.1.opb x (List.mem_of_getElem? hx)
      have hsn := flat_snoc (f := encOp) hx
      have d0 := (hos.2.1.cell (p := ⟨b, o + k * 5, none⟩) hbw).trans t0
      have d1 := (hos.2.1.cell (p := ⟨b, o + k * 5 + 1, none⟩) hbw).trans t1
      have d2 := (hos.2.1.cell (p := ⟨b, o + k * 5 + 2, none⟩) hbw).trans t2
      have d3 := (hos.2.1.cell (p := ⟨b, o + k * 5 + 3, none⟩) hbw).trans t3
      have d4 := (hos.2.1.cell (p := ⟨b, o + k * 5 + 4, none⟩) hbw).trans t4
      obtain ⟨D, A', B', C', N'⟩ := x
      simp only at d0 d1 d2 d3 d4 hgx
      obtain ⟨g0, g1, g2, g3, g4⟩ := hgx
      have HCUR := Lib.hid hcur
      have HSN := Lib.hid hsn
      have i1 : (0 : Int) ≤ (k : Int) := by omega
      have i2 : (k : Int) < (e.ops.length : Int) := by omega
      obtain ⟨⟨q0, q1, q2, q3⟩, _⟩ := blk4 hkb
      clear t0 t1 t2 t3 t4 hx hcur hsn hFb
      obtain ⟨hob, hkk⟩ := hos.box (.cells #[.int .i64 D, .int .i64 A', .int .i64 B', .int .i64 C', .int .i64 N'] 49)
      have kx := heap_alloc_new wr (.cells #[.int .i64 D, .int .i64 A', .int .i64 B', .int .i64 C', .int .i64 N'] 49)
      have hkb2 := hkk.heap rfl hkb
      have HO11 := Lib.hid hob
      have KB := Lib.hid hkb2
      have KX := Lib.hid kx
      clear hob hkk hkb2 kx hos hkb
      go_wp2_with fail
      clear d0 d1 d2 d3 d4 q0 q1 q2 q3
      generalize wr.alloc (.cells #[.int .i64 D, .int .i64 A', .int .i64 B', .int .i64 C', .int .i64 N'] 49) = wx at HO11 KB KX ⊢
      obtain ⟨X, hX⟩ : ∃ X, wr.heap.size = X := ⟨_, rfl⟩
      rw [hX] at HO11 KX ⊢
      clear hX
      obtain ⟨⟨q0, q1, q2, q3⟩, _⟩ := blk4 KB.out
      obtain ⟨p0, p1, p2, p3, p4⟩ := blk5 KX.out
      refine (refUintI_ok _ D (by omega) (by omega)).mono ?_
      rintro en wa4 ⟨Ax, cx, rfl, hO, hb⟩
      obtain ⟨ho1, hk1⟩ := HO11.out.call hb
      have HRX := Lib.hid (Rd.of_own hO (F := fun _ => True) (fun _ _ => trivial))
      have HOT := Lib.hid ho1
      have GKB := Lib.hid (hk1.heap (.inl rfl) KB.out)
      have GKX := Lib.hid (hk1.heap (.inr rfl) KX.out)
      clear ho1 hk1 hO hb HO11 q0 q1 q2 q3 p0 p1 p2 p3 p4 KB KX
      obtain ⟨X12, hX12⟩ : ∃ l, leb D.toNat = l := ⟨_, rfl⟩
      rw [hX12] at HRX ⊢
      have bX12 : X12.length ≤ 10 := by rw [← hX12]; exact leb_length _
      have HX12 := Lib.hid hX12
      clear hX12
      go_wp2_with (at_builtin; go_loud (refine wpList_append_rd _ rfl _ _ 31 rfl w.heap.size 5 i0 (.int .u8 0) 1 Tryz.underlying31 HI.out hz0 hz1 hz2 rfl _ L11.length _ rfl HOT.out.1 _ _ (X12.map B8) rfl HRX.out (B8_one _) (by rw [List.length_map]; omega) (by rw [List.length_map]; unfold maxLen; omega) HOT.out.2.1.size ?_); intro v' wb4 hown hgrow hat; obtain ⟨ho2, hk2⟩ := HOT.out.app hown hgrow hat; obtain ⟨Ao12, co12, rfl⟩ := ho2.slice; obtain ⟨L12, hL12⟩ : ∃ l, L11 ++ X12 = l := ⟨_, rfl⟩; have b12 : L12.length ≤ 20 + 50 * k + 10 := (by rw [← hL12, List.length_append]; omega); rw [hL12] at ho2 ⊢; have HL12 := Lib.hid hL12; have HO12 := Lib.hid ho2; have KB := Lib.hid (hk2.heap (.inl rfl) GKB.out); obtain ⟨⟨q0, q1, q2, q3⟩, _⟩ := blk4 KB.out; have KX := Lib.hid (hk2.heap (.inr rfl) GKX.out); obtain ⟨p0, p1, p2, p3, p4⟩ := blk5 KX.out; clear hown hgrow hat ho2 hk2 HOT HRX GKB GKX hL12)
      refine (refUintI_ok _ A' (by omega) (by omega)).mono ?_
      rintro en wa5 ⟨Ax, cx, rfl, hO, hb⟩
      obtain ⟨ho1, hk1⟩ := HO12.out.call hb
      have HRX := Lib.hid (Rd.of_own hO (F := fun _ => True) (fun _ _ => trivial))
      have HOT := Lib.hid ho1
      have GKB := Lib.hid (hk1.heap (.inl rfl) KB.out)
      have GKX := Lib.hid (hk1.heap (.inr rfl) KX.out)
      clear ho1 hk1 hO hb HO12 q0 q1 q2 q3 p0 p1 p2 p3 p4 KB KX
      obtain ⟨X13, hX13⟩ : ∃ l, leb A'.toNat = l := ⟨_, rfl⟩
      rw [hX13] at HRX ⊢
      have bX13 : X13.length ≤ 10 := by rw [← hX13]; exact leb_length _
      have HX13 := Lib.hid hX13
      clear hX13
      go_wp2_with (at_builtin; go_loud (refine wpList_append_rd _ rfl _ _ 31 rfl w.heap.size 5 i0 (.int .u8 0) 1 Tryz.underlying31 HI.out hz0 hz1 hz2 rfl _ L12.length _ rfl HOT.out.1 _ _ (X13.map B8) rfl HRX.out (B8_one _) (by rw [List.length_map]; omega) (by rw [List.length_map]; unfold maxLen; omega) HOT.out.2.1.size ?_); intro v' wb5 hown hgrow hat; obtain ⟨ho2, hk2⟩ := HOT.out.app hown hgrow hat; obtain ⟨Ao13, co13, rfl⟩ := ho2.slice; obtain ⟨L13, hL13⟩ : ∃ l, L12 ++ X13 = l := ⟨_, rfl⟩; have b13 : L13.length ≤ 20 + 50 * k + 20 := (by rw [← hL13, List.length_append]; omega); rw [hL13] at ho2 ⊢; have HL13 := Lib.hid hL13; have HO13 := Lib.hid ho2; have KB := Lib.hid (hk2.heap (.inl rfl) GKB.out); obtain ⟨⟨q0, q1, q2, q3⟩, _⟩ := blk4 KB.out; have KX := Lib.hid (hk2.heap (.inr rfl) GKX.out); obtain ⟨p0, p1, p2, p3, p4⟩ := blk5 KX.out; clear hown hgrow hat ho2 hk2 HOT HRX GKB GKX hL13)
      refine (refUintI_ok _ B' (by omega) (by omega)).mono ?_
      rintro en wa6 ⟨Ax, cx, rfl, hO, hb⟩
      obtain ⟨ho1, hk1⟩ := HO13.out.call hb
      have HRX := Lib.hid (Rd.of_own hO (F := fun _ => True) (fun _ _ => trivial))
      have HOT := Lib.hid ho1
      have GKB := Lib.hid (hk1.heap (.inl rfl) KB.out)
      have GKX := Lib.hid (hk1.heap (.inr rfl) KX.out)
      clear ho1 hk1 hO hb HO13 q0 q1 q2 q3 p0 p1 p2 p3 p4 KB KX
      obtain ⟨X14, hX14⟩ : ∃ l, leb B'.toNat = l := ⟨_, rfl⟩
      rw [hX14] at HRX ⊢
      have bX14 : X14.length ≤ 10 := by rw [← hX14]; exact leb_length _
      have HX14 := Lib.hid hX14
      clear hX14
      go_wp2_with (at_builtin; go_loud (refine wpList_append_rd _ rfl _ _ 31 rfl w.heap.size 5 i0 (.int .u8 0) 1 Tryz.underlying31 HI.out hz0 hz1 hz2 rfl _ L13.length _ rfl HOT.out.1 _ _ (X14.map B8) rfl HRX.out (B8_one _) (by rw [List.length_map]; omega) (by rw [List.length_map]; unfold maxLen; omega) HOT.out.2.1.size ?_); intro v' wb6 hown hgrow hat; obtain ⟨ho2, hk2⟩ := HOT.out.app hown hgrow hat; obtain ⟨Ao14, co14, rfl⟩ := ho2.slice; obtain ⟨L14, hL14⟩ : ∃ l, L13 ++ X14 = l := ⟨_, rfl⟩; have b14 : L14.length ≤ 20 + 50 * k + 30 := (by rw [← hL14, List.length_append]; omega); rw [hL14] at ho2 ⊢; have HL14 := Lib.hid hL14; have HO14 := Lib.hid ho2; have KB := Lib.hid (hk2.heap (.inl rfl) GKB.out); obtain ⟨⟨q0, q1, q2, q3⟩, _⟩ := blk4 KB.out; have KX := Lib.hid (hk2.heap (.inr rfl) GKX.out); obtain ⟨p0, p1, p2, p3, p4⟩ := blk5 KX.out; clear hown hgrow hat ho2 hk2 HOT HRX GKB GKX hL14)
      refine (refInt_ok _ C' (by omega) (by omega)).mono ?_
      rintro en wa7 ⟨Ax, cx, rfl, hO, hb⟩
      obtain ⟨ho1, hk1⟩ := HO14.out.call hb
      have HRX := Lib.hid (Rd.of_own hO (F := fun _ => True) (fun _ _ => trivial))
      have HOT := Lib.hid ho1
      have GKB := Lib.hid (hk1.heap (.inl rfl) KB.out)
      have GKX := Lib.hid (hk1.heap (.inr rfl) KX.out)
      clear ho1 hk1 hO hb HO14 q0 q1 q2 q3 p0 p1 p2 p3 p4 KB KX
      obtain ⟨X15, hX15⟩ : ∃ l, leb (zig C') = l := ⟨_, rfl⟩
      rw [hX15] at HRX ⊢
      have bX15 : X15.length ≤ 10 := by rw [← hX15]; exact leb_length _
      have HX15 := Lib.hid hX15
      clear hX15
      go_wp2_with (at_builtin; go_loud (refine wpList_append_rd _ rfl _ _ 31 rfl w.heap.size 5 i0 (.int .u8 0) 1 Tryz.underlying31 HI.out hz0 hz1 hz2 rfl _ L14.length _ rfl HOT.out.1 _ _ (X15.map B8) rfl HRX.out (B8_one _) (by rw [List.length_map]; omega) (by rw [List.length_map]; unfold maxLen; omega) HOT.out.2.1.size ?_); intro v' wb7 hown hgrow hat; obtain ⟨ho2, hk2⟩ := HOT.out.app hown hgrow hat; obtain ⟨Ao15, co15, rfl⟩ := ho2.slice; obtain ⟨L15, hL15⟩ : ∃ l, L14 ++ X15 = l := ⟨_, rfl⟩; have b15 : L15.length ≤ 20 + 50 * k + 40 := (by rw [← hL15, List.length_append]; omega); rw [hL15] at ho2 ⊢; have HL15 := Lib.hid hL15; have HO15 := Lib.hid ho2; have KB := Lib.hid (hk2.heap (.inl rfl) GKB.out); obtain ⟨⟨q0, q1, q2, q3⟩, _⟩ := blk4 KB.out; have KX := Lib.hid (hk2.heap (.inr rfl) GKX.out); obtain ⟨p0, p1, p2, p3, p4⟩ := blk5 KX.out; clear hown hgrow hat ho2 hk2 HOT HRX GKB GKX hL15)
      refine (refUintI_ok _ N' (by omega) (by omega)).mono ?_
      rintro en wa8 ⟨Ax, cx, rfl, hO, hb⟩
      obtain ⟨ho1, hk1⟩ := HO15.out.call hb
      have HRX := Lib.hid (Rd.of_own hO (F := fun _ => True) (fun _ _ => trivial))
      have HOT := Lib.hid ho1
      have GKB := Lib.hid (hk1.heap (.inl rfl) KB.out)
      have GKX := Lib.hid (hk1.heap (.inr rfl) KX.out)
      clear ho1 hk1 hO hb HO15 q0 q1 q2 q3 p0 p1 p2 p3 p4 KB KX
      obtain ⟨X16, hX16⟩ : ∃ l, leb N'.toNat = l := ⟨_, rfl⟩
      rw [hX16] at HRX ⊢
      have bX16 : X16.length ≤ 10 := by rw [← hX16]; exact leb_length _
      have HX16 := Lib.hid hX16
      clear hX16
      go_wp2_with (at_builtin; go_loud (refine wpList_append_rd _ rfl _ _ 31 rfl w.heap.size 5 i0 (.int .u8 0) 1 Tryz.underlying31 HI.out hz0 hz1 hz2 rfl _ L15.length _ rfl HOT.out.1 _ _ (X16.map B8) rfl HRX.out (B8_one _) (by rw [List.length_map]; omega) (by rw [List.length_map]; unfold maxLen; omega) HOT.out.2.1.size ?_); intro v' wb8 hown hgrow hat; obtain ⟨ho2, hk2⟩ := HOT.out.app hown hgrow hat; obtain ⟨Ao16, co16, rfl⟩ := ho2.slice; obtain ⟨L16, hL16⟩ : ∃ l, L15 ++ X16 = l := ⟨_, rfl⟩; have b16 : L16.length ≤ 20 + 50 * k + 50 := (by rw [← hL16, List.length_append]; omega); rw [hL16] at ho2 ⊢; have HL16 := Lib.hid hL16; have HO16 := Lib.hid ho2; have KB := Lib.hid (hk2.heap (.inl rfl) GKB.out); obtain ⟨⟨q0, q1, q2, q3⟩, _⟩ := blk4 KB.out; have KX := Lib.hid (hk2.heap (.inr rfl) GKX.out); obtain ⟨p0, p1, p2, p3, p4⟩ := blk5 KX.out; clear hown hgrow hat ho2 hk2 HOT HRX GKB GKX hL16)
      go_roundw
      case rel =>
        refine ⟨k + 1, by omega, by go_num, L16, ?_, by omega, HO16.out.less (fun j hj => .inl hj), KB.out⟩
        rw [← HL16.out, ← HX16.out, ← HL15.out, ← HX15.out, ← HL14.out, ← HX14.out, ← HL13.out, ← HX13.out, ← HL12.out, ← HX12.out, HCUR.out]
        rw [HSN.out]; simp [encOp, encU, encI]
      case measure => simp [intOf]; omega
    · have hkl : k = e.ops.length := by omega
      subst hkl
      rw [List.take_length] at hcur
      have HC11 := Lib.hid hcur
      have HO11 := Lib.hid hos
      have KB := Lib.hid hkb
      clear hcur hos hkb hlt hk
      obtain ⟨⟨q0, q1, q2, q3⟩, _⟩ := blk4 KB.out
      go_wp2_with fail
      refine (refUintI_ok _ (e.args.length : Int) (by omega) (by omega)).mono ?_
      rintro en wa9 ⟨Ax, cx, rfl, hO, hb⟩
      obtain ⟨ho1, hk1⟩ := HO11.out.call hb
      have HRX := Lib.hid (Rd.of_own hO (F := fun _ => True) (fun _ _ => trivial))
      have HOT := Lib.hid ho1
      have GKB := Lib.hid (hk1.heap (rfl) KB.out)
      clear ho1 hk1 hO hb HO11 q0 q1 q2 q3 KB
      obtain ⟨X12, hX12⟩ : ∃ l, leb ((e.args.length : Int).toNat) = l := ⟨_, rfl⟩
      rw [hX12] at HRX ⊢
      have bX12 : X12.length ≤ 10 := by rw [← hX12]; exact leb_length _
      have HX12 := Lib.hid hX12
      clear hX12
      go_wp2_with (at_builtin; go_loud (refine wpList_append_rd _ rfl _ _ 31 rfl w.heap.size 5 i0 (.int .u8 0) 1 Tryz.underlying31 HI.out hz0 hz1 hz2 rfl _ L11.length _ rfl HOT.out.1 _ _ (X12.map B8) rfl HRX.out (B8_one _) (by rw [List.length_map]; omega) (by rw [List.length_map]; unfold maxLen; omega) HOT.out.2.1.size ?_); intro v' wb9 hown hgrow hat; obtain ⟨ho2, hk2⟩ := HOT.out.app hown hgrow hat; obtain ⟨Ao12, co12, rfl⟩ := ho2.slice; obtain ⟨L12, hL12⟩ : ∃ l, L11 ++ X12 = l := ⟨_, rfl⟩; have b12 : L12.length ≤ 3300 := (by rw [← hL12, List.length_append]; omega); rw [hL12] at ho2 ⊢; have HL12 := Lib.hid hL12; have HO12 := Lib.hid ho2; have KB := Lib.hid (hk2.heap (rfl) GKB.out); obtain ⟨⟨q0, q1, q2, q3⟩, _⟩ := blk4 KB.out; clear hown hgrow hat ho2 hk2 HOT HRX GKB hL12)
      have hstart := HO12.out
      have hkb0 := KB.out
      clear q0 q1 q2 q3
      go_loopw [3, 6] (fun z i wr => ∃ k : Nat, k ≤ e.args.length ∧ i = .int .i64 (k : Int) ∧ ∃ cur, cur = L12 ++ encI (e.args.take k) ∧ cur.length ≤ 3300 + 10 * k ∧ OutS w (fun k => k = B) z cur wr ∧ wr.heap[B]? = some (.cells #[.int .i64 e.id, .slice A1 e.ops.length c1, .slice A2 e.args.length c2, .slice A3 e.cls.length c3] 39 (0, 0))) (fun _ i _ => e.args.length - (intOf i).toNat)
      case atStart => exact ⟨0, Nat.zero_le _, rfl, L12, by simp [encI], by omega, hstart, hkb0⟩
      case round =>
        obtain ⟨k, hk, rfl, L22, hcur, b22, hos, hkb⟩ := hrel
        obtain ⟨Ao22, co22, rfl⟩ := hos.slice
        by_cases hlt : k < e.args.length
        · obtain ⟨x, hx⟩ : ∃ x, e.args[k]? = some x := ⟨_, List.getElem?_eq_getElem hlt⟩
          obtain ⟨ba, oa, hA2, _, cx0⟩ := (ivs_at HG.out.2.2.1).2.2.2 k x hx
          subst hA2
          have dx := (hos.2.1.cell (p := ⟨ba, oa + k, none⟩) (World.block_lt_of_cell? _ _ cx0)).trans cx0
          have hgx := HG.out.1.arb x (List.mem_of_getElem? hx)
          have hsn := encI_snoc hx
          have HCUR := Lib.hid hcur
          have HSN := Lib.hid hsn
          have HO22 := Lib.hid hos
          have KB := Lib.hid hkb
          have i1 : (0 : Int) ≤ (k : Int) := by omega
          have i2 : (k : Int) < (e.args.length : Int) := by omega
          obtain ⟨⟨q0, q1, q2, q3⟩, _⟩ := blk4 KB.out
          clear cx0 hx hcur hsn hos hkb
          go_wp2_with fail
          clear dx
          refine (refInt_ok _ x (by omega) (by omega)).mono ?_
          rintro en wa10 ⟨Ax, cx, rfl, hO, hb⟩
          obtain ⟨ho1, hk1⟩ := HO22.out.call hb
          have HRX := Lib.hid (Rd.of_own hO (F := fun _ => True) (fun _ _ => trivial))
          have HOT := Lib.hid ho1
          have GKB := Lib.hid (hk1.heap (rfl) KB.out)
          clear ho1 hk1 hO hb HO22 q0 q1 q2 q3 KB
          obtain ⟨X23, hX23⟩ : ∃ l, leb (zig x) = l := ⟨_, rfl⟩
          rw [hX23] at HRX ⊢
          have bX23 : X23.length ≤ 10 := by rw [← hX23]; exact leb_length _
          have HX23 := Lib.hid hX23
          clear hX23
          go_wp2_with (at_builtin; go_loud (refine wpList_append_rd _ rfl _ _ 31 rfl w.heap.size 5 i0 (.int .u8 0) 1 Tryz.underlying31 HI.out hz0 hz1 hz2 rfl _ L22.length _ rfl HOT.out.1 _ _ (X23.map B8) rfl HRX.out (B8_one _) (by rw [List.length_map]; omega) (by rw [List.length_map]; unfold maxLen; omega) HOT.out.2.1.size ?_); intro v' wb10 hown hgrow hat; obtain ⟨ho2, hk2⟩ := HOT.out.app hown hgrow hat; obtain ⟨Ao23, co23, rfl⟩ := ho2.slice; obtain ⟨L23, hL23⟩ : ∃ l, L22 ++ X23 = l := ⟨_, rfl⟩; have b23 : L23.length ≤ 3300 + 10 * k + 10 := (by rw [← hL23, List.length_append]; omega); rw [hL23] at ho2 ⊢; have HL23 := Lib.hid hL23; have HO23 := Lib.hid ho2; have KB := Lib.hid (hk2.heap (rfl) GKB.out); obtain ⟨⟨q0, q1, q2, q3⟩, _⟩ := blk4 KB.out; clear hown hgrow hat ho2 hk2 HOT HRX GKB hL23)
          go_roundw
          case rel =>
            refine ⟨k + 1, by omega, by go_num, L23, ?_, by omega, HO23.out, KB.out⟩
            rw [← HL23.out, ← HX23.out, HCUR.out]
            rw [HSN.out]; simp
          case measure => simp [intOf]; omega
        · have hkl : k = e.args.length := by omega
          subst hkl
          rw [List.take_length] at hcur
          have HC22 := Lib.hid hcur
          have HO22 := Lib.hid hos
          have KB := Lib.hid hkb
          clear hcur hos hkb hlt hk
          obtain ⟨⟨q0, q1, q2, q3⟩, _⟩ := blk4 KB.out
          go_wp2_with fail
          refine (refUintI_ok _ (e.cls.length : Int) (by omega) (by omega)).mono ?_
          rintro en wa11 ⟨Ax, cx, rfl, hO, hb⟩
          obtain ⟨ho1, hk1⟩ := HO22.out.call hb
          have HRX := Lib.hid (Rd.of_own hO (F := fun _ => True) (fun _ _ => trivial))
          have HOT := Lib.hid ho1
          have GKB := Lib.hid (hk1.heap (rfl) KB.out)
          clear ho1 hk1 hO hb HO22 q0 q1 q2 q3 KB
          obtain ⟨X23, hX23⟩ : ∃ l, leb ((e.cls.length : Int).toNat) = l := ⟨_, rfl⟩
          rw [hX23] at HRX ⊢
          have bX23 : X23.length ≤ 10 := by rw [← hX23]; exact leb_length _
          have HX23 := Lib.hid hX23
          clear hX23
          go_wp2_with (at_builtin; go_loud (refine wpList_append_rd _ rfl _ _ 31 rfl w.heap.size 5 i0 (.int .u8 0) 1 Tryz.underlying31 HI.out hz0 hz1 hz2 rfl _ L22.length _ rfl HOT.out.1 _ _ (X23.map B8) rfl HRX.out (B8_one _) (by rw [List.length_map]; omega) (by rw [List.length_map]; unfold maxLen; omega) HOT.out.2.1.size ?_); intro v' wb11 hown hgrow hat; obtain ⟨ho2, hk2⟩ := HOT.out.app hown hgrow hat; obtain ⟨Ao23, co23, rfl⟩ := ho2.slice; obtain ⟨L23, hL23⟩ : ∃ l, L22 ++ X23 = l := ⟨_, rfl⟩; have b23 : L23.length ≤ 3400 := (by rw [← hL23, List.length_append]; omega); rw [hL23] at ho2 ⊢; have HL23 := Lib.hid hL23; have HO23 := Lib.hid ho2; have KB := Lib.hid (hk2.heap (rfl) GKB.out); obtain ⟨⟨q0, q1, q2, q3⟩, _⟩ := blk4 KB.out; clear hown hgrow hat ho2 hk2 HOT HRX GKB hL23)
          have hstart := HO23.out
          have hkb0 := KB.out
          clear q0 q1 q2 q3
          go_loopw [3, 7] (fun z i wr => ∃ k : Nat, k ≤ e.cls.length ∧ i = .int .i64 (k : Int) ∧ ∃ cur, cur = L23 ++ (e.cls.take k).flatMap encCl ∧ cur.length ≤ 3400 + 66 * k ∧ OutS w (fun k => k = B) z cur wr ∧ wr.heap[B]? = some (.cells #[.int .i64 e.id, .slice A1 e.ops.length c1, .slice A2 e.args.length c2, .slice A3 e.cls.length c3] 39 (0, 0))) (fun _ i _ => e.cls.length - (intOf i).toNat)
          case atStart => exact ⟨0, Nat.zero_le _, rfl, L23, by simp, by omega, hstart, hkb0⟩
          case round =>
            obtain ⟨k, hk, rfl, L33, hcur, b33, hos, hkb⟩ := hrel
            obtain ⟨Ao33, co33, rfl⟩ := hos.slice
            by_cases hlt : k < e.cls.length
            · obtain ⟨x, hx⟩ : ∃ x, e.cls[k]? = some x := ⟨_, List.getElem?_eq_getElem hlt⟩
              obtain ⟨b, o, rfl, hFb, t0, t1, t2, t3, t4⟩ := HG.out.2.2.2.1.at_ hx
              have hbw := World.block_lt_of_cell? _ _ t0
              have hkx := (HG.out.1.clo x (List.mem_of_getElem? hx)).key_len
              have hgx := HG.out.2.2.2.2.2.2.2 x (List.mem_of_getElem? hx)
              have hsn := flat_snoc (f := encCl) hx
              have d0 := (hos.2.1.cell (p := ⟨b, o + k * 5, none⟩) hbw).trans t0
              have d1 := (hos.2.1.cell (p := ⟨b, o + k * 5 + 1, none⟩) hbw).trans t1
              have d2 := (hos.2.1.cell (p := ⟨b, o + k * 5 + 2, none⟩) hbw).trans t2
              have d3 := (hos.2.1.cell (p := ⟨b, o + k * 5 + 3, none⟩) hbw).trans t3
              have d4 := (hos.2.1.cell (p := ⟨b, o + k * 5 + 4, none⟩) hbw).trans t4
              obtain ⟨W', C', T', P', U'⟩ := x
              unfold Cl.fits I64 at hgx
              simp only at d0 d1 d2 d3 d4 hgx hkx
              obtain ⟨g1, g2, g3, g4⟩ := hgx
              have HCUR := Lib.hid hcur
              have HSN := Lib.hid hsn
              have i1 : (0 : Int) ≤ (k : Int) := by omega
              have i2 : (k : Int) < (e.cls.length : Int) := by omega
              obtain ⟨⟨q0, q1, q2, q3⟩, _⟩ := blk4 hkb
              clear t0 t1 t2 t3 t4 hx hcur hsn hFb g4
              cases W' with
              | false =>
                obtain ⟨hob, hkk⟩ := hos.box (.cells #[.bool false, .int .i64 C', .string ⟨T'.toArray⟩, .int .i64 P', .int .i64 U'] 74)
                have kx := heap_alloc_new wr (.cells #[.bool false, .int .i64 C', .string ⟨T'.toArray⟩, .int .i64 P', .int .i64 U'] 74)
                have hkb2 := hkk.heap rfl hkb
                have HO33 := Lib.hid hob
                have KB := Lib.hid hkb2
                have KX := Lib.hid kx
                clear hob hkk hkb2 kx hos hkb
                go_wp2_with fail
                clear d0 d1 d2 d3 d4 q0 q1 q2 q3
                generalize wr.alloc (.cells #[.bool false, .int .i64 C', .string ⟨T'.toArray⟩, .int .i64 P', .int .i64 U'] 74) = wx at HO33 KB KX ⊢
                obtain ⟨X, hX⟩ : ∃ X, wr.heap.size = X := ⟨_, rfl⟩
                rw [hX] at HO33 KX ⊢
                clear hX
                obtain ⟨⟨q0, q1, q2, q3⟩, _⟩ := blk4 KB.out
                obtain ⟨p0, p1, p2, p3, p4⟩ := blk5 KX.out
                refine (refUintI_ok _ 0 (by omega) (by omega)).mono ?_
                rintro en wa12 ⟨Ax, cx, rfl, hO, hb⟩
                obtain ⟨ho1, hk1⟩ := HO33.out.call hb
                have HRX := Lib.hid (Rd.of_own hO (F := fun _ => True) (fun _ _ => trivial))
                have HOT := Lib.hid ho1
                have GKB := Lib.hid (hk1.heap (.inl rfl) KB.out)
                have GKX := Lib.hid (hk1.heap (.inr rfl) KX.out)
                clear ho1 hk1 hO hb HO33 q0 q1 q2 q3 p0 p1 p2 p3 p4 KB KX
                obtain ⟨X34, hX34⟩ : ∃ l, leb (0 : Int).toNat = l := ⟨_, rfl⟩
                rw [hX34] at HRX ⊢
                have bX34 : X34.length ≤ 1 := by rw [← hX34]; decide
                have HX34 := Lib.hid hX34
                clear hX34
                go_wp2_with (at_builtin; go_loud (refine wpList_append_rd _ rfl _ _ 31 rfl w.heap.size 5 i0 (.int .u8 0) 1 Tryz.underlying31 HI.out hz0 hz1 hz2 rfl _ L33.length _ rfl HOT.out.1 _ _ (X34.map B8) rfl HRX.out (B8_one _) (by rw [List.length_map]; omega) (by rw [List.length_map]; unfold maxLen; omega) HOT.out.2.1.size ?_); intro v' wb12 hown hgrow hat; obtain ⟨ho2, hk2⟩ := HOT.out.app hown hgrow hat; obtain ⟨Ao34, co34, rfl⟩ := ho2.slice; obtain ⟨L34, hL34⟩ : ∃ l, L33 ++ X34 = l := ⟨_, rfl⟩; have b34 : L34.length ≤ 3400 + 66 * k + 1 := (by rw [← hL34, List.length_append]; omega); rw [hL34] at ho2 ⊢; have HL34 := Lib.hid hL34; have HO34 := Lib.hid ho2; have KB := Lib.hid (hk2.heap (.inl rfl) GKB.out); obtain ⟨⟨q0, q1, q2, q3⟩, _⟩ := blk4 KB.out; have KX := Lib.hid (hk2.heap (.inr rfl) GKX.out); obtain ⟨p0, p1, p2, p3, p4⟩ := blk5 KX.out; clear hown hgrow hat ho2 hk2 HOT HRX GKB GKX hL34)
                refine (refInt_ok _ C' (by omega) (by omega)).mono ?_
                rintro en wa13 ⟨Ax, cx, rfl, hO, hb⟩
                obtain ⟨ho1, hk1⟩ := HO34.out.call hb
                have HRX := Lib.hid (Rd.of_own hO (F := fun _ => True) (fun _ _ => trivial))
                have HOT := Lib.hid ho1
                have GKB := Lib.hid (hk1.heap (.inl rfl) KB.out)
                have GKX := Lib.hid (hk1.heap (.inr rfl) KX.out)
                clear ho1 hk1 hO hb HO34 q0 q1 q2 q3 p0 p1 p2 p3 p4 KB KX
                obtain ⟨X35, hX35⟩ : ∃ l, leb (zig C') = l := ⟨_, rfl⟩
                rw [hX35] at HRX ⊢
                have bX35 : X35.length ≤ 10 := by rw [← hX35]; exact leb_length _
                have HX35 := Lib.hid hX35
                clear hX35
                go_wp2_with (at_builtin; go_loud (refine wpList_append_rd _ rfl _ _ 31 rfl w.heap.size 5 i0 (.int .u8 0) 1 Tryz.underlying31 HI.out hz0 hz1 hz2 rfl _ L34.length _ rfl HOT.out.1 _ _ (X35.map B8) rfl HRX.out (B8_one _) (by rw [List.length_map]; omega) (by rw [List.length_map]; unfold maxLen; omega) HOT.out.2.1.size ?_); intro v' wb13 hown hgrow hat; obtain ⟨ho2, hk2⟩ := HOT.out.app hown hgrow hat; obtain ⟨Ao35, co35, rfl⟩ := ho2.slice; obtain ⟨L35, hL35⟩ : ∃ l, L34 ++ X35 = l := ⟨_, rfl⟩; have b35 : L35.length ≤ 3400 + 66 * k + 11 := (by rw [← hL35, List.length_append]; omega); rw [hL35] at ho2 ⊢; have HL35 := Lib.hid hL35; have HO35 := Lib.hid ho2; have KB := Lib.hid (hk2.heap (.inl rfl) GKB.out); obtain ⟨⟨q0, q1, q2, q3⟩, _⟩ := blk4 KB.out; have KX := Lib.hid (hk2.heap (.inr rfl) GKX.out); obtain ⟨p0, p1, p2, p3, p4⟩ := blk5 KX.out; clear hown hgrow hat ho2 hk2 HOT HRX GKB GKX hL35)
                refine (refText_ok _ T' (by omega)).mono ?_
                rintro en wa14 ⟨Ax, cx, rfl, hO, hb⟩
                obtain ⟨ho1, hk1⟩ := HO35.out.call hb
                have HRX := Lib.hid (Rd.of_own hO (F := fun _ => True) (fun _ _ => trivial))
                have HOT := Lib.hid ho1
                have GKB := Lib.hid (hk1.heap (.inl rfl) KB.out)
                have GKX := Lib.hid (hk1.heap (.inr rfl) KX.out)
                clear ho1 hk1 hO hb HO35 q0 q1 q2 q3 p0 p1 p2 p3 p4 KB KX
                obtain ⟨X36, hX36⟩ : ∃ l, leb T'.length ++ T' = l := ⟨_, rfl⟩
                rw [hX36] at HRX ⊢
                have bX36 : X36.length ≤ 17 := by rw [← hX36]; rw [List.length_append, leb_lt (by omega)]; simp; omega
                have HX36 := Lib.hid hX36
                clear hX36
                go_wp2_with (at_builtin; go_loud (refine wpList_append_rd _ rfl _ _ 31 rfl w.heap.size 5 i0 (.int .u8 0) 1 Tryz.underlying31 HI.out hz0 hz1 hz2 rfl _ L35.length _ rfl HOT.out.1 _ _ (X36.map B8) rfl HRX.out (B8_one _) (by rw [List.length_map]; omega) (by rw [List.length_map]; unfold maxLen; omega) HOT.out.2.1.size ?_); intro v' wb14 hown hgrow hat; obtain ⟨ho2, hk2⟩ := HOT.out.app hown hgrow hat; obtain ⟨Ao36, co36, rfl⟩ := ho2.slice; obtain ⟨L36, hL36⟩ : ∃ l, L35 ++ X36 = l := ⟨_, rfl⟩; have b36 : L36.length ≤ 3400 + 66 * k + 28 := (by rw [← hL36, List.length_append]; omega); rw [hL36] at ho2 ⊢; have HL36 := Lib.hid hL36; have HO36 := Lib.hid ho2; have KB := Lib.hid (hk2.heap (.inl rfl) GKB.out); obtain ⟨⟨q0, q1, q2, q3⟩, _⟩ := blk4 KB.out; have KX := Lib.hid (hk2.heap (.inr rfl) GKX.out); obtain ⟨p0, p1, p2, p3, p4⟩ := blk5 KX.out; clear hown hgrow hat ho2 hk2 HOT HRX GKB GKX hL36)
                refine (refInt_ok _ P' (by omega) (by omega)).mono ?_
                rintro en wa15 ⟨Ax, cx, rfl, hO, hb⟩
                obtain ⟨ho1, hk1⟩ := HO36.out.call hb
                have HRX := Lib.hid (Rd.of_own hO (F := fun _ => True) (fun _ _ => trivial))
                have HOT := Lib.hid ho1
                have GKB := Lib.hid (hk1.heap (.inl rfl) KB.out)
                have GKX := Lib.hid (hk1.heap (.inr rfl) KX.out)
                clear ho1 hk1 hO hb HO36 q0 q1 q2 q3 p0 p1 p2 p3 p4 KB KX
                obtain ⟨X37, hX37⟩ : ∃ l, leb (zig P') = l := ⟨_, rfl⟩
                rw [hX37] at HRX ⊢
                have bX37 : X37.length ≤ 10 := by rw [← hX37]; exact leb_length _
                have HX37 := Lib.hid hX37
                clear hX37
                go_wp2_with (at_builtin; go_loud (refine wpList_append_rd _ rfl _ _ 31 rfl w.heap.size 5 i0 (.int .u8 0) 1 Tryz.underlying31 HI.out hz0 hz1 hz2 rfl _ L36.length _ rfl HOT.out.1 _ _ (X37.map B8) rfl HRX.out (B8_one _) (by rw [List.length_map]; omega) (by rw [List.length_map]; unfold maxLen; omega) HOT.out.2.1.size ?_); intro v' wb15 hown hgrow hat; obtain ⟨ho2, hk2⟩ := HOT.out.app hown hgrow hat; obtain ⟨Ao37, co37, rfl⟩ := ho2.slice; obtain ⟨L37, hL37⟩ : ∃ l, L36 ++ X37 = l := ⟨_, rfl⟩; have b37 : L37.length ≤ 3400 + 66 * k + 38 := (by rw [← hL37, List.length_append]; omega); rw [hL37] at ho2 ⊢; have HL37 := Lib.hid hL37; have HO37 := Lib.hid ho2; have KB := Lib.hid (hk2.heap (.inl rfl) GKB.out); obtain ⟨⟨q0, q1, q2, q3⟩, _⟩ := blk4 KB.out; have KX := Lib.hid (hk2.heap (.inr rfl) GKX.out); obtain ⟨p0, p1, p2, p3, p4⟩ := blk5 KX.out; clear hown hgrow hat ho2 hk2 HOT HRX GKB GKX hL37)
                refine (refInt_ok _ U' (by omega) (by omega)).mono ?_
                rintro en wa16 ⟨Ax, cx, rfl, hO, hb⟩
                obtain ⟨ho1, hk1⟩ := HO37.out.call hb
                have HRX := Lib.hid (Rd.of_own hO (F := fun _ => True) (fun _ _ => trivial))
                have HOT := Lib.hid ho1
                have GKB := Lib.hid (hk1.heap (.inl rfl) KB.out)
                have GKX := Lib.hid (hk1.heap (.inr rfl) KX.out)
                clear ho1 hk1 hO hb HO37 q0 q1 q2 q3 p0 p1 p2 p3 p4 KB KX
                obtain ⟨X38, hX38⟩ : ∃ l, leb (zig U') = l := ⟨_, rfl⟩
                rw [hX38] at HRX ⊢
                have bX38 : X38.length ≤ 10 := by rw [← hX38]; exact leb_length _
                have HX38 := Lib.hid hX38
                clear hX38
                go_wp2_with (at_builtin; go_loud (refine wpList_append_rd _ rfl _ _ 31 rfl w.heap.size 5 i0 (.int .u8 0) 1 Tryz.underlying31 HI.out hz0 hz1 hz2 rfl _ L37.length _ rfl HOT.out.1 _ _ (X38.map B8) rfl HRX.out (B8_one _) (by rw [List.length_map]; omega) (by rw [List.length_map]; unfold maxLen; omega) HOT.out.2.1.size ?_); intro v' wb16 hown hgrow hat; obtain ⟨ho2, hk2⟩ := HOT.out.app hown hgrow hat; obtain ⟨Ao38, co38, rfl⟩ := ho2.slice; obtain ⟨L38, hL38⟩ : ∃ l, L37 ++ X38 = l := ⟨_, rfl⟩; have b38 : L38.length ≤ 3400 + 66 * k + 48 := (by rw [← hL38, List.length_append]; omega); rw [hL38] at ho2 ⊢; have HL38 := Lib.hid hL38; have HO38 := Lib.hid ho2; have KB := Lib.hid (hk2.heap (.inl rfl) GKB.out); obtain ⟨⟨q0, q1, q2, q3⟩, _⟩ := blk4 KB.out; have KX := Lib.hid (hk2.heap (.inr rfl) GKX.out); obtain ⟨p0, p1, p2, p3, p4⟩ := blk5 KX.out; clear hown hgrow hat ho2 hk2 HOT HRX GKB GKX hL38)
                go_roundw
                case rel =>
                  refine ⟨k + 1, by omega, by go_num, L38, ?_, by omega, HO38.out.less (fun j hj => .inl hj), KB.out⟩
                  rw [← HL38.out, ← HX38.out, ← HL37.out, ← HX37.out, ← HL36.out, ← HX36.out, ← HL35.out, ← HX35.out, ← HL34.out, ← HX34.out, HCUR.out]
                  rw [HSN.out]; simp [encCl, markOf, encU, encI, encT]
                case measure => simp [intOf]; omega
              | true =>
                obtain ⟨hob, hkk⟩ := hos.box (.cells #[.bool true, .int .i64 C', .string ⟨T'.toArray⟩, .int .i64 P', .int .i64 U'] 74)
                have kx := heap_alloc_new wr (.cells #[.bool true, .int .i64 C', .string ⟨T'.toArray⟩, .int .i64 P', .int .i64 U'] 74)
                have hkb2 := hkk.heap rfl hkb
                have HO33 := Lib.hid hob
                have KB := Lib.hid hkb2
                have KX := Lib.hid kx
                clear hob hkk hkb2 kx hos hkb
                go_wp2_with fail
                clear d0 d1 d2 d3 d4 q0 q1 q2 q3
                generalize wr.alloc (.cells #[.bool true, .int .i64 C', .string ⟨T'.toArray⟩, .int .i64 P', .int .i64 U'] 74) = wx at HO33 KB KX ⊢
                obtain ⟨X, hX⟩ : ∃ X, wr.heap.size = X := ⟨_, rfl⟩
                rw [hX] at HO33 KX ⊢
                clear hX
                obtain ⟨⟨q0, q1, q2, q3⟩, _⟩ := blk4 KB.out
                obtain ⟨p0, p1, p2, p3, p4⟩ := blk5 KX.out
                refine (refUintI_ok _ 1 (by omega) (by omega)).mono ?_
                rintro en wa17 ⟨Ax, cx, rfl, hO, hb⟩
                obtain ⟨ho1, hk1⟩ := HO33.out.call hb
                have HRX := Lib.hid (Rd.of_own hO (F := fun _ => True) (fun _ _ => trivial))
                have HOT := Lib.hid ho1
                have GKB := Lib.hid (hk1.heap (.inl rfl) KB.out)
                have GKX := Lib.hid (hk1.heap (.inr rfl) KX.out)
                clear ho1 hk1 hO hb HO33 q0 q1 q2 q3 p0 p1 p2 p3 p4 KB KX
                obtain ⟨X34, hX34⟩ : ∃ l, leb (1 : Int).toNat = l := ⟨_, rfl⟩
                rw [hX34] at HRX ⊢
                have bX34 : X34.length ≤ 1 := by rw [← hX34]; decide
                have HX34 := Lib.hid hX34
                clear hX34
                go_wp2_with (at_builtin; go_loud (refine wpList_append_rd _ rfl _ _ 31 rfl w.heap.size 5 i0 (.int .u8 0) 1 Tryz.underlying31 HI.out hz0 hz1 hz2 rfl _ L33.length _ rfl HOT.out.1 _ _ (X34.map B8) rfl HRX.out (B8_one _) (by rw [List.length_map]; omega) (by rw [List.length_map]; unfold maxLen; omega) HOT.out.2.1.size ?_); intro v' wb17 hown hgrow hat; obtain ⟨ho2, hk2⟩ := HOT.out.app hown hgrow hat; obtain ⟨Ao34, co34, rfl⟩ := ho2.slice; obtain ⟨L34, hL34⟩ : ∃ l, L33 ++ X34 = l := ⟨_, rfl⟩; have b34 : L34.length ≤ 3400 + 66 * k + 1 := (by rw [← hL34, List.length_append]; omega); rw [hL34] at ho2 ⊢; have HL34 := Lib.hid hL34; have HO34 := Lib.hid ho2; have KB := Lib.hid (hk2.heap (.inl rfl) GKB.out); obtain ⟨⟨q0, q1, q2, q3⟩, _⟩ := blk4 KB.out; have KX := Lib.hid (hk2.heap (.inr rfl) GKX.out); obtain ⟨p0, p1, p2, p3, p4⟩ := blk5 KX.out; clear hown hgrow hat ho2 hk2 HOT HRX GKB GKX hL34)
                refine (refInt_ok _ C' (by omega) (by omega)).mono ?_
                rintro en wa18 ⟨Ax, cx, rfl, hO, hb⟩
                obtain ⟨ho1, hk1⟩ := HO34.out.call hb
                have HRX := Lib.hid (Rd.of_own hO (F := fun _ => True) (fun _ _ => trivial))
                have HOT := Lib.hid ho1
                have GKB := Lib.hid (hk1.heap (.inl rfl) KB.out)
                have GKX := Lib.hid (hk1.heap (.inr rfl) KX.out)
                clear ho1 hk1 hO hb HO34 q0 q1 q2 q3 p0 p1 p2 p3 p4 KB KX
                obtain ⟨X35, hX35⟩ : ∃ l, leb (zig C') = l := ⟨_, rfl⟩
                rw [hX35] at HRX ⊢
                have bX35 : X35.length ≤ 10 := by rw [← hX35]; exact leb_length _
                have HX35 := Lib.hid hX35
                clear hX35
                go_wp2_with (at_builtin; go_loud (refine wpList_append_rd _ rfl _ _ 31 rfl w.heap.size 5 i0 (.int .u8 0) 1 Tryz.underlying31 HI.out hz0 hz1 hz2 rfl _ L34.length _ rfl HOT.out.1 _ _ (X35.map B8) rfl HRX.out (B8_one _) (by rw [List.length_map]; omega) (by rw [List.length_map]; unfold maxLen; omega) HOT.out.2.1.size ?_); intro v' wb18 hown hgrow hat; obtain ⟨ho2, hk2⟩ := HOT.out.app hown hgrow hat; obtain ⟨Ao35, co35, rfl⟩ := ho2.slice; obtain ⟨L35, hL35⟩ : ∃ l, L34 ++ X35 = l := ⟨_, rfl⟩; have b35 : L35.length ≤ 3400 + 66 * k + 11 := (by rw [← hL35, List.length_append]; omega); rw [hL35] at ho2 ⊢; have HL35 := Lib.hid hL35; have HO35 := Lib.hid ho2; have KB := Lib.hid (hk2.heap (.inl rfl) GKB.out); obtain ⟨⟨q0, q1, q2, q3⟩, _⟩ := blk4 KB.out; have KX := Lib.hid (hk2.heap (.inr rfl) GKX.out); obtain ⟨p0, p1, p2, p3, p4⟩ := blk5 KX.out; clear hown hgrow hat ho2 hk2 HOT HRX GKB GKX hL35)
                refine (refText_ok _ T' (by omega)).mono ?_
                rintro en wa19 ⟨Ax, cx, rfl, hO, hb⟩
                obtain ⟨ho1, hk1⟩ := HO35.out.call hb
                have HRX := Lib.hid (Rd.of_own hO (F := fun _ => True) (fun _ _ => trivial))
                have HOT := Lib.hid ho1
                have GKB := Lib.hid (hk1.heap (.inl rfl) KB.out)
                have GKX := Lib.hid (hk1.heap (.inr rfl) KX.out)
                clear ho1 hk1 hO hb HO35 q0 q1 q2 q3 p0 p1 p2 p3 p4 KB KX
                obtain ⟨X36, hX36⟩ : ∃ l, leb T'.length ++ T' = l := ⟨_, rfl⟩
                rw [hX36] at HRX ⊢
                have bX36 : X36.length ≤ 17 := by rw [← hX36]; rw [List.length_append, leb_lt (by omega)]; simp; omega
                have HX36 := Lib.hid hX36
                clear hX36
                go_wp2_with (at_builtin; go_loud (refine wpList_append_rd _ rfl _ _ 31 rfl w.heap.size 5 i0 (.int .u8 0) 1 Tryz.underlying31 HI.out hz0 hz1 hz2 rfl _ L35.length _ rfl HOT.out.1 _ _ (X36.map B8) rfl HRX.out (B8_one _) (by rw [List.length_map]; omega) (by rw [List.length_map]; unfold maxLen; omega) HOT.out.2.1.size ?_); intro v' wb19 hown hgrow hat; obtain ⟨ho2, hk2⟩ := HOT.out.app hown hgrow hat; obtain ⟨Ao36, co36, rfl⟩ := ho2.slice; obtain ⟨L36, hL36⟩ : ∃ l, L35 ++ X36 = l := ⟨_, rfl⟩; have b36 : L36.length ≤ 3400 + 66 * k + 28 := (by rw [← hL36, List.length_append]; omega); rw [hL36] at ho2 ⊢; have HL36 := Lib.hid hL36; have HO36 := Lib.hid ho2; have KB := Lib.hid (hk2.heap (.inl rfl) GKB.out); obtain ⟨⟨q0, q1, q2, q3⟩, _⟩ := blk4 KB.out; have KX := Lib.hid (hk2.heap (.inr rfl) GKX.out); obtain ⟨p0, p1, p2, p3, p4⟩ := blk5 KX.out; clear hown hgrow hat ho2 hk2 HOT HRX GKB GKX hL36)
                refine (refInt_ok _ P' (by omega) (by omega)).mono ?_
                rintro en wa20 ⟨Ax, cx, rfl, hO, hb⟩
                obtain ⟨ho1, hk1⟩ := HO36.out.call hb
                have HRX := Lib.hid (Rd.of_own hO (F := fun _ => True) (fun _ _ => trivial))
                have HOT := Lib.hid ho1
                have GKB := Lib.hid (hk1.heap (.inl rfl) KB.out)
                have GKX := Lib.hid (hk1.heap (.inr rfl) KX.out)
                clear ho1 hk1 hO hb HO36 q0 q1 q2 q3 p0 p1 p2 p3 p4 KB KX
                obtain ⟨X37, hX37⟩ : ∃ l, leb (zig P') = l := ⟨_, rfl⟩
                rw [hX37] at HRX ⊢
                have bX37 : X37.length ≤ 10 := by rw [← hX37]; exact leb_length _
                have HX37 := Lib.hid hX37
                clear hX37
                go_wp2_with (at_builtin; go_loud (refine wpList_append_rd _ rfl _ _ 31 rfl w.heap.size 5 i0 (.int .u8 0) 1 Tryz.underlying31 HI.out hz0 hz1 hz2 rfl _ L36.length _ rfl HOT.out.1 _ _ (X37.map B8) rfl HRX.out (B8_one _) (by rw [List.length_map]; omega) (by rw [List.length_map]; unfold maxLen; omega) HOT.out.2.1.size ?_); intro v' wb20 hown hgrow hat; obtain ⟨ho2, hk2⟩ := HOT.out.app hown hgrow hat; obtain ⟨Ao37, co37, rfl⟩ := ho2.slice; obtain ⟨L37, hL37⟩ : ∃ l, L36 ++ X37 = l := ⟨_, rfl⟩; have b37 : L37.length ≤ 3400 + 66 * k + 38 := (by rw [← hL37, List.length_append]; omega); rw [hL37] at ho2 ⊢; have HL37 := Lib.hid hL37; have HO37 := Lib.hid ho2; have KB := Lib.hid (hk2.heap (.inl rfl) GKB.out); obtain ⟨⟨q0, q1, q2, q3⟩, _⟩ := blk4 KB.out; have KX := Lib.hid (hk2.heap (.inr rfl) GKX.out); obtain ⟨p0, p1, p2, p3, p4⟩ := blk5 KX.out; clear hown hgrow hat ho2 hk2 HOT HRX GKB GKX hL37)
                refine (refInt_ok _ U' (by omega) (by omega)).mono ?_
                rintro en wa21 ⟨Ax, cx, rfl, hO, hb⟩
                obtain ⟨ho1, hk1⟩ := HO37.out.call hb
                have HRX := Lib.hid (Rd.of_own hO (F := fun _ => True) (fun _ _ => trivial))
                have HOT := Lib.hid ho1
                have GKB := Lib.hid (hk1.heap (.inl rfl) KB.out)
                have GKX := Lib.hid (hk1.heap (.inr rfl) KX.out)
                clear ho1 hk1 hO hb HO37 q0 q1 q2 q3 p0 p1 p2 p3 p4 KB KX
                obtain ⟨X38, hX38⟩ : ∃ l, leb (zig U') = l := ⟨_, rfl⟩
                rw [hX38] at HRX ⊢
                have bX38 : X38.length ≤ 10 := by rw [← hX38]; exact leb_length _
                have HX38 := Lib.hid hX38
                clear hX38
                go_wp2_with (at_builtin; go_loud (refine wpList_append_rd _ rfl _ _ 31 rfl w.heap.size 5 i0 (.int .u8 0) 1 Tryz.underlying31 HI.out hz0 hz1 hz2 rfl _ L37.length _ rfl HOT.out.1 _ _ (X38.map B8) rfl HRX.out (B8_one _) (by rw [List.length_map]; omega) (by rw [List.length_map]; unfold maxLen; omega) HOT.out.2.1.size ?_); intro v' wb21 hown hgrow hat; obtain ⟨ho2, hk2⟩ := HOT.out.app hown hgrow hat; obtain ⟨Ao38, co38, rfl⟩ := ho2.slice; obtain ⟨L38, hL38⟩ : ∃ l, L37 ++ X38 = l := ⟨_, rfl⟩; have b38 : L38.length ≤ 3400 + 66 * k + 48 := (by rw [← hL38, List.length_append]; omega); rw [hL38] at ho2 ⊢; have HL38 := Lib.hid hL38; have HO38 := Lib.hid ho2; have KB := Lib.hid (hk2.heap (.inl rfl) GKB.out); obtain ⟨⟨q0, q1, q2, q3⟩, _⟩ := blk4 KB.out; have KX := Lib.hid (hk2.heap (.inr rfl) GKX.out); obtain ⟨p0, p1, p2, p3, p4⟩ := blk5 KX.out; clear hown hgrow hat ho2 hk2 HOT HRX GKB GKX hL38)
                go_roundw
                case rel =>
                  refine ⟨k + 1, by omega, by go_num, L38, ?_, by omega, HO38.out.less (fun j hj => .inl hj), KB.out⟩
                  rw [← HL38.out, ← HX38.out, ← HL37.out, ← HX37.out, ← HL36.out, ← HX36.out, ← HL35.out, ← HX35.out, ← HL34.out, ← HX34.out, HCUR.out]
                  rw [HSN.out]; simp [encCl, markOf, encU, encI, encT]
                case measure => simp [intOf]; omega
            · have hkl : k = e.cls.length := by omega
              subst hkl
              rw [List.take_length] at hcur
              have HC33 := Lib.hid hcur
              have HO33 := Lib.hid hos
              have KB := Lib.hid hkb
              clear hcur hos hkb hlt hk
              obtain ⟨⟨q0, q1, q2, q3⟩, _⟩ := blk4 KB.out
              have hfin : L33 = inside e := by
                rw [HC33.out, ← HL23.out, ← HX23.out, HC22.out, ← HL12.out, ← HX12.out, HC11.out, ← HL1.out, ← HX1.out, ← HL0.out]
                simp [inside, encU]
              have HFIN := Lib.hid hfin
              clear hfin
              go_wp2_with fail
              go_ret
              refine ⟨Ao33, co33, ?_, ?_, HO33.out.2.1⟩
              · rw [← HFIN.out]; rfl
              · rw [← HFIN.out]; exact HO33.out.1
end Go.Proofs.YtihjcfifakcpgaaGreatDoor
