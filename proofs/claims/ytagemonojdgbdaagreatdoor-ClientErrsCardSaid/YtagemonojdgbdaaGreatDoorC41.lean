import Derived.Test.YtagemonojdgbdaaGreatDoorC06
import Derived.Test.YtagemonojdgbdaaGreatDoorC40
namespace Go.Proofs.YtagemonojdgbdaaGreatDoor
set_option maxRecDepth 100000
open Go.RowKit
section
open Go.RowKit Go.Maps Go.WideShapes
theorem op_len (l : List POp) : ∀ x ∈ l.map POp.cells, x.length = 5 := by
 intro x hx
 obtain ⟨y, _, rfl⟩ := List.mem_map.1 hx
 rfl
theorem op_one (l : List POp) : ∀ u ∈ (l.map POp.cells).flatten, u.oneCell' = true := by
 intro u hu
 obtain ⟨x, hx, hu⟩ := List.mem_flatten.1 hu
 obtain ⟨c, _, rfl⟩ := List.mem_map.1 hx
 simp [POp.cells] at hu
 rcases hu with rfl | rfl | rfl | rfl | rfl <;> rfl
def FreshO (l : List POp) (w : World) (e : Ending) (w' : World) : Prop :=
 ∃ A c, e = .returned (.slice A l.length c) ∧ w'.ownsRow w.heap.size 104 5 (.slice A l.length c) l.length (l.map POp.cells).flatten ∧ Below w.heap.size w w'
theorem Tryz.infoOp : (Tryz.prog.info? 104).map (fun i => (i.zero, i.size, i.bytes)) = some (some (.agg #[.int .i64 0, .int .i64 0, .int .i64 0, .int .i64 0, .int .i64 0]), 5, 40) := by kernel_rfl
theorem Tryz.infoI : (Tryz.prog.info? 3).map (fun i => (i.zero, i.size, i.bytes)) = some (some (.int .i64 0), 1, 8) := by kernel_rfl
set_option maxHeartbeats 400000 in
theorem cloneOps_ok (w : World) (F : Nat → Prop) (v : Value) (l : List POp) (h : OpRd w F v l) (hl : l.length ≤ 1000000) :
  Calls Tryz.prog 43 #[v] w (FreshO l w) := by
 obtain ⟨i0, hi, hz0, hz1, hz2⟩ := info_parts Tryz.infoOp
 obtain ⟨A, c, rfl, hnc, hcm⟩ := h.slice
 have hnil := fun w => Lib.run_eql_slice_nil (P := Tryz.prog) w 50 104 A l.length c 0 0 Tryz.underlying50
 rcases A with _ | a
 ·have : l = [] := by
   cases l with
   | nil => rfl
   | cons x r =>
    obtain ⟨A', n', c', hv, hn', _, _, hx⟩ := h
    injection hv with e1 e2 e3
    obtain ⟨_, _, h0, _⟩ := hx (by rw [← e2]; simp)
    rw [← e1] at h0
    cases h0
  subst this
  clear h
  simp only [List.length_nil] at hnil
  go_enter Tryz.func43, Tryz.ntmps43
  go_wp2
  go_ret
  exact ⟨none, 0, rfl, World.ownsRow_nil _ _ _ _, Below.refl _ _⟩
 ·have hr2 : OpRd (w.alloc (.cells #[] 104)) F (.slice (some a) l.length c) l := RdK.below h ((Below.refl _ _).alloc (Nat.le_refl _) _)
  have hown0 := World.ownsRow_made (e := 104) (base := w.heap.size) (size := 5) w #[] 0 (Nat.le_refl _) (by simp [maxLen]) rfl
  have HR := Lib.hid (And.intro hr2 hown0)
  have HHI := Lib.hid hi
  clear hr2 hown0 h hi
  go_enter Tryz.func43, Tryz.ntmps43
  go_wp2_with (at_builtin; go_loud (refine wpList_append_rdk _ rfl _ _ 50 rfl w.heap.size 104 i0 _ 5 40 Tryz.underlying50 HHI.out hz0 hz1 hz2 rfl (by decide) _ 0 [] rfl HR.out.2 F _ (l.map POp.cells) rfl HR.out.1 (op_len _) (op_one _) (by simp; omega) (by simp; unfold maxLen; omega) (by simp) ?_); intro v' w1 hown1 hgrow1 _)
  go_ret
  simp only [Nat.zero_add, List.nil_append, List.length_map] at hown1
  obtain ⟨A', c', hv⟩ := ownsRow_slice hown1
  rw [hv] at hown1 ⊢
  exact ⟨A', c', rfl, hown1, ((Below.refl _ _).alloc (Nat.le_refl _) _).grown hgrow1 (by simp) (fun k hk => by have h2 : some w.heap.size = some k := hk; injection h2 with h2; omega)⟩
set_option maxHeartbeats 400000 in
theorem cloneInts_ok (v : Value) (xs : List Value) (F : Nat → Prop) (w : World) (hr : Rd w F v xs) (h1 : ∀ u ∈ xs, u.oneCell' = true) (hb : xs.length ≤ 1000000) :
  Calls Tryz.prog 44 #[v] w (Fresh 3 xs w) := by
 obtain ⟨i0, hi, hz0, hz1, hz2⟩ := info_parts Tryz.infoI
 have hr' := hr
 obtain ⟨A, n, c, rfl, hl, hnc, hcm, hx⟩ := hr'
 have hnil := fun w => Lib.run_eql_slice_nil (P := Tryz.prog) w 51 3 A n c 0 0 Tryz.underlying51
 have HX := Lib.hid hx
 have HL := Lib.hid hl
 clear hx hl
 rcases A with _ | a
 ·go_enter Tryz.func44, Tryz.ntmps44
  go_wp2
  go_ret
  have : xs = [] := by
   rcases Nat.eq_zero_or_pos n with h0 | h0
   ·exact List.eq_nil_of_length_eq_zero (by rw [HL.out, h0])
   ·obtain ⟨_, _, h, _⟩ := HX.out h0
    cases h
  subst this
  exact ⟨none, 0, rfl, World.ownsRow_nil _ _ _ _, Below.refl _ _⟩
 ·have hr2 : Rd (w.alloc (.cells #[] 3)) F (.slice (some a) n c) xs := hr.below ((Below.refl _ _).alloc (Nat.le_refl _) _)
  have hown0 := World.ownsRow_made (e := 3) (base := w.heap.size) (size := 1) w #[] 0 (Nat.le_refl _) (by simp [maxLen]) rfl
  have c1 : (0 + xs.length) * 8 ≤ 140737488355328 := by omega
  have c2 : 0 + xs.length ≤ maxLen := by simp only [maxLen]; omega
  have c3 : w.heap.size ≤ (w.alloc (.cells #[] 3)).heap.size := by simp
  have C := Lib.hid (And.intro c1 (And.intro c2 c3))
  clear c1 c2 c3
  go_enter Tryz.func44, Tryz.ntmps44
  go_wp2_with (at_builtin; go_loud (refine wpList_append_rd _ rfl _ _ 51 rfl w.heap.size 3 i0 (.int .i64 0) 8 Tryz.underlying51 hi hz0 hz1 hz2 rfl _ 0 [] rfl hown0 F _ xs rfl hr2 h1 C.out.1 C.out.2.1 C.out.2.2 ?_); intro v' w1 hown1 hgrow1 _)
  go_ret
  simp only [Nat.zero_add, List.nil_append] at hown1
  obtain ⟨A', c', hv⟩ := ownsRow_slice hown1
  rw [hv] at hown1 ⊢
  exact ⟨A', c', rfl, hown1, ((Below.refl _ _).alloc (Nat.le_refl _) _).grown hgrow1 (by simp) (fun k hk => by have h2 : some w.heap.size = some k := hk; injection h2 with h2; omega)⟩
section
variable {P : Program} {w : World} {K : TypeId} {b n : Nat} {g : Value → Option Value}
theorem MapAt.clear (h : MapAt P w K b n g) {t e : TypeId} (ht : P.underlying t = some (.map K e)) (ty : TypeId) :
  ∃ w', (Builtin.clear_ #[t] ty #[.map (some b)]).run P w = .ok (.tuple #[]) w' ∧ MapAt P w' K b 0 (fun _ => none) ∧ Only (fun k => k = b) w w' := by
 obtain ⟨D, ⟨es, clock, hb, F, hs, hD⟩, r⟩ := h
 refine ⟨{ w with heap := w.heap.setIfInBounds b (.map #[] clock) }, ?_, ⟨_, ⟨#[], clock, (MapKept.heap_set hb).1, ⟨by simp, MapKept.stamped_empty clock, by simp⟩, Nat.le_refl _, rfl⟩, fun _ _ _ => ⟨rfl, fun _ => rfl⟩⟩, ?_⟩
 ·simp [Builtin.clear_, run_underlying ht, MapKept.run_getObj_map hb, MapKept.run_setObj_map _ hb, Result.andThen]
 ·refine ⟨rfl, rfl, rfl, by simp, fun k hk hne => ?_⟩
  show (w.heap.setIfInBounds b _)[k]? = _
  rw [Array.getElem?_setIfInBounds, if_neg (fun e => hne e.symm)]
end
def BufM (w : World) (B T m : Nat) : Prop := w.heap[B]? = some (.cells #[.pointer (some ⟨T, 0, none⟩), .map (some m)] 109 (0, 0)) ∧ MapAt Tryz.prog w 9 m 0 (fun _ => none)
theorem BufM.only {w w' : World} {B T m : Nat} {S : Nat → Prop} (h : BufM w B T m) (ho : Only S w w') (h1 : ¬ S B) (h2 : ¬ S m) : BufM w' B T m := ⟨ho.heap h.1 h1, h.2.only ho h2⟩
theorem bufNewM_ok (w : World) (T : Nat) : Calls Tryz.prog 8 #[.pointer (some ⟨T, 0, none⟩)] w fun e w' =>
  ∃ B m, e = .returned (.tuple #[.pointer (some ⟨B, 0, none⟩), .int .i64 0]) ∧ w.heap.size ≤ m ∧ m < B ∧ BufM w' B T m ∧ Below w.heap.size w w' := by
 have hmm := @run_makeMap Tryz.prog
 have hm := MapAt.made Tryz.prog w 9
 have hb := new_box w (.map #[] 0)
 have hb2 := new_box (w.alloc (.map #[] 0)) (.cells #[.pointer (some ⟨T, 0, none⟩), .map (some w.heap.size)] 109)
 have k2 := heap_alloc_new (w.alloc (.map #[] 0)) (.cells #[.pointer (some ⟨T, 0, none⟩), .map (some w.heap.size)] 109)
 have H := Lib.hid (show ∃ B m, B = w.heap.size + 1 ∧ w.heap.size ≤ m ∧ m < B ∧ BufM ((w.alloc (.map #[] 0)).alloc (.cells #[.pointer (some ⟨T, 0, none⟩), .map (some w.heap.size)] 109)) B T m ∧ Below w.heap.size w ((w.alloc (.map #[] 0)).alloc (.cells #[.pointer (some ⟨T, 0, none⟩), .map (some w.heap.size)] 109)) from
  ⟨_, w.heap.size, rfl, Nat.le_refl _, by omega, ⟨by simpa using k2, hm.below hb2⟩, hb.trans (hb2.mono (by simp))⟩)
 clear hm hb hb2 k2
 go_enter Tryz.func8, Tryz.ntmps8
 go_wp2_with fail
 go_ret2
 obtain ⟨B, m, e, h2, h3, h4, h5⟩ := H.out
 subst e
 exact ⟨_, m, rfl, h2, h3, h4, h5⟩
theorem bufDrop_ok (w : World) (B T m : Nat) (h : BufM w B T m) : Calls Tryz.prog 121 #[.pointer (some ⟨B, 0, none⟩)] w fun e w' => e = .returned (.tuple #[]) ∧ Only (fun k => k = m) w w' := by
 obtain ⟨h1, h2⟩ := h
 have c1 : w.cell? ⟨B, 1, none⟩ = some (.map (some m)) := by simp [World.cell?, h1]
 obtain ⟨w1, hrun, hm1, ho1⟩ := h2.clear Tryz.underlying107 0
 have H1 := Lib.hid ho1
 clear h1 h2 hm1 ho1
 go_enter Tryz.func121, Tryz.ntmps121
 go_wp2_with fail
 exact bodyPost_end (results_none rfl _ _ _) rfl ⟨rfl, H1.out⟩
end
def Still (w0 : World) : (Nat → Prop) → Unit → World → Prop := fun Z _ w => (∀ k, Z k → w0.heap.size ≤ k) ∧ Below w0.heap.size w0 w
theorem still_ok (w0 : World) : KOk (Still w0) := by
 refine ⟨fun Z r w w' G hG ⟨hZ, h⟩ ho => ⟨hZ, ?_⟩, fun Z r w b ⟨hZ, h⟩ hb => ⟨fun k hk => hk.elim (hZ k) (fun e => by subst e; exact Nat.le_trans h.size hb), h⟩, fun Z Z' r w hz ⟨hZ, h⟩ => ⟨fun k hk => hZ k (hz k hk), h⟩⟩
 refine ⟨ho.os.trans h.os, ho.tape.trans h.tape, ho.output.trans h.output, Nat.le_trans h.size ho.size, fun k hk => ?_⟩
 exact (ho.block k (Nat.lt_of_lt_of_le hk h.size) (fun hg => by have := hZ k (hG k hg); omega)).trans (h.block k hk)
end Go.Proofs.YtagemonojdgbdaaGreatDoor
