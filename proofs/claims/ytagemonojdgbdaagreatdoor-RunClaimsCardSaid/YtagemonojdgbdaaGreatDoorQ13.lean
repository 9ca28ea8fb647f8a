import Derived.Test.YtagemonojdgbdaaGreatDoorQ04
import Derived.Test.YtagemonojdgbdaaGreatDoorProg
import Derived.Deep.CutRange
namespace Go.Proofs.YtagemonojdgbdaaGreatDoor
set_option maxRecDepth 100000
open Go.RowKit
def gJ (w : World) (T : Nat) (n : Int) : Prop :=
 ∃ N, w.heap[T]? = some (.cells #[.int .i64 n, .int .i64 0, .pointer (some ⟨N, 0, none⟩)] 203 (0, 0)) /\ w.heap[N]? = some (.cells #[.slice none 0 0, .slice none 0 0] 201 (0, 0))
theorem ag (w : World) (o : Obj) : Below w.heap.size w (w.alloc o) := (Below.refl _ _).alloc (Nat.le_refl _) _
theorem gJ.only {w w' : World} {S : Nat -> Prop} {T : Nat} {n : Int} (h : gJ w T n) (ho : Only S w w') (hS : ∀ k cs t, S k -> w.heap[k]? = some (.cells cs t (0, 0)) -> t ≠ 203 /\ t ≠ 201) : gJ w' T n := by
 obtain ⟨N, h1, h2⟩ := h
 exact ⟨N, ho.heap h1 (fun hs => (hS _ _ _ hs h1).1 rfl), ho.heap h2 (fun hs => (hS _ _ _ hs h2).2 rfl)⟩
theorem gJ.below {w w' : World} {T : Nat} {n : Int} (h : gJ w T n) (hb : Below w.heap.size w w') : gJ w' T n := by
 obtain ⟨N, h1, h2⟩ := h
 exact ⟨N, (Only.of_below hb (fun _ => False)).heap h1 (fun h => h), (Only.of_below hb (fun _ => False)).heap h2 (fun h => h)⟩
theorem y8 (w : World) (n : Int) (h1 : 2 <= n) (h2 : n <= 16) : Calls Tryz.prog 57 #[.int .i64 n] w fun e w' =>
  ∃ T, e = .returned (.tuple #[.pointer (some ⟨T, 0, none⟩), .int .i64 0]) /\ w.heap.size <= T /\ gJ w' T n /\ Below w.heap.size w w' := by
 have hb := ag w (.cells #[.slice none 0 0, .slice none 0 0] 201)
 have k1 := heap_alloc_new w (.cells #[.slice none 0 0, .slice none 0 0] 201)
 have hb2 := ag (w.alloc (.cells #[.slice none 0 0, .slice none 0 0] 201)) (.cells #[.int .i64 n, .int .i64 0, .pointer (some ⟨w.heap.size, 0, none⟩)] 203)
 have k2 := heap_alloc_new (w.alloc (.cells #[.slice none 0 0, .slice none 0 0] 201)) (.cells #[.int .i64 n, .int .i64 0, .pointer (some ⟨w.heap.size, 0, none⟩)] 203)
 have H := Lib.hid (show ∃ T, T = w.heap.size + 1 /\ w.heap.size <= T /\ gJ ((w.alloc (.cells #[.slice none 0 0, .slice none 0 0] 201)).alloc (.cells #[.int .i64 n, .int .i64 0, .pointer (some ⟨w.heap.size, 0, none⟩)] 203)) T n /\ Below w.heap.size w ((w.alloc (.cells #[.slice none 0 0, .slice none 0 0] 201)).alloc (.cells #[.int .i64 n, .int .i64 0, .pointer (some ⟨w.heap.size, 0, none⟩)] 203)) from
  ⟨_, rfl, by omega, ⟨w.heap.size, by simpa using k2, (Only.of_below hb2 (fun _ => False)).heap k1 (fun h => h)⟩, hb.trans (hb2.mono (by simp))⟩)
 have h1' : ¬ n < 2 := by omega
 have h2' : ¬ 16 < n := by omega
 clear hb k1 hb2 k2
 go_enter Tryz.func57, Tryz.ntmps57
 go_wp2_with fail
 go_ret2
 obtain ⟨T, e, h3, h4, h5⟩ := H.out
 subst e
 exact ⟨_, rfl, h3, h4, h5⟩
def jY (w : World) (T : Nat) (most n : Int) (L : Nat) : Prop :=
 ∃ t0 t1 t2 t3 t4 : Nat, w.heap[T]? = some (.cells #[.int .i64 most, .pointer (some ⟨t0, 0, none⟩), .pointer (some ⟨t1, 0, none⟩), .pointer (some ⟨t2, 0, none⟩), .pointer (some ⟨t3, 0, none⟩), .pointer (some ⟨t4, 0, none⟩)] 151 (0, 0)) /\
  (L <= t0 /\ gJ w t0 n) /\ (L <= t1 /\ gJ w t1 n) /\ (L <= t2 /\ gJ w t2 n) /\ (L <= t3 /\ gJ w t3 n) /\ (L <= t4 /\ gJ w t4 n)
theorem jY.below {w w' : World} {T L : Nat} {most n : Int} (h : jY w T most n L) (hb : Below w.heap.size w w') : jY w' T most n L := by
 obtain ⟨t0, t1, t2, t3, t4, h0, ⟨a0, b0⟩, ⟨a1, b1⟩, ⟨a2, b2⟩, ⟨a3, b3⟩, ⟨a4, b4⟩⟩ := h
 exact ⟨t0, t1, t2, t3, t4, (Only.of_below hb (fun _ => False)).heap h0 (fun h => h), ⟨a0, b0.below hb⟩, ⟨a1, b1.below hb⟩, ⟨a2, b2.below hb⟩, ⟨a3, b3.below hb⟩, ⟨a4, b4.below hb⟩⟩
def Trees (w wr : World) (T : Nat) (most n : Int) (k : Nat) : Prop :=
 ∃ cs : Array Value, wr.heap[T]? = some (.cells cs 151 (0, 0)) /\ cs.size = 6 /\ cs[0]? = some (.int .i64 most) /\ T < wr.heap.size /\ Below w.heap.size w wr /\ w.heap.size <= T /\
  ∀ j, j < k -> ∃ t, cs[j + 1]? = some (.pointer (some ⟨t, 0, none⟩)) /\ w.heap.size <= t /\ gJ wr t n
theorem Trees.more {w wr w' : World} {T t : Nat} {most n : Int} {k : Nat} (h : Trees w wr T most n k) (hk : k < 5) (hb : Below wr.heap.size wr w') (ht : wr.heap.size <= t) (hE : gJ w' t n) : Trees w (w'.setCell ⟨T, k + 1, none⟩ (.pointer (some ⟨t, 0, none⟩))) T most n (k + 1) := by
 obtain ⟨cs, h1, h2, h3, h4, h5, h6, h7⟩ := h
 have h1' := (Only.of_below hb (fun _ => False)).heap h1 (fun h => h)
 have ho := Only.aT w' T (k + 1) (.pointer (some ⟨t, 0, none⟩))
 have hS : ∀ q cs' t', q = T -> w'.heap[q]? = some (.cells cs' t' (0, 0)) -> t' ≠ 203 /\ t' ≠ 201 := by
  rintro q cs' t' rfl hq
  rw [h1'] at hq
  injection hq with hq
  injection hq with _ e
  subst e
  exact ⟨by decide, by decide⟩
 refine ⟨cs.setIfInBounds (k + 1) (.pointer (some ⟨t, 0, none⟩)), by simp [World.setCell, Array.getElem?_modify, h1'], by simpa using h2, ?_, Nat.lt_of_lt_of_le h4 (Nat.le_trans hb.size ho.size), (h5.trans (hb.mono h5.size)).setCell (p := ⟨T, k + 1, none⟩) h6 _, h6, fun j hj => ?_⟩
 ·rw [Array.getElem?_setIfInBounds, if_neg (by omega)]
  exact h3
 ·by_cases hjk : j = k
  ·subst hjk
   refine ⟨t, ?_, Nat.le_trans h5.size ht, hE.only ho hS⟩
   rw [Array.getElem?_setIfInBounds, if_pos rfl, if_pos (by omega)]
  ·obtain ⟨t', a1, a2, a3⟩ := h7 j (by omega)
   refine ⟨t', ?_, a2, (a3.below hb).only ho hS⟩
   rw [Array.getElem?_setIfInBounds, if_neg (by omega)]
   exact a1
theorem Trees.all {w wr : World} {T : Nat} {most n : Int} (h : Trees w wr T most n 5) : jY wr T most n w.heap.size := by
 obtain ⟨⟨l⟩, h1, h2, h3, h4, h5, h6, h7⟩ := h
 match l, h2 with
 | [c0, c1, c2, c3, c4, c5], _ =>
  obtain ⟨t0, a0, b0, d0⟩ := h7 0 (by decide)
  obtain ⟨t1, a1, b1, d1⟩ := h7 1 (by decide)
  obtain ⟨t2, a2, b2, d2⟩ := h7 2 (by decide)
  obtain ⟨t3, a3, b3, d3⟩ := h7 3 (by decide)
  obtain ⟨t4, a4, b4, d4⟩ := h7 4 (by decide)
  simp at h3 a0 a1 a2 a3 a4
  subst h3 a0 a1 a2 a3 a4
  exact ⟨t0, t1, t2, t3, t4, h1, ⟨b0, d0⟩, ⟨b1, d1⟩, ⟨b2, d2⟩, ⟨b3, d3⟩, ⟨b4, d4⟩⟩
set_option maxHeartbeats 1000000 in
theorem xz (w : World) (most n : Int) (h1 : 1 <= most) (h2 : most <= 1024) (h3 : 2 <= n) (h4 : n <= 16) : Calls Tryz.prog 33 #[.int .i64 most, .int .i64 n] w fun e w' =>
  ∃ T, e = .returned (.tuple #[.pointer (some ⟨T, 0, none⟩), .int .i64 0]) /\ w.heap.size <= T /\ jY w' T most n w.heap.size /\ Below w.heap.size w w' := by
 have hb0 := ag w (.cells #[.int .i64 most, .pointer none, .pointer none, .pointer none, .pointer none, .pointer none] 151)
 have k0 := heap_alloc_new w (.cells #[.int .i64 most, .pointer none, .pointer none, .pointer none, .pointer none, .pointer none] 151)
 have m1 : ¬ most < 1 := by omega
 have m2 : ¬ 1024 < most := by omega
 have HN := Lib.hid (And.intro h3 h4)
 go_enter Tryz.func33, Tryz.ntmps33
 go_upto_region 4 with fail
 generalize w.alloc (.cells #[.int .i64 most, .pointer none, .pointer none, .pointer none, .pointer none, .pointer none] 151) = w1 at hb0 k0 ⊢
 obtain ⟨T, hT⟩ : ∃ x, w.heap.size = x := ⟨_, rfl⟩
 rw [hT] at k0 ⊢
 have HS := Lib.hid (show Trees w w1 T most n 0 from ⟨_, k0, rfl, rfl, (Array.getElem?_eq_some_iff.1 k0).1, hb0, by omega, fun j hj => by omega⟩)
 clear hb0 k0 hT
 go_wp2_with fail
 go_loopw [19] (fun i wr => ∃ k : Nat, k <= 5 /\ i = .int .i64 (k : Int) /\ Trees w wr T most n k) (fun i _ => 5 - (intOf i).toNat)
 case atStart => exact ⟨0, by decide, rfl, HS.out⟩
 case round =>
  obtain ⟨k, hk, rfl, hR⟩ := hrel
  by_cases hlt : k < 5
  ·have HR := Lib.hid hR
   have HC := Lib.hid (y8 wr n HN.out.1 HN.out.2)
   clear hR
   go_wp2_with fail
   refine HC.out.mono ?_
   rintro e w2 ⟨t, rfl, ht, hE, hb⟩
   have hM := HR.out.more hlt hb ht hE
   obtain ⟨cs, q1, q2, _⟩ := HR.out
   have q1' := (Only.of_below hb (fun _ => False)).heap q1 (fun h => h)
   obtain ⟨cv, hcv⟩ : ∃ v, cs[k + 1]? = some v := ⟨_, Array.getElem?_eq_getElem (by omega)⟩
   have z0 : w2.cell? ⟨T, 1 + k, none⟩ = some cv := by rw [Nat.add_comm 1 k]; simp [World.cell?, q1', hcv]
   have z1 : w2.frozen? ⟨T, 1 + k, none⟩ = false := by simp [World.frozen?, q1']
   have i1 : (0 : Int) <= (k : Int) := by omega
   have i2 : (k : Int) < 5 := by omega
   have HM := Lib.hid hM
   clear hM q1 q1' q2 hcv ht hE hb HC
   go_wp2_with fail
   go_roundw
   case rel => exact ⟨k + 1, by omega, by go_num, by rw [Nat.add_comm 1 k]; exact HM.out⟩
   case measure => simp [intOf]; omega
  ·obtain rfl : k = 5 := by omega
   have HR := Lib.hid hR
   clear hR
   go_wp2_with fail
   go_ret2
   obtain ⟨cs, q1, q2, q3, q4, q5, q6, q7⟩ := id HR.out
   exact ⟨T, rfl, q6, HR.out.all, q5⟩
theorem za (w : World) (f : Value) : Calls Tryz.prog 164 #[.int .i64 0, f] w fun e w' => e = .returned (.int .i64 0) /\ w' = w := by
 go_enter Tryz.func164, Tryz.ntmps164
 go_wp2_with fail
 go_loopw [5, 6] (fun i j wr => i = .int .i64 0 /\ j = .int .i64 0 /\ wr = w) (fun _ _ _ => 0)
 case atStart => exact ⟨rfl, rfl, rfl⟩
 case round =>
  obtain ⟨rfl, rfl, rfl⟩ := hrel
  go_wp2_with fail
  go_ret
  exact ⟨rfl, rfl⟩
theorem Eu (w : World) (N : Nat) (h : w.heap[N]? = some (.cells #[.slice none 0 0, .slice none 0 0] 201 (0, 0))) : Calls Tryz.prog 137 #[.pointer (some ⟨N, 0, none⟩)] w fun e w' => e = .returned (.bool true) /\ w' = w := by
 have c0 : w.cell? ⟨N, 0, none⟩ = some (.slice none 0 0) := by simp [World.cell?, h]
 have c1 : w.cell? ⟨N, 1, none⟩ = some (.slice none 0 0) := by simp [World.cell?, h]
 clear h
 go_enter Tryz.func137, Tryz.ntmps137
 go_wp2_with fail
 go_ret
 exact ⟨rfl, rfl⟩
theorem iy (w : World) (T : Nat) (s : ByteArray) (h1 : 1 <= s.size) (h2 : s.size <= 64) : Calls Tryz.prog 92 #[.pointer (some ⟨T, 0, none⟩), .string s] w fun e w' => e = .returned (.int .i64 0) /\ w' = w := by
 have m1 : ¬ (s.size : Int) < 1 := by omega
 have m2 : ¬ (64 : Int) < (s.size : Int) := by omega
 go_enter Tryz.func92, Tryz.ntmps92
 go_wp2_with fail
 go_ret
 exact ⟨rfl, rfl⟩
set_option maxHeartbeats 1000000 in
theorem Ev (w : World) (N : Nat) (s : ByteArray) (h : w.heap[N]? = some (.cells #[.slice none 0 0, .slice none 0 0] 201 (0, 0))) : Calls Tryz.prog 136 #[.pointer (some ⟨N, 0, none⟩), .string s] w fun e w' => e = .returned (.tuple #[.int .i64 0, .bool false]) /\ Below w.heap.size w w' := by
 have hb1 := ag w (.cells #[.pointer (some ⟨N, 0, none⟩)] 197)
 have k1 := heap_alloc_new w (.cells #[.pointer (some ⟨N, 0, none⟩)] 197)
 have hN := (Only.of_below hb1 (fun _ => False)).heap h (fun h => h)
 have hb2 := ag (w.alloc (.cells #[.pointer (some ⟨N, 0, none⟩)] 197)) (.cells #[.string s] 9)
 have k2 := heap_alloc_new (w.alloc (.cells #[.pointer (some ⟨N, 0, none⟩)] 197)) (.cells #[.string s] 9)
 have O2 := (Only.of_below hb2 (fun _ => False)).heap k1 (fun h => h)
 have hN' := (Only.of_below hb2 (fun _ => False)).heap hN (fun h => h)
 have hbb := hb1.trans (hb2.mono (by simp))
 rw [show (w.alloc (.cells #[.pointer (some ⟨N, 0, none⟩)] 197)).heap.size = w.heap.size + 1 by simp] at k2
 go_enter Tryz.func136, Tryz.ntmps136
 go_upto_region 1 with fail
 generalize (w.alloc (.cells #[.pointer (some ⟨N, 0, none⟩)] 197)).alloc (.cells #[.string s] 9) = w2 at O2 k2 hN' hbb ⊢
 obtain ⟨B, hB⟩ : ∃ x, w.heap.size = x := ⟨_, rfl⟩
 rw [hB] at O2 k2 ⊢
 have b0 : w2.cell? ⟨B, 0, none⟩ = some (.pointer (some ⟨N, 0, none⟩)) := by simp [World.cell?, O2]
 have b1 : w2.cell? ⟨B + 1, 0, none⟩ = some (.string s) := by simp [World.cell?, k2]
 have c0 : w2.cell? ⟨N, 0, none⟩ = some (.slice none 0 0) := by simp [World.cell?, hN']
 have OY := Lib.hid hbb
 clear hb1 k1 hN hb2 k2 O2 hN' hbb hB h
 go_wp2_with fail
 refine (za w2 _).mono ?_
 rintro e w3 ⟨rfl, rfl⟩
 go_upto_region 2 with fail
 go_region
 go_wp2_with fail
 go_ret2
 exact ⟨rfl, OY.out.drew⟩
set_option maxHeartbeats 1000000 in
theorem Ew (w : World) (T : Nat) (n : Int) (s : ByteArray) (h : gJ w T n) : Calls Tryz.prog 132 #[.pointer (some ⟨T, 0, none⟩), .string s] w fun e w' => e = .returned (.tuple #[.string ⟨#[]⟩, .string ⟨#[]⟩, .int .i64 14]) /\ Below w.heap.size w w' := by
 obtain ⟨N, h1, h2⟩ := h
 have c2 : w.cell? ⟨T, 2, none⟩ = some (.pointer (some ⟨N, 0, none⟩)) := by simp [World.cell?, h1]
 have HN := Lib.hid h2
 clear h1 h2
 go_enter Tryz.func132, Tryz.ntmps132
 go_wp2_with fail
 go_step3
 go_wp2_with fail
 go_step3
 go_wp2_with fail
 go_loopw [4, 5, 6, 7] (fun k v e q wr => k = .string ⟨#[]⟩ /\ v = .string ⟨#[]⟩ /\ e = .int .i64 14 /\ q = .pointer (some ⟨N, 0, none⟩) /\ wr = w) (fun _ _ _ _ _ => 0)
 case atStart => exact ⟨rfl, rfl, rfl, rfl, rfl⟩
 case round =>
  obtain ⟨rfl, rfl, rfl, rfl, rfl⟩ := hrel
  have HF := Lib.hid (Ev wr N s HN.out)
  go_wp2_with fail
  refine HF.out.mono ?_
  rintro e w2 ⟨rfl, hb⟩
  have hN := (Only.of_below hb (fun _ => False)).heap HN.out (fun h => h)
  have c0 : w2.cell? ⟨N, 0, none⟩ = some (.slice none 0 0) := by simp [World.cell?, hN]
  have HL := Lib.hid (And.intro (Eu w2 N hN) hb)
  clear hN hb HF
  go_wp2_with fail
  refine HL.out.1.mono ?_
  rintro e w3 ⟨rfl, rfl⟩
  go_wp2_with fail
  rw [Exit.noGoto_ret]
  go_ret3
  exact ⟨rfl, HL.out.2⟩
set_option maxHeartbeats 1000000 in
theorem xA (w : World) (T : Nat) (n : Int) (s : ByteArray) (hs1 : 1 <= s.size) (hs2 : s.size <= 64) (h : gJ w T n) : Calls Tryz.prog 89 #[.pointer (some ⟨T, 0, none⟩), .string s] w fun e w' => e = .returned (.tuple #[.string ⟨#[]⟩, .int .i64 14]) /\ Below w.heap.size w w' := by
 have HC := Lib.hid (And.intro (iy w T s hs1 hs2) (Ew w T n s h))
 clear h hs1 hs2
 go_enter Tryz.func89, Tryz.ntmps89
 go_wp2_with fail
 refine HC.out.1.mono ?_
 rintro e w1 ⟨rfl, rfl⟩
 go_wp2_with fail
 refine HC.out.2.mono ?_
 rintro e w2 ⟨rfl, hb⟩
 have HB := Lib.hid hb
 clear hb
 go_wp2_with fail
 go_ret2
 exact ⟨rfl, HB.out⟩
theorem Ex (w : World) (s : ByteArray) (h1 : 1 <= s.size) (h2 : s.size <= 16) : Calls Tryz.prog 72 #[.string s] w fun e w' => e = .returned (.int .i64 0) /\ w' = w := by
 have m1 : ¬ (s.size : Int) < 1 := by omega
 have m2 : ¬ (16 : Int) < (s.size : Int) := by omega
 go_enter Tryz.func72, Tryz.ntmps72
 go_wp2_with fail
 go_ret
 exact ⟨rfl, rfl⟩
theorem su (w : World) (T : Nat) (s : ByteArray) (h1 : 1 <= s.size) (h2 : s.size <= 16) : Calls Tryz.prog 58 #[.pointer (some ⟨T, 0, none⟩), .string s] w fun e w' => e = .returned (.int .i64 0) /\ w' = w := by
 have HC := Lib.hid (Ex w s h1 h2)
 go_enter Tryz.func58, Tryz.ntmps58
 go_wp2_with fail
 refine HC.out.mono ?_
 rintro e w1 ⟨rfl, rfl⟩
 go_wp2_with fail
 go_ret
 exact ⟨rfl, rfl⟩
set_option maxHeartbeats 1000000 in
theorem Ey (w : World) (T L : Nat) (most n : Int) (s : ByteArray) (hs1 : 1 <= s.size) (hs2 : s.size <= 64) (h : jY w T most n L) : Calls Tryz.prog 59 #[.pointer (some ⟨T, 0, none⟩), .string s] w fun e w' => e = .returned (.pointer none) /\ Below w.heap.size w w' := by
 obtain ⟨t0, t1, t2, t3, t4, h0, ⟨_, e0⟩, _⟩ := h
 have c1 : w.cell? ⟨T, 1, none⟩ = some (.pointer (some ⟨t0, 0, none⟩)) := by simp [World.cell?, h0]
 have HC := Lib.hid (xA w t0 n s hs1 hs2 e0)
 clear h0 e0 hs1 hs2
 go_enter Tryz.func59, Tryz.ntmps59
 go_wp2_with (first | (go_at_call 61; go_in) | fail)
 refine HC.out.mono ?_
 rintro e w2 ⟨rfl, hb⟩
 have HB := Lib.hid hb
 clear hb
 go_wp2_with fail
 go_ret
 exact ⟨rfl, HB.out⟩
def Ez (e : TypeId) (xs : List Value) (w : World) (en : Ending) (w' : World) : Prop :=
 ∃ A c, en = .returned (.slice A xs.length c) /\ w'.ownsRow w.heap.size e 1 (.slice A xs.length c) xs.length xs /\ Below w.heap.size w w'
theorem Tryz.I4 : (Tryz.prog.info? 5).map (fun i => (i.zero, i.size, i.bytes)) = some (some (.int .u8 0), 1, 1) := by kernel_rfl
set_option maxHeartbeats 400000 in
theorem pq (v : Value) (xs : List Value) (F : Nat -> Prop) (w : World) (hr : Rd w F v xs) (h1 : ∀ u ∈ xs, u.oneCell' = true) (hb : xs.length <= 140737488355328) :
  Calls Tryz.prog 75 #[v] w (Ez 5 xs w) := by
 obtain ⟨i0, hi, hz0, hz1, hz2⟩ := info_parts Tryz.I4
 have hr' := hr
 obtain ⟨A, n, c, rfl, hl, hnc, hcm, hx⟩ := hr'
 have hnil := fun w => Lib.run_eql_slice_nil (P := Tryz.prog) w 118 5 A n c 0 0 Tryz.underlying118
 have HX := Lib.hid hx
 have HL := Lib.hid hl
 clear hx hl
 rcases A with _ | a
 ·go_enter Tryz.func75, Tryz.ntmps75
  go_wp2
  go_ret
  have : xs = [] := by
   rcases Nat.eq_zero_or_pos n with h0 | h0
   ·exact List.eq_nil_of_length_eq_zero (by rw [HL.out, h0])
   ·obtain ⟨_, _, h, _⟩ := HX.out h0
    cases h
  subst this
  exact ⟨none, 0, rfl, World.ownsRow_nil _ _ _ _, Below.refl _ _⟩
 ·have hr2 : Rd (w.alloc (.cells #[] 5)) F (.slice (some a) n c) xs := hr.below ((Below.refl _ _).alloc (Nat.le_refl _) _)
  have hown0 := World.ownsRow_made (e := 5) (base := w.heap.size) (size := 1) w #[] 0 (Nat.le_refl _) (by simp [maxLen]) rfl
  have c1 : (0 + xs.length) * 1 <= 140737488355328 := by omega
  have c2 : 0 + xs.length <= maxLen := by simp only [maxLen]; omega
  have c3 : w.heap.size <= (w.alloc (.cells #[] 5)).heap.size := by simp
  have C := Lib.hid (And.intro c1 (And.intro c2 c3))
  clear c1 c2 c3
  go_enter Tryz.func75, Tryz.ntmps75
  go_wp2_with (at_builtin; go_loud (refine ou _ rfl _ _ 118 rfl w.heap.size 5 i0 (.int .u8 0) 1 Tryz.underlying118 hi hz0 hz1 hz2 rfl _ 0 [] rfl hown0 F _ xs rfl hr2 h1 C.out.1 C.out.2.1 C.out.2.2 ?_); intro v' w1 hown1 hgrow1 _)
  go_ret
  simp only [Nat.zero_add, List.nil_append] at hown1
  obtain ⟨A', c', hv⟩ := ar hown1
  rw [hv] at hown1 ⊢
  exact ⟨A', c', rfl, hown1, ((Below.refl _ _).alloc (Nat.le_refl _) _).grown hgrow1 (by simp) (fun k hk => by have h2 : some w.heap.size = some k := hk; injection h2 with h2; omega)⟩

end Go.Proofs.YtagemonojdgbdaaGreatDoor
