import Derived.Test.YtagemonojdgbdaaGreatDoorC06
import Derived.Test.YtagemonojdgbdaaGreatDoorC22
import Derived.OwnWalk
import Derived.StillTailTactics
import Derived.Deep.Cut
import Derived.LoopTactic
namespace Go.Proofs.YtagemonojdgbdaaGreatDoor
set_option maxRecDepth 100000
open Go.RowKit
def NibTab (w : World) : Prop := ∀ i : Nat, i < 16 → w.cell? ⟨1, i, none⟩ = some (.int .u32 (nibAt i : Int))
theorem NibTab.below {w w' : World} (h : NibTab w) (hb : Below w.heap.size w w') : NibTab w' := fun i hi => (hb.cell (p := ⟨1, i, none⟩) (World.block_lt_of_cell? _ _ (h i hi))).trans (h i hi)
theorem u32_xor {a b : Nat} (ha : a < 4294967296) (hb : b < 4294967296) : bits BinOp.xor IntKind.u32 (a : Int) (b : Int) = ((a ^^^ b : Nat) : Int) := by
 have h := xor_lt ha hb
 show IntKind.u32.wrap ((BitVec.ofInt 32 (a : Int) ^^^ BitVec.ofInt 32 (b : Int)).toNat : Int) = _
 rw [BitVec.toNat_xor]
 have e1 : (BitVec.ofInt 32 (a : Int)).toNat = a := by simp; omega
 have e2 : (BitVec.ofInt 32 (b : Int)).toNat = b := by simp; omega
 rw [e1, e2]
 unfold IntKind.wrap
 simp [IntKind.bits, IntKind.signed]
 omega
theorem u32_and15 {a : Nat} (ha : a < 4294967296) : bits BinOp.and IntKind.u32 (a : Int) 15 = ((a % 16 : Nat) : Int) := by
 show IntKind.u32.wrap ((BitVec.ofInt 32 (a : Int) &&& BitVec.ofInt 32 15).toNat : Int) = _
 rw [BitVec.toNat_and]
 have e1 : (BitVec.ofInt 32 (a : Int)).toNat = a := by simp; omega
 have e2 : (BitVec.ofInt 32 (15 : Int)).toNat = 15 := by decide
 rw [e1, e2]
 have h15 := Nat.and_two_pow_sub_one_eq_mod a 4
 simp at h15
 rw [h15]
 unfold IntKind.wrap
 simp [IntKind.bits, IntKind.signed]
 omega
def halves : Nat → Nat → Nat
 | 0, r => r
 | n + 1, r => half (halves n r)
theorem halves_lt {r : Nat} (h : r < 4294967296) : ∀ n, halves n r < 4294967296
 | 0 => h
 | n + 1 => half_lt (halves_lt h n)
set_option maxHeartbeats 400000 in
theorem turn_ok (w : World) (F : Nat → Prop) (r : Nat) (A : Option Addr) (n c : Nat) (xs : List UInt8) (ht : NibTab w) (hr : r < 4294967296) (hx : Rd w F (.slice A n c) (xs.map B8)) :
  Calls Tryz.prog 157 #[.int .u32 (r : Int), .slice A n c] w fun e w' => e = .returned (.int .u32 (crcT r xs : Int)) ∧ w = w' := by
 obtain ⟨hn, hm, hat⟩ : xs.length = n ∧ n ≤ maxLen ∧ ∀ j x, xs[j]? = some x → ∃ b o, A = some ⟨b, o, none⟩ ∧ w.cell? ⟨b, o + j, none⟩ = some (.int .u8 (x.toNat : Int)) := by
  obtain ⟨A', n', c', hv, hl, h1, h2, h3⟩ := hx
  injection hv with e1 e2 e3
  subst e1 e2 e3
  simp at hl
  refine ⟨hl, by omega, fun j x hj => ?_⟩
  have hlt := (List.getElem?_eq_some_iff.1 hj).1
  obtain ⟨b, o, e, _, hu⟩ := h3 (by omega)
  exact ⟨b, o, e, hu j (B8 x) (by simp [hj])⟩
 subst hn
 unfold maxLen at hm
 have HT := Lib.hid (And.intro ht (And.intro hat hx))
 clear ht hat hx
 go_enter Tryz.func157, Tryz.ntmps157
 go_wp2_with fail
 go_step3
 go_wp2_with fail
 go_step3
 go_wp2_with fail
 go_loop [0, 10] (fun q i => ∃ k : Nat, k ≤ xs.length ∧ i = .int .i64 (k : Int) ∧ q = .int .u32 (crcT r (xs.take k) : Int)) (fun _ i => xs.length - (intOf i).toNat)
 case atStart => exact ⟨0, Nat.zero_le _, rfl, rfl⟩
 case round =>
  obtain ⟨k, hk, rfl, rfl⟩ := hrel
  have hq := crcT_lt (xs.take k) hr
  by_cases hlt : k < xs.length
  ·obtain ⟨x, hxk⟩ : ∃ x, xs[k]? = some x := ⟨_, List.getElem?_eq_getElem hlt⟩
   obtain ⟨b, o, rfl, hc⟩ := HT.out.2.1 k x hxk
   have hx8 := x.toNat_lt
   have htk : crcT r (xs.take (k + 1)) = crcB (crcT r (xs.take k)) x := by rw [List.take_add_one, hxk]; simp [crcT]
   obtain ⟨q, hqe⟩ : ∃ q, crcT r (xs.take k) = q := ⟨_, rfl⟩
   rw [hqe] at hq htk ⊢
   have hx1 := u32_xor hq (show x.toNat < 4294967296 by omega)
   have HK := Lib.hid (And.intro hxk (And.intro htk hqe))
   clear hxk htk hqe
   go_wp2_with fail
   go_loop [0, 7] (fun z i => ∃ h : Nat, h ≤ 2 ∧ i = .int .i64 (h : Int) ∧ z = .int .u32 (halves h (q ^^^ x.toNat) : Int)) (fun _ i => 2 - (intOf i).toNat)
   case atStart => exact ⟨0, by omega, rfl, rfl⟩
   case round =>
    obtain ⟨h, hh, rfl, rfl⟩ := hrel
    by_cases hlh : h < 2
    ·have hz := halves_lt (xor_lt hq (show x.toNat < 4294967296 by omega)) h
     have hs : halves (h + 1) (q ^^^ x.toNat) = half (halves h (q ^^^ x.toNat)) := rfl
     obtain ⟨z, hze⟩ : ∃ z, halves h (q ^^^ x.toNat) = z := ⟨_, rfl⟩
     rw [hze] at hz hs ⊢
     have ha := u32_and15 hz
     have hcn := HT.out.1 (z % 16) (Nat.mod_lt _ (by decide))
     have hxx := u32_xor (show z / 16 < 4294967296 by omega) (nib_lt (z % 16) (Nat.mod_lt _ (by decide)))
     have HS := Lib.hid (And.intro hs hxx)
     clear hs hze hx1 hxx
     go_wp2_with fail
     go_round
     case rel =>
      refine ⟨h + 1, by omega, by go_num, ?_⟩
      rw [HS.out.1, show ((z : Int) / 16) = ((z / 16 : Nat) : Int) by omega, HS.out.2]
      rfl
     case measure => simp [intOf]; omega
    ·obtain rfl : h = 2 := by omega
     go_wp2_with fail
     go_round
     case rel =>
      refine ⟨k + 1, by omega, by go_num, ?_⟩
      rw [HK.out.2.1]
      rfl
     case measure => simp [intOf]; omega
  ·obtain rfl : k = xs.length := by omega
   rw [List.take_length] at hq ⊢
   go_wp2_with fail
   try rw [Exit.noGoto_ret]
   go_ret
   exact ⟨rfl, rfl⟩
theorem allones {n : Nat} (h : n < 4294967296) : 4294967295 ^^^ n = 4294967295 - n := by
 apply Nat.eq_of_testBit_eq
 intro i
 have h1 := Nat.testBit_two_pow_sub_succ (n := 32) (x := n) h i
 have h2 : (2 : Nat) ^ 32 - (n + 1) = 4294967295 - n := by omega
 rw [h2] at h1
 have h3 := Nat.testBit_two_pow_sub_one 32 i
 have h4 : (2 : Nat) ^ 32 - 1 = 4294967295 := by decide
 rw [h4] at h3
 rw [Nat.testBit_xor, h1, h3]
 by_cases hi : i < 32
 ·simp [hi]
 ·have : n.testBit i = false := Nat.testBit_lt_two_pow (Nat.lt_of_lt_of_le (show n < 2 ^ 32 from h) (Nat.pow_le_pow_right (by decide) (by omega)))
  simp [hi, this]
theorem sum_ok (w : World) (F : Nat → Prop) (A : Option Addr) (n c : Nat) (xs : List UInt8) (ht : NibTab w) (hx : Rd w F (.slice A n c) (xs.map B8)) :
  Calls Tryz.prog 124 #[.slice A n c] w fun e w' => e = .returned (.int .i64 (crc xs : Int)) ∧ w = w' := by
 have hT := turn_ok w F 4294967295 A n c xs ht (by omega) hx
 have hl := crcT_lt xs (r := 4294967295) (by omega)
 have hz0 := u32_xor (a := 4294967295) (by omega) hl
 rw [allones hl] at hz0
 have hz : bits BinOp.xor IntKind.u32 IntKind.u32.max (crcT 4294967295 xs : Int) = (crc xs : Int) := hz0
 have hcl := crc_lt xs
 have hsg : IntKind.u32.signed = false := rfl
 clear hz0 hl
 go_enter Tryz.func124, Tryz.ntmps124
 go_wp2_with fail
 refine hT.mono ?_
 rintro e w1 ⟨rfl, rfl⟩
 go_wp2_with fail
 go_ret
 exact ⟨rfl, rfl⟩
def FreshB (xs : List UInt8) (w : World) (en : Ending) (w' : World) : Prop :=
 ∃ A c, en = .returned (.slice A xs.length c) ∧ w'.ownsRow w.heap.size 5 1 (.slice A xs.length c) xs.length (xs.map B8) ∧ Below w.heap.size w w'
def restOf (k s : Nat) : Nat := s / 256 ^ k
theorem four_take {s : Nat} : ∀ k, k < 4 → (four s).take (k + 1) = (four s).take k ++ [UInt8.ofNat (restOf k s % 256)] := by
 intro k hk
 match k, hk with
 | 0, _ => simp [four, restOf]
 | 1, _ => simp [four, restOf]
 | 2, _ => simp [four, restOf]
 | 3, _ => simp [four, restOf]
theorem i64_and255 {a : Nat} (ha : a < 9223372036854775808) : bits BinOp.and IntKind.i64 (a : Int) 255 = ((a % 256 : Nat) : Int) := by
 show IntKind.i64.wrap ((BitVec.ofInt 64 (a : Int) &&& BitVec.ofInt 64 255).toNat : Int) = _
 rw [BitVec.toNat_and]
 have e1 : (BitVec.ofInt 64 (a : Int)).toNat = a := by simp; omega
 have e2 : (BitVec.ofInt 64 (255 : Int)).toNat = 255 := by decide
 rw [e1, e2]
 have h := Nat.and_two_pow_sub_one_eq_mod a 8
 simp at h
 rw [h]
 unfold IntKind.wrap
 simp [IntKind.bits, IntKind.signed]
 omega
set_option maxHeartbeats 400000 in
theorem seal_ok (w : World) (F : Nat → Prop) (A : Option Addr) (n c : Nat) (xs : List UInt8) (ht : NibTab w) (hx : Rd w F (.slice A n c) (xs.map B8)) (hl : xs.length ≤ 1000000) :
  Calls Tryz.prog 81 #[.slice A n c] w (FreshB (sealB xs) w) := by
 obtain ⟨i0, hi, hz0, hz1, hz2⟩ := info_parts Tryz.info5
 obtain rfl : xs.length = n := by
  obtain ⟨A', n', c', hv, hl, h1, h2, h3⟩ := hx
  injection hv with e1 e2 e3
  simpa [e2] using hl
 have hS := sum_ok w F A xs.length c xs ht hx
 have hcl := crc_lt xs
 obtain ⟨s, hs⟩ : ∃ s, crc xs = s := ⟨_, rfl⟩
 rw [hs] at hS hcl
 have HX := Lib.hid (And.intro hx (And.intro ht hs))
 clear hx ht hs
 go_enter Tryz.func81, Tryz.ntmps81
 go_wp2_with fail
 refine hS.mono ?_
 rintro e w1 ⟨rfl, rfl⟩
 have HI := Lib.hid hi
 clear hi hS
 go_upto_region 3 with (at_make; go_loud (refine wpList_make_own _ rfl _ _ 118 rfl w.heap.size 5 i0 _ 1 Tryz.underlying118 HI.out hz0 hz1 _ _ _ (xs.length + 4) rfl rfl (by push_cast; rfl) (by rw [hz2]; omega) (by unfold maxLen; omega) (Nat.le_refl _) ?_); intro w2 hrow2 hg2)
 have hrow2' := hrow2
 have hx2 : Rd w2 F (.slice A xs.length c) (xs.map B8) := HX.out.1.below ((Only.of_grownBy hg2).below (fun k _ h => by cases h))
 have HR := Lib.hid (And.intro hrow2 (And.intro hg2 hx2))
 clear hrow2 hrow2' hg2 hx2
 go_wp2_with (at_builtin; go_loud (refine wpList_append_rd _ rfl _ _ 118 rfl w.heap.size 5 i0 (.int .u8 0) 1 Tryz.underlying118 HI.out hz0 hz1 hz2 rfl _ 0 [] rfl HR.out.1 F _ (xs.map B8) rfl HR.out.2.2 (B8_one xs) (by simp; omega) (by simp [maxLen]; omega) HR.out.2.1.size ?_); intro v' w1 hown1 hgrow1 _)
 have hbl1 : Below w.heap.size w w1 := ((Only.of_grownBy HR.out.2.1).below (fun k _ h => by cases h)).grown hgrow1 HR.out.2.1.size (fun k hk => by have h2 : some w.heap.size = some k := hk; injection h2 with h2; omega)
 have H1 := Lib.hid (And.intro hown1 hbl1)
 clear hown1 hgrow1 hbl1
 go_loopw [3, 4, 14] (fun z v i wr => ∃ k : Nat, k ≤ 4 ∧ i = .int .i64 (k : Int) ∧ z = .int .i64 (restOf k s : Int) ∧ wr.ownsRow w.heap.size 5 1 v (xs.length + k) ((xs ++ (four s).take k).map B8) ∧ Below w.heap.size w wr) (fun _ _ i _ => 4 - (intOf i).toNat)
 case atStart => exact ⟨0, by omega, rfl, by simp [restOf], by simpa using H1.out.1, H1.out.2⟩
 case round =>
  obtain ⟨k, hk, rfl, rfl, hown, hbl⟩ := hrel
  by_cases hlt : k < 4
  ·have hr1 : restOf k s < 4294967296 := Nat.lt_of_le_of_lt (Nat.div_le_self _ _) hcl
   have hr2 : restOf (k + 1) s = restOf k s / 256 := by unfold restOf; rw [Nat.pow_succ, Nat.div_div_eq_div_mul]
   have hft := four_take (s := s) k hlt
   obtain ⟨q, hq⟩ : ∃ q, restOf k s = q := ⟨_, rfl⟩
   rw [hq] at hr1 hr2 hft ⊢
   have ha := i64_and255 (a := q) (by omega)
   have hown' := hown.alloc (.cells #[.int .u8 ((q : Int) % 256)] 5)
   have hnews := World.news_of_block (heap_alloc_new wr (.cells #[.int .u8 ((q : Int) % 256)] 5))
   have HO := Lib.hid (And.intro hown' (And.intro hbl (And.intro hr2 (And.intro hft (And.intro hq hnews)))))
   clear hown hown' hbl hr2 hft hq hnews
   have hm0 : 0 ≤ (q : Int) % 256 := by omega
   have hm1 : (q : Int) % 256 < 256 := by omega
   go_wp2_with (at_builtin; go_loud (refine wpList_append_lies _ rfl _ _ 118 rfl w.heap.size 5 i0 _ 1 1 Tryz.underlying118 HI.out hz0 hz1 hz2 rfl (by decide) _ (xs.length + k) _ rfl HO.out.1 ⟨wr.heap.size, 0, none⟩ 1 1 [.int .u8 ((q : Int) % 256)] rfl rfl HO.out.2.2.2.2.2 (by simp [Value.oneCell']) (by decide) (by unfold maxLen; omega) (by omega) (by have := HO.out.2.1.size; simp; omega) _ rfl ?_); intro g2 cap w2' hown2 hgrow2 hat2 hlt2)
   go_roundw
   case rel =>
    refine ⟨k + 1, by omega, by go_num, ?_, ?_, ?_⟩
    ·rw [HO.out.2.2.1]; go_num
    ·rw [HO.out.2.2.2.1]
     simpa [B8, Nat.add_assoc] using hown2
    ·exact (HO.out.2.1.alloc HO.out.2.1.size _).grown hgrow2 (by have := HO.out.2.1.size; simp; omega) (fun j hj => (HO.out.1.lt j hj).1)
   case measure => simp [intOf]; omega
  ·obtain rfl : k = 4 := by omega
   have HO := Lib.hid (And.intro hown hbl)
   clear hown hbl
   go_wp2_with fail
   go_ret
   obtain ⟨A', c', hv⟩ := ownsRow_slice HO.out.1
   subst hv
   have h4 : (four s).take 4 = four s := rfl
   have hl4 : (sealB xs).length = xs.length + 4 := seal_len xs
   refine ⟨A', c', by rw [hl4]; rfl, ?_, HO.out.2⟩
   have := HO.out.1
   rw [h4, ← HX.out.2.2] at this
   rw [hl4]
   exact this
end Go.Proofs.YtagemonojdgbdaaGreatDoor
