/- The document's answer's numbers as bytes: ref02.Groups, Uint, Int. -/
import Derived.Test.YtihjcfifakcpgaaGreatDoorSum
import Derived.Test.YtihjcfifakcpgaaGreatDoorFld
import Derived.Test.YtihjcfifakcpgaaGreatDoorPla
import Derived.Test.YtihjcfifakcpgaaGreatDoorParse
namespace Go.Proofs.YtihjcfifakcpgaaGreatDoor
set_option maxRecDepth 100000
open Go.RowKit

theorem leb_two {m q : Nat} (hm : m < 128) (hq : 0 < q) (h : m + 128 * q < 18446744073709551616) : leb (m + 128 * q) = UInt8.ofNat (m + 128) :: leb q := by
  rw [leb_ge (by omega) h]
  congr 2
  · omega
  · omega
set_option maxRecDepth 100000 in
set_option maxHeartbeats 1000000 in
theorem refGroups_ok (w : World) (n : Nat) (hn : n < 18446744073709551616) :
    Calls Tryz.prog 80 #[.int .i64 ((n / 2 : Nat) : Int), .int .i64 ((n % 2 : Nat) : Int)] w (FreshB (leb n) w) := by
  obtain ⟨i0, hi, hz0, hz1, hz2⟩ := info_parts Tryz.info5
  obtain ⟨h, hh⟩ : ∃ h, n / 2 = h := ⟨_, rfl⟩
  obtain ⟨d, hd⟩ : ∃ d, n % 2 = d := ⟨_, rfl⟩
  have b1 : h < 9223372036854775808 := by omega
  have b2 : d < 2 := by omega
  have hn2 : n = 2 * h + d := by omega
  rw [hh, hd]
  have HN := Lib.hid (And.intro hn2 hn)
  have HI := Lib.hid hi
  clear hh hd hn hn2 hi
  go_enter Tryz.func80, Tryz.ntmps80
  go_wp2_with fail
  go_loopw [5, 6, 7] (fun v a r wr => ∃ (pre : List UInt8) (m q : Nat), m < 128 ∧ a = .int .i64 (m : Int) ∧ r = .int .i64 (q : Int) ∧ leb n = pre ++ leb (m + 128 * q) ∧ m + 128 * q ≤ n ∧ wr.ownsRow w.heap.size 5 1 v pre.length (pre.map B8) ∧ Below w.heap.size w wr) (fun _ _ r _ => (intOf r).toNat)
  case atStart =>
    refine ⟨[], h % 64 * 2 + d, h / 64, by omega, by go_num, by go_num, ?_, ?_, World.ownsRow_nil _ _ _ _, Below.refl _ _⟩
    · rw [HN.out.1, List.nil_append]
      congr 1
      omega
    · rw [HN.out.1]; omega
  case round =>
    obtain ⟨pre, m, q, hm, rfl, rfl, hl, hle, hown, hbl⟩ := hrel
    have hp10 : pre.length ≤ 9 := by
      have h1 := leb_length n
      have h2 := leb_pos (m + 128 * q)
      rw [hl] at h1
      simp at h1
      omega
    by_cases hq : 0 < q
    · have hl2 := leb_two hm hq (Nat.lt_of_le_of_lt hle HN.out.2)
      rw [hl2] at hl
      have e1 : Value.int .u8 ((m : Int) + 128) = B8 (UInt8.ofNat (m + 128)) := by simp [B8]; omega
      generalize UInt8.ofNat (m + 128) = y at e1 hl
      have hown' := hown.alloc (.cells #[.int .u8 ((m : Int) + 128)] 5)
      have hnews := World.news_of_block (heap_alloc_new wr (.cells #[.int .u8 ((m : Int) + 128)] 5))
      have HO := Lib.hid (And.intro hown' (And.intro hbl (And.intro hl (And.intro hle (And.intro e1 hnews)))))
      have hqn : q < 9223372036854775808 := by have := HN.out.2; omega
      have hq' : (0 : Int) < (q : Int) := by omega
      clear hown hown' hbl hl hle hnews hl2 e1
      go_wp2_with (at_builtin; go_loud (refine wpList_append_lies _ rfl _ _ 31 rfl w.heap.size 5 i0 _ 1 1 Tryz.underlying31 HI.out hz0 hz1 hz2 rfl (by decide) _ pre.length _ rfl HO.out.1 ⟨wr.heap.size, 0, none⟩ 1 1 [.int .u8 ((m : Int) + 128)] rfl rfl HO.out.2.2.2.2.2 (by simp [Value.oneCell']) (by decide) (by unfold maxLen; omega) (by omega) (by have := HO.out.2.1.size; simp; omega) _ rfl ?_); intro g2 cap w2' hown2 hgrow2 hat2 hlt2)
      go_roundw
      case rel =>
        refine ⟨pre ++ [y], q % 128, q / 128, by omega, by go_num, by go_num, ?_, ?_, ?_, ?_⟩
        · rw [HO.out.2.2.1, show q % 128 + 128 * (q / 128) = q by omega]; simp
        · have := HO.out.2.2.2.1; omega
        · rw [HO.out.2.2.2.2.1] at hown2
          simpa using hown2
        · exact (HO.out.2.1.alloc HO.out.2.1.size _).grown hgrow2 (by have := HO.out.2.1.size; simp; omega) (fun j hj => (HO.out.1.lt j hj).1)
      case measure => simp [intOf]; omega
    · obtain rfl : q = 0 := by omega
      have hl2 : leb m = [UInt8.ofNat m] := leb_lt hm
      rw [Nat.mul_zero, Nat.add_zero, hl2] at hl
      have e1 : Value.int .u8 (m : Int) = B8 (UInt8.ofNat m) := by simp [B8]; omega
      generalize UInt8.ofNat m = y at e1 hl
      have hown' := hown.alloc (.cells #[.int .u8 (m : Int)] 5)
      have hnews := World.news_of_block (heap_alloc_new wr (.cells #[.int .u8 (m : Int)] 5))
      have HO := Lib.hid (And.intro hown' (And.intro hbl (And.intro hl (And.intro hle (And.intro e1 hnews)))))
      clear hown hown' hbl hl hle hnews hl2 e1
      go_wp2_with (at_builtin; go_loud (refine wpList_append_lies _ rfl _ _ 31 rfl w.heap.size 5 i0 _ 1 1 Tryz.underlying31 HI.out hz0 hz1 hz2 rfl (by decide) _ pre.length _ rfl HO.out.1 ⟨wr.heap.size, 0, none⟩ 1 1 [.int .u8 (m : Int)] rfl rfl HO.out.2.2.2.2.2 (by simp [Value.oneCell']) (by decide) (by unfold maxLen; omega) (by omega) (by have := HO.out.2.1.size; simp; omega) _ rfl ?_); intro g2 cap w2' hown2 hgrow2 hat2 hlt2)
      go_ret
      rw [HO.out.2.2.2.2.1] at hown2
      have hbl2 := (HO.out.2.1.alloc HO.out.2.1.size (.cells #[.int .u8 (m : Int)] 5)).grown hgrow2 (by have := HO.out.2.1.size; simp; omega) (fun j hj => (HO.out.1.lt j hj).1)
      have hln : (leb n).length = pre.length + 1 := by rw [HO.out.2.2.1]; simp
      refine ⟨some ⟨g2, 0, none⟩, cap, ?_, ?_, hbl2⟩
      · rw [hln]; rfl
      · rw [hln, HO.out.2.2.1]; simpa using hown2
/-- ref02.Uint. -/
theorem refUint_ok (w : World) (n : Nat) (hn : n < 9223372036854775808) : Calls Tryz.prog 50 #[.int .i64 (n : Int)] w (FreshB (leb n) w) := by
  have hc := refGroups_ok w n (by omega)
  have e1 : (((n / 2 : Nat) : Int)) = (n : Int) / 2 := by omega
  have e2 : (((n % 2 : Nat) : Int)) = (n : Int) % 2 := by omega
  rw [e1, e2] at hc
  have HC := Lib.hid hc
  clear hc e1 e2
  go_enter Tryz.func50, Tryz.ntmps50
  go_wp2_with fail
  refine HC.out.mono ?_
  rintro e w1 ⟨A, c, rfl, hO, hb⟩
  have HO := Lib.hid (And.intro hO hb)
  clear hO hb
  go_wp2_with fail
  go_ret
  exact ⟨_, _, rfl, HO.out⟩
/-- ref02.Int. -/
theorem refInt_ok (w : World) (n : Int) (h1 : -9223372036854775808 ≤ n) (h2 : n ≤ 9223372036854775807) : Calls Tryz.prog 51 #[.int .i64 n] w (FreshB (leb (zig n)) w) := by
  have hc := refGroups_ok w (zig n) (zig_lt h1 h2)
  by_cases hn : n < 0
  · have e1 : (((zig n / 2 : Nat) : Int)) = -1 - n := by unfold zig; rw [if_pos hn]; omega
    have e2 : (((zig n % 2 : Nat) : Int)) = 1 := by unfold zig; rw [if_pos hn]; omega
    rw [e1, e2] at hc
    have HC := Lib.hid hc
    clear hc e1 e2
    go_enter Tryz.func51, Tryz.ntmps51
    go_wp2_with fail
    refine HC.out.mono ?_
    rintro e w1 ⟨A, c, rfl, hO, hb⟩
    have HO := Lib.hid (And.intro hO hb)
    clear hO hb
    go_wp2_with fail
    go_ret
    exact ⟨_, _, rfl, HO.out⟩
  · have e1 : (((zig n / 2 : Nat) : Int)) = n := by unfold zig; rw [if_neg hn]; omega
    have e2 : (((zig n % 2 : Nat) : Int)) = 0 := by unfold zig; rw [if_neg hn]; omega
    rw [e1, e2] at hc
    have HC := Lib.hid hc
    clear hc e1 e2
    go_enter Tryz.func51, Tryz.ntmps51
    go_wp2_with fail
    refine HC.out.mono ?_
    rintro e w1 ⟨A, c, rfl, hO, hb⟩
    have HO := Lib.hid (And.intro hO hb)
    clear hO hb
    go_wp2_with fail
    go_ret
    exact ⟨_, _, rfl, HO.out⟩
end Go.Proofs.YtihjcfifakcpgaaGreatDoor

/- The document's answer's sums: ref01.xor, Sum, Four, ref13.Seal. -/
namespace Go.Proofs.YtihjcfifakcpgaaGreatDoor
set_option maxRecDepth 100000
open Go.RowKit

theorem xor_step (a b : Nat) : a ^^^ b = 2 * (a / 2 ^^^ b / 2) + (if a % 2 = b % 2 then 0 else 1) := by
  have h1 : (a ^^^ b) / 2 = a / 2 ^^^ b / 2 := by simpa using Nat.xor_div_two_pow (a := a) (b := b) (n := 1)
  have h2 : (a ^^^ b) % 2 = (a % 2) ^^^ (b % 2) := by simpa using Nat.xor_mod_two_pow (a := a) (b := b) (n := 1)
  have h3 : (a ^^^ b) % 2 = if a % 2 = b % 2 then 0 else 1 := by
    rw [h2]
    rcases Nat.mod_two_eq_zero_or_one a with ha | ha <;> rcases Nat.mod_two_eq_zero_or_one b with hb | hb <;> rw [ha, hb] <;> decide
  rw [← h1, ← h3]
  omega
set_option maxRecDepth 100000 in
set_option maxHeartbeats 400000 in
theorem refXor_ok (w : World) (a b : Nat) (ha : a < 4294967296) (hb : b < 4294967296) :
    Calls Tryz.prog 79 #[.int .i64 (a : Int), .int .i64 (b : Int)] w fun e w' => e = .returned (.int .i64 ((a ^^^ b : Nat) : Int)) ∧ w' = w := by
  have hx := xor_lt ha hb
  obtain ⟨t, ht⟩ : ∃ t, a ^^^ b = t := ⟨_, rfl⟩
  rw [ht] at hx ⊢
  have HT := Lib.hid (And.intro ht (And.intro ha hb))
  clear ht ha hb
  go_enter Tryz.func79, Tryz.ntmps79
  go_wp2_with fail
  go_loopw [0, 1, 5, 6] (fun x y z p wr => ∃ (c d o q : Nat), x = .int .i64 (c : Int) ∧ y = .int .i64 (d : Int) ∧ z = .int .i64 (o : Int) ∧ p = .int .i64 (q : Int) ∧ o + q * (c ^^^ d) = t ∧ q ≤ 8589934592 ∧ q * c ≤ a ∧ q * d ≤ b ∧ 1 ≤ q ∧ wr = w) (fun x y _ _ _ => (intOf x).toNat + (intOf y).toNat)
  case atStart => exact ⟨a, b, 0, 1, rfl, rfl, rfl, rfl, by rw [HT.out.1]; omega, by omega, by omega, by omega, by omega, rfl⟩
  case round =>
    obtain ⟨c, d, o, q, rfl, rfl, rfl, rfl, hs, hq, hc, hd, hq1, hwr⟩ := hrel
    subst hwr
    have hc2 : c ≤ a := Nat.le_trans (Nat.le_mul_of_pos_left c hq1) hc
    have hd2 : d ≤ b := Nat.le_trans (Nat.le_mul_of_pos_left d hq1) hd
    have ha := HT.out.2.1
    have hb := HT.out.2.2
    have hot : o ≤ t := by rw [← hs]; omega
    by_cases hz : c = 0 ∧ d = 0
    · obtain ⟨rfl, rfl⟩ := hz
      have e : o = t := by simpa using hs
      subst e
      have HE := Lib.hid hx
      clear hs hc hd
      go_wp2_with fail
      go_ret
      exact ⟨rfl, rfl⟩
    · have hstep := xor_step c d
      have hq32 : q < 4294967296 := by
        rcases Nat.eq_zero_or_pos c with h0 | h0
        · have hd0 : 0 < d := by omega
          exact Nat.lt_of_le_of_lt (Nat.le_trans (Nat.le_mul_of_pos_right q hd0) hd) hb
        · exact Nat.lt_of_le_of_lt (Nat.le_trans (Nat.le_mul_of_pos_right q h0) hc) ha
      have hc' : q * 2 * (c / 2) ≤ a := Nat.le_trans (by rw [Nat.mul_assoc]; exact Nat.mul_le_mul_left q (by omega)) hc
      have hd' : q * 2 * (d / 2) ≤ b := Nat.le_trans (by rw [Nat.mul_assoc]; exact Nat.mul_le_mul_left q (by omega)) hd
      have HH := Lib.hid (And.intro hs (And.intro hstep (And.intro hc' hd')))
      clear hs hstep hc' hd' hc hd
      by_cases hm : c % 2 = d % 2
      · have hm' : ((c : Int) % 2 != (d : Int) % 2) = false := by simp; omega
        have HM := Lib.hid hm
        clear hm
        by_cases hc0 : 0 < c
        · have hc0' : (0 : Int) < (c : Int) := by omega
          go_wp2_with fail
          go_roundw
          case rel =>
            refine ⟨c / 2, d / 2, o, q * 2, by go_num, by go_num, rfl, by go_num, ?_, by omega, HH.out.2.2.1, HH.out.2.2.2, by omega, trivial⟩
            have := HH.out.1
            rw [HH.out.2.1, if_pos HM.out, Nat.add_zero, ← Nat.mul_assoc] at this
            exact this
          case measure => simp [intOf]; omega
        · obtain rfl : c = 0 := by omega
          have hd0' : (0 : Int) < (d : Int) := by omega
          go_wp2_with fail
          go_roundw
          case rel =>
            refine ⟨0 / 2, d / 2, o, q * 2, by go_num, by go_num, rfl, by go_num, ?_, by omega, HH.out.2.2.1, HH.out.2.2.2, by omega, trivial⟩
            have := HH.out.1
            rw [HH.out.2.1, if_pos HM.out, Nat.add_zero, ← Nat.mul_assoc] at this
            exact this
          case measure => simp [intOf]; omega
      · have hm' : ((c : Int) % 2 != (d : Int) % 2) = true := by simp; omega
        have HM := Lib.hid hm
        clear hm
        by_cases hc0 : 0 < c
        · have hc0' : (0 : Int) < (c : Int) := by omega
          go_wp2_with fail
          go_roundw
          case rel =>
            refine ⟨c / 2, d / 2, o + q, q * 2, by go_num, by go_num, by go_num, by go_num, ?_, by omega, HH.out.2.2.1, HH.out.2.2.2, by omega, trivial⟩
            have := HH.out.1
            rw [HH.out.2.1, if_neg HM.out, Nat.mul_add, ← Nat.mul_assoc] at this
            omega
          case measure => simp [intOf]; omega
        · obtain rfl : c = 0 := by omega
          have hd0' : (0 : Int) < (d : Int) := by omega
          go_wp2_with fail
          go_roundw
          case rel =>
            refine ⟨0 / 2, d / 2, o + q, q * 2, by go_num, by go_num, by go_num, by go_num, ?_, by omega, HH.out.2.2.1, HH.out.2.2.2, by omega, trivial⟩
            have := HH.out.1
            rw [HH.out.2.1, if_neg HM.out, Nat.mul_add, ← Nat.mul_assoc] at this
            omega
          case measure => simp [intOf]; omega
theorem bitT_lt {r : Nat} (h : r < 4294967296) : bitT r < 4294967296 := by
  unfold bitT
  split
  · exact xor_lt (by omega) (by decide)
  · omega
theorem bitsN_lt : ∀ (k : Nat) {r : Nat}, r < 4294967296 → bitsN k r < 4294967296
  | 0, _, h => h
  | k + 1, _, h => bitsN_lt k (bitT_lt h)
theorem crcT_snoc {xs : List UInt8} {k : Nat} {x : UInt8} (r : Nat) (h : xs[k]? = some x) : crcT r (xs.take (k + 1)) = crcB (crcT r (xs.take k)) x := by
  rw [List.take_add_one, h]
  simp [crcT]
set_option maxRecDepth 100000 in
set_option maxHeartbeats 400000 in
theorem refSum_ok (w : World) (F : Nat → Prop) (v : Value) (xs : List UInt8) (hx : Rd w F v (xs.map B8)) :
    Calls Tryz.prog 49 #[.int .i64 0, v] w fun e w' => e = .returned (.int .i64 (crc xs : Int)) ∧ w' = w := by
  obtain ⟨A, n, c, rfl, hl, hc, hm, hx⟩ := hx
  simp only [List.length_map] at hl
  subst hl
  unfold maxLen at hm
  have HX := Lib.hid hx
  clear hx
  go_enter Tryz.func49, Tryz.ntmps49
  go_wp2_with fail
  go_loopw [5, 6] (fun z i wr => ∃ (k r : Nat), k ≤ xs.length ∧ i = .int .i64 (k : Int) ∧ z = .int .i64 (r : Int) ∧ r = crcT 4294967295 (xs.take k) ∧ wr = w) (fun _ i _ => xs.length - (intOf i).toNat)
  case atStart => exact ⟨0, 4294967295, by omega, rfl, rfl, rfl, rfl⟩
  case round =>
    obtain ⟨k, r, hk, rfl, rfl, hr, hwr⟩ := hrel
    subst hwr
    have hr32 : r < 4294967296 := by rw [hr]; exact crcT_lt _ (by decide)
    have HR := Lib.hid hr
    clear hr
    by_cases hlt : k < xs.length
    · obtain ⟨x, hxk⟩ : ∃ x, xs[k]? = some x := ⟨_, List.getElem?_eq_getElem hlt⟩
      obtain ⟨b, o, rfl, _, hu⟩ := HX.out (by omega)
      have c1 : wr.cell? ⟨b, o + k, none⟩ = some (.int .u8 (x.toNat : Int)) := hu k (B8 x) (by simp [hxk])
      have i1 : (0 : Int) ≤ (k : Int) := by omega
      have i2 : (k : Int) < (xs.length : Int) := by omega
      have hx8 : x.toNat < 256 := x.toNat_lt
      have HK := Lib.hid hxk
      clear hu HX hxk
      go_wp2_with fail
      refine (refXor_ok wr r x.toNat hr32 (by omega)).mono ?_
      rintro e w1 ⟨rfl, rfl⟩
      have hq : r ^^^ x.toNat < 4294967296 := xor_lt hr32 (by omega)
      have h8 := bits8 r x
      generalize r ^^^ x.toNat = q at hq h8 ⊢
      have H8 := Lib.hid h8
      clear h8
      go_wp2_with fail
      go_loopw [5, 7, 8] (fun z j _ wr => ∃ (m s : Nat), m ≤ 8 ∧ j = .int .i64 (m : Int) ∧ z = .int .i64 (s : Int) ∧ s = bitsN m q ∧ wr = w1) (fun _ j _ _ => 8 - (intOf j).toNat)
      case atStart => exact ⟨0, q, by omega, rfl, rfl, rfl, rfl⟩
      case round =>
        obtain ⟨m, s, hm8, rfl, rfl, hs, hwr⟩ := hrel
        subst hwr
        have hs32 : s < 4294967296 := by rw [hs]; exact bitsN_lt _ hq
        have hnext := bitsN_succ m q
        rw [← hs] at hnext
        have HS := Lib.hid hnext
        have HS0 := Lib.hid hs
        clear hnext hs
        by_cases hml : m < 8
        · by_cases ho : s % 2 = 1
          · have ho' : ((s : Int) % 2 == 1) = true := by simp; omega
            have hv : bitT s = s / 2 ^^^ 3988292384 := by unfold bitT; rw [if_pos ho]
            have HV := Lib.hid hv
            have hcall := refXor_ok wr (s / 2) 3988292384 (by omega) (by decide)
            have e1 : (((s / 2 : Nat) : Int)) = (s : Int) / 2 := by omega
            rw [e1] at hcall
            have HC := Lib.hid hcall
            clear hv ho hcall e1
            go_wp2_with fail
            refine HC.out.mono ?_
            rintro e w2 ⟨rfl, rfl⟩
            go_wp2_with fail
            go_roundw
            case rel => exact ⟨m + 1, _, by omega, by go_num, rfl, by rw [HS.out, HV.out], trivial⟩
            case measure => simp [intOf]; omega
          · have ho' : ((s : Int) % 2 == 1) = false := by simp; omega
            have hv : bitT s = s / 2 := by unfold bitT; rw [if_neg ho]
            have HV := Lib.hid hv
            clear hv ho
            go_wp2_with fail
            go_roundw
            case rel => exact ⟨m + 1, s / 2, by omega, by go_num, by go_num, by rw [HS.out, HV.out], trivial⟩
            case measure => simp [intOf]; omega
        · obtain rfl : m = 8 := by omega
          go_wp2_with fail
          go_roundw
          case rel => exact ⟨k + 1, s, by omega, by go_num, rfl, by rw [crcT_snoc _ HK.out, ← HR.out, HS0.out, H8.out], trivial⟩
          case measure => simp [intOf]; omega
    · obtain rfl : k = xs.length := by omega
      have HE := Lib.hid (show (crc xs : Int) = 4294967295 - (r : Int) by unfold crc; have h9 := HR.out; rw [List.take_length] at h9; rw [← h9]; omega)
      go_wp2_with fail
      go_ret
      exact ⟨by rw [HE.out]; rfl, rfl⟩
theorem byte_val (m : Nat) : Value.int .u8 ((m : Int) % 256) = B8 (UInt8.ofNat (m % 256)) := by
  simp [B8]
theorem bytes_block {w : World} {g : Nat} {cs : Array Value} {t : TypeId} {xs : List UInt8} (h : w.heap[g]? = some (.cells cs t (0, 0))) (hc : cs = (xs.map B8).toArray) (hl : xs.length ≤ maxLen) : Rd w (fun k => k = g) (.slice (some ⟨g, 0, none⟩) xs.length xs.length) (xs.map B8) := by
  refine ⟨_, _, _, rfl, by simp, Nat.le_refl _, hl, fun _ => ⟨g, 0, rfl, rfl, fun j u hj => ?_⟩⟩
  subst hc
  simp only [Nat.zero_add, World.cell?, h]
  simpa using hj
set_option maxRecDepth 100000 in
theorem refFour_ok (w : World) (s : Nat) (hs : s < 4294967296) :
    Calls Tryz.prog 48 #[.int .i64 (s : Int)] w fun e w' => ∃ A, e = .returned (.slice A 4 4) ∧ Rd w' (fun k => w.heap.size ≤ k) (.slice A 4 4) ((four s).map B8) ∧ Below w.heap.size w w' := by
  have e0 := byte_val s
  have e1 := byte_val (s / 256)
  have e2 := byte_val (s / 65536)
  have e3 := byte_val (s / 16777216)
  have hr := bytes_block (xs := four s) (heap_alloc_new w (.cells ((four s).map B8).toArray 5)) rfl (by simp [four, maxLen])
  have HR := Lib.hid (hr.mono (G := fun k => w.heap.size ≤ k) (fun k hk => Nat.le_of_eq hk.symm))
  have HE := Lib.hid (And.intro e0 (And.intro e1 (And.intro e2 e3)))
  clear e0 e1 e2 e3 hr
  go_enter Tryz.func48, Tryz.ntmps48
  go_wp2_with fail
  go_ret
  have hv : (#[.int .u8 ((s : Int) % 256), .int .u8 ((s : Int) / 256 % 256), .int .u8 ((s : Int) / 65536 % 256), .int .u8 ((s : Int) / 16777216 % 256)] : Array Value) = ((four s).map B8).toArray := by
    obtain ⟨e0, e1, e2, e3⟩ := HE.out
    simp only [four, List.map_cons, List.map_nil]
    rw [← e0, ← e1, ← e2, ← e3]
    rfl
  refine ⟨some ⟨w.heap.size, 0, none⟩, rfl, ?_, ?_⟩
  · rw [hv]; exact HR.out
  · exact (Below.refl _ _).alloc (Nat.le_refl _) _
theorem rd_len {w : World} {F : Nat → Prop} {v : Value} {xs : List UInt8} (h : Rd w F v (xs.map B8)) : ∃ A c, v = .slice A xs.length c ∧ xs.length ≤ c ∧ c ≤ maxLen := by
  obtain ⟨A, n, c, rfl, hl, hc, hm, _⟩ := h
  simp at hl
  subst hl
  exact ⟨A, c, rfl, hc, hm⟩
set_option maxRecDepth 100000 in
set_option maxHeartbeats 400000 in
theorem refSeal_ok (w : World) (F : Nat → Prop) (v : Value) (xs : List UInt8) (hx : Rd w F v (xs.map B8)) (hl : xs.length ≤ 1000000) :
    Calls Tryz.prog 16 #[v] w (FreshB (sealB xs) w) := by
  obtain ⟨i0, hi, hz0, hz1, hz2⟩ := info_parts Tryz.info5
  obtain ⟨A, c, rfl, hc, hm⟩ := rd_len hx
  unfold maxLen at hm
  have HX := Lib.hid hx
  have HI := Lib.hid hi
  clear hx hi
  go_enter Tryz.func16, Tryz.ntmps16
  go_wp2_with (at_builtin; go_loud (refine wpList_append_rd _ rfl _ _ 31 rfl w.heap.size 5 i0 (.int .u8 0) 1 Tryz.underlying31 HI.out hz0 hz1 hz2 rfl _ 0 [] rfl (World.ownsRow_nil _ _ _ _) F _ (xs.map B8) rfl HX.out (B8_one xs) (by simp; omega) (by simp [maxLen]; omega) (Nat.le_refl _) ?_); intro v' w1 hown1 hgrow1 _)
  have hbl1 : Below w.heap.size w w1 := (Below.refl _ _).grown hgrow1 (Nat.le_refl _) (fun k hk => by cases hk)
  have H1 := Lib.hid (And.intro hown1 hbl1)
  clear hown1 hgrow1 hbl1
  refine (refSum_ok w1 F _ xs (HX.out.below H1.out.2)).mono ?_
  rintro e w2 ⟨rfl, rfl⟩
  have hcl := crc_lt xs
  obtain ⟨s, hs⟩ : ∃ s, crc xs = s := ⟨_, rfl⟩
  rw [hs] at hcl ⊢
  have HS := Lib.hid hs
  clear hs
  go_wp2_with fail
  refine (refFour_ok w2 s hcl).mono ?_
  rintro e w3 ⟨A3, rfl, hr3, hb3⟩
  have hown3 := own_below H1.out.1 hb3
  have hbl3 := H1.out.2.trans (hb3.mono H1.out.2.size)
  have H3 := Lib.hid (And.intro hown3 (And.intro hbl3 hr3))
  clear hown3 hbl3 hr3 hb3
  go_wp2_with (at_builtin; go_loud (refine wpList_append_rd _ rfl _ _ 31 rfl w.heap.size 5 i0 (.int .u8 0) 1 Tryz.underlying31 HI.out hz0 hz1 hz2 rfl _ (0 + (xs.map B8).length) _ rfl H3.out.1 _ _ ((four s).map B8) rfl H3.out.2.2 (B8_one _) (by simp [four]; omega) (by simp [maxLen, four]; omega) H3.out.2.1.size ?_); intro v4 w4 hown4 hgrow4 _)
  go_ret
  have hbl4 := H3.out.2.1.grown hgrow4 H3.out.2.1.size (fun k hk => (H3.out.1.lt k hk).1)
  obtain ⟨A4, c4, rfl⟩ := ownsRow_slice hown4
  have hln : (sealB xs).length = 0 + (xs.map B8).length + ((four s).map B8).length := by rw [seal_len]; simp [four]
  refine ⟨A4, c4, ?_, ?_, hbl4⟩
  · rw [hln]; rfl
  · rw [hln]
    have e : (sealB xs).map B8 = [] ++ xs.map B8 ++ (four s).map B8 := by rw [sealB, HS.out]; simp
    rw [e]
    exact hown4
end Go.Proofs.YtihjcfifakcpgaaGreatDoor

/- The document's answer's texts, and how it reads a number: ref02.Text, same, Read. -/
namespace Go.Proofs.YtihjcfifakcpgaaGreatDoor
set_option maxRecDepth 100000
open Go.RowKit

set_option maxRecDepth 100000 in
set_option maxHeartbeats 400000 in
theorem refText_ok (w : World) (s : List UInt8) (hs : s.length ≤ 1000000) :
    Calls Tryz.prog 52 #[.string ⟨s.toArray⟩] w (FreshB (leb s.length ++ s) w) := by
  obtain ⟨i0, hi, hz0, hz1, hz2⟩ := info_parts Tryz.info5
  have HI := Lib.hid hi
  clear hi
  have hsz : (⟨s.toArray⟩ : ByteArray).size = s.length := rfl
  have h10 := leb_length s.length
  obtain ⟨ls, hls⟩ : ∃ l, leb s.length = l := ⟨_, rfl⟩
  rw [hls] at h10 ⊢
  have HLS := Lib.hid hls
  clear hls
  go_enter Tryz.func52, Tryz.ntmps52
  go_wp2_with fail
  refine (refUint_ok w s.length (by omega)).mono ?_
  rw [HLS.out]
  rintro e w1 ⟨A1, c1, rfl, hO1, hb1⟩
  have H1 := Lib.hid (And.intro (Rd.of_own hO1 (F := fun _ => True) (fun _ _ => trivial)) hb1)
  clear hO1 hb1
  have hcv := fun W : World => Lib.run_convert_string_bytes (P := Tryz.prog) W 9 31 5 ⟨s.toArray⟩ Tryz.underlying9 Tryz.underlying31 Tryz.underlying5
  go_upto_region 3 with (at_builtin; go_loud (refine wpList_append_rd _ rfl _ _ 31 rfl w.heap.size 5 i0 (.int .u8 0) 1 Tryz.underlying31 HI.out hz0 hz1 hz2 rfl _ 0 [] rfl (World.ownsRow_nil _ _ _ _) _ _ (ls.map B8) rfl H1.out.1 (B8_one ls) (by simp; omega) (by simp [maxLen]; omega) H1.out.2.size ?_); intro v' w2 hown1 hgrow1 _)
  have hbl1 : Below w.heap.size w w2 := H1.out.2.grown hgrow1 H1.out.2.size (fun k hk => by cases hk)
  have hblb := below_bytes w2 5 ⟨s.toArray⟩
  have hrdb := rd_bytes w2 5 s (by omega)
  have hown1' := own_below hown1 hblb
  have hbl2 := hbl1.trans (hblb.mono hbl1.size)
  have H2 := Lib.hid (And.intro hown1' (And.intro hbl2 hrdb))
  clear hown1 hgrow1 hbl1 hblb hrdb hown1' hbl2
  go_wp2_with (at_builtin; go_loud (refine wpList_append_rd _ rfl _ _ 31 rfl w.heap.size 5 i0 (.int .u8 0) 1 Tryz.underlying31 HI.out hz0 hz1 hz2 rfl _ (0 + (ls.map B8).length) _ rfl H2.out.1 _ _ (s.map B8) rfl H2.out.2.2 (B8_one _) (by simp; omega) (by simp [maxLen]; omega) H2.out.2.1.size ?_); intro v4 w4 hown4 hgrow4 _)
  go_ret
  have hbl4 := H2.out.2.1.grown hgrow4 H2.out.2.1.size (fun k hk => (H2.out.1.lt k hk).1)
  obtain ⟨A4, c4, rfl⟩ := ownsRow_slice hown4
  have hln : (ls ++ s).length = 0 + (ls.map B8).length + (s.map B8).length := by simp
  refine ⟨A4, c4, ?_, ?_, hbl4⟩
  · rw [hln]; rfl
  · rw [hln, List.map_append]
    exact hown4

set_option maxRecDepth 100000 in
set_option maxHeartbeats 400000 in
/-- Do bytes begin with others? -/
theorem refSame_ok (w : World) (F G : Nat → Prop) (va vb : Value) (bs xs : List UInt8) (ha : Rd w F va (bs.map B8)) (hb : Rd w G vb (xs.map B8)) :
    Calls Tryz.prog 114 #[va, vb] w (BoolP (∃ r, bs = xs ++ r) w) := by
  obtain ⟨A, n, c, rfl, hl, hc, hm, hx⟩ := ha
  obtain ⟨A', n', c', rfl, hl', hc', hm', hx'⟩ := hb
  simp only [List.length_map] at hl hl'
  subst hl hl'
  unfold maxLen at hm hm'
  have HX := Lib.hid hx
  have HX' := Lib.hid hx'
  clear hx hx'
  by_cases hlen : xs.length ≤ bs.length
  · have hlen' : ¬ (bs.length : Int) < (xs.length : Int) := by omega
    go_enter Tryz.func114, Tryz.ntmps114
    go_wp2_with fail
    go_loopw [5] (fun i wr => ∃ k : Nat, k ≤ xs.length ∧ i = .int .i64 (k : Int) ∧ bs.take k = xs.take k ∧ ∃ m, wr = w.drewN m) (fun i _ => xs.length - (intOf i).toNat)
    case atStart => exact ⟨0, Nat.zero_le _, rfl, rfl, 0, rfl⟩
    case round =>
      obtain ⟨k, hk, rfl, heq, m, rfl⟩ := hrel
      have HE := Lib.hid heq
      clear heq
      by_cases hlt : k < xs.length
      · obtain ⟨x, hxk⟩ : ∃ x, bs[k]? = some x := ⟨_, List.getElem?_eq_getElem (by omega)⟩
        obtain ⟨y, hyk⟩ : ∃ y, xs[k]? = some y := ⟨_, List.getElem?_eq_getElem hlt⟩
        obtain ⟨b, o, rfl, _, hu⟩ := HX.out (by omega)
        obtain ⟨b', o', rfl, _, hu'⟩ := HX'.out (by omega)
        have c1 : w.cell? ⟨b, o + k, none⟩ = some (.int .u8 (x.toNat : Int)) := hu k (B8 x) (by simp [hxk])
        have c2 : w.cell? ⟨b', o' + k, none⟩ = some (.int .u8 (y.toNat : Int)) := hu' k (B8 y) (by simp [hyk])
        have i1 : (0 : Int) ≤ (k : Int) := by omega
        have i2 : (k : Int) < (xs.length : Int) := by omega
        have i3 : (k : Int) < (bs.length : Int) := by omega
        have HK := Lib.hid (And.intro hxk hyk)
        clear hu hu' HX HX' hxk hyk
        go_wp2_with fail
        by_cases hxy : x = y
        · subst hxy
          go_quiet (fail)
          go_wp2_with fail
          go_roundw
          case rel => exact ⟨k + 1, by omega, by go_num, by rw [List.take_add_one, List.take_add_one, HK.out.1, HK.out.2, HE.out], _, rfl⟩
          case measure => simp [intOf]; omega
        · have hne : ((x.toNat : Int) != (y.toNat : Int)) = true := by
            have : x.toNat ≠ y.toNat := fun h => hxy (UInt8.toNat_inj.1 h)
            simp; omega
          have HN := Lib.hid hxy
          clear hxy
          go_quiet (fail)
          go_wp2_with fail
          go_ret
          refine BoolP.no (fun h => HN.out ?_) (below_drewN (below_drewN (Below.refl _ _) _) _)
          obtain ⟨r, h⟩ := h
          have h1 := HK.out.1
          rw [h, List.getElem?_append_left hlt, HK.out.2] at h1
          injection h1 with h1
          exact h1.symm
      · obtain rfl : k = xs.length := by omega
        go_wp2_with fail
        go_ret
        refine BoolP.yes ?_ (below_drewN (Below.refl _ _) _)
        have := HE.out
        rw [List.take_length] at this
        exact ⟨bs.drop xs.length, (List.take_append_drop xs.length bs).symm.trans (by rw [this])⟩
  · have hlen' : (bs.length : Int) < (xs.length : Int) := by omega
    have HL := Lib.hid hlen
    clear hlen
    go_enter Tryz.func114, Tryz.ntmps114
    go_wp2_with fail
    go_ret
    exact BoolP.no (fun ⟨r, h⟩ => HL.out (by rw [h]; simp)) (Below.refl _ _)
end Go.Proofs.YtihjcfifakcpgaaGreatDoor

/- How the document's answer reads a number: ref02.Read. -/
namespace Go.Proofs.YtihjcfifakcpgaaGreatDoor
set_option maxRecDepth 100000
open Go.RowKit

theorem blk3 {w : World} {B : Nat} {a0 a1 a2 : Value} {t : TypeId} (h : w.heap[B]? = some (.cells #[a0, a1, a2] t (0, 0))) :
    (w.cell? ⟨B, 0, none⟩ = some a0 ∧ w.cell? ⟨B, 1, none⟩ = some a1 ∧ w.cell? ⟨B, 2, none⟩ = some a2) ∧ w.frozen? ⟨B, 0, none⟩ = false ∧ w.frozen? ⟨B, 1, none⟩ = false ∧ w.frozen? ⟨B, 2, none⟩ = false := by
  refine ⟨⟨?_, ?_, ?_⟩, ?_, ?_, ?_⟩ <;> simp [World.cell?, World.frozen?, h]
theorem put3 {w : World} {B : Nat} {a0 a1 a2 : Value} {t : TypeId} (h : w.heap[B]? = some (.cells #[a0, a1, a2] t (0, 0))) (v0 v1 v2 : Value) :
    (((w.setCell ⟨B, 0, none⟩ v0).setCell ⟨B, 1, none⟩ v1).setCell ⟨B, 2, none⟩ v2).heap[B]? = some (.cells #[v0, v1, v2] t (0, 0)) := by
  have h0 := heap_setCell_same w B 0 _ t v0 h
  have h1 := heap_setCell_same _ B 1 _ t v1 h0
  have h2 := heap_setCell_same _ B 2 _ t v2 h1
  simpa using h2
theorem below3s {w w0 : World} {N B : Nat} (h : Below N w0 w) (hB : N ≤ B) (v0 v1 v2 : Value) :
    Below N w0 (((w.setCell ⟨B, 0, none⟩ v0).setCell ⟨B, 1, none⟩ v1).setCell ⟨B, 2, none⟩ v2) :=
  ((h.setCell hB v0).setCell hB v1).setCell hB v2
/-- A number as it has been read. -/
def numV : Option (Nat × Nat) → Value
  | none => .agg #[.int .i64 0, .int .i64 0, .int .i64 0]
  | some (m, k) => .agg #[.int .i64 ((m / 2 : Nat) : Int), .int .i64 ((m % 2 : Nat) : Int), .int .i64 (k : Int)]
def RefRdP (bs : List UInt8) (w : World) (e : Ending) (w' : World) : Prop := e = .returned (numV (refRd bs)) ∧ Below w.heap.size w w'

theorem pow_bd {j : Nat} (h : j ≤ 8) : 128 ^ j ≤ 72057594037927936 := Nat.pow_le_pow_right (by decide) h
/-- One step of what groups come to. -/
theorem valG_snoc {xs : List UInt8} {j : Nat} {x : UInt8} (h : xs[j]? = some x) : valG (xs.take (j + 1)) = valG (xs.take j) + 128 ^ j * (x.toNat % 128) := by
  have hj : j < xs.length := (List.getElem?_eq_some_iff.1 h).1
  rw [List.take_add_one, h, valG_append]
  simp only [Option.toList, valG]
  rw [List.length_take, Nat.min_eq_left (by omega)]
  simp
set_option maxRecDepth 100000 in
set_option maxHeartbeats 1000000 in
theorem refRead_ok (w : World) (F : Nat → Prop) (v : Value) (bs : List UInt8) (hx : Rd w F v (bs.map B8)) (hlen : bs.length ≤ 1000000) : Calls Tryz.prog 92 #[v] w (RefRdP bs w) := by
  have hx0 := hx
  obtain ⟨A, n, c, rfl, hl, hc, hm, hx⟩ := hx
  simp only [List.length_map] at hl
  subst hl
  unfold maxLen at hm
  have hb1 : Below w.heap.size w (w.alloc (.cells #[.int .i64 0, .int .i64 0, .int .i64 0] 151)) := (Below.refl _ _).alloc (Nat.le_refl _) _
  have k1 := heap_alloc_new w (.cells #[.int .i64 0, .int .i64 0, .int .i64 0] 151)
  have hr1 := hx0.below hb1
  have HW := Lib.hid (And.intro hb1 hr1)
  clear hx hx0 hb1 hr1
  go_enter Tryz.func92, Tryz.ntmps92
  go_upto_region 2 with fail
  generalize w.alloc (.cells #[.int .i64 0, .int .i64 0, .int .i64 0] 151) = w1 at k1 HW ⊢
  obtain ⟨R, hR⟩ : ∃ R, w.heap.size = R := ⟨_, rfl⟩
  rw [hR] at k1 ⊢
  have HR := Lib.hid hR
  clear hR
  obtain ⟨⟨z0, z1, z2⟩, y0, y1, y2⟩ := blk3 k1
  have K1 := Lib.hid k1
  clear k1
  have hX : 0 < bs.length → ∃ b o, A = some ⟨b, o, none⟩ ∧ ∀ (j : Nat) (x : UInt8), bs[j]? = some x → w1.cell? ⟨b, o + j, none⟩ = some (.int .u8 (x.toNat : Int)) := by
    intro h0
    obtain ⟨A', n', c', hv, _, _, _, h⟩ := HW.out.2
    injection hv with e1 e2 e3
    subst e1 e2 e3
    obtain ⟨b, o, e, _, hu⟩ := h h0
    exact ⟨b, o, e, fun j x hj => hu j (B8 x) (by simp [hj])⟩
  have HX := Lib.hid hX
  clear hX
  go_loop [3] (fun i => ∃ k : Nat, k ≤ bs.length ∧ i = .int .i64 (k : Int) ∧ ∀ j x, j < k → bs[j]? = some x → 128 ≤ x.toNat) (fun i => bs.length - (intOf i).toNat)
  case atStart => exact ⟨0, Nat.zero_le _, rfl, fun j x h => absurd h (by omega)⟩
  case round =>
    obtain ⟨k, hk, rfl, hall⟩ := hrel
    have HA := Lib.hid hall
    clear hall
    have hmore : (k < bs.length ∧ ∃ x, bs[k]? = some x ∧ 128 ≤ x.toNat) ∨ (runG bs = k ∧ (bs.length ≤ k ∨ ∃ x, bs[k]? = some x ∧ x.toNat < 128)) := by
      by_cases hlt : k < bs.length
      · obtain ⟨x, hxk⟩ : ∃ x, bs[k]? = some x := ⟨_, List.getElem?_eq_getElem hlt⟩
        by_cases h128 : 128 ≤ x.toNat
        · exact .inl ⟨hlt, x, hxk, h128⟩
        · exact .inr ⟨runG_at HA.out hk (fun y hy => by rw [hxk] at hy; injection hy with hy; subst hy; omega), .inr ⟨x, hxk, by omega⟩⟩
      · exact .inr ⟨runG_at HA.out hk (fun y hy => by have := (List.getElem?_eq_some_iff.1 hy).1; omega), .inl (by omega)⟩
    rcases hmore with ⟨hlt, x, hxk, h128⟩ | ⟨hrun, hend⟩
    · obtain ⟨b, o, rfl, hu⟩ := HX.out (by omega)
      have c1 := hu k x hxk
      have hx8 : x.toNat < 256 := x.toNat_lt
      have i1 : (0 : Int) ≤ (k : Int) := by omega
      have i2 : (k : Int) < (bs.length : Int) := by omega
      have i3 : (128 : Int) ≤ (x.toNat : Int) := by omega
      have HK := Lib.hid (And.intro hxk h128)
      clear hu HX hxk h128
      go_wp2_with fail
      go_round
      case rel => exact ⟨k + 1, by omega, by go_num, fun j y hj hy => by
        rcases Nat.lt_or_ge j k with h | h
        · exact HA.out j y h hy
        · have : j = k := by omega
          subst this
          rw [HK.out.1] at hy
          injection hy with hy
          subst hy
          exact HK.out.2⟩
      case measure => simp [intOf]; omega
    · have HRUN := Lib.hid hrun
      clear hrun
      rcases hend with hend | ⟨y, hy, hy128⟩
      · have HNO := Lib.hid (refRd_long (bs := bs) (.inl (by rw [HRUN.out]; omega)))
        have hkl : k = bs.length := by omega
        subst hkl
        go_wp2_with fail
        refine bodyPost_ret (results_cell_row rfl _ _ _ _ _ _ _ rfl (put3 K1.out _ _ _) Tryz.underlying151 rfl (by kernel_rfl)) rfl ⟨?_, below3s HW.out.1 (by rw [HR.out]; exact Nat.le_refl _) _ _ _⟩
        rw [HNO.out]
        rfl
      · have hlt : k < bs.length := (List.getElem?_eq_some_iff.1 hy).1
        obtain ⟨b, o, rfl, hu⟩ := HX.out (by omega)
        have ck := hu k y hy
        have hy8 : y.toNat < 256 := y.toNat_lt
        have i1 : (0 : Int) ≤ (k : Int) := by omega
        have i2 : (k : Int) < (bs.length : Int) := by omega
        have i3 : ¬ (128 : Int) ≤ (y.toNat : Int) := by omega
        have HY := Lib.hid (And.intro hy hu)
        clear hy hu HX
        by_cases h10 : 10 < k + 1
        · have HNO := Lib.hid (refRd_long (bs := bs) (.inr (by rw [HRUN.out]; exact h10)))
          go_wp2_with fail
          refine bodyPost_ret (results_cell_row rfl _ _ _ _ _ _ _ rfl (put3 K1.out _ _ _) Tryz.underlying151 rfl (by kernel_rfl)) rfl ⟨?_, below3s HW.out.1 (by rw [HR.out]; exact Nat.le_refl _) _ _ _⟩
          rw [HNO.out]
          rfl
        · by_cases h9 : k = 9 ∧ 1 < y.toNat
          · obtain ⟨rfl, h1⟩ := h9
            have HNO := Lib.hid (refRd_top (bs := bs) (by rw [HRUN.out]) HY.out.1 h1)
            have h1' : (1 : Int) < (y.toNat : Int) := by omega
            go_wp2_with fail
            refine bodyPost_ret (results_cell_row rfl _ _ _ _ _ _ _ rfl (put3 K1.out _ _ _) Tryz.underlying151 rfl (by kernel_rfl)) rfl ⟨?_, below3s HW.out.1 (by rw [HR.out]; exact Nat.le_refl _) _ _ _⟩
            rw [HNO.out]
            rfl
          · have h9' : ¬ (k = 9 ∧ 1 < y.toNat) := h9
            have H9 := Lib.hid h9
            clear h9
            obtain ⟨x0, hx0⟩ : ∃ x, bs[0]? = some x := ⟨_, List.getElem?_eq_getElem (by omega)⟩
            have c0 := HY.out.2 0 x0 hx0
            rw [Nat.add_zero] at c0
            have hx8 : x0.toNat < 256 := x0.toNat_lt
            have HX0 := Lib.hid hx0
            clear hx0
            by_cases hk9 : k = 9
            · have h1' : ¬ (1 : Int) < (y.toNat : Int) := by omega
              have H9K := Lib.hid (show k ≤ 9 ∧ ∀ x, k = 9 → bs[9]? = some x → x.toNat ≤ 1 from ⟨by omega, fun x _ hx => by have h2 := HY.out.1; rw [hk9, hx] at h2; injection h2 with h2; subst h2; omega⟩)
              have hd10 : ((k : Int) + 1 == 10) = true := by simp; omega
              have c9 : w1.cell? ⟨b, o + 9, none⟩ = some (.int .u8 (y.toNat : Int)) := by rw [← hk9]; exact ck
              have i9l : (9 : Int) < (bs.length : Int) := by omega
              clear h9'
              have HK9 := Lib.hid hk9
              clear hk9
              go_upto_region 10 with fail
              go_loop [4, 5, 6] (fun a b i => ∃ (J h p : Nat), J ≤ k + 1 ∧ 1 ≤ J ∧ i = .int .i64 (J : Int) ∧ a = .int .i64 (h : Int) ∧ b = .int .i64 (p : Int) ∧ h = 64 * valG ((bs.drop 1).take (J - 1)) ∧ p = 64 * 128 ^ (min (J - 1) 8) ∧ h ≤ 9223372036854775744 ∧ 1 ≤ p ∧ p ≤ 4611686018427387904) (fun _ _ i => k + 1 - (intOf i).toNat)
              case atStart => exact ⟨1, 0, 64, by omega, by omega, rfl, rfl, rfl, by simp [valG], by simp, by omega, by omega, by omega⟩
              case round =>
                obtain ⟨J, h, p, hJ, hJ1, rfl, rfl, rfl, hh, hp, hhb, hp1, hp2⟩ := hrel
                obtain ⟨j, hjJ⟩ : ∃ j, J = j + 1 := ⟨J - 1, by omega⟩
                rw [show J - 1 = j by omega] at hh hp
                have HH := Lib.hid (And.intro hh hp)
                have HJ := Lib.hid hjJ
                clear hh hp
                by_cases hjk : J < k + 1
                · obtain ⟨x, hx⟩ : ∃ x, bs[j + 1]? = some x := ⟨_, List.getElem?_eq_getElem (by omega)⟩
                  have cj := HY.out.2 (j + 1) x hx
                  have hxd : (bs.drop 1)[j]? = some x := by rw [List.getElem?_drop, Nat.add_comm]; exact hx
                  have hsn := valG_snoc hxd
                  have hlt := valG_lt ((bs.drop 1).take j)
                  have hlt2 : ((bs.drop 1).take j).length = j := by have := (List.getElem?_eq_some_iff.1 hxd).1; rw [List.length_take]; omega
                  rw [hlt2] at hlt
                  have hj8 : j ≤ 8 := by have := H9K.out.1; omega
                  have hpp : p = 64 * 128 ^ j := by have := HH.out.2; rw [Nat.min_eq_left hj8] at this; exact this
                  have hhp : h < p := by rw [hpp, HH.out.1]; omega
                  have hxm : x.toNat % 128 < 128 := Nat.mod_lt _ (by decide)
                  obtain ⟨q, hq⟩ : ∃ q, x.toNat % 128 * p = q := ⟨_, rfl⟩
                  have hqi : ((x.toNat : Int) % 128 * (p : Int)) = (q : Int) := by rw [← hq]; push_cast; rfl
                  have hnew : h + q = 64 * valG ((bs.drop 1).take (j + 1)) := by rw [hsn, ← hq, HH.out.1, hpp, Nat.mul_add, ← Nat.mul_assoc 64, Nat.mul_comm (64 * 128 ^ j)]
                  have hx8b : x.toNat < 256 := x.toNat_lt
                  have i1 : (0 : Int) ≤ (J : Int) := by omega
                  have i2 : (J : Int) < (bs.length : Int) := by omega
                  have i3 : (J : Int) < (k : Int) + 1 := by omega
                  rw [← hjJ] at cj
                  have hJ8 : j < 8 ↔ (J : Int) < 9 := by omega
                  clear hjJ
                  by_cases hj7 : (J : Int) < 9
                  · have hpb : p ≤ 36028797018963968 := by
                      rw [hpp]
                      have := Nat.pow_le_pow_right (n := 128) (by decide) (show j ≤ 7 by have := HJ.out; omega)
                      have e7 : (128 : Nat) ^ 7 = 562949953421312 := by decide
                      rw [e7] at this
                      omega
                    have hqb : q ≤ 4611686018427387904 := by
                      rw [← hq]
                      exact Nat.le_trans (Nat.mul_le_mul (Nat.le_of_lt hxm) hpb) (by decide)
                    have HN := Lib.hid (And.intro hnew hpp)
                    have i9 : (J : Int) < 9 := by omega
                    have hhb2 : h ≤ 36028797018963968 := by omega
                    clear hx hxd hsn hlt hlt2 hq hnew hpp hhp
                    go_wp2_with fail
                    go_round
                    case rel =>
                      refine ⟨J + 1, h + q, p * 128, by omega, by omega, by go_num, by go_num, by go_num, by rw [HJ.out]; exact HN.out.1, ?_, ?_, by omega, by omega⟩
                      · rw [HN.out.2, HJ.out, Nat.add_sub_cancel, Nat.min_eq_left (by have := HJ.out; omega), Nat.pow_succ, Nat.mul_assoc]
                      · have := HN.out.1; omega
                    case measure => simp [intOf]; omega
                  · have hj8e : j = 8 := by have := HJ.out; omega
                    have hk9' : k = 9 := by have := H9K.out.1; have := HJ.out; omega
                    have hx1 : x.toNat ≤ 1 := H9K.out.2 x hk9' (by rw [hj8e] at hx; exact hx)
                    have hqb : q ≤ 4611686018427387904 := by
                      rw [← hq]
                      exact Nat.le_trans (Nat.mul_le_mul (show x.toNat % 128 ≤ 1 by omega) hp2) (by decide)
                    have HN := Lib.hid (And.intro hnew hpp)
                    have i9 : ¬ (J : Int) < 9 := by omega
                    have hhb2 : h ≤ 4611686018427387904 := by omega
                    clear hx hxd hsn hlt hlt2 hq hnew hpp hk9'
                    go_wp2_with fail
                    go_round
                    case rel =>
                      refine ⟨J + 1, h + q, p, by omega, by omega, by go_num, by go_num, by go_num, by rw [HJ.out]; exact HN.out.1, ?_, ?_, by omega, by omega⟩
                      · rw [HN.out.2, HJ.out, hj8e]; simp
                      · have := HN.out.1; omega
                    case measure => simp [intOf]; omega
                · obtain rfl : j = k := by omega
                  obtain rfl : J = j + 1 := hjJ
                  have hv : valG (bs.take (runG bs + 1)) = 2 * (h + x0.toNat % 128 / 2) + x0.toNat % 128 % 2 := by
                    rw [HRUN.out, HH.out.1]
                    have e : bs.take (j + 1) = x0 :: (bs.drop 1).take j := by
                      have h0 := HX0.out
                      cases bs with
                      | nil => simp at h0
                      | cons y0 r => simp at h0; subst h0; rfl
                    rw [e, valG_half]
                  obtain ⟨m, hm9⟩ : ∃ m, valG (bs.take (runG bs + 1)) = m := ⟨_, rfl⟩
                  rw [hm9] at hv
                  have hm64 : m < 18446744073709551616 := by omega
                  have e1 : ((m / 2 : Nat) : Int) = (h : Int) + (x0.toNat : Int) % 128 / 2 := by omega
                  have e2 : ((m % 2 : Nat) : Int) = (x0.toNat : Int) % 2 := by omega
                  have hb2 : Below w1.heap.size w1 (w1.alloc (.cells #[.int .i64 ((h : Int) + (x0.toNat : Int) % 128 / 2), .int .i64 ((x0.toNat : Int) % 2), .int .i64 ((j : Int) + 1)] 151)) := (Below.refl _ _).alloc (Nat.le_refl _) _
                  have k2 := heap_alloc_new w1 (.cells #[.int .i64 ((h : Int) + (x0.toNat : Int) % 128 / 2), .int .i64 ((x0.toNat : Int) % 2), .int .i64 ((j : Int) + 1)] 151)
                  have HB2 := Lib.hid hb2
                  have HM := Lib.hid (And.intro hm9 (And.intro hm64 (And.intro e1 e2)))
                  clear hm9 hv hm64 e1 e2 hb2
                  go_upto_region 17 with fail
                  generalize w1.alloc (.cells #[.int .i64 ((h : Int) + (x0.toNat : Int) % 128 / 2), .int .i64 ((x0.toNat : Int) % 2), .int .i64 ((j : Int) + 1)] 151) = w2 at k2 HB2 ⊢
                  obtain ⟨R2, hR2⟩ : ∃ R2, w1.heap.size = R2 := ⟨_, rfl⟩
                  rw [hR2] at k2 ⊢
                  clear hR2
                  obtain ⟨⟨q0, q1, q2⟩, _, _, _⟩ := blk3 k2
                  have hcall := refGroups_ok w2 m HM.out.2.1
                  rw [HM.out.2.2.1, HM.out.2.2.2] at hcall
                  have HC := Lib.hid hcall
                  clear hcall
                  go_wp2_with fail
                  refine HC.out.mono ?_
                  rintro en w3 ⟨A3, c3, rfl, hO3, hb3⟩
                  have hb13 := HB2.out.trans (hb3.mono HB2.out.size)
                  have H3 := Lib.hid (And.intro (Rd.of_own hO3 (F := fun _ => True) (fun _ _ => trivial)) hb13)
                  have k3 := (Only.of_below hb3 (fun _ => False)).heap k2 (fun h => h)
                  clear hb13 hb3 hO3 k2 q0 q1 q2
                  go_wp2_with fail
                  refine (refSame_ok w3 F (fun _ => True) _ _ bs (leb m) (HW.out.2.below H3.out.2) H3.out.1).mono ?_
                  rintro en w4 ⟨r, hr, rfl, hb4⟩
                  have k4 := (Only.of_below hb4 (fun _ => False)).heap k3 (fun h => h)
                  have kR := (Only.of_below (H3.out.2.trans (hb4.mono H3.out.2.size)) (fun _ => False)).heap K1.out (fun h => h)
                  have HB4 := Lib.hid (HW.out.1.trans ((H3.out.2.trans (hb4.mono H3.out.2.size)).mono HW.out.1.size))
                  have HRR := Lib.hid hr
                  clear hb4 k3 hr z0 z1 z2 y0 y1 y2
                  obtain ⟨⟨q0, q1, q2⟩, _, _, _⟩ := blk3 k4
                  obtain ⟨⟨z0, z1, z2⟩, y0, y1, y2⟩ := blk3 kR
                  cases r with
                  | true =>
                    obtain ⟨rest, hrest⟩ := HRR.out.1 rfl
                    have HNO := Lib.hid (refRd_yes HM.out.2.1 hrest)
                    clear hrest
                    go_wp2_with fail
                    refine bodyPost_ret (results_cell_row rfl _ _ _ _ _ _ _ rfl (put3 kR _ _ _) Tryz.underlying151 rfl (by kernel_rfl)) rfl ⟨?_, below3s HB4.out (by rw [HR.out]; exact Nat.le_refl _) _ _ _⟩
                    rw [HNO.out, HRUN.out, numV, HM.out.2.2.1, HM.out.2.2.2]
                    rfl
                  | false =>
                    have hno : ∀ r, bs ≠ leb m ++ r := fun r e => by have := HRR.out.2 ⟨r, e⟩; cases this
                    rw [← HM.out.1] at hno
                    have HNO := Lib.hid (refRd_no hno)
                    clear hno
                    go_wp2_with fail
                    refine bodyPost_ret (results_cell_row rfl _ _ _ _ _ _ _ rfl (put3 kR _ _ _) Tryz.underlying151 rfl (by kernel_rfl)) rfl ⟨?_, below3s HB4.out (by rw [HR.out]; exact Nat.le_refl _) _ _ _⟩
                    rw [HNO.out]
                    rfl
            · have H9K := Lib.hid (show k ≤ 9 ∧ ∀ x, k = 9 → bs[9]? = some x → x.toNat ≤ 1 from ⟨by omega, fun x h _ => absurd h hk9⟩)
              have hd10 : ((k : Int) + 1 == 10) = false := by simp; omega
              clear h9'
              have HK9 := Lib.hid hk9
              clear hk9
              go_upto_region 10 with fail
              go_loop [4, 5, 6] (fun a b i => ∃ (J h p : Nat), J ≤ k + 1 ∧ 1 ≤ J ∧ i = .int .i64 (J : Int) ∧ a = .int .i64 (h : Int) ∧ b = .int .i64 (p : Int) ∧ h = 64 * valG ((bs.drop 1).take (J - 1)) ∧ p = 64 * 128 ^ (min (J - 1) 8) ∧ h ≤ 9223372036854775744 ∧ 1 ≤ p ∧ p ≤ 4611686018427387904) (fun _ _ i => k + 1 - (intOf i).toNat)
              case atStart => exact ⟨1, 0, 64, by omega, by omega, rfl, rfl, rfl, by simp [valG], by simp, by omega, by omega, by omega⟩
              case round =>
                obtain ⟨J, h, p, hJ, hJ1, rfl, rfl, rfl, hh, hp, hhb, hp1, hp2⟩ := hrel
                obtain ⟨j, hjJ⟩ : ∃ j, J = j + 1 := ⟨J - 1, by omega⟩
                rw [show J - 1 = j by omega] at hh hp
                have HH := Lib.hid (And.intro hh hp)
                have HJ := Lib.hid hjJ
                clear hh hp
                by_cases hjk : J < k + 1
                · obtain ⟨x, hx⟩ : ∃ x, bs[j + 1]? = some x := ⟨_, List.getElem?_eq_getElem (by omega)⟩
                  have cj := HY.out.2 (j + 1) x hx
                  have hxd : (bs.drop 1)[j]? = some x := by rw [List.getElem?_drop, Nat.add_comm]; exact hx
                  have hsn := valG_snoc hxd
                  have hlt := valG_lt ((bs.drop 1).take j)
                  have hlt2 : ((bs.drop 1).take j).length = j := by have := (List.getElem?_eq_some_iff.1 hxd).1; rw [List.length_take]; omega
                  rw [hlt2] at hlt
                  have hj8 : j ≤ 8 := by have := H9K.out.1; omega
                  have hpp : p = 64 * 128 ^ j := by have := HH.out.2; rw [Nat.min_eq_left hj8] at this; exact this
                  have hhp : h < p := by rw [hpp, HH.out.1]; omega
                  have hxm : x.toNat % 128 < 128 := Nat.mod_lt _ (by decide)
                  obtain ⟨q, hq⟩ : ∃ q, x.toNat % 128 * p = q := ⟨_, rfl⟩
                  have hqi : ((x.toNat : Int) % 128 * (p : Int)) = (q : Int) := by rw [← hq]; push_cast; rfl
                  have hnew : h + q = 64 * valG ((bs.drop 1).take (j + 1)) := by rw [hsn, ← hq, HH.out.1, hpp, Nat.mul_add, ← Nat.mul_assoc 64, Nat.mul_comm (64 * 128 ^ j)]
                  have hx8b : x.toNat < 256 := x.toNat_lt
                  have i1 : (0 : Int) ≤ (J : Int) := by omega
                  have i2 : (J : Int) < (bs.length : Int) := by omega
                  have i3 : (J : Int) < (k : Int) + 1 := by omega
                  rw [← hjJ] at cj
                  have hJ8 : j < 8 ↔ (J : Int) < 9 := by omega
                  clear hjJ
                  by_cases hj7 : (J : Int) < 9
                  · have hpb : p ≤ 36028797018963968 := by
                      rw [hpp]
                      have := Nat.pow_le_pow_right (n := 128) (by decide) (show j ≤ 7 by have := HJ.out; omega)
                      have e7 : (128 : Nat) ^ 7 = 562949953421312 := by decide
                      rw [e7] at this
                      omega
                    have hqb : q ≤ 4611686018427387904 := by
                      rw [← hq]
                      exact Nat.le_trans (Nat.mul_le_mul (Nat.le_of_lt hxm) hpb) (by decide)
                    have HN := Lib.hid (And.intro hnew hpp)
                    have i9 : (J : Int) < 9 := by omega
                    have hhb2 : h ≤ 36028797018963968 := by omega
                    clear hx hxd hsn hlt hlt2 hq hnew hpp hhp
                    go_wp2_with fail
                    go_round
                    case rel =>
                      refine ⟨J + 1, h + q, p * 128, by omega, by omega, by go_num, by go_num, by go_num, by rw [HJ.out]; exact HN.out.1, ?_, ?_, by omega, by omega⟩
                      · rw [HN.out.2, HJ.out, Nat.add_sub_cancel, Nat.min_eq_left (by have := HJ.out; omega), Nat.pow_succ, Nat.mul_assoc]
                      · have := HN.out.1; omega
                    case measure => simp [intOf]; omega
                  · exact absurd (show k = 9 by have := H9K.out.1; have := HJ.out; omega) HK9.out
                · obtain rfl : j = k := by omega
                  obtain rfl : J = j + 1 := hjJ
                  have hv : valG (bs.take (runG bs + 1)) = 2 * (h + x0.toNat % 128 / 2) + x0.toNat % 128 % 2 := by
                    rw [HRUN.out, HH.out.1]
                    have e : bs.take (j + 1) = x0 :: (bs.drop 1).take j := by
                      have h0 := HX0.out
                      cases bs with
                      | nil => simp at h0
                      | cons y0 r => simp at h0; subst h0; rfl
                    rw [e, valG_half]
                  obtain ⟨m, hm9⟩ : ∃ m, valG (bs.take (runG bs + 1)) = m := ⟨_, rfl⟩
                  rw [hm9] at hv
                  have hm64 : m < 18446744073709551616 := by omega
                  have e1 : ((m / 2 : Nat) : Int) = (h : Int) + (x0.toNat : Int) % 128 / 2 := by omega
                  have e2 : ((m % 2 : Nat) : Int) = (x0.toNat : Int) % 2 := by omega
                  have hb2 : Below w1.heap.size w1 (w1.alloc (.cells #[.int .i64 ((h : Int) + (x0.toNat : Int) % 128 / 2), .int .i64 ((x0.toNat : Int) % 2), .int .i64 ((j : Int) + 1)] 151)) := (Below.refl _ _).alloc (Nat.le_refl _) _
                  have k2 := heap_alloc_new w1 (.cells #[.int .i64 ((h : Int) + (x0.toNat : Int) % 128 / 2), .int .i64 ((x0.toNat : Int) % 2), .int .i64 ((j : Int) + 1)] 151)
                  have HB2 := Lib.hid hb2
                  have HM := Lib.hid (And.intro hm9 (And.intro hm64 (And.intro e1 e2)))
                  clear hm9 hv hm64 e1 e2 hb2
                  go_upto_region 17 with fail
                  generalize w1.alloc (.cells #[.int .i64 ((h : Int) + (x0.toNat : Int) % 128 / 2), .int .i64 ((x0.toNat : Int) % 2), .int .i64 ((j : Int) + 1)] 151) = w2 at k2 HB2 ⊢
                  obtain ⟨R2, hR2⟩ : ∃ R2, w1.heap.size = R2 := ⟨_, rfl⟩
                  rw [hR2] at k2 ⊢
                  clear hR2
                  obtain ⟨⟨q0, q1, q2⟩, _, _, _⟩ := blk3 k2
                  have hcall := refGroups_ok w2 m HM.out.2.1
                  rw [HM.out.2.2.1, HM.out.2.2.2] at hcall
                  have HC := Lib.hid hcall
                  clear hcall
                  go_wp2_with fail
                  refine HC.out.mono ?_
                  rintro en w3 ⟨A3, c3, rfl, hO3, hb3⟩
                  have hb13 := HB2.out.trans (hb3.mono HB2.out.size)
                  have H3 := Lib.hid (And.intro (Rd.of_own hO3 (F := fun _ => True) (fun _ _ => trivial)) hb13)
                  have k3 := (Only.of_below hb3 (fun _ => False)).heap k2 (fun h => h)
                  clear hb13 hb3 hO3 k2 q0 q1 q2
                  go_wp2_with fail
                  refine (refSame_ok w3 F (fun _ => True) _ _ bs (leb m) (HW.out.2.below H3.out.2) H3.out.1).mono ?_
                  rintro en w4 ⟨r, hr, rfl, hb4⟩
                  have k4 := (Only.of_below hb4 (fun _ => False)).heap k3 (fun h => h)
                  have kR := (Only.of_below (H3.out.2.trans (hb4.mono H3.out.2.size)) (fun _ => False)).heap K1.out (fun h => h)
                  have HB4 := Lib.hid (HW.out.1.trans ((H3.out.2.trans (hb4.mono H3.out.2.size)).mono HW.out.1.size))
                  have HRR := Lib.hid hr
                  clear hb4 k3 hr z0 z1 z2 y0 y1 y2
                  obtain ⟨⟨q0, q1, q2⟩, _, _, _⟩ := blk3 k4
                  obtain ⟨⟨z0, z1, z2⟩, y0, y1, y2⟩ := blk3 kR
                  cases r with
                  | true =>
                    obtain ⟨rest, hrest⟩ := HRR.out.1 rfl
                    have HNO := Lib.hid (refRd_yes HM.out.2.1 hrest)
                    clear hrest
                    go_wp2_with fail
                    refine bodyPost_ret (results_cell_row rfl _ _ _ _ _ _ _ rfl (put3 kR _ _ _) Tryz.underlying151 rfl (by kernel_rfl)) rfl ⟨?_, below3s HB4.out (by rw [HR.out]; exact Nat.le_refl _) _ _ _⟩
                    rw [HNO.out, HRUN.out, numV, HM.out.2.2.1, HM.out.2.2.2]
                    rfl
                  | false =>
                    have hno : ∀ r, bs ≠ leb m ++ r := fun r e => by have := HRR.out.2 ⟨r, e⟩; cases this
                    rw [← HM.out.1] at hno
                    have HNO := Lib.hid (refRd_no hno)
                    clear hno
                    go_wp2_with fail
                    refine bodyPost_ret (results_cell_row rfl _ _ _ _ _ _ _ rfl (put3 kR _ _ _) Tryz.underlying151 rfl (by kernel_rfl)) rfl ⟨?_, below3s HB4.out (by rw [HR.out]; exact Nat.le_refl _) _ _ _⟩
                    rw [HNO.out]
                    rfl
end Go.Proofs.YtihjcfifakcpgaaGreatDoor
