import Derived.Test.YtagemonojdgbdaaGreatDoorQ44
import Derived.Lib.AtoiAllCases
import Derived.Laws.DeepStrings4
import Derived.Lib.AtoiErrMem
namespace Go.Proofs.YtagemonojdgbdaaGreatDoor
set_option maxRecDepth 100000
open Go.RowKit
section
open Go.Lib
theorem nW (m : Nat) : (m : Int).tdiv 10 = ((m / 10 : Nat) : Int) := by rfl
theorem nX (m : Nat) : (m : Int).tmod 10 = ((m % 10 : Nat) : Int) := by rfl
theorem tdiv_neg (m : Nat) : (-(m : Int)).tdiv 10 = -((m / 10 : Nat) : Int) := by rw [Int.neg_tdiv, nW]
theorem tmod_neg (m : Nat) : (-(m : Int)).tmod 10 = -((m % 10 : Nat) : Int) := by rw [Int.neg_tmod, nX]
theorem fc {n : Int} (h0 : 0 <= n) (h : n < 10) : itoa n = [UInt8.ofNat (48 + n.toNat)] := by
 unfold itoa
 rw [if_neg (by omega), decDigits_one (by omega)]
theorem Dv {n : Int} (h : 10 <= n) : itoa n = itoa (n.tdiv 10) ++ [UInt8.ofNat (48 + (n.tmod 10).toNat)] := by
 obtain ⟨m, rfl⟩ : ∃ m : Nat, n = (m : Int) := ⟨n.toNat, by omega⟩
 rw [nW, nX]
 unfold itoa
 rw [if_neg (by omega), if_neg (by omega), show ((m : Int)).toNat = m by omega, show (((m / 10 : Nat) : Int)).toNat = m / 10 by omega, show (((m % 10 : Nat) : Int)).toNat = m % 10 by omega, decDigits, dif_neg (by omega)]
theorem cE {n : Int} (h0 : n < 0) (h : n.tdiv 10 = 0) : itoa n = [45, UInt8.ofNat (48 + (-n).toNat)] := by
 obtain ⟨m, rfl⟩ : ∃ m : Nat, n = -(m : Int) := ⟨n.natAbs, by omega⟩
 rw [tdiv_neg] at h
 unfold itoa
 rw [if_pos h0, show (-(m : Int)).natAbs = m by omega, decDigits_one (by omega), show (- -(m : Int)).toNat = m by omega]
theorem sO {n : Int} (h0 : n < 0) (h : n.tdiv 10 ≠ 0) : itoa n = itoa (n.tdiv 10) ++ [UInt8.ofNat (48 + (-(n.tmod 10)).toNat)] := by
 obtain ⟨m, rfl⟩ : ∃ m : Nat, n = -(m : Int) := ⟨n.natAbs, by omega⟩
 rw [tdiv_neg] at h
 rw [tdiv_neg, tmod_neg]
 unfold itoa
 rw [if_pos h0, if_pos (by omega), show (-(m : Int)).natAbs = m by omega, show (-((m / 10 : Nat) : Int)).natAbs = m / 10 by omega, show (- -((m % 10 : Nat) : Int)).toNat = m % 10 by omega]
 rw [show decDigits m = decDigits (m / 10) ++ [UInt8.ofNat (48 + m % 10)] by rw [decDigits, dif_neg (by omega)]]
 rfl
theorem rN {n : Int} (h : jD n) : (Lib.itoa n).length <= 20 := by
 unfold Lib.itoa
 split
 ·have h1 := iZ 18 n.natAbs (by have := h.1; omega)
  rw [List.length_cons, Lib.decDigits_length]
  omega
 ·have h1 := iZ 18 n.toNat (by have := h.2; omega)
  rw [Lib.decDigits_length]
  omega
theorem Ga (d : Nat) (h : d < 10) : (⟨#[48, 49, 50, 51, 52, 53, 54, 55, 56, 57]⟩ : ByteArray).extract d (d + 1) = ⟨#[UInt8.ofNat (48 + d)]⟩ := by
 have : d = 0 \/ d = 1 \/ d = 2 \/ d = 3 \/ d = 4 \/ d = 5 \/ d = 6 \/ d = 7 \/ d = 8 \/ d = 9 := by omega
 rcases this with rfl | rfl | rfl | rfl | rfl | rfl | rfl | rfl | rfl | rfl <;> rfl
theorem Cb (l : List UInt8) (b : UInt8) : (⟨l.toArray⟩ : ByteArray) ++ ⟨#[b]⟩ = ⟨(l ++ [b]).toArray⟩ := by
 apply ByteArray.ext
 simp
set_option maxHeartbeats 2000000 in
theorem lK : ∀ (N : Nat) (n : Int) (w : World), n.natAbs <= N -> jD n -> Calls Tryz.prog 9 #[.int .i64 n] w fun e w' => e = .returned (.string ⟨(Lib.itoa n).toArray⟩) /\ ∃ m, w' = w.drewN m
 | N, n, w, hN, hn => by
  by_cases h0 : n < 0
  ·by_cases h1 : -10 < n
   ·have hcs : n = -1 \/ n = -2 \/ n = -3 \/ n = -4 \/ n = -5 \/ n = -6 \/ n = -7 \/ n = -8 \/ n = -9 := by omega
    rcases hcs with rfl | rfl | rfl | rfl | rfl | rfl | rfl | rfl | rfl
    ·have HE := Lib.hid (show ((⟨#[45]⟩ : ByteArray) ++ (⟨#[48, 49, 50, 51, 52, 53, 54, 55, 56, 57]⟩ : ByteArray).extract 1 2) = ⟨(Lib.itoa (-1)).toArray⟩ by rw [cE (by decide) (by decide)]; rfl)
     go_enter Tryz.func9, Tryz.ntmps9
     go_wp2_with fail
     go_ret
     exact ⟨by rw [<- HE.out]; rfl, 0, by rw [World.drewN_zero]⟩
    ·have HE := Lib.hid (show ((⟨#[45]⟩ : ByteArray) ++ (⟨#[48, 49, 50, 51, 52, 53, 54, 55, 56, 57]⟩ : ByteArray).extract 2 3) = ⟨(Lib.itoa (-2)).toArray⟩ by rw [cE (by decide) (by decide)]; rfl)
     go_enter Tryz.func9, Tryz.ntmps9
     go_wp2_with fail
     go_ret
     exact ⟨by rw [<- HE.out]; rfl, 0, by rw [World.drewN_zero]⟩
    ·have HE := Lib.hid (show ((⟨#[45]⟩ : ByteArray) ++ (⟨#[48, 49, 50, 51, 52, 53, 54, 55, 56, 57]⟩ : ByteArray).extract 3 4) = ⟨(Lib.itoa (-3)).toArray⟩ by rw [cE (by decide) (by decide)]; rfl)
     go_enter Tryz.func9, Tryz.ntmps9
     go_wp2_with fail
     go_ret
     exact ⟨by rw [<- HE.out]; rfl, 0, by rw [World.drewN_zero]⟩
    ·have HE := Lib.hid (show ((⟨#[45]⟩ : ByteArray) ++ (⟨#[48, 49, 50, 51, 52, 53, 54, 55, 56, 57]⟩ : ByteArray).extract 4 5) = ⟨(Lib.itoa (-4)).toArray⟩ by rw [cE (by decide) (by decide)]; rfl)
     go_enter Tryz.func9, Tryz.ntmps9
     go_wp2_with fail
     go_ret
     exact ⟨by rw [<- HE.out]; rfl, 0, by rw [World.drewN_zero]⟩
    ·have HE := Lib.hid (show ((⟨#[45]⟩ : ByteArray) ++ (⟨#[48, 49, 50, 51, 52, 53, 54, 55, 56, 57]⟩ : ByteArray).extract 5 6) = ⟨(Lib.itoa (-5)).toArray⟩ by rw [cE (by decide) (by decide)]; rfl)
     go_enter Tryz.func9, Tryz.ntmps9
     go_wp2_with fail
     go_ret
     exact ⟨by rw [<- HE.out]; rfl, 0, by rw [World.drewN_zero]⟩
    ·have HE := Lib.hid (show ((⟨#[45]⟩ : ByteArray) ++ (⟨#[48, 49, 50, 51, 52, 53, 54, 55, 56, 57]⟩ : ByteArray).extract 6 7) = ⟨(Lib.itoa (-6)).toArray⟩ by rw [cE (by decide) (by decide)]; rfl)
     go_enter Tryz.func9, Tryz.ntmps9
     go_wp2_with fail
     go_ret
     exact ⟨by rw [<- HE.out]; rfl, 0, by rw [World.drewN_zero]⟩
    ·have HE := Lib.hid (show ((⟨#[45]⟩ : ByteArray) ++ (⟨#[48, 49, 50, 51, 52, 53, 54, 55, 56, 57]⟩ : ByteArray).extract 7 8) = ⟨(Lib.itoa (-7)).toArray⟩ by rw [cE (by decide) (by decide)]; rfl)
     go_enter Tryz.func9, Tryz.ntmps9
     go_wp2_with fail
     go_ret
     exact ⟨by rw [<- HE.out]; rfl, 0, by rw [World.drewN_zero]⟩
    ·have HE := Lib.hid (show ((⟨#[45]⟩ : ByteArray) ++ (⟨#[48, 49, 50, 51, 52, 53, 54, 55, 56, 57]⟩ : ByteArray).extract 8 9) = ⟨(Lib.itoa (-8)).toArray⟩ by rw [cE (by decide) (by decide)]; rfl)
     go_enter Tryz.func9, Tryz.ntmps9
     go_wp2_with fail
     go_ret
     exact ⟨by rw [<- HE.out]; rfl, 0, by rw [World.drewN_zero]⟩
    ·have HE := Lib.hid (show ((⟨#[45]⟩ : ByteArray) ++ (⟨#[48, 49, 50, 51, 52, 53, 54, 55, 56, 57]⟩ : ByteArray).extract 9 10) = ⟨(Lib.itoa (-9)).toArray⟩ by rw [cE (by decide) (by decide)]; rfl)
     go_enter Tryz.func9, Tryz.ntmps9
     go_wp2_with fail
     go_ret
     exact ⟨by rw [<- HE.out]; rfl, 0, by rw [World.drewN_zero]⟩
   ·obtain ⟨m, rfl⟩ : ∃ m : Nat, n = -(m : Int) := ⟨n.natAbs, by omega⟩
    have kX : m <= 9223372036854775808 := by have := hn.1; omega
    have hm2 : 10 <= m := by omega
    cases N with
    | zero => omega
    | succ N =>
     have Bv := Lib.hid (fun W => lK N (-((m / 10 : Nat) : Int)) W (by omega) ⟨by omega, by omega⟩)
     have HE := Lib.hid (And.intro (sO (n := -(m : Int)) h0 (by rw [tdiv_neg]; omega)) (Ga (m % 10) (by omega)))
     rw [tdiv_neg, tmod_neg] at HE
     have e1 := tdiv_neg m
     have e2 := tmod_neg m
     obtain ⟨q, hq⟩ : ∃ q, m / 10 = q := ⟨_, rfl⟩
     obtain ⟨d, hd⟩ : ∃ d, m % 10 = d := ⟨_, rfl⟩
     have V2 : d < 10 := by omega
     have V3 : q <= 922337203685477580 := by omega
     have hq1 : 1 <= q := by omega
     rw [hq] at Bv HE e1
     rw [hd] at HE e2
     clear hq hd hn hN h1
     have w1 : IntKind.i64.wrap (-(q : Int)) = -(q : Int) := by rw [IntKind.wrap_i64]; omega
     have w2 : IntKind.i64.wrap (-(d : Int)) = -(d : Int) := by rw [IntKind.wrap_i64]; omega
     have w3 : IntKind.i64.wrap (0 - -(d : Int)) = (d : Int) := by rw [IntKind.wrap_i64]; omega
     have w4 : IntKind.i64.wrap (1 - -(d : Int)) = (d : Int) + 1 := by rw [IntKind.wrap_i64]; omega
     have w5 : IntKind.i64.wrap (d : Int) = (d : Int) := by rw [IntKind.wrap_i64]; omega
     have w6 : IntKind.i64.wrap (1 + (d : Int)) = (d : Int) + 1 := by rw [IntKind.wrap_i64]; omega
     have v1 : wrap64 (-(q : Int)) = -(q : Int) := by unfold wrap64; omega
     have WU : ((-(q : Int)) == 0) = false := by rw [beq_eq_false_iff_ne]; omega
     have hc1 : 0 <= (d : Int) + 1 /\ (d : Int) + 1 <= 10 := by omega
     have hc2 : (d : Int) <= (d : Int) + 1 := by omega
     have hc3 : ¬ 9223372036854775807 < (Lib.itoa (-(q : Int))).length + (min (d + 1) 10 - d) := by have := rN (n := -(q : Int)) ⟨by omega, by omega⟩; omega
     go_enter Tryz.func9, Tryz.ntmps9
     go_wp2_with fail
     go_quiet (first | (go_at_call 9; exact (Bv.out _).mono (fun e w' ⟨h1, j, h2⟩ => ⟨h1, _, h2.trans (World.drewN_drewN _ _ _)⟩)) | fail)
     go_wp2_with fail
     go_ret
     refine ⟨?_, _, rfl⟩
     show Ending.returned (.string ((⟨(Lib.itoa (-(q : Int))).toArray⟩ : ByteArray) ++ (⟨#[48, 49, 50, 51, 52, 53, 54, 55, 56, 57]⟩ : ByteArray).extract d (d + 1))) = .returned (.string ⟨(Lib.itoa (-(m : Int))).toArray⟩)
     rw [HE.out.2, Cb, HE.out.1]
     simp
  ·by_cases h1 : n < 10
   ·have hcs : n = 0 \/ n = 1 \/ n = 2 \/ n = 3 \/ n = 4 \/ n = 5 \/ n = 6 \/ n = 7 \/ n = 8 \/ n = 9 := by omega
    rcases hcs with rfl | rfl | rfl | rfl | rfl | rfl | rfl | rfl | rfl | rfl
    ·have HE := Lib.hid (show (⟨#[48, 49, 50, 51, 52, 53, 54, 55, 56, 57]⟩ : ByteArray).extract 0 1 = ⟨(Lib.itoa 0).toArray⟩ by rw [fc (by decide) (by decide)]; rfl)
     go_enter Tryz.func9, Tryz.ntmps9
     go_wp2_with fail
     go_ret
     exact ⟨by rw [<- HE.out]; rfl, 0, by rw [World.drewN_zero]⟩
    ·have HE := Lib.hid (show (⟨#[48, 49, 50, 51, 52, 53, 54, 55, 56, 57]⟩ : ByteArray).extract 1 2 = ⟨(Lib.itoa 1).toArray⟩ by rw [fc (by decide) (by decide)]; rfl)
     go_enter Tryz.func9, Tryz.ntmps9
     go_wp2_with fail
     go_ret
     exact ⟨by rw [<- HE.out]; rfl, 0, by rw [World.drewN_zero]⟩
    ·have HE := Lib.hid (show (⟨#[48, 49, 50, 51, 52, 53, 54, 55, 56, 57]⟩ : ByteArray).extract 2 3 = ⟨(Lib.itoa 2).toArray⟩ by rw [fc (by decide) (by decide)]; rfl)
     go_enter Tryz.func9, Tryz.ntmps9
     go_wp2_with fail
     go_ret
     exact ⟨by rw [<- HE.out]; rfl, 0, by rw [World.drewN_zero]⟩
    ·have HE := Lib.hid (show (⟨#[48, 49, 50, 51, 52, 53, 54, 55, 56, 57]⟩ : ByteArray).extract 3 4 = ⟨(Lib.itoa 3).toArray⟩ by rw [fc (by decide) (by decide)]; rfl)
     go_enter Tryz.func9, Tryz.ntmps9
     go_wp2_with fail
     go_ret
     exact ⟨by rw [<- HE.out]; rfl, 0, by rw [World.drewN_zero]⟩
    ·have HE := Lib.hid (show (⟨#[48, 49, 50, 51, 52, 53, 54, 55, 56, 57]⟩ : ByteArray).extract 4 5 = ⟨(Lib.itoa 4).toArray⟩ by rw [fc (by decide) (by decide)]; rfl)
     go_enter Tryz.func9, Tryz.ntmps9
     go_wp2_with fail
     go_ret
     exact ⟨by rw [<- HE.out]; rfl, 0, by rw [World.drewN_zero]⟩
    ·have HE := Lib.hid (show (⟨#[48, 49, 50, 51, 52, 53, 54, 55, 56, 57]⟩ : ByteArray).extract 5 6 = ⟨(Lib.itoa 5).toArray⟩ by rw [fc (by decide) (by decide)]; rfl)
     go_enter Tryz.func9, Tryz.ntmps9
     go_wp2_with fail
     go_ret
     exact ⟨by rw [<- HE.out]; rfl, 0, by rw [World.drewN_zero]⟩
    ·have HE := Lib.hid (show (⟨#[48, 49, 50, 51, 52, 53, 54, 55, 56, 57]⟩ : ByteArray).extract 6 7 = ⟨(Lib.itoa 6).toArray⟩ by rw [fc (by decide) (by decide)]; rfl)
     go_enter Tryz.func9, Tryz.ntmps9
     go_wp2_with fail
     go_ret
     exact ⟨by rw [<- HE.out]; rfl, 0, by rw [World.drewN_zero]⟩
    ·have HE := Lib.hid (show (⟨#[48, 49, 50, 51, 52, 53, 54, 55, 56, 57]⟩ : ByteArray).extract 7 8 = ⟨(Lib.itoa 7).toArray⟩ by rw [fc (by decide) (by decide)]; rfl)
     go_enter Tryz.func9, Tryz.ntmps9
     go_wp2_with fail
     go_ret
     exact ⟨by rw [<- HE.out]; rfl, 0, by rw [World.drewN_zero]⟩
    ·have HE := Lib.hid (show (⟨#[48, 49, 50, 51, 52, 53, 54, 55, 56, 57]⟩ : ByteArray).extract 8 9 = ⟨(Lib.itoa 8).toArray⟩ by rw [fc (by decide) (by decide)]; rfl)
     go_enter Tryz.func9, Tryz.ntmps9
     go_wp2_with fail
     go_ret
     exact ⟨by rw [<- HE.out]; rfl, 0, by rw [World.drewN_zero]⟩
    ·have HE := Lib.hid (show (⟨#[48, 49, 50, 51, 52, 53, 54, 55, 56, 57]⟩ : ByteArray).extract 9 10 = ⟨(Lib.itoa 9).toArray⟩ by rw [fc (by decide) (by decide)]; rfl)
     go_enter Tryz.func9, Tryz.ntmps9
     go_wp2_with fail
     go_ret
     exact ⟨by rw [<- HE.out]; rfl, 0, by rw [World.drewN_zero]⟩
   ·obtain ⟨m, rfl⟩ : ∃ m : Nat, n = (m : Int) := ⟨n.toNat, by omega⟩
    have kX : m <= 9223372036854775807 := by have := hn.2; omega
    have hm2 : 10 <= m := by omega
    cases N with
    | zero => omega
    | succ N =>
     have Bv := Lib.hid (fun W => lK N ((m / 10 : Nat) : Int) W (by omega) ⟨by omega, by omega⟩)
     have HE := Lib.hid (And.intro (Dv (n := (m : Int)) (by omega)) (Ga (m % 10) (by omega)))
     rw [nW, nX] at HE
     have e1 := nW m
     have e2 := nX m
     obtain ⟨q, hq⟩ : ∃ q, m / 10 = q := ⟨_, rfl⟩
     obtain ⟨d, hd⟩ : ∃ d, m % 10 = d := ⟨_, rfl⟩
     have V2 : d < 10 := by omega
     have V3 : q <= 922337203685477580 := by omega
     rw [hq] at Bv HE e1
     rw [hd] at HE e2
     clear hq hd hn hN
     have w1 : IntKind.i64.wrap (q : Int) = (q : Int) := by rw [IntKind.wrap_i64]; omega
     have w2 : IntKind.i64.wrap (d : Int) = (d : Int) := by rw [IntKind.wrap_i64]; omega
     have w3 : IntKind.i64.wrap ((d : Int) + 1) = (d : Int) + 1 := by rw [IntKind.wrap_i64]; omega
     have hc1 : 0 <= (d : Int) + 1 /\ (d : Int) + 1 <= 10 := by omega
     have hc2 : (d : Int) <= (d : Int) + 1 := by omega
     have hc3 : ¬ 9223372036854775807 < (Lib.itoa ((q : Int))).length + (min (d + 1) 10 - d) := by have := rN (n := (q : Int)) ⟨by omega, by omega⟩; omega
     go_enter Tryz.func9, Tryz.ntmps9
     go_wp2_with fail
     go_quiet (first | (go_at_call 9; exact (Bv.out _).mono (fun e w' ⟨h1, j, h2⟩ => ⟨h1, _, h2.trans (World.drewN_drewN _ _ _)⟩)) | fail)
     go_wp2_with fail
     go_ret
     refine ⟨?_, _, rfl⟩
     show Ending.returned (.string ((⟨(Lib.itoa ((q : Int))).toArray⟩ : ByteArray) ++ (⟨#[48, 49, 50, 51, 52, 53, 54, 55, 56, 57]⟩ : ByteArray).extract d (d + 1))) = .returned (.string ⟨(Lib.itoa ((m : Int))).toArray⟩)
     rw [HE.out.2, Cb, HE.out.1]
     simp
@[go_sem] theorem Lq (b : UInt8) (t : List UInt8) (h : 0 < (⟨(b :: t).toArray⟩ : ByteArray).size) : (⟨(b :: t).toArray⟩ : ByteArray)[0]'h = b := rfl
end
end Go.Proofs.YtagemonojdgbdaaGreatDoor
