import Derived.Test.YtagemonojdgbdaaGreatDoorQ02
import Derived.Test.YtagemonojdgbdaaGreatDoorQ10
import Derived.Test.YtagemonojdgbdaaGreatDoorQ37
import Derived.Laws.RangeAny
import Derived.Laws.RangeString
import Derived.Deep.Cut
namespace Go.Proofs.YtagemonojdgbdaaGreatDoor
set_option maxRecDepth 100000
open Go.RowKit
def cC.cells (o : cC) : List Value := [.int .i64 o.d, .int .i64 o.a, .int .i64 o.b, .int .i64 o.c, .int .i64 o.n]
def cC.val (o : cC) : Value := .agg #[.int .i64 o.d, .int .i64 o.a, .int .i64 o.b, .int .i64 o.c, .int .i64 o.n]
def pS (w : World) (F : Nat -> Prop) (v : Value) (l : List cC) : Prop := bE 5 w F v (l.map cC.cells)
def nT : Nat -> List UInt8
 | 1 => [65, 67]
 | 2 => [65, 66]
 | 3 => [65, 66]
 | 4 => [65, 66]
 | 5 => [65, 66]
 | 6 => [65, 66]
 | 7 => [65, 66]
 | 8 => [65, 66, 67]
 | 9 => [65, 66]
 | 10 => [66]
 | 11 => [65, 66, 67]
 | 12 => [65, 66, 67, 78]
 | 13 => [65, 78]
 | 14 => [67, 78]
 | 15 => [65]
 | _ => []
def jN (w : World) : Prop := ∀ d : Nat, d < 16 -> w.cell? ⟨0, d * 2 + 1, none⟩ = some (.string ⟨(nT d).toArray⟩)
theorem jN.below {w w' : World} (h : jN w) (hb : Below w.heap.size w w') : jN w' := fun d hd => (hb.cell (p := ⟨0, d * 2 + 1, none⟩) (World.block_lt_of_cell? _ _ (h d hd))).trans (h d hd)
def fQ : Nat -> Int
 | 0 => 65
 | 1 => 66
 | 2 => 67
 | _ => 78
theorem Dc : ∀ d, d < 16 -> 1 <= d -> ∀ i, i < 4 -> decide (0 <= Lib.indexByte (nT d) (fQ i).toNat.toUInt8) = rZ (d : Int) i := by decide
open Go.Shelf in
theorem Tryz.iF (s : ByteArray) (r : Int) (w : World) (h0 : 0 <= r) (h1 : r < 128) :
  Calls Tryz.prog 126 #[.string s, .int .i32 r] w fun e w' => e = .returned (.bool (decide (0 <= Lib.indexByte s.data.toList r.toNat.toUInt8))) /\ w' = w := Any.strings_ContainsRune_ascii Tryz.IA s r w h0 h1
theorem FN (w : World) (B b : Nat) (i : Nat) (hi : i < 4) (hc : w.cell? ⟨B, 0, none⟩ = some (.pointer (some ⟨b, 0, none⟩))) :
  Calls Tryz.prog 158 #[.int .i32 (fQ i), .pointer (some ⟨B, 0, none⟩)] w fun e w' => e = .returned (.pointer (some ⟨b, 1 + i, none⟩)) /\ w = w' := by
 match i, hi with
 | 0, _ =>
  go_enter Tryz.func158, Tryz.ntmps158
  go_wp2_with fail
  go_ret
  exact ⟨rfl, rfl⟩
 | 1, _ =>
  go_enter Tryz.func158, Tryz.ntmps158
  go_wp2_with fail
  go_ret
  exact ⟨rfl, rfl⟩
 | 2, _ =>
  go_enter Tryz.func158, Tryz.ntmps158
  go_wp2_with fail
  go_ret
  exact ⟨rfl, rfl⟩
 | 3, _ =>
  go_enter Tryz.func158, Tryz.ntmps158
  go_wp2_with fail
  go_ret
  exact ⟨rfl, rfl⟩
theorem tW (w : World) (b : Nat) :
  Calls Tryz.prog 125 #[.pointer (some ⟨b, 0, none⟩)] w fun e w' => e = .returned (.func (.func 158) #[] #[.pointer (some ⟨w.heap.size, 0, none⟩)]) /\ w' = w.alloc (.cells #[.pointer (some ⟨b, 0, none⟩)] 237) := by
 go_enter Tryz.func125, Tryz.ntmps125
 go_wp2_with fail
 go_ret
 exact ⟨rfl, rfl⟩
theorem IB (w : World) (d : Int) (i : Nat) (hi : i < 4) :
  Calls Tryz.prog 127 #[.int .i64 d, .int .i32 (fQ i)] w fun e w' => e = .returned (.tuple #[.int .i64 (GI d i), .int .i64 (Ck d i)]) /\ w = w' := by
 match i, hi with
 | 0, _ =>
  by_cases h : d = 9
  ·subst h
   go_enter Tryz.func127, Tryz.ntmps127
   go_wp2_with fail
   go_ret2
   exact ⟨rfl, rfl⟩
  ·have e : (d == 9) = false := by simpa using h
   have hl : Ck d 0 = 7 := by simp [Ck, h]
   have HL := Lib.hid hl
   clear h hl
   go_enter Tryz.func127, Tryz.ntmps127
   go_wp2_with fail
   go_ret2
   exact ⟨by rw [HL.out]; rfl, rfl⟩
 | 1, _ =>
  go_enter Tryz.func127, Tryz.ntmps127
  go_wp2_with fail
  go_ret2
  exact ⟨rfl, rfl⟩
 | 2, _ =>
  by_cases h : d = 1
  ·subst h
   go_enter Tryz.func127, Tryz.ntmps127
   go_wp2_with fail
   go_ret2
   exact ⟨rfl, rfl⟩
  ·by_cases h2 : d = 14
   ·subst h2
    go_enter Tryz.func127, Tryz.ntmps127
    go_wp2_with fail
    go_ret2
    exact ⟨rfl, rfl⟩
   ·have e : (d == 1) = false := by simpa using h
    have e2 : (d == 14) = false := by simpa using h2
    have HL := Lib.hid (show Ck d 2 = 3 /\ GI d 2 = 0 by simp [Ck, GI, h, h2])
    clear h h2
    go_enter Tryz.func127, Tryz.ntmps127
    go_wp2_with fail
    go_ret2
    exact ⟨by rw [HL.out.1, HL.out.2]; rfl, rfl⟩
 | 3, _ =>
  by_cases h : d = 12
  ·subst h
   go_enter Tryz.func127, Tryz.ntmps127
   go_wp2_with fail
   go_ret2
   exact ⟨rfl, rfl⟩
  ·have e : (d == 12) = false := by simpa using h
   have HL := Lib.hid (show Ck d 3 = 64 by simp [Ck, h])
   clear h
   go_enter Tryz.func127, Tryz.ntmps127
   go_wp2_with fail
   go_ret2
   exact ⟨by rw [HL.out]; rfl, rfl⟩
def Ac : ByteArray := ⟨#[65, 66, 67, 78]⟩
theorem Ad : ∀ (i : Nat) (h : i < Ac.size), (Ac[i]'h).toNat < 128 := by decide
theorem Dd (W : World) (i : Nat) (hi : i < 4) (ty : TypeId) : (Instr.next (.pointer (some ⟨W.heap.size, 0, none⟩)) true ty).run Tryz.prog (W.iter Ac i) = .ok (.tuple #[.bool true, .int .i64 (i : Int), .int .i32 (fQ i)]) (W.iter Ac (i + 1)) := by
 have h : i < Ac.size := hi
 have := run_next_ascii (P := Tryz.prog) W Ac i ty h (Ad i h)
 rw [this]
 match i, hi with
 | 0, _ => rfl
 | 1, _ => rfl
 | 2, _ => rfl
 | 3, _ => rfl
theorem BU (i : Nat) : 0 <= fQ i /\ fQ i < 128 := by
 unfold fQ
 split <;> omega
theorem FO {w : World} {b : Nat} {o : cC} (hb : w.heap[b]? = some (.cells #[.int .i64 o.d, .int .i64 o.a, .int .i64 o.b, .int .i64 o.c, .int .i64 o.n] 104 (0, 0))) (i : Nat) (hi : i < 4) : w.cell? ⟨b, 1 + i, none⟩ = some (.int .i64 (o.s5 i)) := by
 match i, hi with
 | 0, _ => simp [World.cell?, hb, cC.s5]
 | 1, _ => simp [World.cell?, hb, cC.s5]
 | 2, _ => simp [World.cell?, hb, cC.s5]
 | 3, _ => simp [World.cell?, hb, cC.s5]
theorem Ae {o : cC} (hd : (1 <= o.d /\ o.d <= 15)) : fe o = (List.range 4).all (fun i => rZ o.d i || o.s5 i == 0) := by
 unfold fe
 rw [decide_eq_true hd, Bool.true_and]
def sM (W : World) (b B : Nat) (dn : Nat) (A B' C N : Int) : Prop :=
 W.cell? ⟨b, 0, none⟩ = some (.int .i64 (dn : Int)) /\ W.cell? ⟨B, 0, none⟩ = some (.pointer (some ⟨b, 0, none⟩)) /\ W.cell? ⟨0, dn * 2 + 1, none⟩ = some (.string ⟨(nT dn).toArray⟩) /\ ∀ i, i < 4 -> W.cell? ⟨b, 1 + i, none⟩ = some (.int .i64 ((⟨(dn : Int), A, B', C, N⟩ : cC).s5 i))
theorem sM.alloc {W : World} {b B dn : Nat} {A B' C N : Int} (h : sM W b B dn A B' C N) (o : Obj) : sM (W.alloc o) b B dn A B' C N := ⟨bW h.1 _, bW h.2.1 _, bW h.2.2.1 _, fun i hi => bW (h.2.2.2 i hi) _⟩
theorem sM.iter {W : World} {b B dn : Nat} {A B' C N : Int} (h : sM W b B dn A B' C N) (s : ByteArray) (i : Nat) : sM (W.iter s i) b B dn A B' C N := h.alloc _
theorem sM.start (w : World) (hs : jN w) (dn : Nat) (hd : dn < 16) (A B C N : Int) : sM ((w.alloc (.cells #[.int .i64 (dn : Int), .int .i64 A, .int .i64 B, .int .i64 C, .int .i64 N] 104)).alloc (.cells #[.pointer (some ⟨w.heap.size, 0, none⟩)] 237)) w.heap.size (w.heap.size + 1) dn A B C N :=
 ⟨by simp, by simp, (hs.below (((Below.refl _ _).alloc (Nat.le_refl _) _).alloc (by simp) _)) dn hd, fun i hi => bW (FO (o := ⟨(dn : Int), A, B, C, N⟩) (heap_alloc_new _ _) i hi) _⟩
theorem yq {p : Nat -> Bool} {i : Nat} : (List.range (i + 1)).all p = ((List.range i).all p && p i) := by rw [List.range_succ, List.all_append]; simp
set_option maxHeartbeats 1000000 in
theorem De (w : World) (hs : jN w) (dn : Nat) (hd1 : 1 <= dn) (Df : dn < 16) (A B C N : Int) :
  Calls Tryz.prog 83 #[.agg #[.int .i64 (dn : Int), .int .i64 A, .int .i64 B, .int .i64 C, .int .i64 N]] w fun e w' => e = .returned (.bool (fe ⟨(dn : Int), A, B, C, N⟩)) /\ Below w.heap.size w w' := by
 have yQ := Ae (o := ⟨(dn : Int), A, B, C, N⟩) ⟨by show (1 : Int) <= dn; omega, by show (dn : Int) <= 15; omega⟩
 have hst := sM.start w hs dn Df A B C N
 have hBl : Below w.heap.size w ((w.alloc (.cells #[.int .i64 (dn : Int), .int .i64 A, .int .i64 B, .int .i64 C, .int .i64 N] 104)).alloc (.cells #[.pointer (some ⟨w.heap.size, 0, none⟩)] 237)) := ((Below.refl _ _).alloc (Nat.le_refl _) _).alloc (by simp) _
 have HH := Lib.hid (And.intro yQ (Dc dn Df hd1))
 have hdi : ¬ ((dn : Int) < 1) := by omega
 have QZ : ¬ ((15 : Int) < (dn : Int)) := by omega
 clear yQ hs
 go_enter Tryz.func83, Tryz.ntmps83
 go_wp2_with fail
 refine (tW _ w.heap.size).mono ?_
 rintro e w1 ⟨rfl, hw1⟩
 have hsz : (w.alloc (.cells #[.int .i64 (dn : Int), .int .i64 A, .int .i64 B, .int .i64 C, .int .i64 N] 104)).heap.size = w.heap.size + 1 := by simp
 rw [hsz]
 generalize ((w.alloc (.cells #[.int .i64 (dn : Int), .int .i64 A, .int .i64 B, .int .i64 C, .int .i64 N] 104)).alloc (.cells #[.pointer (some ⟨w.heap.size, 0, none⟩)] 237)) = W at hst hBl hw1
 subst hw1
 have HS := Lib.hid (And.intro hst hBl)
 clear hst hBl hsz
 obtain ⟨b, hb⟩ : ∃ b, w.heap.size = b := ⟨_, rfl⟩
 have HB := Lib.hid hb
 have LV := Lib.hid (show b <= w1.heap.size by have := HS.out.2.size; omega)
 rw [hb] at HS
 go_wp2_with fail
 clear hb
 go_loopw [5] (fun _ wr => ∃ i : Nat, i <= 4 /\ wr = w1.iter ⟨#[65, 66, 67, 78]⟩ i /\ (List.range i).all (fun j => rZ (dn : Int) j || (⟨(dn : Int), A, B, C, N⟩ : cC).s5 j == 0) = true) (fun _ wr => 4 - wr.iterPos w1.heap.size)
 case atStart => exact ⟨0, Nat.zero_le _, rfl, rfl⟩
 case round =>
  obtain ⟨i, hi, rfl, hal⟩ := hrel
  by_cases hlt : i < 4
  ·have hnx := Dd w1 i hlt
   unfold Ac at hnx
   obtain ⟨c0, cB, cT, cf⟩ := HS.out.1.iter ⟨#[65, 66, 67, 78]⟩ (i + 1)
   have Q3 := cf i hlt
   have DK := BU i
   have EA := HH.out.2 i hlt
   obtain ⟨z, hz⟩ : ∃ z, (⟨(dn : Int), A, B, C, N⟩ : cC).s5 i = z := ⟨_, rfl⟩
   rw [hz] at Q3
   obtain ⟨q, hq⟩ : ∃ q, rZ (dn : Int) i = q := ⟨_, rfl⟩
   have HI := Lib.hid (And.intro hal (And.intro hz hq))
   have hcr := Tryz.iF ⟨(nT dn).toArray⟩ (fQ i) (w1.iter ⟨#[65, 66, 67, 78]⟩ (i + 1)) DK.1 DK.2
   rw [EA, hq] at hcr
   have VH := Lib.hid hcr
   have Ps := Lib.hid (FN (w1.iter ⟨#[65, 66, 67, 78]⟩ (i + 1)) (b + 1) b i hlt cB)
   clear hal hz hq EA cf hcr
   go_wp2_with fail
   refine VH.out.mono ?_
   rintro e w2 ⟨rfl, rfl⟩
   cases q with
   | true =>
    have HQ := Lib.hid HI.out.2.2
    go_wp2_with fail
    go_roundw
    case rel => exact ⟨i + 1, by omega, rfl, by rw [yq, HI.out.1, HQ.out]; rfl⟩
    case measure => simp; omega
   | false =>
    have HQ := Lib.hid HI.out.2.2
    go_wp2_with fail
    refine Ps.out.mono ?_
    rintro e w3 ⟨rfl, rfl⟩
    by_cases hz0 : z = 0
    ·have HZ := Lib.hid (HI.out.2.1.trans hz0)
     subst hz0
     go_wp2_with fail
     go_roundw
     case rel => exact ⟨i + 1, by omega, rfl, by rw [yq, HI.out.1, HQ.out, HZ.out]; rfl⟩
     case measure => simp; omega
    ·have WL : (z != 0) = true := by simpa using hz0
     have HZ := Lib.hid (And.intro hz0 HI.out.2.1)
     clear hz0
     go_wp2_with fail
     go_ret
     refine ⟨?_, ?_⟩
     ·rw [HH.out.1]
      have : (List.range 4).all (fun j => rZ (dn : Int) j || (⟨(dn : Int), A, B, C, N⟩ : cC).s5 j == 0) = false := by
       rw [Bool.eq_false_iff]
       intro hh
       rw [List.all_eq_true] at hh
       have h1 := hh i (List.mem_range.2 hlt)
       rw [HQ.out, HZ.out.2] at h1
       simp at h1
       exact HZ.out.1 h1
      rw [this]
      rfl
     ·rw [HB.out]
      exact HS.out.2.alloc LV.out _
  ·obtain rfl : i = 4 := by omega
   have HA := Lib.hid hal
   clear hal
   have hnx : ∀ ty, (Instr.next (.pointer (some ⟨w1.heap.size, 0, none⟩)) true ty).run Tryz.prog (w1.iter ⟨#[65, 66, 67, 78]⟩ 4) = .ok (.tuple #[.bool false]) (w1.iter ⟨#[65, 66, 67, 78]⟩ 4) := fun ty => run_next_end w1 ⟨#[65, 66, 67, 78]⟩ 4 ty (by decide)
   go_wp2_with fail
   go_ret
   refine ⟨by rw [HH.out.1, HA.out]; rfl, ?_⟩
   rw [HB.out]
   exact HS.out.2.alloc LV.out _
theorem Dh (w : World) (hs : jN w) (o : cC) : Calls Tryz.prog 83 #[o.val] w fun e w' => e = .returned (.bool (fe o)) /\ Below w.heap.size w w' := by
 obtain ⟨D, A, B, C, N⟩ := o
 unfold cC.val
 by_cases hd : 1 <= D /\ D <= 15
 ·obtain ⟨dn, rfl⟩ : ∃ dn : Nat, D = (dn : Int) := ⟨D.toNat, by omega⟩
  exact De w hs dn (by omega) (by omega) A B C N
 ·have HF := Lib.hid (show fe ⟨D, A, B, C, N⟩ = false by unfold fe; rw [decide_eq_false hd]; rfl)
  by_cases h1 : D < 1
  ·clear hd hs
   go_enter Tryz.func83, Tryz.ntmps83
   go_wp2_with fail
   go_ret
   exact ⟨by rw [HF.out]; rfl, (Below.refl _ _).alloc (Nat.le_refl _) _⟩
  ·have h2 : 15 < D := by omega
   clear hd hs
   go_enter Tryz.func83, Tryz.ntmps83
   go_wp2_with fail
   go_ret
   exact ⟨by rw [HF.out]; rfl, (Below.refl _ _).alloc (Nat.le_refl _) _⟩
def LW (o : cC) (i : Nat) : Bool := decide (GI o.d i <= o.s5 i) && decide (o.s5 i <= Ck o.d i)
def jw (d : Nat) : List Nat := (List.range 4).filter (rZ (d : Int))
theorem tX : ∀ d, d < 16 -> 1 <= d -> nT d = (jw d).map (fun i => (fQ i).toNat.toUInt8) := by decide
theorem KV {d i j : Nat} (h : (jw d)[j]? = some i) : i < 4 := by
 have := List.mem_of_getElem? h
 unfold jw at this
 exact List.mem_range.1 (List.mem_filter.1 this).1
theorem Af (o : cC) {dn : Nat} (hd : o.d = (dn : Int)) : gu o = (jw dn).all (LW o) := by
 unfold gu jw
 rw [List.all_filter]
 congr 1
 funext i
 rw [hd]
 unfold LW
 rw [hd]
theorem FP (W : World) (s : ByteArray) (dn j i : Nat) (hs : s.data.toList = (jw dn).map (fun i => (fQ i).toNat.toUInt8)) (hi : (jw dn)[j]? = some i) (ty : TypeId) :
  (Instr.next (.pointer (some ⟨W.heap.size, 0, none⟩)) true ty).run Tryz.prog (W.iter s j) = .ok (.tuple #[.bool true, .int .i64 (j : Int), .int .i32 (fQ i)]) (W.iter s (j + 1)) := by
 have hj : s.data.toList[j]? = some (fQ i).toNat.toUInt8 := by rw [hs]; simp [hi]
 have hjl : j < s.size := by
  have := (List.getElem?_eq_some_iff.1 hj).1
  simpa using this
 have hv : (s[j]'hjl) = (fQ i).toNat.toUInt8 := by
  have h2 := (List.getElem?_eq_some_iff.1 hj).2
  rw [<- h2]
  rfl
 have DK := BU i
 have hn : (s[j]'hjl).toNat = (fQ i).toNat := by rw [hv]; simp; omega
 have := run_next_ascii (P := Tryz.prog) W s j ty hjl (by rw [hn]; omega)
 rw [this, hn]
 have e : (((fQ i).toNat : Nat) : Int) = fQ i := by omega
 rw [e]
set_option maxHeartbeats 1000000 in
theorem Di (w : World) (hs : jN w) (dn : Nat) (hd1 : 1 <= dn) (Df : dn < 16) (A B C N : Int) :
  Calls Tryz.prog 84 #[.agg #[.int .i64 (dn : Int), .int .i64 A, .int .i64 B, .int .i64 C, .int .i64 N]] w fun e w' => e = .returned (.bool (gu ⟨(dn : Int), A, B, C, N⟩)) /\ Below w.heap.size w w' := by
 have yQ := Af ⟨(dn : Int), A, B, C, N⟩ (dn := dn) rfl
 have hst := sM.start w hs dn Df A B C N
 have hBl : Below w.heap.size w ((w.alloc (.cells #[.int .i64 (dn : Int), .int .i64 A, .int .i64 B, .int .i64 C, .int .i64 N] 104)).alloc (.cells #[.pointer (some ⟨w.heap.size, 0, none⟩)] 237)) := ((Below.refl _ _).alloc (Nat.le_refl _) _).alloc (by simp) _
 have TJ : (⟨(nT dn).toArray⟩ : ByteArray).data.toList = (jw dn).map (fun i => (fQ i).toNat.toUInt8) := by rw [<- tX dn Df hd1]
 have HH := Lib.hid (And.intro yQ TJ)
 have hdi : (0 : Int) <= (dn : Int) := by omega
 have QZ : (dn : Int) < 16 := by omega
 clear yQ hs TJ
 go_enter Tryz.func84, Tryz.ntmps84
 go_wp2_with fail
 refine (tW _ w.heap.size).mono ?_
 rintro e w1 ⟨rfl, hw1⟩
 have hsz : (w.alloc (.cells #[.int .i64 (dn : Int), .int .i64 A, .int .i64 B, .int .i64 C, .int .i64 N] 104)).heap.size = w.heap.size + 1 := by simp
 rw [hsz]
 generalize ((w.alloc (.cells #[.int .i64 (dn : Int), .int .i64 A, .int .i64 B, .int .i64 C, .int .i64 N] 104)).alloc (.cells #[.pointer (some ⟨w.heap.size, 0, none⟩)] 237)) = W at hst hBl hw1
 subst hw1
 have HS := Lib.hid (And.intro hst hBl)
 obtain ⟨c0, cB, cT, _⟩ := hst
 clear hBl hsz
 obtain ⟨b, hb⟩ : ∃ b, w.heap.size = b := ⟨_, rfl⟩
 have HB := Lib.hid hb
 have LV := Lib.hid (show b <= w1.heap.size by have := HS.out.2.size; omega)
 rw [hb] at HS c0 cB
 rw [hb]
 clear hb
 go_wp2_with fail
 clear c0 cB cT
 obtain ⟨s, Q4⟩ : ∃ s : ByteArray, (⟨(nT dn).toArray⟩ : ByteArray) = s := ⟨_, rfl⟩
 have TK := Lib.hid (show s.data.toList = (jw dn).map (fun i => (fQ i).toNat.toUInt8) by rw [<- Q4, <- tX dn Df hd1])
 rw [Q4]
 clear Q4
 go_loopw [5] (fun _ wr => ∃ j : Nat, j <= (jw dn).length /\ wr = w1.iter s j /\ ((jw dn).take j).all (LW ⟨(dn : Int), A, B, C, N⟩) = true) (fun _ wr => (jw dn).length - wr.iterPos w1.heap.size)
 case atStart => exact ⟨0, Nat.zero_le _, rfl, rfl⟩
 case round =>
  obtain ⟨j, hj, rfl, hal⟩ := hrel
  by_cases hlt : j < (jw dn).length
  ·obtain ⟨i, hi⟩ : ∃ i, (jw dn)[j]? = some i := ⟨_, List.getElem?_eq_getElem hlt⟩
   have hi4 := KV hi
   have hnx := FP w1 s dn j i TK.out hi
   obtain ⟨c0, cB, cT, cf⟩ := HS.out.1.iter s (j + 1)
   have Q3 := cf i hi4
   have hin : LW ⟨(dn : Int), A, B, C, N⟩ i = (decide (GI (dn : Int) i <= (⟨(dn : Int), A, B, C, N⟩ : cC).s5 i) && decide ((⟨(dn : Int), A, B, C, N⟩ : cC).s5 i <= Ck (dn : Int) i)) := rfl
   have hsp := IB (w1.iter s (j + 1)) (dn : Int) i hi4
   obtain ⟨z, hz⟩ : ∃ z, (⟨(dn : Int), A, B, C, N⟩ : cC).s5 i = z := ⟨_, rfl⟩
   obtain ⟨lo, hlo⟩ : ∃ z, GI (dn : Int) i = z := ⟨_, rfl⟩
   obtain ⟨hi', hhi⟩ : ∃ z, Ck (dn : Int) i = z := ⟨_, rfl⟩
   rw [hz, hlo, hhi] at hin
   rw [hz] at Q3
   rw [hlo, hhi] at hsp
   have VI := Lib.hid hsp
   have Ps := Lib.hid (FN (w1.iter s (j + 1)) (b + 1) b i hi4 cB)
   have HI := Lib.hid (And.intro hal (And.intro hin hi))
   clear hal hin hi hsp hz hlo hhi cf hj
   go_wp2_with fail
   refine VI.out.mono ?_
   rintro e w2 ⟨rfl, rfl⟩
   go_wp2_with fail
   refine Ps.out.mono ?_
   rintro e w3 ⟨rfl, rfl⟩
   by_cases hlo : z < lo
   ·have HL := Lib.hid hlo
    go_wp2_with fail
    go_ret
    refine ⟨?_, ?_⟩
    ·rw [HH.out.1]
     have : (jw dn).all (LW ⟨(dn : Int), A, B, C, N⟩) = false := by
      rw [Bool.eq_false_iff]
      intro hh
      rw [List.all_eq_true] at hh
      have h1 := hh i (List.mem_of_getElem? HI.out.2.2)
      rw [HI.out.2.1, Bool.and_eq_true, decide_eq_true_iff, decide_eq_true_iff] at h1
      have := HL.out
      omega
     rw [this]
     rfl
    ·rw [HB.out]
     exact HS.out.2.alloc LV.out _
   ·go_wp2_with fail
    refine Ps.out.mono ?_
    rintro e w4 ⟨rfl, rfl⟩
    by_cases Bo : hi' < z
    ·have HL := Lib.hid Bo
     go_wp2_with fail
     go_ret
     refine ⟨?_, ?_⟩
     ·rw [HH.out.1]
      have : (jw dn).all (LW ⟨(dn : Int), A, B, C, N⟩) = false := by
       rw [Bool.eq_false_iff]
       intro hh
       rw [List.all_eq_true] at hh
       have h1 := hh i (List.mem_of_getElem? HI.out.2.2)
       rw [HI.out.2.1, Bool.and_eq_true, decide_eq_true_iff, decide_eq_true_iff] at h1
       have := HL.out
       omega
      rw [this]
      rfl
     ·rw [HB.out]
      exact HS.out.2.alloc LV.out _
    ·have HL := Lib.hid (And.intro hlo Bo)
     go_wp2_with fail
     go_roundw
     case rel =>
      refine ⟨j + 1, by omega, rfl, ?_⟩
      rw [List.take_add_one, HI.out.2.2, List.all_append, HI.out.1]
      have h3 := HL.out
      simp [HI.out.2.1]
      omega
     case measure => simp; omega
  ·obtain rfl : j = (jw dn).length := by omega
   have HA := Lib.hid hal
   have hnl : ¬ (jw dn).length < s.size := by
    have := congrArg List.length TK.out
    simp at this
    have h2 : s.data.size = s.size := rfl
    omega
   clear hal hlt hj
   have hnx : ∀ ty, (Instr.next (.pointer (some ⟨w1.heap.size, 0, none⟩)) true ty).run Tryz.prog (w1.iter s (jw dn).length) = .ok (.tuple #[.bool false]) (w1.iter s (jw dn).length) := fun ty => run_next_end w1 s (jw dn).length ty hnl
   clear hnl
   go_wp2_with fail
   go_ret
   refine ⟨?_, ?_⟩
   ·have := HA.out
    rw [List.take_length] at this
    rw [HH.out.1, this]
    rfl
   ·rw [HB.out]
    exact HS.out.2.alloc LV.out _
theorem Dj (w : World) (hs : jN w) (o : cC) (ho : 1 <= o.d /\ o.d <= 15) : Calls Tryz.prog 84 #[o.val] w fun e w' => e = .returned (.bool (gu o)) /\ Below w.heap.size w w' := by
 obtain ⟨D, A, B, C, N⟩ := o
 unfold cC.val
 simp only at ho
 obtain ⟨dn, rfl⟩ : ∃ dn : Nat, D = (dn : Int) := ⟨D.toNat, by omega⟩
 exact Di w hs dn (by omega) (by omega) A B C N
theorem yr (w : World) (o : cC) : Calls Tryz.prog 128 #[o.val] w fun e w' => e = .returned (.bool o.holds) /\ Below w.heap.size w w' := by
 obtain ⟨D, A, B, C, N⟩ := o
 unfold cC.val cC.holds
 by_cases h : D = 13
 ·subst h
  go_enter Tryz.func128, Tryz.ntmps128
  go_wp2_with fail
  go_ret
  exact ⟨rfl, (Below.refl _ _).alloc (Nat.le_refl _) _⟩
 ·have e : (D == 13) = false := by simpa using h
  clear h
  go_enter Tryz.func128, Tryz.ntmps128
  go_wp2_with fail
  go_ret
  refine ⟨?_, (Below.refl _ _).alloc (Nat.le_refl _) _⟩
  rw [e]
  rfl
theorem Tryz.FQ : (Tryz.prog.info? 3).map (fun i => (i.zero, i.size, i.bytes)) = some (some (.int .i64 0), 1, 8) := by kernel_rfl
def sliceLen : Value -> Nat
 | .slice _ n _ => n
 | _ => 0
def kW (w : World) (v : Value) (es : List Int) (wr : World) : Prop :=
 ∃ A c, v = .slice A es.length c /\ wr.ownsRow w.heap.size 3 1 v es.length (es.map (Value.int .i64)) /\ Below w.heap.size w wr
theorem kW.nil (w : World) : kW w (.slice none 0 0) [] w := ⟨none, 0, rfl, World.ownsRow_nil _ _ _ _, Below.refl _ _⟩
theorem kW.below {w wr w' : World} {v : Value} {es : List Int} (h : kW w v es wr) (hb : Below wr.heap.size wr w') : kW w v es w' :=
 let ⟨A, c, e, h1, h2⟩ := h; ⟨A, c, e, aC h1 hb, h2.trans (hb.mono h2.size)⟩
theorem Ag {w : World} {base : Nat} {e : TypeId} {A : Option Addr} {n c : Nat} {xs : List Value} {x : Value} (h : w.ownsRow base e 1 (.slice A (n + 1) c) (n + 1) (xs ++ [x])) (hl : xs.length = n) : w.ownsRow base e 1 (.slice A n c) n xs := by
 rcases h.2 with ⟨h1, h2⟩ | ⟨g, cap, cur, hv, hg, hb, hn, hc, hs, ht⟩
 ·injection h1 with _ h1 _; omega
 ·injection hv with e1 e2 e3
  subst e1 e3
  refine ⟨by simpa using hl, .inr ⟨g, c, cur, rfl, hg, hb, by omega, hc, hs, ?_⟩⟩
  have h3 : (cur.toList.take ((n + 1) * 1)).take (n * 1) = (xs ++ [x]).take (n * 1) := by rw [ht]
  rw [List.take_take, Nat.min_eq_left (by omega)] at h3
  rw [h3, List.take_append_of_le_length (by omega), List.take_of_length_le (by omega)]
theorem kW.pop {w wr : World} {A : Option Addr} {n c : Nat} {es : List Int} {x : Int} (h : kW w (.slice A n c) (es ++ [x]) wr) : kW w (.slice A es.length c) es wr := by
 obtain ⟨A', c', hv, h1, h2⟩ := h
 injection hv with e1 e2 e3
 subst e1 e2 e3
 rw [List.length_append, List.map_append] at h1
 exact ⟨A, c, rfl, Ag h1 (by simp), h2⟩
theorem kW.top {w wr : World} {A : Option Addr} {n c : Nat} {es : List Int} {x : Int} (h : kW w (.slice A n c) (es ++ [x]) wr) : ∃ g, A = some ⟨g, 0, none⟩ /\ wr.cell? ⟨g, es.length, none⟩ = some (.int .i64 x) /\ g < wr.heap.size /\ es.length + 1 <= c := by
 obtain ⟨A', c', hv, h1, h2⟩ := h
 injection hv with e1 e2 e3
 subst e1 e2 e3
 obtain ⟨g, cap, hv, hg0, hgl⟩ := h1.form (by simp)
 have hcap : es.length + 1 <= c := by
  rcases h1.2 with ⟨_, h0⟩ | ⟨_, _, _, hv2, _, _, hn, _⟩
  ·simp at h0
  ·injection hv2 with _ _ e3
   subst e3
   simpa using hn
 injection hv with e1 e2 e3
 subst e1
 refine ⟨g, rfl, ?_, hgl, hcap⟩
 have := h1.cellAt es.length (by simp)
 rw [this]
 simp
theorem pS.at_ {w : World} {F : Nat -> Prop} {A : Option Addr} {n c : Nat} {l : List cC} (h : pS w F (.slice A n c) l) {k : Nat} {x : cC} (hk : l[k]? = some x) :
  ∃ b o, A = some ⟨b, o, none⟩ /\ F b /\ w.cell? ⟨b, o + k * 5, none⟩ = some (.int .i64 x.d) /\ w.cell? ⟨b, o + k * 5 + 1, none⟩ = some (.int .i64 x.a) /\ w.cell? ⟨b, o + k * 5 + 2, none⟩ = some (.int .i64 x.b) /\
   w.cell? ⟨b, o + k * 5 + 3, none⟩ = some (.int .i64 x.c) /\ w.cell? ⟨b, o + k * 5 + 4, none⟩ = some (.int .i64 x.n) := by
 obtain ⟨A', n', c', hv, hl, _, _, hx⟩ := h
 injection hv with h1 h2 h3
 subst h1 h2 h3
 have hlt := (List.getElem?_eq_some_iff.1 hk).1
 obtain ⟨b, o, rfl, hF, hc⟩ := hx (by simp at hl; omega)
 have hx' : (l.map cC.cells)[k]? = some x.cells := by simp [hk]
 exact ⟨b, o, rfl, hF, hc k _ hx' 0 _ rfl, hc k _ hx' 1 _ rfl, hc k _ hx' 2 _ rfl, hc k _ hx' 3 _ rfl, hc k _ hx' 4 _ rfl⟩
theorem pS.slice {w : World} {F : Nat -> Prop} {v : Value} {l : List cC} (h : pS w F v l) : ∃ A c, v = .slice A l.length c /\ l.length <= c /\ c <= maxLen := by
 obtain ⟨A', n', c', hv, hl, h1, h2, _⟩ := h
 simp at hl
 exact ⟨A', c', by rw [hl]; exact hv, by omega, h2⟩
def Ou (w : World) (l : List cC) (k : Nat) (v : Value) (wr : World) : Prop :=
 ∃ es, kW w v es wr /\ es.Pairwise (fun a b => a ≥ b) /\ es.filter (fun e => decide ((k : Int) < e)) = opens l k /\ gF l k = true /\ es.length <= k
set_option maxHeartbeats 2000000 in
theorem Dk (w : World) (F : Nat -> Prop) (v : Value) (l : List cC) (h : pS w F v l) (hl : l.length <= 64) (hn : ∀ o ∈ l, o.holds = true -> 0 <= o.n /\ o.n <= 64) :
  Calls Tryz.prog 85 #[v] w fun e w' => e = .returned (.bool (iw l)) /\ Below w.heap.size w w' := by
 obtain ⟨i0, hi, hz0, hz1, hz2⟩ := info_parts Tryz.FQ
 obtain ⟨A, c, rfl, _⟩ := h.slice
 have H := Lib.hid (And.intro h (And.intro hn hi))
 clear h hn hi
 go_enter Tryz.func85, Tryz.ntmps85
 go_wp2_with fail
 go_loopw [3, 10] (fun v i wr => ∃ k : Nat, k <= l.length /\ i = .int .i64 (k : Int) /\ Ou w l k v wr) (fun _ i _ => l.length - (intOf i).toNat)
 case atStart => exact ⟨0, Nat.zero_le _, rfl, [], kW.nil w, List.Pairwise.nil, rfl, rfl, Nat.le_refl _⟩
 case round =>
  obtain ⟨k, hk, rfl, es0, hst, hpw, hfl, hnt, hle0⟩ := hrel
  by_cases hlt : k < l.length
  ·obtain ⟨x, hx⟩ : ∃ x, l[k]? = some x := ⟨_, List.getElem?_eq_getElem hlt⟩
   obtain ⟨b, o, rfl, vN, c0, c1, c2, c3, c4⟩ := H.out.1.at_ hx
   have hbl : Below w.heap.size w wr := let ⟨_, _, _, _, hb⟩ := hst; hb
   have nY := World.block_lt_of_cell? _ _ c0
   have d0 := (hbl.cell (p := ⟨b, o + k * 5, none⟩) nY).trans c0
   have d1 := (hbl.cell (p := ⟨b, o + k * 5 + 1, none⟩) nY).trans c1
   have d2 := (hbl.cell (p := ⟨b, o + k * 5 + 2, none⟩) nY).trans c2
   have d3 := (hbl.cell (p := ⟨b, o + k * 5 + 3, none⟩) nY).trans c3
   have d4 := (hbl.cell (p := ⟨b, o + k * 5 + 4, none⟩) nY).trans c4
   obtain ⟨D, A', B', C', N'⟩ := x
   simp only at d0 d1 d2 d3 d4
   have Ov := hst.below (((Below.refl _ _).alloc (Nat.le_refl _) (.cells #[.int .i64 D, .int .i64 A', .int .i64 B', .int .i64 C', .int .i64 N'] 104)))
   have HX := Lib.hid (And.intro hx (And.intro hpw (And.intro hfl (And.intro hnt Ov))))
   obtain ⟨A0, c0', rfl, _, _⟩ := hst
   clear hx hpw hfl hnt Ov hbl c0 c1 c2 c3 c4 vN
   go_upto_region 5 with fail
   have q0 : (wr.alloc (.cells #[.int .i64 D, .int .i64 A', .int .i64 B', .int .i64 C', .int .i64 N'] 104)).cell? ⟨wr.heap.size, 0, none⟩ = some (.int .i64 D) := by simp
   have q1 : (wr.alloc (.cells #[.int .i64 D, .int .i64 A', .int .i64 B', .int .i64 C', .int .i64 N'] 104)).cell? ⟨wr.heap.size, 1, none⟩ = some (.int .i64 A') := by simp
   have q2 : (wr.alloc (.cells #[.int .i64 D, .int .i64 A', .int .i64 B', .int .i64 C', .int .i64 N'] 104)).cell? ⟨wr.heap.size, 2, none⟩ = some (.int .i64 B') := by simp
   have q3 : (wr.alloc (.cells #[.int .i64 D, .int .i64 A', .int .i64 B', .int .i64 C', .int .i64 N'] 104)).cell? ⟨wr.heap.size, 3, none⟩ = some (.int .i64 C') := by simp
   have q4 : (wr.alloc (.cells #[.int .i64 D, .int .i64 A', .int .i64 B', .int .i64 C', .int .i64 N'] 104)).cell? ⟨wr.heap.size, 4, none⟩ = some (.int .i64 N') := by simp
   generalize wr.alloc (.cells #[.int .i64 D, .int .i64 A', .int .i64 B', .int .i64 C', .int .i64 N'] 104) = W4 at HX q0 q1 q2 q3 q4 ⊢
   obtain ⟨B4, hB4⟩ : ∃ B, wr.heap.size = B := ⟨_, rfl⟩
   rw [hB4] at q0 q1 q2 q3 q4 ⊢
   clear hB4 d0 d1 d2 d3 d4 nY
   go_loop [3] (fun v => ∃ es, kW w v es W4 /\ es.Pairwise (fun a b => a ≥ b) /\ es.filter (fun e => decide ((k : Int) < e)) = opens l k /\ es.length <= k) (fun v => sliceLen v)
   case atStart => exact ⟨es0, HX.out.2.2.2.2, HX.out.2.1, HX.out.2.2.1, hle0⟩
   case round =>
    obtain ⟨es, hst, hpw, hfl, hle⟩ := hrel
    obtain ⟨A5, c5, rfl, how, hbl⟩ := hst
    have hst : kW w (.slice A5 es.length c5) es W4 := ⟨A5, c5, rfl, how, hbl⟩
    clear how hbl
    rcases List.eq_nil_or_concat es with rfl | ⟨es', z, hes⟩
    ·obtain ⟨es, hes⟩ : ∃ es : List Int, es = [] := ⟨[], rfl⟩
     have IC := Lib.hid hes
     have HLEN := Lib.hid (show es.length = 0 by rw [hes]; rfl)
     have hle0 : es.length <= 0 := by rw [hes]; exact Nat.le_refl _
     have HO := Lib.hid (show kW w (.slice A5 0 c5) es W4 /\ es.Pairwise (fun a b => a ≥ b) /\ es = opens l k /\ es.length <= k by rw [hes]; exact ⟨hst, hpw, hfl, Nat.zero_le _⟩)
     clear hst hpw hfl hes
     by_cases h8 : es.length <= 8
     ·have Q5 : ¬ ((8 : Int) < (0 : Int)) := by omega
      go_wp2_with fail
      refine (yr W4 ⟨D, A', B', C', N'⟩).mono ?_
      rintro e5 w5 ⟨rfl, fx⟩
      have VJ := (fx.cell (p := ⟨B4, 4, none⟩) (World.block_lt_of_cell? _ _ q4)).trans q4
      have Ah := Lib.hid (And.intro (HO.out.1.below fx) fx)
      clear fx
      cases hh : (⟨D, A', B', C', N'⟩ : cC).holds with
      | false =>
       have HH := Lib.hid hh
       clear hh
       go_wp2_with fail
       go_roundw
       case rel =>
        have hpl : dY l k ⟨D, A', B', C', N'⟩ = true := by unfold dY; rw [<- HO.out.2.2.1, HH.out, decide_eq_true h8]; rfl
        exact ⟨k + 1, by omega, by go_num, es, Ah.out.1, HO.out.2.1, by rw [HO.out.2.2.1]; exact wP HX.out.1 HH.out, by rw [cF HX.out.1, HX.out.2.2.2.1, hpl]; rfl, by omega⟩
       case measure => simp [intOf]; omega
      | true =>
       have hnb := H.out.2.1 _ (List.mem_of_getElem? HX.out.1) hh
       simp only at hnb
       have Q6 := hnb.1
       have Q7 := hnb.2
       have HH := Lib.hid hh
       clear hh hnb
       have hlo := Lib.hid (show uw l.length (opens l k) = (l.length : Int) by rw [<- HO.out.2.2.1, IC.out]; rfl)
       have hmx := Lib.hid (show ∀ e ∈ es, (k : Int) + 1 + N' <= e by intro e he; rw [IC.out] at he; simp at he)
       by_cases hend : (l.length : Int) < (k : Int) + 1 + N'
       ·have HE := Lib.hid hend
        go_wp2_with fail
        go_ret
        refine ⟨?_, let ⟨_, _, _, _, hb⟩ := Ah.out.1; hb⟩
        have hpl : dY l k ⟨D, A', B', C', N'⟩ = false := by
         unfold dY
         rw [hlo.out, HH.out]
         have : ¬ ic k ⟨D, A', B', C', N'⟩ <= (l.length : Int) := by have := HE.out; unfold ic; simp only; omega
         rw [decide_eq_false this]
         simp
        have : iw l = false := by
         rw [Bool.eq_false_iff]
         intro hh
         have h1 := gw hh (show k + 1 <= l.length by omega)
         rw [cF HX.out.1, hpl] at h1
         simp at h1
        rw [this]
        rfl
       ·have HE := Lib.hid hend
        have FU := Ah.out.1
        obtain ⟨Ax, cx, Mb, ID, eU⟩ := FU
        rw [HLEN.out] at ID
        have hnews := World.news_of_block (heap_alloc_new w5 (.cells #[.int .i64 ((k : Int) + 1 + N')] 3))
        have JT := eU.size
        have HA := Lib.hid (And.intro (ID.alloc (.cells #[.int .i64 ((k : Int) + 1 + N')] 3)) (And.intro hnews (And.intro eU (And.intro ID H.out.2.2))))
        clear Mb ID eU hnews
        go_wp2_with (at_builtin; go_loud (refine wpList_append_lies _ rfl _ _ 51 rfl w.heap.size 3 i0 _ 1 8 Tryz.underlying51 HA.out.2.2.2.2 hz0 hz1 hz2 rfl (by decide) _ (0) _ rfl HA.out.1 ⟨w5.heap.size, 0, none⟩ 1 1 [.int .i64 ((k : Int) + 1 + N')] rfl rfl HA.out.2.1 (by simp [Value.oneCell']) (by decide) (by unfold maxLen; omega) (by omega) (by simp; omega) _ rfl ?_))
        intro g6 KW w6 fA Gs lD KX
        have HG := Lib.hid (And.intro fA Gs)
        clear fA Gs lD KX
        go_wp2_with fail
        go_roundw
        case rel =>
         have hpl : dY l k ⟨D, A', B', C', N'⟩ = true := by
          unfold dY
          rw [hlo.out, <- HO.out.2.2.1, HH.out, decide_eq_true h8]
          have : ic k ⟨D, A', B', C', N'⟩ <= (l.length : Int) := by have := HE.out; unfold ic; simp only; omega
          rw [decide_eq_true this]
          rfl
         have hmx : ∀ e ∈ es, (k : Int) + 1 + N' <= e := hmx.out
         refine ⟨k + 1, by omega, by go_num, es ++ [(k : Int) + 1 + N'], ⟨some ⟨g6, 0, none⟩, KW, by rw [IC.out]; rfl, ?_, ?_⟩, qz HO.out.2.1 hmx, ?_, by rw [cF HX.out.1, HX.out.2.2.2.1, hpl]; rfl, by simp; omega⟩
         ·have h9 := HG.out.1
          rw [IC.out] at h9 ⊢
          simpa using h9
         ·exact (HA.out.2.2.1.alloc JT _).grown HG.out.2 (by simp; omega) (fun j hj => (HA.out.2.2.2.1.lt j hj).1)
         ·rw [HO.out.2.2.1]
          exact s8 HX.out.1 HH.out
        case measure => simp [intOf]; omega
     ·have Q5 : (8 : Int) < (0 : Int) := by omega
      go_wp2_with fail
      go_ret
      refine ⟨?_, let ⟨_, _, _, _, hb⟩ := HO.out.1; hb⟩
      have hpl : dY l k ⟨D, A', B', C', N'⟩ = false := by
       unfold dY
       rw [<- HO.out.2.2.1, decide_eq_false h8]
       rfl
      have : iw l = false := by
       rw [Bool.eq_false_iff]
       intro hh
       have h1 := gw hh (show k + 1 <= l.length by omega)
       rw [cF HX.out.1, hpl] at h1
       simp at h1
      rw [this]
      rfl
    ·rw [List.concat_eq_append] at hes
     obtain ⟨g, VK, hcz, hgl, hcap⟩ := (show kW w (.slice A5 es.length c5) (es' ++ [z]) W4 by rw [<- hes]; exact hst).top
     have hlen : es.length = es'.length + 1 := by rw [hes]; simp
     subst VK
     by_cases WM : z <= (k : Int)
     ·have HO := Lib.hid (And.intro hst (And.intro hpw (And.intro hfl hes)))
      clear hst hpw hfl hes
      rw [hlen]
      go_wp2_with fail
      go_round
      case rel =>
       have Q8 : kW w (.slice (some ⟨g, 0, none⟩) (es'.length + 1) c5) (es' ++ [z]) W4 := by rw [<- hlen, <- HO.out.2.2.2]; exact HO.out.1
       have Q9 : (es' ++ [z]).Pairwise (fun a b => a ≥ b) := by rw [<- HO.out.2.2.2]; exact HO.out.2.1
       refine ⟨es', Q8.pop, (List.pairwise_append.1 Q9).1, ?_, by omega⟩
       have h1 := HO.out.2.2.1
       rw [HO.out.2.2.2, List.filter_append, List.filter_cons, if_neg (by simp; omega), List.filter_nil, List.append_nil] at h1
       exact h1
      case measure => simp [sliceLen]
     ·have IC := Lib.hid hes
      have hall : es.filter (fun e => decide ((k : Int) < e)) = es := Cm hpw (fun e he => by rw [hes] at he; simp at he; omega)
      rw [hall] at hfl
      have HLEN := Lib.hid hlen
      have HO := Lib.hid (show kW w (.slice (some ⟨g, 0, none⟩) (es'.length + 1) c5) es W4 /\ es.Pairwise (fun a b => a ≥ b) /\ es = opens l k /\ es.length <= k by rw [<- hlen]; exact ⟨hst, hpw, hfl, hle⟩)
      have Gu : es.length <= es'.length + 1 := by omega
      have hl2 : es'.length + 1 <= es.length := by omega
      rw [hlen]
      clear hst hpw hfl hes hall hlen
      by_cases h8 : es.length <= 8
      ·have Q5 : ¬ ((8 : Int) < ((es'.length : Int) + 1)) := by omega
       go_wp2_with fail
       refine (yr W4 ⟨D, A', B', C', N'⟩).mono ?_
       rintro e5 w5 ⟨rfl, fx⟩
       have VJ := (fx.cell (p := ⟨B4, 4, none⟩) (World.block_lt_of_cell? _ _ q4)).trans q4
       have VL := (fx.cell (p := ⟨g, es'.length, none⟩) hgl).trans hcz
       have Ah := Lib.hid (And.intro (HO.out.1.below fx) fx)
       clear fx
       cases hh : (⟨D, A', B', C', N'⟩ : cC).holds with
       | false =>
        have HH := Lib.hid hh
        clear hh
        go_wp2_with fail
        go_roundw
        case rel =>
         have hpl : dY l k ⟨D, A', B', C', N'⟩ = true := by unfold dY; rw [<- HO.out.2.2.1, HH.out, decide_eq_true h8]; rfl
         exact ⟨k + 1, by omega, by go_num, es, Ah.out.1, HO.out.2.1, by rw [HO.out.2.2.1]; exact wP HX.out.1 HH.out, by rw [cF HX.out.1, HX.out.2.2.2.1, hpl]; rfl, by omega⟩
        case measure => simp [intOf]; omega
       | true =>
        have hnb := H.out.2.1 _ (List.mem_of_getElem? HX.out.1) hh
        simp only at hnb
        have Q6 := hnb.1
        have Q7 := hnb.2
        have HH := Lib.hid hh
        clear hh hnb
        have hlo := Lib.hid (show uw l.length (opens l k) = z by rw [<- HO.out.2.2.1, IC.out]; simp [uw])
        by_cases hend : z < (k : Int) + 1 + N'
        ·have HE := Lib.hid hend
         go_wp2_with fail
         go_ret
         refine ⟨?_, let ⟨_, _, _, _, hb⟩ := Ah.out.1; hb⟩
         have hpl : dY l k ⟨D, A', B', C', N'⟩ = false := by
          unfold dY
          rw [hlo.out, HH.out]
          have : ¬ ic k ⟨D, A', B', C', N'⟩ <= z := by have := HE.out; unfold ic; simp only; omega
          rw [decide_eq_false this]
          simp
         have : iw l = false := by
          rw [Bool.eq_false_iff]
          intro hh
          have h1 := gw hh (show k + 1 <= l.length by omega)
          rw [cF HX.out.1, hpl] at h1
          simp at h1
         rw [this]
         rfl
        ·have HE := Lib.hid hend
         have FU := Ah.out.1
         obtain ⟨Ax, cx, Mb, ID, eU⟩ := FU
         rw [HLEN.out] at ID
         have hnews := World.news_of_block (heap_alloc_new w5 (.cells #[.int .i64 ((k : Int) + 1 + N')] 3))
         have JT := eU.size
         have HA := Lib.hid (And.intro (ID.alloc (.cells #[.int .i64 ((k : Int) + 1 + N')] 3)) (And.intro hnews (And.intro eU (And.intro ID H.out.2.2))))
         clear Mb ID eU hnews
         go_wp2_with (at_builtin; go_loud (refine wpList_append_lies _ rfl _ _ 51 rfl w.heap.size 3 i0 _ 1 8 Tryz.underlying51 HA.out.2.2.2.2 hz0 hz1 hz2 rfl (by decide) _ (es'.length + 1) _ rfl HA.out.1 ⟨w5.heap.size, 0, none⟩ 1 1 [.int .i64 ((k : Int) + 1 + N')] rfl rfl HA.out.2.1 (by simp [Value.oneCell']) (by decide) (by unfold maxLen; omega) (by omega) (by simp; omega) _ rfl ?_))
         intro g6 KW w6 fA Gs lD KX
         have HG := Lib.hid (And.intro fA Gs)
         clear fA Gs lD KX
         go_wp2_with fail
         go_roundw
         case rel =>
          have hpl : dY l k ⟨D, A', B', C', N'⟩ = true := by
           unfold dY
           rw [hlo.out, <- HO.out.2.2.1, HH.out, decide_eq_true h8]
           have : ic k ⟨D, A', B', C', N'⟩ <= z := by have := HE.out; unfold ic; simp only; omega
           rw [decide_eq_true this]
           rfl
          have hmx : ∀ e ∈ es, (k : Int) + 1 + N' <= e := (by rw [IC.out]; exact yM (by rw [<- IC.out]; exact HO.out.2.1) (by have := HE.out; omega))
          refine ⟨k + 1, by omega, by go_num, es ++ [(k : Int) + 1 + N'], ⟨some ⟨g6, 0, none⟩, KW, by rw [IC.out]; simp, ?_, ?_⟩, qz HO.out.2.1 hmx, ?_, by rw [cF HX.out.1, HX.out.2.2.2.1, hpl]; rfl, by simp; omega⟩
          ·have h9 := HG.out.1
           rw [show (es ++ [(k : Int) + 1 + N']).length = es'.length + 1 + 1 by simp [HLEN.out]]
           simpa using h9
          ·exact (HA.out.2.2.1.alloc JT _).grown HG.out.2 (by simp; omega) (fun j hj => (HA.out.2.2.2.1.lt j hj).1)
          ·rw [HO.out.2.2.1]
           exact s8 HX.out.1 HH.out
         case measure => simp [intOf]; omega
      ·have Q5 : (8 : Int) < ((es'.length : Int) + 1) := by omega
       go_wp2_with fail
       go_ret
       refine ⟨?_, let ⟨_, _, _, _, hb⟩ := HO.out.1; hb⟩
       have hpl : dY l k ⟨D, A', B', C', N'⟩ = false := by
        unfold dY
        rw [<- HO.out.2.2.1, decide_eq_false h8]
        rfl
       have : iw l = false := by
        rw [Bool.eq_false_iff]
        intro hh
        have h1 := gw hh (show k + 1 <= l.length by omega)
        rw [cF HX.out.1, hpl] at h1
        simp at h1
       rw [this]
       rfl
  ·obtain rfl : k = l.length := by omega
   have HX := Lib.hid (And.intro hst hnt)
   obtain ⟨A0, c0', rfl, _, _⟩ := hst
   clear hnt hpw hfl
   go_wp2_with fail
   go_ret
   exact ⟨by rw [show iw l = true from HX.out.2]; rfl, let ⟨_, _, _, _, hb⟩ := HX.out.1; hb⟩
theorem vG {o : cC} (h : gu o = true) (hh : o.holds = true) : 0 <= o.n /\ o.n <= 64 := by
 unfold gu at h
 rw [List.all_eq_true] at h
 have h3 := h 3 (List.mem_range.2 (by decide))
 unfold cC.holds at hh
 rw [Bool.or_eq_true, beq_iff_eq, beq_iff_eq] at hh
 rcases hh with hh | hh
 ·simp [hh, rZ, GI, Ck, cC.s5] at h3
  omega
 ·simp [hh, rZ, GI, Ck, cC.s5] at h3
  omega
theorem Dl {o : cC} (h : fe o = true) : 1 <= o.d /\ o.d <= 15 := by
 unfold fe at h
 rw [Bool.and_eq_true] at h
 exact of_decide_eq_true h.1
theorem pH {l : List cC} {p : cC -> Bool} {k : Nat} {x : cC} (hx : l[k]? = some x) (hp : p x = false) : l.all p = false := by
 rw [Bool.eq_false_iff]
 intro h
 rw [List.all_eq_true] at h
 rw [h x (List.mem_of_getElem? hx)] at hp
 cases hp
def Jz (w : World) (l : List cC) (p : cC -> Bool) (k : Nat) (wr : World) : Prop := (l.take k).all p = true /\ Below w.heap.size w wr
theorem tY {l : List cC} {p : cC -> Bool} {k : Nat} {x : cC} (h : (l.take k).all p = true) (hx : l[k]? = some x) (hp : p x = true) : (l.take (k + 1)).all p = true := by
 rw [List.take_add_one, hx, List.all_append, h]
 simp [hp]
set_option maxHeartbeats 1000000 in
theorem Dm (w : World) (F : Nat -> Prop) (v : Value) (l : List cC) (h : pS w F v l) (hs : jN w) :
  Calls Tryz.prog 50 #[v] w fun e w' => e = .returned (.int .i64 (opsE l)) /\ Below w.heap.size w w' := by
 obtain ⟨A, c, rfl, hlc, hcm⟩ := h.slice
 unfold maxLen at hcm
 by_cases h64 : 64 < l.length
 ·have HE := Lib.hid (show opsE l = 23 by unfold opsE; rw [if_pos h64])
  have Ra : (64 : Int) < (l.length : Int) := by omega
  clear h hs
  go_enter Tryz.func50, Tryz.ntmps50
  go_wp2_with fail
  go_ret
  exact ⟨by rw [HE.out]; rfl, Below.refl _ _⟩
 have hE : opsE l = if l.all fe = false then 11 else if l.all gu = false then 10 else if iw l = false then 11 else 0 := by unfold opsE; rw [if_neg h64]
 have Ra : ¬ ((64 : Int) < (l.length : Int)) := by omega
 have H := Lib.hid (And.intro h (And.intro hs hE))
 clear h hs hE
 go_enter Tryz.func50, Tryz.ntmps50
 go_wp2_with fail
 go_loopw [12] (fun i wr => ∃ k : Nat, k <= l.length /\ i = .int .i64 (k : Int) /\ Jz w l fe k wr) (fun i _ => l.length - (intOf i).toNat)
 case atStart => exact ⟨0, Nat.zero_le _, rfl, rfl, Below.refl _ _⟩
 case round =>
  obtain ⟨k, hk, rfl, hal, hbl⟩ := hrel
  by_cases hlt : k < l.length
  ·obtain ⟨x, hx⟩ : ∃ x, l[k]? = some x := ⟨_, List.getElem?_eq_getElem hlt⟩
   obtain ⟨b, o, rfl, vN, c0, c1, c2, c3, c4⟩ := H.out.1.at_ hx
   have nY := World.block_lt_of_cell? _ _ c0
   have d0 := (hbl.cell (p := ⟨b, o + k * 5, none⟩) nY).trans c0
   have d1 := (hbl.cell (p := ⟨b, o + k * 5 + 1, none⟩) nY).trans c1
   have d2 := (hbl.cell (p := ⟨b, o + k * 5 + 2, none⟩) nY).trans c2
   have d3 := (hbl.cell (p := ⟨b, o + k * 5 + 3, none⟩) nY).trans c3
   have d4 := (hbl.cell (p := ⟨b, o + k * 5 + 4, none⟩) nY).trans c4
   obtain ⟨D, A', B', C', N'⟩ := x
   simp only at d0 d1 d2 d3 d4
   have hb4 := hbl.alloc hbl.size (.cells #[.int .i64 D, .int .i64 A', .int .i64 B', .int .i64 C', .int .i64 N'] 104)
   have HF := Lib.hid (Dh _ (H.out.2.1.below hb4) ⟨D, A', B', C', N'⟩)
   have HX := Lib.hid (And.intro hx (And.intro hal hb4))
   clear hx hal hbl c0 c1 c2 c3 c4 vN nY hb4
   go_wp2_with fail
   refine HF.out.mono ?_
   rintro e w5 ⟨rfl, fx⟩
   have gi := Lib.hid (HX.out.2.2.trans (fx.mono HX.out.2.2.size))
   clear fx HF
   cases hf : fe ⟨D, A', B', C', N'⟩ with
   | true =>
    have HV := Lib.hid hf
    clear hf
    go_wp2_with fail
    go_roundw
    case rel => exact ⟨k + 1, by omega, by go_num, tY HX.out.2.1 HX.out.1 HV.out, gi.out⟩
    case measure => simp [intOf]; omega
   | false =>
    have HV := Lib.hid hf
    clear hf
    go_wp2_with fail
    go_ret
    exact ⟨by rw [H.out.2.2, if_pos (pH HX.out.1 HV.out)]; rfl, gi.out⟩
  ·obtain rfl : k = l.length := by omega
   rw [List.take_length] at hal
   have HA := Lib.hid (And.intro hal hbl)
   clear hal hbl
   go_wp2_with fail
   go_loopw [22] (fun i wr => ∃ k : Nat, k <= l.length /\ i = .int .i64 (k : Int) /\ Jz w l gu k wr) (fun i _ => l.length - (intOf i).toNat)
   case atStart => exact ⟨0, Nat.zero_le _, rfl, rfl, HA.out.2⟩
   case round =>
    obtain ⟨k, hk, rfl, hal, hbl⟩ := hrel
    by_cases hlt : k < l.length
    ·obtain ⟨x, hx⟩ : ∃ x, l[k]? = some x := ⟨_, List.getElem?_eq_getElem hlt⟩
     obtain ⟨b, o, rfl, vN, c0, c1, c2, c3, c4⟩ := H.out.1.at_ hx
     have nY := World.block_lt_of_cell? _ _ c0
     have L5 := Dl (List.all_eq_true.1 HA.out.1 x (List.mem_of_getElem? hx))
     have d0 := (hbl.cell (p := ⟨b, o + k * 5, none⟩) nY).trans c0
     have d1 := (hbl.cell (p := ⟨b, o + k * 5 + 1, none⟩) nY).trans c1
     have d2 := (hbl.cell (p := ⟨b, o + k * 5 + 2, none⟩) nY).trans c2
     have d3 := (hbl.cell (p := ⟨b, o + k * 5 + 3, none⟩) nY).trans c3
     have d4 := (hbl.cell (p := ⟨b, o + k * 5 + 4, none⟩) nY).trans c4
     obtain ⟨D, A', B', C', N'⟩ := x
     simp only at d0 d1 d2 d3 d4
     have hb4 := hbl.alloc hbl.size (.cells #[.int .i64 D, .int .i64 A', .int .i64 B', .int .i64 C', .int .i64 N'] 104)
     have HF := Lib.hid (Dj _ (H.out.2.1.below hb4) ⟨D, A', B', C', N'⟩ L5)
     have HX := Lib.hid (And.intro hx (And.intro hal hb4))
     clear hx hal hbl c0 c1 c2 c3 c4 vN nY hb4 L5
     go_wp2_with fail
     refine HF.out.mono ?_
     rintro e w5 ⟨rfl, fx⟩
     have gi := Lib.hid (HX.out.2.2.trans (fx.mono HX.out.2.2.size))
     clear fx HF
     cases hf : gu ⟨D, A', B', C', N'⟩ with
     | true =>
      have HV := Lib.hid hf
      clear hf
      go_wp2_with fail
      go_roundw
      case rel => exact ⟨k + 1, by omega, by go_num, tY HX.out.2.1 HX.out.1 HV.out, gi.out⟩
      case measure => simp [intOf]; omega
     | false =>
      have HV := Lib.hid hf
      clear hf
      go_wp2_with fail
      go_ret
      exact ⟨by rw [H.out.2.2, if_neg (by rw [HA.out.1]; simp), if_pos (pH HX.out.1 HV.out)]; rfl, gi.out⟩
    ·obtain rfl : k = l.length := by omega
     rw [List.take_length] at hal
     have HR := Lib.hid (And.intro hal hbl)
     have JA := Dk wr F (.slice A l.length c) l (bE.below H.out.1 hbl) (by omega) (fun o ho hh => vG (List.all_eq_true.1 hal o ho) hh)
     have HN := Lib.hid JA
     clear hal hbl JA
     go_wp2_with fail
     refine HN.out.mono ?_
     rintro e w6 ⟨rfl, gj⟩
     have kF := Lib.hid (HR.out.2.trans (gj.mono HR.out.2.size))
     clear gj HN
     cases hf : iw l with
     | true =>
      have HV := Lib.hid hf
      clear hf
      go_wp2_with fail
      go_ret
      exact ⟨by rw [H.out.2.2, if_neg (by rw [HA.out.1]; simp), if_neg (by rw [HR.out.1]; simp), if_neg (by rw [HV.out]; simp)]; rfl, kF.out⟩
     | false =>
      have HV := Lib.hid hf
      clear hf
      go_wp2_with fail
      go_ret
      exact ⟨by rw [H.out.2.2, if_neg (by rw [HA.out.1]; simp), if_neg (by rw [HR.out.1]; simp), if_pos HV.out]; rfl, kF.out⟩
end Go.Proofs.YtagemonojdgbdaaGreatDoor
