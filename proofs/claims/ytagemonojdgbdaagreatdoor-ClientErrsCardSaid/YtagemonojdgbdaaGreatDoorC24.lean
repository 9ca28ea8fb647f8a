import Derived.Test.YtagemonojdgbdaaGreatDoorC04
import Derived.Test.YtagemonojdgbdaaGreatDoorC19
import Derived.Test.YtagemonojdgbdaaGreatDoorC22
import Derived.Laws.RangeAny
import Derived.Laws.RangeString
import Derived.Deep.Cut
namespace Go.Proofs.YtagemonojdgbdaaGreatDoor
set_option maxRecDepth 100000
open Go.RowKit
def POp.cells (o : POp) : List Value := [.int .i64 o.d, .int .i64 o.a, .int .i64 o.b, .int .i64 o.c, .int .i64 o.n]
def POp.val (o : POp) : Value := .agg #[.int .i64 o.d, .int .i64 o.a, .int .i64 o.b, .int .i64 o.c, .int .i64 o.n]
def POp.fits (o : POp) : Prop := (-9223372036854775808 ≤ o.d ∧ o.d ≤ 9223372036854775807) ∧ (-9223372036854775808 ≤ o.a ∧ o.a ≤ 9223372036854775807) ∧ (-9223372036854775808 ≤ o.b ∧ o.b ≤ 9223372036854775807) ∧ (-9223372036854775808 ≤ o.c ∧ o.c ≤ 9223372036854775807) ∧ (-9223372036854775808 ≤ o.n ∧ o.n ≤ 9223372036854775807)
def OpRd (w : World) (F : Nat → Prop) (v : Value) (l : List POp) : Prop := RdK 5 w F v (l.map POp.cells)
def hasL : Nat → List UInt8
 | 1 => [65, 67]
 | 2 => [65, 66]
 | 3 => [65, 66]
 | 4 => [65, 66]
 | 5 => [65, 66]
 | 6 => [65, 66]
 | 7 => [65, 66]
 | 8 => [65, 66, 67]
 | 9 => [65, 66]
 | 10 => [66]
 | 11 => [65, 66, 67]
 | 12 => [65, 66, 67, 78]
 | 13 => [65, 78]
 | 14 => [67, 78]
 | 15 => [65]
 | _ => []
def ShTab (w : World) : Prop := ∀ d : Nat, d < 16 → w.cell? ⟨0, d * 2 + 1, none⟩ = some (.string ⟨(hasL d).toArray⟩)
theorem ShTab.below {w w' : World} (h : ShTab w) (hb : Below w.heap.size w w') : ShTab w' := fun d hd => (hb.cell (p := ⟨0, d * 2 + 1, none⟩) (World.block_lt_of_cell? _ _ (h d hd))).trans (h d hd)
def runeF : Nat → Int
 | 0 => 65
 | 1 => 66
 | 2 => 67
 | _ => 78
theorem has_index : ∀ d, d < 16 → 1 ≤ d → ∀ i, i < 4 → decide (0 ≤ Lib.indexByte (hasL d) (runeF i).toNat.toUInt8) = hasF (d : Int) i := by decide
open Go.Shelf in
theorem Tryz.strings_ContainsRune_ascii' (s : ByteArray) (r : Int) (w : World) (h0 : 0 ≤ r) (h1 : r < 128) :
  Calls Tryz.prog 126 #[.string s, .int .i32 r] w fun e w' => e = .returned (.bool (decide (0 ≤ Lib.indexByte s.data.toList r.toNat.toUInt8))) ∧ w' = w := Any.strings_ContainsRune_ascii Tryz.lays151 s r w h0 h1
theorem fld_ok (w : World) (B b : Nat) (i : Nat) (hi : i < 4) (hc : w.cell? ⟨B, 0, none⟩ = some (.pointer (some ⟨b, 0, none⟩))) :
  Calls Tryz.prog 158 #[.int .i32 (runeF i), .pointer (some ⟨B, 0, none⟩)] w fun e w' => e = .returned (.pointer (some ⟨b, 1 + i, none⟩)) ∧ w = w' := by
 match i, hi with
 | 0, _ =>
  go_enter Tryz.func158, Tryz.ntmps158
  go_wp2_with fail
  go_ret
  exact ⟨rfl, rfl⟩
 | 1, _ =>
  go_enter Tryz.func158, Tryz.ntmps158
  go_wp2_with fail
  go_ret
  exact ⟨rfl, rfl⟩
 | 2, _ =>
  go_enter Tryz.func158, Tryz.ntmps158
  go_wp2_with fail
  go_ret
  exact ⟨rfl, rfl⟩
 | 3, _ =>
  go_enter Tryz.func158, Tryz.ntmps158
  go_wp2_with fail
  go_ret
  exact ⟨rfl, rfl⟩
theorem fields_ok (w : World) (b : Nat) :
  Calls Tryz.prog 125 #[.pointer (some ⟨b, 0, none⟩)] w fun e w' => e = .returned (.func (.func 158) #[] #[.pointer (some ⟨w.heap.size, 0, none⟩)]) ∧ w' = w.alloc (.cells #[.pointer (some ⟨b, 0, none⟩)] 237) := by
 go_enter Tryz.func125, Tryz.ntmps125
 go_wp2_with fail
 go_ret
 exact ⟨rfl, rfl⟩
theorem span_ok (w : World) (d : Int) (i : Nat) (hi : i < 4) :
  Calls Tryz.prog 127 #[.int .i64 d, .int .i32 (runeF i)] w fun e w' => e = .returned (.tuple #[.int .i64 (loF d i), .int .i64 (hiF d i)]) ∧ w = w' := by
 match i, hi with
 | 0, _ =>
  by_cases h : d = 9
  ·subst h
   go_enter Tryz.func127, Tryz.ntmps127
   go_wp2_with fail
   go_ret2
   exact ⟨rfl, rfl⟩
  ·have e : (d == 9) = false := by simpa using h
   have hl : hiF d 0 = 7 := by simp [hiF, h]
   have HL := Lib.hid hl
   clear h hl
   go_enter Tryz.func127, Tryz.ntmps127
   go_wp2_with fail
   go_ret2
   exact ⟨by rw [HL.out]; rfl, rfl⟩
 | 1, _ =>
  go_enter Tryz.func127, Tryz.ntmps127
  go_wp2_with fail
  go_ret2
  exact ⟨rfl, rfl⟩
 | 2, _ =>
  by_cases h : d = 1
  ·subst h
   go_enter Tryz.func127, Tryz.ntmps127
   go_wp2_with fail
   go_ret2
   exact ⟨rfl, rfl⟩
  ·by_cases h2 : d = 14
   ·subst h2
    go_enter Tryz.func127, Tryz.ntmps127
    go_wp2_with fail
    go_ret2
    exact ⟨rfl, rfl⟩
   ·have e : (d == 1) = false := by simpa using h
    have e2 : (d == 14) = false := by simpa using h2
    have HL := Lib.hid (show hiF d 2 = 3 ∧ loF d 2 = 0 by simp [hiF, loF, h, h2])
    clear h h2
    go_enter Tryz.func127, Tryz.ntmps127
    go_wp2_with fail
    go_ret2
    exact ⟨by rw [HL.out.1, HL.out.2]; rfl, rfl⟩
 | 3, _ =>
  by_cases h : d = 12
  ·subst h
   go_enter Tryz.func127, Tryz.ntmps127
   go_wp2_with fail
   go_ret2
   exact ⟨rfl, rfl⟩
  ·have e : (d == 12) = false := by simpa using h
   have HL := Lib.hid (show hiF d 3 = 64 by simp [hiF, h])
   clear h
   go_enter Tryz.func127, Tryz.ntmps127
   go_wp2_with fail
   go_ret2
   exact ⟨by rw [HL.out]; rfl, rfl⟩
def abcn : ByteArray := ⟨#[65, 66, 67, 78]⟩
theorem abcn_ascii : ∀ (i : Nat) (h : i < abcn.size), (abcn[i]'h).toNat < 128 := by decide
theorem next_abcn (W : World) (i : Nat) (hi : i < 4) (ty : TypeId) : (Instr.next (.pointer (some ⟨W.heap.size, 0, none⟩)) true ty).run Tryz.prog (W.iter abcn i) = .ok (.tuple #[.bool true, .int .i64 (i : Int), .int .i32 (runeF i)]) (W.iter abcn (i + 1)) := by
 have h : i < abcn.size := hi
 have := run_next_ascii (P := Tryz.prog) W abcn i ty h (abcn_ascii i h)
 rw [this]
 match i, hi with
 | 0, _ => rfl
 | 1, _ => rfl
 | 2, _ => rfl
 | 3, _ => rfl
theorem rune_bd (i : Nat) : 0 ≤ runeF i ∧ runeF i < 128 := by
 unfold runeF
 split <;> omega
theorem fld_cell {w : World} {b : Nat} {o : POp} (hb : w.heap[b]? = some (.cells #[.int .i64 o.d, .int .i64 o.a, .int .i64 o.b, .int .i64 o.c, .int .i64 o.n] 104 (0, 0))) (i : Nat) (hi : i < 4) : w.cell? ⟨b, 1 + i, none⟩ = some (.int .i64 (o.fld i)) := by
 match i, hi with
 | 0, _ => simp [World.cell?, hb, POp.fld]
 | 1, _ => simp [World.cell?, hb, POp.fld]
 | 2, _ => simp [World.cell?, hb, POp.fld]
 | 3, _ => simp [World.cell?, hb, POp.fld]
theorem formed_all {o : POp} (hd : (1 ≤ o.d ∧ o.d ≤ 15)) : formedB o = (List.range 4).all (fun i => hasF o.d i || o.fld i == 0) := by
 unfold formedB
 rw [decide_eq_true hd, Bool.true_and]
def OpIn (W : World) (b B : Nat) (dn : Nat) (A B' C N : Int) : Prop :=
 W.cell? ⟨b, 0, none⟩ = some (.int .i64 (dn : Int)) ∧ W.cell? ⟨B, 0, none⟩ = some (.pointer (some ⟨b, 0, none⟩)) ∧ W.cell? ⟨0, dn * 2 + 1, none⟩ = some (.string ⟨(hasL dn).toArray⟩) ∧ ∀ i, i < 4 → W.cell? ⟨b, 1 + i, none⟩ = some (.int .i64 ((⟨(dn : Int), A, B', C, N⟩ : POp).fld i))
theorem OpIn.alloc {W : World} {b B dn : Nat} {A B' C N : Int} (h : OpIn W b B dn A B' C N) (o : Obj) : OpIn (W.alloc o) b B dn A B' C N := ⟨cell_alloc_any h.1 _, cell_alloc_any h.2.1 _, cell_alloc_any h.2.2.1 _, fun i hi => cell_alloc_any (h.2.2.2 i hi) _⟩
theorem OpIn.iter {W : World} {b B dn : Nat} {A B' C N : Int} (h : OpIn W b B dn A B' C N) (s : ByteArray) (i : Nat) : OpIn (W.iter s i) b B dn A B' C N := h.alloc _
theorem OpIn.start (w : World) (hs : ShTab w) (dn : Nat) (hd : dn < 16) (A B C N : Int) : OpIn ((w.alloc (.cells #[.int .i64 (dn : Int), .int .i64 A, .int .i64 B, .int .i64 C, .int .i64 N] 104)).alloc (.cells #[.pointer (some ⟨w.heap.size, 0, none⟩)] 237)) w.heap.size (w.heap.size + 1) dn A B C N :=
 ⟨by simp, by simp, (hs.below (((Below.refl _ _).alloc (Nat.le_refl _) _).alloc (by simp) _)) dn hd, fun i hi => cell_alloc_any (fld_cell (o := ⟨(dn : Int), A, B, C, N⟩) (heap_alloc_new _ _) i hi) _⟩
theorem all_step {p : Nat → Bool} {i : Nat} : (List.range (i + 1)).all p = ((List.range i).all p && p i) := by rw [List.range_succ, List.all_append]; simp
set_option maxHeartbeats 1000000 in
theorem formed_in (w : World) (hs : ShTab w) (dn : Nat) (hd1 : 1 ≤ dn) (hd16 : dn < 16) (A B C N : Int) :
  Calls Tryz.prog 83 #[.agg #[.int .i64 (dn : Int), .int .i64 A, .int .i64 B, .int .i64 C, .int .i64 N]] w fun e w' => e = .returned (.bool (formedB ⟨(dn : Int), A, B, C, N⟩)) ∧ Below w.heap.size w w' := by
 have hfa := formed_all (o := ⟨(dn : Int), A, B, C, N⟩) ⟨by show (1 : Int) ≤ dn; omega, by show (dn : Int) ≤ 15; omega⟩
 have hst := OpIn.start w hs dn hd16 A B C N
 have hBl : Below w.heap.size w ((w.alloc (.cells #[.int .i64 (dn : Int), .int .i64 A, .int .i64 B, .int .i64 C, .int .i64 N] 104)).alloc (.cells #[.pointer (some ⟨w.heap.size, 0, none⟩)] 237)) := ((Below.refl _ _).alloc (Nat.le_refl _) _).alloc (by simp) _
 have HH := Lib.hid (And.intro hfa (has_index dn hd16 hd1))
 have hdi : ¬ ((dn : Int) < 1) := by omega
 have hdi2 : ¬ ((15 : Int) < (dn : Int)) := by omega
 clear hfa hs
 go_enter Tryz.func83, Tryz.ntmps83
 go_wp2_with fail
 refine (fields_ok _ w.heap.size).mono ?_
 rintro e w1 ⟨rfl, hw1⟩
 have hsz : (w.alloc (.cells #[.int .i64 (dn : Int), .int .i64 A, .int .i64 B, .int .i64 C, .int .i64 N] 104)).heap.size = w.heap.size + 1 := by simp
 rw [hsz]
 generalize ((w.alloc (.cells #[.int .i64 (dn : Int), .int .i64 A, .int .i64 B, .int .i64 C, .int .i64 N] 104)).alloc (.cells #[.pointer (some ⟨w.heap.size, 0, none⟩)] 237)) = W at hst hBl hw1
 subst hw1
 have HS := Lib.hid (And.intro hst hBl)
 clear hst hBl hsz
 obtain ⟨b, hb⟩ : ∃ b, w.heap.size = b := ⟨_, rfl⟩
 have HB := Lib.hid hb
 have HSZ := Lib.hid (show b ≤ w1.heap.size by have := HS.out.2.size; omega)
 rw [hb] at HS
 go_wp2_with fail
 clear hb
 go_loopw [5] (fun _ wr => ∃ i : Nat, i ≤ 4 ∧ wr = w1.iter ⟨#[65, 66, 67, 78]⟩ i ∧ (List.range i).all (fun j => hasF (dn : Int) j || (⟨(dn : Int), A, B, C, N⟩ : POp).fld j == 0) = true) (fun _ wr => 4 - wr.iterPos w1.heap.size)
 case atStart => exact ⟨0, Nat.zero_le _, rfl, rfl⟩
 case round =>
  obtain ⟨i, hi, rfl, hal⟩ := hrel
  by_cases hlt : i < 4
  ·have hnx := next_abcn w1 i hlt
   unfold abcn at hnx
   obtain ⟨c0, cB, cT, cf⟩ := HS.out.1.iter ⟨#[65, 66, 67, 78]⟩ (i + 1)
   have cfi := cf i hlt
   have hrb := rune_bd i
   have hix := HH.out.2 i hlt
   obtain ⟨z, hz⟩ : ∃ z, (⟨(dn : Int), A, B, C, N⟩ : POp).fld i = z := ⟨_, rfl⟩
   rw [hz] at cfi
   obtain ⟨q, hq⟩ : ∃ q, hasF (dn : Int) i = q := ⟨_, rfl⟩
   have HI := Lib.hid (And.intro hal (And.intro hz hq))
   have hcr := Tryz.strings_ContainsRune_ascii' ⟨(hasL dn).toArray⟩ (runeF i) (w1.iter ⟨#[65, 66, 67, 78]⟩ (i + 1)) hrb.1 hrb.2
   rw [hix, hq] at hcr
   have HCR := Lib.hid hcr
   have HFL := Lib.hid (fld_ok (w1.iter ⟨#[65, 66, 67, 78]⟩ (i + 1)) (b + 1) b i hlt cB)
   clear hal hz hq hix cf hcr
   go_wp2_with fail
   refine HCR.out.mono ?_
   rintro e w2 ⟨rfl, rfl⟩
   cases q with
   | true =>
    have HQ := Lib.hid HI.out.2.2
    go_wp2_with fail
    go_roundw
    case rel => exact ⟨i + 1, by omega, rfl, by rw [all_step, HI.out.1, HQ.out]; rfl⟩
    case measure => simp; omega
   | false =>
    have HQ := Lib.hid HI.out.2.2
    go_wp2_with fail
    refine HFL.out.mono ?_
    rintro e w3 ⟨rfl, rfl⟩
    by_cases hz0 : z = 0
    ·have HZ := Lib.hid (HI.out.2.1.trans hz0)
     subst hz0
     go_wp2_with fail
     go_roundw
     case rel => exact ⟨i + 1, by omega, rfl, by rw [all_step, HI.out.1, HQ.out, HZ.out]; rfl⟩
     case measure => simp; omega
    ·have hzn : (z != 0) = true := by simpa using hz0
     have HZ := Lib.hid (And.intro hz0 HI.out.2.1)
     clear hz0
     go_wp2_with fail
     go_ret
     refine ⟨?_, ?_⟩
     ·rw [HH.out.1]
      have : (List.range 4).all (fun j => hasF (dn : Int) j || (⟨(dn : Int), A, B, C, N⟩ : POp).fld j == 0) = false := by
       rw [Bool.eq_false_iff]
       intro hh
       rw [List.all_eq_true] at hh
       have h1 := hh i (List.mem_range.2 hlt)
       rw [HQ.out, HZ.out.2] at h1
       simp at h1
       exact HZ.out.1 h1
      rw [this]
      rfl
     ·rw [HB.out]
      exact HS.out.2.alloc HSZ.out _
  ·obtain rfl : i = 4 := by omega
   have HA := Lib.hid hal
   clear hal
   have hnx : ∀ ty, (Instr.next (.pointer (some ⟨w1.heap.size, 0, none⟩)) true ty).run Tryz.prog (w1.iter ⟨#[65, 66, 67, 78]⟩ 4) = .ok (.tuple #[.bool false]) (w1.iter ⟨#[65, 66, 67, 78]⟩ 4) := fun ty => run_next_end w1 ⟨#[65, 66, 67, 78]⟩ 4 ty (by decide)
   go_wp2_with fail
   go_ret
   refine ⟨by rw [HH.out.1, HA.out]; rfl, ?_⟩
   rw [HB.out]
   exact HS.out.2.alloc HSZ.out _
theorem formed_ok (w : World) (hs : ShTab w) (o : POp) : Calls Tryz.prog 83 #[o.val] w fun e w' => e = .returned (.bool (formedB o)) ∧ Below w.heap.size w w' := by
 obtain ⟨D, A, B, C, N⟩ := o
 unfold POp.val
 by_cases hd : 1 ≤ D ∧ D ≤ 15
 ·obtain ⟨dn, rfl⟩ : ∃ dn : Nat, D = (dn : Int) := ⟨D.toNat, by omega⟩
  exact formed_in w hs dn (by omega) (by omega) A B C N
 ·have HF := Lib.hid (show formedB ⟨D, A, B, C, N⟩ = false by unfold formedB; rw [decide_eq_false hd]; rfl)
  by_cases h1 : D < 1
  ·clear hd hs
   go_enter Tryz.func83, Tryz.ntmps83
   go_wp2_with fail
   go_ret
   exact ⟨by rw [HF.out]; rfl, (Below.refl _ _).alloc (Nat.le_refl _) _⟩
  ·have h2 : 15 < D := by omega
   clear hd hs
   go_enter Tryz.func83, Tryz.ntmps83
   go_wp2_with fail
   go_ret
   exact ⟨by rw [HF.out]; rfl, (Below.refl _ _).alloc (Nat.le_refl _) _⟩
def inR (o : POp) (i : Nat) : Bool := decide (loF o.d i ≤ o.fld i) && decide (o.fld i ≤ hiF o.d i)
def idxL (d : Nat) : List Nat := (List.range 4).filter (hasF (d : Int))
theorem has_bytes : ∀ d, d < 16 → 1 ≤ d → hasL d = (idxL d).map (fun i => (runeF i).toNat.toUInt8) := by decide
theorem idx_lt {d i j : Nat} (h : (idxL d)[j]? = some i) : i < 4 := by
 have := List.mem_of_getElem? h
 unfold idxL at this
 exact List.mem_range.1 (List.mem_filter.1 this).1
theorem ranged_all (o : POp) {dn : Nat} (hd : o.d = (dn : Int)) : rangedB o = (idxL dn).all (inR o) := by
 unfold rangedB idxL
 rw [List.all_filter]
 congr 1
 funext i
 rw [hd]
 unfold inR
 rw [hd]
theorem next_has (W : World) (s : ByteArray) (dn j i : Nat) (hs : s.data.toList = (idxL dn).map (fun i => (runeF i).toNat.toUInt8)) (hi : (idxL dn)[j]? = some i) (ty : TypeId) :
  (Instr.next (.pointer (some ⟨W.heap.size, 0, none⟩)) true ty).run Tryz.prog (W.iter s j) = .ok (.tuple #[.bool true, .int .i64 (j : Int), .int .i32 (runeF i)]) (W.iter s (j + 1)) := by
 have hj : s.data.toList[j]? = some (runeF i).toNat.toUInt8 := by rw [hs]; simp [hi]
 have hjl : j < s.size := by
  have := (List.getElem?_eq_some_iff.1 hj).1
  simpa using this
 have hv : (s[j]'hjl) = (runeF i).toNat.toUInt8 := by
  have h2 := (List.getElem?_eq_some_iff.1 hj).2
  rw [← h2]
  rfl
 have hrb := rune_bd i
 have hn : (s[j]'hjl).toNat = (runeF i).toNat := by rw [hv]; simp; omega
 have := run_next_ascii (P := Tryz.prog) W s j ty hjl (by rw [hn]; omega)
 rw [this, hn]
 have e : (((runeF i).toNat : Nat) : Int) = runeF i := by omega
 rw [e]
set_option maxHeartbeats 1000000 in
theorem ranged_in (w : World) (hs : ShTab w) (dn : Nat) (hd1 : 1 ≤ dn) (hd16 : dn < 16) (A B C N : Int) :
  Calls Tryz.prog 84 #[.agg #[.int .i64 (dn : Int), .int .i64 A, .int .i64 B, .int .i64 C, .int .i64 N]] w fun e w' => e = .returned (.bool (rangedB ⟨(dn : Int), A, B, C, N⟩)) ∧ Below w.heap.size w w' := by
 have hfa := ranged_all ⟨(dn : Int), A, B, C, N⟩ (dn := dn) rfl
 have hst := OpIn.start w hs dn hd16 A B C N
 have hBl : Below w.heap.size w ((w.alloc (.cells #[.int .i64 (dn : Int), .int .i64 A, .int .i64 B, .int .i64 C, .int .i64 N] 104)).alloc (.cells #[.pointer (some ⟨w.heap.size, 0, none⟩)] 237)) := ((Below.refl _ _).alloc (Nat.le_refl _) _).alloc (by simp) _
 have hhb : (⟨(hasL dn).toArray⟩ : ByteArray).data.toList = (idxL dn).map (fun i => (runeF i).toNat.toUInt8) := by rw [← has_bytes dn hd16 hd1]
 have HH := Lib.hid (And.intro hfa hhb)
 have hdi : (0 : Int) ≤ (dn : Int) := by omega
 have hdi2 : (dn : Int) < 16 := by omega
 clear hfa hs hhb
 go_enter Tryz.func84, Tryz.ntmps84
 go_wp2_with fail
 refine (fields_ok _ w.heap.size).mono ?_
 rintro e w1 ⟨rfl, hw1⟩
 have hsz : (w.alloc (.cells #[.int .i64 (dn : Int), .int .i64 A, .int .i64 B, .int .i64 C, .int .i64 N] 104)).heap.size = w.heap.size + 1 := by simp
 rw [hsz]
 generalize ((w.alloc (.cells #[.int .i64 (dn : Int), .int .i64 A, .int .i64 B, .int .i64 C, .int .i64 N] 104)).alloc (.cells #[.pointer (some ⟨w.heap.size, 0, none⟩)] 237)) = W at hst hBl hw1
 subst hw1
 have HS := Lib.hid (And.intro hst hBl)
 obtain ⟨c0, cB, cT, _⟩ := hst
 clear hBl hsz
 obtain ⟨b, hb⟩ : ∃ b, w.heap.size = b := ⟨_, rfl⟩
 have HB := Lib.hid hb
 have HSZ := Lib.hid (show b ≤ w1.heap.size by have := HS.out.2.size; omega)
 rw [hb] at HS c0 cB
 rw [hb]
 clear hb
 go_wp2_with fail
 clear c0 cB cT
 obtain ⟨s, hse⟩ : ∃ s : ByteArray, (⟨(hasL dn).toArray⟩ : ByteArray) = s := ⟨_, rfl⟩
 have HHS := Lib.hid (show s.data.toList = (idxL dn).map (fun i => (runeF i).toNat.toUInt8) by rw [← hse, ← has_bytes dn hd16 hd1])
 rw [hse]
 clear hse
 go_loopw [5] (fun _ wr => ∃ j : Nat, j ≤ (idxL dn).length ∧ wr = w1.iter s j ∧ ((idxL dn).take j).all (inR ⟨(dn : Int), A, B, C, N⟩) = true) (fun _ wr => (idxL dn).length - wr.iterPos w1.heap.size)
 case atStart => exact ⟨0, Nat.zero_le _, rfl, rfl⟩
 case round =>
  obtain ⟨j, hj, rfl, hal⟩ := hrel
  by_cases hlt : j < (idxL dn).length
  ·obtain ⟨i, hi⟩ : ∃ i, (idxL dn)[j]? = some i := ⟨_, List.getElem?_eq_getElem hlt⟩
   have hi4 := idx_lt hi
   have hnx := next_has w1 s dn j i HHS.out hi
   obtain ⟨c0, cB, cT, cf⟩ := HS.out.1.iter s (j + 1)
   have cfi := cf i hi4
   have hin : inR ⟨(dn : Int), A, B, C, N⟩ i = (decide (loF (dn : Int) i ≤ (⟨(dn : Int), A, B, C, N⟩ : POp).fld i) && decide ((⟨(dn : Int), A, B, C, N⟩ : POp).fld i ≤ hiF (dn : Int) i)) := rfl
   have hsp := span_ok (w1.iter s (j + 1)) (dn : Int) i hi4
   obtain ⟨z, hz⟩ : ∃ z, (⟨(dn : Int), A, B, C, N⟩ : POp).fld i = z := ⟨_, rfl⟩
   obtain ⟨lo, hlo⟩ : ∃ z, loF (dn : Int) i = z := ⟨_, rfl⟩
   obtain ⟨hi', hhi⟩ : ∃ z, hiF (dn : Int) i = z := ⟨_, rfl⟩
   rw [hz, hlo, hhi] at hin
   rw [hz] at cfi
   rw [hlo, hhi] at hsp
   have HSP := Lib.hid hsp
   have HFL := Lib.hid (fld_ok (w1.iter s (j + 1)) (b + 1) b i hi4 cB)
   have HI := Lib.hid (And.intro hal (And.intro hin hi))
   clear hal hin hi hsp hz hlo hhi cf hj
   go_wp2_with fail
   refine HSP.out.mono ?_
   rintro e w2 ⟨rfl, rfl⟩
   go_wp2_with fail
   refine HFL.out.mono ?_
   rintro e w3 ⟨rfl, rfl⟩
   by_cases hlo : z < lo
   ·have HL := Lib.hid hlo
    go_wp2_with fail
    go_ret
    refine ⟨?_, ?_⟩
    ·rw [HH.out.1]
     have : (idxL dn).all (inR ⟨(dn : Int), A, B, C, N⟩) = false := by
      rw [Bool.eq_false_iff]
      intro hh
      rw [List.all_eq_true] at hh
      have h1 := hh i (List.mem_of_getElem? HI.out.2.2)
      rw [HI.out.2.1, Bool.and_eq_true, decide_eq_true_iff, decide_eq_true_iff] at h1
      have := HL.out
      omega
     rw [this]
     rfl
    ·rw [HB.out]
     exact HS.out.2.alloc HSZ.out _
   ·go_wp2_with fail
    refine HFL.out.mono ?_
    rintro e w4 ⟨rfl, rfl⟩
    by_cases hh2 : hi' < z
    ·have HL := Lib.hid hh2
     go_wp2_with fail
     go_ret
     refine ⟨?_, ?_⟩
     ·rw [HH.out.1]
      have : (idxL dn).all (inR ⟨(dn : Int), A, B, C, N⟩) = false := by
       rw [Bool.eq_false_iff]
       intro hh
       rw [List.all_eq_true] at hh
       have h1 := hh i (List.mem_of_getElem? HI.out.2.2)
       rw [HI.out.2.1, Bool.and_eq_true, decide_eq_true_iff, decide_eq_true_iff] at h1
       have := HL.out
       omega
      rw [this]
      rfl
     ·rw [HB.out]
      exact HS.out.2.alloc HSZ.out _
    ·have HL := Lib.hid (And.intro hlo hh2)
     go_wp2_with fail
     go_roundw
     case rel =>
      refine ⟨j + 1, by omega, rfl, ?_⟩
      rw [List.take_add_one, HI.out.2.2, List.all_append, HI.out.1]
      have h3 := HL.out
      simp [HI.out.2.1]
      omega
     case measure => simp; omega
  ·obtain rfl : j = (idxL dn).length := by omega
   have HA := Lib.hid hal
   have hnl : ¬ (idxL dn).length < s.size := by
    have := congrArg List.length HHS.out
    simp at this
    have h2 : s.data.size = s.size := rfl
    omega
   clear hal hlt hj
   have hnx : ∀ ty, (Instr.next (.pointer (some ⟨w1.heap.size, 0, none⟩)) true ty).run Tryz.prog (w1.iter s (idxL dn).length) = .ok (.tuple #[.bool false]) (w1.iter s (idxL dn).length) := fun ty => run_next_end w1 s (idxL dn).length ty hnl
   clear hnl
   go_wp2_with fail
   go_ret
   refine ⟨?_, ?_⟩
   ·have := HA.out
    rw [List.take_length] at this
    rw [HH.out.1, this]
    rfl
   ·rw [HB.out]
    exact HS.out.2.alloc HSZ.out _
theorem ranged_ok (w : World) (hs : ShTab w) (o : POp) (ho : 1 ≤ o.d ∧ o.d ≤ 15) : Calls Tryz.prog 84 #[o.val] w fun e w' => e = .returned (.bool (rangedB o)) ∧ Below w.heap.size w w' := by
 obtain ⟨D, A, B, C, N⟩ := o
 unfold POp.val
 simp only at ho
 obtain ⟨dn, rfl⟩ : ∃ dn : Nat, D = (dn : Int) := ⟨D.toNat, by omega⟩
 exact ranged_in w hs dn (by omega) (by omega) A B C N
theorem holds_ok (w : World) (o : POp) : Calls Tryz.prog 128 #[o.val] w fun e w' => e = .returned (.bool o.holds) ∧ Below w.heap.size w w' := by
 obtain ⟨D, A, B, C, N⟩ := o
 unfold POp.val POp.holds
 by_cases h : D = 13
 ·subst h
  go_enter Tryz.func128, Tryz.ntmps128
  go_wp2_with fail
  go_ret
  exact ⟨rfl, (Below.refl _ _).alloc (Nat.le_refl _) _⟩
 ·have e : (D == 13) = false := by simpa using h
  clear h
  go_enter Tryz.func128, Tryz.ntmps128
  go_wp2_with fail
  go_ret
  refine ⟨?_, (Below.refl _ _).alloc (Nat.le_refl _) _⟩
  rw [e]
  rfl
theorem Tryz.infoIntN : (Tryz.prog.info? 3).map (fun i => (i.zero, i.size, i.bytes)) = some (some (.int .i64 0), 1, 8) := by kernel_rfl
def sliceLen : Value → Nat
 | .slice _ n _ => n
 | _ => 0
def StkR (w : World) (v : Value) (es : List Int) (wr : World) : Prop :=
 ∃ A c, v = .slice A es.length c ∧ wr.ownsRow w.heap.size 3 1 v es.length (es.map (Value.int .i64)) ∧ Below w.heap.size w wr
theorem StkR.nil (w : World) : StkR w (.slice none 0 0) [] w := ⟨none, 0, rfl, World.ownsRow_nil _ _ _ _, Below.refl _ _⟩
theorem StkR.below {w wr w' : World} {v : Value} {es : List Int} (h : StkR w v es wr) (hb : Below wr.heap.size wr w') : StkR w v es w' :=
 let ⟨A, c, e, h1, h2⟩ := h; ⟨A, c, e, own_below h1 hb, h2.trans (hb.mono h2.size)⟩
theorem own_shrink {w : World} {base : Nat} {e : TypeId} {A : Option Addr} {n c : Nat} {xs : List Value} {x : Value} (h : w.ownsRow base e 1 (.slice A (n + 1) c) (n + 1) (xs ++ [x])) (hl : xs.length = n) : w.ownsRow base e 1 (.slice A n c) n xs := by
 rcases h.2 with ⟨h1, h2⟩ | ⟨g, cap, cur, hv, hg, hb, hn, hc, hs, ht⟩
 ·injection h1 with _ h1 _; omega
 ·injection hv with e1 e2 e3
  subst e1 e3
  refine ⟨by simpa using hl, .inr ⟨g, c, cur, rfl, hg, hb, by omega, hc, hs, ?_⟩⟩
  have h3 : (cur.toList.take ((n + 1) * 1)).take (n * 1) = (xs ++ [x]).take (n * 1) := by rw [ht]
  rw [List.take_take, Nat.min_eq_left (by omega)] at h3
  rw [h3, List.take_append_of_le_length (by omega), List.take_of_length_le (by omega)]
theorem StkR.pop {w wr : World} {A : Option Addr} {n c : Nat} {es : List Int} {x : Int} (h : StkR w (.slice A n c) (es ++ [x]) wr) : StkR w (.slice A es.length c) es wr := by
 obtain ⟨A', c', hv, h1, h2⟩ := h
 injection hv with e1 e2 e3
 subst e1 e2 e3
 rw [List.length_append, List.map_append] at h1
 exact ⟨A, c, rfl, own_shrink h1 (by simp), h2⟩
theorem StkR.top {w wr : World} {A : Option Addr} {n c : Nat} {es : List Int} {x : Int} (h : StkR w (.slice A n c) (es ++ [x]) wr) : ∃ g, A = some ⟨g, 0, none⟩ ∧ wr.cell? ⟨g, es.length, none⟩ = some (.int .i64 x) ∧ g < wr.heap.size ∧ es.length + 1 ≤ c := by
 obtain ⟨A', c', hv, h1, h2⟩ := h
 injection hv with e1 e2 e3
 subst e1 e2 e3
 obtain ⟨g, cap, hv, hg0, hgl⟩ := h1.form (by simp)
 have hcap : es.length + 1 ≤ c := by
  rcases h1.2 with ⟨_, h0⟩ | ⟨_, _, _, hv2, _, _, hn, _⟩
  ·simp at h0
  ·injection hv2 with _ _ e3
   subst e3
   simpa using hn
 injection hv with e1 e2 e3
 subst e1
 refine ⟨g, rfl, ?_, hgl, hcap⟩
 have := h1.cellAt es.length (by simp)
 rw [this]
 simp
theorem OpRd.at_ {w : World} {F : Nat → Prop} {A : Option Addr} {n c : Nat} {l : List POp} (h : OpRd w F (.slice A n c) l) {k : Nat} {x : POp} (hk : l[k]? = some x) :
  ∃ b o, A = some ⟨b, o, none⟩ ∧ F b ∧ w.cell? ⟨b, o + k * 5, none⟩ = some (.int .i64 x.d) ∧ w.cell? ⟨b, o + k * 5 + 1, none⟩ = some (.int .i64 x.a) ∧ w.cell? ⟨b, o + k * 5 + 2, none⟩ = some (.int .i64 x.b) ∧
   w.cell? ⟨b, o + k * 5 + 3, none⟩ = some (.int .i64 x.c) ∧ w.cell? ⟨b, o + k * 5 + 4, none⟩ = some (.int .i64 x.n) := by
 obtain ⟨A', n', c', hv, hl, _, _, hx⟩ := h
 injection hv with h1 h2 h3
 subst h1 h2 h3
 have hlt := (List.getElem?_eq_some_iff.1 hk).1
 obtain ⟨b, o, rfl, hF, hc⟩ := hx (by simp at hl; omega)
 have hx' : (l.map POp.cells)[k]? = some x.cells := by simp [hk]
 exact ⟨b, o, rfl, hF, hc k _ hx' 0 _ rfl, hc k _ hx' 1 _ rfl, hc k _ hx' 2 _ rfl, hc k _ hx' 3 _ rfl, hc k _ hx' 4 _ rfl⟩
theorem OpRd.slice {w : World} {F : Nat → Prop} {v : Value} {l : List POp} (h : OpRd w F v l) : ∃ A c, v = .slice A l.length c ∧ l.length ≤ c ∧ c ≤ maxLen := by
 obtain ⟨A', n', c', hv, hl, h1, h2, _⟩ := h
 simp at hl
 exact ⟨A', c', by rw [hl]; exact hv, by omega, h2⟩
def NestR (w : World) (l : List POp) (k : Nat) (v : Value) (wr : World) : Prop :=
 ∃ es, StkR w v es wr ∧ es.Pairwise (fun a b => a ≥ b) ∧ es.filter (fun e => decide ((k : Int) < e)) = opens l k ∧ nestedTo l k = true ∧ es.length ≤ k
set_option maxHeartbeats 2000000 in
theorem nested_ok (w : World) (F : Nat → Prop) (v : Value) (l : List POp) (h : OpRd w F v l) (hl : l.length ≤ 64) (hn : ∀ o ∈ l, o.holds = true → 0 ≤ o.n ∧ o.n ≤ 64) :
  Calls Tryz.prog 85 #[v] w fun e w' => e = .returned (.bool (nestedB l)) ∧ Below w.heap.size w w' := by
 obtain ⟨i0, hi, hz0, hz1, hz2⟩ := info_parts Tryz.infoIntN
 obtain ⟨A, c, rfl, _⟩ := h.slice
 have H := Lib.hid (And.intro h (And.intro hn hi))
 clear h hn hi
 go_enter Tryz.func85, Tryz.ntmps85
 go_wp2_with fail
 go_loopw [3, 10] (fun v i wr => ∃ k : Nat, k ≤ l.length ∧ i = .int .i64 (k : Int) ∧ NestR w l k v wr) (fun _ i _ => l.length - (intOf i).toNat)
 case atStart => exact ⟨0, Nat.zero_le _, rfl, [], StkR.nil w, List.Pairwise.nil, rfl, rfl, Nat.le_refl _⟩
 case round =>
  obtain ⟨k, hk, rfl, es0, hst, hpw, hfl, hnt, hle0⟩ := hrel
  by_cases hlt : k < l.length
  ·obtain ⟨x, hx⟩ : ∃ x, l[k]? = some x := ⟨_, List.getElem?_eq_getElem hlt⟩
   obtain ⟨b, o, rfl, hFb, c0, c1, c2, c3, c4⟩ := H.out.1.at_ hx
   have hbl : Below w.heap.size w wr := let ⟨_, _, _, _, hb⟩ := hst; hb
   have hbw := World.block_lt_of_cell? _ _ c0
   have d0 := (hbl.cell (p := ⟨b, o + k * 5, none⟩) hbw).trans c0
   have d1 := (hbl.cell (p := ⟨b, o + k * 5 + 1, none⟩) hbw).trans c1
   have d2 := (hbl.cell (p := ⟨b, o + k * 5 + 2, none⟩) hbw).trans c2
   have d3 := (hbl.cell (p := ⟨b, o + k * 5 + 3, none⟩) hbw).trans c3
   have d4 := (hbl.cell (p := ⟨b, o + k * 5 + 4, none⟩) hbw).trans c4
   obtain ⟨D, A', B', C', N'⟩ := x
   simp only at d0 d1 d2 d3 d4
   have hst4 := hst.below (((Below.refl _ _).alloc (Nat.le_refl _) (.cells #[.int .i64 D, .int .i64 A', .int .i64 B', .int .i64 C', .int .i64 N'] 104)))
   have HX := Lib.hid (And.intro hx (And.intro hpw (And.intro hfl (And.intro hnt hst4))))
   obtain ⟨A0, c0', rfl, _, _⟩ := hst
   clear hx hpw hfl hnt hst4 hbl c0 c1 c2 c3 c4 hFb
   go_upto_region 5 with fail
   have q0 : (wr.alloc (.cells #[.int .i64 D, .int .i64 A', .int .i64 B', .int .i64 C', .int .i64 N'] 104)).cell? ⟨wr.heap.size, 0, none⟩ = some (.int .i64 D) := by simp
   have q1 : (wr.alloc (.cells #[.int .i64 D, .int .i64 A', .int .i64 B', .int .i64 C', .int .i64 N'] 104)).cell? ⟨wr.heap.size, 1, none⟩ = some (.int .i64 A') := by simp
   have q2 : (wr.alloc (.cells #[.int .i64 D, .int .i64 A', .int .i64 B', .int .i64 C', .int .i64 N'] 104)).cell? ⟨wr.heap.size, 2, none⟩ = some (.int .i64 B') := by simp
   have q3 : (wr.alloc (.cells #[.int .i64 D, .int .i64 A', .int .i64 B', .int .i64 C', .int .i64 N'] 104)).cell? ⟨wr.heap.size, 3, none⟩ = some (.int .i64 C') := by simp
   have q4 : (wr.alloc (.cells #[.int .i64 D, .int .i64 A', .int .i64 B', .int .i64 C', .int .i64 N'] 104)).cell? ⟨wr.heap.size, 4, none⟩ = some (.int .i64 N') := by simp
   generalize wr.alloc (.cells #[.int .i64 D, .int .i64 A', .int .i64 B', .int .i64 C', .int .i64 N'] 104) = W4 at HX q0 q1 q2 q3 q4 ⊢
   obtain ⟨B4, hB4⟩ : ∃ B, wr.heap.size = B := ⟨_, rfl⟩
   rw [hB4] at q0 q1 q2 q3 q4 ⊢
   clear hB4 d0 d1 d2 d3 d4 hbw
   go_loop [3] (fun v => ∃ es, StkR w v es W4 ∧ es.Pairwise (fun a b => a ≥ b) ∧ es.filter (fun e => decide ((k : Int) < e)) = opens l k ∧ es.length ≤ k) (fun v => sliceLen v)
   case atStart => exact ⟨es0, HX.out.2.2.2.2, HX.out.2.1, HX.out.2.2.1, hle0⟩
   case round =>
    obtain ⟨es, hst, hpw, hfl, hle⟩ := hrel
    obtain ⟨A5, c5, rfl, how, hbl⟩ := hst
    have hst : StkR w (.slice A5 es.length c5) es W4 := ⟨A5, c5, rfl, how, hbl⟩
    clear how hbl
    rcases List.eq_nil_or_concat es with rfl | ⟨es', z, hes⟩
    ·obtain ⟨es, hes⟩ : ∃ es : List Int, es = [] := ⟨[], rfl⟩
     have HES := Lib.hid hes
     have HLEN := Lib.hid (show es.length = 0 by rw [hes]; rfl)
     have hle0 : es.length ≤ 0 := by rw [hes]; exact Nat.le_refl _
     have HO := Lib.hid (show StkR w (.slice A5 0 c5) es W4 ∧ es.Pairwise (fun a b => a ≥ b) ∧ es = opens l k ∧ es.length ≤ k by rw [hes]; exact ⟨hst, hpw, hfl, Nat.zero_le _⟩)
     clear hst hpw hfl hes
     by_cases h8 : es.length ≤ 8
     ·have h8' : ¬ ((8 : Int) < (0 : Int)) := by omega
      go_wp2_with fail
      refine (holds_ok W4 ⟨D, A', B', C', N'⟩).mono ?_
      rintro e5 w5 ⟨rfl, hb5⟩
      have q4' := (hb5.cell (p := ⟨B4, 4, none⟩) (World.block_lt_of_cell? _ _ q4)).trans q4
      have HST5 := Lib.hid (And.intro (HO.out.1.below hb5) hb5)
      clear hb5
      cases hh : (⟨D, A', B', C', N'⟩ : POp).holds with
      | false =>
       have HH := Lib.hid hh
       clear hh
       go_wp2_with fail
       go_roundw
       case rel =>
        have hpl : placeB l k ⟨D, A', B', C', N'⟩ = true := by unfold placeB; rw [← HO.out.2.2.1, HH.out, decide_eq_true h8]; rfl
        exact ⟨k + 1, by omega, by go_num, es, HST5.out.1, HO.out.2.1, by rw [HO.out.2.2.1]; exact stack_no HX.out.1 HH.out, by rw [nestedTo_succ HX.out.1, HX.out.2.2.2.1, hpl]; rfl, by omega⟩
       case measure => simp [intOf]; omega
      | true =>
       have hnb := H.out.2.1 _ (List.mem_of_getElem? HX.out.1) hh
       simp only at hnb
       have hnb1 := hnb.1
       have hnb2 := hnb.2
       have HH := Lib.hid hh
       clear hh hnb
       have hlo := Lib.hid (show lastOf l.length (opens l k) = (l.length : Int) by rw [← HO.out.2.2.1, HES.out]; rfl)
       have hmx := Lib.hid (show ∀ e ∈ es, (k : Int) + 1 + N' ≤ e by intro e he; rw [HES.out] at he; simp at he)
       by_cases hend : (l.length : Int) < (k : Int) + 1 + N'
       ·have HE := Lib.hid hend
        go_wp2_with fail
        go_ret
        refine ⟨?_, let ⟨_, _, _, _, hb⟩ := HST5.out.1; hb⟩
        have hpl : placeB l k ⟨D, A', B', C', N'⟩ = false := by
         unfold placeB
         rw [hlo.out, HH.out]
         have : ¬ endOf k ⟨D, A', B', C', N'⟩ ≤ (l.length : Int) := by have := HE.out; unfold endOf; simp only; omega
         rw [decide_eq_false this]
         simp
        have : nestedB l = false := by
         rw [Bool.eq_false_iff]
         intro hh
         have h1 := nestedTo_mono hh (show k + 1 ≤ l.length by omega)
         rw [nestedTo_succ HX.out.1, hpl] at h1
         simp at h1
        rw [this]
        rfl
       ·have HE := Lib.hid hend
        have hownx := HST5.out.1
        obtain ⟨Ax, cx, hvx, hox, hbx⟩ := hownx
        rw [HLEN.out] at hox
        have hnews := World.news_of_block (heap_alloc_new w5 (.cells #[.int .i64 ((k : Int) + 1 + N')] 3))
        have hsx := hbx.size
        have HA := Lib.hid (And.intro (hox.alloc (.cells #[.int .i64 ((k : Int) + 1 + N')] 3)) (And.intro hnews (And.intro hbx (And.intro hox H.out.2.2))))
        clear hvx hox hbx hnews
        go_wp2_with (at_builtin; go_loud (refine wpList_append_lies _ rfl _ _ 51 rfl w.heap.size 3 i0 _ 1 8 Tryz.underlying51 HA.out.2.2.2.2 hz0 hz1 hz2 rfl (by decide) _ (0) _ rfl HA.out.1 ⟨w5.heap.size, 0, none⟩ 1 1 [.int .i64 ((k : Int) + 1 + N')] rfl rfl HA.out.2.1 (by simp [Value.oneCell']) (by decide) (by unfold maxLen; omega) (by omega) (by simp; omega) _ rfl ?_))
        intro g6 cap6 w6 hown6 hg6 hat6 hlt6
        have HG := Lib.hid (And.intro hown6 hg6)
        clear hown6 hg6 hat6 hlt6
        go_wp2_with fail
        go_roundw
        case rel =>
         have hpl : placeB l k ⟨D, A', B', C', N'⟩ = true := by
          unfold placeB
          rw [hlo.out, ← HO.out.2.2.1, HH.out, decide_eq_true h8]
          have : endOf k ⟨D, A', B', C', N'⟩ ≤ (l.length : Int) := by have := HE.out; unfold endOf; simp only; omega
          rw [decide_eq_true this]
          rfl
         have hmx : ∀ e ∈ es, (k : Int) + 1 + N' ≤ e := hmx.out
         refine ⟨k + 1, by omega, by go_num, es ++ [(k : Int) + 1 + N'], ⟨some ⟨g6, 0, none⟩, cap6, by rw [HES.out]; rfl, ?_, ?_⟩, falls_snoc HO.out.2.1 hmx, ?_, by rw [nestedTo_succ HX.out.1, HX.out.2.2.2.1, hpl]; rfl, by simp; omega⟩
         ·have h9 := HG.out.1
          rw [HES.out] at h9 ⊢
          simpa using h9
         ·exact (HA.out.2.2.1.alloc hsx _).grown HG.out.2 (by simp; omega) (fun j hj => (HA.out.2.2.2.1.lt j hj).1)
         ·rw [HO.out.2.2.1]
          exact stack_yes HX.out.1 HH.out
        case measure => simp [intOf]; omega
     ·have h8' : (8 : Int) < (0 : Int) := by omega
      go_wp2_with fail
      go_ret
      refine ⟨?_, let ⟨_, _, _, _, hb⟩ := HO.out.1; hb⟩
      have hpl : placeB l k ⟨D, A', B', C', N'⟩ = false := by
       unfold placeB
       rw [← HO.out.2.2.1, decide_eq_false h8]
       rfl
      have : nestedB l = false := by
       rw [Bool.eq_false_iff]
       intro hh
       have h1 := nestedTo_mono hh (show k + 1 ≤ l.length by omega)
       rw [nestedTo_succ HX.out.1, hpl] at h1
       simp at h1
      rw [this]
      rfl
    ·rw [List.concat_eq_append] at hes
     obtain ⟨g, hA5, hcz, hgl, hcap⟩ := (show StkR w (.slice A5 es.length c5) (es' ++ [z]) W4 by rw [← hes]; exact hst).top
     have hlen : es.length = es'.length + 1 := by rw [hes]; simp
     subst hA5
     by_cases hzk : z ≤ (k : Int)
     ·have HO := Lib.hid (And.intro hst (And.intro hpw (And.intro hfl hes)))
      clear hst hpw hfl hes
      rw [hlen]
      go_wp2_with fail
      go_round
      case rel =>
       have hst' : StkR w (.slice (some ⟨g, 0, none⟩) (es'.length + 1) c5) (es' ++ [z]) W4 := by rw [← hlen, ← HO.out.2.2.2]; exact HO.out.1
       have hpw' : (es' ++ [z]).Pairwise (fun a b => a ≥ b) := by rw [← HO.out.2.2.2]; exact HO.out.2.1
       refine ⟨es', hst'.pop, (List.pairwise_append.1 hpw').1, ?_, by omega⟩
       have h1 := HO.out.2.2.1
       rw [HO.out.2.2.2, List.filter_append, List.filter_cons, if_neg (by simp; omega), List.filter_nil, List.append_nil] at h1
       exact h1
      case measure => simp [sliceLen]
     ·have HES := Lib.hid hes
      have hall : es.filter (fun e => decide ((k : Int) < e)) = es := falls_all hpw (fun e he => by rw [hes] at he; simp at he; omega)
      rw [hall] at hfl
      have HLEN := Lib.hid hlen
      have HO := Lib.hid (show StkR w (.slice (some ⟨g, 0, none⟩) (es'.length + 1) c5) es W4 ∧ es.Pairwise (fun a b => a ≥ b) ∧ es = opens l k ∧ es.length ≤ k by rw [← hlen]; exact ⟨hst, hpw, hfl, hle⟩)
      have hl1 : es.length ≤ es'.length + 1 := by omega
      have hl2 : es'.length + 1 ≤ es.length := by omega
      rw [hlen]
      clear hst hpw hfl hes hall hlen
      by_cases h8 : es.length ≤ 8
      ·have h8' : ¬ ((8 : Int) < ((es'.length : Int) + 1)) := by omega
       go_wp2_with fail
       refine (holds_ok W4 ⟨D, A', B', C', N'⟩).mono ?_
       rintro e5 w5 ⟨rfl, hb5⟩
       have q4' := (hb5.cell (p := ⟨B4, 4, none⟩) (World.block_lt_of_cell? _ _ q4)).trans q4
       have hcz' := (hb5.cell (p := ⟨g, es'.length, none⟩) hgl).trans hcz
       have HST5 := Lib.hid (And.intro (HO.out.1.below hb5) hb5)
       clear hb5
       cases hh : (⟨D, A', B', C', N'⟩ : POp).holds with
       | false =>
        have HH := Lib.hid hh
        clear hh
        go_wp2_with fail
        go_roundw
        case rel =>
         have hpl : placeB l k ⟨D, A', B', C', N'⟩ = true := by unfold placeB; rw [← HO.out.2.2.1, HH.out, decide_eq_true h8]; rfl
         exact ⟨k + 1, by omega, by go_num, es, HST5.out.1, HO.out.2.1, by rw [HO.out.2.2.1]; exact stack_no HX.out.1 HH.out, by rw [nestedTo_succ HX.out.1, HX.out.2.2.2.1, hpl]; rfl, by omega⟩
        case measure => simp [intOf]; omega
       | true =>
        have hnb := H.out.2.1 _ (List.mem_of_getElem? HX.out.1) hh
        simp only at hnb
        have hnb1 := hnb.1
        have hnb2 := hnb.2
        have HH := Lib.hid hh
        clear hh hnb
        have hlo := Lib.hid (show lastOf l.length (opens l k) = z by rw [← HO.out.2.2.1, HES.out]; simp [lastOf])
        by_cases hend : z < (k : Int) + 1 + N'
        ·have HE := Lib.hid hend
         go_wp2_with fail
         go_ret
         refine ⟨?_, let ⟨_, _, _, _, hb⟩ := HST5.out.1; hb⟩
         have hpl : placeB l k ⟨D, A', B', C', N'⟩ = false := by
          unfold placeB
          rw [hlo.out, HH.out]
          have : ¬ endOf k ⟨D, A', B', C', N'⟩ ≤ z := by have := HE.out; unfold endOf; simp only; omega
          rw [decide_eq_false this]
          simp
         have : nestedB l = false := by
          rw [Bool.eq_false_iff]
          intro hh
          have h1 := nestedTo_mono hh (show k + 1 ≤ l.length by omega)
          rw [nestedTo_succ HX.out.1, hpl] at h1
          simp at h1
         rw [this]
         rfl
        ·have HE := Lib.hid hend
         have hownx := HST5.out.1
         obtain ⟨Ax, cx, hvx, hox, hbx⟩ := hownx
         rw [HLEN.out] at hox
         have hnews := World.news_of_block (heap_alloc_new w5 (.cells #[.int .i64 ((k : Int) + 1 + N')] 3))
         have hsx := hbx.size
         have HA := Lib.hid (And.intro (hox.alloc (.cells #[.int .i64 ((k : Int) + 1 + N')] 3)) (And.intro hnews (And.intro hbx (And.intro hox H.out.2.2))))
         clear hvx hox hbx hnews
         go_wp2_with (at_builtin; go_loud (refine wpList_append_lies _ rfl _ _ 51 rfl w.heap.size 3 i0 _ 1 8 Tryz.underlying51 HA.out.2.2.2.2 hz0 hz1 hz2 rfl (by decide) _ (es'.length + 1) _ rfl HA.out.1 ⟨w5.heap.size, 0, none⟩ 1 1 [.int .i64 ((k : Int) + 1 + N')] rfl rfl HA.out.2.1 (by simp [Value.oneCell']) (by decide) (by unfold maxLen; omega) (by omega) (by simp; omega) _ rfl ?_))
         intro g6 cap6 w6 hown6 hg6 hat6 hlt6
         have HG := Lib.hid (And.intro hown6 hg6)
         clear hown6 hg6 hat6 hlt6
         go_wp2_with fail
         go_roundw
         case rel =>
          have hpl : placeB l k ⟨D, A', B', C', N'⟩ = true := by
           unfold placeB
           rw [hlo.out, ← HO.out.2.2.1, HH.out, decide_eq_true h8]
           have : endOf k ⟨D, A', B', C', N'⟩ ≤ z := by have := HE.out; unfold endOf; simp only; omega
           rw [decide_eq_true this]
           rfl
          have hmx : ∀ e ∈ es, (k : Int) + 1 + N' ≤ e := (by rw [HES.out]; exact falls_last (by rw [← HES.out]; exact HO.out.2.1) (by have := HE.out; omega))
          refine ⟨k + 1, by omega, by go_num, es ++ [(k : Int) + 1 + N'], ⟨some ⟨g6, 0, none⟩, cap6, by rw [HES.out]; simp, ?_, ?_⟩, falls_snoc HO.out.2.1 hmx, ?_, by rw [nestedTo_succ HX.out.1, HX.out.2.2.2.1, hpl]; rfl, by simp; omega⟩
          ·have h9 := HG.out.1
           rw [show (es ++ [(k : Int) + 1 + N']).length = es'.length + 1 + 1 by simp [HLEN.out]]
           simpa using h9
          ·exact (HA.out.2.2.1.alloc hsx _).grown HG.out.2 (by simp; omega) (fun j hj => (HA.out.2.2.2.1.lt j hj).1)
          ·rw [HO.out.2.2.1]
           exact stack_yes HX.out.1 HH.out
         case measure => simp [intOf]; omega
      ·have h8' : (8 : Int) < ((es'.length : Int) + 1) := by omega
       go_wp2_with fail
       go_ret
       refine ⟨?_, let ⟨_, _, _, _, hb⟩ := HO.out.1; hb⟩
       have hpl : placeB l k ⟨D, A', B', C', N'⟩ = false := by
        unfold placeB
        rw [← HO.out.2.2.1, decide_eq_false h8]
        rfl
       have : nestedB l = false := by
        rw [Bool.eq_false_iff]
        intro hh
        have h1 := nestedTo_mono hh (show k + 1 ≤ l.length by omega)
        rw [nestedTo_succ HX.out.1, hpl] at h1
        simp at h1
       rw [this]
       rfl
  ·obtain rfl : k = l.length := by omega
   have HX := Lib.hid (And.intro hst hnt)
   obtain ⟨A0, c0', rfl, _, _⟩ := hst
   clear hnt hpw hfl
   go_wp2_with fail
   go_ret
   exact ⟨by rw [show nestedB l = true from HX.out.2]; rfl, let ⟨_, _, _, _, hb⟩ := HX.out.1; hb⟩
theorem ranged_holds {o : POp} (h : rangedB o = true) (hh : o.holds = true) : 0 ≤ o.n ∧ o.n ≤ 64 := by
 unfold rangedB at h
 rw [List.all_eq_true] at h
 have h3 := h 3 (List.mem_range.2 (by decide))
 unfold POp.holds at hh
 rw [Bool.or_eq_true, beq_iff_eq, beq_iff_eq] at hh
 rcases hh with hh | hh
 ·simp [hh, hasF, loF, hiF, POp.fld] at h3
  omega
 ·simp [hh, hasF, loF, hiF, POp.fld] at h3
  omega
theorem formed_do {o : POp} (h : formedB o = true) : 1 ≤ o.d ∧ o.d ≤ 15 := by
 unfold formedB at h
 rw [Bool.and_eq_true] at h
 exact of_decide_eq_true h.1
theorem all_take_no {l : List POp} {p : POp → Bool} {k : Nat} {x : POp} (hx : l[k]? = some x) (hp : p x = false) : l.all p = false := by
 rw [Bool.eq_false_iff]
 intro h
 rw [List.all_eq_true] at h
 rw [h x (List.mem_of_getElem? hx)] at hp
 cases hp
def SeenR (w : World) (l : List POp) (p : POp → Bool) (k : Nat) (wr : World) : Prop := (l.take k).all p = true ∧ Below w.heap.size w wr
theorem seen_next {l : List POp} {p : POp → Bool} {k : Nat} {x : POp} (h : (l.take k).all p = true) (hx : l[k]? = some x) (hp : p x = true) : (l.take (k + 1)).all p = true := by
 rw [List.take_add_one, hx, List.all_append, h]
 simp [hp]
set_option maxHeartbeats 1000000 in
theorem pcheck_ok (w : World) (F : Nat → Prop) (v : Value) (l : List POp) (h : OpRd w F v l) (hs : ShTab w) :
  Calls Tryz.prog 50 #[v] w fun e w' => e = .returned (.int .i64 (opsE l)) ∧ Below w.heap.size w w' := by
 obtain ⟨A, c, rfl, hlc, hcm⟩ := h.slice
 unfold maxLen at hcm
 by_cases h64 : 64 < l.length
 ·have HE := Lib.hid (show opsE l = 23 by unfold opsE; rw [if_pos h64])
  have h64' : (64 : Int) < (l.length : Int) := by omega
  clear h hs
  go_enter Tryz.func50, Tryz.ntmps50
  go_wp2_with fail
  go_ret
  exact ⟨by rw [HE.out]; rfl, Below.refl _ _⟩
 have hE : opsE l = if l.all formedB = false then 11 else if l.all rangedB = false then 10 else if nestedB l = false then 11 else 0 := by unfold opsE; rw [if_neg h64]
 have h64' : ¬ ((64 : Int) < (l.length : Int)) := by omega
 have H := Lib.hid (And.intro h (And.intro hs hE))
 clear h hs hE
 go_enter Tryz.func50, Tryz.ntmps50
 go_wp2_with fail
 go_loopw [12] (fun i wr => ∃ k : Nat, k ≤ l.length ∧ i = .int .i64 (k : Int) ∧ SeenR w l formedB k wr) (fun i _ => l.length - (intOf i).toNat)
 case atStart => exact ⟨0, Nat.zero_le _, rfl, rfl, Below.refl _ _⟩
 case round =>
  obtain ⟨k, hk, rfl, hal, hbl⟩ := hrel
  by_cases hlt : k < l.length
  ·obtain ⟨x, hx⟩ : ∃ x, l[k]? = some x := ⟨_, List.getElem?_eq_getElem hlt⟩
   obtain ⟨b, o, rfl, hFb, c0, c1, c2, c3, c4⟩ := H.out.1.at_ hx
   have hbw := World.block_lt_of_cell? _ _ c0
   have d0 := (hbl.cell (p := ⟨b, o + k * 5, none⟩) hbw).trans c0
   have d1 := (hbl.cell (p := ⟨b, o + k * 5 + 1, none⟩) hbw).trans c1
   have d2 := (hbl.cell (p := ⟨b, o + k * 5 + 2, none⟩) hbw).trans c2
   have d3 := (hbl.cell (p := ⟨b, o + k * 5 + 3, none⟩) hbw).trans c3
   have d4 := (hbl.cell (p := ⟨b, o + k * 5 + 4, none⟩) hbw).trans c4
   obtain ⟨D, A', B', C', N'⟩ := x
   simp only at d0 d1 d2 d3 d4
   have hb4 := hbl.alloc hbl.size (.cells #[.int .i64 D, .int .i64 A', .int .i64 B', .int .i64 C', .int .i64 N'] 104)
   have HF := Lib.hid (formed_ok _ (H.out.2.1.below hb4) ⟨D, A', B', C', N'⟩)
   have HX := Lib.hid (And.intro hx (And.intro hal hb4))
   clear hx hal hbl c0 c1 c2 c3 c4 hFb hbw hb4
   go_wp2_with fail
   refine HF.out.mono ?_
   rintro e w5 ⟨rfl, hb5⟩
   have HB5 := Lib.hid (HX.out.2.2.trans (hb5.mono HX.out.2.2.size))
   clear hb5 HF
   cases hf : formedB ⟨D, A', B', C', N'⟩ with
   | true =>
    have HV := Lib.hid hf
    clear hf
    go_wp2_with fail
    go_roundw
    case rel => exact ⟨k + 1, by omega, by go_num, seen_next HX.out.2.1 HX.out.1 HV.out, HB5.out⟩
    case measure => simp [intOf]; omega
   | false =>
    have HV := Lib.hid hf
    clear hf
    go_wp2_with fail
    go_ret
    exact ⟨by rw [H.out.2.2, if_pos (all_take_no HX.out.1 HV.out)]; rfl, HB5.out⟩
  ·obtain rfl : k = l.length := by omega
   rw [List.take_length] at hal
   have HA := Lib.hid (And.intro hal hbl)
   clear hal hbl
   go_wp2_with fail
   go_loopw [22] (fun i wr => ∃ k : Nat, k ≤ l.length ∧ i = .int .i64 (k : Int) ∧ SeenR w l rangedB k wr) (fun i _ => l.length - (intOf i).toNat)
   case atStart => exact ⟨0, Nat.zero_le _, rfl, rfl, HA.out.2⟩
   case round =>
    obtain ⟨k, hk, rfl, hal, hbl⟩ := hrel
    by_cases hlt : k < l.length
    ·obtain ⟨x, hx⟩ : ∃ x, l[k]? = some x := ⟨_, List.getElem?_eq_getElem hlt⟩
     obtain ⟨b, o, rfl, hFb, c0, c1, c2, c3, c4⟩ := H.out.1.at_ hx
     have hbw := World.block_lt_of_cell? _ _ c0
     have hdo := formed_do (List.all_eq_true.1 HA.out.1 x (List.mem_of_getElem? hx))
     have d0 := (hbl.cell (p := ⟨b, o + k * 5, none⟩) hbw).trans c0
     have d1 := (hbl.cell (p := ⟨b, o + k * 5 + 1, none⟩) hbw).trans c1
     have d2 := (hbl.cell (p := ⟨b, o + k * 5 + 2, none⟩) hbw).trans c2
     have d3 := (hbl.cell (p := ⟨b, o + k * 5 + 3, none⟩) hbw).trans c3
     have d4 := (hbl.cell (p := ⟨b, o + k * 5 + 4, none⟩) hbw).trans c4
     obtain ⟨D, A', B', C', N'⟩ := x
     simp only at d0 d1 d2 d3 d4
     have hb4 := hbl.alloc hbl.size (.cells #[.int .i64 D, .int .i64 A', .int .i64 B', .int .i64 C', .int .i64 N'] 104)
     have HF := Lib.hid (ranged_ok _ (H.out.2.1.below hb4) ⟨D, A', B', C', N'⟩ hdo)
     have HX := Lib.hid (And.intro hx (And.intro hal hb4))
     clear hx hal hbl c0 c1 c2 c3 c4 hFb hbw hb4 hdo
     go_wp2_with fail
     refine HF.out.mono ?_
     rintro e w5 ⟨rfl, hb5⟩
     have HB5 := Lib.hid (HX.out.2.2.trans (hb5.mono HX.out.2.2.size))
     clear hb5 HF
     cases hf : rangedB ⟨D, A', B', C', N'⟩ with
     | true =>
      have HV := Lib.hid hf
      clear hf
      go_wp2_with fail
      go_roundw
      case rel => exact ⟨k + 1, by omega, by go_num, seen_next HX.out.2.1 HX.out.1 HV.out, HB5.out⟩
      case measure => simp [intOf]; omega
     | false =>
      have HV := Lib.hid hf
      clear hf
      go_wp2_with fail
      go_ret
      exact ⟨by rw [H.out.2.2, if_neg (by rw [HA.out.1]; simp), if_pos (all_take_no HX.out.1 HV.out)]; rfl, HB5.out⟩
    ·obtain rfl : k = l.length := by omega
     rw [List.take_length] at hal
     have HR := Lib.hid (And.intro hal hbl)
     have hnest := nested_ok wr F (.slice A l.length c) l (RdK.below H.out.1 hbl) (by omega) (fun o ho hh => ranged_holds (List.all_eq_true.1 hal o ho) hh)
     have HN := Lib.hid hnest
     clear hal hbl hnest
     go_wp2_with fail
     refine HN.out.mono ?_
     rintro e w6 ⟨rfl, hb6⟩
     have HB6 := Lib.hid (HR.out.2.trans (hb6.mono HR.out.2.size))
     clear hb6 HN
     cases hf : nestedB l with
     | true =>
      have HV := Lib.hid hf
      clear hf
      go_wp2_with fail
      go_ret
      exact ⟨by rw [H.out.2.2, if_neg (by rw [HA.out.1]; simp), if_neg (by rw [HR.out.1]; simp), if_neg (by rw [HV.out]; simp)]; rfl, HB6.out⟩
     | false =>
      have HV := Lib.hid hf
      clear hf
      go_wp2_with fail
      go_ret
      exact ⟨by rw [H.out.2.2, if_neg (by rw [HA.out.1]; simp), if_neg (by rw [HR.out.1]; simp), if_pos HV.out]; rfl, HB6.out⟩
end Go.Proofs.YtagemonojdgbdaaGreatDoor
