/- Ops in memory; proc.formed, ranged. -/
import Derived.Test.YtfaaigfgfljdkaaGreatDoorFoot
import Derived.Test.YtfaaigfgfljdkaaGreatDoorProcP
import Derived.Test.YtfaaigfgfljdkaaGreatDoorShelfP
import Derived.Laws.RangeAny
import Derived.Laws.RangeString
import Derived.Deep.Cut
namespace Go.Proofs.YtfaaigfgfljdkaaGreatDoor
set_option maxRecDepth 100000
open Go.RowKit

def POp.cells (o : POp) : List Value := [.int .i64 o.d, .int .i64 o.a, .int .i64 o.b, .int .i64 o.c, .int .i64 o.n]
def POp.val (o : POp) : Value := .agg #[.int .i64 o.d, .int .i64 o.a, .int .i64 o.b, .int .i64 o.c, .int .i64 o.n]
/-- All parts of an op are numbers of 64 bits. -/
def POp.fits (o : POp) : Prop := (-9223372036854775808 ≤ o.d ∧ o.d ≤ 9223372036854775807) ∧ (-9223372036854775808 ≤ o.a ∧ o.a ≤ 9223372036854775807) ∧ (-9223372036854775808 ≤ o.b ∧ o.b ≤ 9223372036854775807) ∧ (-9223372036854775808 ≤ o.c ∧ o.c ≤ 9223372036854775807) ∧ (-9223372036854775808 ≤ o.n ∧ o.n ≤ 9223372036854775807)
/-- A slice of ops. -/
def OpRd (w : World) (F : Nat → Prop) (v : Value) (l : List POp) : Prop := RdK 5 w F v (l.map POp.cells)

/-- The names of an op's fields. -/
def hasL : Nat → List UInt8
  | 1 => [65, 67]
  | 2 => [65, 66]
  | 3 => [65, 66]
  | 4 => [65, 66]
  | 5 => [65, 66]
  | 6 => [65, 66]
  | 7 => [65, 66]
  | 8 => [65, 66, 67]
  | 9 => [65, 66]
  | 10 => [66]
  | 11 => [65, 66, 67]
  | 12 => [65, 66, 67, 78]
  | 13 => [65, 78]
  | 14 => [67, 78]
  | 15 => [65]
  | _ => []
/-- The table of shapes stands (but for the words). -/
def ShTab (w : World) : Prop := ∀ d : Nat, d < 16 → w.cell? ⟨0, d * 2 + 1, none⟩ = some (.string ⟨(hasL d).toArray⟩)
theorem ShTab.below {w w' : World} (h : ShTab w) (hb : Below w.heap.size w w') : ShTab w' := fun d hd => (hb.cell (p := ⟨0, d * 2 + 1, none⟩) (World.block_lt_of_cell? _ _ (h d hd))).trans (h d hd)
/-- A field's name, by its place. -/
def runeF : Nat → Int
  | 0 => 65
  | 1 => 66
  | 2 => 67
  | _ => 78
theorem has_index : ∀ d, d < 16 → 1 ≤ d → ∀ i, i < 4 → decide (0 ≤ Lib.indexByte (hasL d) (runeF i).toNat.toUInt8) = hasF (d : Int) i := by decide

open Go.Shelf in
theorem Tryz.strings_ContainsRune_ascii' (s : ByteArray) (r : Int) (w : World) (h0 : 0 ≤ r) (h1 : r < 128) :
    Calls Tryz.prog 208 #[.string s, .int .i32 r] w fun e w' => e = .returned (.bool (decide (0 ≤ Lib.indexByte s.data.toList r.toNat.toUInt8))) ∧ w' = w := Any.strings_ContainsRune_ascii Tryz.lays151 s r w h0 h1
theorem fld_ok (w : World) (B b : Nat) (i : Nat) (hi : i < 4) (hc : w.cell? ⟨B, 0, none⟩ = some (.pointer (some ⟨b, 0, none⟩))) :
    Calls Tryz.prog 284 #[.int .i32 (runeF i), .pointer (some ⟨B, 0, none⟩)] w fun e w' => e = .returned (.pointer (some ⟨b, 1 + i, none⟩)) ∧ w = w' := by
  match i, hi with
  | 0, _ =>
    go_enter Tryz.func284, Tryz.ntmps284
    go_wp2_with fail
    go_ret
    exact ⟨rfl, rfl⟩
  | 1, _ =>
    go_enter Tryz.func284, Tryz.ntmps284
    go_wp2_with fail
    go_ret
    exact ⟨rfl, rfl⟩
  | 2, _ =>
    go_enter Tryz.func284, Tryz.ntmps284
    go_wp2_with fail
    go_ret
    exact ⟨rfl, rfl⟩
  | 3, _ =>
    go_enter Tryz.func284, Tryz.ntmps284
    go_wp2_with fail
    go_ret
    exact ⟨rfl, rfl⟩

theorem fields_ok (w : World) (b : Nat) :
    Calls Tryz.prog 207 #[.pointer (some ⟨b, 0, none⟩)] w fun e w' => e = .returned (.func (.func 284) #[] #[.pointer (some ⟨w.heap.size, 0, none⟩)]) ∧ w' = w.alloc (.cells #[.pointer (some ⟨b, 0, none⟩)] 360) := by
  go_enter Tryz.func207, Tryz.ntmps207
  go_wp2_with fail
  go_ret
  exact ⟨rfl, rfl⟩
theorem span_ok (w : World) (d : Int) (i : Nat) (hi : i < 4) :
    Calls Tryz.prog 209 #[.int .i64 d, .int .i32 (runeF i)] w fun e w' => e = .returned (.tuple #[.int .i64 (loF d i), .int .i64 (hiF d i)]) ∧ w = w' := by
  match i, hi with
  | 0, _ =>
    by_cases h : d = 9
    · subst h
      go_enter Tryz.func209, Tryz.ntmps209
      go_wp2_with fail
      go_ret2
      exact ⟨rfl, rfl⟩
    · have e : (d == 9) = false := by simpa using h
      have hl : hiF d 0 = 7 := by simp [hiF, h]
      have HL := Lib.hid hl
      clear h hl
      go_enter Tryz.func209, Tryz.ntmps209
      go_wp2_with fail
      go_ret2
      exact ⟨by rw [HL.out]; rfl, rfl⟩
  | 1, _ =>
    go_enter Tryz.func209, Tryz.ntmps209
    go_wp2_with fail
    go_ret2
    exact ⟨rfl, rfl⟩
  | 2, _ =>
    by_cases h : d = 1
    · subst h
      go_enter Tryz.func209, Tryz.ntmps209
      go_wp2_with fail
      go_ret2
      exact ⟨rfl, rfl⟩
    · by_cases h2 : d = 14
      · subst h2
        go_enter Tryz.func209, Tryz.ntmps209
        go_wp2_with fail
        go_ret2
        exact ⟨rfl, rfl⟩
      · have e : (d == 1) = false := by simpa using h
        have e2 : (d == 14) = false := by simpa using h2
        have HL := Lib.hid (show hiF d 2 = 3 ∧ loF d 2 = 0 by simp [hiF, loF, h, h2])
        clear h h2
        go_enter Tryz.func209, Tryz.ntmps209
        go_wp2_with fail
        go_ret2
        exact ⟨by rw [HL.out.1, HL.out.2]; rfl, rfl⟩
  | 3, _ =>
    by_cases h : d = 12
    · subst h
      go_enter Tryz.func209, Tryz.ntmps209
      go_wp2_with fail
      go_ret2
      exact ⟨rfl, rfl⟩
    · have e : (d == 12) = false := by simpa using h
      have HL := Lib.hid (show hiF d 3 = 64 by simp [hiF, h])
      clear h
      go_enter Tryz.func209, Tryz.ntmps209
      go_wp2_with fail
      go_ret2
      exact ⟨by rw [HL.out]; rfl, rfl⟩

def abcn : ByteArray := ⟨#[65, 66, 67, 78]⟩
theorem abcn_ascii : ∀ (i : Nat) (h : i < abcn.size), (abcn[i]'h).toNat < 128 := by decide
theorem next_abcn (W : World) (i : Nat) (hi : i < 4) (ty : TypeId) : (Instr.next (.pointer (some ⟨W.heap.size, 0, none⟩)) true ty).run Tryz.prog (W.iter abcn i) = .ok (.tuple #[.bool true, .int .i64 (i : Int), .int .i32 (runeF i)]) (W.iter abcn (i + 1)) := by
  have h : i < abcn.size := hi
  have := run_next_ascii (P := Tryz.prog) W abcn i ty h (abcn_ascii i h)
  rw [this]
  match i, hi with
  | 0, _ => rfl
  | 1, _ => rfl
  | 2, _ => rfl
  | 3, _ => rfl
theorem rune_bd (i : Nat) : 0 ≤ runeF i ∧ runeF i < 128 := by
  unfold runeF
  split <;> omega
theorem fld_cell {w : World} {b : Nat} {o : POp} (hb : w.heap[b]? = some (.cells #[.int .i64 o.d, .int .i64 o.a, .int .i64 o.b, .int .i64 o.c, .int .i64 o.n] 160 (0, 0))) (i : Nat) (hi : i < 4) : w.cell? ⟨b, 1 + i, none⟩ = some (.int .i64 (o.fld i)) := by
  match i, hi with
  | 0, _ => simp [World.cell?, hb, POp.fld]
  | 1, _ => simp [World.cell?, hb, POp.fld]
  | 2, _ => simp [World.cell?, hb, POp.fld]
  | 3, _ => simp [World.cell?, hb, POp.fld]
theorem formed_all {o : POp} (hd : (1 ≤ o.d ∧ o.d ≤ 15)) : formedB o = (List.range 4).all (fun i => hasF o.d i || o.fld i == 0) := by
  unfold formedB
  rw [decide_eq_true hd, Bool.true_and]

/-- An op in its box, the box of the closure over it, the table. -/
def OpIn (W : World) (b B : Nat) (dn : Nat) (A B' C N : Int) : Prop :=
  W.cell? ⟨b, 0, none⟩ = some (.int .i64 (dn : Int)) ∧ W.cell? ⟨B, 0, none⟩ = some (.pointer (some ⟨b, 0, none⟩)) ∧ W.cell? ⟨0, dn * 2 + 1, none⟩ = some (.string ⟨(hasL dn).toArray⟩) ∧ ∀ i, i < 4 → W.cell? ⟨b, 1 + i, none⟩ = some (.int .i64 ((⟨(dn : Int), A, B', C, N⟩ : POp).fld i))
theorem OpIn.alloc {W : World} {b B dn : Nat} {A B' C N : Int} (h : OpIn W b B dn A B' C N) (o : Obj) : OpIn (W.alloc o) b B dn A B' C N := ⟨cell_alloc_any h.1 _, cell_alloc_any h.2.1 _, cell_alloc_any h.2.2.1 _, fun i hi => cell_alloc_any (h.2.2.2 i hi) _⟩
theorem OpIn.iter {W : World} {b B dn : Nat} {A B' C N : Int} (h : OpIn W b B dn A B' C N) (s : ByteArray) (i : Nat) : OpIn (W.iter s i) b B dn A B' C N := h.alloc _
theorem OpIn.start (w : World) (hs : ShTab w) (dn : Nat) (hd : dn < 16) (A B C N : Int) : OpIn ((w.alloc (.cells #[.int .i64 (dn : Int), .int .i64 A, .int .i64 B, .int .i64 C, .int .i64 N] 160)).alloc (.cells #[.pointer (some ⟨w.heap.size, 0, none⟩)] 360)) w.heap.size (w.heap.size + 1) dn A B C N :=
  ⟨by simp, by simp, (hs.below (((Below.refl _ _).alloc (Nat.le_refl _) _).alloc (by simp) _)) dn hd, fun i hi => cell_alloc_any (fld_cell (o := ⟨(dn : Int), A, B, C, N⟩) (heap_alloc_new _ _) i hi) _⟩
theorem all_step {p : Nat → Bool} {i : Nat} : (List.range (i + 1)).all p = ((List.range i).all p && p i) := by rw [List.range_succ, List.all_append]; simp

set_option maxRecDepth 100000 in
set_option maxHeartbeats 1000000 in
theorem formed_in (w : World) (hs : ShTab w) (dn : Nat) (hd1 : 1 ≤ dn) (hd16 : dn < 16) (A B C N : Int) :
    Calls Tryz.prog 143 #[.agg #[.int .i64 (dn : Int), .int .i64 A, .int .i64 B, .int .i64 C, .int .i64 N]] w fun e w' => e = .returned (.bool (formedB ⟨(dn : Int), A, B, C, N⟩)) ∧ Below w.heap.size w w' := by
  have hfa := formed_all (o := ⟨(dn : Int), A, B, C, N⟩) ⟨by show (1 : Int) ≤ dn; omega, by show (dn : Int) ≤ 15; omega⟩
  have hst := OpIn.start w hs dn hd16 A B C N
  have hBl : Below w.heap.size w ((w.alloc (.cells #[.int .i64 (dn : Int), .int .i64 A, .int .i64 B, .int .i64 C, .int .i64 N] 160)).alloc (.cells #[.pointer (some ⟨w.heap.size, 0, none⟩)] 360)) := ((Below.refl _ _).alloc (Nat.le_refl _) _).alloc (by simp) _
  have HH := Lib.hid (And.intro hfa (has_index dn hd16 hd1))
  have hdi : ¬ ((dn : Int) < 1) := by omega
  have hdi2 : ¬ ((15 : Int) < (dn : Int)) := by omega
  clear hfa hs
  go_enter Tryz.func143, Tryz.ntmps143
  go_wp2_with fail
  refine (fields_ok _ w.heap.size).mono ?_
  rintro e w1 ⟨rfl, hw1⟩
  have hsz : (w.alloc (.cells #[.int .i64 (dn : Int), .int .i64 A, .int .i64 B, .int .i64 C, .int .i64 N] 160)).heap.size = w.heap.size + 1 := by simp
  rw [hsz]
  generalize ((w.alloc (.cells #[.int .i64 (dn : Int), .int .i64 A, .int .i64 B, .int .i64 C, .int .i64 N] 160)).alloc (.cells #[.pointer (some ⟨w.heap.size, 0, none⟩)] 360)) = W at hst hBl hw1
  subst hw1
  have HS := Lib.hid (And.intro hst hBl)
  clear hst hBl hsz
  obtain ⟨b, hb⟩ : ∃ b, w.heap.size = b := ⟨_, rfl⟩
  have HB := Lib.hid hb
  have HSZ := Lib.hid (show b ≤ w1.heap.size by have := HS.out.2.size; omega)
  rw [hb] at HS
  go_wp2_with fail
  clear hb
  go_loopw [5] (fun _ wr => ∃ i : Nat, i ≤ 4 ∧ wr = w1.iter ⟨#[65, 66, 67, 78]⟩ i ∧ (List.range i).all (fun j => hasF (dn : Int) j || (⟨(dn : Int), A, B, C, N⟩ : POp).fld j == 0) = true) (fun _ wr => 4 - wr.iterPos w1.heap.size)
  case atStart => exact ⟨0, Nat.zero_le _, rfl, rfl⟩
  case round =>
    obtain ⟨i, hi, rfl, hal⟩ := hrel
    by_cases hlt : i < 4
    · have hnx := next_abcn w1 i hlt
      unfold abcn at hnx
      obtain ⟨c0, cB, cT, cf⟩ := HS.out.1.iter ⟨#[65, 66, 67, 78]⟩ (i + 1)
      have cfi := cf i hlt
      have hrb := rune_bd i
      have hix := HH.out.2 i hlt
      obtain ⟨z, hz⟩ : ∃ z, (⟨(dn : Int), A, B, C, N⟩ : POp).fld i = z := ⟨_, rfl⟩
      rw [hz] at cfi
      obtain ⟨q, hq⟩ : ∃ q, hasF (dn : Int) i = q := ⟨_, rfl⟩
      have HI := Lib.hid (And.intro hal (And.intro hz hq))
      have hcr := Tryz.strings_ContainsRune_ascii' ⟨(hasL dn).toArray⟩ (runeF i) (w1.iter ⟨#[65, 66, 67, 78]⟩ (i + 1)) hrb.1 hrb.2
      rw [hix, hq] at hcr
      have HCR := Lib.hid hcr
      have HFL := Lib.hid (fld_ok (w1.iter ⟨#[65, 66, 67, 78]⟩ (i + 1)) (b + 1) b i hlt cB)
      clear hal hz hq hix cf hcr
      go_wp2_with fail
      refine HCR.out.mono ?_
      rintro e w2 ⟨rfl, rfl⟩
      cases q with
      | true =>
        have HQ := Lib.hid HI.out.2.2
        go_wp2_with fail
        go_roundw
        case rel => exact ⟨i + 1, by omega, rfl, by rw [all_step, HI.out.1, HQ.out]; rfl⟩
        case measure => simp; omega
      | false =>
        have HQ := Lib.hid HI.out.2.2
        go_wp2_with fail
        refine HFL.out.mono ?_
        rintro e w3 ⟨rfl, rfl⟩
        by_cases hz0 : z = 0
        · have HZ := Lib.hid (HI.out.2.1.trans hz0)
          subst hz0
          go_wp2_with fail
          go_roundw
          case rel => exact ⟨i + 1, by omega, rfl, by rw [all_step, HI.out.1, HQ.out, HZ.out]; rfl⟩
          case measure => simp; omega
        · have hzn : (z != 0) = true := by simpa using hz0
          have HZ := Lib.hid (And.intro hz0 HI.out.2.1)
          clear hz0
          go_wp2_with fail
          go_ret
          refine ⟨?_, ?_⟩
          · rw [HH.out.1]
            have : (List.range 4).all (fun j => hasF (dn : Int) j || (⟨(dn : Int), A, B, C, N⟩ : POp).fld j == 0) = false := by
              rw [Bool.eq_false_iff]
              intro hh
              rw [List.all_eq_true] at hh
              have h1 := hh i (List.mem_range.2 hlt)
              rw [HQ.out, HZ.out.2] at h1
              simp at h1
              exact HZ.out.1 h1
            rw [this]
            rfl
          · rw [HB.out]
            exact HS.out.2.alloc HSZ.out _
    · obtain rfl : i = 4 := by omega
      have HA := Lib.hid hal
      clear hal
      have hnx : ∀ ty, (Instr.next (.pointer (some ⟨w1.heap.size, 0, none⟩)) true ty).run Tryz.prog (w1.iter ⟨#[65, 66, 67, 78]⟩ 4) = .ok (.tuple #[.bool false]) (w1.iter ⟨#[65, 66, 67, 78]⟩ 4) := fun ty => run_next_end w1 ⟨#[65, 66, 67, 78]⟩ 4 ty (by decide)
      go_wp2_with fail
      go_ret
      refine ⟨by rw [HH.out.1, HA.out]; rfl, ?_⟩
      rw [HB.out]
      exact HS.out.2.alloc HSZ.out _

theorem formed_ok (w : World) (hs : ShTab w) (o : POp) : Calls Tryz.prog 143 #[o.val] w fun e w' => e = .returned (.bool (formedB o)) ∧ Below w.heap.size w w' := by
  obtain ⟨D, A, B, C, N⟩ := o
  unfold POp.val
  by_cases hd : 1 ≤ D ∧ D ≤ 15
  · obtain ⟨dn, rfl⟩ : ∃ dn : Nat, D = (dn : Int) := ⟨D.toNat, by omega⟩
    exact formed_in w hs dn (by omega) (by omega) A B C N
  · have HF := Lib.hid (show formedB ⟨D, A, B, C, N⟩ = false by unfold formedB; rw [decide_eq_false hd]; rfl)
    by_cases h1 : D < 1
    · clear hd hs
      go_enter Tryz.func143, Tryz.ntmps143
      go_wp2_with fail
      go_ret
      exact ⟨by rw [HF.out]; rfl, (Below.refl _ _).alloc (Nat.le_refl _) _⟩
    · have h2 : 15 < D := by omega
      clear hd hs
      go_enter Tryz.func143, Tryz.ntmps143
      go_wp2_with fail
      go_ret
      exact ⟨by rw [HF.out]; rfl, (Below.refl _ _).alloc (Nat.le_refl _) _⟩

/-- Is a field within its bounds? -/
def inR (o : POp) (i : Nat) : Bool := decide (loF o.d i ≤ o.fld i) && decide (o.fld i ≤ hiF o.d i)
/-- The places of an op's fields. -/
def idxL (d : Nat) : List Nat := (List.range 4).filter (hasF (d : Int))
theorem has_bytes : ∀ d, d < 16 → 1 ≤ d → hasL d = (idxL d).map (fun i => (runeF i).toNat.toUInt8) := by decide
theorem idx_lt {d i j : Nat} (h : (idxL d)[j]? = some i) : i < 4 := by
  have := List.mem_of_getElem? h
  unfold idxL at this
  exact List.mem_range.1 (List.mem_filter.1 this).1
theorem ranged_all (o : POp) {dn : Nat} (hd : o.d = (dn : Int)) : rangedB o = (idxL dn).all (inR o) := by
  unfold rangedB idxL
  rw [List.all_filter]
  congr 1
  funext i
  rw [hd]
  unfold inR
  rw [hd]
theorem next_has (W : World) (s : ByteArray) (dn j i : Nat) (hs : s.data.toList = (idxL dn).map (fun i => (runeF i).toNat.toUInt8)) (hi : (idxL dn)[j]? = some i) (ty : TypeId) :
    (Instr.next (.pointer (some ⟨W.heap.size, 0, none⟩)) true ty).run Tryz.prog (W.iter s j) = .ok (.tuple #[.bool true, .int .i64 (j : Int), .int .i32 (runeF i)]) (W.iter s (j + 1)) := by
  have hj : s.data.toList[j]? = some (runeF i).toNat.toUInt8 := by rw [hs]; simp [hi]
  have hjl : j < s.size := by
    have := (List.getElem?_eq_some_iff.1 hj).1
    simpa using this
  have hv : (s[j]'hjl) = (runeF i).toNat.toUInt8 := by
    have h2 := (List.getElem?_eq_some_iff.1 hj).2
    rw [← h2]
    rfl
  have hrb := rune_bd i
  have hn : (s[j]'hjl).toNat = (runeF i).toNat := by rw [hv]; simp; omega
  have := run_next_ascii (P := Tryz.prog) W s j ty hjl (by rw [hn]; omega)
  rw [this, hn]
  have e : (((runeF i).toNat : Nat) : Int) = runeF i := by omega
  rw [e]

set_option maxRecDepth 100000 in
set_option maxHeartbeats 1000000 in
theorem ranged_in (w : World) (hs : ShTab w) (dn : Nat) (hd1 : 1 ≤ dn) (hd16 : dn < 16) (A B C N : Int) :
    Calls Tryz.prog 144 #[.agg #[.int .i64 (dn : Int), .int .i64 A, .int .i64 B, .int .i64 C, .int .i64 N]] w fun e w' => e = .returned (.bool (rangedB ⟨(dn : Int), A, B, C, N⟩)) ∧ Below w.heap.size w w' := by
  have hfa := ranged_all ⟨(dn : Int), A, B, C, N⟩ (dn := dn) rfl
  have hst := OpIn.start w hs dn hd16 A B C N
  have hBl : Below w.heap.size w ((w.alloc (.cells #[.int .i64 (dn : Int), .int .i64 A, .int .i64 B, .int .i64 C, .int .i64 N] 160)).alloc (.cells #[.pointer (some ⟨w.heap.size, 0, none⟩)] 360)) := ((Below.refl _ _).alloc (Nat.le_refl _) _).alloc (by simp) _
  have hhb : (⟨(hasL dn).toArray⟩ : ByteArray).data.toList = (idxL dn).map (fun i => (runeF i).toNat.toUInt8) := by rw [← has_bytes dn hd16 hd1]
  have HH := Lib.hid (And.intro hfa hhb)
  have hdi : (0 : Int) ≤ (dn : Int) := by omega
  have hdi2 : (dn : Int) < 16 := by omega
  clear hfa hs hhb
  go_enter Tryz.func144, Tryz.ntmps144
  go_wp2_with fail
  refine (fields_ok _ w.heap.size).mono ?_
  rintro e w1 ⟨rfl, hw1⟩
  have hsz : (w.alloc (.cells #[.int .i64 (dn : Int), .int .i64 A, .int .i64 B, .int .i64 C, .int .i64 N] 160)).heap.size = w.heap.size + 1 := by simp
  rw [hsz]
  generalize ((w.alloc (.cells #[.int .i64 (dn : Int), .int .i64 A, .int .i64 B, .int .i64 C, .int .i64 N] 160)).alloc (.cells #[.pointer (some ⟨w.heap.size, 0, none⟩)] 360)) = W at hst hBl hw1
  subst hw1
  have HS := Lib.hid (And.intro hst hBl)
  obtain ⟨c0, cB, cT, _⟩ := hst
  clear hBl hsz
  obtain ⟨b, hb⟩ : ∃ b, w.heap.size = b := ⟨_, rfl⟩
  have HB := Lib.hid hb
  have HSZ := Lib.hid (show b ≤ w1.heap.size by have := HS.out.2.size; omega)
  rw [hb] at HS c0 cB
  rw [hb]
  clear hb
  go_wp2_with fail
  clear c0 cB cT
  obtain ⟨s, hse⟩ : ∃ s : ByteArray, (⟨(hasL dn).toArray⟩ : ByteArray) = s := ⟨_, rfl⟩
  have HHS := Lib.hid (show s.data.toList = (idxL dn).map (fun i => (runeF i).toNat.toUInt8) by rw [← hse, ← has_bytes dn hd16 hd1])
  rw [hse]
  clear hse
  go_loopw [5] (fun _ wr => ∃ j : Nat, j ≤ (idxL dn).length ∧ wr = w1.iter s j ∧ ((idxL dn).take j).all (inR ⟨(dn : Int), A, B, C, N⟩) = true) (fun _ wr => (idxL dn).length - wr.iterPos w1.heap.size)
  case atStart => exact ⟨0, Nat.zero_le _, rfl, rfl⟩
  case round =>
    obtain ⟨j, hj, rfl, hal⟩ := hrel
    by_cases hlt : j < (idxL dn).length
    · obtain ⟨i, hi⟩ : ∃ i, (idxL dn)[j]? = some i := ⟨_, List.getElem?_eq_getElem hlt⟩
      have hi4 := idx_lt hi
      have hnx := next_has w1 s dn j i HHS.out hi
      obtain ⟨c0, cB, cT, cf⟩ := HS.out.1.iter s (j + 1)
      have cfi := cf i hi4
      have hin : inR ⟨(dn : Int), A, B, C, N⟩ i = (decide (loF (dn : Int) i ≤ (⟨(dn : Int), A, B, C, N⟩ : POp).fld i) && decide ((⟨(dn : Int), A, B, C, N⟩ : POp).fld i ≤ hiF (dn : Int) i)) := rfl
      have hsp := span_ok (w1.iter s (j + 1)) (dn : Int) i hi4
      obtain ⟨z, hz⟩ : ∃ z, (⟨(dn : Int), A, B, C, N⟩ : POp).fld i = z := ⟨_, rfl⟩
      obtain ⟨lo, hlo⟩ : ∃ z, loF (dn : Int) i = z := ⟨_, rfl⟩
      obtain ⟨hi', hhi⟩ : ∃ z, hiF (dn : Int) i = z := ⟨_, rfl⟩
      rw [hz, hlo, hhi] at hin
      rw [hz] at cfi
      rw [hlo, hhi] at hsp
      have HSP := Lib.hid hsp
      have HFL := Lib.hid (fld_ok (w1.iter s (j + 1)) (b + 1) b i hi4 cB)
      have HI := Lib.hid (And.intro hal (And.intro hin hi))
      clear hal hin hi hsp hz hlo hhi cf hj
      go_wp2_with fail
      refine HSP.out.mono ?_
      rintro e w2 ⟨rfl, rfl⟩
      go_wp2_with fail
      refine HFL.out.mono ?_
      rintro e w3 ⟨rfl, rfl⟩
      by_cases hlo : z < lo
      · have HL := Lib.hid hlo
        go_wp2_with fail
        go_ret
        refine ⟨?_, ?_⟩
        · rw [HH.out.1]
          have : (idxL dn).all (inR ⟨(dn : Int), A, B, C, N⟩) = false := by
            rw [Bool.eq_false_iff]
            intro hh
            rw [List.all_eq_true] at hh
            have h1 := hh i (List.mem_of_getElem? HI.out.2.2)
            rw [HI.out.2.1, Bool.and_eq_true, decide_eq_true_iff, decide_eq_true_iff] at h1
            have := HL.out
            omega
          rw [this]
          rfl
        · rw [HB.out]
          exact HS.out.2.alloc HSZ.out _
      · go_wp2_with fail
        refine HFL.out.mono ?_
        rintro e w4 ⟨rfl, rfl⟩
        by_cases hh2 : hi' < z
        · have HL := Lib.hid hh2
          go_wp2_with fail
          go_ret
          refine ⟨?_, ?_⟩
          · rw [HH.out.1]
            have : (idxL dn).all (inR ⟨(dn : Int), A, B, C, N⟩) = false := by
              rw [Bool.eq_false_iff]
              intro hh
              rw [List.all_eq_true] at hh
              have h1 := hh i (List.mem_of_getElem? HI.out.2.2)
              rw [HI.out.2.1, Bool.and_eq_true, decide_eq_true_iff, decide_eq_true_iff] at h1
              have := HL.out
              omega
            rw [this]
            rfl
          · rw [HB.out]
            exact HS.out.2.alloc HSZ.out _
        · have HL := Lib.hid (And.intro hlo hh2)
          go_wp2_with fail
          go_roundw
          case rel =>
            refine ⟨j + 1, by omega, rfl, ?_⟩
            rw [List.take_add_one, HI.out.2.2, List.all_append, HI.out.1]
            have h3 := HL.out
            simp [HI.out.2.1]
            omega
          case measure => simp; omega
    · obtain rfl : j = (idxL dn).length := by omega
      have HA := Lib.hid hal
      have hnl : ¬ (idxL dn).length < s.size := by
        have := congrArg List.length HHS.out
        simp at this
        have h2 : s.data.size = s.size := rfl
        omega
      clear hal hlt hj
      have hnx : ∀ ty, (Instr.next (.pointer (some ⟨w1.heap.size, 0, none⟩)) true ty).run Tryz.prog (w1.iter s (idxL dn).length) = .ok (.tuple #[.bool false]) (w1.iter s (idxL dn).length) := fun ty => run_next_end w1 s (idxL dn).length ty hnl
      clear hnl
      go_wp2_with fail
      go_ret
      refine ⟨?_, ?_⟩
      · have := HA.out
        rw [List.take_length] at this
        rw [HH.out.1, this]
        rfl
      · rw [HB.out]
        exact HS.out.2.alloc HSZ.out _
theorem ranged_ok (w : World) (hs : ShTab w) (o : POp) (ho : 1 ≤ o.d ∧ o.d ≤ 15) : Calls Tryz.prog 144 #[o.val] w fun e w' => e = .returned (.bool (rangedB o)) ∧ Below w.heap.size w w' := by
  obtain ⟨D, A, B, C, N⟩ := o
  unfold POp.val
  simp only at ho
  obtain ⟨dn, rfl⟩ : ∃ dn : Nat, D = (dn : Int) := ⟨D.toNat, by omega⟩
  exact ranged_in w hs dn (by omega) (by omega) A B C N
theorem holds_ok (w : World) (o : POp) : Calls Tryz.prog 210 #[o.val] w fun e w' => e = .returned (.bool o.holds) ∧ Below w.heap.size w w' := by
  obtain ⟨D, A, B, C, N⟩ := o
  unfold POp.val POp.holds
  by_cases h : D = 13
  · subst h
    go_enter Tryz.func210, Tryz.ntmps210
    go_wp2_with fail
    go_ret
    exact ⟨rfl, (Below.refl _ _).alloc (Nat.le_refl _) _⟩
  · have e : (D == 13) = false := by simpa using h
    clear h
    go_enter Tryz.func210, Tryz.ntmps210
    go_wp2_with fail
    go_ret
    refine ⟨?_, (Below.refl _ _).alloc (Nat.le_refl _) _⟩
    rw [e]
    rfl
end Go.Proofs.YtfaaigfgfljdkaaGreatDoor
