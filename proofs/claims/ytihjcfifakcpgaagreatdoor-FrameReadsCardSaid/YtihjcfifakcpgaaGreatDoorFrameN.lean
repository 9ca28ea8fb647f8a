/- The three lists that are read (frame.list). -/
import Derived.Test.YtihjcfifakcpgaaGreatDoorFrameM
namespace Go.Proofs.YtihjcfifakcpgaaGreatDoor
set_option maxRecDepth 100000
open Go.RowKit

/-- So many things are read. -/
def rdMany {α : Type} (rd : List UInt8 → Option (α × List UInt8)) : Nat → List UInt8 → Option (List α × List UInt8)
  | 0, bs => some ([], bs)
  | k + 1, bs => match rdMany rd k bs with
    | some (xs, r) => match rd r with
      | some (x, r') => some (xs ++ [x], r')
      | none => none
    | none => none
theorem rdMany_none {α : Type} {rd : List UInt8 → Option (α × List UInt8)} {k : Nat} {bs : List UInt8} (h : rdMany rd k bs = none) : ∀ m, rdMany rd (k + m) bs = none
  | 0 => h
  | m + 1 => by rw [← Nat.add_assoc, rdMany, rdMany_none h m]
/-- A number of things, then the things. -/
def rdL {α : Type} (rd : List UInt8 → Option (α × List UInt8)) (M : Int) (bs : List UInt8) : Option (List α × List UInt8) :=
  match rdNs rdUI 1 bs with
  | some ([mk], r) => if mk ≤ M then rdMany rd mk.toNat r else none
  | _ => none
def numC (n : Int) : List Value := [.int .i64 n]
def PutOk {α : Type} (s : Nat) (cel : α → List Value) (put : Nat → α → Array Value → Array Value) : Prop :=
  (∀ x, (cel x).length = s) ∧ ∀ m x (cs : Array Value), m + s ≤ cs.size → (put m x cs).size = cs.size ∧ (∀ j u, (cel x)[j]? = some u → (put m x cs)[m + j]? = some u) ∧ ∀ i, i < m → (put m x cs)[i]? = cs[i]?
theorem putN_ok : PutOk 1 numC putN := by
  refine ⟨fun _ => rfl, fun m x cs hm => ⟨setMany_size _ _ _, fun j u hj => ?_, fun i hi => ?_⟩⟩
  · match j, hj with
    | 0, hj =>
      simp [numC] at hj
      subst hj
      simp [putN, setMany, Array.getElem?_setIfInBounds]
      omega
  · simp [putN, setMany, Array.getElem?_setIfInBounds]
    omega
theorem putOp_ok : PutOk 5 POp.cells putOp := by
  refine ⟨fun _ => rfl, fun m x cs hm => ⟨setMany_size _ _ _, fun j u hj => ?_, fun i hi => ?_⟩⟩
  · have h5 : j < 5 := (List.getElem?_eq_some_iff.1 hj).1
    rcases (by omega : j = 0 ∨ j = 1 ∨ j = 2 ∨ j = 3 ∨ j = 4) with rfl | rfl | rfl | rfl | rfl <;> (simp [POp.cells] at hj; subst hj; simp [putOp, setMany, Array.getElem?_setIfInBounds]; omega)
  · simp [putOp, setMany, Array.getElem?_setIfInBounds]
    repeat rw [if_neg (by omega)]
theorem putCl_ok : PutOk 5 Cl.cells putCl := by
  refine ⟨fun _ => rfl, fun m x cs hm => ⟨by simp [putCl, setMany], fun j u hj => ?_, fun i hi => ?_⟩⟩
  · have h5 : j < 5 := (List.getElem?_eq_some_iff.1 hj).1
    rcases (by omega : j = 0 ∨ j = 1 ∨ j = 2 ∨ j = 3 ∨ j = 4) with rfl | rfl | rfl | rfl | rfl <;> (simp [Cl.cells] at hj; subst hj; simp [putCl, setMany, Array.getElem?_setIfInBounds]; omega)
  · simp [putCl, setMany, Array.getElem?_setIfInBounds]
    repeat rw [if_neg (by omega)]
/-- A reader and its closures. -/
def RdB (F : Nat → Prop) (b : Nat) (all : List UInt8) (B5 B6 X1 X2 : Nat) (p : Nat) (w : World) : Prop :=
  RdrAt w F b all p ∧ RdC b B5 B6 X1 X2 w ∧ AptC b B5 B6 X1 X2 ∧ ∀ k, F k → k < w.heap.size
section
variable {F : Nat → Prop} {b : Nat} {all : List UInt8} {B5 B6 X1 X2 T : Nat} {t : TypeId} {p : Nat} {cs : Array Value} {w w' : World}
theorem RdB.below (h : RdB F b all B5 B6 X1 X2 p w) (hb : Below w.heap.size w w') : RdB F b all B5 B6 X1 X2 p w' :=
  ⟨h.1.below hb, h.2.1.only (Only.of_below hb (fun _ => False)) id id id id, h.2.2.1, fun k hk => Nat.lt_of_lt_of_le (h.2.2.2 k hk) hb.size⟩
theorem RdQ.rdb (h : RdQ F b all B5 B6 X1 X2 T t p cs w) : RdB F b all B5 B6 X1 X2 p w := ⟨h.1, h.2.1, h.2.2.2.2.1, h.2.2.2.2.2.2⟩
theorem RdB.blt (h : RdB F b all B5 B6 X1 X2 p w) : b < w.heap.size := by obtain ⟨⟨v, k1, _⟩, _⟩ := h; exact (Array.getElem?_eq_some_iff.1 k1).1
theorem RdB.box (h : RdB F b all B5 B6 X1 X2 p w) (cs7 : Array Value) (t7 : TypeId) : RdQ F b all B5 B6 X1 X2 w.heap.size t7 p cs7 (w.alloc (.cells cs7 t7)) := by
  have hb := one_box w (.cells cs7 t7)
  obtain ⟨h1, h2, h5, h7⟩ := h.below hb
  obtain ⟨_, k2, _, k7⟩ := h
  have q1 : B5 < w.heap.size := World.block_lt_of_cell? _ _ k2.1
  have q2 : B6 < w.heap.size := World.block_lt_of_cell? _ _ k2.2.1
  have q3 : X1 < w.heap.size := World.block_lt_of_cell? _ _ k2.2.2.1
  have q4 : X2 < w.heap.size := World.block_lt_of_cell? _ _ k2.2.2.2
  exact ⟨h1, h2, heap_alloc_new _ _, fun hF => by have := k7 _ hF; omega, h5, ⟨by omega, by omega, by omega, by omega⟩, h7⟩
/-- What reading a list comes to. -/
def ListQ {α : Type} (rd : List UInt8 → Option (α × List UInt8)) (s : Nat) (cel : α → List Value) (M : Int) (F : Nat → Prop) (b : Nat) (all : List UInt8) (B5 B6 X1 X2 : Nat) (p : Nat) (w : World) (e : Ending) (w' : World) : Prop :=
  Only (fun k => k = b) w w' ∧ match rdL rd M (all.drop p) with
    | some (xs, rest) => ∃ g p', e = .returned (.tuple #[.slice (some ⟨g, 0, none⟩) xs.length xs.length, .bool true]) ∧ w.heap.size ≤ g ∧ RdK s w' (fun k => k = g) (.slice (some ⟨g, 0, none⟩) xs.length xs.length) (xs.map cel) ∧ rest = all.drop p' ∧ RdB F b all B5 B6 X1 X2 p' w'
    | none => e = .returned (.tuple #[.slice none 0 0, .bool false])
def ListR {α : Type} (rd : List UInt8 → Option (α × List UInt8)) (s : Nat) (cel : α → List Value) (F : Nat → Prop) (b : Nat) (all : List UInt8) (B5 B6 X1 X2 g : Nat) (t : TypeId) (p n : Nat) (w : World) (k : Nat) (wr : World) : Prop :=
  Only (fun i => i = b ∨ i = g) w wr ∧ ∃ xs p' cs, rdMany rd k (all.drop p) = some (xs, all.drop p') ∧ xs.length = k ∧ cs.size = n * s ∧ RdQ F b all B5 B6 X1 X2 g t p' cs wr ∧ ∀ i x, xs[i]? = some x → ∀ j u, (cel x)[j]? = some u → cs[i * s + j]? = some u
theorem list_next {α : Type} {rd : List UInt8 → Option (α × List UInt8)} {s : Nat} {cel : α → List Value} {put : Nat → α → Array Value → Array Value} {g n k p1 p' : Nat} {wr w2 : World} {xs : List α} {x : α} (hp : PutOk s cel put)
    (h1 : Only (fun i => i = b ∨ i = g) w wr) (h2 : rdMany rd k (all.drop p) = some (xs, all.drop p1)) (h3 : xs.length = k) (h4 : cs.size = n * s) (h6 : ∀ i x, xs[i]? = some x → ∀ j u, (cel x)[j]? = some u → cs[i * s + j]? = some u) (hk : k < n)
    (h7 : Only (fun i => i = b ∨ i = g) wr w2) (h8 : rd (all.drop p1) = some (x, all.drop p')) (h9 : RdQ F b all B5 B6 X1 X2 g t p' (put (k * s) x cs) w2) : ListR rd s cel F b all B5 B6 X1 X2 g t p n w (k + 1) w2 := by
  have hks : k * s + s ≤ cs.size := by
    rw [h4]
    have := Nat.mul_le_mul_right s (show k + 1 ≤ n from hk)
    rwa [Nat.add_mul, Nat.one_mul] at this
  obtain ⟨hc, hpp⟩ := hp
  obtain ⟨q1, q2, q3⟩ := hpp (k * s) x cs hks
  refine ⟨h1.trans h7 (fun _ _ h => h), xs ++ [x], p', put (k * s) x cs, ?_, by simp [h3], q1.trans h4, h9, fun i y hi j u hj => ?_⟩
  · rw [rdMany, h2]
    simp only
    rw [h8]
  · by_cases hik : i < k
    · rw [List.getElem?_append_left (by omega)] at hi
      have hjs : j < s := by rw [← hc y]; exact (List.getElem?_eq_some_iff.1 hj).1
      have := Nat.mul_le_mul_right s (show i + 1 ≤ k from hik)
      rw [Nat.add_mul, Nat.one_mul] at this
      rw [q3 _ (by omega)]
      exact h6 i y hi j u hj
    · have : i = k := by
        have := (List.getElem?_eq_some_iff.1 hi).1
        simp at this
        omega
      subst this
      rw [List.getElem?_append_right (by omega), h3] at hi
      simp at hi
      subst hi
      exact q2 j u hj
theorem list_end {α : Type} {rd : List UInt8 → Option (α × List UInt8)} {s : Nat} {cel : α → List Value} {M : Int} {g n p0 : Nat} {w0 wr : World} (hn : n ≤ 1000) (hL : ListR rd s cel F b all B5 B6 X1 X2 g t p n w n wr) (hy : rdL rd M (all.drop p0) = rdMany rd n (all.drop p)) (hO : Only (fun k => k = b) w0 w) (hg : w0.heap.size ≤ g) :
    ListQ rd s cel M F b all B5 B6 X1 X2 p0 w0 (.returned (.tuple #[.slice (some ⟨g, 0, none⟩) n n, .bool true])) wr := by
  obtain ⟨h1, xs, p', cs, h2, h3, h4, h5, h6⟩ := hL
  refine ⟨hO.trans h1 (fun k hk h => h.elim id (fun e => by omega)), ?_⟩
  rw [hy, h2]
  subst h3
  refine ⟨g, p', rfl, hg, ⟨_, _, _, rfl, by simp, Nat.le_refl _, by simp [maxLen]; omega, fun _ => ⟨g, 0, rfl, rfl, fun i x hi j u hj => ?_⟩⟩, rfl, h5.rdb⟩
  rw [List.getElem?_map] at hi
  cases hx : xs[i]? with
  | none => rw [hx] at hi; simp at hi
  | some y =>
    rw [hx] at hi
    simp at hi
    subst hi
    have h7 := h5.2.2.1
    simp only [World.cell?, h7, Nat.zero_add]
    exact h6 i y hx j u hj
theorem list_bad {α : Type} {rd : List UInt8 → Option (α × List UInt8)} {s : Nat} {cel : α → List Value} {M : Int} {g n k p0 p1 : Nat} {w0 wr w2 : World} {xs : List α} (h1 : Only (fun i => i = b ∨ i = g) w wr) (h2 : rdMany rd k (all.drop p) = some (xs, all.drop p1)) (hk : k < n) (h7 : Only (fun i => i = b ∨ i = g) wr w2) (h8 : rd (all.drop p1) = none)
    (hy : rdL rd M (all.drop p0) = rdMany rd n (all.drop p)) (hO : Only (fun k => k = b) w0 w) (hg : w0.heap.size ≤ g) :
    ListQ rd s cel M F b all B5 B6 X1 X2 p0 w0 (.returned (.tuple #[.slice none 0 0, .bool false])) w2 := by
  refine ⟨(hO.trans h1 (fun k hk h => h.elim id (fun e => by omega))).trans h7 (fun k hk h => h.elim id (fun e => by omega)), ?_⟩
  have h9 : rdMany rd (k + 1) (all.drop p) = none := by rw [rdMany, h2]; simp only; rw [h8]
  have h10 := rdMany_none h9 (n - (k + 1))
  rw [show k + 1 + (n - (k + 1)) = n by omega] at h10
  rw [hy, h10]
end

set_option maxRecDepth 100000 in
set_option maxHeartbeats 8000000 in
theorem list_op (F : Nat → Prop) (b : Nat) (all : List UInt8) (B5 B6 X1 X2 : Nat) (p : Nat) (M : Int) (w : World) (h : RdB F b all B5 B6 X1 X2 p w) (hmost : M ≤ 1000) :
    Calls Tryz.prog 84 #[.func (.func 108) #[] #[.pointer (some ⟨X1, 0, none⟩)], .int .i64 M, .func (.func 85) #[] #[.pointer (some ⟨B5, 0, none⟩), .pointer (some ⟨B6, 0, none⟩)]] w (ListQ rdOp 5 POp.cells M F b all B5 B6 X1 X2 p w) := by
  have hin : (Tryz.prog.info? 51).map (fun i => (i.zero, i.size, i.bytes)) = some (some (.agg #[.int .i64 0, .int .i64 0, .int .i64 0, .int .i64 0, .int .i64 0]), 5, 40) := by kernel_rfl
  obtain ⟨i0, hi, hz0, hz1, hz2⟩ := info_parts hin
  clear hin
  have hbx := one_box w (.cells #[.int .i64 0] 3)
  have hq7 := h.box #[.int .i64 0] 3
  have hbl := h.blt
  go_enter Tryz.func84, Tryz.ntmps84
  go_wp2_with fail
  go_step3
  go_upto_region 2 with fail
  generalize w.alloc (.cells #[.int .i64 0] 3) = w1 at hbx hq7 ⊢
  obtain ⟨T7, hT7⟩ : ∃ x, w.heap.size = x := ⟨_, rfl⟩
  rw [hT7] at hq7 hbl ⊢
  have HT7 := Lib.hid hT7
  have HBX := Lib.hid hbx
  have HM := Lib.hid hq7
  clear hbx hq7 h hT7
  go_wp2_with fail
  refine (call_u HM.out [0] _ rfl 1 rfl (by simp) (by intro o ho; simp at ho; subst ho; decide)).mono ?_
  rintro e wn hq
  have hO1 := (Only.of_below HBX.out (fun k => k = b)).trans hq.1 (fun k hk hh => hh.elim id (fun e => absurd e (by have := HT7.out; omega)))
  have HO1 := Lib.hid hO1
  have hsb := step_box hq
  clear hq
  rcases hsb with ⟨rfl, hg0, pE, csX, hqm⟩ | ⟨mk, p1, rfl, hmk, hg0, hqm⟩
  · have HNO := Lib.hid (show rdL rdOp M (all.drop p) = none by simp only [rdL, hg0])
    clear hqm hg0 hO1
    go_wp2_with fail
    rw [Exit.noGoto_ret]
    go_ret2
    refine ⟨HO1.out, ?_⟩
    rw [HNO.out]
    exact rfl
  · have cm : wn.cell? ⟨T7, 0, none⟩ = some (.int .i64 (mk : Int)) := by have := hqm.2.2.1; simp [World.cell?, this]
    by_cases hmki : M < (mk : Int)
    · have HNO := Lib.hid (show rdL rdOp M (all.drop p) = none by simp only [rdL, hg0]; rw [if_neg (by omega)])
      clear hqm hg0 hO1
      go_wp2_with fail
      rw [Exit.noGoto_ret]
      go_ret2
      refine ⟨HO1.out, ?_⟩
      rw [HNO.out]
      exact rfl
    · have HMK := Lib.hid (show (mk : Int) ≤ M by omega)
      have HB := Lib.hid hqm.rdb
      have HYS := Lib.hid (show rdL rdOp M (all.drop p) = rdMany rdOp mk (all.drop p1) by simp only [rdL, hg0]; rw [if_pos (by omega)]; simp)
      clear hqm hg0
      have hms : ∀ wx : World, (Instr.makeSlice 22 (.int .i64 (mk : Int)) (.int .i64 (mk : Int))).run Tryz.prog wx = .ok (.slice (some ⟨wx.heap.size, 0, none⟩) mk mk) (wx.alloc (.cells (madeCells #[.int .i64 0, .int .i64 0, .int .i64 0, .int .i64 0, .int .i64 0] (mk * 5)) 51)) := fun wx => by
        have := run_make (P := Tryz.prog) wx 22 51 i0 _ (by kernel_rfl) hi hz0 .i64 .i64 (mk : Int) (mk : Int) (by omega) (by omega) (by rw [hz2]; have := HMK.out; have := hmost; omega) (by have := HMK.out; have := hmost; omega)
        rw [hz1] at this
        simp only [Int.toNat_natCast] at this
        exact this
      have hmk3 : mk ≤ 1000 := by have := HMK.out; omega
      have hq8 := HB.out.box (madeCells #[.int .i64 0, .int .i64 0, .int .i64 0, .int .i64 0, .int .i64 0] (mk * 5)) 51
      have hO2 := hO1.alloc (.cells (madeCells #[.int .i64 0, .int .i64 0, .int .i64 0, .int .i64 0, .int .i64 0] (mk * 5)) 51)
      have hgl : w.heap.size ≤ wn.heap.size := hO1.size
      skip
      clear hO1
      go_wp2_with fail
      clear hms cm hmk
      generalize wn.alloc (.cells (madeCells #[.int .i64 0, .int .i64 0, .int .i64 0, .int .i64 0, .int .i64 0] (mk * 5)) 51) = w2 at hq8 hO2 ⊢
      obtain ⟨g, hg⟩ : ∃ x, wn.heap.size = x := ⟨_, rfl⟩
      rw [hg] at hq8 hgl ⊢
      have HS := Lib.hid (show ListR rdOp 5 POp.cells F b all B5 B6 X1 X2 g 51 p1 mk w2 0 w2 from ⟨Only.refl _ _, [], p1, _, rfl, rfl, by simp [madeCells], hq8, by simp⟩)
      have HE := Lib.hid (And.intro hO2 hgl)
      clear hq8 hO2 hgl hg hmki
      go_step3
      go_wp2_with fail
      go_loopw [10, 25] (fun e i wr => e = .bool true ∧ ∃ k : Nat, k ≤ mk ∧ i = .int .i64 (k : Int) ∧ ListR rdOp 5 POp.cells F b all B5 B6 X1 X2 g 51 p1 mk w2 k wr) (fun _ i _ => mk - (intOf i).toNat)
      case atStart => exact ⟨rfl, 0, Nat.zero_le _, rfl, HS.out⟩
      case round =>
        obtain ⟨rfl, k, hk, rfl, hL⟩ := hrel
        by_cases hlt : k < mk
        · skip
          obtain ⟨ho, xs, p2, cs, hxs, hxl, hcsz, hq, hcells⟩ := hL
          have hONE := one_op F b all B5 B6 X1 X2 g 51 p2 (k * 5) cs wr hq (by omega)
          have HL := Lib.hid (And.intro ho (And.intro hxs (And.intro hxl (And.intro hcsz hcells))))
          have HONE := Lib.hid hONE
          clear ho hxs hxl hcsz hcells hq hONE
          go_wp2_with fail
          refine HONE.out.mono ?_
          rintro e w3 ⟨ho3, hm3⟩
          cases hg3 : rdOp (all.drop p2) with
          | none =>
            rw [hg3] at hm3
            obtain ⟨rfl, _⟩ := hm3
            have HZ := Lib.hid (And.intro ho3 hg3)
            clear ho3 hg3
            go_wp2_with fail
            rw [Exit.noGoto_ret]
            go_ret2
            exact list_bad HL.out.1 HL.out.2.1 hlt HZ.out.1 HZ.out.2 HYS.out HE.out.1 HE.out.2
          | some y =>
            obtain ⟨x, rest⟩ := y
            rw [hg3] at hm3
            obtain ⟨rfl, p3, rfl, hq3⟩ := hm3
            have HZ := Lib.hid (And.intro ho3 (And.intro hg3 hq3))
            clear ho3 hg3 hq3
            go_wp2_with fail
            go_roundw
            case rel =>
              exact ⟨rfl, k + 1, by omega, by go_num, list_next putOp_ok HL.out.1 HL.out.2.1 HL.out.2.2.1 HL.out.2.2.2.1 HL.out.2.2.2.2 hlt HZ.out.1 HZ.out.2.1 HZ.out.2.2⟩
            case measure => simp [intOf]; omega
        · obtain rfl : k = mk := by omega
          have HL := Lib.hid hL
          clear hL
          go_wp2_with fail
          rw [Exit.noGoto_ret]
          go_ret2
          exact list_end hmk3 HL.out HYS.out HE.out.1 HE.out.2

set_option maxRecDepth 100000 in
set_option maxHeartbeats 8000000 in
theorem list_num (F : Nat → Prop) (b : Nat) (all : List UInt8) (B5 B6 X1 X2 : Nat) (p : Nat) (M : Int) (w : World) (h : RdB F b all B5 B6 X1 X2 p w) (hmost : M ≤ 1000) :
    Calls Tryz.prog 86 #[.func (.func 108) #[] #[.pointer (some ⟨X1, 0, none⟩)], .int .i64 M, .func (.func 87) #[] #[.pointer (some ⟨B6, 0, none⟩)]] w (ListQ rdI 1 numC M F b all B5 B6 X1 X2 p w) := by
  have hin : (Tryz.prog.info? 3).map (fun i => (i.zero, i.size, i.bytes)) = some (some (.int .i64 0), 1, 8) := by kernel_rfl
  obtain ⟨i0, hi, hz0, hz1, hz2⟩ := info_parts hin
  clear hin
  have hbx := one_box w (.cells #[.int .i64 0] 3)
  have hq7 := h.box #[.int .i64 0] 3
  have hbl := h.blt
  go_enter Tryz.func86, Tryz.ntmps86
  go_wp2_with fail
  go_step3
  go_upto_region 2 with fail
  generalize w.alloc (.cells #[.int .i64 0] 3) = w1 at hbx hq7 ⊢
  obtain ⟨T7, hT7⟩ : ∃ x, w.heap.size = x := ⟨_, rfl⟩
  rw [hT7] at hq7 hbl ⊢
  have HT7 := Lib.hid hT7
  have HBX := Lib.hid hbx
  have HM := Lib.hid hq7
  clear hbx hq7 h hT7
  go_wp2_with fail
  refine (call_u HM.out [0] _ rfl 1 rfl (by simp) (by intro o ho; simp at ho; subst ho; decide)).mono ?_
  rintro e wn hq
  have hO1 := (Only.of_below HBX.out (fun k => k = b)).trans hq.1 (fun k hk hh => hh.elim id (fun e => absurd e (by have := HT7.out; omega)))
  have HO1 := Lib.hid hO1
  have hsb := step_box hq
  clear hq
  rcases hsb with ⟨rfl, hg0, pE, csX, hqm⟩ | ⟨mk, p1, rfl, hmk, hg0, hqm⟩
  · have HNO := Lib.hid (show rdL rdI M (all.drop p) = none by simp only [rdL, hg0])
    clear hqm hg0 hO1
    go_wp2_with fail
    rw [Exit.noGoto_ret]
    go_ret2
    refine ⟨HO1.out, ?_⟩
    rw [HNO.out]
    exact rfl
  · have cm : wn.cell? ⟨T7, 0, none⟩ = some (.int .i64 (mk : Int)) := by have := hqm.2.2.1; simp [World.cell?, this]
    by_cases hmki : M < (mk : Int)
    · have HNO := Lib.hid (show rdL rdI M (all.drop p) = none by simp only [rdL, hg0]; rw [if_neg (by omega)])
      clear hqm hg0 hO1
      go_wp2_with fail
      rw [Exit.noGoto_ret]
      go_ret2
      refine ⟨HO1.out, ?_⟩
      rw [HNO.out]
      exact rfl
    · have HMK := Lib.hid (show (mk : Int) ≤ M by omega)
      have HB := Lib.hid hqm.rdb
      have HYS := Lib.hid (show rdL rdI M (all.drop p) = rdMany rdI mk (all.drop p1) by simp only [rdL, hg0]; rw [if_pos (by omega)]; simp)
      clear hqm hg0
      have hms : ∀ wx : World, (Instr.makeSlice 23 (.int .i64 (mk : Int)) (.int .i64 (mk : Int))).run Tryz.prog wx = .ok (.slice (some ⟨wx.heap.size, 0, none⟩) mk mk) (wx.alloc (.cells (madeCells #[.int .i64 0] mk) 3)) := fun wx => by
        have := run_make (P := Tryz.prog) wx 23 3 i0 _ (by kernel_rfl) hi hz0 .i64 .i64 (mk : Int) (mk : Int) (by omega) (by omega) (by rw [hz2]; have := HMK.out; have := hmost; omega) (by have := HMK.out; have := hmost; omega)
        rw [hz1] at this
        simp only [Int.toNat_natCast, Nat.mul_one] at this
        exact this
      have hmk3 : mk ≤ 1000 := by have := HMK.out; omega
      have hq8 := HB.out.box (madeCells #[.int .i64 0] mk) 3
      have hO2 := hO1.alloc (.cells (madeCells #[.int .i64 0] mk) 3)
      have hgl : w.heap.size ≤ wn.heap.size := hO1.size
      skip
      clear hO1
      go_wp2_with fail
      clear hms cm hmk
      generalize wn.alloc (.cells (madeCells #[.int .i64 0] mk) 3) = w2 at hq8 hO2 ⊢
      obtain ⟨g, hg⟩ : ∃ x, wn.heap.size = x := ⟨_, rfl⟩
      rw [hg] at hq8 hgl ⊢
      have HS := Lib.hid (show ListR rdI 1 numC F b all B5 B6 X1 X2 g 3 p1 mk w2 0 w2 from ⟨Only.refl _ _, [], p1, _, rfl, rfl, by simp [madeCells], hq8, by simp⟩)
      have HE := Lib.hid (And.intro hO2 hgl)
      clear hq8 hO2 hgl hg hmki
      go_step3
      go_wp2_with fail
      go_loopw [10, 25] (fun e i wr => e = .bool true ∧ ∃ k : Nat, k ≤ mk ∧ i = .int .i64 (k : Int) ∧ ListR rdI 1 numC F b all B5 B6 X1 X2 g 3 p1 mk w2 k wr) (fun _ i _ => mk - (intOf i).toNat)
      case atStart => exact ⟨rfl, 0, Nat.zero_le _, rfl, HS.out⟩
      case round =>
        obtain ⟨rfl, k, hk, rfl, hL⟩ := hrel
        by_cases hlt : k < mk
        · skip
          obtain ⟨ho, xs, p2, cs, hxs, hxl, hcsz, hq, hcells⟩ := hL
          have hONE := one_num F b all B5 B6 X1 X2 g 3 p2 k cs wr hq (by omega)
          have HL := Lib.hid (And.intro ho (And.intro hxs (And.intro hxl (And.intro hcsz hcells))))
          have HONE := Lib.hid hONE
          clear ho hxs hxl hcsz hcells hq hONE
          go_wp2_with fail
          refine HONE.out.mono ?_
          rintro e w3 ⟨ho3, hm3⟩
          cases hg3 : rdI (all.drop p2) with
          | none =>
            rw [hg3] at hm3
            obtain ⟨rfl, _⟩ := hm3
            have HZ := Lib.hid (And.intro ho3 hg3)
            clear ho3 hg3
            go_wp2_with fail
            rw [Exit.noGoto_ret]
            go_ret2
            exact list_bad HL.out.1 HL.out.2.1 hlt HZ.out.1 HZ.out.2 HYS.out HE.out.1 HE.out.2
          | some y =>
            obtain ⟨x, rest⟩ := y
            rw [hg3] at hm3
            obtain ⟨rfl, p3, rfl, hq3⟩ := hm3
            have HZ := Lib.hid (And.intro ho3 (And.intro hg3 hq3))
            clear ho3 hg3 hq3
            go_wp2_with fail
            go_roundw
            case rel =>
              exact ⟨rfl, k + 1, by omega, by go_num, list_next putN_ok HL.out.1 HL.out.2.1 HL.out.2.2.1 HL.out.2.2.2.1 HL.out.2.2.2.2 hlt HZ.out.1 HZ.out.2.1 (by rw [Nat.mul_one]; exact HZ.out.2.2)⟩
            case measure => simp [intOf]; omega
        · obtain rfl : k = mk := by omega
          have HL := Lib.hid hL
          clear hL
          go_wp2_with fail
          rw [Exit.noGoto_ret]
          go_ret2
          exact list_end hmk3 HL.out HYS.out HE.out.1 HE.out.2

set_option maxRecDepth 100000 in
set_option maxHeartbeats 8000000 in
theorem list_cl (F : Nat → Prop) (b : Nat) (all : List UInt8) (B5 B6 X1 X2 B3 : Nat) (p : Nat) (M : Int) (w : World) (h : RdB F b all B5 B6 X1 X2 p w) (hmost : M ≤ 1000)
    (h3 : w.cell? ⟨B3, 0, none⟩ = some (.pointer (some ⟨b, 0, none⟩))) (hB3 : B3 ≠ b) :
    Calls Tryz.prog 88 #[.func (.func 108) #[] #[.pointer (some ⟨X1, 0, none⟩)], .int .i64 M, .func (.func 89) #[] #[.pointer (some ⟨B5, 0, none⟩), .pointer (some ⟨B6, 0, none⟩), .pointer (some ⟨B3, 0, none⟩)]] w (ListQ rdCl 5 Cl.cells M F b all B5 B6 X1 X2 p w) := by
  have hin : (Tryz.prog.info? 74).map (fun i => (i.zero, i.size, i.bytes)) = some (some (.agg #[.bool false, .int .i64 0, .string ⟨#[]⟩, .int .i64 0, .int .i64 0]), 5, 48) := by kernel_rfl
  obtain ⟨i0, hi, hz0, hz1, hz2⟩ := info_parts hin
  clear hin
  have hbx := one_box w (.cells #[.int .i64 0] 3)
  have hq7 := h.box #[.int .i64 0] 3
  have hbl := h.blt
  have HB3 := Lib.hid (And.intro h3 (And.intro hB3 (World.block_lt_of_cell? _ _ h3)))
  clear h3 hB3
  go_enter Tryz.func88, Tryz.ntmps88
  go_wp2_with fail
  go_step3
  go_upto_region 2 with fail
  generalize w.alloc (.cells #[.int .i64 0] 3) = w1 at hbx hq7 ⊢
  obtain ⟨T7, hT7⟩ : ∃ x, w.heap.size = x := ⟨_, rfl⟩
  rw [hT7] at hq7 hbl ⊢
  have HT7 := Lib.hid hT7
  have HBX := Lib.hid hbx
  have HM := Lib.hid hq7
  clear hbx hq7 h hT7
  go_wp2_with fail
  refine (call_u HM.out [0] _ rfl 1 rfl (by simp) (by intro o ho; simp at ho; subst ho; decide)).mono ?_
  rintro e wn hq
  have hO1 := (Only.of_below HBX.out (fun k => k = b)).trans hq.1 (fun k hk hh => hh.elim id (fun e => absurd e (by have := HT7.out; omega)))
  have HO1 := Lib.hid hO1
  have hsb := step_box hq
  clear hq
  rcases hsb with ⟨rfl, hg0, pE, csX, hqm⟩ | ⟨mk, p1, rfl, hmk, hg0, hqm⟩
  · have HNO := Lib.hid (show rdL rdCl M (all.drop p) = none by simp only [rdL, hg0])
    clear hqm hg0 hO1
    go_wp2_with fail
    rw [Exit.noGoto_ret]
    go_ret2
    refine ⟨HO1.out, ?_⟩
    rw [HNO.out]
    exact rfl
  · have cm : wn.cell? ⟨T7, 0, none⟩ = some (.int .i64 (mk : Int)) := by have := hqm.2.2.1; simp [World.cell?, this]
    by_cases hmki : M < (mk : Int)
    · have HNO := Lib.hid (show rdL rdCl M (all.drop p) = none by simp only [rdL, hg0]; rw [if_neg (by omega)])
      clear hqm hg0 hO1
      go_wp2_with fail
      rw [Exit.noGoto_ret]
      go_ret2
      refine ⟨HO1.out, ?_⟩
      rw [HNO.out]
      exact rfl
    · have HMK := Lib.hid (show (mk : Int) ≤ M by omega)
      have HB := Lib.hid hqm.rdb
      have HYS := Lib.hid (show rdL rdCl M (all.drop p) = rdMany rdCl mk (all.drop p1) by simp only [rdL, hg0]; rw [if_pos (by omega)]; simp)
      clear hqm hg0
      have hms : ∀ wx : World, (Instr.makeSlice 24 (.int .i64 (mk : Int)) (.int .i64 (mk : Int))).run Tryz.prog wx = .ok (.slice (some ⟨wx.heap.size, 0, none⟩) mk mk) (wx.alloc (.cells (madeCells #[.bool false, .int .i64 0, .string ⟨#[]⟩, .int .i64 0, .int .i64 0] (mk * 5)) 74)) := fun wx => by
        have := run_make (P := Tryz.prog) wx 24 74 i0 _ (by kernel_rfl) hi hz0 .i64 .i64 (mk : Int) (mk : Int) (by omega) (by omega) (by rw [hz2]; have := HMK.out; have := hmost; omega) (by have := HMK.out; have := hmost; omega)
        rw [hz1] at this
        simp only [Int.toNat_natCast] at this
        exact this
      have hmk3 : mk ≤ 1000 := by have := HMK.out; omega
      have hq8 := HB.out.box (madeCells #[.bool false, .int .i64 0, .string ⟨#[]⟩, .int .i64 0, .int .i64 0] (mk * 5)) 74
      have hO2 := hO1.alloc (.cells (madeCells #[.bool false, .int .i64 0, .string ⟨#[]⟩, .int .i64 0, .int .i64 0] (mk * 5)) 74)
      have hgl : w.heap.size ≤ wn.heap.size := hO1.size
      have HC3 := Lib.hid (And.intro ((((hO1.alloc (.cells (madeCells #[.bool false, .int .i64 0, .string ⟨#[]⟩, .int .i64 0, .int .i64 0] (mk * 5)) 74)).cell (p := ⟨B3, 0, none⟩) HB3.out.1 HB3.out.2.1)) : (wn.alloc (.cells (madeCells #[.bool false, .int .i64 0, .string ⟨#[]⟩, .int .i64 0, .int .i64 0] (mk * 5)) 74)).cell? ⟨B3, 0, none⟩ = _) (And.intro HB3.out.2.1 (show B3 ≠ wn.heap.size by have := hO1.size; have := HB3.out.2.2; omega)))
      clear hO1
      go_wp2_with fail
      clear hms cm hmk
      generalize wn.alloc (.cells (madeCells #[.bool false, .int .i64 0, .string ⟨#[]⟩, .int .i64 0, .int .i64 0] (mk * 5)) 74) = w2 at hq8 hO2 HC3 ⊢
      obtain ⟨g, hg⟩ : ∃ x, wn.heap.size = x := ⟨_, rfl⟩
      rw [hg] at hq8 hgl HC3 ⊢
      have HS := Lib.hid (show ListR rdCl 5 Cl.cells F b all B5 B6 X1 X2 g 74 p1 mk w2 0 w2 from ⟨Only.refl _ _, [], p1, _, rfl, rfl, by simp [madeCells], hq8, by simp⟩)
      have HE := Lib.hid (And.intro hO2 hgl)
      clear hq8 hO2 hgl hg hmki
      go_step3
      go_wp2_with fail
      go_loopw [10, 25] (fun e i wr => e = .bool true ∧ ∃ k : Nat, k ≤ mk ∧ i = .int .i64 (k : Int) ∧ ListR rdCl 5 Cl.cells F b all B5 B6 X1 X2 g 74 p1 mk w2 k wr) (fun _ i _ => mk - (intOf i).toNat)
      case atStart => exact ⟨rfl, 0, Nat.zero_le _, rfl, HS.out⟩
      case round =>
        obtain ⟨rfl, k, hk, rfl, hL⟩ := hrel
        by_cases hlt : k < mk
        · have c3k := hL.1.cell (p := ⟨B3, 0, none⟩) HC3.out.1 (fun e => e.elim HC3.out.2.1 HC3.out.2.2)
          obtain ⟨ho, xs, p2, cs, hxs, hxl, hcsz, hq, hcells⟩ := hL
          have hONE := one_cl F b all B5 B6 X1 X2 g B3 74 p2 (k * 5) cs wr hq (by omega) c3k ⟨HC3.out.2.1, HC3.out.2.2⟩
          have HL := Lib.hid (And.intro ho (And.intro hxs (And.intro hxl (And.intro hcsz hcells))))
          have HONE := Lib.hid hONE
          clear ho hxs hxl hcsz hcells hq hONE
          go_wp2_with fail
          refine HONE.out.mono ?_
          rintro e w3 ⟨ho3, hm3⟩
          cases hg3 : rdCl (all.drop p2) with
          | none =>
            rw [hg3] at hm3
            obtain ⟨rfl, _⟩ := hm3
            have HZ := Lib.hid (And.intro ho3 hg3)
            clear ho3 hg3
            go_wp2_with fail
            rw [Exit.noGoto_ret]
            go_ret2
            exact list_bad HL.out.1 HL.out.2.1 hlt HZ.out.1 HZ.out.2 HYS.out HE.out.1 HE.out.2
          | some y =>
            obtain ⟨x, rest⟩ := y
            rw [hg3] at hm3
            obtain ⟨rfl, p3, rfl, hq3⟩ := hm3
            have HZ := Lib.hid (And.intro ho3 (And.intro hg3 hq3))
            clear ho3 hg3 hq3
            go_wp2_with fail
            go_roundw
            case rel =>
              exact ⟨rfl, k + 1, by omega, by go_num, list_next putCl_ok HL.out.1 HL.out.2.1 HL.out.2.2.1 HL.out.2.2.2.1 HL.out.2.2.2.2 hlt HZ.out.1 HZ.out.2.1 HZ.out.2.2⟩
            case measure => simp [intOf]; omega
        · obtain rfl : k = mk := by omega
          have HL := Lib.hid hL
          clear hL
          go_wp2_with fail
          rw [Exit.noGoto_ret]
          go_ret2
          exact list_end hmk3 HL.out HYS.out HE.out.1 HE.out.2
end Go.Proofs.YtihjcfifakcpgaaGreatDoor
