/- replay over a log without pieces: Live, and what Play does with one life. -/
import Derived.Test.YtifpaagppjmbhaaGreatDoorExecB
namespace Go.Proofs.YtifpaagppjmbhaaGreatDoor
set_option maxRecDepth 100000
open Go.RowKit

/-- A life: workers, steps, picks. -/
structure LF where
  wk : Int
  st : Int
  pv : Value
  picks : List Int
def LF.cells (x : LF) : List Value := [.int .i64 x.wk, .int .i64 x.st, x.pv]
def LF.rd (w : World) (x : LF) : Prop := Rd w (fun _ => True) x.pv (x.picks.map (Value.int .i64))
theorem LF.rd.below {w w' : World} {x : LF} (h : LF.rd w x) (hb : Below w.heap.size w w') : LF.rd w' x := Rd.below h hb
theorem LF.rd.slice {w : World} {x : LF} (h : LF.rd w x) : ∃ A n c, x.pv = .slice A n c := by
  obtain ⟨A, n, c, h, _⟩ := h
  exact ⟨A, n, c, h⟩
/-- What is wrong with a life. -/
def liErr (most n f wk st : Int) : Int := if exErr most n f wk = 0 then (if st < 0 then 10 else 0) else exErr most n f wk
def LiveP (w : World) (er : Int) (x : Ending) (w' : World) : Prop := Below w.heap.size w w' ∧ (er = 0 → ∃ R, x = .returned (.tuple #[.pointer (some ⟨R, 0, none⟩), .int .i64 0, .int .i64 0]) ∧ RepE w' R) ∧ (er ≠ 0 → x = .returned (.tuple #[.pointer none, .int .i64 0, .int .i64 er]))
set_option maxRecDepth 100000 in
set_option maxHeartbeats 4000000 in
theorem live0_ok (w : World) (L : Nat) (most n f wk st : Int) (A : Option Addr) (m c : Nat) (h : LogE w L) : Calls Tryz.prog 46 #[.pointer (some ⟨L, 0, none⟩), cfgV most n f, .agg #[.int .i64 wk, .int .i64 st, .slice A m c]] w (LiveP w (liErr most n f wk st)) := by
  unfold cfgV
  have hb0 := new_box w (.cells #[.int .i64 most, .int .i64 n, .int .i64 f] 23)
  have k0 := heap_alloc_new w (.cells #[.int .i64 most, .int .i64 n, .int .i64 f] 23)
  have hb1 := new_box (w.alloc (.cells #[.int .i64 most, .int .i64 n, .int .i64 f] 23)) (.cells #[.int .i64 wk, .int .i64 st, .slice A m c] 102)
  have k1 := heap_alloc_new (w.alloc (.cells #[.int .i64 most, .int .i64 n, .int .i64 f] 23)) (.cells #[.int .i64 wk, .int .i64 st, .slice A m c] 102)
  rw [show (w.alloc (.cells #[.int .i64 most, .int .i64 n, .int .i64 f] 23)).heap.size = w.heap.size + 1 by simp] at k1
  have k0 := (Only.of_below hb1 (fun _ => False)).heap k0 (fun h => h)
  have hb := hb0.trans (hb1.mono hb0.size)
  go_enter Tryz.func46, Tryz.ntmps46
  go_upto_region 1 with fail
  generalize (w.alloc (.cells #[.int .i64 most, .int .i64 n, .int .i64 f] 23)).alloc (.cells #[.int .i64 wk, .int .i64 st, .slice A m c] 102) = w1 at hb k0 k1 ⊢
  obtain ⟨D, hD⟩ : ∃ x, w.heap.size + 1 = x := ⟨_, rfl⟩
  obtain ⟨C, hC⟩ : ∃ x, w.heap.size = x := ⟨_, rfl⟩
  rw [hD] at k1 ⊢
  rw [hC] at k0 ⊢
  clear hC hD hb0 hb1
  have z0 : w1.cell? ⟨C, 0, none⟩ = some (.int .i64 most) := by simp [World.cell?, k0]
  have z1 : w1.cell? ⟨C, 1, none⟩ = some (.int .i64 n) := by simp [World.cell?, k0]
  have z2 : w1.cell? ⟨C, 2, none⟩ = some (.int .i64 f) := by simp [World.cell?, k0]
  have y0 : w1.cell? ⟨D, 0, none⟩ = some (.int .i64 wk) := by simp [World.cell?, k1]
  have HB := Lib.hid (And.intro hb (And.intro k1 (h.below hb)))
  have HE := Lib.hid (exNew_ok w1 L most n f wk (h.below hb))
  unfold cfgV at HE
  clear hb k0 k1 h
  go_wp2_with fail
  refine HE.out.mono ?_
  rintro e w2 ⟨hb2, he, he'⟩
  have k2 := (Only.of_below hb2 (fun _ => False)).heap HB.out.2.1 (fun h => h)
  have y1 : w2.cell? ⟨D, 1, none⟩ = some (.int .i64 st) := by simp [World.cell?, k2]
  have HB2 := Lib.hid (HB.out.1.trans (hb2.mono HB.out.1.size))
  clear z0 z1 z2 y0 hb2 HE k2
  by_cases h0 : exErr most n f wk = 0
  · obtain ⟨R, rfl, hR⟩ := he h0
    by_cases h1 : st < 0
    · have HX := Lib.hid (show liErr most n f wk st = 10 by unfold liErr; rw [if_pos h0, if_pos h1])
      clear he he' h0 hR
      go_wp2_with fail
      go_ret3
      rw [HX.out]
      exact ⟨HB2.out, fun h => absurd h (by decide), fun _ => rfl⟩
    · have HX := Lib.hid (show liErr most n f wk st = 0 by unfold liErr; rw [if_pos h0, if_neg h1])
      have HI := Lib.hid (And.intro (exIdle0_ok w2 R hR) hR)
      clear he he' h0 hR
      go_wp2_with fail
      go_loopw [11] (fun i wr => i = .int .i64 0 ∧ wr = w2) (fun _ _ => 0)
      case atStart => exact ⟨rfl, rfl⟩
      case round =>
        obtain ⟨rfl, rfl⟩ := hrel
        by_cases h2 : 0 < st
        · go_wp2_with fail
          refine HI.out.1.mono ?_
          rintro e w3 ⟨rfl, hb3⟩
          have HB3 := Lib.hid (And.intro (HB2.out.trans (hb3.mono HB2.out.size)) (HI.out.2.below hb3))
          clear hb3
          go_wp2_with fail
          go_ret3
          rw [HX.out]
          exact ⟨HB3.out.1, fun _ => ⟨R, rfl, HB3.out.2⟩, fun h => absurd rfl h⟩
        · go_wp2_with fail
          go_ret3
          rw [HX.out]
          exact ⟨HB2.out, fun _ => ⟨R, rfl, HI.out.2⟩, fun h => absurd rfl h⟩
  · have HX := Lib.hid (show liErr most n f wk st = exErr most n f wk by unfold liErr; rw [if_neg h0])
    obtain rfl := he' h0
    have H0 := Lib.hid h0
    clear he he'
    go_wp2_with fail
    go_ret3
    rw [HX.out]
    exact ⟨HB2.out, fun h => absurd h H0.out, fun _ => rfl⟩
/-- The boxes that Play's closure has: the log, the configuration, the lives, what is told. -/
def PlayB (L : Nat) (most n f : Int) (A : Option Addr) (m c : Nat) (b3 b4 b5 b8 : Nat) (w : World) : Prop :=
  w.heap[b3]? = some (.cells #[.pointer (some ⟨L, 0, none⟩)] 28 (0, 0)) ∧ w.heap[b4]? = some (.cells #[.int .i64 most, .int .i64 n, .int .i64 f] 23 (0, 0)) ∧
  w.heap[b5]? = some (.cells #[.slice A m c] 100 (0, 0)) ∧ w.heap[b8]? = some (.cells #[.slice none 0 0, .int .i64 (m : Int), .int .i64 0, .slice none 0 0, .pointer none] 97 (0, 0))
theorem PlayB.below {L : Nat} {most n f : Int} {A : Option Addr} {m c b3 b4 b5 b8 : Nat} {w w' : World} (h : PlayB L most n f A m c b3 b4 b5 b8 w) (hb : Below w.heap.size w w') : PlayB L most n f A m c b3 b4 b5 b8 w' :=
  ⟨(Only.of_below hb (fun _ => False)).heap h.1 (fun h => h), (Only.of_below hb (fun _ => False)).heap h.2.1 (fun h => h), (Only.of_below hb (fun _ => False)).heap h.2.2.1 (fun h => h), (Only.of_below hb (fun _ => False)).heap h.2.2.2 (fun h => h)⟩
theorem below_same {w w1 : World} {b : Nat} {o : Obj} {j : Nat} {v : Value} (h : w.heap[b]? = some o) (hb : Below w.heap.size w w1) (hs : (w1.setCell ⟨b, j, none⟩ v).heap[b]? = some o) : Below w.heap.size w (w1.setCell ⟨b, j, none⟩ v) := by
  have ho : Only (fun k => k = b) w (w1.setCell ⟨b, j, none⟩ v) := ((Only.of_below hb (fun _ => False)).mono (fun _ _ h => h.elim)).trans (T := fun k => k = b) (Only.set1 w1 b j v) (fun _ _ h => h)
  refine ⟨hb.os, hb.tape, hb.output, by simpa using hb.size, fun k hk => ?_⟩
  by_cases hkb : k = b
  · subst hkb
    rw [hs, h]
  · exact ho.block k hk hkb
end Go.Proofs.YtifpaagppjmbhaaGreatDoor
