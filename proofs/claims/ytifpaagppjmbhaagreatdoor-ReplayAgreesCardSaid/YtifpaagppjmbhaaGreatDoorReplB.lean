/- replay over a log without pieces: Play. -/
import Derived.Test.YtifpaagppjmbhaaGreatDoorReplA
namespace Go.Proofs.YtifpaagppjmbhaaGreatDoor
set_option maxRecDepth 100000
open Go.RowKit

def Play1P (w : World) (er : Int) (x : Ending) (w' : World) : Prop := Below w.heap.size w w' ∧ (er = 0 → ∃ R, x = .returned (.tuple #[.pointer (some ⟨R, 0, none⟩), .int .i64 0]) ∧ RepE w' R) ∧ (er ≠ 0 → x = .returned (.tuple #[.pointer none, .int .i64 er]))
set_option maxRecDepth 100000 in
set_option maxHeartbeats 4000000 in
theorem play1_ok (w : World) (L : Nat) (most n f : Int) (A : Option Addr) (m c b3 b4 b5 b8 : Nat) (i wk st : Int) (A' : Option Addr) (m' c' : Nat) (picks : List Int) (hP : PlayB L most n f A m c b3 b4 b5 b8 w) (hL : LogE w L) (hm1 : 1 ≤ m) (hm : m ≤ 16)
    (hpk : Rd w (fun _ => True) (.slice A' m' c') (picks.map (Value.int .i64))) :
    Calls Tryz.prog 80 #[.int .i64 i, .agg #[.int .i64 wk, .int .i64 st, .slice A' m' c'], .pointer (some ⟨b3, 0, none⟩), .pointer (some ⟨b4, 0, none⟩), .pointer (some ⟨b5, 0, none⟩), .pointer (some ⟨b8, 0, none⟩)] w (Play1P w (liErr most n f wk st)) := by
  have hb := new_box w (.cells #[.int .i64 wk, .int .i64 st, .slice A' m' c'] 102)
  have k0 := heap_alloc_new w (.cells #[.int .i64 wk, .int .i64 st, .slice A' m' c'] 102)
  have hP1 := hP.below hb
  have H8 := Lib.hid hP.2.2.2
  have hL1 := hL.below hb
  have hpk1 := Rd.below hpk hb
  go_enter Tryz.func80, Tryz.ntmps80
  go_upto_region 1 with fail
  generalize w.alloc (.cells #[.int .i64 wk, .int .i64 st, .slice A' m' c'] 102) = w1 at hb k0 hP1 hL1 hpk1 ⊢
  obtain ⟨D, hD⟩ : ∃ x, w.heap.size = x := ⟨_, rfl⟩
  rw [hD] at k0 ⊢
  clear hD hP hL hpk
  have p3 : w1.cell? ⟨b3, 0, none⟩ = some (.pointer (some ⟨L, 0, none⟩)) := by have := hP1.1; simp [World.cell?, this]
  have p40 : w1.cell? ⟨b4, 0, none⟩ = some (.int .i64 most) := by have := hP1.2.1; simp [World.cell?, this]
  have p41 : w1.cell? ⟨b4, 1, none⟩ = some (.int .i64 n) := by have := hP1.2.1; simp [World.cell?, this]
  have p42 : w1.cell? ⟨b4, 2, none⟩ = some (.int .i64 f) := by have := hP1.2.1; simp [World.cell?, this]
  have z0 : w1.cell? ⟨D, 0, none⟩ = some (.int .i64 wk) := by simp [World.cell?, k0]
  have z1 : w1.cell? ⟨D, 1, none⟩ = some (.int .i64 st) := by simp [World.cell?, k0]
  have z2 : w1.cell? ⟨D, 2, none⟩ = some (.slice A' m' c') := by simp [World.cell?, k0]
  have HB := Lib.hid (And.intro hb (And.intro hP1 (And.intro hpk1 k0)))
  have HE := Lib.hid (live0_ok w1 L most n f wk st A' m' c' hL1)
  unfold cfgV at HE
  clear hb hP1 hL1 hpk1 k0
  go_wp2_with fail
  refine HE.out.mono ?_
  rintro e w2 ⟨hb2, he, he'⟩
  have hP2 := HB.out.2.1.below hb2
  have q5 : w2.cell? ⟨b5, 0, none⟩ = some (.slice A m c) := by have := hP2.2.2.1; simp [World.cell?, this]
  have k2 := (Only.of_below hb2 (fun _ => False)).heap HB.out.2.2.2 (fun h => h)
  have q2 : w2.cell? ⟨D, 2, none⟩ = some (.slice A' m' c') := by simp [World.cell?, k2]
  have HB2 := Lib.hid (And.intro (HB.out.1.trans (hb2.mono HB.out.1.size)) (And.intro hP2 (Rd.below HB.out.2.2.1 hb2)))
  clear p3 p40 p41 p42 z0 z1 z2 hb2 hP2 k2 HE
  by_cases h0 : liErr most n f wk st = 0
  · obtain ⟨R, rfl, hR⟩ := he h0
    have HX := Lib.hid h0
    have HR := Lib.hid hR
    clear he he' h0 hR
    by_cases hi : i = (m : Int) - 1
    · have HD := Lib.hid (exDrive0_ok w2 R _ picks HR.out HB2.out.2.2)
      subst hi
      have i1 : (0 : Int) ≤ (m : Int) - 1 := by omega
      go_wp2_with fail
      refine HD.out.mono ?_
      rintro e w3 ⟨rfl, hb3⟩
      have HB3 := Lib.hid (And.intro (HB2.out.1.trans (hb3.mono HB2.out.1.size)) (And.intro (HB2.out.2.1.below hb3) (HR.out.below hb3)))
      clear hb3 q5 q2
      have hk := HB3.out.2.1.2.2.2
      have y0 : w3.cell? ⟨b8, 2, none⟩ = some (.int .i64 0) := by simp [World.cell?, hk]
      have y1 : w3.frozen? ⟨b8, 2, none⟩ = false := by simp [World.frozen?, hk]
      have hsm := below_same (j := 2) (v := .int .i64 0) H8.out HB3.out.1 (by have := heap_setCell_same w3 b8 2 _ _ (.int .i64 0) hk; simpa using this)
      have HS := Lib.hid (And.intro hsm ((HB3.out.2.2).below (below_same (j := 2) (v := .int .i64 0) hk (Below.refl _ _) (by have := heap_setCell_same w3 b8 2 _ _ (.int .i64 0) hk; simpa using this))))
      have HA := Lib.hid (exAdmitted0_ok _ R HS.out.2)
      clear hk hsm
      go_wp2_with fail
      refine HA.out.mono ?_
      rintro e w9 ⟨rfl, hb9⟩
      have HZ := Lib.hid (And.intro (HS.out.1.trans (hb9.mono HS.out.1.size)) (HS.out.2.below hb9))
      clear hb9 y0 y1 HA
      go_wp2_with fail
      go_loopw [54] (fun i wr => i = .int .i64 0 ∧ wr = w9) (fun _ _ => 0)
      case atStart => exact ⟨rfl, rfl⟩
      case round =>
        obtain ⟨rfl, rfl⟩ := hrel
        go_wp2_with fail
        go_ret2
        rw [HX.out]
        exact ⟨HZ.out.1, fun _ => ⟨R, rfl, HZ.out.2⟩, fun h => absurd rfl h⟩
    · have i1 : ¬ i = (m : Int) - 1 := hi
      have i2 : (1 : Int) ≤ (m : Int) := by omega
      have hk := HB2.out.2.1.2.2.2
      have y0 : w2.cell? ⟨b8, 2, none⟩ = some (.int .i64 0) := by simp [World.cell?, hk]
      have y1 : w2.frozen? ⟨b8, 2, none⟩ = false := by simp [World.frozen?, hk]
      have hsm := below_same (j := 2) (v := .int .i64 0) H8.out HB2.out.1 (by have := heap_setCell_same w2 b8 2 _ _ (.int .i64 0) hk; simpa using this)
      have HS := Lib.hid (And.intro hsm ((HR.out).below (below_same (j := 2) (v := .int .i64 0) hk (Below.refl _ _) (by have := heap_setCell_same w2 b8 2 _ _ (.int .i64 0) hk; simpa using this))))
      have HA := Lib.hid (exAdmitted0_ok _ R HS.out.2)
      clear hk hsm
      go_wp2_with fail
      refine HA.out.mono ?_
      rintro e w9 ⟨rfl, hb9⟩
      have HZ := Lib.hid (And.intro (HS.out.1.trans (hb9.mono HS.out.1.size)) (HS.out.2.below hb9))
      clear hb9 y0 y1 HA
      go_wp2_with fail
      go_loopw [54] (fun i wr => i = .int .i64 0 ∧ wr = w9) (fun _ _ => 0)
      case atStart => exact ⟨rfl, rfl⟩
      case round =>
        obtain ⟨rfl, rfl⟩ := hrel
        go_wp2_with fail
        go_ret2
        rw [HX.out]
        exact ⟨HZ.out.1, fun _ => ⟨R, rfl, HZ.out.2⟩, fun h => absurd rfl h⟩
  · obtain rfl := he' h0
    have H0 := Lib.hid h0
    clear he he'
    go_wp2_with fail
    go_ret2
    exact ⟨HB2.out.1, fun h => absurd h H0.out, fun _ => rfl⟩
set_option maxRecDepth 100000 in
theorem exTable0_ok (w : World) (R : Nat) (h : RepE w R) : Calls Tryz.prog 41 #[.pointer (some ⟨R, 0, none⟩)] w fun e w' => ∃ a, e = .returned (.pointer (some a)) ∧ Below w.heap.size w w' := by
  obtain ⟨L, f, T, Kl, B, m1, m2, n, most, nn, h0, h1, h2, h3⟩ := h
  obtain ⟨r0, r2, r3, r4, r6, r7⟩ := repO_cells h0
  have HT := Lib.hid (tableCopy0_ok w T 0 most nn h2)
  clear h0 h1 h2 h3
  go_enter Tryz.func41, Tryz.ntmps41
  go_wp2_with fail
  refine HT.out.mono ?_
  rintro e w2 ⟨a, rfl, hb⟩
  have HB := Lib.hid hb
  clear hb
  go_wp2_with fail
  go_ret
  exact ⟨a, rfl, HB.out⟩
theorem put5r {w : World} {B : Nat} {a0 a1 a2 a3 a4 v0 v1 v2 v3 v4 : Value} {t : TypeId} (h : w.heap[B]? = some (.cells #[a0, a1, a2, a3, a4] t (0, 0))) :
    (((((w.setCell ⟨B, 0, none⟩ v0).setCell ⟨B, 1, none⟩ v1).setCell ⟨B, 2, none⟩ v2).setCell ⟨B, 3, none⟩ v3).setCell ⟨B, 4, none⟩ v4).heap[B]? = some (.cells #[v0, v1, v2, v3, v4] t (0, 0)) := by
  have h0 := heap_setCell_same w B 0 _ t v0 h
  have h1 := heap_setCell_same _ B 1 _ t v1 h0
  have h2 := heap_setCell_same _ B 2 _ t v2 h1
  have h3 := heap_setCell_same _ B 3 _ t v3 h2
  have h4 := heap_setCell_same _ B 4 _ t v4 h3
  simpa using h4
theorem below_put5 {w w1 : World} {B : Nat} (h : Below w.heap.size w w1) (hB : w.heap.size ≤ B) (v0 v1 v2 v3 v4 : Value) :
    Below w.heap.size w (((((w1.setCell ⟨B, 0, none⟩ v0).setCell ⟨B, 1, none⟩ v1).setCell ⟨B, 2, none⟩ v2).setCell ⟨B, 3, none⟩ v3).setCell ⟨B, 4, none⟩ v4) :=
  ((((h.setCell (p := ⟨B, 0, none⟩) hB _).setCell (p := ⟨B, 1, none⟩) hB _).setCell (p := ⟨B, 2, none⟩) hB _).setCell (p := ⟨B, 3, none⟩) hB _).setCell (p := ⟨B, 4, none⟩) hB _
theorem five_cells {w : World} {B : Nat} {a0 a1 a2 a3 a4 : Value} {t : TypeId} (h : w.heap[B]? = some (.cells #[a0, a1, a2, a3, a4] t (0, 0))) :
    (w.cell? ⟨B, 0, none⟩ = some a0 ∧ w.cell? ⟨B, 1, none⟩ = some a1 ∧ w.cell? ⟨B, 2, none⟩ = some a2 ∧ w.cell? ⟨B, 3, none⟩ = some a3 ∧ w.cell? ⟨B, 4, none⟩ = some a4) ∧ ∀ j, w.frozen? ⟨B, j, none⟩ = false := by
  refine ⟨⟨?_, ?_, ?_, ?_, ?_⟩, fun j => ?_⟩ <;> simp [World.cell?, World.frozen?, h]
/-- The boxes of Play's arguments. -/
theorem boxes4 (w : World) (o3 o4 o5 o6 : Obj) : Below w.heap.size w ((((w.alloc o3).alloc o4).alloc o5).alloc o6) ∧ ((((w.alloc o3).alloc o4).alloc o5).alloc o6).heap[w.heap.size]? = some o3 ∧ ((((w.alloc o3).alloc o4).alloc o5).alloc o6).heap[w.heap.size + 1]? = some o4 ∧
    ((((w.alloc o3).alloc o4).alloc o5).alloc o6).heap[w.heap.size + 1 + 1]? = some o5 ∧ ((((w.alloc o3).alloc o4).alloc o5).alloc o6).heap[w.heap.size + 1 + 1 + 1]? = some o6 := by
  have e1 : (w.alloc o3).heap.size = w.heap.size + 1 := by simp
  have e2 : ((w.alloc o3).alloc o4).heap.size = w.heap.size + 2 := by simp
  have e3 : (((w.alloc o3).alloc o4).alloc o5).heap.size = w.heap.size + 3 := by simp
  have b1 := new_box w o3
  have b2 := new_box (w.alloc o3) o4
  have b3 := new_box ((w.alloc o3).alloc o4) o5
  have b4 := new_box (((w.alloc o3).alloc o4).alloc o5) o6
  have k1 := heap_alloc_new w o3
  have k2 := heap_alloc_new (w.alloc o3) o4
  have k3 := heap_alloc_new ((w.alloc o3).alloc o4) o5
  have k4 := heap_alloc_new (((w.alloc o3).alloc o4).alloc o5) o6
  rw [e1] at k2
  rw [e2] at k3
  rw [e3] at k4
  have on : ∀ {x y : World} {i : Nat} {o : Obj}, Below x.heap.size x y → x.heap[i]? = some o → y.heap[i]? = some o := fun hb h => (Only.of_below hb (fun _ => False)).heap h (fun h => h)
  exact ⟨b1.trans ((b2.trans ((b3.trans (b4.mono b3.size)).mono b2.size)).mono b1.size), on b4 (on b3 (on b2 k1)), on b4 (on b3 k2), on b4 k3, k4⟩
/-- What is wrong with lives: the first one that may not be. -/
def plErr (most n f : Int) : List LF → Int
  | [] => 0
  | x :: l => if liErr most n f x.wk x.st = 0 then plErr most n f l else liErr most n f x.wk x.st
theorem plErr_at {most n f : Int} : ∀ {l : List LF} {k : Nat} {x : LF}, (∀ y ∈ l.take k, liErr most n f y.wk y.st = 0) → l[k]? = some x → liErr most n f x.wk x.st ≠ 0 → plErr most n f l = liErr most n f x.wk x.st
  | [], _, _, _, hx, _ => by simp at hx
  | y :: l, 0, x, _, hx, hne => by
    simp at hx
    subst hx
    unfold plErr
    rw [if_neg hne]
  | y :: l, k + 1, x, h, hx, hne => by
    unfold plErr
    rw [if_pos (h y (by simp))]
    exact plErr_at (fun z hz => h z (by rw [List.take_succ_cons]; exact List.mem_cons_of_mem _ hz)) (by simpa using hx) hne
theorem plErr_all {most n f : Int} : ∀ {l : List LF}, (∀ y ∈ l, liErr most n f y.wk y.st = 0) → plErr most n f l = 0
  | [], _ => rfl
  | y :: l, h => by
    unfold plErr
    rw [if_pos (h y (by simp))]
    exact plErr_all (fun z hz => h z (by simp [hz]))
theorem take_all {l : List LF} {k : Nat} {x : LF} {p : LF → Prop} (h : ∀ y ∈ l.take k, p y) (hx : l[k]? = some x) (hp : p x) : ∀ y ∈ l.take (k + 1), p y := by
  intro y hy
  rw [List.take_add_one, hx] at hy
  rcases List.mem_append.1 hy with hy | hy
  · exact h y hy
  · simp at hy; subst hy; exact hp
/-- What is wrong with a play. -/
def playErr (most n f : Int) (l : List LF) : Int := if l.length = 0 ∨ 16 < l.length then 23 else plErr most n f l
/-- While lives are played. -/
def PlI (w2 : World) (most n f : Int) (l : List LF) (k : Nat) (last bad : Value) (wr : World) : Prop := Below w2.heap.size w2 wr ∧ bad = .int .i64 0 ∧ (∀ y ∈ l.take k, liErr most n f y.wk y.st = 0) ∧ (k = 0 ∨ ∃ R, last = .pointer (some ⟨R, 0, none⟩) ∧ RepE wr R)
def repV (m : Nat) (p : Option Addr) : Value := .agg #[.slice none 0 0, .int .i64 (m : Int), .int .i64 0, .slice none 0 0, .pointer p]
def PlayP (w : World) (er : Int) (m : Nat) (x : Ending) (w' : World) : Prop := Below w.heap.size w w' ∧ (er = 0 → ∃ a, x = .returned (.tuple #[repV m (some a), .int .i64 0])) ∧ (er ≠ 0 → x = .returned (.tuple #[repV 0 none, .int .i64 er]))
set_option maxRecDepth 100000 in
set_option maxHeartbeats 4000000 in
theorem play0_ok (w : World) (L : Nat) (most n f : Int) (v : Value) (l : List LF) (hL : LogE w L) (hr : RdK 3 w (fun _ => True) v (l.map LF.cells)) (hp : ∀ x ∈ l, LF.rd w x) :
    Calls Tryz.prog 45 #[.pointer (some ⟨L, 0, none⟩), cfgV most n f, v] w (PlayP w (playErr most n f l) l.length) := by
  unfold cfgV
  obtain ⟨A, m, c, rfl, hl, hnc, hcm, hx⟩ := hr
  have hlm : l.length = m := by simpa using hl
  rw [hlm]
  have HM := Lib.hid hlm
  unfold maxLen at hcm
  have HB := Lib.hid (boxes4 w (.cells #[.pointer (some ⟨L, 0, none⟩)] 28) (.cells #[.int .i64 most, .int .i64 n, .int .i64 f] 23) (.cells #[.slice A m c] 100) (.cells #[.slice none 0 0, .int .i64 0, .int .i64 0, .slice none 0 0, .pointer none] 97))
  go_enter Tryz.func45, Tryz.ntmps45
  go_upto_region 1 with fail
  generalize ((((w.alloc (.cells #[.pointer (some ⟨L, 0, none⟩)] 28)).alloc (.cells #[.int .i64 most, .int .i64 n, .int .i64 f] 23)).alloc (.cells #[.slice A m c] 100)).alloc (.cells #[.slice none 0 0, .int .i64 0, .int .i64 0, .slice none 0 0, .pointer none] 97)) = w1 at HB ⊢
  obtain ⟨b6, h6⟩ : ∃ x, w.heap.size + 1 + 1 + 1 = x := ⟨_, rfl⟩
  have HL6 := Lib.hid (show w.heap.size ≤ b6 by omega)
  rw [h6] at HB ⊢
  clear h6
  obtain ⟨b5, h5⟩ : ∃ x, w.heap.size + 1 + 1 = x := ⟨_, rfl⟩
  rw [h5] at HB ⊢
  clear h5
  obtain ⟨b4, h4⟩ : ∃ x, w.heap.size + 1 = x := ⟨_, rfl⟩
  rw [h4] at HB ⊢
  clear h4
  obtain ⟨b3, h3⟩ : ∃ x, w.heap.size = x := ⟨_, rfl⟩
  have HB1 := HB.out
  clear HB
  obtain ⟨hb1, k3, k4, k5, k6⟩ := HB1
  rw [h3] at k3
  rw [h3]
  clear h3
  have HX := Lib.hid hx
  have HP := Lib.hid hp
  have HLL := Lib.hid hL
  have HB1 := Lib.hid (And.intro hb1 k6)
  have z5 : w1.cell? ⟨b5, 0, none⟩ = some (.slice A m c) := by simp [World.cell?, k5]
  clear hx hp hL
  by_cases h0 : m = 0 ∨ 16 < m
  · have HE := Lib.hid (show playErr most n f l = 23 by unfold playErr; rw [hlm, if_pos h0])
    obtain ⟨⟨s0, s1, s2, s3, s4⟩, fz⟩ := five_cells k6
    have f0 := fz 0
    have f1 := fz 1
    have f2 := fz 2
    have f3 := fz 3
    have f4 := fz 4
    clear k3 k4 k5 k6 hb1 fz hl hlm hnc hcm
    rcases h0 with h0 | h0
    · subst h0
      go_step3
      go_wp2_with fail
      have hp := put5r (v0 := .slice none 0 0) (v1 := .int .i64 0) (v2 := .int .i64 0) (v3 := .slice none 0 0) (v4 := .pointer none) HB1.out.2
      rw [Exit.noGoto_ret]
      try simp only [Exit.inBlock, Exit.then]
      exact bodyPost_ret (results_cell_row2 rfl _ _ _ _ _ _ _ rfl hp Tryz.underlying97 rfl (by kernel_rfl)) rfl ⟨below_put5 HB1.out.1 HL6.out _ _ _ _ _, fun h => absurd h (by rw [HE.out]; decide), fun _ => by rw [HE.out]; rfl⟩
    · have h0i : ¬ (m : Int) = 0 := by omega
      have h0n : ¬ m = 0 := by omega
      have h0j : (16 : Int) < (m : Int) := by omega
      clear h0
      go_step3
      go_wp2_with fail
      have hp := put5r (v0 := .slice none 0 0) (v1 := .int .i64 0) (v2 := .int .i64 0) (v3 := .slice none 0 0) (v4 := .pointer none) HB1.out.2
      rw [Exit.noGoto_ret]
      try simp only [Exit.inBlock, Exit.then]
      exact bodyPost_ret (results_cell_row2 rfl _ _ _ _ _ _ _ rfl hp Tryz.underlying97 rfl (by kernel_rfl)) rfl ⟨below_put5 HB1.out.1 HL6.out _ _ _ _ _, fun h => absurd h (by rw [HE.out]; decide), fun _ => by rw [HE.out]; rfl⟩
  · have HE := Lib.hid (show playErr most n f l = plErr most n f l by unfold playErr; rw [hlm, if_neg h0])
    have h0i : ¬ (m : Int) = 0 := by omega
    have h0n : ¬ m = 0 := by omega
    have h0j : ¬ (16 : Int) < (m : Int) := by omega
    have HN := Lib.hid (show 1 ≤ m ∧ m ≤ 16 by omega)
    have hb8 := new_box w1 (.cells #[.slice none 0 0, .int .i64 (m : Int), .int .i64 0, .slice none 0 0, .pointer none] 97)
    have k8 := heap_alloc_new w1 (.cells #[.slice none 0 0, .int .i64 (m : Int), .int .i64 0, .slice none 0 0, .pointer none] 97)
    clear h0 hl hlm hnc hcm
    go_step3
    go_upto_region 4 with fail
    generalize w1.alloc (.cells #[.slice none 0 0, .int .i64 (m : Int), .int .i64 0, .slice none 0 0, .pointer none] 97) = w2 at hb8 k8 ⊢
    have on : ∀ {i : Nat} {o : Obj}, w1.heap[i]? = some o → w2.heap[i]? = some o := fun h => (Only.of_below hb8 (fun _ => False)).heap h (fun h => h)
    have HL8 := Lib.hid (And.intro (show w.heap.size ≤ w1.heap.size from hb1.size) (show b6 < w1.heap.size from (Array.getElem?_eq_some_iff.1 k6).1))
    generalize w1.heap.size = b8 at k8 HL8 hb8 ⊢
    have HPB := Lib.hid (show PlayB L most n f A m c b3 b4 b5 b8 w2 from ⟨on k3, on k4, on k5, k8⟩)
    have HB2 := Lib.hid (And.intro (hb1.trans (hb8.mono HL8.out.1)) (on k6))
    clear on k3 k4 k5 k6 k8 hb1 hb8 z5
    have z5 : w2.cell? ⟨b5, 0, none⟩ = some (.slice A m c) := by have := HPB.out.2.2.1; simp [World.cell?, this]
    go_wp2_with fail
    go_step3
    go_wp2_with fail
    clear z5 h0i h0n h0j
    go_loopw [10, 11, 29] (fun last bad i wr => ∃ k : Nat, k ≤ m ∧ i = .int .i64 (k : Int) ∧ PlI w2 most n f l k last bad wr) (fun _ _ i _ => m - (intOf i).toNat)
    case atStart => exact ⟨0, Nat.zero_le _, rfl, Below.refl _ _, rfl, by simp, .inl rfl⟩
    case round =>
      obtain ⟨k, hk, rfl, hbr, rfl, hok, hlast⟩ := hrel
      by_cases hlt : k < m
      · obtain ⟨x, hxk⟩ : ∃ x, l[k]? = some x := ⟨_, List.getElem?_eq_getElem (by rw [HM.out]; exact hlt)⟩
        have hbw := HB2.out.1.trans (hbr.mono HB2.out.1.size)
        have hxr := (HP.out x (List.mem_of_getElem? hxk)).below hbw
        obtain ⟨A', m', c', hpv⟩ := hxr.slice
        unfold LF.rd at hxr
        rw [hpv] at hxr
        obtain ⟨b, o, rfl, -, hc⟩ := HX.out (by omega)
        have hcx := hc k x.cells (by simp [hxk])
        have on : ∀ {p : Addr} {v : Value}, w.cell? p = some v → wr.cell? p = some v := fun {p v} h => (hbw.cell (World.block_lt_of_cell? _ _ h)).trans h
        have c0 : wr.cell? ⟨b, o + k * 3, none⟩ = some (.int .i64 x.wk) := on (by simpa using hcx 0 _ rfl)
        have c1 : wr.cell? ⟨b, o + k * 3 + 1, none⟩ = some (.int .i64 x.st) := on (by simpa [Nat.add_assoc] using hcx 1 _ rfl)
        have c2 : wr.cell? ⟨b, o + k * 3 + 2, none⟩ = some (.slice A' m' c') := on (by rw [← hpv]; simpa [Nat.add_assoc] using hcx 2 _ rfl)
        have i1 : (0 : Int) ≤ (k : Int) := by omega
        have i2 : (k : Int) < (m : Int) := by omega
        have i3 : (m : Int) ≤ 16 := by have := HN.out.2; omega
        have hx5 := new_box wr (.cells #[.int .i64 x.wk, .int .i64 x.st, .slice A' m' c'] 102)
        have hb5 := hbr.trans (hx5.mono hbr.size)
        have HC := Lib.hid (play1_ok (wr.alloc (.cells #[.int .i64 x.wk, .int .i64 x.st, .slice A' m' c'] 102)) L most n f _ m c b3 b4 b5 b8 (k : Int) x.wk x.st A' m' c' x.picks (HPB.out.below hb5) (HLL.out.below (HB2.out.1.trans (hb5.mono HB2.out.1.size))) HN.out.1 HN.out.2 (Rd.below hxr hx5))
        have HR := Lib.hid (And.intro hxk (And.intro hok hb5))
        clear hbw hxr hc hcx on hx5 hb5 hxk hok hbr hpv
        go_wp2_with fail
        refine HC.out.mono ?_
        rintro e w5 ⟨hb6, he, he'⟩
        have HB6 := Lib.hid (HR.out.2.2.trans (hb6.mono HR.out.2.2.size))
        clear hb6 HC
        by_cases her : liErr most n f x.wk x.st = 0
        · obtain ⟨R, rfl, hR⟩ := he her
          have HE2 := Lib.hid (And.intro her hR)
          clear he he' her hR
          go_wp2_with fail
          go_roundw
          case rel => exact ⟨k + 1, by omega, by go_num, HB6.out, rfl, take_all HR.out.2.1 HR.out.1 HE2.out.1, .inr ⟨R, rfl, HE2.out.2⟩⟩
          case measure => simp [intOf]; omega
        · obtain rfl := he' her
          have HE2 := Lib.hid her
          clear he he'
          have k6 := (Only.of_below HB6.out (fun _ => False)).heap HB2.out.2 (fun h => h)
          obtain ⟨⟨s0, s1, s2, s3, s4⟩, fz⟩ := five_cells k6
          have f0 := fz 0
          have f1 := fz 1
          have f2 := fz 2
          have f3 := fz 3
          have f4 := fz 4
          have HK6 := Lib.hid (And.intro k6 (HB2.out.1.trans (HB6.out.mono HB2.out.1.size)))
          have HEE := Lib.hid (HE.out.trans (plErr_at HR.out.2.1 HR.out.1 HE2.out))
          clear k6 fz
          go_wp2_with fail
          have hp := put5r (v0 := .slice none 0 0) (v1 := .int .i64 0) (v2 := .int .i64 0) (v3 := .slice none 0 0) (v4 := .pointer none) HK6.out.1
          rw [Exit.noGoto_ret]
          try simp only [Exit.inBlock, Exit.then]
          exact bodyPost_ret (results_cell_row2 rfl _ _ _ _ _ _ _ rfl hp Tryz.underlying97 rfl (by kernel_rfl)) rfl ⟨below_put5 HK6.out.2 HL6.out _ _ _ _ _, fun h => absurd (HEE.out.symm.trans h) HE2.out, fun _ => by rw [HEE.out]; rfl⟩
      · obtain rfl : k = m := by omega
        rcases hlast with h0 | ⟨R, rfl, hR⟩
        · exact absurd h0 (by have := HN.out.1; omega)
        have HR := Lib.hid (And.intro hbr (And.intro hR hok))
        clear hbr hok
        go_wp2_with fail
        refine (exOutcomes0_ok _ R HR.out.2.1).mono ?_
        rintro e w6 ⟨rfl, hb6⟩
        have hP6 := HPB.out.below (HR.out.1.trans (hb6.mono HR.out.1.size))
        obtain ⟨⟨-, -, -, s3, -⟩, fz⟩ := five_cells hP6.2.2.2
        have f3 := fz 3
        have h63 := below_same (j := 3) (v := .slice none 0 0) hP6.2.2.2 (Below.refl _ _) (by have := heap_setCell_same w6 b8 3 _ _ (.slice none 0 0) hP6.2.2.2; simpa using this)
        have HB6 := Lib.hid (And.intro (HR.out.1.trans ((hb6.trans (h63.mono hb6.size)).mono HR.out.1.size)) (And.intro (hP6.below h63) ((HR.out.2.1.below hb6).below h63)))
        have HT := Lib.hid (exTable0_ok _ R HB6.out.2.2)
        clear hb6 h63 hP6 fz hR
        go_wp2_with fail
        refine HT.out.mono ?_
        rintro e w7 ⟨a, rfl, hb7⟩
        have hP7 := HB6.out.2.1.below hb7
        obtain ⟨⟨-, -, -, -, s4⟩, fz⟩ := five_cells hP7.2.2.2
        have f4 := fz 4
        have k8 := heap_setCell_same w7 b8 4 _ _ (.pointer (some a)) hP7.2.2.2
        replace k8 : (w7.setCell ⟨b8, 4, none⟩ (.pointer (some a))).heap[b8]? = some (.cells #[.slice none 0 0, .int .i64 (k : Int), .int .i64 0, .slice none 0 0, .pointer (some a)] 97 (0, 0)) := by simpa using k8
        have hb27 := HB6.out.1.trans (hb7.mono HB6.out.1.size)
        have k6 := (Only.set1 w7 b8 4 (.pointer (some a))).heap ((Only.of_below hb27 (fun _ => False)).heap HB2.out.2 (fun h => h)) (by have := HL8.out.2; omega)
        obtain ⟨⟨u0, u1, u2, u3, u4⟩, gz⟩ := five_cells k8
        obtain ⟨⟨v0, v1, v2, v3, v4⟩, hz⟩ := five_cells k6
        have g0 := hz 0
        have g1 := hz 1
        have g2 := hz 2
        have g3 := hz 3
        have g4 := hz 4
        have HK6 := Lib.hid (And.intro k6 ((HB2.out.1.trans (hb27.mono HB2.out.1.size)).setCell (p := ⟨b8, 4, none⟩) HL8.out.1 (.pointer (some a))))
        clear k6 k8 gz hz fz hb7 hP7 hb27 s3 f3
        go_wp2_with fail
        have hp := put5r (v0 := .slice none 0 0) (v1 := .int .i64 (k : Int)) (v2 := .int .i64 0) (v3 := .slice none 0 0) (v4 := .pointer (some a)) HK6.out.1
        rw [Exit.noGoto_ret]
        try simp only [Exit.inBlock, Exit.then]
        exact bodyPost_ret (results_cell_row2 rfl _ _ _ _ _ _ _ rfl hp Tryz.underlying97 rfl (by kernel_rfl)) rfl ⟨below_put5 HK6.out.2 HL6.out _ _ _ _ _, fun _ => ⟨a, rfl⟩, fun h => absurd (HE.out.trans (plErr_all (by have := HR.out.2.2; rw [← HM.out, List.take_length] at this; exact this))) h⟩
end Go.Proofs.YtifpaagppjmbhaaGreatDoor
