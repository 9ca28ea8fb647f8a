/- Words for the laws of Locks; Ints, in, the chapter's example. -/
import Derived.Test.YtihjcfifakcpgaaLockD
import Derived.Test.YtihjcfifakcpgaaFootFormP
namespace Go.Proofs.Ytihjcfifakcpgaa
open Go.RowKit Go.Maps Go.WideShapes

/-- What was safe, and what is new. -/
def Mor (C : Nat → Prop) (w w' : World) (k : Nat) : Prop := C k ∨ New w w' k
/-- A footprint in a box that is safe. -/
def FtC (w : World) (C : Nat → Prop) (B : Nat) (A : Option Addr) (f : List Cl) (c : Nat) : Prop := C B ∧ w.heap[B]? = some (.cells #[.slice A f.length c] 35 (0, 0)) ∧ ClRd w C (.slice A f.length c) f
section
variable {w0 w w' : World} {F C S : Nat → Prop} {b n B c : Nat} {sm : Bool} {la id : Int} {l : List Ent} {A : Option Addr} {f : List Cl}
theorem FtC.only (h : FtC w C B A f c) (ho : Only S w w') (hS : ∀ k, C k → ¬ S k) : FtC w' C B A f c := ⟨h.1, ho.heap h.2.1 (hS _ h.1), RdK.only h.2.2 ho hS⟩
theorem FtC.below (h : FtC w C B A f c) (hb : Below w.heap.size w w') : FtC w' C B A f c := h.only (Only.of_below hb (fun _ => False)) (fun _ _ => id)
theorem FtC.mor (h : FtC w C B A f c) (hb : Below w.heap.size w w') : FtC w' (Mor C w w') B A f c := ⟨.inl h.1, (h.below hb).2.1, RdK.mono (h.below hb).2.2 (fun _ => .inl)⟩
theorem FtC.cell (h : FtC w C B A f c) : w.cell? ⟨B, 0, none⟩ = some (.slice A f.length c) := blk_cell h.2.1
theorem FtC.lt (h : FtC w C B A f c) : B < w.heap.size := (Array.getElem?_eq_some_iff.1 h.2.1).1
/-- A box that has just been made, of claims that are new. -/
theorem FtC.box {X W : World} (hb : Below X.heap.size X W) {base : Nat} (hO : W.ownsRow base 52 5 (.slice A f.length c) f.length (f.map Cl.cells).flatten) (hba : X.heap.size ≤ base) :
    FtC (W.alloc (.cells #[.slice A f.length c] 35)) (Mor C X (W.alloc (.cells #[.slice A f.length c] 35))) W.heap.size A f c := by
  have hs := hb.size
  refine ⟨.inr ⟨hs, by simp⟩, heap_alloc_new _ _, RdK.below (RdK.of_own hO (cl_len _) (by decide) (fun g hg => .inr ?_)) (box1 _ _)⟩
  have := hO.lt g hg
  exact ⟨by omega, by simp; omega⟩
theorem LkAt.mor (h : LkAt w F C b sm la l n) (hb : Below w.heap.size w w') : LkAt w' F (Mor C w w') b sm la l n := by
  refine (h.below hb).moreC (fun _ => .inl) ?_
  rintro k (hk | hk)
  · exact ⟨Nat.lt_of_lt_of_le (h.clt k hk).1 hb.size, (h.clt k hk).2⟩
  · refine ⟨hk.2, fun hF => ?_⟩
    have := h.flt k hF
    have := hk.1
    omega
/-- One Locks, since w0. -/
def One (w0 w : World) (F C : Nat → Prop) (b : Nat) (sm : Bool) (la : Int) (l : List Ent) (n : Nat) : Prop := LkAt w F C b sm la l n ∧ (∀ k, F k → w0.heap.size ≤ k) ∧ Below w0.heap.size w0 w
theorem One.below (h : One w0 w F C b sm la l n) (hb : Below w.heap.size w w') : One w0 w' F C b sm la l n := ⟨h.1.below hb, h.2.1, h.2.2.trans (hb.mono h.2.2.size)⟩
theorem One.mor (h : One w0 w F C b sm la l n) (hb : Below w.heap.size w w') : One w0 w' F (Mor C w w') b sm la l n := ⟨h.1.mor hb, h.2.1, h.2.2.trans (hb.mono h.2.2.size)⟩
theorem One.cF (h : One w0 w F C b sm la l n) : ∀ k, C k → ¬ F k := fun k hk => (h.1.clt k hk).2
theorem One.start {b : Nat} (hb : Below w.heap.size w w') (h : LkAt w' (New w w') (fun _ => False) b false 0 [] 0) : One w w' (New w w') (fun _ => False) b false 0 [] 0 := ⟨h, fun _ hk => hk.1, hb⟩
theorem One.onto (h : One w0 w F C b sm la l n) (ho : Only F w w') {sm' : Bool} {la' : Int} {l' : List Ent} {n' : Nat} (h' : LkAt w' (fun k => F k ∨ New w w' k) C b sm' la' l' n') : One w0 w' (fun k => F k ∨ New w w' k) C b sm' la' l' n' :=
  ⟨h', fun k hk => hk.elim (h.2.1 k) (fun hn => Nat.le_trans h.2.2.size hn.1), ⟨ho.os.trans h.2.2.os, ho.tape.trans h.2.2.tape, ho.output.trans h.2.2.output, Nat.le_trans h.2.2.size ho.size, fun k hk => (ho.block k (Nat.lt_of_lt_of_le hk h.2.2.size) (fun hF => by have := h.2.1 k hF; omega)).trans (h.2.2.block k hk)⟩⟩
theorem One.into (h : One w0 w F C b sm la l n) (ho : Only F w w') {sm' : Bool} {la' : Int} {l' : List Ent} {n' : Nat} (h' : LkAt w' F C b sm' la' l' n') : One w0 w' F C b sm' la' l' n' :=
  ⟨h', h.2.1, ⟨ho.os.trans h.2.2.os, ho.tape.trans h.2.2.tape, ho.output.trans h.2.2.output, Nat.le_trans h.2.2.size ho.size, fun k hk => (ho.block k (Nat.lt_of_lt_of_le hk h.2.2.size) (fun hF => by have := h.2.1 k hF; omega)).trans (h.2.2.block k hk)⟩⟩
/-- Enqueue of a number above all others. -/
theorem EnqP.new {e : Ending} (h : EnqP F C b sm la l n id f w e w') (h0 : One w0 w F C b sm la l n) (hn : sm = true → la < id) : e = .returned (.int .i64 0) ∧ Only F w w' ∧ One w0 w' (fun k => F k ∨ New w w' k) C b true id (l ++ [(id, f)]) (n + l.length + 1) := by
  obtain ⟨ho, ⟨h1, h2, _⟩ | ⟨_, he, hl⟩⟩ := h
  · have := hn h1
    omega
  · exact ⟨he, ho, h0.onto ho hl⟩
/-- Release of one that is ready. -/
theorem RelP.yes {e : Ending} (h : RelP F C b sm la l n id w e w') (h0 : One w0 w F C b sm la l n) (hr : id ∈ ready l) : e = .returned (.int .i64 0) ∧ Only F w w' ∧ One w0 w' F C b sm la (outL l id) (n + l.length) := by
  obtain ⟨ho, ⟨h1, _⟩ | ⟨_, h1, _⟩ | ⟨_, _, he, hl⟩⟩ := h
  · exact absurd (mem_ready.1 hr).1 h1
  · rw [(mem_ready.1 hr).2] at h1; cases h1
  · exact ⟨he, ho, h0.into ho hl⟩
/-- Release of one that is not there. -/
theorem RelP.no {e : Ending} (h : RelP F C b sm la l n id w e w') (h0 : One w0 w F C b sm la l n) (hr : id ∉ nums l) : e = .returned (.int .i64 14) ∧ Only F w w' ∧ One w0 w' F C b sm la l n := by
  obtain ⟨ho, ⟨_, he, hl⟩ | ⟨h1, _⟩ | ⟨h1, _⟩⟩ := h
  · exact ⟨he, ho, h0.into ho hl⟩
  · exact absurd h1 hr
  · exact absurd h1 hr
/-- Release of one that waits. -/
theorem RelP.waits {e : Ending} (h : RelP F C b sm la l n id w e w') (h0 : One w0 w F C b sm la l n) (hm : id ∈ nums l) (hr : rdyB l id = false) : e = .returned (.int .i64 18) ∧ Only F w w' ∧ One w0 w' F C b sm la l n := by
  obtain ⟨ho, ⟨h1, _⟩ | ⟨_, _, he, hl⟩ | ⟨_, h1, _⟩⟩ := h
  · exact absurd hm h1
  · exact ⟨he, ho, h0.into ho hl⟩
  · rw [hr] at h1; cases h1
end

theorem FreshI.rdN {l : List Int} {w w' : World} {v : Value} (h : FreshI l w v w') : Rd w' (fun k => w.heap.size ≤ k) v (l.map (Value.int .i64)) := by
  obtain ⟨A, c, rfl, h, _⟩ := h
  exact Rd.of_own h (fun g hg => (h.lt g hg).1)
/-- Numbers that were told since, kept over a call. -/
theorem One.rd_kept {w1 w w' : World} {F C : Nat → Prop} {b n : Nat} {sm : Bool} {la : Int} {l : List Ent} {v : Value} {xs : List Value} (h : LkAt w1 F C b sm la l n) (hr : Rd w (fun k => w1.heap.size ≤ k) v xs) (ho : Only F w w') : Rd w' (fun k => w1.heap.size ≤ k) v xs :=
  hr.only ho (fun k hk hF => by have := h.flt k hF; omega)

/-! ### lists of numbers -/
theorem ivs_inj {xs ys : List Int} (h : xs.map (Value.int .i64) = ys.map (Value.int .i64)) : xs = ys := by
  induction xs generalizing ys with
  | nil => cases ys with
    | nil => rfl
    | cons y ys => simp at h
  | cons x xs ih => cases ys with
    | nil => simp at h
    | cons y ys =>
      simp at h
      rw [h.1]
      have := ih (by simpa using h.2)
      rw [this]
theorem Rd.ints_at {w : World} {F : Nat → Prop} {A : Option Addr} {m c : Nat} {xs : List Int} (h : Rd w F (.slice A m c) (xs.map (Value.int .i64))) : xs.length = m ∧ ∀ k x, xs[k]? = some x → ∃ b o, A = some ⟨b, o, none⟩ ∧ w.cell? ⟨b, o + k, none⟩ = some (.int .i64 x) := by
  obtain ⟨A', n', c', hv, hl, _, _, hx⟩ := h
  injection hv with h1 h2 h3
  subst h1 h2 h3
  simp at hl
  refine ⟨hl, fun k x hk => ?_⟩
  have hlt := (List.getElem?_eq_some_iff.1 hk).1
  obtain ⟨b, o, rfl, _, hu⟩ := hx (by omega)
  exact ⟨b, o, rfl, hu k _ (by simp [hk])⟩
theorem Rd.ints_slice {w : World} {F : Nat → Prop} {v : Value} {xs : List Int} (h : Rd w F v (xs.map (Value.int .i64))) : ∃ A c, v = .slice A xs.length c ∧ xs.length ≤ maxLen := by
  obtain ⟨A', n', c', hv, hl, h1, h2, _⟩ := h
  simp at hl
  subst hl
  exact ⟨A', c', hv, by omega⟩

set_option maxRecDepth 100000 in
theorem ints_ok (w : World) (F G : Nat → Prop) (u v : Value) (xs ys : List Int) (hu : Rd w F u (xs.map (Value.int .i64))) (hv : Rd w G v (ys.map (Value.int .i64))) (hl : xs.length ≤ 1000000) :
    Calls Try.prog 15 #[u, v] w (BoolP (xs = ys) w) := by
  obtain ⟨A, c, rfl, _⟩ := hu.ints_slice
  obtain ⟨A', c', rfl, _⟩ := hv.ints_slice
  have HU := Lib.hid hu.ints_at.2
  have HV := Lib.hid hv.ints_at.2
  clear hu hv
  by_cases hlen : xs.length = ys.length
  · have HLEN := Lib.hid hlen
    rw [← hlen]
    clear hlen
    go_enter Try.func15, Try.ntmps15
    go_wp2_with fail
    go_loopw [5] (fun i wr => ∃ k : Nat, k ≤ xs.length ∧ i = .int .i64 (k : Int) ∧ xs.take k = ys.take k ∧ Below w.heap.size w wr) (fun i _ => xs.length - (intOf i).toNat)
    case atStart => exact ⟨0, Nat.zero_le _, rfl, rfl, Below.refl _ _⟩
    case round =>
      obtain ⟨k, hk, rfl, hal, hbl⟩ := hrel
      have HAL := Lib.hid hal
      clear hal
      by_cases hlt : k < xs.length
      · obtain ⟨x, hx⟩ : ∃ x, xs[k]? = some x := ⟨_, List.getElem?_eq_getElem hlt⟩
        obtain ⟨y, hy⟩ : ∃ y, ys[k]? = some y := ⟨_, List.getElem?_eq_getElem (by rw [← HLEN.out]; exact hlt)⟩
        obtain ⟨b, o, rfl, cx⟩ := HU.out k x hx
        obtain ⟨b', o', rfl, cy⟩ := HV.out k y hy
        have cx' := (hbl.cell (p := ⟨b, o + k, none⟩) (World.block_lt_of_cell? _ _ cx)).trans cx
        have cy' := (hbl.cell (p := ⟨b', o' + k, none⟩) (World.block_lt_of_cell? _ _ cy)).trans cy
        have HXY := Lib.hid (And.intro hx hy)
        have HBL := Lib.hid hbl
        clear hx hy hbl cx cy
        by_cases hxy : x = y
        · go_upto_region 6 with fail
          go_quiet (fail)
          go_wp2_with fail
          go_roundw
          case rel => exact ⟨k + 1, by omega, by go_num, by rw [List.take_add_one, List.take_add_one, HAL.out, HXY.out.1, HXY.out.2, hxy], below_drewN HBL.out _⟩
          case measure => simp [intOf]; omega
        · go_upto_region 6 with fail
          go_quiet (fail)
          go_wp2_with fail
          go_ret
          exact BoolP.no (fun e => hxy (by rw [e, HXY.out.2] at HXY; injection HXY.out.1 with h; exact h.symm)) (below_drewN HBL.out _)
      · have hkl : k = xs.length := by omega
        subst hkl
        go_wp2_with fail
        go_ret
        exact BoolP.yes (by have := HAL.out; rw [List.take_length, HLEN.out, List.take_length] at this; exact this) hbl
  · have hlen' : ¬ ((xs.length : Int) = (ys.length : Int)) := by omega
    go_enter Try.func15, Try.ntmps15
    go_wp2_with fail
    go_ret
    exact BoolP.no (fun e => hlen (by rw [e])) (Below.refl _ _)

/-! ### the chapter's example -/
def cA : Cl := ⟨true, -1, [97], 0, 0⟩
def cB : Cl := ⟨false, -1, [97], 0, 0⟩
def cC : Cl := ⟨false, -1, [98], 0, 0⟩
theorem okA : Ok cA := Ok.of (.inl ⟨rfl, rfl, rfl, by decide, by decide⟩)
theorem okB : Ok cB := Ok.of (.inl ⟨rfl, rfl, rfl, by decide, by decide⟩)
theorem okC : Ok cC := Ok.of (.inl ⟨rfl, rfl, rfl, by decide, by decide⟩)
theorem fitA : ∀ c ∈ [cA], c.fits := by
  intro c hc
  simp at hc
  subst hc
  exact ⟨by unfold I64 cA; simp, by unfold I64 cA; simp, by unfold I64 cA; simp, by simp [cA, maxLen]⟩
theorem fitB : ∀ c ∈ [cB], c.fits := by
  intro c hc
  simp at hc
  subst hc
  exact ⟨by unfold I64 cB; simp, by unfold I64 cB; simp, by unfold I64 cB; simp, by simp [cB, maxLen]⟩
theorem fitC : ∀ c ∈ [cC], c.fits := by
  intro c hc
  simp at hc
  subst hc
  exact ⟨by unfold I64 cC; simp, by unfold I64 cC; simp, by unfold I64 cC; simp, by simp [cC, maxLen]⟩
theorem cfB_one (c d : Cl) : cfB [c] [d] = decide ((c.wr = true ∨ d.wr = true) ∧ c.col = d.col ∧ c.key = d.key ∧ c.lo ≤ d.hi ∧ d.lo ≤ c.hi) := by
  rw [Bool.eq_iff_iff, cfB_iff, decide_eq_true_iff]
  constructor
  · rintro ⟨x, hx, y, hy, h⟩
    simp at hx hy
    subst hx hy
    exact h
  · intro h
    exact ⟨c, by simp, d, by simp, h⟩
theorem cfAB : cfB [cA] [cB] = true := by rw [cfB_one]; decide
theorem cfAC : cfB [cA] [cC] = false := by rw [cfB_one]; decide
theorem cfBC : cfB [cB] [cC] = false := by rw [cfB_one]; decide
def aw3 : List Ent := [(1, [cA]), (2, [cB]), (3, [cC])]
theorem aw_ready : ready aw3 = [1, 3] := by
  simp [ready, rdyB, opn, waits, wtB, nums, ftOf, aw3, cfAB, cfAC, cfBC]
theorem aw_out : outL aw3 1 = [(2, [cB]), (3, [cC])] := by
  simp [outL, aw3]
theorem aw_ready2 : ready [(2, [cB]), (3, [cC])] = [2, 3] := by
  simp [ready, rdyB, opn, waits, wtB, nums, ftOf, cfBC]
theorem rd_of_block {w : World} {b : Nat} {xs : List Int} {cs : Array Value} {t : TypeId} (h : w.heap[b]? = some (.cells cs t (0, 0))) (he : cs.toList = xs.map (Value.int .i64)) (hl : xs.length ≤ maxLen) : Rd w (fun _ => True) (.slice (some ⟨b, 0, none⟩) xs.length xs.length) (xs.map (Value.int .i64)) := by
  refine ⟨_, _, _, rfl, by simp, Nat.le_refl _, hl, fun _ => ⟨b, 0, rfl, trivial, fun j u hj => ?_⟩⟩
  rw [← he] at hj
  rw [Nat.zero_add]
  simp [World.cell?, h]
  simpa using hj

set_option maxRecDepth 100000 in
set_option maxHeartbeats 1000000 in
theorem awake10_ok (w : World) : Calls Try.prog 5 #[] w fun e w' => e = .returned (.bool true) ∧ Below w.heap.size w w' := by
  go_enter Try.func5, Try.ntmps5
  go_wp2_with fail
  refine (lnew_ok w).mono ?_
  rintro e w1 ⟨b, rfl, hb1, hl1⟩
  have HX := Lib.hid (One.start hb1 hl1)
  clear hb1 hl1
  go_wp2_with fail
  refine (new_ok _ (fun _ => True) _ [cA] (cl_of_block (heap_alloc_new _ _) rfl trivial (by simp [maxLen])) (by simp) fitA).mono ?_
  intro e vA hnp
  obtain ⟨u1, n1, rfl, hnv⟩ := hnp.named
  obtain ⟨rfl, AA, cA', rfl, hO⟩ := hnv.known (fun c hc => by simp at hc; subst hc; exact okA) (isForm_one okA) (by simp)
  have hbu := unbox1 hnv.1
  have hft := FtC.box (C := (fun _ => False)) hbu hO (by simp)
  have hbx : Below w1.heap.size w1 (vA.alloc (.cells #[.slice AA [cA].length cA'] 35)) := hbu.alloc hbu.size _
  clear hO hnv hnp hbu
  go_upto_region 3 with fail
  generalize vA.alloc (.cells #[.slice AA [cA].length cA'] 35) = xA at hft hbx ⊢
  obtain ⟨D1, hD1⟩ : ∃ D, Mor (fun _ => False) w1 xA = D := ⟨_, rfl⟩
  have HX2 := Lib.hid (HX.out.mor hbx)
  rw [hD1] at hft HX2
  clear HX hD1 hbx
  have HX := HX2
  clear HX2
  have FA := Lib.hid hft
  clear hft
  have bA := FA.out.cell
  go_wp2_with fail
  refine (new_ok _ (fun _ => True) _ [cB] (cl_of_block (heap_alloc_new _ _) rfl trivial (by simp [maxLen])) (by simp) fitB).mono ?_
  intro e vB hnp
  obtain ⟨u1, n1, rfl, hnv⟩ := hnp.named
  obtain ⟨rfl, AB, cB', rfl, hO⟩ := hnv.known (fun c hc => by simp at hc; subst hc; exact okB) (isForm_one okB) (by simp)
  have hbu := unbox1 hnv.1
  have hft := FtC.box (C := D1) hbu hO (by simp)
  have hbx : Below xA.heap.size xA (vB.alloc (.cells #[.slice AB [cB].length cB'] 35)) := hbu.alloc hbu.size _
  clear hO hnv hnp hbu
  go_upto_region 4 with fail
  generalize vB.alloc (.cells #[.slice AB [cB].length cB'] 35) = xB at hft hbx ⊢
  obtain ⟨D2, hD2⟩ : ∃ D, Mor D1 xA xB = D := ⟨_, rfl⟩
  have HX2 := Lib.hid (HX.out.mor hbx)
  have GA := Lib.hid (FA.out.mor hbx)
  rw [hD2] at hft HX2 GA
  clear HX hD2 hbx FA bA
  have HX := HX2
  clear HX2
  have FA := GA
  clear GA
  have bA := FA.out.cell
  have FB := Lib.hid hft
  clear hft
  have bB := FB.out.cell
  go_wp2_with fail
  refine (new_ok _ (fun _ => True) _ [cC] (cl_of_block (heap_alloc_new _ _) rfl trivial (by simp [maxLen])) (by simp) fitC).mono ?_
  intro e vC hnp
  obtain ⟨u1, n1, rfl, hnv⟩ := hnp.named
  obtain ⟨rfl, AC, cC', rfl, hO⟩ := hnv.known (fun c hc => by simp at hc; subst hc; exact okC) (isForm_one okC) (by simp)
  have hbu := unbox1 hnv.1
  have hft := FtC.box (C := D2) hbu hO (by simp)
  have hbx : Below xB.heap.size xB (vC.alloc (.cells #[.slice AC [cC].length cC'] 35)) := hbu.alloc hbu.size _
  clear hO hnv hnp hbu
  go_upto_region 5 with fail
  generalize vC.alloc (.cells #[.slice AC [cC].length cC'] 35) = xC at hft hbx ⊢
  obtain ⟨D3, hD3⟩ : ∃ D, Mor D2 xB xC = D := ⟨_, rfl⟩
  have HX2 := Lib.hid (HX.out.mor hbx)
  have GA := Lib.hid (FA.out.mor hbx)
  have GB := Lib.hid (FB.out.mor hbx)
  rw [hD3] at hft HX2 GA GB
  clear HX hD3 hbx FA bA FB bB
  have HX := HX2
  clear HX2
  have FA := GA
  clear GA
  have bA := FA.out.cell
  have FB := GB
  clear GB
  have bB := FB.out.cell
  have FC := Lib.hid hft
  clear hft
  have bC := FC.out.cell
  go_wp2_with fail
  refine (enq_ok xC _ D3 b _ false _ _ 1 (.slice AA [cA].length cA') [cA] HX.out.1 (by simp) (by simp) (by unfold I64; omega) FA.out.2.2 (by simp)).mono ?_
  intro e yA hq
  obtain ⟨rfl, hoF, hone⟩ := hq.new HX.out (by intro h; cases h)
  have GA := Lib.hid (FA.out.only hoF HX.out.cF)
  have GB := Lib.hid (FB.out.only hoF HX.out.cF)
  have GC := Lib.hid (FC.out.only hoF HX.out.cF)
  clear HX hq hoF FA bA FB bB FC bC
  have FA := GA
  clear GA
  have bA := FA.out.cell
  have FB := GB
  clear GB
  have bB := FB.out.cell
  have FC := GC
  clear GC
  have bC := FC.out.cell
  have HX := Lib.hid hone
  clear hone
  go_wp2_with fail
  refine (enq_ok yA _ D3 b _ true _ _ 2 (.slice AB [cB].length cB') [cB] HX.out.1 (by simp) (by simp) (by unfold I64; omega) FB.out.2.2 (by simp)).mono ?_
  intro e yB hq
  obtain ⟨rfl, hoF, hone⟩ := hq.new HX.out (by omega)
  have GA := Lib.hid (FA.out.only hoF HX.out.cF)
  have GB := Lib.hid (FB.out.only hoF HX.out.cF)
  have GC := Lib.hid (FC.out.only hoF HX.out.cF)
  clear HX hq hoF FA bA FB bB FC bC
  have FA := GA
  clear GA
  have bA := FA.out.cell
  have FB := GB
  clear GB
  have bB := FB.out.cell
  have FC := GC
  clear GC
  have bC := FC.out.cell
  have HX := Lib.hid hone
  clear hone
  go_wp2_with fail
  refine (enq_ok yB _ D3 b _ true _ _ 3 (.slice AC [cC].length cC') [cC] HX.out.1 (by simp) (by simp) (by unfold I64; omega) FC.out.2.2 (by simp)).mono ?_
  intro e yC hq
  obtain ⟨rfl, hoF, hone⟩ := hq.new HX.out (by omega)
  have GA := Lib.hid (FA.out.only hoF HX.out.cF)
  have GB := Lib.hid (FB.out.only hoF HX.out.cF)
  have GC := Lib.hid (FC.out.only hoF HX.out.cF)
  clear HX hq hoF FA bA FB bB FC bC
  have FA := GA
  clear GA
  have bA := FA.out.cell
  have FB := GB
  clear GB
  have bB := FB.out.cell
  have FC := GC
  clear GC
  have bC := FC.out.cell
  have HX := Lib.hid hone
  clear hone
  clear bA bB bC FA FB FC
  have hX : One w yC _ D3 b true 3 aw3 _ := HX.out
  clear HX
  have HX := Lib.hid hX
  clear hX
  go_wp2_with fail
  refine (lkReady_ok yC _ D3 b _ true 3 aw3 HX.out.1 (by simp [aw3])).mono ?_
  rintro e z1 ⟨v1, rfl, hf1⟩
  rw [aw_ready] at hf1
  have hx1 := HX.out.below hf1.below
  obtain ⟨A1, c1, rfl, _⟩ := hf1.rd.ints_slice
  have H1 := Lib.hid (And.intro hx1 (And.intro hf1.rdN HX.out.1))
  clear hx1 hf1 HX
  go_wp2_with fail
  refine (rel_ok z1 _ D3 b _ true 3 aw3 1 H1.out.1.1 (by simp [aw3]) (by simp) (by unfold I64; omega)).mono ?_
  intro e z2 hq
  obtain ⟨rfl, hoF, hone⟩ := hq.yes H1.out.1 (by rw [aw_ready]; simp)
  rw [aw_out] at hone
  have hr1 := One.rd_kept H1.out.2.2 H1.out.2.1 hoF
  have HX := Lib.hid (And.intro hone hr1)
  clear hone hr1 hoF hq H1
  go_wp2_with fail
  have hd1 := box1 z2 (.cells #[.int .i64 1, .int .i64 3] 3)
  have hd2 := rd_of_block (xs := [1, 3]) (heap_alloc_new z2 (.cells #[.int .i64 1, .int .i64 3] 3)) rfl (by simp [maxLen])
  refine (ints_ok _ _ _ _ _ [1, 3] [1, 3] (HX.out.2.below hd1) hd2 (by simp)).mono ?_
  rintro e z3 ⟨r, hr, rfl, hb3⟩
  obtain rfl : r = true := hr.2 rfl
  have hx3 := (HX.out.1.below hd1).below hb3
  have H3 := Lib.hid hx3
  clear hx3 hb3 hr hd1 hd2 HX
  go_wp2_with fail
  refine (lkReady_ok z3 _ D3 b _ true 3 _ H3.out.1 (by simp)).mono ?_
  rintro e z4 ⟨v4, rfl, hf4⟩
  rw [aw_ready2] at hf4
  have hx4 := H3.out.below hf4.below
  obtain ⟨A4, c4, rfl, _⟩ := hf4.rd.ints_slice
  have H4 := Lib.hid (And.intro hx4 hf4.rd)
  clear hx4 hf4 H3
  go_wp2_with fail
  have hd1 := box1 z4 (.cells #[.int .i64 2, .int .i64 3] 3)
  have hd2 := rd_of_block (xs := [2, 3]) (heap_alloc_new z4 (.cells #[.int .i64 2, .int .i64 3] 3)) rfl (by simp [maxLen])
  refine (ints_ok _ _ _ _ _ [2, 3] [2, 3] (H4.out.2.below hd1) hd2 (by simp)).mono ?_
  rintro e z5 ⟨r, hr, rfl, hb5⟩
  obtain rfl : r = true := hr.2 rfl
  have H5 := Lib.hid ((H4.out.1.below hd1).below hb5).2.2
  clear hr hb5 hd1 hd2 H4
  go_wp2_with fail
  go_ret
  exact ⟨rfl, H5.out⟩

end Go.Proofs.Ytihjcfifakcpgaa
