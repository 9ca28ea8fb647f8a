/- The reader: Uint, Text, Left, and going back. -/
import Derived.Test.YtphponbgbpccaaaRead
import Derived.Lib.BufferRead
namespace Go.Proofs.Ytphponbgbpccaaa
open Go.RowKit

def UnsP (F : Nat → Prop) (b : Nat) (all : List UInt8) (pos : Nat) (w : World) (e : Ending) (w' : World) : Prop :=
  Only (fun k => k = b) w w' ∧ match rdU (all.drop pos) with
    | some (n, rest) => e = .returned (.tuple #[.int .i64 n, .int .i64 0]) ∧ ∃ p', rest = all.drop p' ∧ pos ≤ p' ∧ RdrAt w' F b all p'
    | none => (∃ ec : Int, (ec = 10 ∨ ec = 11) ∧ e = .returned (.tuple #[.int .i64 0, .int .i64 ec])) ∧ ∃ p', RdrAt w' F b all p'

theorem unsigned_ok (w : World) (F : Nat → Prop) (b : Nat) (all : List UInt8) (pos : Nat) (h : RdrAt w F b all pos) :
    Calls Try.prog 28 #[.pointer (some ⟨b, 0, none⟩)] w (UnsP F b all pos w) := by
  have H := Lib.hid h
  clear h
  go_enter Try.func28, Try.ntmps28
  go_wp2_with fail
  refine (rgroups_ok w F b all pos H.out).mono ?_
  rintro e w1 ⟨ho, hm⟩
  cases hg : rdG 0 0 (all.drop pos) with
  | none =>
    rw [hg] at hm
    obtain ⟨rfl, p', hr⟩ := hm
    have hu : rdU (all.drop pos) = none := by simp [rdU, hg]
    have HU := Lib.hid hu
    clear hu hg
    go_wp2_with fail
    go_ret2
    refine ⟨ho, ?_⟩
    rw [HU.out]
    exact ⟨⟨11, .inr rfl, rfl⟩, p', hr⟩
  | some x =>
    obtain ⟨n, rest⟩ := x
    rw [hg] at hm
    obtain ⟨rfl, p', hrest, hpp, hr⟩ := hm
    by_cases hn : n ≤ 9223372036854775807
    · have hu : rdU (all.drop pos) = some (n, rest) := by simp [rdU, hg, hn]
      have HU := Lib.hid (And.intro hu hrest)
      clear hu hg hrest
      go_wp2_with fail
      go_ret2
      refine ⟨ho, ?_⟩
      rw [HU.out.1]
      exact ⟨rfl, p', HU.out.2, hpp, hr⟩
    · have hu : rdU (all.drop pos) = none := by simp [rdU, hg, hn]
      have HU := Lib.hid hu
      clear hu hg hrest
      go_wp2_with fail
      go_ret2
      refine ⟨ho, ?_⟩
      rw [HU.out]
      exact ⟨⟨10, .inl rfl, rfl⟩, p', hr⟩

theorem back_ok (w : World) (F : Nat → Prop) (b : Nat) (all : List UInt8) (pos p0 : Nat) (h : RdrAt w F b all pos) (hp : p0 ≤ all.length) :
    Calls Try.prog 32 #[.agg #[.pointer (some ⟨b, 0, none⟩), .int .i64 p0]] w fun e w' => e = .returned (.tuple #[]) ∧ Only (fun k => k = b) w w' ∧ RdrAt w' F b all p0 := by
  have H := Lib.hid h
  obtain ⟨A, c, hc0, hc1, hf1, hb, hpl, hcl, hcm, _⟩ := h.at_
  have hw1 := cell_alloc_any hc1 (.cells #[.pointer (some ⟨b, 0, none⟩), .int .i64 p0] 70)
  have hz1 : (w.alloc (.cells #[.pointer (some ⟨b, 0, none⟩), .int .i64 p0] 70)).frozen? ⟨b, 1, none⟩ = false := (World.frozen?_of_block (Below.heap_alloc w _ b hb)).trans hf1
  clear h hc0 hc1 hf1
  go_enter Try.func32, Try.ntmps32
  go_wp2_with fail
  go_end0
  refine ⟨rfl, ?_, ?_⟩
  · exact (Only.setCell (Only.refl (fun k => k = b) w) (p := ⟨b, 1, none⟩) (fun _ => rfl) _).alloc _
  · exact (H.out.set p0 hp).below ((Below.refl _ _).alloc (Nat.le_refl _) _)

def UintP (F : Nat → Prop) (b : Nat) (all : List UInt8) (pos : Nat) (w : World) (e : Ending) (w' : World) : Prop :=
  Only (fun k => k = b) w w' ∧ match rdU (all.drop pos) with
    | some (n, rest) => e = .returned (.tuple #[.int .i64 n, .int .i64 0]) ∧ ∃ p', rest = all.drop p' ∧ pos ≤ p' ∧ RdrAt w' F b all p'
    | none => (∃ ec : Int, (ec = 10 ∨ ec = 11) ∧ e = .returned (.tuple #[.int .i64 0, .int .i64 ec])) ∧ RdrAt w' F b all pos

theorem ruint_ok (w : World) (F : Nat → Prop) (b : Nat) (all : List UInt8) (pos : Nat) (h : RdrAt w F b all pos) :
    Calls Try.prog 27 #[.pointer (some ⟨b, 0, none⟩), .func (.func 28) #[.pointer (some ⟨b, 0, none⟩)] #[]] w (UintP F b all pos w) := by
  have H := Lib.hid h
  obtain ⟨A, c, hc0, hc1, hf1, hb, hpl, hcl, hcm, _⟩ := h.at_
  clear h hc0 hf1
  go_enter Try.func27, Try.ntmps27
  go_wp2_with fail
  refine (unsigned_ok w F b all pos H.out).mono ?_
  rintro e w1 ⟨ho, hm⟩
  cases hg : rdU (all.drop pos) with
  | none =>
    rw [hg] at hm
    obtain ⟨⟨ec, hec, rfl⟩, p', hr⟩ := hm
    have HG := Lib.hid (And.intro hg ho)
    have hne : (ec != 0) = true := by rcases hec with rfl | rfl <;> rfl
    clear hg ho
    go_wp2_with fail
    refine (back_ok w1 F b all p' pos hr hpl).mono ?_
    rintro e w2 ⟨rfl, ho2, hr2⟩
    have HR := Lib.hid (And.intro ho2 hr2)
    clear ho2 hr2
    go_wp2_with fail
    go_ret2
    refine ⟨HG.out.2.trans HR.out.1 (fun _ _ h => h), ?_⟩
    rw [HG.out.1]
    exact ⟨⟨ec, hec, rfl⟩, HR.out.2⟩
  | some x =>
    obtain ⟨n, rest⟩ := x
    rw [hg] at hm
    obtain ⟨rfl, p', hrest, hpp, hr⟩ := hm
    have HG := Lib.hid (And.intro hg (And.intro ho hrest))
    clear hg ho hrest
    go_wp2_with fail
    go_ret2
    refine ⟨HG.out.2.1, ?_⟩
    rw [HG.out.1]
    exact ⟨rfl, p', HG.out.2.2, hpp, hr⟩

theorem Uint_ok (w : World) (F : Nat → Prop) (b : Nat) (all : List UInt8) (pos : Nat) (h : RdrAt w F b all pos) :
    Calls Try.prog 19 #[.pointer (some ⟨b, 0, none⟩)] w (UintP F b all pos w) := by
  have H := Lib.hid h
  clear h
  go_enter Try.func19, Try.ntmps19
  go_wp2_with fail
  refine (ruint_ok w F b all pos H.out).mono ?_
  rintro e w1 hP
  have HP := Lib.hid hP
  obtain ⟨ho, hm⟩ := hP
  cases hg : rdU (all.drop pos) with
  | none =>
    rw [hg] at hm
    obtain ⟨⟨ec, hec, rfl⟩, hr⟩ := hm
    clear hg
    go_wp2_with fail
    go_ret2
    exact HP.out
  | some x =>
    obtain ⟨n, rest⟩ := x
    rw [hg] at hm
    obtain ⟨rfl, _⟩ := hm
    clear hg
    go_wp2_with fail
    go_ret2
    exact HP.out

theorem left_ok (w : World) (F : Nat → Prop) (b : Nat) (all : List UInt8) (pos : Nat) (h : RdrAt w F b all pos) :
    Calls Try.prog 21 #[.pointer (some ⟨b, 0, none⟩)] w fun e w' => e = .returned (.int .i64 ((all.length - pos : Nat) : Int)) ∧ Only (fun _ => False) w w' := by
  obtain ⟨A, c, hc0, hc1, hf1, hb, hpl, hcl, hcm, _⟩ := h.at_
  unfold maxLen at hcm
  clear h
  go_enter Try.func21, Try.ntmps21
  go_wp2_with fail
  go_quiet (fail)
  go_wp2_with fail
  go_ret
  exact ⟨by simp; omega, (Only.refl _ _).drewN _⟩

/-- A piece of a slice that reads. -/
theorem rd_cut {w : World} {F : Nat → Prop} {A : Option Addr} {n c : Nat} {xs : List Value} (h : Rd w F (.slice A n c) xs) (l m : Nat) (hm : l + m ≤ n) :
    Rd w F (.slice (if c = l then A else A.map (·.add (l * 1))) m (c - l)) ((xs.drop l).take m) := by
  obtain ⟨A', n', c', he, hl, hc, hcm, hx⟩ := h
  injection he with e1 e2 e3
  subst e1 e2 e3
  refine ⟨_, m, c - l, rfl, by simp; omega, by omega, by omega, fun h0 => ?_⟩
  obtain ⟨b, o, e, hF, hu⟩ := hx (by omega)
  subst e
  rw [if_neg (by omega)]
  refine ⟨b, o + l, ?_, hF, fun j u hj => ?_⟩
  · simp [Addr.add]
  · rw [List.getElem?_take] at hj
    split at hj
    · rw [List.getElem?_drop] at hj
      have := hu (l + j) u hj
      rw [Nat.add_assoc]
      exact this
    · cases hj

theorem conv_rd {P : Program} {w : World} {F : Nat → Prop} {A : Option Addr} {n c : Nat} {xs : List UInt8} (src dst e : TypeId) (hs : P.underlying src = some (.slice e)) (he : P.underlying e = some (.int .u8)) (hd : P.underlying dst = some .string)
    (h : Rd w F (.slice A n c) (xs.map B8)) : (convert src dst (.slice A n c)).run P w = .ok (.string ⟨xs.toArray⟩) w := by
  have hcells := h.cells rfl
  obtain ⟨A', n', c', hv, hl, hc, hm, hx⟩ := h
  injection hv with e1 e2 e3
  subst e1 e2 e3
  simp only [List.length_map] at hl
  subst hl
  rcases A with _ | a
  · have : xs = [] := by
      rcases Nat.eq_zero_or_pos xs.length with h0 | h0
      · exact List.eq_nil_of_length_eq_zero h0
      · obtain ⟨_, _, h, _⟩ := hx h0; cases h
    subst this
    exact Lib.run_convert_nil_bytes w src dst e c hs he hd
  · exact run_convert_bytes_back w src dst e a c xs hs he hd (fun j hj => hcells a rfl j _ (by simp [hj, B8]))

theorem slice_lh {P : Program} (t e : TypeId) (ht : P.underlying t = some (.slice e)) (hsz : ∀ w, (sizeOf e).run P w = .ok 1 w) (A : Option Addr) (len c l h : Nat) (h1 : l ≤ h) (h2 : h ≤ c) (w : World) :
    (Instr.slice t (.slice A len c) (some (.int .i64 (l : Int))) (some (.int .i64 (h : Int))) none).run P w = .ok (.slice (if c = l then A else A.map (·.add (l * 1))) (h - l) (c - l)) w := by
  simp [Instr.slice, run_underlying ht, Instr.sliceBounds, run_sliceBound, h1, h2, hsz]

theorem RdrAt.rd {w : World} {F : Nat → Prop} {b : Nat} {all : List UInt8} {pos : Nat} (h : RdrAt w F b all pos) : ∃ A c, w.cell? ⟨b, 0, none⟩ = some (.slice A all.length c) ∧ Rd w (fun _ => True) (.slice A all.length c) (all.map B8) := by
  obtain ⟨v, h1, h2, h3, h4, h5⟩ := h
  obtain ⟨A, c, rfl⟩ := ownsRow_slice h4
  exact ⟨A, c, by simp [World.cell?, h1], Rd.of_own h4 (fun _ _ => trivial)⟩

def TextP (most : Nat) (F : Nat → Prop) (b : Nat) (all : List UInt8) (pos : Nat) (stay : Bool) (w : World) (e : Ending) (w' : World) : Prop :=
  Only (fun k => k = b) w w' ∧ match rdT most (all.drop pos) with
    | some (t, rest) => e = .returned (.tuple #[.string ⟨t.toArray⟩, .int .i64 0]) ∧ ∃ p', rest = all.drop p' ∧ pos ≤ p' ∧ RdrAt w' F b all p'
    | none => (∃ ec : Int, (ec = 10 ∨ ec = 11 ∨ ec = 23) ∧ e = .returned (.tuple #[.string ⟨#[]⟩, .int .i64 ec])) ∧ ∃ p', (stay = true → p' = pos) ∧ RdrAt w' F b all p'

set_option maxRecDepth 100000 in
set_option maxHeartbeats 1000000 in
theorem tread_ok (w : World) (F : Nat → Prop) (b : Nat) (all : List UInt8) (pos most : Nat) (h : RdrAt w F b all pos) (hmost : most ≤ 65536) :
    Calls Try.prog 30 #[.agg #[.pointer (some ⟨b, 0, none⟩), .int .i64 most]] w (TextP most F b all pos false w) := by
  have hblk0 := heap_alloc_new w (.cells #[.pointer (some ⟨b, 0, none⟩), .int .i64 most] 65)
  have hO0 : Only (fun k => k = b) w (w.alloc (.cells #[.pointer (some ⟨b, 0, none⟩), .int .i64 most] 65)) := (Only.refl _ _).alloc _
  have h0 := h.below ((Below.refl w.heap.size w).alloc (Nat.le_refl _) (.cells #[.pointer (some ⟨b, 0, none⟩), .int .i64 most] 65))
  obtain ⟨_, _, _, _, _, hb, _⟩ := h.at_
  have H0 := Lib.hid (And.intro hblk0 (And.intro hO0 h0))
  clear hblk0 hO0 h0 h
  go_enter Try.func30, Try.ntmps30
  go_wp2_with fail
  generalize w.alloc (.cells #[.pointer (some ⟨b, 0, none⟩), .int .i64 most] 65) = w0 at *
  refine (unsigned_ok w0 F b all pos H0.out.2.2).mono ?_
  rintro e w1 ⟨ho1, hm⟩
  have hne : w.heap.size ≠ b := by omega
  have hb1 : w1.heap[w.heap.size]? = some (.cells #[.pointer (some ⟨b, 0, none⟩), .int .i64 most] 65 (0, 0)) := ho1.heap H0.out.1 hne
  have hO1 : Only (fun k => k = b) w w1 := H0.out.2.1.trans ho1 (fun _ _ h => h)
  have t0 : w1.cell? ⟨w.heap.size, 0, none⟩ = some (.pointer (some ⟨b, 0, none⟩)) := by simp [World.cell?, hb1]
  have t1 : w1.cell? ⟨w.heap.size, 1, none⟩ = some (.int .i64 most) := by simp [World.cell?, hb1]
  have H1 := Lib.hid (And.intro hb1 hO1)
  clear ho1 hb1 hO1 H0
  cases hg : rdU (all.drop pos) with
  | none =>
    rw [hg] at hm
    obtain ⟨⟨ec, hec, rfl⟩, p', hr⟩ := hm
    have hT : rdT most (all.drop pos) = none := by simp [rdT, hg]
    have HG := Lib.hid hT
    have hne0 : (ec != 0) = true := by rcases hec with rfl | rfl <;> rfl
    clear hg hT
    go_wp2_with fail
    go_ret2
    refine ⟨H1.out.2, ?_⟩
    rw [HG.out]
    exact ⟨⟨ec, hec.imp_right .inl, rfl⟩, p', (fun h => by cases h), hr⟩
  | some x =>
    obtain ⟨n, rest⟩ := x
    rw [hg] at hm
    obtain ⟨rfl, p', hrest, hpp, hr⟩ := hm
    have hn63 := (rdU_inv hg).2
    have HG := Lib.hid (And.intro hg hrest)
    clear hg
    by_cases hmo : n ≤ most
    · obtain ⟨A, c, hc0, hc1, hf1, hb1, hpl, hcl, hcm, _⟩ := hr.at_
      have hrl : rest.length = all.length - p' := by rw [hrest]; simp
      unfold maxLen at hcm
      clear hrest
      go_wp2_with fail
      refine (left_ok w1 F b all p' hr).mono ?_
      rintro e w2 ⟨rfl, ho2⟩
      have hl0 : ((all.length - p' : Nat) : Int) = (all.length : Int) - (p' : Int) := by omega
      rw [hl0]
      have u0 := ho2.cell t0 id
      have u1 := ho2.cell t1 id
      have v0 := ho2.cell hc0 id
      have v1 := ho2.cell hc1 id
      have hr2 := hr.only ho2 (fun _ _ => id)
      have vz : w2.frozen? ⟨b, 1, none⟩ = false := by
        obtain ⟨_, _, _, _, hz, _⟩ := hr2.at_
        exact hz
      have hO2 : Only (fun k => k = b) w w2 := H1.out.2.trans ho2 (fun _ _ h => h.elim)
      have H2 := Lib.hid (And.intro hr2 hO2)
      clear hl0 ho2 hr2 hO2 t0 t1 hc0 hc1 hf1
      by_cases hle : n ≤ all.length - p'
      · have hrd2 := H2.out.1.rd
        obtain ⟨A0, c0, hcc, hrd0⟩ := hrd2
        rw [v0] at hcc
        injection hcc with hcc
        injection hcc with e1 _ e3
        subst e1 e3
        have hcut := rd_cut hrd0 p' n (by omega)
        have hsl := slice_lh (P := Try.prog) 29 5 Try.underlying29 (fun _ => by kernel_rfl) A all.length c p' (p' + n) (by omega) (by omega)
        rw [show p' + n - p' = n by omega] at hsl
        have emap : (all.map B8).drop p' = ((all.drop p').map B8) := by simp
        rw [emap, ← List.map_take] at hcut
        generalize (if c = p' then A else A.map (·.add (p' * 1))) = A2 at *
        generalize c - p' = c2 at *
        have hcv : ∀ k, (convert 29 9 (.slice A2 n c2)).run Try.prog (w2.drewN k) = .ok (.string ⟨((all.drop p').take n).toArray⟩) (w2.drewN k) := fun k =>
          conv_rd 29 9 5 Try.underlying29 Try.underlying5 Try.underlying9 (hcut.drewN k)
        have hT : rdT most (all.drop pos) = some ((all.drop p').take n, all.drop (p' + n)) := by
          simp only [rdT, HG.out.1]
          rw [if_pos (by omega), HG.out.2]
          simp
        have HT := Lib.hid hT
        generalize (all.drop p').take n = t at *
        have ecast : ((p' + n : Nat) : Int) = (p' : Int) + (n : Int) := by omega
        rw [ecast] at hsl
        clear hT hcut hrd0 emap
        go_wp2_with fail
        go_quiet (fail)
        obtain ⟨w3, hw3⟩ : ∃ w3, w2.drewN nq = w3 := ⟨_, rfl⟩
        rw [hw3]
        have hq3 := drewN_only hw3
        have x0 := hq3.cell u0 id
        have x1 := hq3.cell v1 id
        have xz : w3.frozen? ⟨b, 1, none⟩ = false := by rw [← hw3]; exact vz
        have hr3 := (H2.out.1.only hq3 (fun _ _ => id)).set (p' + n) (by omega)
        have hO3 : Only (fun k => k = b) w (w3.setCell ⟨b, 1, none⟩ (.int .i64 ((p' + n : Nat) : Int))) := Only.setCell (H2.out.2.trans hq3 (fun _ _ h => h.elim)) (p := ⟨b, 1, none⟩) (fun _ => rfl) _
        rw [ecast] at hr3 hO3
        have H3 := Lib.hid (And.intro hr3 hO3)
        clear hr3 hO3 hw3 hcv hsl u0 u1 v0 v1 vz hq3
        go_wp2_with fail
        go_ret2
        refine ⟨H3.out.2, ?_⟩
        rw [HT.out]
        exact ⟨rfl, p' + n, rfl, by omega, H3.out.1⟩
      · have hT : rdT most (all.drop pos) = none := by
          simp only [rdT, HG.out.1]
          rw [if_neg (by omega)]
        have HT := Lib.hid hT
        clear hT
        go_wp2_with fail
        go_ret2
        refine ⟨H2.out.2, ?_⟩
        rw [HT.out]
        exact ⟨⟨11, .inr (.inl rfl), rfl⟩, p', (fun h => by cases h), H2.out.1⟩
    · have hT : rdT most (all.drop pos) = none := by
        simp only [rdT, HG.out.1]
        rw [if_neg (by omega)]
      have HT := Lib.hid hT
      clear hT hrest
      go_wp2_with fail
      go_ret2
      refine ⟨H1.out.2, ?_⟩
      rw [HT.out]
      exact ⟨⟨23, .inr (.inr rfl), rfl⟩, p', (fun h => by cases h), hr⟩

theorem rtext_ok (w : World) (F : Nat → Prop) (b : Nat) (all : List UInt8) (pos most : Nat) (h : RdrAt w F b all pos) (hmost : most ≤ 65536) :
    Calls Try.prog 29 #[.pointer (some ⟨b, 0, none⟩), .func (.func 30) #[.agg #[.pointer (some ⟨b, 0, none⟩), .int .i64 most]] #[]] w (TextP most F b all pos true w) := by
  have H := Lib.hid h
  obtain ⟨A, c, hc0, hc1, hf1, hb, hpl, hcl, hcm, _⟩ := h.at_
  clear h hc0 hf1
  go_enter Try.func29, Try.ntmps29
  go_wp2_with fail
  refine (tread_ok w F b all pos most H.out hmost).mono ?_
  rintro e w1 ⟨ho, hm⟩
  cases hg : rdT most (all.drop pos) with
  | none =>
    rw [hg] at hm
    obtain ⟨⟨ec, hec, rfl⟩, p', _, hr⟩ := hm
    have HG := Lib.hid (And.intro hg ho)
    have hne : (ec != 0) = true := by rcases hec with rfl | rfl | rfl <;> rfl
    clear hg ho
    go_wp2_with fail
    refine (back_ok w1 F b all p' pos hr hpl).mono ?_
    rintro e w2 ⟨rfl, ho2, hr2⟩
    have HR := Lib.hid (And.intro ho2 hr2)
    clear ho2 hr2
    go_wp2_with fail
    go_ret2
    refine ⟨HG.out.2.trans HR.out.1 (fun _ _ h => h), ?_⟩
    rw [HG.out.1]
    exact ⟨⟨ec, hec, rfl⟩, pos, fun _ => rfl, HR.out.2⟩
  | some x =>
    obtain ⟨n, rest⟩ := x
    rw [hg] at hm
    obtain ⟨rfl, p', hrest, hpp, hr⟩ := hm
    have HG := Lib.hid (And.intro hg (And.intro ho hrest))
    clear hg ho hrest
    go_wp2_with fail
    go_ret2
    refine ⟨HG.out.2.1, ?_⟩
    rw [HG.out.1]
    exact ⟨rfl, p', HG.out.2.2, hpp, hr⟩

theorem Text_ok (w : World) (F : Nat → Prop) (b : Nat) (all : List UInt8) (pos most : Nat) (h : RdrAt w F b all pos) (hmost : most ≤ 65536) :
    Calls Try.prog 20 #[.pointer (some ⟨b, 0, none⟩), .int .i64 most] w (TextP most F b all pos true w) := by
  have H := Lib.hid h
  clear h
  go_enter Try.func20, Try.ntmps20
  go_wp2_with fail
  refine (rtext_ok w F b all pos most H.out hmost).mono ?_
  rintro e w1 hP
  have HP := Lib.hid hP
  obtain ⟨ho, hm⟩ := hP
  cases hg : rdT most (all.drop pos) with
  | none =>
    rw [hg] at hm
    obtain ⟨⟨ec, hec, rfl⟩, hr⟩ := hm
    clear hg
    go_wp2_with fail
    go_ret2
    exact HP.out
  | some x =>
    obtain ⟨n, rest⟩ := x
    rw [hg] at hm
    obtain ⟨rfl, _⟩ := hm
    clear hg
    go_wp2_with fail
    go_ret2
    exact HP.out

theorem read_ok (w : World) (F : Nat → Prop) (v : Value) (all : List UInt8) (hr : Rd w F v (all.map B8)) (hl : all.length ≤ 140737488355328) :
    Calls Try.prog 18 #[v] w fun e w' => ∃ b, e = .returned (.pointer (some ⟨b, 0, none⟩)) ∧ Below w.heap.size w w' ∧ RdrAt w' (fun k => w.heap.size ≤ k) b all 0 := by
  obtain ⟨A, n, c, rfl, _⟩ := id hr
  have HR := Lib.hid hr
  clear hr
  go_enter Try.func18, Try.ntmps18
  go_wp2_with fail
  refine (clone_bytes _ _ F _ HR.out (B8_one all) (by simpa using hl)).mono ?_
  rintro e w1 ⟨Ax, cx, rfl, hx, hbl⟩
  rw [List.length_map] at hx ⊢
  have HX := Lib.hid (And.intro hx hbl)
  clear hx hbl
  go_wp2_with fail
  go_ret
  have hsz := HX.out.2.size
  refine ⟨w1.heap.size, rfl, HX.out.2.alloc hsz _, .slice Ax all.length cx, heap_alloc_new _ _, hsz, Nat.zero_le _, own_base (HX.out.1.alloc _) (fun _ _ => Nat.zero_le _), fun g hg => ⟨(HX.out.1.lt g hg).1, ?_⟩⟩
  have := (HX.out.1.lt g hg).2
  omega

end Go.Proofs.Ytphponbgbpccaaa
