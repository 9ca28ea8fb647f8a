import Derived.Test.YtagemonojdgbdaaGreatDoorQ22
import Derived.Laws.StructEq
import Derived.ScopeJumps
namespace Go.Proofs.YtagemonojdgbdaaGreatDoor
set_option maxRecDepth 100000
open Go.RowKit
theorem QM (w : World) (d : Nat) (x0 x1 x2 x3 y0 y1 y2 y3 : Int) : (Op.equalIn (d + 1 + 1) 26 (.agg #[.int .i64 x0, .int .i64 x1, .int .i64 x2, .int .i64 x3]) (.agg #[.int .i64 y0, .int .i64 y1, .int .i64 y2, .int .i64 y3])).run Tryz.prog w = .ok (decide (x0 = y0 /\ x1 = y1 /\ x2 = y2 /\ x3 = y3)) w := by
 rw [Op.equalIn]
 simp only [Sem.run_bind, run_underlying Tryz.underlying26, Result.andThen_ok]
 have hs : (sizeOf 3).run Tryz.prog w = .ok 1 w := by kernel_rfl
 rw [hs]
 simp only [Result.andThen_ok]
 rw [Std.Legacy.Range.forIn_eq_forIn_range']
 simp only [Std.Legacy.Range.size, Nat.sub_zero, Nat.add_one_sub_one, Nat.div_one, show List.range' 0 4 = [0, 1, 2, 3] from by decide]
 simp [go_sem, Tryz.underlying3]
 by_cases h0 : x0 = y0 <;> by_cases h1 : x1 = y1 <;> by_cases h2 : x2 = y2 <;> by_cases h3 : x3 = y3 <;> simp [h0, h1, h2, h3]
theorem Vx (w : World) (x0 x1 x2 x3 y0 y1 y2 y3 : Int) : (Op.equalIn 10000 26 (.agg #[.int .i64 x0, .int .i64 x1, .int .i64 x2, .int .i64 x3]) (.agg #[.int .i64 y0, .int .i64 y1, .int .i64 y2, .int .i64 y3])).run Tryz.prog w = .ok (decide (x0 = y0 /\ x1 = y1 /\ x2 = y2 /\ x3 = y3)) w := QM w 9998 x0 x1 x2 x3 y0 y1 y2 y3
theorem Tryz.KE : Tryz.prog.eqGuardType Tryz.prog.depth 26 = false := by kernel_rfl
theorem x9 (x y : Cl) (w : World) : (Op.equalIn 10000 48 (.agg #[.bool x.wr, .int .i64 x.aG, .string ⟨x.key.toArray⟩, .int .i64 x.lo, .int .i64 x.hi]) (.agg #[.bool y.wr, .int .i64 y.aG, .string ⟨y.key.toArray⟩, .int .i64 y.lo, .int .i64 y.hi])).run Tryz.prog w = .ok (decide (x = y)) w := by
 have hs : Tryz.prog.stoodInHeld 48 = false := by kernel_rfl
 have hf : Tryz.prog.underlying 48 = some (.struct (Tryz.prog.fieldsOf 48)) := by unfold Program.fieldsOf; rw [Tryz.underlying48]
 obtain ⟨a1, a2, a3, a4, a5⟩ := x
 obtain ⟨b1, b2, b3, b4, b5⟩ := y
 rw [run_equalIn_agg w 9999 48 _ _ hf hs]
 unfold Program.fieldsOf
 rw [Tryz.underlying48]
 simp [Op.eqFields, go_sem, Tryz.underlying4, Tryz.underlying3, Tryz.underlying9]
 by_cases h1 : a1 = b1 <;> by_cases h2 : a2 = b2 <;> by_cases h3 : a3 = b3 <;> by_cases h4 : a4 = b4 <;> by_cases h5 : a5 = b5 <;> simp [h1, h2, h3, h4, h5]
theorem Tryz.nM : Tryz.prog.eqGuardType Tryz.prog.depth 48 = false := by kernel_rfl
set_option maxHeartbeats 400000 in
theorem Fz (w : World) (F : Nat -> Prop) (v : Value) (l : List Cl) (h : cd w F v l) (hl : l.length <= 1000000) :
  Calls Tryz.prog 86 #[v] w (uD l w) := by
 obtain ⟨i0, hi, hz0, hz1, hz2⟩ := info_parts Tryz.fZ
 obtain ⟨A, c, rfl, hnc, hcm⟩ := h.slice
 have hnil := fun w => Lib.run_eql_slice_nil (P := Tryz.prog) w 37 48 A l.length c 0 0 Tryz.underlying37
 rcases A with _ | a
 ·have : l = [] := by
   cases l with
   | nil => rfl
   | cons x r => obtain ⟨_, _, h0, _⟩ := h.at_ (k := 0) rfl; cases h0
  subst this
  clear h
  simp only [List.length_nil] at hnil
  go_enter Tryz.func86, Tryz.ntmps86
  go_wp2
  go_ret
  exact ⟨none, 0, rfl, World.ownsRow_nil _ _ _ _, Below.refl _ _⟩
 ·have hr2 : cd (w.alloc (.cells #[] 48)) F (.slice (some a) l.length c) l := bE.below h ((Below.refl _ _).alloc (Nat.le_refl _) _)
  have hown0 := World.ownsRow_made (e := 48) (base := w.heap.size) (size := 5) w #[] 0 (Nat.le_refl _) (by simp [maxLen]) rfl
  have HR := Lib.hid (And.intro hr2 hown0)
  have sk := Lib.hid hi
  clear hr2 hown0 h hi
  go_enter Tryz.func86, Tryz.ntmps86
  go_wp2_with (at_builtin; go_loud (refine aH _ rfl _ _ 37 rfl w.heap.size 48 i0 _ 5 48 Tryz.underlying37 sk.out hz0 hz1 hz2 rfl (by decide) _ 0 [] rfl HR.out.2 F _ (l.map Cl.cells) rfl HR.out.1 (bI _) (eQ _) (by simp; omega) (by simp; unfold maxLen; omega) (by simp) ?_); intro v' w1 hown1 hgrow1 _)
  go_ret
  simp only [Nat.zero_add, List.nil_append, List.length_map] at hown1
  obtain ⟨A', c', hv⟩ := ar hown1
  rw [hv] at hown1 ⊢
  exact ⟨A', c', rfl, hown1, ((Below.refl _ _).alloc (Nat.le_refl _) _).grown hgrow1 (by simp) (fun k hk => by have h2 : some w.heap.size = some k := hk; injection h2 with h2; omega)⟩
theorem CW (w : World) (F : Nat -> Prop) (v : Value) (l : List Cl) (h : cd w F v l) (hl : l.length <= 1000000) :
  Calls Tryz.prog 52 #[.agg #[v]] w (uD l w) := by
 obtain ⟨A, c, rfl, hnc, hcm⟩ := h.slice
 have H := Lib.hid h
 clear h
 go_enter Tryz.func52, Tryz.ntmps52
 go_wp2_with fail
 refine (Fz _ F _ l (bE.below H.out ((Below.refl _ _).alloc (Nat.le_refl _) _)) hl).mono ?_
 rintro e w1 ⟨A', c', rfl, hown, hb⟩
 go_wp2_with fail
 go_ret
 have hbb : Below w.heap.size w w1 := ((Below.refl _ _).alloc (Nat.le_refl _) _).trans (hb.mono (by simp))
 exact ⟨A', c', rfl, dO hown (fun g hg => by have := (hown.lt g hg).1; simp at this; omega), hbb⟩
-- EQ BEGIN
set_option maxHeartbeats 400000 in
theorem FA (w : World) (F G : Nat -> Prop) (v u : Value) (a b : List Cl) (ha : cd w F v a) (hb : cd w G u b) (hl : a.length <= 1000000) :
  Calls Tryz.prog 51 #[v, u] w (dP (a = b) w) := by
 obtain ⟨A, c, rfl, hnc, hcm⟩ := ha.slice
 obtain ⟨B, d, rfl, hnd, Pp⟩ := hb.slice
 have HA := Lib.hid ha
 have HB := Lib.hid hb
 clear ha hb
 by_cases hlen : a.length = b.length
 ·obtain ⟨n, hn⟩ : ∃ n, a.length = n := ⟨_, rfl⟩
  have pM : b.length = n := by omega
  rw [hn] at HA hl hnc ⊢
  rw [pM] at HB hnd ⊢
  have HN := Lib.hid (And.intro hn pM)
  clear hn pM hlen
  go_enter Tryz.func51, Tryz.ntmps51
  go_wp2_with fail
  go_loopw [13] (fun i wr => ∃ k : Nat, k <= n /\ i = .int .i64 (k : Int) /\ a.take k = b.take k /\ Below w.heap.size w wr) (fun i _ => n - (intOf i).toNat)
  case atStart => exact ⟨0, Nat.zero_le _, rfl, by simp, Below.refl _ _⟩
  case round =>
   obtain ⟨k, hk, rfl, htk, hbl⟩ := hrel
   by_cases hlt : k < n
   ·obtain ⟨x, hx⟩ : ∃ x, a[k]? = some x := ⟨_, List.getElem?_eq_getElem (by rw [HN.out.1]; exact hlt)⟩
    obtain ⟨y, hy⟩ : ∃ y, b[k]? = some y := ⟨_, List.getElem?_eq_getElem (by rw [HN.out.2]; exact hlt)⟩
    obtain ⟨b1, o1, rfl, ET, c0, c1, c2, c3, c4⟩ := HA.out.at_ hx
    obtain ⟨b2, o2, rfl, hF2, d0, d1, d2, d3, d4⟩ := HB.out.at_ hy
    have l1 : b1 < w.heap.size := World.block_lt_of_cell? w _ c0
    have l2 : b2 < w.heap.size := World.block_lt_of_cell? w _ d0
    have c0' := (hbl.cell (p := ⟨b1, o1 + k * 5, none⟩) l1).trans c0
    have c1' := (hbl.cell (p := ⟨b1, o1 + k * 5 + 1, none⟩) l1).trans c1
    have Kz := (hbl.cell (p := ⟨b1, o1 + k * 5 + 2, none⟩) l1).trans c2
    have NP := (hbl.cell (p := ⟨b1, o1 + k * 5 + 3, none⟩) l1).trans c3
    have NQ := (hbl.cell (p := ⟨b1, o1 + k * 5 + 4, none⟩) l1).trans c4
    have U3 := (hbl.cell (p := ⟨b2, o2 + k * 5, none⟩) l2).trans d0
    have U4 := (hbl.cell (p := ⟨b2, o2 + k * 5 + 1, none⟩) l2).trans d1
    have WC := (hbl.cell (p := ⟨b2, o2 + k * 5 + 2, none⟩) l2).trans d2
    have WD := (hbl.cell (p := ⟨b2, o2 + k * 5 + 3, none⟩) l2).trans d3
    have WE := (hbl.cell (p := ⟨b2, o2 + k * 5 + 4, none⟩) l2).trans d4
    have HX := Lib.hid (And.intro hx (And.intro hy (And.intro htk hbl)))
    clear c0 c1 c2 c3 c4 d0 d1 d2 d3 d4 hx hy htk hbl
    have heq := x9 x y
    have hgd := Tryz.nM
    by_cases hxy : x = y
    ·have hd : decide (x = y) = true := by simpa using hxy
     rw [hd] at heq
     have QN := Lib.hid hxy
     clear hd hxy
     go_wp2_with fail
     go_quiet (fail)
     clear heq hgd
     go_wp2_with fail
     go_roundw
     case rel => exact ⟨k + 1, by omega, by go_num, by rw [cQ HX.out.1, cQ HX.out.2.1, HX.out.2.2.1, QN.out], below_drewN HX.out.2.2.2 _⟩
     case measure => simp [intOf]; omega
    ·have hd : decide (x = y) = false := by simpa using hxy
     rw [hd] at heq
     have QN := Lib.hid hxy
     clear hd hxy
     go_wp2_with fail
     go_quiet (fail)
     clear heq hgd
     go_wp2_with fail
     go_ret
     exact dP.no (fun e => QN.out (by have h1 := HX.out.1; rw [e, HX.out.2.1] at h1; injection h1 with h1; exact h1.symm)) (below_drewN HX.out.2.2.2 _)
   ·have hkn : k = n := by omega
    subst hkn
    have HX := Lib.hid (And.intro htk hbl)
    clear htk hbl
    go_wp2_with fail
    go_ret
    refine dP.yes ?_ HX.out.2
    have := HX.out.1
    rw [List.take_of_length_le (by rw [HN.out.1]; exact Nat.le_refl _), List.take_of_length_le (by rw [HN.out.2]; exact Nat.le_refl _)] at this
    exact this
 ·have hne : ((a.length : Int) == (b.length : Int)) = false := by simp; omega
  have Mz : ((a.length : Int) != (b.length : Int)) = true := by simp; omega
  have HL := Lib.hid hlen
  go_enter Tryz.func51, Tryz.ntmps51
  go_wp2_with fail
  go_ret
  exact dP.no (fun e => HL.out (by rw [e])) (Below.refl _ _)
theorem Ie (w : World) (F G : Nat -> Prop) (v u : Value) (a b : List Cl) (ha : cd w F v a) (hb : cd w G u b) (hl : a.length <= 1000000) :
  Calls Tryz.prog 55 #[.agg #[v], .agg #[u]] w (dP (a = b) w) := by
 obtain ⟨A, c, rfl, hnc, hcm⟩ := ha.slice
 obtain ⟨B, d, rfl, hnd, Pp⟩ := hb.slice
 have hbb : Below w.heap.size w ((w.alloc (.cells #[.slice A a.length c] 87)).alloc (.cells #[.slice B b.length d] 87)) := ((Below.refl _ _).alloc (Nat.le_refl _) _).alloc (by simp) _
 have H := Lib.hid (And.intro (bE.below ha hbb) (And.intro (bE.below hb hbb) hbb))
 clear ha hb hbb
 go_enter Tryz.func55, Tryz.ntmps55
 go_wp2_with fail
 refine (FA _ F G _ _ a b H.out.1 H.out.2.1 hl).mono ?_
 rintro e w1 ⟨r, hr, rfl, hb1⟩
 go_wp2_with fail
 go_ret
 exact ⟨r, hr, rfl, H.out.2.2.trans (hb1.mono (by simp; omega))⟩
theorem oL {w : World} {b : Nat} {v0 v1 v2 v3 v4 : Value} {t : TypeId} (h : w.heap[b]? = some (.cells #[v0, v1, v2, v3, v4] t (0, 0))) :
  w.cell? ⟨b, 0, none⟩ = some v0 /\ w.cell? ⟨b, 1, none⟩ = some v1 /\ w.cell? ⟨b, 2, none⟩ = some v2 /\ w.cell? ⟨b, 3, none⟩ = some v3 /\ w.cell? ⟨b, 4, none⟩ = some v4 := by
 simp [World.cell?, h]
def covers (c d : Cl) (n : Int) : Prop := d.aG = c.aG /\ d.key = c.key /\ (c.wr = true -> d.wr = true) /\ d.lo <= n /\ n <= d.hi
def CX (c : Cl) (l : List Cl) : Prop := ∀ n, c.lo <= n -> n <= c.hi -> ∃ d ∈ l, covers c d n
def pP (w : World) (c : Cl) (l : List Cl) (fr : Int) (w' : World) : Prop :=
 Below w.heap.size w w' /\ w'.heap[w.heap.size]? = some (.cells #[.bool c.wr, .int .i64 c.aG, .string ⟨c.key.toArray⟩, .int .i64 c.lo, .int .i64 c.hi] 48 (0, 0)) /\
  c.lo <= fr /\ fr <= c.hi /\ ∀ n, c.lo <= n -> n < fr -> ∃ d ∈ l, covers c d n
theorem pP.start (w : World) (c : Cl) (l : List Cl) (hc : c.lo <= c.hi) : pP w c l c.lo (w.alloc (.cells #[.bool c.wr, .int .i64 c.aG, .string ⟨c.key.toArray⟩, .int .i64 c.lo, .int .i64 c.hi] 48)) :=
 ⟨(Below.refl _ _).alloc (Nat.le_refl _) _, heap_alloc_new _ _, Int.le_refl _, hc, fun n h1 h2 => absurd h2 (by omega)⟩
theorem pP.box {w : World} {c : Cl} {l : List Cl} {fr : Int} {w' : World} (h : pP w c l fr w') {o : Obj} : pP w c l fr (w'.alloc o) :=
 ⟨h.1.alloc h.1.size _, by rw [Below.heap_alloc _ _ _ (Array.getElem?_eq_some_iff.1 h.2.1).1]; exact h.2.1, h.2.2⟩
theorem pP.next {w : World} {c x : Cl} {l : List Cl} {fr : Int} {w' : World} {k : Nat} {o : Obj} (h : pP w c l fr w') (hx : l[k]? = some x) (h1 : x.aG = c.aG) (h2 : x.key = c.key) (h3 : c.wr = true -> x.wr = true) (h4 : x.lo <= fr) (h5 : fr <= x.hi) (h6 : x.hi < c.hi) : pP w c l (x.hi + 1) (w'.alloc o) := by
 refine ⟨h.box.1, h.box.2.1, by have := h.2.2.1; omega, by omega, fun n a b => ?_⟩
 by_cases hn : n < fr
 ·exact h.2.2.2.2 n a hn
 ·exact ⟨x, List.mem_of_getElem? hx, h1, h2, h3, by omega, by omega⟩
-- Vy BEGIN
set_option maxHeartbeats 2000000 in
theorem zL (w : World) (F : Nat -> Prop) (v : Value) (c : Cl) (l : List Cl) (h : cd w F v l) (hl : l.length <= 1000000) (hc : c.lo <= c.hi) (hch : c.hi <= 9223372036854775807) (hfit : ∀ d ∈ l, d.fits) :
  Calls Tryz.prog 56 #[.agg #[.bool c.wr, .int .i64 c.aG, .string ⟨c.key.toArray⟩, .int .i64 c.lo, .int .i64 c.hi], v] w (dP (CX c l) w) := by
 obtain ⟨A, cp, rfl, hnc, hcm⟩ := h.slice
 have H := Lib.hid h
 clear h
 go_enter Tryz.func56, Tryz.ntmps56
 go_wp2_with fail
 refine wp_scope_jumps 0 (fun a' w' => ∃ (fr : Int) (u0 u3 u6 u7 u8 u9 SI SJ SK SL SM SN u16 SP SQ SR SS SU SV u23 u24 SX u26 SY u28 SZ S0 S3 u32 u33 S4 S5 S6 S7 S8 S9 Ta Tb Tc Td u44 Te Tf Tg Ti Tj Tk Tm Tn Tp Tq Tt : Value), a' = { tmps := #[u0, .slice A l.length cp, .pointer (some ⟨w.heap.size, 0, none⟩), u3, .bool false, .int .i64 fr, u6, u7, u8, u9, SI, SJ, SK, SL, SM, SN, u16, SP, SQ, SR, SS, SU, SV, u23, u24, SX, u26, SY, u28, SZ, S0, S3, u32, u33, S4, S5, S6, S7, S8, S9, Ta, Tb, Tc, Td, u44, Te, Tf, Tg, Ti, Tj, Tk, Tm, Tn, Tp, Tq, Tt], defers := [] } /\ pP w c l fr w') (fun a' _ => (c.hi - intOf (a'.tmps.getD 5 undef)).toNat) rfl ?_ ?_
 ·obtain ⟨fr, QO⟩ : ∃ fr, c.lo = fr := ⟨_, rfl⟩
  have HJ := Lib.hid (pP.start w c l hc)
  rw [QO] at HJ ⊢
  clear hc
  have hc : fr <= c.hi := HJ.out.2.2.2.1
  have WG := Lib.hid QO
  clear QO
  go_wp2_with fail
  go_step3
  go_wp2_with fail
  go_loopw [4, 5, 12] (fun v4 v5 i wr => v4 = .bool false /\ v5 = .int .i64 fr /\ ∃ k : Nat, k <= l.length /\ i = .int .i64 (k : Int) /\ (∀ d ∈ l.take k, ¬ covers c d fr) /\ pP w c l fr wr) (fun _ _ i _ => l.length - (intOf i).toNat)
  case atStart => exact ⟨rfl, rfl, 0, Nat.zero_le _, rfl, by simp, HJ.out⟩
  case round =>
   obtain ⟨rfl, rfl, k, hk, rfl, hno, hj⟩ := hrel
   rename World => w3
   by_cases hlt : k < l.length
   ·obtain ⟨x, hx⟩ : ∃ x, l[k]? = some x := ⟨_, List.getElem?_eq_getElem hlt⟩
    obtain ⟨b, o, rfl, vN, c0, c1, c2, c3, c4⟩ := H.out.at_ hx
    have hb : b < w.heap.size := World.block_lt_of_cell? w _ c0
    have c0' := (hj.1.cell (p := ⟨b, o + k * 5, none⟩) hb).trans c0
    have c1' := (hj.1.cell (p := ⟨b, o + k * 5 + 1, none⟩) hb).trans c1
    have Kz := (hj.1.cell (p := ⟨b, o + k * 5 + 2, none⟩) hb).trans c2
    have NP := (hj.1.cell (p := ⟨b, o + k * 5 + 3, none⟩) hb).trans c3
    have NQ := (hj.1.cell (p := ⟨b, o + k * 5 + 4, none⟩) hb).trans c4
    obtain ⟨q0, q1, q2, q3, q4⟩ := oL hj.2.1
    have uW := hfit x (List.mem_of_getElem? hx)
    have hs3 := hj.1.size
    have hbz : w.heap.size < w3.heap.size := (Array.getElem?_eq_some_iff.1 hj.2.1).1
    have QP := hj.2.2.1
    have QQ := hj.2.2.2.1
    have QR := uW.2.1.1
    have QS := uW.2.1.2
    have QT := uW.2.2.1.1
    have QU := uW.2.2.1.2
    have HX := Lib.hid (And.intro hx (And.intro hno hj))
    clear c0 c1 c2 c3 c4 hx hno hj uW
    have skip : ¬ covers c x fr -> ∀ d ∈ l.take (k + 1), ¬ covers c d fr := by
     intro hn d hd
     rw [cQ HX.out.1] at hd
     rcases List.mem_append.1 hd with hd | hd
     ·exact HX.out.2.1 d hd
     ·simp at hd; subst hd; exact hn
    have HS := Lib.hid skip
    clear skip
    by_cases g1 : x.aG = c.aG
    ·rw [g1] at c1'
     by_cases g2 : x.key = c.key
     ·rw [g2] at Kz
      have HG := Lib.hid (And.intro g1 g2)
      clear g1 g2
      cases hcw : c.wr with
      | true =>
       cases CY : x.wr with
       | false =>
        rw [hcw] at q0
        rw [CY] at c0'
        have HW := Lib.hid (And.intro hcw CY)
        clear hcw CY
        go_wp2_with fail
        go_roundw
        case rel => exact ⟨rfl, rfl, k + 1, by omega, by go_num, HS.out (fun hh => by have := hh.2.2.1 HW.out.1; rw [HW.out.2] at this; cases this), HX.out.2.2.box⟩
        case measure => simp [intOf]; omega
       | true =>
        rw [hcw] at q0
        rw [CY] at c0'
        have HW := Lib.hid (fun (_ : c.wr = true) => CY)
        clear hcw CY
        by_cases g5 : fr < x.lo
        ·go_wp2_with fail
         go_roundw
         case rel => exact ⟨rfl, rfl, k + 1, by omega, by go_num, HS.out (fun hh => by have := hh.2.2.2.1; omega), HX.out.2.2.box⟩
         case measure => simp [intOf]; omega
        ·by_cases g6 : x.hi < fr
         ·go_wp2_with fail
          go_roundw
          case rel => exact ⟨rfl, rfl, k + 1, by omega, by go_num, HS.out (fun hh => by have := hh.2.2.2.2; omega), HX.out.2.2.box⟩
          case measure => simp [intOf]; omega
         ·by_cases g7 : c.hi <= x.hi
          ·go_wp2_with fail
           simp only [Exit.jump]
           go_ret
           refine dP.yes (fun n h1 h2 => ?_) HX.out.2.2.box.1
           by_cases h3 : n < fr
           ·exact HX.out.2.2.2.2.2.2 n h1 h3
           ·exact ⟨x, List.mem_of_getElem? HX.out.1, HG.out.1, HG.out.2, HW.out, by omega, by omega⟩
          ·go_wp2_with fail
           go_step3
           refine ⟨rfl, x.hi + 1, _, _, _, _, _, _, _, _, _, _, _, _, _, _, _, _, _, _, _, _, _, _, _, _, _, _, _, _, _, _, _, _, _, _, _, _, _, _, _, _, _, _, _, _, _, _, _, _, _, _, _, _, rfl, HX.out.2.2.next HX.out.1 HG.out.1 HG.out.2 HW.out (by omega) (by omega) (by omega)⟩
      | false =>
       rw [hcw] at q0
       have HW := Lib.hid (show c.wr = true -> x.wr = true from fun h => by rw [hcw] at h; cases h)
       clear hcw
       by_cases g5 : fr < x.lo
       ·go_wp2_with fail
        go_roundw
        case rel => exact ⟨rfl, rfl, k + 1, by omega, by go_num, HS.out (fun hh => by have := hh.2.2.2.1; omega), HX.out.2.2.box⟩
        case measure => simp [intOf]; omega
       ·by_cases g6 : x.hi < fr
        ·go_wp2_with fail
         go_roundw
         case rel => exact ⟨rfl, rfl, k + 1, by omega, by go_num, HS.out (fun hh => by have := hh.2.2.2.2; omega), HX.out.2.2.box⟩
         case measure => simp [intOf]; omega
        ·by_cases g7 : c.hi <= x.hi
         ·go_wp2_with fail
          simp only [Exit.jump]
          go_ret
          refine dP.yes (fun n h1 h2 => ?_) HX.out.2.2.box.1
          by_cases h3 : n < fr
          ·exact HX.out.2.2.2.2.2.2 n h1 h3
          ·exact ⟨x, List.mem_of_getElem? HX.out.1, HG.out.1, HG.out.2, HW.out, by omega, by omega⟩
         ·go_wp2_with fail
          go_step3
          refine ⟨rfl, x.hi + 1, _, _, _, _, _, _, _, _, _, _, _, _, _, _, _, _, _, _, _, _, _, _, _, _, _, _, _, _, _, _, _, _, _, _, _, _, _, _, _, _, _, _, _, _, _, _, _, _, _, _, _, _, rfl, HX.out.2.2.next HX.out.1 HG.out.1 HG.out.2 HW.out (by omega) (by omega) (by omega)⟩
     ·have g3 : (x.key == c.key) = false := by simpa using g2
      have g4 : x.key.isEmpty = x.key.isEmpty := rfl
      clear g4
      have HG := Lib.hid g2
      go_wp2_with fail
      go_roundw
      case rel => exact ⟨rfl, rfl, k + 1, by omega, by go_num, HS.out (fun hh => HG.out hh.2.1), HX.out.2.2.box⟩
      case measure => simp [intOf]; omega
    ·have g3 : (x.aG == c.aG) = false := by simpa using g1
     have g4 : (x.aG != c.aG) = true := by simpa using g1
     have HG := Lib.hid g1
     clear g1
     go_wp2_with fail
     go_roundw
     case rel => exact ⟨rfl, rfl, k + 1, by omega, by go_num, HS.out (fun hh => HG.out hh.1), HX.out.2.2.box⟩
     case measure => simp [intOf]; omega
   ·have hkl : k = l.length := by omega
    subst hkl
    rw [List.take_length] at hno
    have HX := Lib.hid (And.intro hno hj)
    clear hno hj
    go_wp2_with fail
    simp only [Exit.jump]
    go_ret
    refine dP.no (fun hh => ?_) HX.out.2.1
    obtain ⟨d, hd, hcv⟩ := hh fr HX.out.2.2.2.1 HX.out.2.2.2.2.1
    exact HX.out.1 d hd hcv
 ·rintro a' w' ⟨fr, u0, u3, u6, u7, u8, u9, SI, SJ, SK, SL, SM, SN, u16, SP, SQ, SR, SS, SU, SV, u23, u24, SX, u26, SY, u28, SZ, S0, S3, u32, u33, S4, S5, S6, S7, S8, S9, Ta, Tb, Tc, Td, u44, Te, Tf, Tg, Ti, Tj, Tk, Tm, Tn, Tp, Tq, Tt, rfl, hj⟩
  have HJ := Lib.hid hj
  clear hj
  go_wp2_with fail
  go_loopw [4, 5, 12] (fun v4 v5 i wr => v4 = .bool false /\ v5 = .int .i64 fr /\ ∃ k : Nat, k <= l.length /\ i = .int .i64 (k : Int) /\ (∀ d ∈ l.take k, ¬ covers c d fr) /\ pP w c l fr wr) (fun _ _ i _ => l.length - (intOf i).toNat)
  case atStart => exact ⟨rfl, rfl, 0, Nat.zero_le _, rfl, by simp, HJ.out⟩
  case round =>
   obtain ⟨rfl, rfl, k, hk, rfl, hno, hj⟩ := hrel
   rename World => w3
   by_cases hlt : k < l.length
   ·obtain ⟨x, hx⟩ : ∃ x, l[k]? = some x := ⟨_, List.getElem?_eq_getElem hlt⟩
    obtain ⟨b, o, rfl, vN, c0, c1, c2, c3, c4⟩ := H.out.at_ hx
    have hb : b < w.heap.size := World.block_lt_of_cell? w _ c0
    have c0' := (hj.1.cell (p := ⟨b, o + k * 5, none⟩) hb).trans c0
    have c1' := (hj.1.cell (p := ⟨b, o + k * 5 + 1, none⟩) hb).trans c1
    have Kz := (hj.1.cell (p := ⟨b, o + k * 5 + 2, none⟩) hb).trans c2
    have NP := (hj.1.cell (p := ⟨b, o + k * 5 + 3, none⟩) hb).trans c3
    have NQ := (hj.1.cell (p := ⟨b, o + k * 5 + 4, none⟩) hb).trans c4
    obtain ⟨q0, q1, q2, q3, q4⟩ := oL hj.2.1
    have uW := hfit x (List.mem_of_getElem? hx)
    have hs3 := hj.1.size
    have hbz : w.heap.size < w3.heap.size := (Array.getElem?_eq_some_iff.1 hj.2.1).1
    have QP := hj.2.2.1
    have QQ := hj.2.2.2.1
    have QR := uW.2.1.1
    have QS := uW.2.1.2
    have QT := uW.2.2.1.1
    have QU := uW.2.2.1.2
    have HX := Lib.hid (And.intro hx (And.intro hno hj))
    clear c0 c1 c2 c3 c4 hx hno hj uW
    have skip : ¬ covers c x fr -> ∀ d ∈ l.take (k + 1), ¬ covers c d fr := by
     intro hn d hd
     rw [cQ HX.out.1] at hd
     rcases List.mem_append.1 hd with hd | hd
     ·exact HX.out.2.1 d hd
     ·simp at hd; subst hd; exact hn
    have HS := Lib.hid skip
    clear skip
    by_cases g1 : x.aG = c.aG
    ·rw [g1] at c1'
     by_cases g2 : x.key = c.key
     ·rw [g2] at Kz
      have HG := Lib.hid (And.intro g1 g2)
      clear g1 g2
      cases hcw : c.wr with
      | true =>
       cases CY : x.wr with
       | false =>
        rw [hcw] at q0
        rw [CY] at c0'
        have HW := Lib.hid (And.intro hcw CY)
        clear hcw CY
        go_wp2_with fail
        go_roundw
        case rel => exact ⟨rfl, rfl, k + 1, by omega, by go_num, HS.out (fun hh => by have := hh.2.2.1 HW.out.1; rw [HW.out.2] at this; cases this), HX.out.2.2.box⟩
        case measure => simp [intOf]; omega
       | true =>
        rw [hcw] at q0
        rw [CY] at c0'
        have HW := Lib.hid (fun (_ : c.wr = true) => CY)
        clear hcw CY
        by_cases g5 : fr < x.lo
        ·go_wp2_with fail
         go_roundw
         case rel => exact ⟨rfl, rfl, k + 1, by omega, by go_num, HS.out (fun hh => by have := hh.2.2.2.1; omega), HX.out.2.2.box⟩
         case measure => simp [intOf]; omega
        ·by_cases g6 : x.hi < fr
         ·go_wp2_with fail
          go_roundw
          case rel => exact ⟨rfl, rfl, k + 1, by omega, by go_num, HS.out (fun hh => by have := hh.2.2.2.2; omega), HX.out.2.2.box⟩
          case measure => simp [intOf]; omega
         ·by_cases g7 : c.hi <= x.hi
          ·go_wp2_with fail
           simp only [Exit.jump]
           go_ret
           refine dP.yes (fun n h1 h2 => ?_) HX.out.2.2.box.1
           by_cases h3 : n < fr
           ·exact HX.out.2.2.2.2.2.2 n h1 h3
           ·exact ⟨x, List.mem_of_getElem? HX.out.1, HG.out.1, HG.out.2, HW.out, by omega, by omega⟩
          ·go_wp2_with fail
           go_step3
           refine ⟨rfl, ⟨x.hi + 1, _, _, _, _, _, _, _, _, _, _, _, _, _, _, _, _, _, _, _, _, _, _, _, _, _, _, _, _, _, _, _, _, _, _, _, _, _, _, _, _, _, _, _, _, _, _, _, _, _, _, _, _, rfl, HX.out.2.2.next HX.out.1 HG.out.1 HG.out.2 HW.out (by omega) (by omega) (by omega)⟩, by simp [intOf]; omega⟩
      | false =>
       rw [hcw] at q0
       have HW := Lib.hid (show c.wr = true -> x.wr = true from fun h => by rw [hcw] at h; cases h)
       clear hcw
       by_cases g5 : fr < x.lo
       ·go_wp2_with fail
        go_roundw
        case rel => exact ⟨rfl, rfl, k + 1, by omega, by go_num, HS.out (fun hh => by have := hh.2.2.2.1; omega), HX.out.2.2.box⟩
        case measure => simp [intOf]; omega
       ·by_cases g6 : x.hi < fr
        ·go_wp2_with fail
         go_roundw
         case rel => exact ⟨rfl, rfl, k + 1, by omega, by go_num, HS.out (fun hh => by have := hh.2.2.2.2; omega), HX.out.2.2.box⟩
         case measure => simp [intOf]; omega
        ·by_cases g7 : c.hi <= x.hi
         ·go_wp2_with fail
          simp only [Exit.jump]
          go_ret
          refine dP.yes (fun n h1 h2 => ?_) HX.out.2.2.box.1
          by_cases h3 : n < fr
          ·exact HX.out.2.2.2.2.2.2 n h1 h3
          ·exact ⟨x, List.mem_of_getElem? HX.out.1, HG.out.1, HG.out.2, HW.out, by omega, by omega⟩
         ·go_wp2_with fail
          go_step3
          refine ⟨rfl, ⟨x.hi + 1, _, _, _, _, _, _, _, _, _, _, _, _, _, _, _, _, _, _, _, _, _, _, _, _, _, _, _, _, _, _, _, _, _, _, _, _, _, _, _, _, _, _, _, _, _, _, _, _, _, _, _, _, rfl, HX.out.2.2.next HX.out.1 HG.out.1 HG.out.2 HW.out (by omega) (by omega) (by omega)⟩, by simp [intOf]; omega⟩
     ·have g3 : (x.key == c.key) = false := by simpa using g2
      have g4 : x.key.isEmpty = x.key.isEmpty := rfl
      clear g4
      have HG := Lib.hid g2
      go_wp2_with fail
      go_roundw
      case rel => exact ⟨rfl, rfl, k + 1, by omega, by go_num, HS.out (fun hh => HG.out hh.2.1), HX.out.2.2.box⟩
      case measure => simp [intOf]; omega
    ·have g3 : (x.aG == c.aG) = false := by simpa using g1
     have g4 : (x.aG != c.aG) = true := by simpa using g1
     have HG := Lib.hid g1
     clear g1
     go_wp2_with fail
     go_roundw
     case rel => exact ⟨rfl, rfl, k + 1, by omega, by go_num, HS.out (fun hh => HG.out hh.1), HX.out.2.2.box⟩
     case measure => simp [intOf]; omega
   ·have hkl : k = l.length := by omega
    subst hkl
    rw [List.take_length] at hno
    have HX := Lib.hid (And.intro hno hj)
    clear hno hj
    go_wp2_with fail
    simp only [Exit.jump]
    go_ret
    refine dP.no (fun hh => ?_) HX.out.2.1
    obtain ⟨d, hd, hcv⟩ := hh fr HX.out.2.2.2.1 HX.out.2.2.2.2.1
    exact HX.out.1 d hd hcv
-- Vy END
def ku (a b : List Cl) : Prop := ∀ c ∈ a, CX c b
def Two (w : World) (v u : Value) (w' : World) : Prop := Below w.heap.size w w' /\ w'.heap[w.heap.size]? = some (.cells #[v] 87 (0, 0)) /\ w'.heap[w.heap.size + 1]? = some (.cells #[u] 87 (0, 0))
theorem Two.start (w : World) (v u : Value) : Two w v u ((w.alloc (.cells #[v] 87)).alloc (.cells #[u] 87)) := by
 refine ⟨((Below.refl _ _).alloc (Nat.le_refl _) _).alloc (by simp) _, ?_, ?_⟩
 ·rw [Below.heap_alloc _ _ _ (by simp)]; exact heap_alloc_new _ _
 ·have e : w.heap.size + 1 = (w.alloc (.cells #[v] 87)).heap.size := by simp
  rw [e]; exact heap_alloc_new _ _
theorem Two.below {w w1 w2 : World} {v u : Value} (h : Two w v u w1) (hb : Below w1.heap.size w1 w2) : Two w v u w2 := by
 refine ⟨h.1.trans (hb.mono h.1.size), ?_, ?_⟩
 ·rw [hb.block _ (Array.getElem?_eq_some_iff.1 h.2.1).1]; exact h.2.1
 ·rw [hb.block _ (Array.getElem?_eq_some_iff.1 h.2.2).1]; exact h.2.2
theorem Two.alloc {w w1 : World} {v u : Value} (h : Two w v u w1) (o : Obj) : Two w v u (w1.alloc o) := h.below ((Below.refl _ _).alloc (Nat.le_refl _) _)
set_option maxHeartbeats 1000000 in
theorem CZ (w : World) (F G : Nat -> Prop) (v u : Value) (a b : List Cl) (ha : cd w F v a) (hb : cd w G u b) (Ej : a.length <= 1000000) (hlb : b.length <= 1000000) (Vz : ∀ c ∈ a, c.lo <= c.hi) (yQ : ∀ c ∈ a, c.fits) (QV : ∀ c ∈ b, c.fits) :
  Calls Tryz.prog 32 #[.agg #[v], .agg #[u]] w (dP (ku a b) w) := by
 obtain ⟨A, c, rfl, hnc, hcm⟩ := ha.slice
 obtain ⟨B, d, rfl, hnd, Pp⟩ := hb.slice
 have H := Lib.hid (And.intro ha (And.intro hb (Two.start w (.slice A a.length c) (.slice B b.length d))))
 clear ha hb
 go_enter Tryz.func32, Tryz.ntmps32
 go_wp2_with fail
 go_loopw [10] (fun i wr => ∃ k : Nat, k <= a.length /\ i = .int .i64 (k : Int) /\ (∀ c ∈ a.take k, CX c b) /\ Two w (.slice A a.length c) (.slice B b.length d) wr) (fun i _ => a.length - (intOf i).toNat)
 case atStart => exact ⟨0, Nat.zero_le _, rfl, by simp, H.out.2.2⟩
 case round =>
  obtain ⟨k, hk, rfl, hal, ht⟩ := hrel
  by_cases hlt : k < a.length
  ·obtain ⟨x, hx⟩ : ∃ x, a[k]? = some x := ⟨_, List.getElem?_eq_getElem hlt⟩
   obtain ⟨b1, o1, rfl, ET, c0, c1, c2, c3, c4⟩ := H.out.1.at_ hx
   have l1 : b1 < w.heap.size := World.block_lt_of_cell? w _ c0
   have c0' := (ht.1.cell (p := ⟨b1, o1 + k * 5, none⟩) l1).trans c0
   have c1' := (ht.1.cell (p := ⟨b1, o1 + k * 5 + 1, none⟩) l1).trans c1
   have Kz := (ht.1.cell (p := ⟨b1, o1 + k * 5 + 2, none⟩) l1).trans c2
   have NP := (ht.1.cell (p := ⟨b1, o1 + k * 5 + 3, none⟩) l1).trans c3
   have NQ := (ht.1.cell (p := ⟨b1, o1 + k * 5 + 4, none⟩) l1).trans c4
   have q1 := bz ht.2.2
   have hsz : w.heap.size + 1 < wr.heap.size := (Array.getElem?_eq_some_iff.1 ht.2.2).1
   have hmx := List.mem_of_getElem? hx
   have hbl : Below w.heap.size w (wr.alloc (.cells #[.bool x.wr, .int .i64 x.aG, .string ⟨x.key.toArray⟩, .int .i64 x.lo, .int .i64 x.hi] 48)) := (ht.alloc _).1
   have HX := Lib.hid (And.intro hx (And.intro hal (And.intro ht (And.intro hmx hbl))))
   clear c0 c1 c2 c3 c4 hx hal ht hmx hbl
   go_wp2_with fail
   refine (zL _ G _ x b (bE.below H.out.2.1 HX.out.2.2.2.2) hlb (Vz x HX.out.2.2.2.1) (yQ x HX.out.2.2.2.1).2.2.1.2 QV).mono ?_
   rintro e w2 ⟨r, hr, rfl, hb2⟩
   have ht2 := (HX.out.2.2.1.alloc _).below hb2
   cases r with
   | true =>
    have HT := Lib.hid (And.intro (hr.1 rfl) ht2)
    clear hr ht2 hb2
    go_wp2_with fail
    go_roundw
    case rel =>
     refine ⟨k + 1, by omega, by go_num, ?_, HT.out.2⟩
     intro c hc
     rw [cQ HX.out.1] at hc
     rcases List.mem_append.1 hc with hc | hc
     ·exact HX.out.2.1 c hc
     ·simp at hc; subst hc; exact HT.out.1
    case measure => simp [intOf]; omega
   | false =>
    have hnc : ¬ CX x b := fun h => by have := hr.2 h; cases this
    have HT := Lib.hid (And.intro hnc ht2)
    clear hr ht2 hb2 hnc
    go_wp2_with fail
    go_ret
    exact dP.no (fun hh => HT.out.1 (hh x HX.out.2.2.2.1)) HT.out.2.1
  ·have hkl : k = a.length := by omega
   subst hkl
   rw [List.take_length] at hal
   have HX := Lib.hid (And.intro hal ht)
   clear hal ht
   go_wp2_with fail
   go_ret
   exact dP.yes HX.out.1 HX.out.2.1
end Go.Proofs.YtagemonojdgbdaaGreatDoor
