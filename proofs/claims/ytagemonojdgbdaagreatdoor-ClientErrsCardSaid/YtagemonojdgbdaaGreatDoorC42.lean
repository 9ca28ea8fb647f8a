import Derived.Test.YtagemonojdgbdaaGreatDoorC33
import Derived.Test.YtagemonojdgbdaaGreatDoorC41
namespace Go.Proofs.YtagemonojdgbdaaGreatDoor
set_option maxRecDepth 100000
open Go.RowKit
section
open Go.RowKit Go.Maps Go.WideShapes
def cliO (L : Nat) (f tr : Int) (rq : Value) (m : Nat) : Obj := .cells #[.pointer (some ⟨L, 0, none⟩), .int .i64 f, .int .i64 tr, rq, .map (some m)] 123 (0, 0)
theorem cliO_cells {w : World} {R L : Nat} {f tr : Int} {rq : Value} {m : Nat} (h : w.heap[R]? = some (cliO L f tr rq m)) :
  (w.cell? ⟨R, 0, none⟩ = some (.pointer (some ⟨L, 0, none⟩)) ∧ w.cell? ⟨R, 1, none⟩ = some (.int .i64 f) ∧ w.cell? ⟨R, 2, none⟩ = some (.int .i64 tr) ∧ w.cell? ⟨R, 3, none⟩ = some rq ∧ w.cell? ⟨R, 4, none⟩ = some (.map (some m))) ∧ w.frozen? ⟨R, 3, none⟩ = false := by
 unfold cliO at h
 refine ⟨⟨?_, ?_, ?_, ?_, ?_⟩, ?_⟩ <;> simp [World.cell?, World.frozen?, h]
def CliE (w : World) (R L : Nat) (f tr : Int) (m : Nat) : Prop := w.heap[R]? = some (cliO L f tr (.slice none 0 0) m) ∧ MapAt Tryz.prog w 3 m 0 (fun _ => none)
theorem CliE.below {w w' : World} {R L : Nat} {f tr : Int} {m : Nat} (h : CliE w R L f tr m) (hb : Below w.heap.size w w') : CliE w' R L f tr m := ⟨(Only.of_below hb (fun _ => False)).heap h.1 (fun h => h), h.2.below hb⟩
theorem alloc_at0 {W : World} {o : Obj} {i : Nat} (h : i = W.heap.size) : (W.alloc o).heap[i]? = some o := by rw [h]; exact heap_alloc_new _ _
theorem heldB1 {wk W W' : World} {R : Nat} {o : Obj} (h : Below wk.heap.size wk W ∧ W.heap[R]? = some o) (hb : Below W.heap.size W W') : Below wk.heap.size wk W' ∧ W'.heap[R]? = some o :=
 ⟨h.1.trans (hb.mono h.1.size), (Only.of_below hb (fun _ => False)).heap h.2 (fun h => h)⟩
def cliErr (most n f k : Int) : Int := if cfgErr most n f = 0 then (if k < 1 ∨ 16 < k then 10 else 0) else cfgErr most n f
def CliNew (w : World) (er : Int) (L : Nat) (f tr : Int) (x : Ending) (w' : World) : Prop := Below w.heap.size w w' ∧ (er = 0 → ∃ R m, x = .returned (.tuple #[.pointer (some ⟨R, 0, none⟩), .int .i64 0]) ∧ w.heap.size ≤ m ∧ m < R ∧ CliE w' R L f tr m) ∧ (er ≠ 0 → x = .returned (.tuple #[.pointer none, .int .i64 er]))
set_option maxHeartbeats 4000000 in
theorem cliNew_ok (w : World) (L : Nat) (most n f k : Int) : Calls Tryz.prog 16 #[.pointer (some ⟨L, 0, none⟩), cfgV most n f, .int .i64 k] w (CliNew w (cliErr most n f k) L f k) := by
 unfold cfgV
 have hb0 := new_box w (.cells #[.int .i64 most, .int .i64 n, .int .i64 f] 53)
 have k0 := heap_alloc_new w (.cells #[.int .i64 most, .int .i64 n, .int .i64 f] 53)
 have hmm := @run_makeMap Tryz.prog
 go_enter Tryz.func16, Tryz.ntmps16
 go_upto_region 1 with fail
 generalize w.alloc (.cells #[.int .i64 most, .int .i64 n, .int .i64 f] 53) = w1 at hb0 k0 ⊢
 obtain ⟨C, hC⟩ : ∃ x, w.heap.size = x := ⟨_, rfl⟩
 rw [hC] at k0 ⊢
 clear hC
 have z0 : w1.cell? ⟨C, 0, none⟩ = some (.int .i64 most) := by simp [World.cell?, k0]
 have z1 : w1.cell? ⟨C, 1, none⟩ = some (.int .i64 n) := by simp [World.cell?, k0]
 have z2 : w1.cell? ⟨C, 2, none⟩ = some (.int .i64 f) := by simp [World.cell?, k0]
 have HB := Lib.hid (And.intro hb0 k0)
 have HC := Lib.hid (serCheck_ok w1 most n f)
 unfold cfgV at HC
 clear hb0 k0
 go_wp2_with fail
 refine HC.out.mono ?_
 rintro e w2 ⟨rfl, hb2⟩
 have k2 := (Only.of_below hb2 (fun _ => False)).heap HB.out.2 (fun h => h)
 have y2 : w2.cell? ⟨C, 2, none⟩ = some (.int .i64 f) := by simp [World.cell?, k2]
 have HB2 := Lib.hid (HB.out.1.trans (hb2.mono HB.out.1.size))
 clear z0 z1 z2 hb2 HC k2
 by_cases h0 : cfgErr most n f = 0
 ·have HX := Lib.hid (show cliErr most n f k = if k < 1 ∨ 16 < k then 10 else 0 by unfold cliErr; rw [if_pos h0])
  rw [h0]
  clear h0
  by_cases h1 : k < 1
  ·go_wp2_with fail
   go_ret2
   rw [HX.out, if_pos (.inl h1)]
   exact ⟨HB2.out, fun h => absurd h (by decide), fun _ => rfl⟩
  ·by_cases h2 : 16 < k
   ·go_wp2_with fail
    go_ret2
    rw [HX.out, if_pos (.inr h2)]
    exact ⟨HB2.out, fun h => absurd h (by decide), fun _ => rfl⟩
   ·have hb3 := new_box w2 (.map #[] 0)
    have hm3 := MapAt.made Tryz.prog w2 3
    have H3 := Lib.hid (And.intro hb3 hm3)
    clear hb3 hm3
    go_wp2_with fail
    go_ret2
    rw [HX.out, if_neg (by omega)]
    obtain ⟨hb3, hm3⟩ := H3.out
    have hb4 := new_box (w2.alloc (.map #[] 0)) (.cells #[.pointer (some ⟨L, 0, none⟩), .int .i64 f, .int .i64 k, .slice none 0 0, .map (some w2.heap.size)] 123)
    have hs := HB2.out.size
    exact ⟨(HB2.out.trans (hb3.mono HB2.out.size)).trans (hb4.mono (HB2.out.trans (hb3.mono HB2.out.size)).size), fun _ => ⟨_, w2.heap.size, rfl, hs, by simp, alloc_at0 (by simp), hm3.below hb4⟩, fun h => absurd rfl h⟩
 ·have HX := Lib.hid (show cliErr most n f k = cfgErr most n f by unfold cliErr; rw [if_neg h0])
  have H0 := Lib.hid h0
  go_wp2_with fail
  go_ret2
  rw [HX.out]
  exact ⟨HB2.out, fun h => absurd h H0.out, fun _ => rfl⟩
theorem cliFind0_ok (w : World) (R L : Nat) (f tr : Int) (m : Nat) (h : CliE w R L f tr m) : Calls Tryz.prog 45 #[.pointer (some ⟨R, 0, none⟩), .int .i64 0] w fun e w' => e = .returned (.pointer none) ∧ w = w' := by
 obtain ⟨⟨-, -, -, r3, -⟩, -⟩ := cliO_cells h.1
 clear h
 go_enter Tryz.func45, Tryz.ntmps45
 go_wp2_with fail
 go_ret
 exact ⟨rfl, rfl⟩
theorem cliLen0_ok (w : World) (R L : Nat) (f tr : Int) (m : Nat) (h : CliE w R L f tr m) : Calls Tryz.prog 25 #[.pointer (some ⟨R, 0, none⟩)] w fun e w' => e = .returned (.int .i64 0) ∧ w = w' := by
 obtain ⟨⟨-, -, -, r3, -⟩, -⟩ := cliO_cells h.1
 clear h
 go_enter Tryz.func25, Tryz.ntmps25
 go_wp2_with fail
 go_ret
 exact ⟨rfl, rfl⟩
theorem cliTry0_ok (w : World) (R L : Nat) (f tr : Int) (m : Nat) (h : CliE w R L f tr m) (t : Option Addr) : Calls Tryz.prog 19 #[.pointer (some ⟨R, 0, none⟩), .int .i64 0, .pointer t] w fun e w' => e = .returned (.tuple #[.int .i64 0, .int .i64 14]) ∧ w = w' := by
 go_enter Tryz.func19, Tryz.ntmps19
 go_wp2_with fail
 refine (cliFind0_ok w R L f tr m h).mono ?_
 rintro e w1 ⟨rfl, rfl⟩
 go_wp2_with fail
 go_ret2
 exact ⟨rfl, rfl⟩
def reqO (vo va : Value) (st : Int) (pl : Value) (k v : Int) : Obj := .cells #[vo, va, .int .i64 st, pl, .int .i64 k, .int .i64 v] 128 (0, 0)
theorem reqO_cells {w : World} {Q : Nat} {vo va pl : Value} {st k v : Int} (h : w.heap[Q]? = some (reqO vo va st pl k v)) :
  (w.cell? ⟨Q, 0, none⟩ = some vo ∧ w.cell? ⟨Q, 1, none⟩ = some va ∧ w.cell? ⟨Q, 2, none⟩ = some (.int .i64 st) ∧ w.cell? ⟨Q, 3, none⟩ = some pl ∧ w.cell? ⟨Q, 4, none⟩ = some (.int .i64 k) ∧ w.cell? ⟨Q, 5, none⟩ = some (.int .i64 v)) ∧ ∀ j, w.frozen? ⟨Q, j, none⟩ = false := by
 unfold reqO at h
 refine ⟨⟨?_, ?_, ?_, ?_, ?_, ?_⟩, fun j => ?_⟩ <;> simp [World.cell?, World.frozen?, h]
def CliQ (w : World) (R L : Nat) (f tr : Int) (m A Q : Nat) (vo va : Value) (st : Int) (pl : Value) (k v : Int) : Prop :=
 (∃ c, w.heap[R]? = some (cliO L f tr (.slice (some ⟨A, 0, none⟩) 1 c) m)) ∧ w.cell? ⟨A, 0, none⟩ = some (.pointer (some ⟨Q, 0, none⟩)) ∧ w.heap[Q]? = some (reqO vo va st pl k v)
theorem CliQ.only {w w' : World} {S : Nat → Prop} {R L : Nat} {f tr : Int} {m A Q : Nat} {vo va : Value} {st : Int} {pl : Value} {k v : Int} (h : CliQ w R L f tr m A Q vo va st pl k v) (ho : Only S w w') (h1 : ¬ S R) (h2 : ¬ S A) (h3 : ¬ S Q) : CliQ w' R L f tr m A Q vo va st pl k v := by
 obtain ⟨⟨c, g1⟩, g2, g3⟩ := h
 exact ⟨⟨c, ho.heap g1 h1⟩, ho.cell g2 h2, ho.heap g3 h3⟩
theorem CliQ.below {w w' : World} {R L : Nat} {f tr : Int} {m A Q : Nat} {vo va : Value} {st : Int} {pl : Value} {k v : Int} (h : CliQ w R L f tr m A Q vo va st pl k v) (hb : Below w.heap.size w w') : CliQ w' R L f tr m A Q vo va st pl k v := h.only (Only.of_below hb (fun _ => False)) (fun h => h) (fun h => h) (fun h => h)
theorem find1c_ok (w : World) (R L : Nat) (f tr : Int) (m A Q : Nat) (vo va : Value) (st : Int) (pl : Value) (k v : Int) (h : CliQ w R L f tr m A Q vo va st pl k v) : Calls Tryz.prog 45 #[.pointer (some ⟨R, 0, none⟩), .int .i64 0] w fun e w' => e = .returned (.pointer (some ⟨Q, 0, none⟩)) ∧ w = w' := by
 obtain ⟨⟨c, g1⟩, g2, g3⟩ := h
 obtain ⟨⟨-, -, -, r3, -⟩, -⟩ := cliO_cells g1
 clear g1 g3
 go_enter Tryz.func45, Tryz.ntmps45
 go_wp2_with fail
 go_ret
 exact ⟨rfl, rfl⟩
theorem cliLen1_ok (w : World) (R L : Nat) (f tr : Int) (m A Q : Nat) (vo va : Value) (st : Int) (pl : Value) (k v : Int) (h : CliQ w R L f tr m A Q vo va st pl k v) : Calls Tryz.prog 25 #[.pointer (some ⟨R, 0, none⟩)] w fun e w' => e = .returned (.int .i64 1) ∧ w = w' := by
 obtain ⟨⟨c, g1⟩, g2, g3⟩ := h
 obtain ⟨⟨-, -, -, r3, -⟩, -⟩ := cliO_cells g1
 clear g1 g3
 go_enter Tryz.func25, Tryz.ntmps25
 go_wp2_with fail
 go_ret
 exact ⟨rfl, rfl⟩
theorem ivs_one (l : List Int) : ∀ u ∈ ivs l, u.oneCell' = true := by
 intro u hu
 obtain ⟨x, _, rfl⟩ := List.mem_map.1 hu
 rfl
theorem own_first {w : World} {base g cap : Nat} {e : TypeId} {u : Value} (h : w.ownsRow base e 1 (.slice (some ⟨g, 0, none⟩) 1 cap) 1 [u]) : w.cell? ⟨g, 0, none⟩ = some u := by
 obtain ⟨A, n, c, hv, hn, _, _, hx⟩ := Rd.of_own (F := fun _ => True) h (fun _ _ => trivial)
 injection hv with e1 e2 e3
 subst e1 e2
 obtain ⟨b, o, e4, _, hc⟩ := hx (by decide)
 injection e4 with e4
 injection e4 with e5 e6
 subst e5 e6
 simpa using hc 0 u rfl
theorem Tryz.infoRq : (Tryz.prog.info? 124).map (fun i => (i.zero, i.size, i.bytes)) = some (some (.pointer none), 1, 8) := by kernel_rfl
def SubP (w : World) (e : FE) (R L : Nat) (f tr : Int) (m : Nat) (x : Ending) (w' : World) : Prop :=
 (entE e ≠ 0 ∧ x = .returned (.tuple #[.int .i64 0, .int .i64 (entE e)]) ∧ Below w.heap.size w w') ∨
 (entE e = 0 ∧ x = .returned (.tuple #[.int .i64 0, .int .i64 0]) ∧ ∃ A Q vo va, CliQ w' R L f tr m A Q vo va 1 (.slice none 0 0) 0 0 ∧ w.heap.size ≤ A ∧ w.heap.size ≤ Q ∧ A ≠ Q ∧ OpRd w' (fun _ => True) vo e.ops ∧ Rd w' (fun _ => True) va (ivs e.args) ∧ Only (fun k => k = R) w w')
set_option maxHeartbeats 8000000 in
theorem cliSubmit_ok (w : World) (G : Nat → Prop) (R L : Nat) (f tr : Int) (m : Nat) (h : CliE w R L f tr m) (l : List POp) (args : List Int) (vo va : Value) (hE : EntRd w G ⟨0, l, args, []⟩ vo va (.slice none 0 0)) (hs : ShTab w) (hl : l.length ≤ 1000) (hal : args.length ≤ 1000) :
  Calls Tryz.prog 18 #[.pointer (some ⟨R, 0, none⟩), vo, va] w (SubP w ⟨0, l, args, []⟩ R L f tr m) := by
 obtain ⟨⟨-, -, -, r3, -⟩, -⟩ := cliO_cells h.1
 obtain ⟨Ao, co, rfl, -⟩ := hE.1.slice
 obtain ⟨Aa, ca, rfl, -⟩ := ivs_slice hE.2.1
 have HF := Lib.hid (fcheck_ok w G _ _ _ _ hE hs (by simp))
 unfold entV at HF
 have H := Lib.hid (And.intro h (And.intro hE (And.intro hl hal)))
 obtain ⟨i0, hi, hz0, hz1, hz2⟩ := info_parts Tryz.infoRq
 have HHI := Lib.hid (And.intro hi (And.intro hz0 (And.intro hz1 hz2)))
 clear h hE hs hl hal hi hz0 hz1 hz2
 go_enter Tryz.func18, Tryz.ntmps18
 go_wp2_with fail
 refine HF.out.mono ?_
 rintro e w2 ⟨rfl, hb2⟩
 have h2 := (Only.of_below hb2 (fun _ => False)).heap H.out.1.1 (fun h => h)
 have H2 := Lib.hid (And.intro hb2 (And.intro h2 (H.out.2.1.below hb2)))
 clear HF r3 hb2 h2
 have HRl := Lib.hid (Array.getElem?_eq_some_iff.1 H.out.1.1).1
 by_cases h0 : entE ⟨0, l, args, []⟩ = 0
 ·have H0 := Lib.hid h0
  rw [h0]
  clear h0
  go_wp2_with fail
  have HR := Lib.hid (show Below w2.heap.size w2 w2.drew ∧ w2.drew.heap[R]? = some (cliO L f tr (.slice none 0 0) m) from ⟨(Below.refl _ _).drew, H2.out.2.1⟩)
  refine wp_region_held_drew (S := (fun w' => Only (fun k => k = R) w2 w')) (by kernel_rfl) ((Only.refl _ _).drew) (fun hHeld => ?_)
  refine goLS [0, 1, 2, 3, 5, 7] ?_
  iterate 6 (refine tlS (v := ?_) (fun wS hSw => ?_) hHeld ?_; rotate_left; (go_simp; try with_reducible rfl); try simp only [pS1, pS2, pS3, pS4])
  refine goES ?_
  refine wpAnyH_ready (rs := [4, 6]) (by kernel_rfl) (by simp) (consS (i := 4) rfl (fun K hK => ?_) (consS (i := 6) rfl (fun K hK => ?_) AllReadyH.nil))
  ·skip
   obtain ⟨⟨-, -, -, r3, -⟩, -⟩ := cliO_cells HR.out.2
   go_simp
   refine hK.out _ _ (hHeld) (fun hHeld2 => ?_)
   clear hK K hHeld r3
   have hHeld := hHeld2
   clear hHeld2
   try simp only [pS1, pS2, pS3, pS4]
   refine ckS 6 (fun K hK => ?_)
   go_simp
   refine (cloneOps_ok _ _ _ l (RdK.below H2.out.2.2.1 HR.out.1) (Nat.le_trans H.out.2.2.1 (by decide))).mono ?_
   rintro e wn ⟨A1, c1, rfl, hw1, hbn⟩
   have hsW := HR.out.1.size
   have HR := Lib.hid (heldB1 HR.out hbn)
   have HO := Lib.hid (show OpRd wn (fun k => ¬ k = R) _ l from RdK.of_own hw1 (op_len _) (by decide) (fun g hg e => by have := (hw1.lt g hg).1; have := H2.out.1.size; have := HRl.out; omega))
   clear hw1 hsW
   try go_simp
   refine hK.out _ _ (hHeld.trans (Only.of_below hbn _) (fun _ _ h => h)) (fun hHeld2 => ?_)
   clear hK K hHeld hbn
   have hHeld := hHeld2
   clear hHeld2
   try simp only [pS1, pS2, pS3, pS4]
   refine ckS 8 (fun K hK => ?_)
   go_simp
   refine (cloneInts_ok _ (ivs args) _ _ (Rd.below H2.out.2.2.2.1 HR.out.1) (ivs_one _) (by have := H.out.2.2.2; simp [ivs]; omega)).mono ?_
   rintro e wn ⟨A2, c2, rfl, hw2, hbn⟩
   have hsW := HR.out.1.size
   have HR := Lib.hid (heldB1 HR.out hbn)
   have HO := Lib.hid (RdK.below HO.out hbn)
   have HI := Lib.hid (show Rd wn (fun k => ¬ k = R) _ (ivs args) from Rd.of_own hw2 (fun g hg e => by have := (hw2.lt g hg).1; have := H2.out.1.size; have := HRl.out; omega))
   clear hw2 hsW
   try go_simp
   refine hK.out _ _ (hHeld.trans (Only.of_below hbn _) (fun _ _ h => h)) (fun hHeld2 => ?_)
   clear hK K hHeld hbn
   have hHeld := hHeld2
   clear hHeld2
   try simp only [pS1, pS2, pS3, pS4]
   refine tkS 9 (v := ?_) (fun wS hSw => ?_) hHeld ?_
   rotate_left
   ·go_simp; try with_reducible rfl
   try simp only [pS1, pS2, pS3, pS4]
   refine ckS 10 (fun K hK => ?_)
   go_simp
   refine hK.out _ _ (hHeld.trans (Only.of_below (new_box _ _) _) (fun _ _ h => h)) (fun hHeld2 => ?_)
   clear hK K hHeld 
   have hHeld := hHeld2
   clear hHeld2
   try simp only [pS1, pS2, pS3, pS4]
   have hs1 := HR.out.1.size
   have kq := heap_alloc_new wn (.cells #[.slice A1 l.length c1, .slice A2 (ivs args).length c2, .int .i64 1, .slice none 0 0, .int .i64 0, .int .i64 0] 128)
   have hbq := new_box wn (.cells #[.slice A1 l.length c1, .slice A2 (ivs args).length c2, .int .i64 1, .slice none 0 0, .int .i64 0, .int .i64 0] 128)
   have HR := Lib.hid (heldB1 HR.out hbq)
   have HO := Lib.hid (RdK.below HO.out hbq)
   have HI := Lib.hid (Rd.below HI.out hbq)
   obtain ⟨Q, hQ⟩ : ∃ x, wn.heap.size = x := ⟨_, rfl⟩
   rw [hQ] at kq ⊢
   generalize wn.alloc (.cells #[.slice A1 l.length c1, .slice A2 (ivs args).length c2, .int .i64 1, .slice none 0 0, .int .i64 0, .int .i64 0] 128) = wq at kq hbq hHeld HR HO HI ⊢
   have KQ := Lib.hid kq
   have HQ := Lib.hid (show w.heap.size ≤ Q by have := H2.out.1.size; omega)
   clear kq hbq hQ hs1
   refine ckS 11 (fun K hK => ?_)
   go_simp
   refine hK.out _ _ (hHeld.trans (Only.of_below (new_box _ _) _) (fun _ _ h => h)) (fun hHeld2 => ?_)
   clear hK K hHeld 
   have hHeld := hHeld2
   clear hHeld2
   try simp only [pS1, pS2, pS3, pS4]
   have kp := heap_alloc_new wq (.cells #[.pointer (some ⟨Q, 0, none⟩)] 124)
   have hbp := new_box wq (.cells #[.pointer (some ⟨Q, 0, none⟩)] 124)
   have HR := Lib.hid (heldB1 HR.out hbp)
   have HO := Lib.hid (RdK.below HO.out hbp)
   have HI := Lib.hid (Rd.below HI.out hbp)
   have KQ := Lib.hid ((Only.of_below hbp (fun _ => False)).heap KQ.out (fun h => h))
   obtain ⟨X, hX⟩ : ∃ x, wq.heap.size = x := ⟨_, rfl⟩
   rw [hX] at kp ⊢
   generalize wq.alloc (.cells #[.pointer (some ⟨Q, 0, none⟩)] 124) = wp at kp hbp hHeld HR HO HI KQ ⊢
   have KP := Lib.hid kp
   have HP := Lib.hid (show w.heap.size ≤ wp.heap.size ∧ Q < wp.heap.size by have := HQ.out; have := (Array.getElem?_eq_some_iff.1 KQ.out).1; omega)
   clear kp hbp hX
   refine ckS 12 (fun K hK => ?_)
   (refine step_append_lies _ (by rfl) _ _ 121 (by rfl) 0 124 i0 _ 1 8 Tryz.underlying121 HHI.out.1 HHI.out.2.1 HHI.out.2.2.1 HHI.out.2.2.2 (by rfl) (by decide) (.slice none 0 0) 0 [] (by rfl) (World.ownsRow_nil _ _ _ _) ⟨X, 0, none⟩ 1 1 [.pointer (some ⟨Q, 0, none⟩)] (by rfl) (by rfl) (World.news_of_block KP.out) (by simp [Value.oneCell']) (by decide) (by unfold maxLen; omega) (by omega) (Nat.zero_le _) _ (by rfl) ?_)
   intro g cap wz hown hgrow hat hglt
   have hbn : Below wp.heap.size wp wz := (Below.refl _ _).grown hgrow (Nat.le_refl _) (fun k hk => by cases hk)
   have HR := Lib.hid (heldB1 HR.out hbn)
   have HO := Lib.hid (RdK.below HO.out hbn)
   have HI := Lib.hid (Rd.below HI.out hbn)
   have KQ := Lib.hid ((Only.of_below hbn (fun _ => False)).heap KQ.out (fun h => h))
   have KA := Lib.hid (And.intro (own_first hown) (show g = wp.heap.size from hat.elim (fun h => by cases h) id))
   clear hown hgrow hat hglt
   simp only [Nat.zero_add]
   refine hK.out _ _ (hHeld.trans (Only.of_below hbn _) (fun _ _ h => h)) (fun hHeld2 => ?_)
   clear hK K hHeld hbn
   have hHeld := hHeld2
   clear hHeld2
   try simp only [pS1, pS2, pS3, pS4]
   refine goLS [13, 14] ?_
   iterate 2 (refine tlS (v := ?_) (fun wS hSw => ?_) hHeld ?_; rotate_left; (go_simp; try with_reducible rfl); try simp only [pS1, pS2, pS3, pS4])
   refine goES ?_
   refine ckS 15 (fun K hK => ?_)
   obtain ⟨⟨-, -, -, r3, -⟩, rf⟩ := cliO_cells HR.out.2
   go_simp
   refine hK.out _ _ (hHeld.trans (Only.set1 _ R 3 _) (fun _ _ h => h)) (fun hHeld2 => ?_)
   clear hK K hHeld r3 rf
   have hHeld := hHeld2
   clear hHeld2
   try simp only [pS1, pS2, pS3, pS4]
   refine wpAnyH_done (by kernel_rfl) ?_ _
   go_wp2_with fail
   go_ret2
   have hs := Only.set1 wz R 3 (.slice (some ⟨g, 0, none⟩) 1 cap)
   have hRl := HRl.out
   have hQ := HQ.out
   have hP := HP.out
   have hg := KA.out.2
   refine .inr ⟨H0.out, rfl, g, Q, _, _, ⟨⟨cap, ?_⟩, hs.cell KA.out.1 (fun e => by have e : g = R := e; omega), hs.heap KQ.out (fun e => by omega)⟩, by omega, hQ, by omega, (RdK.only HO.out hs (fun k h => h)).mono (fun _ _ => trivial), (Rd.only HI.out hs (fun k h => h)).mono (fun _ _ => trivial), (Only.of_below H2.out.1 _).trans hHeld (fun _ _ h => h)⟩
   have := heap_setCell_same wz R 3 _ _ (.slice (some ⟨g, 0, none⟩) 1 cap) HR.out.2
   simpa [cliO] using this
  ·skip
   go_simp
   refine (cloneOps_ok _ _ _ l (RdK.below H2.out.2.2.1 HR.out.1) (Nat.le_trans H.out.2.2.1 (by decide))).mono ?_
   rintro e wn ⟨A1, c1, rfl, hw1, hbn⟩
   have hsW := HR.out.1.size
   have HR := Lib.hid (heldB1 HR.out hbn)
   have HO := Lib.hid (show OpRd wn (fun k => ¬ k = R) _ l from RdK.of_own hw1 (op_len _) (by decide) (fun g hg e => by have := (hw1.lt g hg).1; have := H2.out.1.size; have := HRl.out; omega))
   clear hw1 hsW
   try go_simp
   refine hK.out _ _ (hHeld.trans (Only.of_below hbn _) (fun _ _ h => h)) (fun hHeld2 => ?_)
   clear hK K hHeld hbn
   have hHeld := hHeld2
   clear hHeld2
   try simp only [pS1, pS2, pS3, pS4]
   refine wpAnyH_ready (rs := [4, 8]) (by kernel_rfl) (by simp) (consS (i := 4) rfl (fun K hK => ?_) (consS (i := 8) rfl (fun K hK => ?_) AllReadyH.nil))
   ·skip
    obtain ⟨⟨-, -, -, r3, -⟩, -⟩ := cliO_cells HR.out.2
    go_simp
    refine hK.out _ _ (hHeld) (fun hHeld2 => ?_)
    clear hK K hHeld r3
    have hHeld := hHeld2
    clear hHeld2
    try simp only [pS1, pS2, pS3, pS4]
    refine ckS 8 (fun K hK => ?_)
    go_simp
    refine (cloneInts_ok _ (ivs args) _ _ (Rd.below H2.out.2.2.2.1 HR.out.1) (ivs_one _) (by have := H.out.2.2.2; simp [ivs]; omega)).mono ?_
    rintro e wn ⟨A2, c2, rfl, hw2, hbn⟩
    have hsW := HR.out.1.size
    have HR := Lib.hid (heldB1 HR.out hbn)
    have HO := Lib.hid (RdK.below HO.out hbn)
    have HI := Lib.hid (show Rd wn (fun k => ¬ k = R) _ (ivs args) from Rd.of_own hw2 (fun g hg e => by have := (hw2.lt g hg).1; have := H2.out.1.size; have := HRl.out; omega))
    clear hw2 hsW
    try go_simp
    refine hK.out _ _ (hHeld.trans (Only.of_below hbn _) (fun _ _ h => h)) (fun hHeld2 => ?_)
    clear hK K hHeld hbn
    have hHeld := hHeld2
    clear hHeld2
    try simp only [pS1, pS2, pS3, pS4]
    refine tkS 9 (v := ?_) (fun wS hSw => ?_) hHeld ?_
    rotate_left
    ·go_simp; try with_reducible rfl
    try simp only [pS1, pS2, pS3, pS4]
    refine ckS 10 (fun K hK => ?_)
    go_simp
    refine hK.out _ _ (hHeld.trans (Only.of_below (new_box _ _) _) (fun _ _ h => h)) (fun hHeld2 => ?_)
    clear hK K hHeld 
    have hHeld := hHeld2
    clear hHeld2
    try simp only [pS1, pS2, pS3, pS4]
    have hs1 := HR.out.1.size
    have kq := heap_alloc_new wn (.cells #[.slice A1 l.length c1, .slice A2 (ivs args).length c2, .int .i64 1, .slice none 0 0, .int .i64 0, .int .i64 0] 128)
    have hbq := new_box wn (.cells #[.slice A1 l.length c1, .slice A2 (ivs args).length c2, .int .i64 1, .slice none 0 0, .int .i64 0, .int .i64 0] 128)
    have HR := Lib.hid (heldB1 HR.out hbq)
    have HO := Lib.hid (RdK.below HO.out hbq)
    have HI := Lib.hid (Rd.below HI.out hbq)
    obtain ⟨Q, hQ⟩ : ∃ x, wn.heap.size = x := ⟨_, rfl⟩
    rw [hQ] at kq ⊢
    generalize wn.alloc (.cells #[.slice A1 l.length c1, .slice A2 (ivs args).length c2, .int .i64 1, .slice none 0 0, .int .i64 0, .int .i64 0] 128) = wq at kq hbq hHeld HR HO HI ⊢
    have KQ := Lib.hid kq
    have HQ := Lib.hid (show w.heap.size ≤ Q by have := H2.out.1.size; omega)
    clear kq hbq hQ hs1
    refine ckS 11 (fun K hK => ?_)
    go_simp
    refine hK.out _ _ (hHeld.trans (Only.of_below (new_box _ _) _) (fun _ _ h => h)) (fun hHeld2 => ?_)
    clear hK K hHeld 
    have hHeld := hHeld2
    clear hHeld2
    try simp only [pS1, pS2, pS3, pS4]
    have kp := heap_alloc_new wq (.cells #[.pointer (some ⟨Q, 0, none⟩)] 124)
    have hbp := new_box wq (.cells #[.pointer (some ⟨Q, 0, none⟩)] 124)
    have HR := Lib.hid (heldB1 HR.out hbp)
    have HO := Lib.hid (RdK.below HO.out hbp)
    have HI := Lib.hid (Rd.below HI.out hbp)
    have KQ := Lib.hid ((Only.of_below hbp (fun _ => False)).heap KQ.out (fun h => h))
    obtain ⟨X, hX⟩ : ∃ x, wq.heap.size = x := ⟨_, rfl⟩
    rw [hX] at kp ⊢
    generalize wq.alloc (.cells #[.pointer (some ⟨Q, 0, none⟩)] 124) = wp at kp hbp hHeld HR HO HI KQ ⊢
    have KP := Lib.hid kp
    have HP := Lib.hid (show w.heap.size ≤ wp.heap.size ∧ Q < wp.heap.size by have := HQ.out; have := (Array.getElem?_eq_some_iff.1 KQ.out).1; omega)
    clear kp hbp hX
    refine ckS 12 (fun K hK => ?_)
    (refine step_append_lies _ (by rfl) _ _ 121 (by rfl) 0 124 i0 _ 1 8 Tryz.underlying121 HHI.out.1 HHI.out.2.1 HHI.out.2.2.1 HHI.out.2.2.2 (by rfl) (by decide) (.slice none 0 0) 0 [] (by rfl) (World.ownsRow_nil _ _ _ _) ⟨X, 0, none⟩ 1 1 [.pointer (some ⟨Q, 0, none⟩)] (by rfl) (by rfl) (World.news_of_block KP.out) (by simp [Value.oneCell']) (by decide) (by unfold maxLen; omega) (by omega) (Nat.zero_le _) _ (by rfl) ?_)
    intro g cap wz hown hgrow hat hglt
    have hbn : Below wp.heap.size wp wz := (Below.refl _ _).grown hgrow (Nat.le_refl _) (fun k hk => by cases hk)
    have HR := Lib.hid (heldB1 HR.out hbn)
    have HO := Lib.hid (RdK.below HO.out hbn)
    have HI := Lib.hid (Rd.below HI.out hbn)
    have KQ := Lib.hid ((Only.of_below hbn (fun _ => False)).heap KQ.out (fun h => h))
    have KA := Lib.hid (And.intro (own_first hown) (show g = wp.heap.size from hat.elim (fun h => by cases h) id))
    clear hown hgrow hat hglt
    simp only [Nat.zero_add]
    refine hK.out _ _ (hHeld.trans (Only.of_below hbn _) (fun _ _ h => h)) (fun hHeld2 => ?_)
    clear hK K hHeld hbn
    have hHeld := hHeld2
    clear hHeld2
    try simp only [pS1, pS2, pS3, pS4]
    refine goLS [13, 14] ?_
    iterate 2 (refine tlS (v := ?_) (fun wS hSw => ?_) hHeld ?_; rotate_left; (go_simp; try with_reducible rfl); try simp only [pS1, pS2, pS3, pS4])
    refine goES ?_
    refine ckS 15 (fun K hK => ?_)
    obtain ⟨⟨-, -, -, r3, -⟩, rf⟩ := cliO_cells HR.out.2
    go_simp
    refine hK.out _ _ (hHeld.trans (Only.set1 _ R 3 _) (fun _ _ h => h)) (fun hHeld2 => ?_)
    clear hK K hHeld r3 rf
    have hHeld := hHeld2
    clear hHeld2
    try simp only [pS1, pS2, pS3, pS4]
    refine wpAnyH_done (by kernel_rfl) ?_ _
    go_wp2_with fail
    go_ret2
    have hs := Only.set1 wz R 3 (.slice (some ⟨g, 0, none⟩) 1 cap)
    have hRl := HRl.out
    have hQ := HQ.out
    have hP := HP.out
    have hg := KA.out.2
    refine .inr ⟨H0.out, rfl, g, Q, _, _, ⟨⟨cap, ?_⟩, hs.cell KA.out.1 (fun e => by have e : g = R := e; omega), hs.heap KQ.out (fun e => by omega)⟩, by omega, hQ, by omega, (RdK.only HO.out hs (fun k h => h)).mono (fun _ _ => trivial), (Rd.only HI.out hs (fun k h => h)).mono (fun _ _ => trivial), (Only.of_below H2.out.1 _).trans hHeld (fun _ _ h => h)⟩
    have := heap_setCell_same wz R 3 _ _ (.slice (some ⟨g, 0, none⟩) 1 cap) HR.out.2
    simpa [cliO] using this
   ·skip
    go_simp
    refine (cloneInts_ok _ (ivs args) _ _ (Rd.below H2.out.2.2.2.1 HR.out.1) (ivs_one _) (by have := H.out.2.2.2; simp [ivs]; omega)).mono ?_
    rintro e wn ⟨A2, c2, rfl, hw2, hbn⟩
    have hsW := HR.out.1.size
    have HR := Lib.hid (heldB1 HR.out hbn)
    have HO := Lib.hid (RdK.below HO.out hbn)
    have HI := Lib.hid (show Rd wn (fun k => ¬ k = R) _ (ivs args) from Rd.of_own hw2 (fun g hg e => by have := (hw2.lt g hg).1; have := H2.out.1.size; have := HRl.out; omega))
    clear hw2 hsW
    try go_simp
    refine hK.out _ _ (hHeld.trans (Only.of_below hbn _) (fun _ _ h => h)) (fun hHeld2 => ?_)
    clear hK K hHeld hbn
    have hHeld := hHeld2
    clear hHeld2
    try simp only [pS1, pS2, pS3, pS4]
    refine tkS 9 (v := ?_) (fun wS hSw => ?_) hHeld ?_
    rotate_left
    ·go_simp; try with_reducible rfl
    try simp only [pS1, pS2, pS3, pS4]
    refine wpAnyH_ready (rs := [4, 10]) (by kernel_rfl) (by simp) (consS (i := 4) rfl (fun K hK => ?_) (consS (i := 10) rfl (fun K hK => ?_) AllReadyH.nil))
    ·skip
     obtain ⟨⟨-, -, -, r3, -⟩, -⟩ := cliO_cells HR.out.2
     go_simp
     refine hK.out _ _ (hHeld) (fun hHeld2 => ?_)
     clear hK K hHeld r3
     have hHeld := hHeld2
     clear hHeld2
     try simp only [pS1, pS2, pS3, pS4]
     refine ckS 10 (fun K hK => ?_)
     go_simp
     refine hK.out _ _ (hHeld.trans (Only.of_below (new_box _ _) _) (fun _ _ h => h)) (fun hHeld2 => ?_)
     clear hK K hHeld 
     have hHeld := hHeld2
     clear hHeld2
     try simp only [pS1, pS2, pS3, pS4]
     have hs1 := HR.out.1.size
     have kq := heap_alloc_new wn (.cells #[.slice A1 l.length c1, .slice A2 (ivs args).length c2, .int .i64 1, .slice none 0 0, .int .i64 0, .int .i64 0] 128)
     have hbq := new_box wn (.cells #[.slice A1 l.length c1, .slice A2 (ivs args).length c2, .int .i64 1, .slice none 0 0, .int .i64 0, .int .i64 0] 128)
     have HR := Lib.hid (heldB1 HR.out hbq)
     have HO := Lib.hid (RdK.below HO.out hbq)
     have HI := Lib.hid (Rd.below HI.out hbq)
     obtain ⟨Q, hQ⟩ : ∃ x, wn.heap.size = x := ⟨_, rfl⟩
     rw [hQ] at kq ⊢
     generalize wn.alloc (.cells #[.slice A1 l.length c1, .slice A2 (ivs args).length c2, .int .i64 1, .slice none 0 0, .int .i64 0, .int .i64 0] 128) = wq at kq hbq hHeld HR HO HI ⊢
     have KQ := Lib.hid kq
     have HQ := Lib.hid (show w.heap.size ≤ Q by have := H2.out.1.size; omega)
     clear kq hbq hQ hs1
     refine ckS 11 (fun K hK => ?_)
     go_simp
     refine hK.out _ _ (hHeld.trans (Only.of_below (new_box _ _) _) (fun _ _ h => h)) (fun hHeld2 => ?_)
     clear hK K hHeld 
     have hHeld := hHeld2
     clear hHeld2
     try simp only [pS1, pS2, pS3, pS4]
     have kp := heap_alloc_new wq (.cells #[.pointer (some ⟨Q, 0, none⟩)] 124)
     have hbp := new_box wq (.cells #[.pointer (some ⟨Q, 0, none⟩)] 124)
     have HR := Lib.hid (heldB1 HR.out hbp)
     have HO := Lib.hid (RdK.below HO.out hbp)
     have HI := Lib.hid (Rd.below HI.out hbp)
     have KQ := Lib.hid ((Only.of_below hbp (fun _ => False)).heap KQ.out (fun h => h))
     obtain ⟨X, hX⟩ : ∃ x, wq.heap.size = x := ⟨_, rfl⟩
     rw [hX] at kp ⊢
     generalize wq.alloc (.cells #[.pointer (some ⟨Q, 0, none⟩)] 124) = wp at kp hbp hHeld HR HO HI KQ ⊢
     have KP := Lib.hid kp
     have HP := Lib.hid (show w.heap.size ≤ wp.heap.size ∧ Q < wp.heap.size by have := HQ.out; have := (Array.getElem?_eq_some_iff.1 KQ.out).1; omega)
     clear kp hbp hX
     refine ckS 12 (fun K hK => ?_)
     (refine step_append_lies _ (by rfl) _ _ 121 (by rfl) 0 124 i0 _ 1 8 Tryz.underlying121 HHI.out.1 HHI.out.2.1 HHI.out.2.2.1 HHI.out.2.2.2 (by rfl) (by decide) (.slice none 0 0) 0 [] (by rfl) (World.ownsRow_nil _ _ _ _) ⟨X, 0, none⟩ 1 1 [.pointer (some ⟨Q, 0, none⟩)] (by rfl) (by rfl) (World.news_of_block KP.out) (by simp [Value.oneCell']) (by decide) (by unfold maxLen; omega) (by omega) (Nat.zero_le _) _ (by rfl) ?_)
     intro g cap wz hown hgrow hat hglt
     have hbn : Below wp.heap.size wp wz := (Below.refl _ _).grown hgrow (Nat.le_refl _) (fun k hk => by cases hk)
     have HR := Lib.hid (heldB1 HR.out hbn)
     have HO := Lib.hid (RdK.below HO.out hbn)
     have HI := Lib.hid (Rd.below HI.out hbn)
     have KQ := Lib.hid ((Only.of_below hbn (fun _ => False)).heap KQ.out (fun h => h))
     have KA := Lib.hid (And.intro (own_first hown) (show g = wp.heap.size from hat.elim (fun h => by cases h) id))
     clear hown hgrow hat hglt
     simp only [Nat.zero_add]
     refine hK.out _ _ (hHeld.trans (Only.of_below hbn _) (fun _ _ h => h)) (fun hHeld2 => ?_)
     clear hK K hHeld hbn
     have hHeld := hHeld2
     clear hHeld2
     try simp only [pS1, pS2, pS3, pS4]
     refine goLS [13, 14] ?_
     iterate 2 (refine tlS (v := ?_) (fun wS hSw => ?_) hHeld ?_; rotate_left; (go_simp; try with_reducible rfl); try simp only [pS1, pS2, pS3, pS4])
     refine goES ?_
     refine ckS 15 (fun K hK => ?_)
     obtain ⟨⟨-, -, -, r3, -⟩, rf⟩ := cliO_cells HR.out.2
     go_simp
     refine hK.out _ _ (hHeld.trans (Only.set1 _ R 3 _) (fun _ _ h => h)) (fun hHeld2 => ?_)
     clear hK K hHeld r3 rf
     have hHeld := hHeld2
     clear hHeld2
     try simp only [pS1, pS2, pS3, pS4]
     refine wpAnyH_done (by kernel_rfl) ?_ _
     go_wp2_with fail
     go_ret2
     have hs := Only.set1 wz R 3 (.slice (some ⟨g, 0, none⟩) 1 cap)
     have hRl := HRl.out
     have hQ := HQ.out
     have hP := HP.out
     have hg := KA.out.2
     refine .inr ⟨H0.out, rfl, g, Q, _, _, ⟨⟨cap, ?_⟩, hs.cell KA.out.1 (fun e => by have e : g = R := e; omega), hs.heap KQ.out (fun e => by omega)⟩, by omega, hQ, by omega, (RdK.only HO.out hs (fun k h => h)).mono (fun _ _ => trivial), (Rd.only HI.out hs (fun k h => h)).mono (fun _ _ => trivial), (Only.of_below H2.out.1 _).trans hHeld (fun _ _ h => h)⟩
     have := heap_setCell_same wz R 3 _ _ (.slice (some ⟨g, 0, none⟩) 1 cap) HR.out.2
     simpa [cliO] using this
    ·skip
     go_simp
     refine hK.out _ _ (hHeld.trans (Only.of_below (new_box _ _) _) (fun _ _ h => h)) (fun hHeld2 => ?_)
     clear hK K hHeld 
     have hHeld := hHeld2
     clear hHeld2
     try simp only [pS1, pS2, pS3, pS4]
     have hs1 := HR.out.1.size
     have kq := heap_alloc_new wn (.cells #[.slice A1 l.length c1, .slice A2 (ivs args).length c2, .int .i64 1, .slice none 0 0, .int .i64 0, .int .i64 0] 128)
     have hbq := new_box wn (.cells #[.slice A1 l.length c1, .slice A2 (ivs args).length c2, .int .i64 1, .slice none 0 0, .int .i64 0, .int .i64 0] 128)
     have HR := Lib.hid (heldB1 HR.out hbq)
     have HO := Lib.hid (RdK.below HO.out hbq)
     have HI := Lib.hid (Rd.below HI.out hbq)
     obtain ⟨Q, hQ⟩ : ∃ x, wn.heap.size = x := ⟨_, rfl⟩
     rw [hQ] at kq ⊢
     generalize wn.alloc (.cells #[.slice A1 l.length c1, .slice A2 (ivs args).length c2, .int .i64 1, .slice none 0 0, .int .i64 0, .int .i64 0] 128) = wq at kq hbq hHeld HR HO HI ⊢
     have KQ := Lib.hid kq
     have HQ := Lib.hid (show w.heap.size ≤ Q by have := H2.out.1.size; omega)
     clear kq hbq hQ hs1
     refine wpAnyH_ready (rs := [4, 11]) (by kernel_rfl) (by simp) (consS (i := 4) rfl (fun K hK => ?_) (consS (i := 11) rfl (fun K hK => ?_) AllReadyH.nil))
     ·skip
      obtain ⟨⟨-, -, -, r3, -⟩, -⟩ := cliO_cells HR.out.2
      go_simp
      refine hK.out _ _ (hHeld) (fun hHeld2 => ?_)
      clear hK K hHeld r3
      have hHeld := hHeld2
      clear hHeld2
      try simp only [pS1, pS2, pS3, pS4]
      refine ckS 11 (fun K hK => ?_)
      go_simp
      refine hK.out _ _ (hHeld.trans (Only.of_below (new_box _ _) _) (fun _ _ h => h)) (fun hHeld2 => ?_)
      clear hK K hHeld 
      have hHeld := hHeld2
      clear hHeld2
      try simp only [pS1, pS2, pS3, pS4]
      have kp := heap_alloc_new wq (.cells #[.pointer (some ⟨Q, 0, none⟩)] 124)
      have hbp := new_box wq (.cells #[.pointer (some ⟨Q, 0, none⟩)] 124)
      have HR := Lib.hid (heldB1 HR.out hbp)
      have HO := Lib.hid (RdK.below HO.out hbp)
      have HI := Lib.hid (Rd.below HI.out hbp)
      have KQ := Lib.hid ((Only.of_below hbp (fun _ => False)).heap KQ.out (fun h => h))
      obtain ⟨X, hX⟩ : ∃ x, wq.heap.size = x := ⟨_, rfl⟩
      rw [hX] at kp ⊢
      generalize wq.alloc (.cells #[.pointer (some ⟨Q, 0, none⟩)] 124) = wp at kp hbp hHeld HR HO HI KQ ⊢
      have KP := Lib.hid kp
      have HP := Lib.hid (show w.heap.size ≤ wp.heap.size ∧ Q < wp.heap.size by have := HQ.out; have := (Array.getElem?_eq_some_iff.1 KQ.out).1; omega)
      clear kp hbp hX
      refine ckS 12 (fun K hK => ?_)
      (refine step_append_lies _ (by rfl) _ _ 121 (by rfl) 0 124 i0 _ 1 8 Tryz.underlying121 HHI.out.1 HHI.out.2.1 HHI.out.2.2.1 HHI.out.2.2.2 (by rfl) (by decide) (.slice none 0 0) 0 [] (by rfl) (World.ownsRow_nil _ _ _ _) ⟨X, 0, none⟩ 1 1 [.pointer (some ⟨Q, 0, none⟩)] (by rfl) (by rfl) (World.news_of_block KP.out) (by simp [Value.oneCell']) (by decide) (by unfold maxLen; omega) (by omega) (Nat.zero_le _) _ (by rfl) ?_)
      intro g cap wz hown hgrow hat hglt
      have hbn : Below wp.heap.size wp wz := (Below.refl _ _).grown hgrow (Nat.le_refl _) (fun k hk => by cases hk)
      have HR := Lib.hid (heldB1 HR.out hbn)
      have HO := Lib.hid (RdK.below HO.out hbn)
      have HI := Lib.hid (Rd.below HI.out hbn)
      have KQ := Lib.hid ((Only.of_below hbn (fun _ => False)).heap KQ.out (fun h => h))
      have KA := Lib.hid (And.intro (own_first hown) (show g = wp.heap.size from hat.elim (fun h => by cases h) id))
      clear hown hgrow hat hglt
      simp only [Nat.zero_add]
      refine hK.out _ _ (hHeld.trans (Only.of_below hbn _) (fun _ _ h => h)) (fun hHeld2 => ?_)
      clear hK K hHeld hbn
      have hHeld := hHeld2
      clear hHeld2
      try simp only [pS1, pS2, pS3, pS4]
      refine goLS [13, 14] ?_
      iterate 2 (refine tlS (v := ?_) (fun wS hSw => ?_) hHeld ?_; rotate_left; (go_simp; try with_reducible rfl); try simp only [pS1, pS2, pS3, pS4])
      refine goES ?_
      refine ckS 15 (fun K hK => ?_)
      obtain ⟨⟨-, -, -, r3, -⟩, rf⟩ := cliO_cells HR.out.2
      go_simp
      refine hK.out _ _ (hHeld.trans (Only.set1 _ R 3 _) (fun _ _ h => h)) (fun hHeld2 => ?_)
      clear hK K hHeld r3 rf
      have hHeld := hHeld2
      clear hHeld2
      try simp only [pS1, pS2, pS3, pS4]
      refine wpAnyH_done (by kernel_rfl) ?_ _
      go_wp2_with fail
      go_ret2
      have hs := Only.set1 wz R 3 (.slice (some ⟨g, 0, none⟩) 1 cap)
      have hRl := HRl.out
      have hQ := HQ.out
      have hP := HP.out
      have hg := KA.out.2
      refine .inr ⟨H0.out, rfl, g, Q, _, _, ⟨⟨cap, ?_⟩, hs.cell KA.out.1 (fun e => by have e : g = R := e; omega), hs.heap KQ.out (fun e => by omega)⟩, by omega, hQ, by omega, (RdK.only HO.out hs (fun k h => h)).mono (fun _ _ => trivial), (Rd.only HI.out hs (fun k h => h)).mono (fun _ _ => trivial), (Only.of_below H2.out.1 _).trans hHeld (fun _ _ h => h)⟩
      have := heap_setCell_same wz R 3 _ _ (.slice (some ⟨g, 0, none⟩) 1 cap) HR.out.2
      simpa [cliO] using this
     ·skip
      go_simp
      refine hK.out _ _ (hHeld.trans (Only.of_below (new_box _ _) _) (fun _ _ h => h)) (fun hHeld2 => ?_)
      clear hK K hHeld 
      have hHeld := hHeld2
      clear hHeld2
      try simp only [pS1, pS2, pS3, pS4]
      have kp := heap_alloc_new wq (.cells #[.pointer (some ⟨Q, 0, none⟩)] 124)
      have hbp := new_box wq (.cells #[.pointer (some ⟨Q, 0, none⟩)] 124)
      have HR := Lib.hid (heldB1 HR.out hbp)
      have HO := Lib.hid (RdK.below HO.out hbp)
      have HI := Lib.hid (Rd.below HI.out hbp)
      have KQ := Lib.hid ((Only.of_below hbp (fun _ => False)).heap KQ.out (fun h => h))
      obtain ⟨X, hX⟩ : ∃ x, wq.heap.size = x := ⟨_, rfl⟩
      rw [hX] at kp ⊢
      generalize wq.alloc (.cells #[.pointer (some ⟨Q, 0, none⟩)] 124) = wp at kp hbp hHeld HR HO HI KQ ⊢
      have KP := Lib.hid kp
      have HP := Lib.hid (show w.heap.size ≤ wp.heap.size ∧ Q < wp.heap.size by have := HQ.out; have := (Array.getElem?_eq_some_iff.1 KQ.out).1; omega)
      clear kp hbp hX
      refine ckS 4 (fun K hK => ?_)
      obtain ⟨⟨-, -, -, r3, -⟩, -⟩ := cliO_cells HR.out.2
      go_simp
      refine hK.out _ _ (hHeld) (fun hHeld2 => ?_)
      clear hK K hHeld r3
      have hHeld := hHeld2
      clear hHeld2
      try simp only [pS1, pS2, pS3, pS4]
      refine ckS 12 (fun K hK => ?_)
      (refine step_append_lies _ (by rfl) _ _ 121 (by rfl) 0 124 i0 _ 1 8 Tryz.underlying121 HHI.out.1 HHI.out.2.1 HHI.out.2.2.1 HHI.out.2.2.2 (by rfl) (by decide) (.slice none 0 0) 0 [] (by rfl) (World.ownsRow_nil _ _ _ _) ⟨X, 0, none⟩ 1 1 [.pointer (some ⟨Q, 0, none⟩)] (by rfl) (by rfl) (World.news_of_block KP.out) (by simp [Value.oneCell']) (by decide) (by unfold maxLen; omega) (by omega) (Nat.zero_le _) _ (by rfl) ?_)
      intro g cap wz hown hgrow hat hglt
      have hbn : Below wp.heap.size wp wz := (Below.refl _ _).grown hgrow (Nat.le_refl _) (fun k hk => by cases hk)
      have HR := Lib.hid (heldB1 HR.out hbn)
      have HO := Lib.hid (RdK.below HO.out hbn)
      have HI := Lib.hid (Rd.below HI.out hbn)
      have KQ := Lib.hid ((Only.of_below hbn (fun _ => False)).heap KQ.out (fun h => h))
      have KA := Lib.hid (And.intro (own_first hown) (show g = wp.heap.size from hat.elim (fun h => by cases h) id))
      clear hown hgrow hat hglt
      simp only [Nat.zero_add]
      refine hK.out _ _ (hHeld.trans (Only.of_below hbn _) (fun _ _ h => h)) (fun hHeld2 => ?_)
      clear hK K hHeld hbn
      have hHeld := hHeld2
      clear hHeld2
      try simp only [pS1, pS2, pS3, pS4]
      refine goLS [13, 14] ?_
      iterate 2 (refine tlS (v := ?_) (fun wS hSw => ?_) hHeld ?_; rotate_left; (go_simp; try with_reducible rfl); try simp only [pS1, pS2, pS3, pS4])
      refine goES ?_
      refine ckS 15 (fun K hK => ?_)
      obtain ⟨⟨-, -, -, r3, -⟩, rf⟩ := cliO_cells HR.out.2
      go_simp
      refine hK.out _ _ (hHeld.trans (Only.set1 _ R 3 _) (fun _ _ h => h)) (fun hHeld2 => ?_)
      clear hK K hHeld r3 rf
      have hHeld := hHeld2
      clear hHeld2
      try simp only [pS1, pS2, pS3, pS4]
      refine wpAnyH_done (by kernel_rfl) ?_ _
      go_wp2_with fail
      go_ret2
      have hs := Only.set1 wz R 3 (.slice (some ⟨g, 0, none⟩) 1 cap)
      have hRl := HRl.out
      have hQ := HQ.out
      have hP := HP.out
      have hg := KA.out.2
      refine .inr ⟨H0.out, rfl, g, Q, _, _, ⟨⟨cap, ?_⟩, hs.cell KA.out.1 (fun e => by have e : g = R := e; omega), hs.heap KQ.out (fun e => by omega)⟩, by omega, hQ, by omega, (RdK.only HO.out hs (fun k h => h)).mono (fun _ _ => trivial), (Rd.only HI.out hs (fun k h => h)).mono (fun _ _ => trivial), (Only.of_below H2.out.1 _).trans hHeld (fun _ _ h => h)⟩
      have := heap_setCell_same wz R 3 _ _ (.slice (some ⟨g, 0, none⟩) 1 cap) HR.out.2
      simpa [cliO] using this
 ·have H0 := Lib.hid h0
  go_wp2_with fail
  go_ret2
  exact .inl ⟨H0.out, rfl, H2.out.1⟩
end
section
open Go.RowKit Go.Maps Go.WideShapes
theorem ClRd.nil0 {w w' : World} {F F' : Nat → Prop} {v : Value} (h : ClRd w F v []) : ClRd w' F' v [] := by
 obtain ⟨A, n, c, rfl, hl, h1, h2, _⟩ := h
 exact ⟨A, n, c, rfl, hl, h1, h2, fun h => absurd h (by simp at hl; omega)⟩
theorem OpRd.nil0 {w w' : World} {F F' : Nat → Prop} {v : Value} (h : OpRd w F v []) : OpRd w' F' v [] := by
 obtain ⟨A, n, c, rfl, hl, h1, h2, _⟩ := h
 exact ⟨A, n, c, rfl, hl, h1, h2, fun h => absurd h (by simp at hl; omega)⟩
theorem Rd.nil0 {w w' : World} {F F' : Nat → Prop} {v : Value} (h : Rd w F v []) : Rd w' F' v [] := by
 obtain ⟨A, n, c, rfl, hl, h1, h2, _⟩ := h
 exact ⟨A, n, c, rfl, hl, h1, h2, fun h => absurd h (by simp at hl; omega)⟩
theorem runNil_ok (w : World) (F G : Nat → Prop) (vo va : Value) (B : Nat) (hops : OpRd w F vo []) (hargs : Rd w G va []) (hs : ShTab w) :
  Calls Tryz.prog 36 #[vo, va, .pointer (some ⟨B, 0, none⟩), .int .i64 100, .pointer none] w fun e w' => ∃ A c, e = .returned (.tuple #[.agg #[.int .i64 0, .int .i64 0, .slice A 0 c, .int .i64 0], .int .i64 0]) ∧
   ClRd w' (fun _ => True) (.slice A 0 c) [] ∧ Below w.heap.size w w' := by
 have hrun := run_ok (K := Still w) (T := fun _ => False) (F := G) (act := fun _ s => (s, 0)) w [] vo va [] B 100 (.pointer none) (fun _ => true) () (RdK.mono hops (fun _ _ h => h)) (by decide) hs hargs (by decide) (by simp) (by decide) (.inl ⟨rfl, fun _ => rfl⟩)
  ⟨fun k hk => hk.elim, Below.refl _ _⟩ (still_ok w) (fun _ h => h.elim) (fun c _ _ _ _ _ _ _ _ _ i x _ hi _ => absurd hi (by simp))
 have hb : blockP 100 ([] : List POp) (fun _ s => (s, 0)) (([] : List POp).length : Nat) ([] : List POp).length (startP (R := Unit) [] ()) = (startP [] (), 0) := rfl
 rw [hb] at hrun
 refine hrun.mono ?_
 rintro e w4 ⟨f, rfl, hf, hfl, hfg, _, ho4⟩
 have hn : normF (startP (R := Unit) [] ()).cl = [] := normF_nil
 rw [hn] at hf
 obtain ⟨A, c, rfl, hnc, hcm⟩ := hf.slice
 exact ⟨A, c, rfl, RdK.mono hf (fun _ _ => trivial), Only.below ho4 (fun _ _ h => h)⟩
def PredE (w : World) (e : Ending) (w' : World) : Prop := ∃ A c, e = .returned (.tuple #[.agg #[.int .i64 0, .int .i64 0, .slice A 0 c, .int .i64 0], .int .i64 0]) ∧ ClRd w' (fun _ => True) (.slice A 0 c) [] ∧ Below w.heap.size w w'
set_option maxHeartbeats 4000000 in
theorem predict0_ok (w : World) (F G : Nat → Prop) (vo va : Value) (T : Nat) (hops : OpRd w F vo []) (hargs : Rd w G va []) (hs : ShTab w) :
  Calls Tryz.prog 76 #[vo, va, .pointer (some ⟨T, 0, none⟩), .int .i64 100] w (PredE w) := by
 have hb := new_box w (.cells #[.int .i64 0, .int .i64 0, .slice none 0 0, .int .i64 0] 89)
 have k0 := heap_alloc_new w (.cells #[.int .i64 0, .int .i64 0, .slice none 0 0, .int .i64 0] 89)
 obtain ⟨A1, c1, rfl, -, -⟩ := hops.slice
 obtain ⟨A2, n2, c2, rfl, hn2, hx2⟩ := id hargs
 have hn2' : n2 = 0 := hn2.symm
 subst hn2'
 have H := Lib.hid (And.intro (RdK.below hops hb) (And.intro (hargs.below hb) (hs.below hb)))
 have HB := Lib.hid (And.intro hb k0)
 clear hops hargs hs hb k0 hn2 hx2
 go_enter Tryz.func76, Tryz.ntmps76
 go_upto_region 1 with fail
 generalize w.alloc (.cells #[.int .i64 0, .int .i64 0, .slice none 0 0, .int .i64 0] 89) = w1 at H HB ⊢
 obtain ⟨C, hC⟩ : ∃ x, w.heap.size = x := ⟨_, rfl⟩
 have hCl : C < w1.heap.size := by have := (Array.getElem?_eq_some_iff.1 HB.out.2).1; omega
 have HC := Lib.hid (And.intro hC hCl)
 clear hCl
 rw [hC]
 clear hC
 go_wp2_with fail
 refine (bufNewM_ok w1 T).mono ?_
 rintro e w2 ⟨B, m, rfl, hm, hmB, hB, hb2⟩
 have HB2 := Lib.hid (And.intro hB (And.intro hb2 (And.intro hm hmB)))
 have HR := Lib.hid (runNil_ok w2 F G (.slice A1 0 c1) (.slice A2 0 c2) B (RdK.below H.out.1 hb2) (H.out.2.1.below hb2) (H.out.2.2.below hb2))
 clear hm hmB hB hb2
 go_wp2_with fail
 refine HR.out.mono ?_
 rintro e w3 ⟨A, c, rfl, hf, hb3⟩
 have HB3 := Lib.hid (And.intro hf hb3)
 clear hf hb3 HR
 go_wp2_with fail
 have hbx := new_box w3 (.cells #[.int .i64 0, .int .i64 0, .slice A 0 c, .int .i64 0] 89)
 have kx := heap_alloc_new w3 (.cells #[.int .i64 0, .int .i64 0, .slice A 0 c, .int .i64 0] 89)
 obtain ⟨D, hD⟩ : ∃ x, w3.heap.size = x := ⟨_, rfl⟩
 rw [hD] at kx ⊢
 generalize w3.alloc (.cells #[.int .i64 0, .int .i64 0, .slice A 0 c, .int .i64 0] 89) = w4 at hbx kx ⊢
 have hb34 := HB3.out.2.trans (hbx.mono HB3.out.2.size)
 have hb24 := HB2.out.2.1.trans (hb34.mono HB2.out.2.1.size)
 have hmB := HB2.out.2.2.2
 have hml := (Array.getElem?_eq_some_iff.1 HB2.out.1.1).1
 have hB4 : BufM w4 B T m := HB2.out.1.only (Only.of_below hb34 (fun _ => False)) (fun h => h) (fun h => h)
 have HC4 := Lib.hid (And.intro ((Only.of_below hb24 (fun _ => False)).heap (by have := HB.out.2; rw [HC.out.1] at this; exact this) (fun h => h)) (And.intro kx (And.intro (HB3.out.1.below hbx) (And.intro (show m < D by have := HB3.out.2.size; omega) (And.intro (show C < m by have := HC.out.2; have := HB2.out.2.2.1; omega) (HB.out.1.trans (hb24.mono HB.out.1.size)))))))
 clear hbx kx hD hb34 hb24 hmB hml
 refine (bufDrop_ok w4 B T m hB4).mono ?_
 rintro e w5 ⟨rfl, ho5⟩
 have kC := ho5.heap HC4.out.1 (fun e => by have := HC4.out.2.2.2.2.1; omega)
 have kD := ho5.heap HC4.out.2.1 (fun e => by have := HC4.out.2.2.2.1; omega)
 have y0 : w5.frozen? ⟨C, 0, none⟩ = false := by simp [World.frozen?, kC]
 have y1 : w5.frozen? ⟨C, 1, none⟩ = false := by simp [World.frozen?, kC]
 have y2 : w5.frozen? ⟨C, 2, none⟩ = false := by simp [World.frozen?, kC]
 have y3 : w5.frozen? ⟨C, 3, none⟩ = false := by simp [World.frozen?, kC]
 have z0 : w5.cell? ⟨C, 0, none⟩ = some (.int .i64 0) := by simp [World.cell?, kC]
 have z1 : w5.cell? ⟨C, 1, none⟩ = some (.int .i64 0) := by simp [World.cell?, kC]
 have z2 : w5.cell? ⟨C, 2, none⟩ = some (.slice none 0 0) := by simp [World.cell?, kC]
 have z3 : w5.cell? ⟨C, 3, none⟩ = some (.int .i64 0) := by simp [World.cell?, kC]
 have x0 : w5.cell? ⟨D, 0, none⟩ = some (.int .i64 0) := by simp [World.cell?, kD]
 have x1 : w5.cell? ⟨D, 1, none⟩ = some (.int .i64 0) := by simp [World.cell?, kD]
 have x2 : w5.cell? ⟨D, 2, none⟩ = some (.slice A 0 c) := by simp [World.cell?, kD]
 have x3 : w5.cell? ⟨D, 3, none⟩ = some (.int .i64 0) := by simp [World.cell?, kD]
 have K5 := Lib.hid (And.intro kC ho5)
 clear kC kD ho5 hB4
 go_wp2_with fail
 have hp := put4s (v0 := .int .i64 0) (v1 := .int .i64 0) (v2 := .slice A 0 c) (v3 := .int .i64 0) K5.out.1
 refine bodyPost_ret (results_cell_row2 rfl _ _ _ _ _ _ _ rfl hp Tryz.underlying89 rfl (by kernel_rfl)) rfl ⟨A, c, rfl, ?_, ?_⟩
 ·exact HC4.out.2.2.1.nil0
 ·have hC := HC.out.1
  have hm := HC4.out.2.2.2.2.1
  have h5 := HC4.out.2.2.2.2.2.trans (K5.out.2.belowN HC4.out.2.2.2.2.2.size (fun k hk e => by omega))
  have hle : w.heap.size ≤ C := Nat.le_of_eq hC
  exact (((h5.setCell (p := ⟨C, 0, none⟩) hle _).setCell (p := ⟨C, 1, none⟩) hle _).setCell (p := ⟨C, 2, none⟩) hle _).setCell (p := ⟨C, 3, none⟩) hle _
theorem entE_nil : entE ⟨0, [], [], []⟩ = 0 := by
 have h1 : entE0 ⟨0, [], [], []⟩ = 0 := by rfl
 have h0 : errOf [] = 0 := by rfl
 unfold entE
 rw [if_neg (by rw [h1]; simp)]
 unfold clsE
 simp only [h0]
 rw [if_neg (by simp), if_neg ?_, if_pos isForm_nil]
 rintro ⟨out, ho, hl⟩
 have : out = [] := normF_nil ▸ normF_unique (fun c hc => by simp at hc) ho
 subst this
 simp at hl
theorem cloneOps0_ok (w : World) (F : Nat → Prop) (v : Value) (h : OpRd w F v []) : Calls Tryz.prog 43 #[v] w fun e w' => ∃ A c, e = .returned (.slice A 0 c) ∧ OpRd w' (fun _ => True) (.slice A 0 c) [] ∧ Below w.heap.size w w' := by
 refine (cloneOps_ok w F v [] h (by decide)).mono ?_
 rintro e w' ⟨A, c, rfl, hw, hb⟩
 exact ⟨A, c, rfl, RdK.of_own hw (op_len _) (by decide) (fun _ _ => trivial), hb⟩
theorem cloneInts0_ok (w : World) (F : Nat → Prop) (v : Value) (h : Rd w F v []) : Calls Tryz.prog 44 #[v] w fun e w' => ∃ A c, e = .returned (.slice A 0 c) ∧ Rd w' (fun _ => True) (.slice A 0 c) [] ∧ Below w.heap.size w w' := by
 refine (cloneInts_ok v [] F w h (by simp) (by decide)).mono ?_
 rintro e w' ⟨A, c, rfl, hw, hb⟩
 exact ⟨A, c, rfl, Rd.of_own hw (fun _ _ => trivial), hb⟩
theorem claims0_ok (w : World) (F : Nat → Prop) (A : Option Addr) (n c : Nat) (h : ClRd w F (.slice A n c) []) : Calls Tryz.prog 52 #[.agg #[.slice A n c]] w fun e w' => ∃ A c, e = .returned (.slice A 0 c) ∧ ClRd w' (fun _ => True) (.slice A 0 c) [] ∧ Below w.heap.size w w' := by
 refine (claims_ok w F _ [] h (by decide)).mono ?_
 rintro e w' ⟨A, c, rfl, hw, hb⟩
 exact ⟨A, c, rfl, RdK.of_own hw (fun x hx => by simp at hx) (by decide) (fun _ _ => trivial), hb⟩
theorem put8c {w : World} {B : Nat} {a0 a1 a2 a3 a4 a5 a6 a7 v0 v1 v2 v3 v4 v5 v6 v7 : Value} {t : TypeId} (h : w.heap[B]? = some (.cells #[a0, a1, a2, a3, a4, a5, a6, a7] t (0, 0))) :
  ((((((((w.setCell ⟨B, 0, none⟩ v0).setCell ⟨B, 1, none⟩ v1).setCell ⟨B, 2, none⟩ v2).setCell ⟨B, 3, none⟩ v3).setCell ⟨B, 4, none⟩ v4).setCell ⟨B, 5, none⟩ v5).setCell ⟨B, 6, none⟩ v6).setCell ⟨B, 7, none⟩ v7).heap[B]? = some (.cells #[v0, v1, v2, v3, v4, v5, v6, v7] t (0, 0)) := by
 have h0 := heap_setCell_same w B 0 _ t v0 h
 have h1 := heap_setCell_same _ B 1 _ t v1 h0
 have h2 := heap_setCell_same _ B 2 _ t v2 h1
 have h3 := heap_setCell_same _ B 3 _ t v3 h2
 have h4 := heap_setCell_same _ B 4 _ t v4 h3
 have h5 := heap_setCell_same _ B 5 _ t v5 h4
 have h6 := heap_setCell_same _ B 6 _ t v6 h5
 have h7 := heap_setCell_same _ B 7 _ t v7 h6
 simpa using h7
def MakeE (w : World) (e : Ending) (w' : World) : Prop := ∃ A1 c1 A2 c2 A3 c3 A c, e = .returned (.tuple #[.agg #[.int .i64 0, .slice A1 0 c1, .slice A2 0 c2, .slice A3 0 c3, .int .i64 0, .int .i64 0, .slice A 0 c, .int .i64 0], .int .i64 0]) ∧
 EntRd w' (fun _ => True) ⟨0, [], [], []⟩ (.slice A1 0 c1) (.slice A2 0 c2) (.slice A3 0 c3) ∧ Below w.heap.size w w'
set_option maxHeartbeats 4000000 in
theorem make0_ok (w : World) (F G : Nat → Prop) (vo va : Value) (T : Nat) (hops : OpRd w F vo []) (hargs : Rd w G va []) (hs : ShTab w) :
  Calls Tryz.prog 46 #[.int .i64 0, vo, va, .pointer (some ⟨T, 0, none⟩), .int .i64 100] w (MakeE w) := by
 have hb := new_box w (.cells #[.int .i64 0, .slice none 0 0, .slice none 0 0, .slice none 0 0, .int .i64 0, .int .i64 0, .slice none 0 0, .int .i64 0] 131)
 have k0 := heap_alloc_new w (.cells #[.int .i64 0, .slice none 0 0, .slice none 0 0, .slice none 0 0, .int .i64 0, .int .i64 0, .slice none 0 0, .int .i64 0] 131)
 obtain ⟨A1, c1, rfl, -, -⟩ := hops.slice
 obtain ⟨A2, n2, c2, rfl, hn2, hx2⟩ := id hargs
 have hn2' : n2 = 0 := hn2.symm
 subst hn2'
 have H := Lib.hid (And.intro (RdK.below hops hb) (And.intro (hargs.below hb) (hs.below hb)))
 have HB := Lib.hid (And.intro hb k0)
 clear hops hargs hs hb k0 hn2 hx2
 go_enter Tryz.func46, Tryz.ntmps46
 go_upto_region 1 with fail
 generalize w.alloc (.cells #[.int .i64 0, .slice none 0 0, .slice none 0 0, .slice none 0 0, .int .i64 0, .int .i64 0, .slice none 0 0, .int .i64 0] 131) = w1 at H HB ⊢
 obtain ⟨C, hC⟩ : ∃ x, w.heap.size = x := ⟨_, rfl⟩
 have hCl : C < w1.heap.size := by have := (Array.getElem?_eq_some_iff.1 HB.out.2).1; omega
 have HC := Lib.hid (And.intro hC hCl)
 clear hCl
 rw [hC]
 clear hC
 have HP := Lib.hid (predict0_ok w1 F G (.slice A1 0 c1) (.slice A2 0 c2) T H.out.1 H.out.2.1 H.out.2.2)
 go_wp2_with fail
 refine HP.out.mono ?_
 rintro e w2 ⟨A, c, rfl, hf, hb2⟩
 have HB2 := Lib.hid (And.intro hf hb2)
 clear hf hb2 HP
 go_wp2_with fail
 have hbx := new_box w2 (.cells #[.int .i64 0, .int .i64 0, .slice A 0 c, .int .i64 0] 89)
 have kx := heap_alloc_new w2 (.cells #[.int .i64 0, .int .i64 0, .slice A 0 c, .int .i64 0] 89)
 obtain ⟨D, hD⟩ : ∃ x, w2.heap.size = x := ⟨_, rfl⟩
 rw [hD] at kx ⊢
 generalize w2.alloc (.cells #[.int .i64 0, .int .i64 0, .slice A 0 c, .int .i64 0] 89) = w3 at hbx kx ⊢
 have hDl : D < w3.heap.size := (Array.getElem?_eq_some_iff.1 kx).1
 have hb13 := HB2.out.2.trans (hbx.mono HB2.out.2.size)
 have H3 := Lib.hid (And.intro kx (And.intro hb13 (show C < D ∧ D < w3.heap.size from ⟨by have := HB2.out.2.size; have := HC.out.2; omega, hDl⟩)))
 have r2 : w3.cell? ⟨D, 2, none⟩ = some (.slice A 0 c) := by simp [World.cell?, kx]
 have hS0 := Lib.hid (show Below w3.heap.size w3 w3.drew ∧ w3.drew.cell? ⟨D, 2, none⟩ = some (.slice A 0 c) from ⟨(Below.refl _ _).drew, r2⟩)
 have HO := Lib.hid (show OpRd w3 (fun _ => True) (.slice A1 0 c1) [] from OpRd.nil0 H.out.1)
 have HI := Lib.hid (show Rd w3 (fun _ => True) (.slice A2 0 c2) [] from Rd.nil0 H.out.2.1)
 have HF := Lib.hid (show ClRd w3 (fun _ => True) (.slice A 0 c) [] from ClRd.nil0 HB2.out.1)
 have HZ := Lib.hid (show w3.heap.size ≤ w3.drew.heap.size from Nat.le_refl _)
 clear hbx kx hD hDl hb13 r2
 refine wp_region_held_drew (S := (fun w' => Below w3.heap.size w3 w' ∧ w'.cell? ⟨D, 2, none⟩ = some (.slice A 0 c))) (by kernel_rfl) (hS0.out) (fun hHeld => ?_)
 refine goLS [0, 1, 3, 5, 6] ?_
 iterate 5 (refine tlS (v := ?_) (fun wS hSw => ?_) hHeld ?_; rotate_left; (obtain ⟨s0, s1⟩ := hSw; go_simp; try with_reducible rfl); try simp only [pS1, pS2, pS3, pS4])
 refine goES ?_
 refine wpAnyH_ready (rs := [2, 9]) (by kernel_rfl) (by simp) (consS (i := 2) rfl (fun K hK => ?_) (consS (i := 9) rfl (fun K hK => ?_) AllReadyH.nil))
 ·skip
  go_simp
  refine (cloneOps0_ok _ (fun _ => True) _ (OpRd.nil0 HO.out)).mono ?_
  rintro e wn ⟨B1, d1, rfl, hw1, hbn⟩
  have HZ := Lib.hid (Nat.le_trans HZ.out hbn.size)
  have HO1 := Lib.hid hw1
  clear hw1
  try go_simp
  refine hK.out _ _ (heldS1 hHeld hbn) (fun hHeld2 => ?_)
  clear hK K hHeld hbn
  have hHeld := hHeld2
  clear hHeld2
  try simp only [pS1, pS2, pS3, pS4]
  refine wpAnyH_ready (rs := [4, 9]) (by kernel_rfl) (by simp) (consS (i := 4) rfl (fun K hK => ?_) (consS (i := 9) rfl (fun K hK => ?_) AllReadyH.nil))
  ·skip
   go_simp
   refine (cloneInts0_ok _ (fun _ => True) _ (Rd.nil0 HI.out)).mono ?_
   rintro e wn ⟨B2, d2, rfl, hw2, hbn⟩
   have HZ := Lib.hid (Nat.le_trans HZ.out hbn.size)
   have HI1 := Lib.hid hw2
   clear hw2
   try go_simp
   refine hK.out _ _ (heldS1 hHeld hbn) (fun hHeld2 => ?_)
   clear hK K hHeld hbn
   have hHeld := hHeld2
   clear hHeld2
   try simp only [pS1, pS2, pS3, pS4]
   refine wpAnyH_ready (rs := [7, 9]) (by kernel_rfl) (by simp) (consS (i := 7) rfl (fun K hK => ?_) (consS (i := 9) rfl (fun K hK => ?_) AllReadyH.nil))
   ·skip
    go_simp
    refine (claims0_ok _ (fun _ => True) _ _ _ (ClRd.nil0 HF.out)).mono ?_
    rintro e wn ⟨B3, d3, rfl, hw3, hbn⟩
    have HZ := Lib.hid (Nat.le_trans HZ.out hbn.size)
    have HF1 := Lib.hid hw3
    clear hw3
    try go_simp
    refine hK.out _ _ (heldS1 hHeld hbn) (fun hHeld2 => ?_)
    clear hK K hHeld hbn
    have hHeld := hHeld2
    clear hHeld2
    try simp only [pS1, pS2, pS3, pS4]
    refine tkS 8 (v := ?_) (fun wS hSw => ?_) hHeld ?_
    rotate_left
    ·obtain ⟨s0, s1⟩ := hSw; go_simp; try with_reducible rfl
    try simp only [pS1, pS2, pS3, pS4]
    refine ckS 9 (fun K hK => ?_)
    go_simp
    refine hK.out _ _ (heldS1 hHeld (new_box _ _)) (fun hHeld2 => ?_)
    clear hK K hHeld 
    have hHeld := hHeld2
    clear hHeld2
    try simp only [pS1, pS2, pS3, pS4]
    have kp := heap_alloc_new wn (.cells #[.int .i64 0, .slice none 0 0, .slice none 0 0, .slice none 0 0] 81)
    obtain ⟨P, hP⟩ : ∃ x, wn.heap.size = x := ⟨_, rfl⟩
    have hZ := HZ.out
    rw [hP] at kp ⊢
    generalize wn.alloc (.cells #[.int .i64 0, .slice none 0 0, .slice none 0 0, .slice none 0 0] 81) = wn at kp hHeld ⊢
    have KP := Lib.hid kp
    have HPl := Lib.hid (show D < P ∧ w3.heap.size ≤ P ∧ P < wn.heap.size by have := H3.out.2.2.2; have := (Array.getElem?_eq_some_iff.1 kp).1; omega)
    have HZ := Lib.hid (show w3.heap.size ≤ wn.heap.size by have := HPl.out; omega)
    clear hZ kp hP
    refine ckS 10 (fun K hK => ?_)
    have kP := KP.out
    have y0 : wn.frozen? ⟨P, 0, none⟩ = false := by simp [World.frozen?, kP]
    have y1 : wn.frozen? ⟨P, 1, none⟩ = false := by simp [World.frozen?, kP]
    have y2 : wn.frozen? ⟨P, 2, none⟩ = false := by simp [World.frozen?, kP]
    have y3 : wn.frozen? ⟨P, 3, none⟩ = false := by simp [World.frozen?, kP]
    have x0 : wn.cell? ⟨P, 0, none⟩ = some (.int .i64 0) := by simp [World.cell?, kP]
    have x1 : wn.cell? ⟨P, 1, none⟩ = some (.slice none 0 0) := by simp [World.cell?, kP]
    have x2 : wn.cell? ⟨P, 2, none⟩ = some (.slice none 0 0) := by simp [World.cell?, kP]
    have x3 : wn.cell? ⟨P, 3, none⟩ = some (.slice none 0 0) := by simp [World.cell?, kP]
    have hP3 := HPl.out.2.1
    have hDP : D ≠ P := by have := HPl.out.1; omega
    have hrd := hHeld.2
    go_simp
    refine hK.out _ _ (⟨((((hHeld.1.setCell (p := ⟨P, 0, none⟩) hP3 _).setCell (p := ⟨P, 1, none⟩) hP3 _).setCell (p := ⟨P, 2, none⟩) hP3 _).setCell (p := ⟨P, 3, none⟩) hP3 _), (Only.set1 _ P 3 _).cell ((Only.set1 _ P 2 _).cell ((Only.set1 _ P 1 _).cell ((Only.set1 _ P 0 _).cell hrd hDP) hDP) hDP) hDP⟩) (fun hHeld2 => ?_)
    clear hK K hHeld y0 y1 y2 y3 x0 x1 x2 x3 kP hP3 hrd hDP
    have hHeld := hHeld2
    clear hHeld2
    try simp only [pS1, pS2, pS3, pS4]
    have kp := put4s (v0 := .int .i64 0) (v1 := .slice B1 0 d1) (v2 := .slice B2 0 d2) (v3 := .slice B3 0 d3) KP.out
    generalize (((wn.setCell ⟨P, 0, none⟩ (.int .i64 0)).setCell ⟨P, 1, none⟩ (.slice B1 0 d1)).setCell ⟨P, 2, none⟩ (.slice B2 0 d2)).setCell ⟨P, 3, none⟩ (.slice B3 0 d3) = wz at kp hHeld ⊢
    have KP := Lib.hid kp
    clear kp HZ
    refine wpAnyH_done (by kernel_rfl) ?_ _
    have hD := (Only.of_below hHeld.1 (fun _ => False)).heap H3.out.1 (fun h => h)
    have HE := Lib.hid (And.intro hHeld.1 (And.intro hD KP.out))
    have hE : EntRd wz (fun _ => True) ⟨0, [], [], []⟩ (.slice B1 0 d1) (.slice B2 0 d2) (.slice B3 0 d3) := ⟨OpRd.nil0 HO1.out, Rd.nil0 HI1.out, ClRd.nil0 HF1.out, ⟨by decide, by decide⟩, by simp, by simp, by simp⟩
    have HC5 := Lib.hid (fcheck_ok wz _ ⟨0, [], [], []⟩ _ _ _ hE (H.out.2.2.below (H3.out.2.1.trans (hHeld.1.mono H3.out.2.1.size))) (by decide))
    clear hHeld hD hE KP
    have q0 : wz.cell? ⟨P, 0, none⟩ = some (.int .i64 0) := by simp [World.cell?, HE.out.2.2]
    have q1 : wz.cell? ⟨P, 1, none⟩ = some (.slice B1 0 d1) := by simp [World.cell?, HE.out.2.2]
    have q2 : wz.cell? ⟨P, 2, none⟩ = some (.slice B2 0 d2) := by simp [World.cell?, HE.out.2.2]
    have q3 : wz.cell? ⟨P, 3, none⟩ = some (.slice B3 0 d3) := by simp [World.cell?, HE.out.2.2]
    go_wp2_with fail
    refine HC5.out.mono ?_
    rintro e w6 ⟨rfl, hb6⟩
    rw [entE_nil]
    have H6 := Lib.hid (And.intro hb6 (And.intro ((Only.of_below hb6 (fun _ => False)).heap HE.out.2.1 (fun h => h)) ((Only.of_below hb6 (fun _ => False)).heap HE.out.2.2 (fun h => h))))
    have kC : w6.heap[C]? = _ := (Only.of_below hb6 (fun _ => False)).heap ((Only.of_below HE.out.1 (fun _ => False)).heap ((Only.of_below H3.out.2.1 (fun _ => False)).heap (by have := HB.out.2; rw [HC.out.1] at this; exact this) (fun h => h)) (fun h => h)) (fun h => h)
    have KC := Lib.hid kC
    clear q0 q1 q2 q3 hb6 HC5
    have y0 : w6.frozen? ⟨C, 0, none⟩ = false := by simp [World.frozen?, kC]
    have y1 : w6.frozen? ⟨C, 1, none⟩ = false := by simp [World.frozen?, kC]
    have y2 : w6.frozen? ⟨C, 2, none⟩ = false := by simp [World.frozen?, kC]
    have y3 : w6.frozen? ⟨C, 3, none⟩ = false := by simp [World.frozen?, kC]
    have y4 : w6.frozen? ⟨C, 4, none⟩ = false := by simp [World.frozen?, kC]
    have y5 : w6.frozen? ⟨C, 5, none⟩ = false := by simp [World.frozen?, kC]
    have y6 : w6.frozen? ⟨C, 6, none⟩ = false := by simp [World.frozen?, kC]
    have y7 : w6.frozen? ⟨C, 7, none⟩ = false := by simp [World.frozen?, kC]
    have z0 : w6.cell? ⟨C, 0, none⟩ = some ((.int .i64 0)) := by simp [World.cell?, kC]
    have z1 : w6.cell? ⟨C, 1, none⟩ = some ((.slice none 0 0)) := by simp [World.cell?, kC]
    have z2 : w6.cell? ⟨C, 2, none⟩ = some ((.slice none 0 0)) := by simp [World.cell?, kC]
    have z3 : w6.cell? ⟨C, 3, none⟩ = some ((.slice none 0 0)) := by simp [World.cell?, kC]
    have z4 : w6.cell? ⟨C, 4, none⟩ = some ((.int .i64 0)) := by simp [World.cell?, kC]
    have z5 : w6.cell? ⟨C, 5, none⟩ = some ((.int .i64 0)) := by simp [World.cell?, kC]
    have z6 : w6.cell? ⟨C, 6, none⟩ = some ((.slice none 0 0)) := by simp [World.cell?, kC]
    have z7 : w6.cell? ⟨C, 7, none⟩ = some ((.int .i64 0)) := by simp [World.cell?, kC]
    have x0 : w6.cell? ⟨D, 0, none⟩ = some ((.int .i64 0)) := by simp [World.cell?, H6.out.2.1]
    have x1 : w6.cell? ⟨D, 1, none⟩ = some ((.int .i64 0)) := by simp [World.cell?, H6.out.2.1]
    have x2 : w6.cell? ⟨D, 2, none⟩ = some ((.slice A 0 c)) := by simp [World.cell?, H6.out.2.1]
    have x3 : w6.cell? ⟨D, 3, none⟩ = some ((.int .i64 0)) := by simp [World.cell?, H6.out.2.1]
    have u0 : w6.cell? ⟨P, 0, none⟩ = some ((.int .i64 0)) := by simp [World.cell?, H6.out.2.2]
    have u1 : w6.cell? ⟨P, 1, none⟩ = some ((.slice B1 0 d1)) := by simp [World.cell?, H6.out.2.2]
    have u2 : w6.cell? ⟨P, 2, none⟩ = some ((.slice B2 0 d2)) := by simp [World.cell?, H6.out.2.2]
    have u3 : w6.cell? ⟨P, 3, none⟩ = some ((.slice B3 0 d3)) := by simp [World.cell?, H6.out.2.2]
    clear kC
    go_wp2_with fail
    have hp := put8c (v0 := .int .i64 0) (v1 := .slice B1 0 d1) (v2 := .slice B2 0 d2) (v3 := .slice B3 0 d3) (v4 := .int .i64 0) (v5 := .int .i64 0) (v6 := .slice A 0 c) (v7 := .int .i64 0) KC.out
    have hle : w.heap.size ≤ C := Nat.le_of_eq HC.out.1
    have hb := HB.out.1.trans ((H3.out.2.1.trans ((HE.out.1.trans (H6.out.1.mono HE.out.1.size)).mono H3.out.2.1.size)).mono HB.out.1.size)
    exact bodyPost_ret (results_cell_row2 rfl _ _ _ _ _ _ _ rfl hp Tryz.underlying131 rfl (by kernel_rfl)) rfl ⟨B1, d1, B2, d2, B3, d3, A, c, rfl, ⟨OpRd.nil0 HO1.out, Rd.nil0 HI1.out, ClRd.nil0 HF1.out, ⟨by decide, by decide⟩, by simp, by simp, by simp⟩, (((((((hb.setCell (p := ⟨C, 0, none⟩) hle _).setCell (p := ⟨C, 1, none⟩) hle _).setCell (p := ⟨C, 2, none⟩) hle _).setCell (p := ⟨C, 3, none⟩) hle _).setCell (p := ⟨C, 4, none⟩) hle _).setCell (p := ⟨C, 5, none⟩) hle _).setCell (p := ⟨C, 6, none⟩) hle _).setCell (p := ⟨C, 7, none⟩) hle _⟩
   ·skip
    go_simp
    refine hK.out _ _ (heldS1 hHeld (new_box _ _)) (fun hHeld2 => ?_)
    clear hK K hHeld 
    have hHeld := hHeld2
    clear hHeld2
    try simp only [pS1, pS2, pS3, pS4]
    have kp := heap_alloc_new wn (.cells #[.int .i64 0, .slice none 0 0, .slice none 0 0, .slice none 0 0] 81)
    obtain ⟨P, hP⟩ : ∃ x, wn.heap.size = x := ⟨_, rfl⟩
    have hZ := HZ.out
    rw [hP] at kp ⊢
    generalize wn.alloc (.cells #[.int .i64 0, .slice none 0 0, .slice none 0 0, .slice none 0 0] 81) = wn at kp hHeld ⊢
    have KP := Lib.hid kp
    have HPl := Lib.hid (show D < P ∧ w3.heap.size ≤ P ∧ P < wn.heap.size by have := H3.out.2.2.2; have := (Array.getElem?_eq_some_iff.1 kp).1; omega)
    have HZ := Lib.hid (show w3.heap.size ≤ wn.heap.size by have := HPl.out; omega)
    clear hZ kp hP
    refine ckS 7 (fun K hK => ?_)
    go_simp
    refine (claims0_ok _ (fun _ => True) _ _ _ (ClRd.nil0 HF.out)).mono ?_
    rintro e wn ⟨B3, d3, rfl, hw3, hbn⟩
    have HZ := Lib.hid (Nat.le_trans HZ.out hbn.size)
    have KP := Lib.hid ((Only.of_below hbn (fun _ => False)).heap KP.out (fun h => h))
    have HF1 := Lib.hid hw3
    clear hw3
    try go_simp
    refine hK.out _ _ (heldS1 hHeld hbn) (fun hHeld2 => ?_)
    clear hK K hHeld hbn
    have hHeld := hHeld2
    clear hHeld2
    try simp only [pS1, pS2, pS3, pS4]
    refine tkS 8 (v := ?_) (fun wS hSw => ?_) hHeld ?_
    rotate_left
    ·obtain ⟨s0, s1⟩ := hSw; go_simp; try with_reducible rfl
    try simp only [pS1, pS2, pS3, pS4]
    refine ckS 10 (fun K hK => ?_)
    have kP := KP.out
    have y0 : wn.frozen? ⟨P, 0, none⟩ = false := by simp [World.frozen?, kP]
    have y1 : wn.frozen? ⟨P, 1, none⟩ = false := by simp [World.frozen?, kP]
    have y2 : wn.frozen? ⟨P, 2, none⟩ = false := by simp [World.frozen?, kP]
    have y3 : wn.frozen? ⟨P, 3, none⟩ = false := by simp [World.frozen?, kP]
    have x0 : wn.cell? ⟨P, 0, none⟩ = some (.int .i64 0) := by simp [World.cell?, kP]
    have x1 : wn.cell? ⟨P, 1, none⟩ = some (.slice none 0 0) := by simp [World.cell?, kP]
    have x2 : wn.cell? ⟨P, 2, none⟩ = some (.slice none 0 0) := by simp [World.cell?, kP]
    have x3 : wn.cell? ⟨P, 3, none⟩ = some (.slice none 0 0) := by simp [World.cell?, kP]
    have hP3 := HPl.out.2.1
    have hDP : D ≠ P := by have := HPl.out.1; omega
    have hrd := hHeld.2
    go_simp
    refine hK.out _ _ (⟨((((hHeld.1.setCell (p := ⟨P, 0, none⟩) hP3 _).setCell (p := ⟨P, 1, none⟩) hP3 _).setCell (p := ⟨P, 2, none⟩) hP3 _).setCell (p := ⟨P, 3, none⟩) hP3 _), (Only.set1 _ P 3 _).cell ((Only.set1 _ P 2 _).cell ((Only.set1 _ P 1 _).cell ((Only.set1 _ P 0 _).cell hrd hDP) hDP) hDP) hDP⟩) (fun hHeld2 => ?_)
    clear hK K hHeld y0 y1 y2 y3 x0 x1 x2 x3 kP hP3 hrd hDP
    have hHeld := hHeld2
    clear hHeld2
    try simp only [pS1, pS2, pS3, pS4]
    have kp := put4s (v0 := .int .i64 0) (v1 := .slice B1 0 d1) (v2 := .slice B2 0 d2) (v3 := .slice B3 0 d3) KP.out
    generalize (((wn.setCell ⟨P, 0, none⟩ (.int .i64 0)).setCell ⟨P, 1, none⟩ (.slice B1 0 d1)).setCell ⟨P, 2, none⟩ (.slice B2 0 d2)).setCell ⟨P, 3, none⟩ (.slice B3 0 d3) = wz at kp hHeld ⊢
    have KP := Lib.hid kp
    clear kp HZ
    refine wpAnyH_done (by kernel_rfl) ?_ _
    have hD := (Only.of_below hHeld.1 (fun _ => False)).heap H3.out.1 (fun h => h)
    have HE := Lib.hid (And.intro hHeld.1 (And.intro hD KP.out))
    have hE : EntRd wz (fun _ => True) ⟨0, [], [], []⟩ (.slice B1 0 d1) (.slice B2 0 d2) (.slice B3 0 d3) := ⟨OpRd.nil0 HO1.out, Rd.nil0 HI1.out, ClRd.nil0 HF1.out, ⟨by decide, by decide⟩, by simp, by simp, by simp⟩
    have HC5 := Lib.hid (fcheck_ok wz _ ⟨0, [], [], []⟩ _ _ _ hE (H.out.2.2.below (H3.out.2.1.trans (hHeld.1.mono H3.out.2.1.size))) (by decide))
    clear hHeld hD hE KP
    have q0 : wz.cell? ⟨P, 0, none⟩ = some (.int .i64 0) := by simp [World.cell?, HE.out.2.2]
    have q1 : wz.cell? ⟨P, 1, none⟩ = some (.slice B1 0 d1) := by simp [World.cell?, HE.out.2.2]
    have q2 : wz.cell? ⟨P, 2, none⟩ = some (.slice B2 0 d2) := by simp [World.cell?, HE.out.2.2]
    have q3 : wz.cell? ⟨P, 3, none⟩ = some (.slice B3 0 d3) := by simp [World.cell?, HE.out.2.2]
    go_wp2_with fail
    refine HC5.out.mono ?_
    rintro e w6 ⟨rfl, hb6⟩
    rw [entE_nil]
    have H6 := Lib.hid (And.intro hb6 (And.intro ((Only.of_below hb6 (fun _ => False)).heap HE.out.2.1 (fun h => h)) ((Only.of_below hb6 (fun _ => False)).heap HE.out.2.2 (fun h => h))))
    have kC : w6.heap[C]? = _ := (Only.of_below hb6 (fun _ => False)).heap ((Only.of_below HE.out.1 (fun _ => False)).heap ((Only.of_below H3.out.2.1 (fun _ => False)).heap (by have := HB.out.2; rw [HC.out.1] at this; exact this) (fun h => h)) (fun h => h)) (fun h => h)
    have KC := Lib.hid kC
    clear q0 q1 q2 q3 hb6 HC5
    have y0 : w6.frozen? ⟨C, 0, none⟩ = false := by simp [World.frozen?, kC]
    have y1 : w6.frozen? ⟨C, 1, none⟩ = false := by simp [World.frozen?, kC]
    have y2 : w6.frozen? ⟨C, 2, none⟩ = false := by simp [World.frozen?, kC]
    have y3 : w6.frozen? ⟨C, 3, none⟩ = false := by simp [World.frozen?, kC]
    have y4 : w6.frozen? ⟨C, 4, none⟩ = false := by simp [World.frozen?, kC]
    have y5 : w6.frozen? ⟨C, 5, none⟩ = false := by simp [World.frozen?, kC]
    have y6 : w6.frozen? ⟨C, 6, none⟩ = false := by simp [World.frozen?, kC]
    have y7 : w6.frozen? ⟨C, 7, none⟩ = false := by simp [World.frozen?, kC]
    have z0 : w6.cell? ⟨C, 0, none⟩ = some ((.int .i64 0)) := by simp [World.cell?, kC]
    have z1 : w6.cell? ⟨C, 1, none⟩ = some ((.slice none 0 0)) := by simp [World.cell?, kC]
    have z2 : w6.cell? ⟨C, 2, none⟩ = some ((.slice none 0 0)) := by simp [World.cell?, kC]
    have z3 : w6.cell? ⟨C, 3, none⟩ = some ((.slice none 0 0)) := by simp [World.cell?, kC]
    have z4 : w6.cell? ⟨C, 4, none⟩ = some ((.int .i64 0)) := by simp [World.cell?, kC]
    have z5 : w6.cell? ⟨C, 5, none⟩ = some ((.int .i64 0)) := by simp [World.cell?, kC]
    have z6 : w6.cell? ⟨C, 6, none⟩ = some ((.slice none 0 0)) := by simp [World.cell?, kC]
    have z7 : w6.cell? ⟨C, 7, none⟩ = some ((.int .i64 0)) := by simp [World.cell?, kC]
    have x0 : w6.cell? ⟨D, 0, none⟩ = some ((.int .i64 0)) := by simp [World.cell?, H6.out.2.1]
    have x1 : w6.cell? ⟨D, 1, none⟩ = some ((.int .i64 0)) := by simp [World.cell?, H6.out.2.1]
    have x2 : w6.cell? ⟨D, 2, none⟩ = some ((.slice A 0 c)) := by simp [World.cell?, H6.out.2.1]
    have x3 : w6.cell? ⟨D, 3, none⟩ = some ((.int .i64 0)) := by simp [World.cell?, H6.out.2.1]
    have u0 : w6.cell? ⟨P, 0, none⟩ = some ((.int .i64 0)) := by simp [World.cell?, H6.out.2.2]
    have u1 : w6.cell? ⟨P, 1, none⟩ = some ((.slice B1 0 d1)) := by simp [World.cell?, H6.out.2.2]
    have u2 : w6.cell? ⟨P, 2, none⟩ = some ((.slice B2 0 d2)) := by simp [World.cell?, H6.out.2.2]
    have u3 : w6.cell? ⟨P, 3, none⟩ = some ((.slice B3 0 d3)) := by simp [World.cell?, H6.out.2.2]
    clear kC
    go_wp2_with fail
    have hp := put8c (v0 := .int .i64 0) (v1 := .slice B1 0 d1) (v2 := .slice B2 0 d2) (v3 := .slice B3 0 d3) (v4 := .int .i64 0) (v5 := .int .i64 0) (v6 := .slice A 0 c) (v7 := .int .i64 0) KC.out
    have hle : w.heap.size ≤ C := Nat.le_of_eq HC.out.1
    have hb := HB.out.1.trans ((H3.out.2.1.trans ((HE.out.1.trans (H6.out.1.mono HE.out.1.size)).mono H3.out.2.1.size)).mono HB.out.1.size)
    exact bodyPost_ret (results_cell_row2 rfl _ _ _ _ _ _ _ rfl hp Tryz.underlying131 rfl (by kernel_rfl)) rfl ⟨B1, d1, B2, d2, B3, d3, A, c, rfl, ⟨OpRd.nil0 HO1.out, Rd.nil0 HI1.out, ClRd.nil0 HF1.out, ⟨by decide, by decide⟩, by simp, by simp, by simp⟩, (((((((hb.setCell (p := ⟨C, 0, none⟩) hle _).setCell (p := ⟨C, 1, none⟩) hle _).setCell (p := ⟨C, 2, none⟩) hle _).setCell (p := ⟨C, 3, none⟩) hle _).setCell (p := ⟨C, 4, none⟩) hle _).setCell (p := ⟨C, 5, none⟩) hle _).setCell (p := ⟨C, 6, none⟩) hle _).setCell (p := ⟨C, 7, none⟩) hle _⟩
  ·skip
   go_simp
   refine hK.out _ _ (heldS1 hHeld (new_box _ _)) (fun hHeld2 => ?_)
   clear hK K hHeld 
   have hHeld := hHeld2
   clear hHeld2
   try simp only [pS1, pS2, pS3, pS4]
   have kp := heap_alloc_new wn (.cells #[.int .i64 0, .slice none 0 0, .slice none 0 0, .slice none 0 0] 81)
   obtain ⟨P, hP⟩ : ∃ x, wn.heap.size = x := ⟨_, rfl⟩
   have hZ := HZ.out
   rw [hP] at kp ⊢
   generalize wn.alloc (.cells #[.int .i64 0, .slice none 0 0, .slice none 0 0, .slice none 0 0] 81) = wn at kp hHeld ⊢
   have KP := Lib.hid kp
   have HPl := Lib.hid (show D < P ∧ w3.heap.size ≤ P ∧ P < wn.heap.size by have := H3.out.2.2.2; have := (Array.getElem?_eq_some_iff.1 kp).1; omega)
   have HZ := Lib.hid (show w3.heap.size ≤ wn.heap.size by have := HPl.out; omega)
   clear hZ kp hP
   refine ckS 4 (fun K hK => ?_)
   go_simp
   refine (cloneInts0_ok _ (fun _ => True) _ (Rd.nil0 HI.out)).mono ?_
   rintro e wn ⟨B2, d2, rfl, hw2, hbn⟩
   have HZ := Lib.hid (Nat.le_trans HZ.out hbn.size)
   have KP := Lib.hid ((Only.of_below hbn (fun _ => False)).heap KP.out (fun h => h))
   have HI1 := Lib.hid hw2
   clear hw2
   try go_simp
   refine hK.out _ _ (heldS1 hHeld hbn) (fun hHeld2 => ?_)
   clear hK K hHeld hbn
   have hHeld := hHeld2
   clear hHeld2
   try simp only [pS1, pS2, pS3, pS4]
   refine ckS 7 (fun K hK => ?_)
   go_simp
   refine (claims0_ok _ (fun _ => True) _ _ _ (ClRd.nil0 HF.out)).mono ?_
   rintro e wn ⟨B3, d3, rfl, hw3, hbn⟩
   have HZ := Lib.hid (Nat.le_trans HZ.out hbn.size)
   have KP := Lib.hid ((Only.of_below hbn (fun _ => False)).heap KP.out (fun h => h))
   have HF1 := Lib.hid hw3
   clear hw3
   try go_simp
   refine hK.out _ _ (heldS1 hHeld hbn) (fun hHeld2 => ?_)
   clear hK K hHeld hbn
   have hHeld := hHeld2
   clear hHeld2
   try simp only [pS1, pS2, pS3, pS4]
   refine tkS 8 (v := ?_) (fun wS hSw => ?_) hHeld ?_
   rotate_left
   ·obtain ⟨s0, s1⟩ := hSw; go_simp; try with_reducible rfl
   try simp only [pS1, pS2, pS3, pS4]
   refine ckS 10 (fun K hK => ?_)
   have kP := KP.out
   have y0 : wn.frozen? ⟨P, 0, none⟩ = false := by simp [World.frozen?, kP]
   have y1 : wn.frozen? ⟨P, 1, none⟩ = false := by simp [World.frozen?, kP]
   have y2 : wn.frozen? ⟨P, 2, none⟩ = false := by simp [World.frozen?, kP]
   have y3 : wn.frozen? ⟨P, 3, none⟩ = false := by simp [World.frozen?, kP]
   have x0 : wn.cell? ⟨P, 0, none⟩ = some (.int .i64 0) := by simp [World.cell?, kP]
   have x1 : wn.cell? ⟨P, 1, none⟩ = some (.slice none 0 0) := by simp [World.cell?, kP]
   have x2 : wn.cell? ⟨P, 2, none⟩ = some (.slice none 0 0) := by simp [World.cell?, kP]
   have x3 : wn.cell? ⟨P, 3, none⟩ = some (.slice none 0 0) := by simp [World.cell?, kP]
   have hP3 := HPl.out.2.1
   have hDP : D ≠ P := by have := HPl.out.1; omega
   have hrd := hHeld.2
   go_simp
   refine hK.out _ _ (⟨((((hHeld.1.setCell (p := ⟨P, 0, none⟩) hP3 _).setCell (p := ⟨P, 1, none⟩) hP3 _).setCell (p := ⟨P, 2, none⟩) hP3 _).setCell (p := ⟨P, 3, none⟩) hP3 _), (Only.set1 _ P 3 _).cell ((Only.set1 _ P 2 _).cell ((Only.set1 _ P 1 _).cell ((Only.set1 _ P 0 _).cell hrd hDP) hDP) hDP) hDP⟩) (fun hHeld2 => ?_)
   clear hK K hHeld y0 y1 y2 y3 x0 x1 x2 x3 kP hP3 hrd hDP
   have hHeld := hHeld2
   clear hHeld2
   try simp only [pS1, pS2, pS3, pS4]
   have kp := put4s (v0 := .int .i64 0) (v1 := .slice B1 0 d1) (v2 := .slice B2 0 d2) (v3 := .slice B3 0 d3) KP.out
   generalize (((wn.setCell ⟨P, 0, none⟩ (.int .i64 0)).setCell ⟨P, 1, none⟩ (.slice B1 0 d1)).setCell ⟨P, 2, none⟩ (.slice B2 0 d2)).setCell ⟨P, 3, none⟩ (.slice B3 0 d3) = wz at kp hHeld ⊢
   have KP := Lib.hid kp
   clear kp HZ
   refine wpAnyH_done (by kernel_rfl) ?_ _
   have hD := (Only.of_below hHeld.1 (fun _ => False)).heap H3.out.1 (fun h => h)
   have HE := Lib.hid (And.intro hHeld.1 (And.intro hD KP.out))
   have hE : EntRd wz (fun _ => True) ⟨0, [], [], []⟩ (.slice B1 0 d1) (.slice B2 0 d2) (.slice B3 0 d3) := ⟨OpRd.nil0 HO1.out, Rd.nil0 HI1.out, ClRd.nil0 HF1.out, ⟨by decide, by decide⟩, by simp, by simp, by simp⟩
   have HC5 := Lib.hid (fcheck_ok wz _ ⟨0, [], [], []⟩ _ _ _ hE (H.out.2.2.below (H3.out.2.1.trans (hHeld.1.mono H3.out.2.1.size))) (by decide))
   clear hHeld hD hE KP
   have q0 : wz.cell? ⟨P, 0, none⟩ = some (.int .i64 0) := by simp [World.cell?, HE.out.2.2]
   have q1 : wz.cell? ⟨P, 1, none⟩ = some (.slice B1 0 d1) := by simp [World.cell?, HE.out.2.2]
   have q2 : wz.cell? ⟨P, 2, none⟩ = some (.slice B2 0 d2) := by simp [World.cell?, HE.out.2.2]
   have q3 : wz.cell? ⟨P, 3, none⟩ = some (.slice B3 0 d3) := by simp [World.cell?, HE.out.2.2]
   go_wp2_with fail
   refine HC5.out.mono ?_
   rintro e w6 ⟨rfl, hb6⟩
   rw [entE_nil]
   have H6 := Lib.hid (And.intro hb6 (And.intro ((Only.of_below hb6 (fun _ => False)).heap HE.out.2.1 (fun h => h)) ((Only.of_below hb6 (fun _ => False)).heap HE.out.2.2 (fun h => h))))
   have kC : w6.heap[C]? = _ := (Only.of_below hb6 (fun _ => False)).heap ((Only.of_below HE.out.1 (fun _ => False)).heap ((Only.of_below H3.out.2.1 (fun _ => False)).heap (by have := HB.out.2; rw [HC.out.1] at this; exact this) (fun h => h)) (fun h => h)) (fun h => h)
   have KC := Lib.hid kC
   clear q0 q1 q2 q3 hb6 HC5
   have y0 : w6.frozen? ⟨C, 0, none⟩ = false := by simp [World.frozen?, kC]
   have y1 : w6.frozen? ⟨C, 1, none⟩ = false := by simp [World.frozen?, kC]
   have y2 : w6.frozen? ⟨C, 2, none⟩ = false := by simp [World.frozen?, kC]
   have y3 : w6.frozen? ⟨C, 3, none⟩ = false := by simp [World.frozen?, kC]
   have y4 : w6.frozen? ⟨C, 4, none⟩ = false := by simp [World.frozen?, kC]
   have y5 : w6.frozen? ⟨C, 5, none⟩ = false := by simp [World.frozen?, kC]
   have y6 : w6.frozen? ⟨C, 6, none⟩ = false := by simp [World.frozen?, kC]
   have y7 : w6.frozen? ⟨C, 7, none⟩ = false := by simp [World.frozen?, kC]
   have z0 : w6.cell? ⟨C, 0, none⟩ = some ((.int .i64 0)) := by simp [World.cell?, kC]
   have z1 : w6.cell? ⟨C, 1, none⟩ = some ((.slice none 0 0)) := by simp [World.cell?, kC]
   have z2 : w6.cell? ⟨C, 2, none⟩ = some ((.slice none 0 0)) := by simp [World.cell?, kC]
   have z3 : w6.cell? ⟨C, 3, none⟩ = some ((.slice none 0 0)) := by simp [World.cell?, kC]
   have z4 : w6.cell? ⟨C, 4, none⟩ = some ((.int .i64 0)) := by simp [World.cell?, kC]
   have z5 : w6.cell? ⟨C, 5, none⟩ = some ((.int .i64 0)) := by simp [World.cell?, kC]
   have z6 : w6.cell? ⟨C, 6, none⟩ = some ((.slice none 0 0)) := by simp [World.cell?, kC]
   have z7 : w6.cell? ⟨C, 7, none⟩ = some ((.int .i64 0)) := by simp [World.cell?, kC]
   have x0 : w6.cell? ⟨D, 0, none⟩ = some ((.int .i64 0)) := by simp [World.cell?, H6.out.2.1]
   have x1 : w6.cell? ⟨D, 1, none⟩ = some ((.int .i64 0)) := by simp [World.cell?, H6.out.2.1]
   have x2 : w6.cell? ⟨D, 2, none⟩ = some ((.slice A 0 c)) := by simp [World.cell?, H6.out.2.1]
   have x3 : w6.cell? ⟨D, 3, none⟩ = some ((.int .i64 0)) := by simp [World.cell?, H6.out.2.1]
   have u0 : w6.cell? ⟨P, 0, none⟩ = some ((.int .i64 0)) := by simp [World.cell?, H6.out.2.2]
   have u1 : w6.cell? ⟨P, 1, none⟩ = some ((.slice B1 0 d1)) := by simp [World.cell?, H6.out.2.2]
   have u2 : w6.cell? ⟨P, 2, none⟩ = some ((.slice B2 0 d2)) := by simp [World.cell?, H6.out.2.2]
   have u3 : w6.cell? ⟨P, 3, none⟩ = some ((.slice B3 0 d3)) := by simp [World.cell?, H6.out.2.2]
   clear kC
   go_wp2_with fail
   have hp := put8c (v0 := .int .i64 0) (v1 := .slice B1 0 d1) (v2 := .slice B2 0 d2) (v3 := .slice B3 0 d3) (v4 := .int .i64 0) (v5 := .int .i64 0) (v6 := .slice A 0 c) (v7 := .int .i64 0) KC.out
   have hle : w.heap.size ≤ C := Nat.le_of_eq HC.out.1
   have hb := HB.out.1.trans ((H3.out.2.1.trans ((HE.out.1.trans (H6.out.1.mono HE.out.1.size)).mono H3.out.2.1.size)).mono HB.out.1.size)
   exact bodyPost_ret (results_cell_row2 rfl _ _ _ _ _ _ _ rfl hp Tryz.underlying131 rfl (by kernel_rfl)) rfl ⟨B1, d1, B2, d2, B3, d3, A, c, rfl, ⟨OpRd.nil0 HO1.out, Rd.nil0 HI1.out, ClRd.nil0 HF1.out, ⟨by decide, by decide⟩, by simp, by simp, by simp⟩, (((((((hb.setCell (p := ⟨C, 0, none⟩) hle _).setCell (p := ⟨C, 1, none⟩) hle _).setCell (p := ⟨C, 2, none⟩) hle _).setCell (p := ⟨C, 3, none⟩) hle _).setCell (p := ⟨C, 4, none⟩) hle _).setCell (p := ⟨C, 5, none⟩) hle _).setCell (p := ⟨C, 6, none⟩) hle _).setCell (p := ⟨C, 7, none⟩) hle _⟩
 ·skip
  go_simp
  refine hK.out _ _ (heldS1 hHeld (new_box _ _)) (fun hHeld2 => ?_)
  clear hK K hHeld 
  have hHeld := hHeld2
  clear hHeld2
  try simp only [pS1, pS2, pS3, pS4]
  have kp : ((w3.alloc (.cells #[.int .i64 0, .slice none 0 0, .slice none 0 0, .slice none 0 0] 81)).drew).heap[w3.heap.size]? = _ := heap_alloc_new w3 (.cells #[.int .i64 0, .slice none 0 0, .slice none 0 0, .slice none 0 0] 81)
  obtain ⟨P, hP⟩ : ∃ x, x = w3.heap.size := ⟨_, rfl⟩
  have hZ := HZ.out
  rw [← hP] at kp
  rw [show (⟨w3.heap.size, 0, none⟩ : Addr) = ⟨P, 0, none⟩ by rw [hP]]
  generalize (w3.alloc (.cells #[.int .i64 0, .slice none 0 0, .slice none 0 0, .slice none 0 0] 81)).drew = wn at kp hHeld ⊢
  have KP := Lib.hid kp
  have HPl := Lib.hid (show D < P ∧ w3.heap.size ≤ P ∧ P < wn.heap.size by have := H3.out.2.2.2; have := (Array.getElem?_eq_some_iff.1 kp).1; omega)
  have HZ := Lib.hid (show w3.heap.size ≤ wn.heap.size by have := HPl.out; omega)
  clear hZ kp hP
  refine ckS 2 (fun K hK => ?_)
  go_simp
  refine (cloneOps0_ok _ (fun _ => True) _ (OpRd.nil0 HO.out)).mono ?_
  rintro e wn ⟨B1, d1, rfl, hw1, hbn⟩
  have HZ := Lib.hid (Nat.le_trans HZ.out hbn.size)
  have KP := Lib.hid ((Only.of_below hbn (fun _ => False)).heap KP.out (fun h => h))
  have HO1 := Lib.hid hw1
  clear hw1
  try go_simp
  refine hK.out _ _ (heldS1 hHeld hbn) (fun hHeld2 => ?_)
  clear hK K hHeld hbn
  have hHeld := hHeld2
  clear hHeld2
  try simp only [pS1, pS2, pS3, pS4]
  refine ckS 4 (fun K hK => ?_)
  go_simp
  refine (cloneInts0_ok _ (fun _ => True) _ (Rd.nil0 HI.out)).mono ?_
  rintro e wn ⟨B2, d2, rfl, hw2, hbn⟩
  have HZ := Lib.hid (Nat.le_trans HZ.out hbn.size)
  have KP := Lib.hid ((Only.of_below hbn (fun _ => False)).heap KP.out (fun h => h))
  have HI1 := Lib.hid hw2
  clear hw2
  try go_simp
  refine hK.out _ _ (heldS1 hHeld hbn) (fun hHeld2 => ?_)
  clear hK K hHeld hbn
  have hHeld := hHeld2
  clear hHeld2
  try simp only [pS1, pS2, pS3, pS4]
  refine ckS 7 (fun K hK => ?_)
  go_simp
  refine (claims0_ok _ (fun _ => True) _ _ _ (ClRd.nil0 HF.out)).mono ?_
  rintro e wn ⟨B3, d3, rfl, hw3, hbn⟩
  have HZ := Lib.hid (Nat.le_trans HZ.out hbn.size)
  have KP := Lib.hid ((Only.of_below hbn (fun _ => False)).heap KP.out (fun h => h))
  have HF1 := Lib.hid hw3
  clear hw3
  try go_simp
  refine hK.out _ _ (heldS1 hHeld hbn) (fun hHeld2 => ?_)
  clear hK K hHeld hbn
  have hHeld := hHeld2
  clear hHeld2
  try simp only [pS1, pS2, pS3, pS4]
  refine tkS 8 (v := ?_) (fun wS hSw => ?_) hHeld ?_
  rotate_left
  ·obtain ⟨s0, s1⟩ := hSw; go_simp; try with_reducible rfl
  try simp only [pS1, pS2, pS3, pS4]
  refine ckS 10 (fun K hK => ?_)
  have kP := KP.out
  have y0 : wn.frozen? ⟨P, 0, none⟩ = false := by simp [World.frozen?, kP]
  have y1 : wn.frozen? ⟨P, 1, none⟩ = false := by simp [World.frozen?, kP]
  have y2 : wn.frozen? ⟨P, 2, none⟩ = false := by simp [World.frozen?, kP]
  have y3 : wn.frozen? ⟨P, 3, none⟩ = false := by simp [World.frozen?, kP]
  have x0 : wn.cell? ⟨P, 0, none⟩ = some (.int .i64 0) := by simp [World.cell?, kP]
  have x1 : wn.cell? ⟨P, 1, none⟩ = some (.slice none 0 0) := by simp [World.cell?, kP]
  have x2 : wn.cell? ⟨P, 2, none⟩ = some (.slice none 0 0) := by simp [World.cell?, kP]
  have x3 : wn.cell? ⟨P, 3, none⟩ = some (.slice none 0 0) := by simp [World.cell?, kP]
  have hP3 := HPl.out.2.1
  have hDP : D ≠ P := by have := HPl.out.1; omega
  have hrd := hHeld.2
  go_simp
  refine hK.out _ _ (⟨((((hHeld.1.setCell (p := ⟨P, 0, none⟩) hP3 _).setCell (p := ⟨P, 1, none⟩) hP3 _).setCell (p := ⟨P, 2, none⟩) hP3 _).setCell (p := ⟨P, 3, none⟩) hP3 _), (Only.set1 _ P 3 _).cell ((Only.set1 _ P 2 _).cell ((Only.set1 _ P 1 _).cell ((Only.set1 _ P 0 _).cell hrd hDP) hDP) hDP) hDP⟩) (fun hHeld2 => ?_)
  clear hK K hHeld y0 y1 y2 y3 x0 x1 x2 x3 kP hP3 hrd hDP
  have hHeld := hHeld2
  clear hHeld2
  try simp only [pS1, pS2, pS3, pS4]
  have kp := put4s (v0 := .int .i64 0) (v1 := .slice B1 0 d1) (v2 := .slice B2 0 d2) (v3 := .slice B3 0 d3) KP.out
  generalize (((wn.setCell ⟨P, 0, none⟩ (.int .i64 0)).setCell ⟨P, 1, none⟩ (.slice B1 0 d1)).setCell ⟨P, 2, none⟩ (.slice B2 0 d2)).setCell ⟨P, 3, none⟩ (.slice B3 0 d3) = wz at kp hHeld ⊢
  have KP := Lib.hid kp
  clear kp HZ
  refine wpAnyH_done (by kernel_rfl) ?_ _
  have hD := (Only.of_below hHeld.1 (fun _ => False)).heap H3.out.1 (fun h => h)
  have HE := Lib.hid (And.intro hHeld.1 (And.intro hD KP.out))
  have hE : EntRd wz (fun _ => True) ⟨0, [], [], []⟩ (.slice B1 0 d1) (.slice B2 0 d2) (.slice B3 0 d3) := ⟨OpRd.nil0 HO1.out, Rd.nil0 HI1.out, ClRd.nil0 HF1.out, ⟨by decide, by decide⟩, by simp, by simp, by simp⟩
  have HC5 := Lib.hid (fcheck_ok wz _ ⟨0, [], [], []⟩ _ _ _ hE (H.out.2.2.below (H3.out.2.1.trans (hHeld.1.mono H3.out.2.1.size))) (by decide))
  clear hHeld hD hE KP
  have q0 : wz.cell? ⟨P, 0, none⟩ = some (.int .i64 0) := by simp [World.cell?, HE.out.2.2]
  have q1 : wz.cell? ⟨P, 1, none⟩ = some (.slice B1 0 d1) := by simp [World.cell?, HE.out.2.2]
  have q2 : wz.cell? ⟨P, 2, none⟩ = some (.slice B2 0 d2) := by simp [World.cell?, HE.out.2.2]
  have q3 : wz.cell? ⟨P, 3, none⟩ = some (.slice B3 0 d3) := by simp [World.cell?, HE.out.2.2]
  go_wp2_with fail
  refine HC5.out.mono ?_
  rintro e w6 ⟨rfl, hb6⟩
  rw [entE_nil]
  have H6 := Lib.hid (And.intro hb6 (And.intro ((Only.of_below hb6 (fun _ => False)).heap HE.out.2.1 (fun h => h)) ((Only.of_below hb6 (fun _ => False)).heap HE.out.2.2 (fun h => h))))
  have kC : w6.heap[C]? = _ := (Only.of_below hb6 (fun _ => False)).heap ((Only.of_below HE.out.1 (fun _ => False)).heap ((Only.of_below H3.out.2.1 (fun _ => False)).heap (by have := HB.out.2; rw [HC.out.1] at this; exact this) (fun h => h)) (fun h => h)) (fun h => h)
  have KC := Lib.hid kC
  clear q0 q1 q2 q3 hb6 HC5
  have y0 : w6.frozen? ⟨C, 0, none⟩ = false := by simp [World.frozen?, kC]
  have y1 : w6.frozen? ⟨C, 1, none⟩ = false := by simp [World.frozen?, kC]
  have y2 : w6.frozen? ⟨C, 2, none⟩ = false := by simp [World.frozen?, kC]
  have y3 : w6.frozen? ⟨C, 3, none⟩ = false := by simp [World.frozen?, kC]
  have y4 : w6.frozen? ⟨C, 4, none⟩ = false := by simp [World.frozen?, kC]
  have y5 : w6.frozen? ⟨C, 5, none⟩ = false := by simp [World.frozen?, kC]
  have y6 : w6.frozen? ⟨C, 6, none⟩ = false := by simp [World.frozen?, kC]
  have y7 : w6.frozen? ⟨C, 7, none⟩ = false := by simp [World.frozen?, kC]
  have z0 : w6.cell? ⟨C, 0, none⟩ = some ((.int .i64 0)) := by simp [World.cell?, kC]
  have z1 : w6.cell? ⟨C, 1, none⟩ = some ((.slice none 0 0)) := by simp [World.cell?, kC]
  have z2 : w6.cell? ⟨C, 2, none⟩ = some ((.slice none 0 0)) := by simp [World.cell?, kC]
  have z3 : w6.cell? ⟨C, 3, none⟩ = some ((.slice none 0 0)) := by simp [World.cell?, kC]
  have z4 : w6.cell? ⟨C, 4, none⟩ = some ((.int .i64 0)) := by simp [World.cell?, kC]
  have z5 : w6.cell? ⟨C, 5, none⟩ = some ((.int .i64 0)) := by simp [World.cell?, kC]
  have z6 : w6.cell? ⟨C, 6, none⟩ = some ((.slice none 0 0)) := by simp [World.cell?, kC]
  have z7 : w6.cell? ⟨C, 7, none⟩ = some ((.int .i64 0)) := by simp [World.cell?, kC]
  have x0 : w6.cell? ⟨D, 0, none⟩ = some ((.int .i64 0)) := by simp [World.cell?, H6.out.2.1]
  have x1 : w6.cell? ⟨D, 1, none⟩ = some ((.int .i64 0)) := by simp [World.cell?, H6.out.2.1]
  have x2 : w6.cell? ⟨D, 2, none⟩ = some ((.slice A 0 c)) := by simp [World.cell?, H6.out.2.1]
  have x3 : w6.cell? ⟨D, 3, none⟩ = some ((.int .i64 0)) := by simp [World.cell?, H6.out.2.1]
  have u0 : w6.cell? ⟨P, 0, none⟩ = some ((.int .i64 0)) := by simp [World.cell?, H6.out.2.2]
  have u1 : w6.cell? ⟨P, 1, none⟩ = some ((.slice B1 0 d1)) := by simp [World.cell?, H6.out.2.2]
  have u2 : w6.cell? ⟨P, 2, none⟩ = some ((.slice B2 0 d2)) := by simp [World.cell?, H6.out.2.2]
  have u3 : w6.cell? ⟨P, 3, none⟩ = some ((.slice B3 0 d3)) := by simp [World.cell?, H6.out.2.2]
  clear kC
  go_wp2_with fail
  have hp := put8c (v0 := .int .i64 0) (v1 := .slice B1 0 d1) (v2 := .slice B2 0 d2) (v3 := .slice B3 0 d3) (v4 := .int .i64 0) (v5 := .int .i64 0) (v6 := .slice A 0 c) (v7 := .int .i64 0) KC.out
  have hle : w.heap.size ≤ C := Nat.le_of_eq HC.out.1
  have hb := HB.out.1.trans ((H3.out.2.1.trans ((HE.out.1.trans (H6.out.1.mono HE.out.1.size)).mono H3.out.2.1.size)).mono HB.out.1.size)
  exact bodyPost_ret (results_cell_row2 rfl _ _ _ _ _ _ _ rfl hp Tryz.underlying131 rfl (by kernel_rfl)) rfl ⟨B1, d1, B2, d2, B3, d3, A, c, rfl, ⟨OpRd.nil0 HO1.out, Rd.nil0 HI1.out, ClRd.nil0 HF1.out, ⟨by decide, by decide⟩, by simp, by simp, by simp⟩, (((((((hb.setCell (p := ⟨C, 0, none⟩) hle _).setCell (p := ⟨C, 1, none⟩) hle _).setCell (p := ⟨C, 2, none⟩) hle _).setCell (p := ⟨C, 3, none⟩) hle _).setCell (p := ⟨C, 4, none⟩) hle _).setCell (p := ⟨C, 5, none⟩) hle _).setCell (p := ⟨C, 6, none⟩) hle _).setCell (p := ⟨C, 7, none⟩) hle _⟩
end
end Go.Proofs.YtagemonojdgbdaaGreatDoor
