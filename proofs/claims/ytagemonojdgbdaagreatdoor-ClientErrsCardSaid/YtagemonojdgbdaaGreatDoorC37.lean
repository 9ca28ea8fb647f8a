import Derived.Test.YtagemonojdgbdaaGreatDoorC25
import Derived.Test.YtagemonojdgbdaaGreatDoorC26
import Derived.Test.YtagemonojdgbdaaGreatDoorC34
import Derived.Test.YtagemonojdgbdaaGreatDoorC36
namespace Go.Proofs.YtagemonojdgbdaaGreatDoor
set_option maxRecDepth 100000
open Go.RowKit
def MayAt (w : World) (S : Nat → Prop) (v : Value) (ok : Cl → Bool) : Prop :=
 (v = .pointer none ∧ ∀ c, ok c = true) ∨ ∃ B fv f, v = .pointer (some ⟨B, 0, none⟩) ∧ ¬ S B ∧ w.cell? ⟨B, 0, none⟩ = some fv ∧ ClRd w (fun k => ¬ S k) fv f ∧ f.length ≤ 1000 ∧ Good f ∧ ∀ c, Ok c → Tells (ok c) (WithinP [c] f)
theorem MayAt.only {w w' : World} {S T : Nat → Prop} {v : Value} {ok : Cl → Bool} (h : MayAt w S v ok) (ho : Only T w w') (hT : ∀ k, T k → S k) : MayAt w' S v ok := by
 rcases h with h | ⟨B, fv, f, h1, h2, h3, h4, h5⟩
 ·exact .inl h
 ·exact .inr ⟨B, fv, f, h1, h2, ho.cell h3 (fun h => h2 (hT _ h)), h4.only ho (fun k hk h => hk (hT k h)), h5⟩
def FootIs (w : World) (S : Nat → Prop) (v : Value) (cl : List Cl) : Prop := ClRd w (fun k => ¬ S k) v (normF cl) ∧ (normF cl).length ≤ 64 ∧ Good cl
theorem FootIs.only {w w' : World} {S T : Nat → Prop} {v : Value} {cl : List Cl} (h : FootIs w S v cl) (ho : Only T w w') (hT : ∀ k, T k → S k) : FootIs w' S v cl :=
 ⟨h.1.only ho (fun k hk h => hk (hT k h)), h.2⟩
structure FE where
 id : Int
 ops : List POp
 args : List Int
 cls : List Cl
def I64f (n : Int) : Prop := -9223372036854775808 ≤ n ∧ n ≤ 9223372036854775807
def FE.fits (e : FE) : Prop := I64f e.id ∧ (∀ o ∈ e.ops, o.fits) ∧ (∀ n ∈ e.args, I64f n) ∧ ∀ c ∈ e.cls, c.fits
def EntRd (w : World) (G : Nat → Prop) (e : FE) (vo va vc : Value) : Prop := OpRd w G vo e.ops ∧ Rd w G va (ivs e.args) ∧ ClRd w G vc e.cls ∧ e.fits
def entV (e : FE) (vo va vc : Value) : Value := .agg #[.int .i64 e.id, vo, va, vc]
theorem EntRd.below {w w' : World} {G : Nat → Prop} {e : FE} {vo va vc : Value} (h : EntRd w G e vo va vc) (hb : Below w.heap.size w w') : EntRd w' G e vo va vc := ⟨RdK.below h.1 hb, Rd.below h.2.1 hb, RdK.below h.2.2.1 hb, h.2.2.2⟩
noncomputable def clsE (l : List Cl) : Int := by
 classical
 exact if errOf l ≠ 0 then errOf l else if ∃ out, IsForm l out ∧ 64 < out.length then 23 else if IsForm l l then 0 else 17
def argsOk (l : List Int) : Bool := l.all (fun n => decide (-1099511627776 ≤ n) && decide (n ≤ 1099511627776))
def entE2 (e : FE) : Int := if 8 < e.args.length then 23 else if argsOk e.args = false then 10 else 0
def entE1 (e : FE) : Int := if opsE e.ops ≠ 0 then opsE e.ops else entE2 e
def entE0 (e : FE) : Int := if e.id < 0 ∨ 1099511627776 < e.id then 10 else entE1 e
noncomputable def entE (e : FE) : Int := if entE0 e ≠ 0 then entE0 e else clsE e.cls
theorem entE_of {e : FE} {v : Int} (h : entE0 e = v) (hv : v ≠ 0) : entE e = v := by unfold entE; rw [h, if_pos hv]
theorem entE_cls {e : FE} (h : entE0 e = 0) : entE e = clsE e.cls := by unfold entE; rw [if_neg (by rw [h]; simp)]
theorem entE1_ne {e : FE} {p : Int} (h : opsE e.ops = p) (hp : p ≠ 0) : entE1 e = p := by unfold entE1; rw [h, if_pos hp]
theorem entE1_zero {e : FE} (h : opsE e.ops = 0) : entE1 e = entE2 e := by unfold entE1; rw [h, if_neg (by simp)]
theorem entE2_long {e : FE} (h : 8 < e.args.length) : entE2 e = 23 := by unfold entE2; rw [if_pos h]
theorem entE2_bad {e : FE} (h : ¬ 8 < e.args.length) (ha : argsOk e.args = false) : entE2 e = 10 := by unfold entE2; rw [if_neg h, if_pos ha]
theorem entE2_ok {e : FE} (h : ¬ 8 < e.args.length) (ha : argsOk e.args = true) : entE2 e = 0 := by unfold entE2; rw [if_neg h, if_neg (by rw [ha]; simp)]
theorem clsE_err {l : List Cl} (h : errOf l ≠ 0) : clsE l = errOf l := by unfold clsE; rw [if_pos h]
theorem clsE_big {l out : List Cl} (h : errOf l = 0) (hf : IsForm l out) (hl : 64 < out.length) : clsE l = 23 := by
 unfold clsE
 rw [if_neg (by simp [h]), if_pos ⟨out, hf, hl⟩]
theorem clsE_form {l out : List Cl} (h : errOf l = 0) (hf : IsForm l out) (hl : out.length ≤ 64) : clsE l = if out = l then 0 else 17 := by
 unfold clsE
 rw [if_neg (by simp [h]), if_neg (fun ⟨o, ho, hlo⟩ => by have := hf.unique ho; subst this; omega)]
 by_cases e : out = l
 ·rw [if_pos e, if_pos (by rw [e] at hf; exact hf)]
 ·rw [if_neg e, if_neg (fun h2 => e (hf.unique h2))]
theorem NewV.cls {l : List Cl} {w w' : World} {v : Value} {n : Int} (h : NewV l w v n w') : (n ≠ 0 ∧ clsE l = n ∧ v = .slice none 0 0) ∨ (n = 0 ∧ ∃ out, IsForm l out ∧ out.length ≤ 64 ∧ clsE l = (if out = l then 0 else 17) ∧ ∃ A c, v = .slice A out.length c ∧ w'.ownsRow w.heap.size 48 5 (.slice A out.length c) out.length (out.map Cl.cells).flatten) := by
 rcases h.2 with ⟨h1, rfl, rfl⟩ | ⟨h1, out, hf, ⟨h3, rfl, rfl⟩ | ⟨h3, rfl, h4⟩⟩
 ·exact .inl ⟨h1, clsE_err h1, rfl⟩
 ·exact .inl ⟨by decide, clsE_big h1 hf h3, rfl⟩
 ·exact .inr ⟨rfl, out, hf, h3, clsE_form h1 hf h3, h4⟩
theorem args_no {l : List Int} {k : Nat} {n : Int} (hk : l[k]? = some n) (h : ¬ (-1099511627776 ≤ n ∧ n ≤ 1099511627776)) : argsOk l = false := by
 unfold argsOk
 rw [Bool.eq_false_iff]
 intro hh
 rw [List.all_eq_true] at hh
 have := hh n (List.mem_of_getElem? hk)
 rw [Bool.and_eq_true, decide_eq_true_iff, decide_eq_true_iff] at this
 exact h this
set_option maxHeartbeats 4000000 in
theorem fcheck_ok (w : World) (G : Nat → Prop) (e : FE) (vo va vc : Value) (h : EntRd w G e vo va vc) (hs : ShTab w) (hcl : e.cls.length ≤ 1000) :
  Calls Tryz.prog 26 #[entV e vo va vc] w fun en w' => en = .returned (.int .i64 (entE e)) ∧ Below w.heap.size w w' := by
 obtain ⟨A1, c1, rfl, _, _⟩ := h.1.slice
 obtain ⟨A2, c2, rfl, hla, hca⟩ := ivs_slice h.2.1
 obtain ⟨AC, cC, hvc, _, _⟩ := h.2.2.1.slice
 subst hvc
 have hEl := ivs_at h.2.1
 unfold entV
 obtain ⟨id, hid⟩ : ∃ i, e.id = i := ⟨_, rfl⟩
 have he0 : entE0 e = if id < 0 ∨ 1099511627776 < id then 10 else entE1 e := by unfold entE0; rw [hid]
 have hbd := h.2.2.2.1
 unfold I64f at hbd
 rw [hid] at hbd ⊢
 have HE := Lib.hid (And.intro (And.intro he0 hEl) (And.intro h (And.intro hs (Below.refl w.heap.size w))))
 clear hs he0 hid hEl
 have hentE : entE e = if entE0 e ≠ 0 then entE0 e else clsE e.cls := rfl
 have HEE := Lib.hid hentE
 clear hentE h
 by_cases hbad : id < 0 ∨ 1099511627776 < id
 ·have HN := Lib.hid (show entE e = 10 from entE_of (by rw [HE.out.1.1, if_pos hbad]) (by decide))
  rcases hbad with hb | hb
  ·clear hbd
   go_enter Tryz.func26, Tryz.ntmps26
   go_wp2_with fail
   go_ret
   exact ⟨by rw [HN.out]; rfl, (Below.refl _ _).alloc (Nat.le_refl _) _⟩
  ·have hb0 : ¬ id < 0 := by omega
   clear hbd
   go_enter Tryz.func26, Tryz.ntmps26
   go_wp2_with fail
   go_ret
   exact ⟨by rw [HN.out]; rfl, (Below.refl _ _).alloc (Nat.le_refl _) _⟩
 ·have hb0 : ¬ id < 0 := fun h => hbad (.inl h)
  have hb1 : ¬ 1099511627776 < id := fun h => hbad (.inr h)
  have HN := Lib.hid (show entE0 e = entE1 e by rw [HE.out.1.1, if_neg hbad])
  clear hbad hbd
  go_enter Tryz.func26, Tryz.ntmps26
  go_upto_region 3 with fail
  have g1 : (w.alloc (.cells #[.int .i64 id, .slice A1 e.ops.length c1, .slice A2 e.args.length c2, .slice AC e.cls.length cC] 81)).cell? ⟨w.heap.size, 1, none⟩ = some (.slice A1 e.ops.length c1) := by simp
  have g2 : (w.alloc (.cells #[.int .i64 id, .slice A1 e.ops.length c1, .slice A2 e.args.length c2, .slice AC e.cls.length cC] 81)).cell? ⟨w.heap.size, 2, none⟩ = some (.slice A2 e.args.length c2) := by simp
  have g3 : (w.alloc (.cells #[.int .i64 id, .slice A1 e.ops.length c1, .slice A2 e.args.length c2, .slice AC e.cls.length cC] 81)).cell? ⟨w.heap.size, 3, none⟩ = some (.slice AC e.cls.length cC) := by simp
  have hbb := (Below.refl w.heap.size w).alloc (Nat.le_refl _) (.cells #[.int .i64 id, .slice A1 e.ops.length c1, .slice A2 e.args.length c2, .slice AC e.cls.length cC] 81)
  generalize w.alloc (.cells #[.int .i64 id, .slice A1 e.ops.length c1, .slice A2 e.args.length c2, .slice AC e.cls.length cC] 81) = wb at g1 g2 g3 hbb ⊢
  obtain ⟨B, hB⟩ : ∃ B, w.heap.size = B := ⟨_, rfl⟩
  have HBB := Lib.hid hbb
  rw [hB] at g1 g2 g3 ⊢
  have HBQ := Lib.hid hB
  clear hbb hB
  obtain ⟨p, hp⟩ : ∃ p, opsE e.ops = p := ⟨_, rfl⟩
  have hpc := pcheck_ok wb G (.slice A1 e.ops.length c1) e.ops (RdK.below HE.out.2.1.1 HBB.out) (HE.out.2.2.1.below HBB.out)
  rw [hp] at hpc
  have HP := Lib.hid (And.intro hpc hp)
  clear hpc hp
  go_wp2_with fail
  refine HP.out.1.mono ?_
  rintro en w2 ⟨rfl, hb2⟩
  have f2 := (hb2.cell (p := ⟨B, 2, none⟩) (World.block_lt_of_cell? _ _ g2)).trans g2
  have f3 := (hb2.cell (p := ⟨B, 3, none⟩) (World.block_lt_of_cell? _ _ g3)).trans g3
  have HB2 := Lib.hid (HBB.out.trans (hb2.mono HBB.out.size))
  clear hb2 g1 g2 g3
  by_cases hp0 : p = 0
  ·subst hp0
   by_cases ha8 : 8 < e.args.length
   ·have ha8' : (8 : Int) < (e.args.length : Int) := by omega
    have HX := Lib.hid (show entE e = 23 from entE_of ((HN.out.trans (entE1_zero HP.out.2)).trans (entE2_long ha8)) (by decide))
    go_wp2_with fail
    go_ret
    exact ⟨by rw [HX.out]; rfl, by rw [HBQ.out] at HB2; exact by rw [HBQ.out]; exact HB2.out⟩
   ·have ha8' : ¬ ((8 : Int) < (e.args.length : Int)) := by omega
    have HX := Lib.hid (show entE0 e = entE2 e from HN.out.trans (entE1_zero HP.out.2))
    go_wp2_with fail
    go_loop [29] (fun i => ∃ k : Nat, k ≤ e.args.length ∧ i = .int .i64 (k : Int) ∧ argsOk (e.args.take k) = true) (fun i => e.args.length - (intOf i).toNat)
    case atStart => exact ⟨0, Nat.zero_le _, rfl, rfl⟩
    case round =>
     obtain ⟨k, hk, rfl, hal⟩ := hrel
     by_cases hlt : k < e.args.length
     ·obtain ⟨x, hx⟩ : ∃ x, e.args[k]? = some x := ⟨_, List.getElem?_eq_getElem hlt⟩
      obtain ⟨ba, oa, hA2, _, cx⟩ := HE.out.1.2.2.2.2 k x hx
      subst hA2
      have dx := (HB2.out.cell (p := ⟨ba, oa + k, none⟩) (World.block_lt_of_cell? _ _ cx)).trans cx
      have HXX := Lib.hid (And.intro hx hal)
      clear hx hal cx
      by_cases hr : -1099511627776 ≤ x ∧ x ≤ 1099511627776
      ·have hr1 : ¬ x < -1099511627776 := by omega
       have hr2 : ¬ 1099511627776 < x := by omega
       have HR := Lib.hid hr
       clear hr
       go_wp2_with fail
       go_round
       case rel =>
        refine ⟨k + 1, by omega, by go_num, ?_⟩
        have h9 := HXX.out.2
        unfold argsOk at h9 ⊢
        rw [List.take_add_one, HXX.out.1, List.all_append, h9]
        simp [HR.out.1, HR.out.2]
       case measure => simp [intOf]; omega
      ·have HR := Lib.hid (show entE e = 10 from entE_of (HX.out.trans (entE2_bad ha8 (args_no HXX.out.1 hr))) (by decide))
       by_cases hr1 : x < -1099511627776
       ·clear hr
        go_wp2_with fail
        go_ret
        exact ⟨by rw [HR.out]; rfl, by rw [HBQ.out] at HB2; exact by rw [HBQ.out]; exact HB2.out⟩
       ·have hr2 : 1099511627776 < x := by omega
        clear hr
        go_wp2_with fail
        go_ret
        exact ⟨by rw [HR.out]; rfl, by rw [HBQ.out] at HB2; exact by rw [HBQ.out]; exact HB2.out⟩
     ·obtain rfl : k = e.args.length := by omega
      rw [List.take_length] at hal
      have HY := Lib.hid (show entE e = clsE e.cls from entE_cls (HX.out.trans (entE2_ok ha8 hal)))
      clear hal hlt hk
      go_wp2_with fail
      refine (new_ok w2 G _ e.cls (RdK.below HE.out.2.1.2.2.1 HB2.out) hcl HE.out.2.1.2.2.2.2.2.2).mono ?_
      intro en w3 hnp
      obtain ⟨u1, n1, rfl, hnv⟩ := hnp.named
      have hb3 := hnv.1
      have e3 := (hb3.cell (p := ⟨B, 3, none⟩) (World.block_lt_of_cell? _ _ f3)).trans f3
      have HB3 := Lib.hid (HB2.out.trans (hb3.mono HB2.out.size))
      rcases hnv.cls with ⟨hn0, hcn, rfl⟩ | ⟨rfl, out, hf, h64, hce, A3, c3, rfl, hO⟩
      ·have e1 : (n1 != 0) = true := by simpa using hn0
       have HZ := Lib.hid hcn
       clear hn0 hcn hb3 hnv hnp
       go_wp2_with fail
       go_ret
       exact ⟨by rw [HY.out, HZ.out]; rfl, by have := HB3.out.alloc HB3.out.size (.cells #[.slice none 0 0] 87); rw [HBQ.out] at this ⊢; exact this⟩
      ·have HZ := Lib.hid (And.intro hce hf)
       have hO6 : ClRd (w3.alloc (.cells #[.slice A3 out.length c3] 87)) (fun _ => True) (.slice A3 out.length c3) out := RdK.below (fresh_rd hO) (one_box _ _)
       have g6 : (w3.alloc (.cells #[.slice A3 out.length c3] 87)).cell? ⟨w3.heap.size, 0, none⟩ = some (.slice A3 out.length c3) := by simp
       have g3 := cell_alloc_any e3 (.cells #[.slice A3 out.length c3] 87)
       have hbw6 := HB3.out.alloc HB3.out.size (.cells #[.slice A3 out.length c3] 87)
       clear hce hf hb3 hnv hnp hO e3 f2 f3
       go_upto_region 17 with fail
       generalize w3.alloc (.cells #[.slice A3 out.length c3] 87) = w6 at hO6 g6 g3 hbw6 ⊢
       obtain ⟨B6, hB6⟩ : ∃ B, w3.heap.size = B := ⟨_, rfl⟩
       rw [hB6] at g6 ⊢
       have HQ := Lib.hid hO6
       have HBW := Lib.hid hbw6
       clear hO6 hbw6 hB6
       refine wp_region_held_drew (S := (fun w' => Below w6.heap.size w6 w' ∧ w'.cell? ⟨B, 3, none⟩ = some (.slice AC e.cls.length cC) ∧ w'.cell? ⟨B6, 0, none⟩ = some (.slice A3 out.length c3))) (by kernel_rfl) ⟨(Below.refl _ _).drew, (((Below.refl _ _).drew).cell (p := ⟨B, 3, none⟩) (World.block_lt_of_cell? _ _ g3)).trans g3, (((Below.refl _ _).drew).cell (p := ⟨B6, 0, none⟩) (World.block_lt_of_cell? _ _ g6)).trans g6⟩ (fun hHeld => ?_)
       refine take_lit (i := 0) (v := ?_) rfl (by kernel_rfl) (by kernel_rfl) (by kernel_rfl) (fun _ _ _ h => h) (by rfl) (fun wS hSw => ?_) hHeld ?_
       rotate_left
       ·obtain ⟨s0, s1, s2⟩ := hSw; go_simp; try with_reducible rfl
       try simp only [pS1, pS2, pS3, pS4]
       refine take_lit (i := 2) (v := ?_) rfl (by kernel_rfl) (by kernel_rfl) (by kernel_rfl) (fun _ _ _ h => h) (by rfl) (fun wS hSw => ?_) hHeld ?_
       rotate_left
       ·obtain ⟨s0, s1, s2⟩ := hSw; go_simp; try with_reducible rfl
       try simp only [pS1, pS2, pS3, pS4]
       refine take_lit (i := 3) (v := ?_) rfl (by kernel_rfl) (by kernel_rfl) (by kernel_rfl) (fun _ _ _ h => h) (by rfl) (fun wS hSw => ?_) hHeld ?_
       rotate_left
       ·obtain ⟨s0, s1, s2⟩ := hSw; go_simp; try with_reducible rfl
       try simp only [pS1, pS2, pS3, pS4]
       refine wpAnyH_ready (rs := [1]) (by kernel_rfl) (by simp) (cons_lit (i := 1) rfl (fun K hK => ?_) AllReadyH.nil)
       go_simp
       refine (claims_ok _ (fun _ => True) (.slice A3 out.length c3) out (HQ.out.below hHeld.1) (by omega)).mono ?_
       rintro e wn ⟨A5, c5, rfl, hO5, hbn⟩
       have HO5 := Lib.hid hO5
       clear hO5
       try go_simp
       refine hK.out _ _ (⟨hHeld.1.trans (hbn.mono hHeld.1.size), (hbn.cell (p := ⟨B, 3, none⟩) (World.block_lt_of_cell? _ _ hHeld.2.1)).trans hHeld.2.1, (hbn.cell (p := ⟨B6, 0, none⟩) (World.block_lt_of_cell? _ _ hHeld.2.2)).trans hHeld.2.2⟩) (fun hHeld2 => ?_)
       clear hK K hHeld
       have hHeld := hHeld2
       clear hHeld2
       try simp only [pS1, pS2, pS3, pS4]
       refine wpAnyH_ready (rs := [4]) (by kernel_rfl) (by simp) (cons_lit (i := 4) rfl (fun K hK => ?_) AllReadyH.nil)
       go_simp
       refine (equal_ok _ (fun _ => True) (fun _ => True) (.slice A5 out.length c5) (.slice AC e.cls.length cC) out e.cls (fresh_rd HO5.out) (RdK.mono (RdK.below HE.out.2.1.2.2.1 (HBW.out.trans (hHeld.1.mono HBW.out.size))) (fun _ _ => trivial)) (by omega)).mono ?_
       rintro e wn ⟨r5, hr5, rfl, hbn⟩
       have HR5 := Lib.hid (show Tells r5 (out = e.cls) from hr5)
       clear hr5
       try go_simp
       refine hK.out _ _ (⟨hHeld.1.trans (hbn.mono hHeld.1.size), (hbn.cell (p := ⟨B, 3, none⟩) (World.block_lt_of_cell? _ _ hHeld.2.1)).trans hHeld.2.1, (hbn.cell (p := ⟨B6, 0, none⟩) (World.block_lt_of_cell? _ _ hHeld.2.2)).trans hHeld.2.2⟩) (fun hHeld2 => ?_)
       clear hK K hHeld
       have hHeld := hHeld2
       clear hHeld2
       try simp only [pS1, pS2, pS3, pS4]
       refine take_lit (i := 5) (v := ?_) rfl (by kernel_rfl) (by kernel_rfl) (by kernel_rfl) (fun _ _ _ h => h) (by rfl) (fun wS hSw => ?_) hHeld ?_
       rotate_left
       ·obtain ⟨s0, s1, s2⟩ := hSw; go_simp; try with_reducible rfl
       try simp only [pS1, pS2, pS3, pS4]
       refine wpAnyH_done (by kernel_rfl) ?_ _
       have HW := Lib.hid (HBW.out.trans (hHeld.1.mono HBW.out.size))
       clear hHeld
       cases r5 with
       | true =>
        have HT := Lib.hid HR5.out.pos
        clear HR5
        go_wp2_with fail
        go_ret
        exact ⟨by rw [HY.out, HZ.out.1, if_pos HT.out]; rfl, HW.out⟩
       | false =>
        have HT := Lib.hid HR5.out.neg
        clear HR5
        go_wp2_with fail
        go_ret
        exact ⟨by rw [HY.out, HZ.out.1, if_neg HT.out]; rfl, HW.out⟩
  ·have hpn : (p != 0) = true := by simpa using hp0
   have HX := Lib.hid (show entE e = p from entE_of (HN.out.trans (entE1_ne HP.out.2 hp0)) hp0)
   clear hp0
   go_wp2_with fail
   go_ret
   exact ⟨by rw [HX.out]; rfl, by rw [HBQ.out] at HB2; exact by rw [HBQ.out]; exact HB2.out⟩
section
open Go.ChangeShapes Go.WideShapes Go.ChangeAt Go.RowKit Go.Deep
theorem Tryz.cellsPOp : Tryz.prog.cellsOf 104 = 5 := by kernel_rfl
theorem Tryz.cellsBad : Tryz.prog.cellsOf 55 = 4 := by kernel_rfl
def numB (n : Int) : List Value := [.int .i64 n]
theorem RdK_flatB {W : World} {F : Nat → Prop} {v : Value} {l : List Int} (h : RdK 1 W F v (l.map numB)) : Rd W F v (ivs l) := by
 obtain ⟨A, n, c, hv, hl, hnc, hcm, hx⟩ := h
 refine ⟨A, n, c, hv, by simpa [ivs] using hl, hnc, hcm, fun h0 => ?_⟩
 obtain ⟨b, o, hA, hF, hc⟩ := hx h0
 refine ⟨b, o, hA, hF, fun i x hi => ?_⟩
 obtain ⟨y, hy, rfl⟩ : ∃ y, l[i]? = some y ∧ Value.int .i64 y = x := by
  unfold ivs at hi
  rw [List.getElem?_map] at hi
  cases hy : l[i]? with
  | none => rw [hy] at hi; cases hi
  | some y => rw [hy] at hi; injection hi with hi; exact ⟨y, rfl, hi⟩
 simpa using hc i (numB y) (by simp [hy]) 0 _ rfl
theorem popB_of_trod {H : Type} {enc : TypeId × Value → H} {W : World} {fuel : Nat} {cs : List Value} {x : DataW H × List MemPlace} (h : DataW.trod enc Tryz.prog W 0 (fun _ => true) true fuel 104 cs = some x) :
  ∃ o : POp, cs = o.cells ∧ o.fits := by
 obtain ⟨xs, n, _, _, hlen, hxl, hf⟩ := DataW.trod_struct Tryz.underlying104 h
 rw [Tryz.cellsPOp] at hlen
 match cs, hlen with
 | [v0, v1, v2, v3, v4], _ =>
  have hx : ∀ i, i < 5 → ∃ y, xs[i]? = some y := fun i hi => ⟨_, List.getElem?_eq_getElem (by rw [hxl]; exact hi)⟩
  obtain ⟨y0, e0⟩ := hx 0 (by decide)
  have f0 := hf 0 _ rfl
  rw [e0] at f0
  change DataW.trod enc Tryz.prog W 0 (fun _ => true) true n 3 (List.take (Tryz.prog.cellsOf 3) (List.drop 0 [v0, v1, v2, v3, v4])) = _ at f0
  rw [Tryz.cellsIc] at f0
  obtain ⟨y1, e1⟩ := hx 1 (by decide)
  have f1 := hf 1 _ rfl
  rw [e1] at f1
  change DataW.trod enc Tryz.prog W 0 (fun _ => true) true n 3 (List.take (Tryz.prog.cellsOf 3) (List.drop 1 [v0, v1, v2, v3, v4])) = _ at f1
  rw [Tryz.cellsIc] at f1
  obtain ⟨y2, e2⟩ := hx 2 (by decide)
  have f2 := hf 2 _ rfl
  rw [e2] at f2
  change DataW.trod enc Tryz.prog W 0 (fun _ => true) true n 3 (List.take (Tryz.prog.cellsOf 3) (List.drop 2 [v0, v1, v2, v3, v4])) = _ at f2
  rw [Tryz.cellsIc] at f2
  obtain ⟨y3, e3⟩ := hx 3 (by decide)
  have f3 := hf 3 _ rfl
  rw [e3] at f3
  change DataW.trod enc Tryz.prog W 0 (fun _ => true) true n 3 (List.take (Tryz.prog.cellsOf 3) (List.drop 3 [v0, v1, v2, v3, v4])) = _ at f3
  rw [Tryz.cellsIc] at f3
  obtain ⟨y4, e4⟩ := hx 4 (by decide)
  have f4 := hf 4 _ rfl
  rw [e4] at f4
  change DataW.trod enc Tryz.prog W 0 (fun _ => true) true n 3 (List.take (Tryz.prog.cellsOf 3) (List.drop 4 [v0, v1, v2, v3, v4])) = _ at f4
  rw [Tryz.cellsIc] at f4
  obtain ⟨n0, h0, _, w0⟩ := DataW.trod_int Tryz.underlying3 f0
  obtain ⟨n1, h1, _, w1⟩ := DataW.trod_int Tryz.underlying3 f1
  obtain ⟨n2, h2, _, w2⟩ := DataW.trod_int Tryz.underlying3 f2
  obtain ⟨n3, h3, _, w3⟩ := DataW.trod_int Tryz.underlying3 f3
  obtain ⟨n4, h4, _, w4⟩ := DataW.trod_int Tryz.underlying3 f4
  simp at h0 h1 h2 h3 h4
  subst h0 h1 h2 h3 h4
  exact ⟨⟨n0, n1, n2, n3, n4⟩, rfl, bounds_i64 w0, bounds_i64 w1, bounds_i64 w2, bounds_i64 w3, bounds_i64 w4⟩
theorem pops_of_trod {H : Type} {enc : TypeId × Value → H} {W : World} {v : Value} {d : DataW H} {p : List MemPlace} {base : Nat} (hval : Value.okWide Tryz.prog W .any base 50 v)
  (h : DataW.Trod enc Tryz.prog W 0 (fun _ => true) true 50 v d p) : ∃ l : List POp, OpRd W (fun _ => True) v l ∧ ∀ x ∈ l, x.fits := by
 obtain ⟨a0, len0, cap0, rfl⟩ := okWide_slice Tryz.underlying50 hval
 obtain ⟨fuel, hf⟩ := h
 obtain ⟨u, l, h1, r, g⟩ := slice_of_trod 50 104 Tryz.underlying50 5 (by decide) Tryz.cellsPOp POp.cells (fun _ => rfl) POp.fits ⟨0, 0, 0, 0, 0⟩ (fun _ _ _ hh => popB_of_trod hh) hf
 simp [Value.cells] at h1
 subst h1
 exact ⟨l, r, g⟩
theorem ints_of_trod {H : Type} {enc : TypeId × Value → H} {W : World} {v : Value} {d : DataW H} {p : List MemPlace} {base : Nat} (hval : Value.okWide Tryz.prog W .any base 51 v)
  (h : DataW.Trod enc Tryz.prog W 0 (fun _ => true) true 51 v d p) : ∃ l : List Int, Rd W (fun _ => True) v (ivs l) ∧ ∀ x ∈ l, I64f x := by
 obtain ⟨a0, len0, cap0, rfl⟩ := okWide_slice Tryz.underlying51 hval
 obtain ⟨fuel, hf⟩ := h
 obtain ⟨u, l, h1, r, g⟩ := slice_of_trod 51 3 Tryz.underlying51 1 (by decide) Tryz.cellsIc numB (fun _ => rfl) I64f 0 (fun _ cs _ hh => by
  obtain ⟨n, rfl, _, w⟩ := DataW.trod_int Tryz.underlying3 hh
  exact ⟨n, rfl, bounds_i64 w⟩) hf
 simp [Value.cells] at h1
 subst h1
 exact ⟨l, RdK_flatB r, g⟩
theorem open_bad {H : Type} {enc : TypeId × Value → H} {W : World} {v : Value} {d : DataW H} {p : List MemPlace} {base : Nat} (hval : Value.okWide Tryz.prog W .any base 55 v)
  (h : DataW.Trod enc Tryz.prog W 0 (fun _ => true) true 55 v d p) : ∃ a b c k : Int, v = .agg #[.int .i64 a, .int .i64 b, .int .i64 c, .int .i64 k] := by
 obtain ⟨cs, rfl, hs⟩ := okWide_struct Tryz.underlying55 hval
 obtain ⟨fuel, h⟩ := h
 obtain ⟨xs, n, _, _, hlen, hxl, hf⟩ := DataW.trod_struct Tryz.underlying55 h
 rw [Tryz.cellsBad] at hlen
 obtain ⟨cl⟩ := cs
 match cl, hlen with
 | [v0, v1, v2, v3], _ =>
  have hx : ∀ i, i < 2 → ∃ y, xs[i]? = some y := fun i hi => ⟨_, List.getElem?_eq_getElem (by rw [hxl]; exact hi)⟩
  obtain ⟨y0, e0⟩ := hx 0 (by decide)
  obtain ⟨y1, e1⟩ := hx 1 (by decide)
  have f0 := hf 0 _ rfl
  rw [e0] at f0
  change DataW.trod enc Tryz.prog W 0 (fun _ => true) true n 53 (List.take (Tryz.prog.cellsOf 53) (List.drop 0 [v0, v1, v2, v3])) = _ at f0
  rw [Tryz.cellsCfg] at f0
  have f1 := hf 1 _ rfl
  rw [e1] at f1
  change DataW.trod enc Tryz.prog W 0 (fun _ => true) true n 3 (List.take (Tryz.prog.cellsOf 3) (List.drop 3 [v0, v1, v2, v3])) = _ at f1
  rw [Tryz.cellsIc] at f1
  obtain ⟨a, b, c, h2, -, -, -⟩ := cfg_of_trod f0
  obtain ⟨k, h1, _, _⟩ := DataW.trod_int Tryz.underlying3 f1
  simp at h1 h2
  obtain ⟨rfl, rfl, rfl⟩ := h2
  subst h1
  exact ⟨a, b, c, k, rfl⟩
end
end Go.Proofs.YtagemonojdgbdaaGreatDoor
