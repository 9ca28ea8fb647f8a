import Derived.Test.YtagemonojdgbdaaGreatDoorQ23
import Derived.Test.YtagemonojdgbdaaGreatDoorQ43
namespace Go.Proofs.YtagemonojdgbdaaGreatDoor
set_option maxRecDepth 100000
open Go.RowKit
def Still (w0 : World) : (Nat -> Prop) -> Unit -> World -> Prop := fun Z _ w => (∀ k, Z k -> w0.heap.size <= k) /\ Below w0.heap.size w0 w
theorem yA (w0 : World) : yt (Still w0) := by
 refine ⟨fun Z r w w' G hG ⟨hZ, h⟩ ho => ⟨hZ, ?_⟩, fun Z r w b ⟨hZ, h⟩ hb => ⟨fun k hk => hk.elim (hZ k) (fun e => by subst e; exact Nat.le_trans h.size hb), h⟩, fun Z Z' r w hz ⟨hZ, h⟩ => ⟨fun k hk => hZ k (hz k hk), h⟩⟩
 refine ⟨ho.os.trans h.os, ho.tape.trans h.tape, ho.output.trans h.output, Nat.le_trans h.size ho.size, fun k hk => ?_⟩
 exact (ho.block k (Nat.lt_of_lt_of_le hk h.size) (fun hg => by have := hZ k (hG k hg); omega)).trans (h.block k hk)
theorem Dt {w0 : World} {B T L : Nat} {most n : Int} (h : xQ w0 B T most n L) : F4 (.pointer (some ⟨B, 0, none⟩)) (Still w0) (fun _ _ => none) := by
 intro Z r w k hK hk
 have hkl : 1 <= k.length /\ k.length <= 16 := by
  unfold cO at hk
  split at hk
  ·cases hk
  ·omega
 exact (zA w B T L most n k hkl.1 hkl.2 (h.below hK.2)).mono (fun e w' h => ⟨by rw [h.1]; rfl, h.2⟩)
theorem Du {w0 : World} (h : fR w0) : Lb (Still w0) := fun _ _ _ hK => h.below hK.2
def IQ (ok : Cl -> Bool) (x : cC) (s : PS Unit) : PS Unit × Int := if x.d = 1 then B0 x s else kQ ok (fun _ _ => none) x s
def mI : List cC := [⟨1, 0, 0, 7, 0⟩, ⟨7, 1, 0, 0, 0⟩]
theorem OP : Lib.itoa 7 = [55] := by
 unfold Lib.itoa
 rw [if_neg (by decide), Lib.decDigits_eq]
 simp [Lib.nDigits_small]
 rfl
theorem Av : fP 7 = ⟨false, -1, [55], 0, 0⟩ := by unfold fP; rw [OP]
theorem OQ : dC 9 mI (IQ (fun _ => true)) (2 : Nat) 2 (jb [] ()) = (⟨2, nU (nU (fun _ => 0) 0 7) 1 0, 2, [fP 7], 0, ()⟩, 0) := by
 have h7 : Good [fP 7] := ja ⟨by decide, by decide⟩
 have hn : ba [fP 7] = [fP 7] := jM (h7 _ (by simp)).1
 have hu : nU (fun _ => 0) 0 7 0 = 7 := rfl
 simp [dC, mI, IQ, B0, kQ, rowP, jb, yx, ct, hn, hu]
theorem F9 {R : Type} (ok : Cl -> Bool) (get : R -> List UInt8 -> Option Rw) (x : cC) (s : PS R) : (kQ ok get x s).1.pc = s.pc := by
 unfold kQ rowP
 simp only
 split <;> rfl
theorem Lm (w : World) {B T L : Nat} {most n : Int} (hB : xQ w B T most n L) (ht : fR w) (c : RC) (hf : c.Fit) (ho : c.ops = mI) (hb : c.b = .pointer (some ⟨B, 0, none⟩)) (hk : c.ok = fun _ => true) (_hl : w.heap.size <= c.lo) : vH c (Still w) (IQ (fun _ => true)) 0 2 := by
 have hK : yt (Still w) := yA w
 intro i x _ hi hx
 rw [ho] at hx
 have hi' : i = 0 \/ i = 1 := by omega
 rcases hi' with rfl | rfl
 ·simp only [mI, List.getElem?_cons_zero, Option.some.injEq] at hx
  subst hx
  refine ⟨by decide, fun s _ => ⟨fun w' h' => ?_, fun _ => Int.le_refl _⟩⟩
  exact IJ hf hK h' ⟨1, 0, 0, 7, 0⟩ 0 (by decide) rfl (by decide)
 ·simp only [mI, List.getElem?_cons_succ, List.getElem?_cons_zero, Option.some.injEq] at hx
  subst hx
  refine ⟨by decide, fun s _ => ⟨fun w' h' => ?_, fun _ => ?_⟩⟩
  ·have := IL (get := fun _ _ => none) hf hK (Du ht) (by rw [hb]; exact Dt hB) h' ⟨7, 1, 0, 0, 0⟩ 1 0 (by decide) (by decide) rfl rfl
   rw [hk] at this
   exact this
  ·show s.pc <= (kQ (fun _ => true) (fun _ _ => none) ⟨7, 1, 0, 0, 0⟩ s).1.pc
   rw [F9]
   exact Int.le_refl _
set_option maxHeartbeats 4000000 in
theorem ft (w : World) (hs : jN w) (ht : fR w) : Calls Tryz.prog 7 #[] w fun e w' => e = .returned (.bool true) /\ Below w.heap.size w w' := by
 have H := Lib.hid (And.intro hs ht)
 clear hs ht
 go_enter Tryz.func7, Tryz.ntmps7
 go_wp2_with fail
 refine (xz w 4 2 (by decide) (by decide) (by decide) (by decide)).mono ?_
 rintro e w1 ⟨T, rfl, yX, hT, hb1⟩
 have zr := Lib.hid hb1
 clear hb1
 go_wp2_with fail
 refine (CP w1 T _ 4 2 hT).mono ?_
 rintro e w2 ⟨B, rfl, hBl, hB, hb2⟩
 have eU := gA w2 (.cells #[.int .i64 1, .int .i64 0, .int .i64 0, .int .i64 7, .int .i64 0, .int .i64 7, .int .i64 1, .int .i64 0, .int .i64 0, .int .i64 0] 104)
 have kx := heap_alloc_new w2 (.cells #[.int .i64 1, .int .i64 0, .int .i64 0, .int .i64 7, .int .i64 0, .int .i64 7, .int .i64 1, .int .i64 0, .int .i64 0, .int .i64 0] 104)
 have nN := Lib.hid (And.intro hB (And.intro (zr.out.trans (hb2.mono zr.out.size)) (And.intro eU kx)))
 clear hT yX hBl hB hb2 eU kx
 go_wp2_with fail
 have tU := nN.out
 clear nN
 generalize w2.alloc (.cells #[.int .i64 1, .int .i64 0, .int .i64 0, .int .i64 7, .int .i64 0, .int .i64 7, .int .i64 1, .int .i64 0, .int .i64 0, .int .i64 0] 104) = w3 at tU ⊢
 obtain ⟨hB, hb2, eU, kx⟩ := tU
 have hb3 := hb2.trans (eU.mono hb2.size)
 have vL := hB.below eU
 have Ui := H.out.2.below hb3
 have sN : pS w3 (fun _ => ¬ False) (.slice (some ⟨w2.heap.size, 0, none⟩) 2 2) mI := by
  refine ⟨_, _, _, rfl, rfl, Nat.le_refl _, by simp [maxLen], fun _ => ⟨w2.heap.size, 0, rfl, fun h => h, fun i x hi j u hj => ?_⟩⟩
  have h1 := jk (k := 5) (xs := mI.map cC.cells) (fun y hy => by obtain ⟨z, _, rfl⟩ := List.mem_map.1 hy; rfl) i x hi j u hj
  rw [World.cell?, kx]
  have h2 : (#[.int .i64 1, .int .i64 0, .int .i64 0, .int .i64 7, .int .i64 0, .int .i64 7, .int .i64 1, .int .i64 0, .int .i64 0, .int .i64 0] : Array Value).toList = (mI.map cC.cells).flatten := rfl
  rw [<- h2] at h1
  simpa using h1
 have hrun := Lj (K := Still w3) (T := fun _ => False) (F := fun _ => True) (act := IQ (fun _ => true)) w3 mI _ (.slice none 0 0) [] B 9 (.pointer none) (fun _ => true) () sN (by decide) (H.out.1.below hb3) (Rd.nil _ _) (by decide) (by simp) (by decide) (.inl ⟨rfl, fun _ => rfl⟩) ⟨fun k hk => hk.elim, Below.refl _ _⟩ (yA w3) (fun _ h => h.elim)
  (fun c h1 h2 h3 h4 h5 h6 h7 _ _ => Lm w3 vL Ui c h1 h2 h3 h6 h7)
 rw [show mI.length = 2 from rfl, OQ] at hrun
 have OS := Lib.hid hrun
 have tU := Lib.hid hb3
 clear hB hb2 eU kx hb3 vL Ui sN hrun
 refine OS.out.mono ?_
 rintro e w4 ⟨f, rfl, hf, hfl, VY, _, Gr⟩
 simp only [if_true]
 rw [show nU (nU (fun _ => (0 : Int)) 0 7) 1 0 0 = 7 from rfl]
 have Uj : ba [fP 7] = [fP 7] := jM ((ja (n := 7) ⟨by decide, by decide⟩) _ (by simp)).1
 simp only [Uj] at hf
 obtain ⟨A4, c4, rfl, EE, VZ⟩ := hf.slice
 have hb4 : Below w3.heap.size w3 w4 := Only.below Gr (fun _ _ h => h)
 have Lp := tU.out.trans (hb4.mono tU.out.size)
 have hbr := gA w4 (.cells #[.int .i64 7, .int .i64 2, .slice A4 1 c4, .int .i64 0] 89)
 have kr := heap_alloc_new w4 (.cells #[.int .i64 7, .int .i64 2, .slice A4 1 c4, .int .i64 0] 89)
 have hbc := gA (w4.alloc (.cells #[.int .i64 7, .int .i64 2, .slice A4 1 c4, .int .i64 0] 89)) (.cells #[.bool false, .int .i64 (-1), .string ⟨#[55]⟩, .int .i64 0, .int .i64 0] 48)
 have kc := heap_alloc_new (w4.alloc (.cells #[.int .i64 7, .int .i64 2, .slice A4 1 c4, .int .i64 0] 89)) (.cells #[.bool false, .int .i64 (-1), .string ⟨#[55]⟩, .int .i64 0, .int .i64 0] 48)
 have H4 := Lib.hid (And.intro hf (And.intro Lp (And.intro hbr (And.intro kr (And.intro hbc kc)))))
 simp only [List.length_cons, List.length_nil, Nat.zero_add]
 clear hf Lp hbr kr hbc kc EE VZ Uj hb4 tU zr OS hfl VY Gr
 go_wp2_with fail
 have H5 := H4.out
 clear H4
 rw [show w4.heap.size + 1 = (w4.alloc (.cells #[.int .i64 7, .int .i64 2, .slice A4 1 c4, .int .i64 0] 89)).heap.size by simp]
 generalize w4.alloc (.cells #[.int .i64 7, .int .i64 2, .slice A4 1 c4, .int .i64 0] 89) = w5 at H5 ⊢
 obtain ⟨hf, Lp, hbr, kr, hbc, kc⟩ := H5
 generalize hX : w5.heap.size = X at kc ⊢
 generalize w5.alloc (.cells #[.bool false, .int .i64 (-1), .string ⟨#[55]⟩, .int .i64 0, .int .i64 0] 48) = w6 at hbc kc ⊢
 obtain ⟨RR, Mv⟩ : ∃ y, w4.heap.size = y := ⟨_, rfl⟩
 rw [Mv] at kr ⊢
 have hok : Ok (⟨false, -1, [55], 0, 0⟩ : Cl) := by rw [<- Av]; exact ((ja (n := 7) ⟨by decide, by decide⟩) _ (by simp)).1
 have hfit : (⟨false, -1, [55], 0, 0⟩ : Cl).fits := by rw [<- Av]; exact ((ja (n := 7) ⟨by decide, by decide⟩) _ (by simp)).2
 rw [Av] at hf
 have gj := (Lp.trans (hbr.mono Lp.size)).trans (hbc.mono (Nat.le_trans Lp.size hbr.size))
 have Pn := hbr.trans (hbc.mono hbr.size)
 have H6 := Lib.hid (And.intro (bE.below hf Pn) (And.intro gj ((Only.of_below hbc (fun _ => False)).heap kr (fun h => h))))
 have HN := Lib.hid (And.intro (zJ w6 (fun _ => True) _ [⟨false, -1, [55], 0, 0⟩] (lI kc rfl trivial (by simp [maxLen])) (by simp) (fun c hc => by rw [List.mem_singleton] at hc; subst hc; exact hfit)) hok)
 clear hf Lp hbr kr hbc kc hX Mv gj Pn hok hfit
 refine HN.out.1.mono ?_
 intro e w7 kM
 obtain ⟨v7, n7, rfl, vQ⟩ := kM.named
 have rM := vQ.1
 have hno := vQ.norm (fun c hc => by rw [List.mem_singleton] at hc; subst hc; exact HN.out.2)
 rw [jM HN.out.2] at hno
 rcases hno with ⟨ek, _⟩ | ⟨_, rfl, A5, c5, rfl, jd⟩
 ·simp at ek
 have kP : cd w7 (fun _ => True) (.slice A5 1 c5) [⟨false, -1, [55], 0, 0⟩] := bE.bC jd (bI _) (by decide) (fun _ _ => trivial)
 have hbz := gA w7 (.cells #[.slice A5 1 c5] 87)
 have kz := heap_alloc_new w7 (.cells #[.slice A5 1 c5] 87)
 have Pz := rM.trans (hbz.mono rM.size)
 have H8 := Lib.hid (And.intro (bE.below H6.out.1 Pz) (And.intro (bE.below kP hbz) (And.intro (H6.out.2.1.trans (Pz.mono H6.out.2.1.size)) (And.intro ((Only.of_below Pz (fun _ => False)).heap H6.out.2.2 (fun h => h)) kz))))
 clear kM vQ rM jd kP hbz kz Pz HN H6
 simp only [List.length_cons, List.length_nil, Nat.zero_add]
 go_upto_region 5 with fail
 have H9 := H8.out
 clear H8
 generalize hZ : w7.heap.size = Z at H9 ⊢
 generalize w7.alloc (.cells #[.slice A5 1 c5] 87) = w8 at H9 ⊢
 obtain ⟨hr1, hr2, yU, kr, kz⟩ := H9
 have z0 := bz kz
 obtain ⟨⟨x0, x1, x2, x3⟩, _⟩ := bG kr
 have HS := Lib.hid (And.intro (Am (w := w8) ⟨7, 2, [⟨false, -1, [55], 0, 0⟩], 0⟩ ⟨7, 2, [⟨false, -1, [55], 0, 0⟩], 0⟩ hr1 hr2 (by simp)) yU)
 unfold nV at HS
 clear hr1 hr2 yU kr kz hZ
 go_wp2_with fail
 refine HS.out.1.mono ?_
 rintro e w9 ⟨r, hr, rfl, ml⟩
 obtain rfl : r = true := hr.2 (by simp)
 have HB := Lib.hid (HS.out.2.trans (ml.mono HS.out.2.size))
 clear ml hr
 go_wp2_with fail
 go_ret
 exact ⟨rfl, HB.out⟩
end Go.Proofs.YtagemonojdgbdaaGreatDoor
