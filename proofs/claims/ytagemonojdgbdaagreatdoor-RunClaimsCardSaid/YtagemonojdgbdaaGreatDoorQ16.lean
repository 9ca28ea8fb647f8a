import Derived.Test.YtagemonojdgbdaaGreatDoorQ15
namespace Go.Proofs.YtagemonojdgbdaaGreatDoor
set_option maxRecDepth 100000
open Go.RowKit
theorem Bu {kl kr : ND} {s z : Pr} (hz : kr.ps[0]? = some z) : eV 0 kl s kr = (.mk (kl.ps ++ [s]) [], z, .mk (kr.ps.drop 1) []) := by
 show (ND.mk (kl.ps ++ [s]) [], kr.ps[0]?.getD ([], []), ND.mk (kr.ps.drop 1) []) = _
 rw [hz]
 rfl
theorem pY {d : Nat} {kl kr k0 : ND} {s z : Pr} (hd : d ≠ 0) (hz : kr.ps[0]? = some z) (dW : kr.ks[0]? = some k0) : eV d kl s kr = (.mk (kl.ps ++ [s]) (kl.ks ++ [k0]), z, .mk (kr.ps.drop 1) (kr.ks.drop 1)) := by
 obtain ⟨d1, rfl⟩ : ∃ d1, d = d1 + 1 := ⟨d - 1, by omega⟩
 show (ND.mk (kl.ps ++ [s]) (kl.ks ++ [kr.ks[0]?.getD vY]), kr.ps[0]?.getD ([], []), ND.mk (kr.ps.drop 1) (kr.ks.drop 1)) = _
 rw [hz, dW]
 rfl
set_option maxHeartbeats 8000000 in
theorem nz (w : World) (d a i : Nat) (x : ND) (F : Nat -> Nat -> Prop) (h : ai w (d + 1) a x F) (hF : ∀ b q, F b q -> b < w.heap.size) (hi : i + 1 < x.ks.length) (hps : x.ks.length = x.ps.length + 1) (hpl : x.ps.length <= 900)
  (MT : 1 <= (aK x (i + 1)).ps.length) (Kb : (aK x i).ps.length <= 900) (ML : (aK x (i + 1)).ps.length <= 900) (hkk : d ≠ 0 -> 1 <= (aK x (i + 1)).ks.length) (Qj : (aK x i).ks.length <= 901) (MN : (aK x (i + 1)).ks.length <= 901) :
  Calls Tryz.prog 212 #[.pointer (some ⟨a, 0, none⟩), .int .i64 i] w fun e w' => e = .returned (.tuple #[]) /\ ai w' (d + 1) a (pI x i (eV d (aK x i) (fp x i) (aK x (i + 1)))) (fun b q => F b q \/ w.heap.size <= b) /\ OnlyC F w w' := by
 obtain ⟨_, vp, vk, ak, H, hO, _⟩ := h.open_
 have qO := cD (x := x) (i := i) (by omega)
 have qP := cD (x := x) (i := i + 1) (by omega)
 generalize MO : aK x i = kl at *
 generalize MP : aK x (i + 1) = kr at *
 clear MO MP
 obtain ⟨l, hl⟩ : ∃ y, ak[i]? = some y := ⟨_, List.getElem?_eq_getElem (by rw [hO.2.2.2.2.1]; omega)⟩
 obtain ⟨r, hr⟩ : ∃ y, ak[i + 1]? = some y := ⟨_, List.getElem?_eq_getElem (by rw [hO.2.2.2.2.1]; omega)⟩
 obtain ⟨lq, vl, ul, pl, Hl, hL, yX⟩ := (show ai w d l kl (H (i + 3)) from hO.2.2.2.2.2.1 i l kl hl qO).open_
 obtain ⟨hdr, vr, ur, pr, Hr, hR, Gj⟩ := (show ai w d r kr (H (i + 4)) from hO.2.2.2.2.2.1 (i + 1) r kr hr qP).open_
 have hB := aV.start hO hF hL hR
 obtain ⟨s, hs⟩ : ∃ p, x.ps[i]? = some p := ⟨_, List.getElem?_eq_getElem (by omega)⟩
 obtain ⟨iP, hiP, EL, EM, EN⟩ := info_parts Tryz.yP
 obtain ⟨iN, MU, EO, EP, ER⟩ := info_parts Tryz.yR
 have HI := Lib.hid (And.intro hiP (And.intro EL (And.intro EM (And.intro EN (And.intro MU (And.intro EO (And.intro EP ER)))))))
 clear hiP EL EM EN MU EO EP ER
 have xI : fp x i = s := by unfold fp; rw [hs]; rfl
 rw [xI]
 obtain ⟨i1, hi1⟩ : ∃ y, y = i + 1 := ⟨_, rfl⟩
 obtain ⟨z, hz⟩ : ∃ p, kr.ps[0]? = some p := ⟨_, List.getElem?_eq_getElem (by omega)⟩
 obtain ⟨bn, on, cn, e0, -, -, s0, s1, -⟩ := hO.2.2.1.pair hs
 subst e0
 obtain ⟨br, LM, cr, e0, -, -, -⟩ := hR.2.2.1.pair hz
 subst e0
 obtain ⟨UL, cl, e0, -⟩ := hL.2.2.1.slice
 rw [List.length_map] at e0
 subst e0
 obtain ⟨bk, ok, ck, e0, -, -, r1⟩ := hO.2.2.2.1.ptr hl
 obtain ⟨R5, ok', R6, Gl, -, -, r2⟩ := hO.2.2.2.1.ptr hr
 subst e0
 simp only [Value.slice.injEq, Option.some.injEq, Addr.mk.injEq, and_true, true_and] at Gl
 obtain ⟨⟨rfl, rfl⟩, rfl⟩ := Gl
 obtain ⟨Al, Jc, e0, -⟩ := hL.2.2.2.1.slice
 rw [List.length_map] at e0
 subst e0
 obtain ⟨LJ, Gm, e0, -⟩ := hR.2.2.2.1.slice
 rw [List.length_map] at e0
 subst e0
 obtain ⟨np, kM⟩ : ∃ y, x.ps.length = y := ⟨_, rfl⟩
 obtain ⟨nr, rX⟩ : ∃ y, kr.ps.length = y := ⟨_, rfl⟩
 obtain ⟨nk, jn⟩ : ∃ y, ak.length = y := ⟨_, rfl⟩
 obtain ⟨xJ, iz⟩ : ∃ y, pl.length = y := ⟨_, rfl⟩
 obtain ⟨uJ, iA⟩ : ∃ y, pr.length = y := ⟨_, rfl⟩
 obtain ⟨nl, hnl⟩ : ∃ y, kl.ps.length = y := ⟨_, rfl⟩
 have jd := hO.2.2.2.2.1
 have Jd := hL.2.2.2.2.1
 have Br := hR.2.2.2.2.1
 rw [kM, jn] at hO
 rw [hnl, iz] at hL
 rw [rX, iA] at hR
 rw [kM, jn, hnl, iz, rX, iA] at hB
 have py := (hO.2.2.1.mP (i := i) (by omega))
 have HA := Lib.hid (And.intro hO (And.intro hF (And.intro hL (And.intro yX (And.intro hR (And.intro Gj (And.intro hl (And.intro hr (And.intro qO (And.intro qP (And.intro hs (And.intro hz (And.intro lq hdr)))))))))))))
 have HN := Lib.hid (show np = x.ps.length /\ nr = kr.ps.length /\ nk = ak.length /\ xJ = pl.length /\ uJ = pr.length /\ nl = kl.ps.length /\ 1 <= kr.ps.length /\ ak.length = x.ks.length /\ pl.length = kl.ks.length /\ pr.length = kr.ks.length /\ i + 1 < x.ks.length /\ x.ks.length = x.ps.length + 1 /\ i1 = i + 1 /\ (d ≠ 0 -> 1 <= kr.ks.length) from ⟨kM.symm, rX.symm, jn.symm, iz.symm, iA.symm, hnl.symm, MT, jd, Jd, Br, hi, hps, hi1, hkk⟩)
 have HB := Lib.hid hB
 have HP := Lib.hid py
 obtain ⟨⟨Bt, LK⟩, -, -⟩ := af hB.kK.1
 have j1 : (i : Int) + 1 = (i1 : Int) := by omega
 have j2 : (0 : Int) <= (i : Int) := by omega
 have j3 : (i : Int) < (nk : Int) := by omega
 have j4 : (i1 : Int) < (nk : Int) := by omega
 have j5 : (0 : Int) <= (i1 : Int) := by omega
 have j6 : (i : Int) < (np : Int) := by omega
 have j7 : (0 : Int) < (nr : Int) := by omega
 have j8 : 0 < nr := by omega
 have j10 : nl <= 900 := by omega
 obtain ⟨j11, j12⟩ := DF i1 (by omega)
 have r2' : w.cell? ⟨bk, ok + i1, none⟩ = some (.pointer (some ⟨r, 0, none⟩)) := by rw [hi1]; exact r2
 clear r2 h hO hF hL yX hR Gj hl hr qO qP hB hs hz kM rX jn iz iA hnl jd Jd Br py hi1 xI MT hkk lq hdr
 go_enter Tryz.func212, Tryz.ntmps212
 go_wp2_with fail
 go_quiet (fail)
 go_upto_region 1 with fail
 have pX : Below w.heap.size w (w.drewN nq) := au (Below.refl _ _) nq
 generalize w.drewN nq = wq at pX ⊢
 have Je := (pX.cell (World.block_lt_of_cell? _ _ s0)).trans s0
 have Jf := (pX.cell (World.block_lt_of_cell? _ _ s1)).trans s1
 have HB := Lib.hid (HB.out.below pX)
 clear Bt LK r1 r2' s0 s1 pX
 obtain ⟨⟨Bt, -⟩, -, -⟩ := af HB.out.kK.1
 have tS := And.intro Bt (And.intro Je Jf)
 clear Bt Je Jf
 refine wp_region_held_drew (S := (fun W => W.cell? ⟨a, 0, none⟩ = some (.slice (some ⟨bn, on, none⟩) np cn) /\ W.cell? ⟨bn, on + i * 2, none⟩ = some (.string ⟨s.1.toArray⟩) /\ W.cell? ⟨bn, on + i * 2 + 1, none⟩ = some (.string ⟨s.2.toArray⟩))) (by kernel_rfl) tS (fun hHeld => ?_)
 generalize hW3 : World.drew wq = W3 at hHeld ⊢
 have HB := Lib.hid (HB.out.below (w1 := W3) (hW3 ▸ (Below.refl _ _).drew))
 clear hW3 tS
 refine aO [0, 1, 2, 3, 5, 6, 7, 8, 9, 10, 11] ?_
 iterate 11 (refine cI (v := ?_) (fun wS hSw => ?_) hHeld ?_; rotate_left; (obtain ⟨s0, s1, s2⟩ := hSw; go_simp; try with_reducible rfl); try simp only [av, ax, ay, az])
 refine aP ?_
 refine wpAnyH_ready (rs := [4, 12]) (by kernel_rfl) (by simp) (cy (i := 4) rfl (fun K hK => ?_) (cy (i := 12) rfl (fun K hK => ?_) AllReadyH.nil))
 ·skip
  obtain ⟨⟨r6, -⟩, -, -⟩ := af HB.out.eA.1
  go_simp
  refine hK.out _ _ (hHeld) (fun ae => ?_)
  clear hK K hHeld r6
  have hHeld := ae
  clear ae
  try simp only [av, ax, ay, az]
  refine bg 12 (fun K hK => ?_)
  go_simp
  refine hK.out _ _ (oH hHeld (ag _ _)) (fun ae => ?_)
  clear hK K hHeld 
  have hHeld := ae
  clear ae
  try simp only [av, ax, ay, az]
  have kV := heap_alloc_new W3 (.cells #[.string ⟨s.1.toArray⟩, .string ⟨s.2.toArray⟩] 210)
  have bV := ag W3 (.cells #[.string ⟨s.1.toArray⟩, .string ⟨s.2.toArray⟩] 210)
  generalize W3.alloc (.cells #[.string ⟨s.1.toArray⟩, .string ⟨s.2.toArray⟩] 210) = W5 at kV bV hHeld ⊢
  obtain ⟨VB, fD⟩ : ∃ y, W3.heap.size = y := ⟨_, rfl⟩
  rw [fD] at kV ⊢
  have HV := Lib.hid kV
  have HB := Lib.hid (HB.out.below bV)
  clear kV bV fD
  refine bg 13 (fun K hK => ?_)
  refine bX _ (by rfl) _ _ 198 (by rfl) iP (.agg #[.string ⟨#[]⟩, .string ⟨#[]⟩]) 32 Tryz.underlying198 HI.out.1 HI.out.2.1 HI.out.2.2.1 HI.out.2.2.2.1 (by rfl) (by decide) _ (kl.ps.map ah) (by rfl) HB.out.eA.2.1 ⟨VB, 0, none⟩ 1 1 [ah s] (by rfl) rfl (fun y hy => by rw [List.mem_singleton] at hy; subst hy; rfl) (fun j u hj => by rw [Addr.add_lit, Nat.zero_add]; exact cell_of_heap HV.out (by simpa [ah] using hj)) (by simp [ah, Value.oneCell']) (by rw [List.length_map]; unfold maxLen; omega) (by rw [List.length_map]; omega) ?_
  intro v6 wn bw dM
  rw [show kl.ps.map ah ++ [ah s] = (kl.ps ++ [s]).map ah by simp] at bw
  obtain ⟨A6, c6, eD, -⟩ := bw.slice
  obtain ⟨n6, ed⟩ : ∃ y, ((kl.ps ++ [s]).map ah).length = y := ⟨_, rfl⟩
  rw [ed] at eD
  subst eD
  clear ed
  have H6 := Lib.hid (And.intro bw dM)
  clear bw dM
  refine hK.out _ _ (fE hHeld H6.out.2 (fun hh => HB.out.G1 hh rfl) (fun hh => HB.out.kL HP.out.1 hh) (fun hh => HB.out.kL HP.out.2 hh)) (fun ae => ?_)
  clear hK K hHeld 
  have hHeld := ae
  clear ae
  try simp only [av, ax, ay, az]
  refine aO [14, 15] ?_
  iterate 2 (refine cI (v := ?_) (fun wS hSw => ?_) hHeld ?_; rotate_left; (obtain ⟨s0, s1, s2⟩ := hSw; go_simp; try with_reducible rfl); try simp only [av, ax, ay, az])
  refine aP ?_
  refine bg 16 (fun K hK => ?_)
  obtain ⟨⟨r6, -⟩, rf, -⟩ := af (H6.out.2.heap HB.out.eA.1 (fun q hh => HB.out.xm hh rfl))
  go_simp
  refine hK.out _ _ (fE hHeld (OnlyC.aT _ l 0 _) (fun e => HB.out.OZ e.1) (fun e => HB.out.sf HP.out.1 e.1) (fun e => HB.out.sf HP.out.2 e.1)) (fun ae => ?_)
  clear hK K hHeld r6 rf
  have hHeld := ae
  clear ae
  try simp only [av, ax, ay, az]
  refine wpAnyH_done (by kernel_rfl) ?_ _
  have di := HB.out.p1 (Below.refl _ _) H6.out.2 H6.out.1
  clear hHeld
  generalize wn.setCell ⟨l, 0, none⟩ (.slice A6 n6 c6) = w7 at di ⊢
  have HB := Lib.hid di
  clear di HV H6
  have c34 := (HB.out.fC.2.1.iR HA.out.2.2.2.2.2.2.2.2.2.2.2.1).1
  rw [Nat.zero_mul, Nat.add_zero] at c34
  obtain ⟨c3, c4⟩ := c34
  obtain ⟨⟨c1, -⟩, -, -⟩ := af HB.out.kK.1
  obtain ⟨⟨c2, -⟩, -, -⟩ := af HB.out.fC.1
  have tS := And.intro c1 (And.intro c2 (And.intro c3 c4))
  clear c1 c2 c3 c4
  have HZ := Lib.hid (by have h0 := HB.out.fC.2.1.mP (i := 0) HN.out.2.2.2.2.2.2.1; rw [Nat.zero_mul, Nat.add_zero] at h0; exact h0)
  go_upto_region 2 with fail
  refine wp_region_held_drew (S := (fun W => W.cell? ⟨a, 0, none⟩ = some (.slice (some ⟨bn, on, none⟩) np cn) /\ W.cell? ⟨r, 0, none⟩ = some (.slice (some ⟨br, LM, none⟩) nr cr) /\ W.cell? ⟨br, LM, none⟩ = some (.string ⟨z.1.toArray⟩) /\ W.cell? ⟨br, LM + 1, none⟩ = some (.string ⟨z.2.toArray⟩))) (by kernel_rfl) tS (fun hHeld => ?_)
  generalize hW3 : World.drew w7 = W3 at hHeld ⊢
  have HB := Lib.hid (HB.out.below (w1 := W3) (hW3 ▸ (Below.refl _ _).drew))
  clear hW3 tS
  refine aO [0, 1, 2, 3, 4, 5, 6, 7, 8, 9, 10, 11] ?_
  iterate 12 (refine cI (v := ?_) (fun wS hSw => ?_) hHeld ?_; rotate_left; (obtain ⟨s0, s1, s2, s3⟩ := hSw; go_simp; try with_reducible rfl); try simp only [av, ax, ay, az])
  refine aP ?_
  refine bg 12 (fun K hK => ?_)
  obtain ⟨⟨c5, c6⟩, f5, f6⟩ := HB.out.kK.2.1.iR HA.out.2.2.2.2.2.2.2.2.2.2.1
  go_simp
  refine hK.out _ _ (qN hHeld (HB.out.kK.2.1.eo (i := i) z.1 z.2 (by have := HN.out.2.2.2.2.2.2.2.2.2.2.1; have := HN.out.2.2.2.2.2.2.2.2.2.2.2.1; omega)).2 (fun hh => HB.out.Cv hh rfl) (fun hh => HB.out.Cw hh rfl) (fun hh => HB.out.pd hh HZ.out.1) (fun hh => HB.out.pd hh HZ.out.2)) (fun ae => ?_)
  clear hK K hHeld c5 c6 f5 f6
  have hHeld := ae
  clear ae
  try simp only [av, ax, ay, az]
  refine wpAnyH_done (by kernel_rfl) ?_ _
  have vL := HB.out.i0 (HB.out.kK.2.1.eo (i := i) z.1 z.2 (by have := HN.out.2.2.2.2.2.2.2.2.2.2.1; have := HN.out.2.2.2.2.2.2.2.2.2.2.2.1; omega)).2 (HB.out.kK.2.1.eo (i := i) z.1 z.2 (by have := HN.out.2.2.2.2.2.2.2.2.2.2.1; have := HN.out.2.2.2.2.2.2.2.2.2.2.2.1; omega)).1
  clear hHeld
  generalize (W3.setCell ⟨bn, on + i * 2, none⟩ (.string ⟨z.1.toArray⟩)).setCell ⟨bn, on + i * 2 + 1, none⟩ (.string ⟨z.2.toArray⟩) = w8 at vL ⊢
  have HB := Lib.hid vL
  clear vL HZ
  obtain ⟨⟨c2, -⟩, -, -⟩ := af HB.out.fC.1
  go_wp2_with fail
  refine (ji w8 (Hr 1) _ (kr.ps.map ah) 0 _ _ rfl (by simp) HB.out.fC.2.1 (by rw [List.length_map]; exact HN.out.2.2.2.2.2.2.1) (by rw [List.length_map]; omega) (cL _)).mono ?_
  rintro e w9 ⟨v9, rfl, bM, dS⟩
  rw [List.take_zero, List.nil_append, <- List.map_drop] at bM
  obtain ⟨A9, c9, eW, -⟩ := bM.slice
  obtain ⟨n9, eX⟩ : ∃ y, ((kr.ps.drop (0 + 1)).map ah).length = y := ⟨_, rfl⟩
  rw [eX] at eW
  subst eW
  clear eX c2
  have H9 := Lib.hid (And.intro bM dS)
  clear bM dS
  obtain ⟨⟨c2, -⟩, f2, -⟩ := af (H9.out.2.heap HB.out.fC.1 (fun q hh => HB.out.G3 hh rfl))
  go_upto_region 4 with fail
  clear c2 f2
  have hB4 := HB.out.p2 (Below.refl _ _) H9.out.2 (H9.out.1.mono (fun b q hh => .inl hh))
  generalize w9.setCell ⟨r, 0, none⟩ (.slice A9 n9 c9) = wA at hB4 ⊢
  have HB := Lib.hid hB4
  clear hB4 H9
  obtain ⟨⟨-, c2⟩, -, -⟩ := af HB.out.fC.1
  by_cases hd : d = 0
  ·subst hd
   have e1 : kl.ks = [] := HA.out.2.2.2.2.2.2.2.2.2.2.2.2.1 rfl
   have e2 : kr.ks = [] := HA.out.2.2.2.2.2.2.2.2.2.2.2.2.2 rfl
   have dW : uJ = 0 := by rw [HN.out.2.2.2.2.1, HN.out.2.2.2.2.2.2.2.2.2.1, e2]; rfl
   subst dW
   have gV := Lib.hid (cP wA r Gm LJ c2)
   have HE := Lib.hid (And.intro e1 e2)
   clear c2 e1 e2
   go_wp2_with fail
   refine gV.out.mono ?_
   rintro e wZ ⟨rfl, zj⟩
   subst zj
   go_wp2_with fail
   first | refine bodyPost_end (results_none rfl _ _ _) rfl ?_ | refine bodyPost_ret (results_none rfl _ _ _) rfl ?_
   obtain ⟨e1, e2⟩ := HE.out
   have hE := fk HA.out.1 HA.out.2.1 (by have := HN.out.2.2.2.2.2.2.2.2.2.2.1; omega) HA.out.2.2.1 HA.out.2.2.2.1 HA.out.2.2.2.2.1 HA.out.2.2.2.2.2.1 HB.out 0 0 (Nat.le_refl _) (Nat.zero_le _) [] (fun _ _ _ => False) 0 0 (Nat.le_refl _) (Nat.zero_le _) [] (fun _ _ _ => False) rfl HA.out.2.2.2.2.2.2.1 HA.out.2.2.2.2.2.2.2.1 (by simp) (by simp) (fun _ _ _ h => h.elim) (fun _ _ _ h => h.elim) (fun _ _ _ _ h => h.elim) (fun _ _ _ _ h => h.elim) (fun m p k hm => by simp at hm) (fun m p k hm => by simp at hm) (by simp [e1]) (by simp [e2])
   rw [Bu HA.out.2.2.2.2.2.2.2.2.2.2.2.1]
   refine ⟨rfl, ?_, hE.2⟩
   have h1 := hE.1
   simp only [e1, e2, List.take_nil, List.drop_nil, List.map_nil, List.append_nil] at h1
   exact h1
  ·have hkk := HN.out.2.2.2.2.2.2.2.2.2.2.2.2.2 hd
   obtain ⟨p0, hp0⟩ : ∃ p, pr[0]? = some p := ⟨_, List.getElem?_eq_getElem (by have := HN.out.2.2.2.2.2.2.2.2.2.1; omega)⟩
   obtain ⟨k0, dW⟩ : ∃ p, kr.ks[0]? = some p := ⟨_, List.getElem?_eq_getElem (by omega)⟩
   have uK := HB.out
   obtain ⟨MV, MW, Qk, e0, -, -, -⟩ := uK.fC.2.2.ptr hp0
   simp only [Value.slice.injEq] at e0
   obtain ⟨rfl, -, rfl⟩ := e0
   have iA : 0 < uJ := by rw [HN.out.2.2.2.2.1, HN.out.2.2.2.2.2.2.2.2.2.1]; exact hkk
   have gV := Lib.hid (dQ wA r uJ Gm _ iA c2)
   have HB := Lib.hid uK
   have HM := Lib.hid (And.intro hp0 (And.intro dW (And.intro hkk (And.intro hd (by have h0 := uK.fC.2.2.xG (i := 0) (by rw [<- HN.out.2.2.2.2.1]; exact iA); rw [Nat.add_zero] at h0; exact h0)))))
   have q6 : (0 : Int) < (uJ : Int) := by omega
   have q7 : uJ <= 902 := by have := HN.out.2.2.2.2.1; have := HN.out.2.2.2.2.2.2.2.2.2.1; omega
   clear uK hp0 dW hkk hd c2
   go_wp2_with fail
   refine gV.out.mono ?_
   rintro e wZ ⟨rfl, zj⟩
   subst zj
   clear gV
   obtain ⟨⟨-, c1⟩, -, -⟩ := af HB.out.fC.1
   have c9 := HB.out.fC.2.2.xE HM.out.1
   rw [Nat.add_zero] at c9
   have tS := And.intro c1 c9
   clear c1 c9
   go_upto_region 5 with fail
   refine wp_region_held_drew (S := (fun W => W.cell? ⟨r, 1, none⟩ = some (.slice (some ⟨MV, MW, none⟩) uJ Gm) /\ W.cell? ⟨MV, MW, none⟩ = some (.pointer (some ⟨p0, 0, none⟩)))) (by kernel_rfl) tS (fun hHeld => ?_)
   generalize hW3 : World.drew wA = W3 at hHeld ⊢
   have HB := Lib.hid (HB.out.below (w1 := W3) (hW3 ▸ (Below.refl _ _).drew))
   clear hW3 tS
   refine aO [0, 1, 2, 3, 5, 6, 7, 8, 9, 10] ?_
   iterate 10 (refine cI (v := ?_) (fun wS hSw => ?_) hHeld ?_; rotate_left; (obtain ⟨s0, s1⟩ := hSw; go_simp; try with_reducible rfl); try simp only [av, ax, ay, az])
   refine aP ?_
   refine wpAnyH_ready (rs := [4, 11]) (by kernel_rfl) (by simp) (cy (i := 4) rfl (fun K hK => ?_) (cy (i := 11) rfl (fun K hK => ?_) AllReadyH.nil))
   ·skip
    obtain ⟨⟨-, r6⟩, -, -⟩ := af HB.out.eA.1
    go_simp
    refine hK.out _ _ (hHeld) (fun ae => ?_)
    clear hK K hHeld r6
    have hHeld := ae
    clear ae
    try simp only [av, ax, ay, az]
    refine bg 11 (fun K hK => ?_)
    go_simp
    refine hK.out _ _ (jm hHeld (ag _ _)) (fun ae => ?_)
    clear hK K hHeld 
    have hHeld := ae
    clear ae
    try simp only [av, ax, ay, az]
    have kV := heap_alloc_new W3 (.cells #[.pointer (some ⟨p0, 0, none⟩)] 197)
    have bV := ag W3 (.cells #[.pointer (some ⟨p0, 0, none⟩)] 197)
    generalize W3.alloc (.cells #[.pointer (some ⟨p0, 0, none⟩)] 197) = W5 at kV bV hHeld ⊢
    obtain ⟨VB, fD⟩ : ∃ y, W3.heap.size = y := ⟨_, rfl⟩
    rw [fD] at kV ⊢
    have HV := Lib.hid kV
    have HB := Lib.hid (HB.out.below bV)
    clear kV bV fD
    refine bg 12 (fun K hK => ?_)
    refine bX _ (by rfl) _ _ 199 (by rfl) iN (.pointer none) 8 Tryz.underlying199 HI.out.2.2.2.2.1 HI.out.2.2.2.2.2.1 HI.out.2.2.2.2.2.2.1 HI.out.2.2.2.2.2.2.2 (by rfl) (by decide) _ (pl.map aD) (by rfl) HB.out.eA.2.2 ⟨VB, 0, none⟩ 1 1 [aD p0] (by rfl) rfl (fun y hy => by rw [List.mem_singleton] at hy; subst hy; rfl) (fun j u hj => by rw [Addr.add_lit, Nat.zero_add]; exact cell_of_heap HV.out (by simpa [aD] using hj)) (by simp [aD, Value.oneCell']) (by rw [List.length_map]; have := HN.out.2.2.2.2.2.2.2.2.1; unfold maxLen; omega) (by rw [List.length_map]; have := HN.out.2.2.2.2.2.2.2.2.1; omega) ?_
    intro v6 wn bw dM
    rw [show pl.map aD ++ [aD p0] = (pl ++ [p0]).map aD by simp] at bw
    obtain ⟨A7, c7, eD, -⟩ := bw.slice
    obtain ⟨n7, ed⟩ : ∃ y, ((pl ++ [p0]).map aD).length = y := ⟨_, rfl⟩
    rw [ed] at eD
    subst eD
    clear ed
    have H6 := Lib.hid (And.intro bw dM)
    clear bw dM
    refine hK.out _ _ (cG hHeld H6.out.2 (fun hh => HB.out.sj hh rfl) (fun hh => HB.out.pg hh HM.out.2.2.2.2)) (fun ae => ?_)
    clear hK K hHeld 
    have hHeld := ae
    clear ae
    try simp only [av, ax, ay, az]
    refine aO [13, 14] ?_
    iterate 2 (refine cI (v := ?_) (fun wS hSw => ?_) hHeld ?_; rotate_left; (obtain ⟨s0, s1⟩ := hSw; go_simp; try with_reducible rfl); try simp only [av, ax, ay, az])
    refine aP ?_
    refine bg 15 (fun K hK => ?_)
    obtain ⟨⟨-, r6⟩, -, rf⟩ := af (H6.out.2.heap HB.out.eA.1 (fun q hh => HB.out.si hh rfl))
    go_simp
    refine hK.out _ _ (cG hHeld (OnlyC.aT _ l 1 _) (fun e => HB.out.e12 e.1.symm) (fun e => HB.out.xo HM.out.2.2.2.2 e.1)) (fun ae => ?_)
    clear hK K hHeld r6 rf
    have hHeld := ae
    clear ae
    try simp only [av, ax, ay, az]
    refine wpAnyH_done (by kernel_rfl) ?_ _
    have di := HB.out.k1 (Below.refl _ _) H6.out.2 H6.out.1
    clear hHeld
    generalize wn.setCell ⟨l, 1, none⟩ (.slice A7 n7 c7) = wB at di ⊢
    have HB := Lib.hid di
    clear di HV H6
    obtain ⟨⟨-, c2⟩, -, -⟩ := af HB.out.fC.1
    go_wp2_with fail
    refine (gz wB (Hr 2) _ (pr.map aD) 0 _ _ rfl (by simp) HB.out.fC.2.2 (by rw [List.length_map, <- HN.out.2.2.2.2.1]; exact iA) (by rw [List.length_map, <- HN.out.2.2.2.2.1]; omega) (bA _)).mono ?_
    rintro e w9 ⟨v9, rfl, bM, dS⟩
    rw [List.take_zero, List.nil_append, <- List.map_drop] at bM
    obtain ⟨A8, c8, eW, -⟩ := bM.slice
    obtain ⟨n8, eX⟩ : ∃ y, ((pr.drop (0 + 1)).map aD).length = y := ⟨_, rfl⟩
    rw [eX] at eW
    subst eW
    clear eX c2
    have H9 := Lib.hid (And.intro bM dS)
    clear bM dS
    obtain ⟨⟨-, c2⟩, -, f2⟩ := af (H9.out.2.heap HB.out.fC.1 (fun q hh => HB.out.xp hh rfl))
    go_wp2_with fail
    first | refine bodyPost_end (results_none rfl _ _ _) rfl ?_ | refine bodyPost_ret (results_none rfl _ _ _) rfl ?_
    have uL := HB.out.k2 (Below.refl _ _) H9.out.2 (H9.out.1.mono (fun b q hh => .inl hh))
    obtain ⟨hp0, dW, hkk, hd, -⟩ := HM.out
    have hsub : bu w d p0 k0 (Hr (0 + 3)) := (HA.out.2.2.2.2.1).2.2.2.2.2.1 0 p0 k0 hp0 dW
    have hE := fk HA.out.1 HA.out.2.1 (by have := HN.out.2.2.2.2.2.2.2.2.2.2.1; omega) HA.out.2.2.1 HA.out.2.2.2.1 HA.out.2.2.2.2.1 HA.out.2.2.2.2.2.1 uL kl.ks.length kl.ks.length (Nat.le_refl _) (Nat.le_refl _) [(p0, k0)] (ni (Hr (0 + 3)) (fun _ _ => False)) 0 1 (by decide) hkk [] (fun _ _ _ => False) rfl HA.out.2.2.2.2.2.2.1 HA.out.2.2.2.2.2.2.2.1 (by rw [<- HN.out.2.2.2.2.2.2.2.2.1]; simp) (by simp) (fun mm b q h => match mm, h with | 0, h => ⟨0, Nat.le_refl _, by omega, h⟩ | 1, h => h.elim | _ + 2, h => h.elim) (fun _ _ _ h => h.elim)
     (fun mm zl b q h1 h2 => by
      match mm, h1, zl, h2 with
      | 0, _, 0, _ => rfl
      | 1, h1, _, _ => exact h1.elim
      | _ + 2, h1, _, _ => exact h1.elim
      | 0, _, 1, h2 => exact h2.elim
      | 0, _, _ + 2, h2 => exact h2.elim) (fun _ _ _ _ h => h.elim)
     (fun mm p k hm => by
      match mm, hm with
      | 0, hm =>
       simp only [List.getElem?_cons_zero, Option.some.injEq, Prod.mk.injEq] at hm
       obtain ⟨rfl, rfl⟩ := hm
       exact hsub
      | mm + 1, hm => simp at hm)
     (fun mm p k hm => by simp at hm)
     (fun e => absurd e hd) (fun e => absurd e hd)
    rw [pY hd HA.out.2.2.2.2.2.2.2.2.2.2.2.1 dW]
    refine ⟨rfl, ?_, hE.2⟩
    have h1 := hE.1
    simp only [List.take_length, List.drop_length, List.take_zero, List.map_nil, List.map_cons, List.append_nil, List.nil_append] at h1
    exact h1
   ·skip
    go_simp
    refine hK.out _ _ (jm hHeld (ag _ _)) (fun ae => ?_)
    clear hK K hHeld 
    have hHeld := ae
    clear ae
    try simp only [av, ax, ay, az]
    have kV := heap_alloc_new W3 (.cells #[.pointer (some ⟨p0, 0, none⟩)] 197)
    have bV := ag W3 (.cells #[.pointer (some ⟨p0, 0, none⟩)] 197)
    generalize W3.alloc (.cells #[.pointer (some ⟨p0, 0, none⟩)] 197) = W5 at kV bV hHeld ⊢
    obtain ⟨VB, fD⟩ : ∃ y, W3.heap.size = y := ⟨_, rfl⟩
    rw [fD] at kV ⊢
    have HV := Lib.hid kV
    have HB := Lib.hid (HB.out.below bV)
    clear kV bV fD
    refine bg 4 (fun K hK => ?_)
    obtain ⟨⟨-, r6⟩, -, -⟩ := af HB.out.eA.1
    go_simp
    refine hK.out _ _ (hHeld) (fun ae => ?_)
    clear hK K hHeld r6
    have hHeld := ae
    clear ae
    try simp only [av, ax, ay, az]
    refine bg 12 (fun K hK => ?_)
    refine bX _ (by rfl) _ _ 199 (by rfl) iN (.pointer none) 8 Tryz.underlying199 HI.out.2.2.2.2.1 HI.out.2.2.2.2.2.1 HI.out.2.2.2.2.2.2.1 HI.out.2.2.2.2.2.2.2 (by rfl) (by decide) _ (pl.map aD) (by rfl) HB.out.eA.2.2 ⟨VB, 0, none⟩ 1 1 [aD p0] (by rfl) rfl (fun y hy => by rw [List.mem_singleton] at hy; subst hy; rfl) (fun j u hj => by rw [Addr.add_lit, Nat.zero_add]; exact cell_of_heap HV.out (by simpa [aD] using hj)) (by simp [aD, Value.oneCell']) (by rw [List.length_map]; have := HN.out.2.2.2.2.2.2.2.2.1; unfold maxLen; omega) (by rw [List.length_map]; have := HN.out.2.2.2.2.2.2.2.2.1; omega) ?_
    intro v6 wn bw dM
    rw [show pl.map aD ++ [aD p0] = (pl ++ [p0]).map aD by simp] at bw
    obtain ⟨A7, c7, eD, -⟩ := bw.slice
    obtain ⟨n7, ed⟩ : ∃ y, ((pl ++ [p0]).map aD).length = y := ⟨_, rfl⟩
    rw [ed] at eD
    subst eD
    clear ed
    have H6 := Lib.hid (And.intro bw dM)
    clear bw dM
    refine hK.out _ _ (cG hHeld H6.out.2 (fun hh => HB.out.sj hh rfl) (fun hh => HB.out.pg hh HM.out.2.2.2.2)) (fun ae => ?_)
    clear hK K hHeld 
    have hHeld := ae
    clear ae
    try simp only [av, ax, ay, az]
    refine aO [13, 14] ?_
    iterate 2 (refine cI (v := ?_) (fun wS hSw => ?_) hHeld ?_; rotate_left; (obtain ⟨s0, s1⟩ := hSw; go_simp; try with_reducible rfl); try simp only [av, ax, ay, az])
    refine aP ?_
    refine bg 15 (fun K hK => ?_)
    obtain ⟨⟨-, r6⟩, -, rf⟩ := af (H6.out.2.heap HB.out.eA.1 (fun q hh => HB.out.si hh rfl))
    go_simp
    refine hK.out _ _ (cG hHeld (OnlyC.aT _ l 1 _) (fun e => HB.out.e12 e.1.symm) (fun e => HB.out.xo HM.out.2.2.2.2 e.1)) (fun ae => ?_)
    clear hK K hHeld r6 rf
    have hHeld := ae
    clear ae
    try simp only [av, ax, ay, az]
    refine wpAnyH_done (by kernel_rfl) ?_ _
    have di := HB.out.k1 (Below.refl _ _) H6.out.2 H6.out.1
    clear hHeld
    generalize wn.setCell ⟨l, 1, none⟩ (.slice A7 n7 c7) = wB at di ⊢
    have HB := Lib.hid di
    clear di HV H6
    obtain ⟨⟨-, c2⟩, -, -⟩ := af HB.out.fC.1
    go_wp2_with fail
    refine (gz wB (Hr 2) _ (pr.map aD) 0 _ _ rfl (by simp) HB.out.fC.2.2 (by rw [List.length_map, <- HN.out.2.2.2.2.1]; exact iA) (by rw [List.length_map, <- HN.out.2.2.2.2.1]; omega) (bA _)).mono ?_
    rintro e w9 ⟨v9, rfl, bM, dS⟩
    rw [List.take_zero, List.nil_append, <- List.map_drop] at bM
    obtain ⟨A8, c8, eW, -⟩ := bM.slice
    obtain ⟨n8, eX⟩ : ∃ y, ((pr.drop (0 + 1)).map aD).length = y := ⟨_, rfl⟩
    rw [eX] at eW
    subst eW
    clear eX c2
    have H9 := Lib.hid (And.intro bM dS)
    clear bM dS
    obtain ⟨⟨-, c2⟩, -, f2⟩ := af (H9.out.2.heap HB.out.fC.1 (fun q hh => HB.out.xp hh rfl))
    go_wp2_with fail
    first | refine bodyPost_end (results_none rfl _ _ _) rfl ?_ | refine bodyPost_ret (results_none rfl _ _ _) rfl ?_
    have uL := HB.out.k2 (Below.refl _ _) H9.out.2 (H9.out.1.mono (fun b q hh => .inl hh))
    obtain ⟨hp0, dW, hkk, hd, -⟩ := HM.out
    have hsub : bu w d p0 k0 (Hr (0 + 3)) := (HA.out.2.2.2.2.1).2.2.2.2.2.1 0 p0 k0 hp0 dW
    have hE := fk HA.out.1 HA.out.2.1 (by have := HN.out.2.2.2.2.2.2.2.2.2.2.1; omega) HA.out.2.2.1 HA.out.2.2.2.1 HA.out.2.2.2.2.1 HA.out.2.2.2.2.2.1 uL kl.ks.length kl.ks.length (Nat.le_refl _) (Nat.le_refl _) [(p0, k0)] (ni (Hr (0 + 3)) (fun _ _ => False)) 0 1 (by decide) hkk [] (fun _ _ _ => False) rfl HA.out.2.2.2.2.2.2.1 HA.out.2.2.2.2.2.2.2.1 (by rw [<- HN.out.2.2.2.2.2.2.2.2.1]; simp) (by simp) (fun mm b q h => match mm, h with | 0, h => ⟨0, Nat.le_refl _, by omega, h⟩ | 1, h => h.elim | _ + 2, h => h.elim) (fun _ _ _ h => h.elim)
     (fun mm zl b q h1 h2 => by
      match mm, h1, zl, h2 with
      | 0, _, 0, _ => rfl
      | 1, h1, _, _ => exact h1.elim
      | _ + 2, h1, _, _ => exact h1.elim
      | 0, _, 1, h2 => exact h2.elim
      | 0, _, _ + 2, h2 => exact h2.elim) (fun _ _ _ _ h => h.elim)
     (fun mm p k hm => by
      match mm, hm with
      | 0, hm =>
       simp only [List.getElem?_cons_zero, Option.some.injEq, Prod.mk.injEq] at hm
       obtain ⟨rfl, rfl⟩ := hm
       exact hsub
      | mm + 1, hm => simp at hm)
     (fun mm p k hm => by simp at hm)
     (fun e => absurd e hd) (fun e => absurd e hd)
    rw [pY hd HA.out.2.2.2.2.2.2.2.2.2.2.2.1 dW]
    refine ⟨rfl, ?_, hE.2⟩
    have h1 := hE.1
    simp only [List.take_length, List.drop_length, List.take_zero, List.map_nil, List.map_cons, List.append_nil, List.nil_append] at h1
    exact h1
 ·skip
  go_simp
  refine hK.out _ _ (oH hHeld (ag _ _)) (fun ae => ?_)
  clear hK K hHeld 
  have hHeld := ae
  clear ae
  try simp only [av, ax, ay, az]
  have kV := heap_alloc_new W3 (.cells #[.string ⟨s.1.toArray⟩, .string ⟨s.2.toArray⟩] 210)
  have bV := ag W3 (.cells #[.string ⟨s.1.toArray⟩, .string ⟨s.2.toArray⟩] 210)
  generalize W3.alloc (.cells #[.string ⟨s.1.toArray⟩, .string ⟨s.2.toArray⟩] 210) = W5 at kV bV hHeld ⊢
  obtain ⟨VB, fD⟩ : ∃ y, W3.heap.size = y := ⟨_, rfl⟩
  rw [fD] at kV ⊢
  have HV := Lib.hid kV
  have HB := Lib.hid (HB.out.below bV)
  clear kV bV fD
  refine bg 4 (fun K hK => ?_)
  obtain ⟨⟨r6, -⟩, -, -⟩ := af HB.out.eA.1
  go_simp
  refine hK.out _ _ (hHeld) (fun ae => ?_)
  clear hK K hHeld r6
  have hHeld := ae
  clear ae
  try simp only [av, ax, ay, az]
  refine bg 13 (fun K hK => ?_)
  refine bX _ (by rfl) _ _ 198 (by rfl) iP (.agg #[.string ⟨#[]⟩, .string ⟨#[]⟩]) 32 Tryz.underlying198 HI.out.1 HI.out.2.1 HI.out.2.2.1 HI.out.2.2.2.1 (by rfl) (by decide) _ (kl.ps.map ah) (by rfl) HB.out.eA.2.1 ⟨VB, 0, none⟩ 1 1 [ah s] (by rfl) rfl (fun y hy => by rw [List.mem_singleton] at hy; subst hy; rfl) (fun j u hj => by rw [Addr.add_lit, Nat.zero_add]; exact cell_of_heap HV.out (by simpa [ah] using hj)) (by simp [ah, Value.oneCell']) (by rw [List.length_map]; unfold maxLen; omega) (by rw [List.length_map]; omega) ?_
  intro v6 wn bw dM
  rw [show kl.ps.map ah ++ [ah s] = (kl.ps ++ [s]).map ah by simp] at bw
  obtain ⟨A6, c6, eD, -⟩ := bw.slice
  obtain ⟨n6, ed⟩ : ∃ y, ((kl.ps ++ [s]).map ah).length = y := ⟨_, rfl⟩
  rw [ed] at eD
  subst eD
  clear ed
  have H6 := Lib.hid (And.intro bw dM)
  clear bw dM
  refine hK.out _ _ (fE hHeld H6.out.2 (fun hh => HB.out.G1 hh rfl) (fun hh => HB.out.kL HP.out.1 hh) (fun hh => HB.out.kL HP.out.2 hh)) (fun ae => ?_)
  clear hK K hHeld 
  have hHeld := ae
  clear ae
  try simp only [av, ax, ay, az]
  refine aO [14, 15] ?_
  iterate 2 (refine cI (v := ?_) (fun wS hSw => ?_) hHeld ?_; rotate_left; (obtain ⟨s0, s1, s2⟩ := hSw; go_simp; try with_reducible rfl); try simp only [av, ax, ay, az])
  refine aP ?_
  refine bg 16 (fun K hK => ?_)
  obtain ⟨⟨r6, -⟩, rf, -⟩ := af (H6.out.2.heap HB.out.eA.1 (fun q hh => HB.out.xm hh rfl))
  go_simp
  refine hK.out _ _ (fE hHeld (OnlyC.aT _ l 0 _) (fun e => HB.out.OZ e.1) (fun e => HB.out.sf HP.out.1 e.1) (fun e => HB.out.sf HP.out.2 e.1)) (fun ae => ?_)
  clear hK K hHeld r6 rf
  have hHeld := ae
  clear ae
  try simp only [av, ax, ay, az]
  refine wpAnyH_done (by kernel_rfl) ?_ _
  have di := HB.out.p1 (Below.refl _ _) H6.out.2 H6.out.1
  clear hHeld
  generalize wn.setCell ⟨l, 0, none⟩ (.slice A6 n6 c6) = w7 at di ⊢
  have HB := Lib.hid di
  clear di HV H6
  have c34 := (HB.out.fC.2.1.iR HA.out.2.2.2.2.2.2.2.2.2.2.2.1).1
  rw [Nat.zero_mul, Nat.add_zero] at c34
  obtain ⟨c3, c4⟩ := c34
  obtain ⟨⟨c1, -⟩, -, -⟩ := af HB.out.kK.1
  obtain ⟨⟨c2, -⟩, -, -⟩ := af HB.out.fC.1
  have tS := And.intro c1 (And.intro c2 (And.intro c3 c4))
  clear c1 c2 c3 c4
  have HZ := Lib.hid (by have h0 := HB.out.fC.2.1.mP (i := 0) HN.out.2.2.2.2.2.2.1; rw [Nat.zero_mul, Nat.add_zero] at h0; exact h0)
  go_upto_region 2 with fail
  refine wp_region_held_drew (S := (fun W => W.cell? ⟨a, 0, none⟩ = some (.slice (some ⟨bn, on, none⟩) np cn) /\ W.cell? ⟨r, 0, none⟩ = some (.slice (some ⟨br, LM, none⟩) nr cr) /\ W.cell? ⟨br, LM, none⟩ = some (.string ⟨z.1.toArray⟩) /\ W.cell? ⟨br, LM + 1, none⟩ = some (.string ⟨z.2.toArray⟩))) (by kernel_rfl) tS (fun hHeld => ?_)
  generalize hW3 : World.drew w7 = W3 at hHeld ⊢
  have HB := Lib.hid (HB.out.below (w1 := W3) (hW3 ▸ (Below.refl _ _).drew))
  clear hW3 tS
  refine aO [0, 1, 2, 3, 4, 5, 6, 7, 8, 9, 10, 11] ?_
  iterate 12 (refine cI (v := ?_) (fun wS hSw => ?_) hHeld ?_; rotate_left; (obtain ⟨s0, s1, s2, s3⟩ := hSw; go_simp; try with_reducible rfl); try simp only [av, ax, ay, az])
  refine aP ?_
  refine bg 12 (fun K hK => ?_)
  obtain ⟨⟨c5, c6⟩, f5, f6⟩ := HB.out.kK.2.1.iR HA.out.2.2.2.2.2.2.2.2.2.2.1
  go_simp
  refine hK.out _ _ (qN hHeld (HB.out.kK.2.1.eo (i := i) z.1 z.2 (by have := HN.out.2.2.2.2.2.2.2.2.2.2.1; have := HN.out.2.2.2.2.2.2.2.2.2.2.2.1; omega)).2 (fun hh => HB.out.Cv hh rfl) (fun hh => HB.out.Cw hh rfl) (fun hh => HB.out.pd hh HZ.out.1) (fun hh => HB.out.pd hh HZ.out.2)) (fun ae => ?_)
  clear hK K hHeld c5 c6 f5 f6
  have hHeld := ae
  clear ae
  try simp only [av, ax, ay, az]
  refine wpAnyH_done (by kernel_rfl) ?_ _
  have vL := HB.out.i0 (HB.out.kK.2.1.eo (i := i) z.1 z.2 (by have := HN.out.2.2.2.2.2.2.2.2.2.2.1; have := HN.out.2.2.2.2.2.2.2.2.2.2.2.1; omega)).2 (HB.out.kK.2.1.eo (i := i) z.1 z.2 (by have := HN.out.2.2.2.2.2.2.2.2.2.2.1; have := HN.out.2.2.2.2.2.2.2.2.2.2.2.1; omega)).1
  clear hHeld
  generalize (W3.setCell ⟨bn, on + i * 2, none⟩ (.string ⟨z.1.toArray⟩)).setCell ⟨bn, on + i * 2 + 1, none⟩ (.string ⟨z.2.toArray⟩) = w8 at vL ⊢
  have HB := Lib.hid vL
  clear vL HZ
  obtain ⟨⟨c2, -⟩, -, -⟩ := af HB.out.fC.1
  go_wp2_with fail
  refine (ji w8 (Hr 1) _ (kr.ps.map ah) 0 _ _ rfl (by simp) HB.out.fC.2.1 (by rw [List.length_map]; exact HN.out.2.2.2.2.2.2.1) (by rw [List.length_map]; omega) (cL _)).mono ?_
  rintro e w9 ⟨v9, rfl, bM, dS⟩
  rw [List.take_zero, List.nil_append, <- List.map_drop] at bM
  obtain ⟨A9, c9, eW, -⟩ := bM.slice
  obtain ⟨n9, eX⟩ : ∃ y, ((kr.ps.drop (0 + 1)).map ah).length = y := ⟨_, rfl⟩
  rw [eX] at eW
  subst eW
  clear eX c2
  have H9 := Lib.hid (And.intro bM dS)
  clear bM dS
  obtain ⟨⟨c2, -⟩, f2, -⟩ := af (H9.out.2.heap HB.out.fC.1 (fun q hh => HB.out.G3 hh rfl))
  go_upto_region 4 with fail
  clear c2 f2
  have hB4 := HB.out.p2 (Below.refl _ _) H9.out.2 (H9.out.1.mono (fun b q hh => .inl hh))
  generalize w9.setCell ⟨r, 0, none⟩ (.slice A9 n9 c9) = wA at hB4 ⊢
  have HB := Lib.hid hB4
  clear hB4 H9
  obtain ⟨⟨-, c2⟩, -, -⟩ := af HB.out.fC.1
  by_cases hd : d = 0
  ·subst hd
   have e1 : kl.ks = [] := HA.out.2.2.2.2.2.2.2.2.2.2.2.2.1 rfl
   have e2 : kr.ks = [] := HA.out.2.2.2.2.2.2.2.2.2.2.2.2.2 rfl
   have dW : uJ = 0 := by rw [HN.out.2.2.2.2.1, HN.out.2.2.2.2.2.2.2.2.2.1, e2]; rfl
   subst dW
   have gV := Lib.hid (cP wA r Gm LJ c2)
   have HE := Lib.hid (And.intro e1 e2)
   clear c2 e1 e2
   go_wp2_with fail
   refine gV.out.mono ?_
   rintro e wZ ⟨rfl, zj⟩
   subst zj
   go_wp2_with fail
   first | refine bodyPost_end (results_none rfl _ _ _) rfl ?_ | refine bodyPost_ret (results_none rfl _ _ _) rfl ?_
   obtain ⟨e1, e2⟩ := HE.out
   have hE := fk HA.out.1 HA.out.2.1 (by have := HN.out.2.2.2.2.2.2.2.2.2.2.1; omega) HA.out.2.2.1 HA.out.2.2.2.1 HA.out.2.2.2.2.1 HA.out.2.2.2.2.2.1 HB.out 0 0 (Nat.le_refl _) (Nat.zero_le _) [] (fun _ _ _ => False) 0 0 (Nat.le_refl _) (Nat.zero_le _) [] (fun _ _ _ => False) rfl HA.out.2.2.2.2.2.2.1 HA.out.2.2.2.2.2.2.2.1 (by simp) (by simp) (fun _ _ _ h => h.elim) (fun _ _ _ h => h.elim) (fun _ _ _ _ h => h.elim) (fun _ _ _ _ h => h.elim) (fun m p k hm => by simp at hm) (fun m p k hm => by simp at hm) (by simp [e1]) (by simp [e2])
   rw [Bu HA.out.2.2.2.2.2.2.2.2.2.2.2.1]
   refine ⟨rfl, ?_, hE.2⟩
   have h1 := hE.1
   simp only [e1, e2, List.take_nil, List.drop_nil, List.map_nil, List.append_nil] at h1
   exact h1
  ·have hkk := HN.out.2.2.2.2.2.2.2.2.2.2.2.2.2 hd
   obtain ⟨p0, hp0⟩ : ∃ p, pr[0]? = some p := ⟨_, List.getElem?_eq_getElem (by have := HN.out.2.2.2.2.2.2.2.2.2.1; omega)⟩
   obtain ⟨k0, dW⟩ : ∃ p, kr.ks[0]? = some p := ⟨_, List.getElem?_eq_getElem (by omega)⟩
   have uK := HB.out
   obtain ⟨MV, MW, Qk, e0, -, -, -⟩ := uK.fC.2.2.ptr hp0
   simp only [Value.slice.injEq] at e0
   obtain ⟨rfl, -, rfl⟩ := e0
   have iA : 0 < uJ := by rw [HN.out.2.2.2.2.1, HN.out.2.2.2.2.2.2.2.2.2.1]; exact hkk
   have gV := Lib.hid (dQ wA r uJ Gm _ iA c2)
   have HB := Lib.hid uK
   have HM := Lib.hid (And.intro hp0 (And.intro dW (And.intro hkk (And.intro hd (by have h0 := uK.fC.2.2.xG (i := 0) (by rw [<- HN.out.2.2.2.2.1]; exact iA); rw [Nat.add_zero] at h0; exact h0)))))
   have q6 : (0 : Int) < (uJ : Int) := by omega
   have q7 : uJ <= 902 := by have := HN.out.2.2.2.2.1; have := HN.out.2.2.2.2.2.2.2.2.2.1; omega
   clear uK hp0 dW hkk hd c2
   go_wp2_with fail
   refine gV.out.mono ?_
   rintro e wZ ⟨rfl, zj⟩
   subst zj
   clear gV
   obtain ⟨⟨-, c1⟩, -, -⟩ := af HB.out.fC.1
   have c9 := HB.out.fC.2.2.xE HM.out.1
   rw [Nat.add_zero] at c9
   have tS := And.intro c1 c9
   clear c1 c9
   go_upto_region 5 with fail
   refine wp_region_held_drew (S := (fun W => W.cell? ⟨r, 1, none⟩ = some (.slice (some ⟨MV, MW, none⟩) uJ Gm) /\ W.cell? ⟨MV, MW, none⟩ = some (.pointer (some ⟨p0, 0, none⟩)))) (by kernel_rfl) tS (fun hHeld => ?_)
   generalize hW3 : World.drew wA = W3 at hHeld ⊢
   have HB := Lib.hid (HB.out.below (w1 := W3) (hW3 ▸ (Below.refl _ _).drew))
   clear hW3 tS
   refine aO [0, 1, 2, 3, 5, 6, 7, 8, 9, 10] ?_
   iterate 10 (refine cI (v := ?_) (fun wS hSw => ?_) hHeld ?_; rotate_left; (obtain ⟨s0, s1⟩ := hSw; go_simp; try with_reducible rfl); try simp only [av, ax, ay, az])
   refine aP ?_
   refine wpAnyH_ready (rs := [4, 11]) (by kernel_rfl) (by simp) (cy (i := 4) rfl (fun K hK => ?_) (cy (i := 11) rfl (fun K hK => ?_) AllReadyH.nil))
   ·skip
    obtain ⟨⟨-, r6⟩, -, -⟩ := af HB.out.eA.1
    go_simp
    refine hK.out _ _ (hHeld) (fun ae => ?_)
    clear hK K hHeld r6
    have hHeld := ae
    clear ae
    try simp only [av, ax, ay, az]
    refine bg 11 (fun K hK => ?_)
    go_simp
    refine hK.out _ _ (jm hHeld (ag _ _)) (fun ae => ?_)
    clear hK K hHeld 
    have hHeld := ae
    clear ae
    try simp only [av, ax, ay, az]
    have kV := heap_alloc_new W3 (.cells #[.pointer (some ⟨p0, 0, none⟩)] 197)
    have bV := ag W3 (.cells #[.pointer (some ⟨p0, 0, none⟩)] 197)
    generalize W3.alloc (.cells #[.pointer (some ⟨p0, 0, none⟩)] 197) = W5 at kV bV hHeld ⊢
    obtain ⟨VB, fD⟩ : ∃ y, W3.heap.size = y := ⟨_, rfl⟩
    rw [fD] at kV ⊢
    have HV := Lib.hid kV
    have HB := Lib.hid (HB.out.below bV)
    clear kV bV fD
    refine bg 12 (fun K hK => ?_)
    refine bX _ (by rfl) _ _ 199 (by rfl) iN (.pointer none) 8 Tryz.underlying199 HI.out.2.2.2.2.1 HI.out.2.2.2.2.2.1 HI.out.2.2.2.2.2.2.1 HI.out.2.2.2.2.2.2.2 (by rfl) (by decide) _ (pl.map aD) (by rfl) HB.out.eA.2.2 ⟨VB, 0, none⟩ 1 1 [aD p0] (by rfl) rfl (fun y hy => by rw [List.mem_singleton] at hy; subst hy; rfl) (fun j u hj => by rw [Addr.add_lit, Nat.zero_add]; exact cell_of_heap HV.out (by simpa [aD] using hj)) (by simp [aD, Value.oneCell']) (by rw [List.length_map]; have := HN.out.2.2.2.2.2.2.2.2.1; unfold maxLen; omega) (by rw [List.length_map]; have := HN.out.2.2.2.2.2.2.2.2.1; omega) ?_
    intro v6 wn bw dM
    rw [show pl.map aD ++ [aD p0] = (pl ++ [p0]).map aD by simp] at bw
    obtain ⟨A7, c7, eD, -⟩ := bw.slice
    obtain ⟨n7, ed⟩ : ∃ y, ((pl ++ [p0]).map aD).length = y := ⟨_, rfl⟩
    rw [ed] at eD
    subst eD
    clear ed
    have H6 := Lib.hid (And.intro bw dM)
    clear bw dM
    refine hK.out _ _ (cG hHeld H6.out.2 (fun hh => HB.out.sj hh rfl) (fun hh => HB.out.pg hh HM.out.2.2.2.2)) (fun ae => ?_)
    clear hK K hHeld 
    have hHeld := ae
    clear ae
    try simp only [av, ax, ay, az]
    refine aO [13, 14] ?_
    iterate 2 (refine cI (v := ?_) (fun wS hSw => ?_) hHeld ?_; rotate_left; (obtain ⟨s0, s1⟩ := hSw; go_simp; try with_reducible rfl); try simp only [av, ax, ay, az])
    refine aP ?_
    refine bg 15 (fun K hK => ?_)
    obtain ⟨⟨-, r6⟩, -, rf⟩ := af (H6.out.2.heap HB.out.eA.1 (fun q hh => HB.out.si hh rfl))
    go_simp
    refine hK.out _ _ (cG hHeld (OnlyC.aT _ l 1 _) (fun e => HB.out.e12 e.1.symm) (fun e => HB.out.xo HM.out.2.2.2.2 e.1)) (fun ae => ?_)
    clear hK K hHeld r6 rf
    have hHeld := ae
    clear ae
    try simp only [av, ax, ay, az]
    refine wpAnyH_done (by kernel_rfl) ?_ _
    have di := HB.out.k1 (Below.refl _ _) H6.out.2 H6.out.1
    clear hHeld
    generalize wn.setCell ⟨l, 1, none⟩ (.slice A7 n7 c7) = wB at di ⊢
    have HB := Lib.hid di
    clear di HV H6
    obtain ⟨⟨-, c2⟩, -, -⟩ := af HB.out.fC.1
    go_wp2_with fail
    refine (gz wB (Hr 2) _ (pr.map aD) 0 _ _ rfl (by simp) HB.out.fC.2.2 (by rw [List.length_map, <- HN.out.2.2.2.2.1]; exact iA) (by rw [List.length_map, <- HN.out.2.2.2.2.1]; omega) (bA _)).mono ?_
    rintro e w9 ⟨v9, rfl, bM, dS⟩
    rw [List.take_zero, List.nil_append, <- List.map_drop] at bM
    obtain ⟨A8, c8, eW, -⟩ := bM.slice
    obtain ⟨n8, eX⟩ : ∃ y, ((pr.drop (0 + 1)).map aD).length = y := ⟨_, rfl⟩
    rw [eX] at eW
    subst eW
    clear eX c2
    have H9 := Lib.hid (And.intro bM dS)
    clear bM dS
    obtain ⟨⟨-, c2⟩, -, f2⟩ := af (H9.out.2.heap HB.out.fC.1 (fun q hh => HB.out.xp hh rfl))
    go_wp2_with fail
    first | refine bodyPost_end (results_none rfl _ _ _) rfl ?_ | refine bodyPost_ret (results_none rfl _ _ _) rfl ?_
    have uL := HB.out.k2 (Below.refl _ _) H9.out.2 (H9.out.1.mono (fun b q hh => .inl hh))
    obtain ⟨hp0, dW, hkk, hd, -⟩ := HM.out
    have hsub : bu w d p0 k0 (Hr (0 + 3)) := (HA.out.2.2.2.2.1).2.2.2.2.2.1 0 p0 k0 hp0 dW
    have hE := fk HA.out.1 HA.out.2.1 (by have := HN.out.2.2.2.2.2.2.2.2.2.2.1; omega) HA.out.2.2.1 HA.out.2.2.2.1 HA.out.2.2.2.2.1 HA.out.2.2.2.2.2.1 uL kl.ks.length kl.ks.length (Nat.le_refl _) (Nat.le_refl _) [(p0, k0)] (ni (Hr (0 + 3)) (fun _ _ => False)) 0 1 (by decide) hkk [] (fun _ _ _ => False) rfl HA.out.2.2.2.2.2.2.1 HA.out.2.2.2.2.2.2.2.1 (by rw [<- HN.out.2.2.2.2.2.2.2.2.1]; simp) (by simp) (fun mm b q h => match mm, h with | 0, h => ⟨0, Nat.le_refl _, by omega, h⟩ | 1, h => h.elim | _ + 2, h => h.elim) (fun _ _ _ h => h.elim)
     (fun mm zl b q h1 h2 => by
      match mm, h1, zl, h2 with
      | 0, _, 0, _ => rfl
      | 1, h1, _, _ => exact h1.elim
      | _ + 2, h1, _, _ => exact h1.elim
      | 0, _, 1, h2 => exact h2.elim
      | 0, _, _ + 2, h2 => exact h2.elim) (fun _ _ _ _ h => h.elim)
     (fun mm p k hm => by
      match mm, hm with
      | 0, hm =>
       simp only [List.getElem?_cons_zero, Option.some.injEq, Prod.mk.injEq] at hm
       obtain ⟨rfl, rfl⟩ := hm
       exact hsub
      | mm + 1, hm => simp at hm)
     (fun mm p k hm => by simp at hm)
     (fun e => absurd e hd) (fun e => absurd e hd)
    rw [pY hd HA.out.2.2.2.2.2.2.2.2.2.2.2.1 dW]
    refine ⟨rfl, ?_, hE.2⟩
    have h1 := hE.1
    simp only [List.take_length, List.drop_length, List.take_zero, List.map_nil, List.map_cons, List.append_nil, List.nil_append] at h1
    exact h1
   ·skip
    go_simp
    refine hK.out _ _ (jm hHeld (ag _ _)) (fun ae => ?_)
    clear hK K hHeld 
    have hHeld := ae
    clear ae
    try simp only [av, ax, ay, az]
    have kV := heap_alloc_new W3 (.cells #[.pointer (some ⟨p0, 0, none⟩)] 197)
    have bV := ag W3 (.cells #[.pointer (some ⟨p0, 0, none⟩)] 197)
    generalize W3.alloc (.cells #[.pointer (some ⟨p0, 0, none⟩)] 197) = W5 at kV bV hHeld ⊢
    obtain ⟨VB, fD⟩ : ∃ y, W3.heap.size = y := ⟨_, rfl⟩
    rw [fD] at kV ⊢
    have HV := Lib.hid kV
    have HB := Lib.hid (HB.out.below bV)
    clear kV bV fD
    refine bg 4 (fun K hK => ?_)
    obtain ⟨⟨-, r6⟩, -, -⟩ := af HB.out.eA.1
    go_simp
    refine hK.out _ _ (hHeld) (fun ae => ?_)
    clear hK K hHeld r6
    have hHeld := ae
    clear ae
    try simp only [av, ax, ay, az]
    refine bg 12 (fun K hK => ?_)
    refine bX _ (by rfl) _ _ 199 (by rfl) iN (.pointer none) 8 Tryz.underlying199 HI.out.2.2.2.2.1 HI.out.2.2.2.2.2.1 HI.out.2.2.2.2.2.2.1 HI.out.2.2.2.2.2.2.2 (by rfl) (by decide) _ (pl.map aD) (by rfl) HB.out.eA.2.2 ⟨VB, 0, none⟩ 1 1 [aD p0] (by rfl) rfl (fun y hy => by rw [List.mem_singleton] at hy; subst hy; rfl) (fun j u hj => by rw [Addr.add_lit, Nat.zero_add]; exact cell_of_heap HV.out (by simpa [aD] using hj)) (by simp [aD, Value.oneCell']) (by rw [List.length_map]; have := HN.out.2.2.2.2.2.2.2.2.1; unfold maxLen; omega) (by rw [List.length_map]; have := HN.out.2.2.2.2.2.2.2.2.1; omega) ?_
    intro v6 wn bw dM
    rw [show pl.map aD ++ [aD p0] = (pl ++ [p0]).map aD by simp] at bw
    obtain ⟨A7, c7, eD, -⟩ := bw.slice
    obtain ⟨n7, ed⟩ : ∃ y, ((pl ++ [p0]).map aD).length = y := ⟨_, rfl⟩
    rw [ed] at eD
    subst eD
    clear ed
    have H6 := Lib.hid (And.intro bw dM)
    clear bw dM
    refine hK.out _ _ (cG hHeld H6.out.2 (fun hh => HB.out.sj hh rfl) (fun hh => HB.out.pg hh HM.out.2.2.2.2)) (fun ae => ?_)
    clear hK K hHeld 
    have hHeld := ae
    clear ae
    try simp only [av, ax, ay, az]
    refine aO [13, 14] ?_
    iterate 2 (refine cI (v := ?_) (fun wS hSw => ?_) hHeld ?_; rotate_left; (obtain ⟨s0, s1⟩ := hSw; go_simp; try with_reducible rfl); try simp only [av, ax, ay, az])
    refine aP ?_
    refine bg 15 (fun K hK => ?_)
    obtain ⟨⟨-, r6⟩, -, rf⟩ := af (H6.out.2.heap HB.out.eA.1 (fun q hh => HB.out.si hh rfl))
    go_simp
    refine hK.out _ _ (cG hHeld (OnlyC.aT _ l 1 _) (fun e => HB.out.e12 e.1.symm) (fun e => HB.out.xo HM.out.2.2.2.2 e.1)) (fun ae => ?_)
    clear hK K hHeld r6 rf
    have hHeld := ae
    clear ae
    try simp only [av, ax, ay, az]
    refine wpAnyH_done (by kernel_rfl) ?_ _
    have di := HB.out.k1 (Below.refl _ _) H6.out.2 H6.out.1
    clear hHeld
    generalize wn.setCell ⟨l, 1, none⟩ (.slice A7 n7 c7) = wB at di ⊢
    have HB := Lib.hid di
    clear di HV H6
    obtain ⟨⟨-, c2⟩, -, -⟩ := af HB.out.fC.1
    go_wp2_with fail
    refine (gz wB (Hr 2) _ (pr.map aD) 0 _ _ rfl (by simp) HB.out.fC.2.2 (by rw [List.length_map, <- HN.out.2.2.2.2.1]; exact iA) (by rw [List.length_map, <- HN.out.2.2.2.2.1]; omega) (bA _)).mono ?_
    rintro e w9 ⟨v9, rfl, bM, dS⟩
    rw [List.take_zero, List.nil_append, <- List.map_drop] at bM
    obtain ⟨A8, c8, eW, -⟩ := bM.slice
    obtain ⟨n8, eX⟩ : ∃ y, ((pr.drop (0 + 1)).map aD).length = y := ⟨_, rfl⟩
    rw [eX] at eW
    subst eW
    clear eX c2
    have H9 := Lib.hid (And.intro bM dS)
    clear bM dS
    obtain ⟨⟨-, c2⟩, -, f2⟩ := af (H9.out.2.heap HB.out.fC.1 (fun q hh => HB.out.xp hh rfl))
    go_wp2_with fail
    first | refine bodyPost_end (results_none rfl _ _ _) rfl ?_ | refine bodyPost_ret (results_none rfl _ _ _) rfl ?_
    have uL := HB.out.k2 (Below.refl _ _) H9.out.2 (H9.out.1.mono (fun b q hh => .inl hh))
    obtain ⟨hp0, dW, hkk, hd, -⟩ := HM.out
    have hsub : bu w d p0 k0 (Hr (0 + 3)) := (HA.out.2.2.2.2.1).2.2.2.2.2.1 0 p0 k0 hp0 dW
    have hE := fk HA.out.1 HA.out.2.1 (by have := HN.out.2.2.2.2.2.2.2.2.2.2.1; omega) HA.out.2.2.1 HA.out.2.2.2.1 HA.out.2.2.2.2.1 HA.out.2.2.2.2.2.1 uL kl.ks.length kl.ks.length (Nat.le_refl _) (Nat.le_refl _) [(p0, k0)] (ni (Hr (0 + 3)) (fun _ _ => False)) 0 1 (by decide) hkk [] (fun _ _ _ => False) rfl HA.out.2.2.2.2.2.2.1 HA.out.2.2.2.2.2.2.2.1 (by rw [<- HN.out.2.2.2.2.2.2.2.2.1]; simp) (by simp) (fun mm b q h => match mm, h with | 0, h => ⟨0, Nat.le_refl _, by omega, h⟩ | 1, h => h.elim | _ + 2, h => h.elim) (fun _ _ _ h => h.elim)
     (fun mm zl b q h1 h2 => by
      match mm, h1, zl, h2 with
      | 0, _, 0, _ => rfl
      | 1, h1, _, _ => exact h1.elim
      | _ + 2, h1, _, _ => exact h1.elim
      | 0, _, 1, h2 => exact h2.elim
      | 0, _, _ + 2, h2 => exact h2.elim) (fun _ _ _ _ h => h.elim)
     (fun mm p k hm => by
      match mm, hm with
      | 0, hm =>
       simp only [List.getElem?_cons_zero, Option.some.injEq, Prod.mk.injEq] at hm
       obtain ⟨rfl, rfl⟩ := hm
       exact hsub
      | mm + 1, hm => simp at hm)
     (fun mm p k hm => by simp at hm)
     (fun e => absurd e hd) (fun e => absurd e hd)
    rw [pY hd HA.out.2.2.2.2.2.2.2.2.2.2.2.1 dW]
    refine ⟨rfl, ?_, hE.2⟩
    have h1 := hE.1
    simp only [List.take_length, List.drop_length, List.take_zero, List.map_nil, List.map_cons, List.append_nil, List.nil_append] at h1
    exact h1
set_option maxHeartbeats 8000000 in
theorem lu (w : World) (d a i : Nat) (x : ND) (F : Nat -> Nat -> Prop) (h : ai w (d + 1) a x F) (hF : ∀ b q, F b q -> b < w.heap.size) (hi : i + 1 < x.ks.length) (hps : x.ks.length = x.ps.length + 1) (hpl : x.ps.length <= 900)
  (Kb : (aK x i).ps.length <= 900) (ML : (aK x (i + 1)).ps.length <= 900) (Qj : (aK x i).ks.length <= 901) (MN : (aK x (i + 1)).ks.length <= 901) :
  Calls Tryz.prog 213 #[.pointer (some ⟨a, 0, none⟩), .int .i64 i] w fun e w' => e = .returned (.tuple #[]) /\ ai w' (d + 1) a (pJ x i (jg (aK x i) (fp x i) (aK x (i + 1)))) (fun b q => F b q \/ w.heap.size <= b) /\ OnlyC F w w' := by
 obtain ⟨_, vp, vk, ak, H, hO, _⟩ := h.open_
 have qO := cD (x := x) (i := i) (by omega)
 have qP := cD (x := x) (i := i + 1) (by omega)
 generalize MO : aK x i = kl at *
 generalize MP : aK x (i + 1) = kr at *
 clear MO MP
 obtain ⟨l, hl⟩ : ∃ y, ak[i]? = some y := ⟨_, List.getElem?_eq_getElem (by rw [hO.2.2.2.2.1]; omega)⟩
 obtain ⟨r, hr⟩ : ∃ y, ak[i + 1]? = some y := ⟨_, List.getElem?_eq_getElem (by rw [hO.2.2.2.2.1]; omega)⟩
 obtain ⟨lq, vl, ul, pl, Hl, hL, yX⟩ := (show ai w d l kl (H (i + 3)) from hO.2.2.2.2.2.1 i l kl hl qO).open_
 obtain ⟨hdr, vr, ur, pr, Hr, hR, Gj⟩ := (show ai w d r kr (H (i + 4)) from hO.2.2.2.2.2.1 (i + 1) r kr hr qP).open_
 have hB := aV.start hO hF hL hR
 obtain ⟨s, hs⟩ : ∃ p, x.ps[i]? = some p := ⟨_, List.getElem?_eq_getElem (by omega)⟩
 obtain ⟨iP, hiP, EL, EM, EN⟩ := info_parts Tryz.yP
 obtain ⟨iN, MU, EO, EP, ER⟩ := info_parts Tryz.yR
 have HI := Lib.hid (And.intro hiP (And.intro EL (And.intro EM (And.intro EN (And.intro MU (And.intro EO (And.intro EP ER)))))))
 clear hiP EL EM EN MU EO EP ER
 have xI : fp x i = s := by unfold fp; rw [hs]; rfl
 rw [xI]
 obtain ⟨i1, hi1⟩ : ∃ y, y = i + 1 := ⟨_, rfl⟩
 obtain ⟨bn, on, cn, e0, -, -, s0, s1, -⟩ := hO.2.2.1.pair hs
 subst e0
 obtain ⟨Ar, cr, e0, -⟩ := hR.2.2.1.slice
 rw [List.length_map] at e0
 subst e0
 obtain ⟨UL, cl, e0, -⟩ := hL.2.2.1.slice
 rw [List.length_map] at e0
 subst e0
 obtain ⟨bk, ok, ck, e0, -, -, r1⟩ := hO.2.2.2.1.ptr hl
 obtain ⟨R5, ok', R6, Gl, -, -, r2⟩ := hO.2.2.2.1.ptr hr
 subst e0
 simp only [Value.slice.injEq, Option.some.injEq, Addr.mk.injEq, and_true, true_and] at Gl
 obtain ⟨⟨rfl, rfl⟩, rfl⟩ := Gl
 obtain ⟨Al, Jc, e0, -⟩ := hL.2.2.2.1.slice
 rw [List.length_map] at e0
 subst e0
 obtain ⟨LJ, Gm, e0, -⟩ := hR.2.2.2.1.slice
 rw [List.length_map] at e0
 subst e0
 obtain ⟨np, kM⟩ : ∃ y, x.ps.length = y := ⟨_, rfl⟩
 obtain ⟨nr, rX⟩ : ∃ y, kr.ps.length = y := ⟨_, rfl⟩
 obtain ⟨nk, jn⟩ : ∃ y, ak.length = y := ⟨_, rfl⟩
 obtain ⟨xJ, iz⟩ : ∃ y, pl.length = y := ⟨_, rfl⟩
 obtain ⟨uJ, iA⟩ : ∃ y, pr.length = y := ⟨_, rfl⟩
 obtain ⟨nl, hnl⟩ : ∃ y, kl.ps.length = y := ⟨_, rfl⟩
 have jd := hO.2.2.2.2.1
 have Jd := hL.2.2.2.2.1
 have Br := hR.2.2.2.2.1
 rw [kM, jn] at hO
 rw [hnl, iz] at hL
 rw [rX, iA] at hR
 rw [kM, jn, hnl, iz, rX, iA] at hB
 have py := (hO.2.2.1.mP (i := i) (by omega))
 have HA := Lib.hid (And.intro hO (And.intro hF (And.intro hL (And.intro yX (And.intro hR (And.intro Gj (And.intro hl (And.intro hr (And.intro qO (And.intro qP (And.intro hs (And.intro lq hdr))))))))))))
 have HN := Lib.hid (show np = x.ps.length /\ nr = kr.ps.length /\ nk = ak.length /\ xJ = pl.length /\ uJ = pr.length /\ nl = kl.ps.length /\ ak.length = x.ks.length /\ pl.length = kl.ks.length /\ pr.length = kr.ks.length /\ i + 1 < x.ks.length /\ x.ks.length = x.ps.length + 1 /\ i1 = i + 1 from ⟨kM.symm, rX.symm, jn.symm, iz.symm, iA.symm, hnl.symm, jd, Jd, Br, hi, hps, hi1⟩)
 have HB := Lib.hid hB
 have HP := Lib.hid py
 obtain ⟨⟨Bt, LK⟩, -, -⟩ := af hB.kK.1
 have j1 : (i : Int) + 1 = (i1 : Int) := by omega
 have j2 : (0 : Int) <= (i : Int) := by omega
 have j3 : (i : Int) < (nk : Int) := by omega
 have j4 : (i1 : Int) < (nk : Int) := by omega
 have j5 : (0 : Int) <= (i1 : Int) := by omega
 have j6 : (i : Int) < (np : Int) := by omega
 have j8 : nr <= 900 := by omega
 have j10 : nl <= 900 := by omega
 obtain ⟨j11, j12⟩ := DF i1 (by omega)
 have r2' : w.cell? ⟨bk, ok + i1, none⟩ = some (.pointer (some ⟨r, 0, none⟩)) := by rw [hi1]; exact r2
 clear r2 h hO hF hL yX hR Gj hl hr qO qP hB hs kM rX jn iz iA hnl jd Jd Br py hi1 xI lq hdr
 go_enter Tryz.func213, Tryz.ntmps213
 go_wp2_with fail
 go_quiet (fail)
 go_upto_region 1 with fail
 have pX : Below w.heap.size w (w.drewN nq) := au (Below.refl _ _) nq
 generalize w.drewN nq = wq at pX ⊢
 have Je := (pX.cell (World.block_lt_of_cell? _ _ s0)).trans s0
 have Jf := (pX.cell (World.block_lt_of_cell? _ _ s1)).trans s1
 have HB := Lib.hid (HB.out.below pX)
 clear Bt LK r1 r2' s0 s1 pX
 obtain ⟨⟨Bt, -⟩, -, -⟩ := af HB.out.kK.1
 have tS := And.intro Bt (And.intro Je Jf)
 clear Bt Je Jf
 refine wp_region_held_drew (S := (fun W => W.cell? ⟨a, 0, none⟩ = some (.slice (some ⟨bn, on, none⟩) np cn) /\ W.cell? ⟨bn, on + i * 2, none⟩ = some (.string ⟨s.1.toArray⟩) /\ W.cell? ⟨bn, on + i * 2 + 1, none⟩ = some (.string ⟨s.2.toArray⟩))) (by kernel_rfl) tS (fun hHeld => ?_)
 generalize hW3 : World.drew wq = W3 at hHeld ⊢
 have HB := Lib.hid (HB.out.below (w1 := W3) (hW3 ▸ (Below.refl _ _).drew))
 clear hW3 tS
 refine aO [0, 1, 2, 3, 5, 6, 7, 8, 9, 10, 11] ?_
 iterate 11 (refine cI (v := ?_) (fun wS hSw => ?_) hHeld ?_; rotate_left; (obtain ⟨s0, s1, s2⟩ := hSw; go_simp; try with_reducible rfl); try simp only [av, ax, ay, az])
 refine aP ?_
 refine wpAnyH_ready (rs := [4, 12]) (by kernel_rfl) (by simp) (cy (i := 4) rfl (fun K hK => ?_) (cy (i := 12) rfl (fun K hK => ?_) AllReadyH.nil))
 ·skip
  obtain ⟨⟨r6, -⟩, -, -⟩ := af HB.out.eA.1
  go_simp
  refine hK.out _ _ (hHeld) (fun ae => ?_)
  clear hK K hHeld r6
  have hHeld := ae
  clear ae
  try simp only [av, ax, ay, az]
  refine bg 12 (fun K hK => ?_)
  go_simp
  refine hK.out _ _ (oH hHeld (ag _ _)) (fun ae => ?_)
  clear hK K hHeld 
  have hHeld := ae
  clear ae
  try simp only [av, ax, ay, az]
  have kV := heap_alloc_new W3 (.cells #[.string ⟨s.1.toArray⟩, .string ⟨s.2.toArray⟩] 210)
  have bV := ag W3 (.cells #[.string ⟨s.1.toArray⟩, .string ⟨s.2.toArray⟩] 210)
  generalize W3.alloc (.cells #[.string ⟨s.1.toArray⟩, .string ⟨s.2.toArray⟩] 210) = W5 at kV bV hHeld ⊢
  obtain ⟨VB, fD⟩ : ∃ y, W3.heap.size = y := ⟨_, rfl⟩
  rw [fD] at kV ⊢
  have HV := Lib.hid kV
  have HB := Lib.hid (HB.out.below bV)
  clear kV bV fD
  refine bg 13 (fun K hK => ?_)
  refine bX _ (by rfl) _ _ 198 (by rfl) iP (.agg #[.string ⟨#[]⟩, .string ⟨#[]⟩]) 32 Tryz.underlying198 HI.out.1 HI.out.2.1 HI.out.2.2.1 HI.out.2.2.2.1 (by rfl) (by decide) _ (kl.ps.map ah) (by rfl) HB.out.eA.2.1 ⟨VB, 0, none⟩ 1 1 [ah s] (by rfl) rfl (fun y hy => by rw [List.mem_singleton] at hy; subst hy; rfl) (fun j u hj => by rw [Addr.add_lit, Nat.zero_add]; exact cell_of_heap HV.out (by simpa [ah] using hj)) (by simp [ah, Value.oneCell']) (by rw [List.length_map]; unfold maxLen; omega) (by rw [List.length_map]; omega) ?_
  intro v6 wn bw dM
  rw [show kl.ps.map ah ++ [ah s] = (kl.ps ++ [s]).map ah by simp] at bw
  obtain ⟨A6, c6, eD, -⟩ := bw.slice
  obtain ⟨n6, ed⟩ : ∃ y, ((kl.ps ++ [s]).map ah).length = y := ⟨_, rfl⟩
  rw [ed] at eD
  subst eD
  clear ed
  have H6 := Lib.hid (And.intro bw dM)
  clear bw dM
  refine hK.out _ _ (fE hHeld H6.out.2 (fun hh => HB.out.G1 hh rfl) (fun hh => HB.out.kL HP.out.1 hh) (fun hh => HB.out.kL HP.out.2 hh)) (fun ae => ?_)
  clear hK K hHeld 
  have hHeld := ae
  clear ae
  try simp only [av, ax, ay, az]
  refine aO [14, 15] ?_
  iterate 2 (refine cI (v := ?_) (fun wS hSw => ?_) hHeld ?_; rotate_left; (obtain ⟨s0, s1, s2⟩ := hSw; go_simp; try with_reducible rfl); try simp only [av, ax, ay, az])
  refine aP ?_
  refine bg 16 (fun K hK => ?_)
  obtain ⟨⟨r6, -⟩, rf, -⟩ := af (H6.out.2.heap HB.out.eA.1 (fun q hh => HB.out.xm hh rfl))
  go_simp
  refine hK.out _ _ (fE hHeld (OnlyC.aT _ l 0 _) (fun e => HB.out.OZ e.1) (fun e => HB.out.sf HP.out.1 e.1) (fun e => HB.out.sf HP.out.2 e.1)) (fun ae => ?_)
  clear hK K hHeld r6 rf
  have hHeld := ae
  clear ae
  try simp only [av, ax, ay, az]
  refine wpAnyH_done (by kernel_rfl) ?_ _
  have di := HB.out.p1 (Below.refl _ _) H6.out.2 H6.out.1
  clear hHeld
  generalize wn.setCell ⟨l, 0, none⟩ (.slice A6 n6 c6) = w7 at di ⊢
  have HB := Lib.hid di
  clear di HV H6
  obtain ⟨⟨c2, -⟩, -, -⟩ := af HB.out.fC.1
  have tS := c2
  clear c2
  go_upto_region 2 with fail
  refine wp_region_held_drew (S := (fun W => W.cell? ⟨r, 0, none⟩ = some (.slice Ar nr cr))) (by kernel_rfl) tS (fun hHeld => ?_)
  generalize hW3 : World.drew w7 = W3 at hHeld ⊢
  have HB := Lib.hid (HB.out.below (w1 := W3) (hW3 ▸ (Below.refl _ _).drew))
  clear hW3 tS
  refine aO [0, 1, 2, 3, 5, 6, 7] ?_
  iterate 7 (refine cI (v := ?_) (fun wS hSw => ?_) hHeld ?_; rotate_left; (go_simp; try with_reducible rfl); try simp only [av, ax, ay, az])
  refine aP ?_
  refine fL 8 (v := ?_) (fun wS hSw => ?_) hHeld ?_
  rotate_left
  ·have s0 := hSw; go_simp; try with_reducible rfl
  try simp only [av, ax, ay, az]
  refine bg 4 (fun K hK => ?_)
  obtain ⟨⟨r6, -⟩, rf, -⟩ := af (HB.out.eA.1)
  go_simp
  refine hK.out _ _ (hHeld) (fun ae => ?_)
  clear hK K hHeld r6 rf
  have hHeld := ae
  clear ae
  try simp only [av, ax, ay, az]
  refine bg 9 (fun K hK => ?_)
  refine fg _ (by rfl) _ _ 198 (by rfl) iP (.agg #[.string ⟨#[]⟩, .string ⟨#[]⟩]) 32 Tryz.underlying198 HI.out.1 HI.out.2.1 HI.out.2.2.1 HI.out.2.2.2.1 (by rfl) (by decide) _ ((kl.ps ++ [s]).map ah) (by rfl) HB.out.eA.2.1 _ (kr.ps.map ah) (by rfl) HB.out.fC.2.1 (cL _) (by simp; unfold maxLen; omega) (by simp; omega) ?_
  intro v6 wn bw dM
  rw [<- List.map_append] at bw
  obtain ⟨A7, c7, eD, -⟩ := bw.slice
  obtain ⟨n7, ed⟩ : ∃ y, (((kl.ps ++ [s]) ++ kr.ps).map ah).length = y := ⟨_, rfl⟩
  rw [ed] at eD
  subst eD
  clear ed
  have H6 := Lib.hid (And.intro bw dM)
  clear bw dM
  refine hK.out _ _ (H6.out.2.cell hHeld (fun hh => HB.out.Mq hh rfl)) (fun ae => ?_)
  clear hK K hHeld 
  have hHeld := ae
  clear ae
  try simp only [av, ax, ay, az]
  refine aO [10, 11] ?_
  iterate 2 (refine cI (v := ?_) (fun wS hSw => ?_) hHeld ?_; rotate_left; (go_simp; try with_reducible rfl); try simp only [av, ax, ay, az])
  refine aP ?_
  refine bg 12 (fun K hK => ?_)
  obtain ⟨⟨r6, -⟩, rf, -⟩ := af (H6.out.2.heap HB.out.eA.1 (fun q hh => HB.out.xm hh rfl))
  go_simp
  refine hK.out _ _ ((OnlyC.aT _ l 0 _).cell hHeld (fun e => HB.out.e12 e.1.symm)) (fun ae => ?_)
  clear hK K hHeld r6 rf
  have hHeld := ae
  clear ae
  try simp only [av, ax, ay, az]
  refine wpAnyH_done (by kernel_rfl) ?_ _
  have di := HB.out.p1 (Below.refl _ _) H6.out.2 H6.out.1
  clear hHeld
  generalize wn.setCell ⟨l, 0, none⟩ (.slice A7 n7 c7) = wE at di ⊢
  have HB := Lib.hid di
  clear di H6
  obtain ⟨⟨-, c2⟩, -, -⟩ := af HB.out.fC.1
  have tS := c2
  clear c2
  go_upto_region 3 with fail
  refine wp_region_held_drew (S := (fun W => W.cell? ⟨r, 1, none⟩ = some (.slice LJ uJ Gm))) (by kernel_rfl) tS (fun hHeld => ?_)
  generalize hW3 : World.drew wE = W3 at hHeld ⊢
  have HB := Lib.hid (HB.out.below (w1 := W3) (hW3 ▸ (Below.refl _ _).drew))
  clear hW3 tS
  refine aO [0, 1, 2, 3, 5, 6, 7] ?_
  iterate 7 (refine cI (v := ?_) (fun wS hSw => ?_) hHeld ?_; rotate_left; (go_simp; try with_reducible rfl); try simp only [av, ax, ay, az])
  refine aP ?_
  refine fL 8 (v := ?_) (fun wS hSw => ?_) hHeld ?_
  rotate_left
  ·have s0 := hSw; go_simp; try with_reducible rfl
  try simp only [av, ax, ay, az]
  refine bg 4 (fun K hK => ?_)
  obtain ⟨⟨-, r6⟩, -, rf⟩ := af (HB.out.eA.1)
  go_simp
  refine hK.out _ _ (hHeld) (fun ae => ?_)
  clear hK K hHeld r6 rf
  have hHeld := ae
  clear ae
  try simp only [av, ax, ay, az]
  refine bg 9 (fun K hK => ?_)
  refine fg _ (by rfl) _ _ 199 (by rfl) iN (.pointer none) 8 Tryz.underlying199 HI.out.2.2.2.2.1 HI.out.2.2.2.2.2.1 HI.out.2.2.2.2.2.2.1 HI.out.2.2.2.2.2.2.2 (by rfl) (by decide) _ (pl.map aD) (by rfl) HB.out.eA.2.2 _ (pr.map aD) (by rfl) HB.out.fC.2.2 (bA _) (by rw [List.length_map, List.length_map]; have := HN.out.2.2.2.2.2.2.2.1; have := HN.out.2.2.2.2.2.2.2.2.1; unfold maxLen; omega) (by rw [List.length_map, List.length_map]; have := HN.out.2.2.2.2.2.2.2.1; have := HN.out.2.2.2.2.2.2.2.2.1; omega) ?_
  intro v6 wn bw dM
  rw [<- List.map_append] at bw
  obtain ⟨A7, c7, eD, -⟩ := bw.slice
  obtain ⟨n7, ed⟩ : ∃ y, ((pl ++ pr).map aD).length = y := ⟨_, rfl⟩
  rw [ed] at eD
  subst eD
  clear ed
  have H6 := Lib.hid (And.intro bw dM)
  clear bw dM
  refine hK.out _ _ (H6.out.2.cell hHeld (fun hh => HB.out.sj hh rfl)) (fun ae => ?_)
  clear hK K hHeld 
  have hHeld := ae
  clear ae
  try simp only [av, ax, ay, az]
  refine aO [10, 11] ?_
  iterate 2 (refine cI (v := ?_) (fun wS hSw => ?_) hHeld ?_; rotate_left; (go_simp; try with_reducible rfl); try simp only [av, ax, ay, az])
  refine aP ?_
  refine bg 12 (fun K hK => ?_)
  obtain ⟨⟨-, r6⟩, -, rf⟩ := af (H6.out.2.heap HB.out.eA.1 (fun q hh => HB.out.si hh rfl))
  go_simp
  refine hK.out _ _ ((OnlyC.aT _ l 1 _).cell hHeld (fun e => HB.out.e12 e.1.symm)) (fun ae => ?_)
  clear hK K hHeld r6 rf
  have hHeld := ae
  clear ae
  try simp only [av, ax, ay, az]
  refine wpAnyH_done (by kernel_rfl) ?_ _
  have di := HB.out.k1 (Below.refl _ _) H6.out.2 H6.out.1
  clear hHeld
  generalize wn.setCell ⟨l, 1, none⟩ (.slice A7 n7 c7) = wF at di ⊢
  have HB := Lib.hid di
  clear di H6
  obtain ⟨⟨c1, -⟩, -, -⟩ := af HB.out.kK.1
  go_wp2_with fail
  refine (ji wF (H 1) _ (x.ps.map ah) i _ _ rfl (by omega) HB.out.kK.2.1 (by rw [List.length_map]; have := HN.out.2.2.2.2.2.2.2.2.2.1; have := HN.out.2.2.2.2.2.2.2.2.2.2.1; omega) (by rw [List.length_map]; omega) (cL _)).mono ?_
  rintro e w9 ⟨v9, rfl, bM, dS⟩
  rw [<- List.map_take, <- List.map_drop, <- List.map_append] at bM
  obtain ⟨A8, c8, eW, -⟩ := bM.slice
  obtain ⟨n8, eX⟩ : ∃ y, ((x.ps.take i ++ x.ps.drop (i + 1)).map ah).length = y := ⟨_, rfl⟩
  rw [eX] at eW
  subst eW
  clear eX c1
  have H9 := Lib.hid (And.intro bM dS)
  clear bM dS
  obtain ⟨⟨c1, -⟩, f1, -⟩ := af (H9.out.2.heap HB.out.kK.1 (fun q hh => HB.out.Cv hh rfl))
  go_upto_region 5 with fail
  clear c1 f1
  have hB4 := HB.out.p0 (Below.refl _ _) H9.out.2 (H9.out.1.mono (fun b q hh => .inl hh))
  generalize w9.setCell ⟨a, 0, none⟩ (.slice A8 n8 c8) = wG at hB4 ⊢
  have HB := Lib.hid hB4
  clear hB4 H9
  obtain ⟨⟨-, c2⟩, -, -⟩ := af HB.out.kK.1
  go_wp2_with fail
  refine (gz wG (H 2) _ (ak.map aD) i1 _ _ (by simp) (by omega) HB.out.kK.2.2 (by rw [List.length_map]; have := HN.out.2.2.2.2.2.2.2.2.2.1; have := HN.out.2.2.2.2.2.2.1; have := HN.out.2.2.2.2.2.2.2.2.2.2.2; omega) (by rw [List.length_map]; have := HN.out.2.2.2.2.2.2.1; have := HN.out.2.2.2.2.2.2.2.2.2.2.1; omega) (bA _)).mono ?_
  rintro e wY ⟨v9, rfl, bM, dS⟩
  rw [<- List.map_take, <- List.map_drop, <- List.map_append] at bM
  obtain ⟨A9, c9, eW, -⟩ := bM.slice
  obtain ⟨n9, eX⟩ : ∃ y, ((ak.take i1 ++ ak.drop (i1 + 1)).map aD).length = y := ⟨_, rfl⟩
  rw [eX] at eW
  subst eW
  clear eX c2
  have H9 := Lib.hid (And.intro bM dS)
  clear bM dS
  obtain ⟨⟨-, c2⟩, -, f2⟩ := af (H9.out.2.heap HB.out.kK.1 (fun q hh => HB.out.Mo hh rfl))
  go_wp2_with fail
  first | refine bodyPost_end (results_none rfl _ _ _) rfl ?_ | refine bodyPost_ret (results_none rfl _ _ _) rfl ?_
  have uL := HB.out.k0 (Below.refl _ _) H9.out.2 (H9.out.1.mono (fun b q hh => .inl hh))
  have hE := Bj HA.out.1 HA.out.2.1 (by have := HN.out.2.2.2.2.2.2.2.2.2.1; omega) HA.out.2.2.1 HA.out.2.2.2.1 HA.out.2.2.2.2.1 uL ?_ rfl (fun e => by rw [HA.out.2.2.2.2.2.2.2.2.2.2.2.1 e, HA.out.2.2.2.2.2.2.2.2.2.2.2.2 e]; rfl)
  ·refine ⟨rfl, ?_, hE.2⟩
   have h1 := hE.1
   have e1 : kl.ps ++ [s] ++ kr.ps = kl.ps ++ s :: kr.ps := by simp
   rw [e1] at h1
   exact h1
  ·have h1 := HA.out.2.2.2.2.2.2.1
   have h2 := (List.getElem?_eq_some_iff.1 h1)
   obtain ⟨h3, h4⟩ := h2
   rw [HN.out.2.2.2.2.2.2.2.2.2.2.2, List.take_succ_eq_append_getElem h3, h4]
 ·skip
  go_simp
  refine hK.out _ _ (oH hHeld (ag _ _)) (fun ae => ?_)
  clear hK K hHeld 
  have hHeld := ae
  clear ae
  try simp only [av, ax, ay, az]
  have kV := heap_alloc_new W3 (.cells #[.string ⟨s.1.toArray⟩, .string ⟨s.2.toArray⟩] 210)
  have bV := ag W3 (.cells #[.string ⟨s.1.toArray⟩, .string ⟨s.2.toArray⟩] 210)
  generalize W3.alloc (.cells #[.string ⟨s.1.toArray⟩, .string ⟨s.2.toArray⟩] 210) = W5 at kV bV hHeld ⊢
  obtain ⟨VB, fD⟩ : ∃ y, W3.heap.size = y := ⟨_, rfl⟩
  rw [fD] at kV ⊢
  have HV := Lib.hid kV
  have HB := Lib.hid (HB.out.below bV)
  clear kV bV fD
  refine bg 4 (fun K hK => ?_)
  obtain ⟨⟨r6, -⟩, -, -⟩ := af HB.out.eA.1
  go_simp
  refine hK.out _ _ (hHeld) (fun ae => ?_)
  clear hK K hHeld r6
  have hHeld := ae
  clear ae
  try simp only [av, ax, ay, az]
  refine bg 13 (fun K hK => ?_)
  refine bX _ (by rfl) _ _ 198 (by rfl) iP (.agg #[.string ⟨#[]⟩, .string ⟨#[]⟩]) 32 Tryz.underlying198 HI.out.1 HI.out.2.1 HI.out.2.2.1 HI.out.2.2.2.1 (by rfl) (by decide) _ (kl.ps.map ah) (by rfl) HB.out.eA.2.1 ⟨VB, 0, none⟩ 1 1 [ah s] (by rfl) rfl (fun y hy => by rw [List.mem_singleton] at hy; subst hy; rfl) (fun j u hj => by rw [Addr.add_lit, Nat.zero_add]; exact cell_of_heap HV.out (by simpa [ah] using hj)) (by simp [ah, Value.oneCell']) (by rw [List.length_map]; unfold maxLen; omega) (by rw [List.length_map]; omega) ?_
  intro v6 wn bw dM
  rw [show kl.ps.map ah ++ [ah s] = (kl.ps ++ [s]).map ah by simp] at bw
  obtain ⟨A6, c6, eD, -⟩ := bw.slice
  obtain ⟨n6, ed⟩ : ∃ y, ((kl.ps ++ [s]).map ah).length = y := ⟨_, rfl⟩
  rw [ed] at eD
  subst eD
  clear ed
  have H6 := Lib.hid (And.intro bw dM)
  clear bw dM
  refine hK.out _ _ (fE hHeld H6.out.2 (fun hh => HB.out.G1 hh rfl) (fun hh => HB.out.kL HP.out.1 hh) (fun hh => HB.out.kL HP.out.2 hh)) (fun ae => ?_)
  clear hK K hHeld 
  have hHeld := ae
  clear ae
  try simp only [av, ax, ay, az]
  refine aO [14, 15] ?_
  iterate 2 (refine cI (v := ?_) (fun wS hSw => ?_) hHeld ?_; rotate_left; (obtain ⟨s0, s1, s2⟩ := hSw; go_simp; try with_reducible rfl); try simp only [av, ax, ay, az])
  refine aP ?_
  refine bg 16 (fun K hK => ?_)
  obtain ⟨⟨r6, -⟩, rf, -⟩ := af (H6.out.2.heap HB.out.eA.1 (fun q hh => HB.out.xm hh rfl))
  go_simp
  refine hK.out _ _ (fE hHeld (OnlyC.aT _ l 0 _) (fun e => HB.out.OZ e.1) (fun e => HB.out.sf HP.out.1 e.1) (fun e => HB.out.sf HP.out.2 e.1)) (fun ae => ?_)
  clear hK K hHeld r6 rf
  have hHeld := ae
  clear ae
  try simp only [av, ax, ay, az]
  refine wpAnyH_done (by kernel_rfl) ?_ _
  have di := HB.out.p1 (Below.refl _ _) H6.out.2 H6.out.1
  clear hHeld
  generalize wn.setCell ⟨l, 0, none⟩ (.slice A6 n6 c6) = w7 at di ⊢
  have HB := Lib.hid di
  clear di HV H6
  obtain ⟨⟨c2, -⟩, -, -⟩ := af HB.out.fC.1
  have tS := c2
  clear c2
  go_upto_region 2 with fail
  refine wp_region_held_drew (S := (fun W => W.cell? ⟨r, 0, none⟩ = some (.slice Ar nr cr))) (by kernel_rfl) tS (fun hHeld => ?_)
  generalize hW3 : World.drew w7 = W3 at hHeld ⊢
  have HB := Lib.hid (HB.out.below (w1 := W3) (hW3 ▸ (Below.refl _ _).drew))
  clear hW3 tS
  refine aO [0, 1, 2, 3, 5, 6, 7] ?_
  iterate 7 (refine cI (v := ?_) (fun wS hSw => ?_) hHeld ?_; rotate_left; (go_simp; try with_reducible rfl); try simp only [av, ax, ay, az])
  refine aP ?_
  refine fL 8 (v := ?_) (fun wS hSw => ?_) hHeld ?_
  rotate_left
  ·have s0 := hSw; go_simp; try with_reducible rfl
  try simp only [av, ax, ay, az]
  refine bg 4 (fun K hK => ?_)
  obtain ⟨⟨r6, -⟩, rf, -⟩ := af (HB.out.eA.1)
  go_simp
  refine hK.out _ _ (hHeld) (fun ae => ?_)
  clear hK K hHeld r6 rf
  have hHeld := ae
  clear ae
  try simp only [av, ax, ay, az]
  refine bg 9 (fun K hK => ?_)
  refine fg _ (by rfl) _ _ 198 (by rfl) iP (.agg #[.string ⟨#[]⟩, .string ⟨#[]⟩]) 32 Tryz.underlying198 HI.out.1 HI.out.2.1 HI.out.2.2.1 HI.out.2.2.2.1 (by rfl) (by decide) _ ((kl.ps ++ [s]).map ah) (by rfl) HB.out.eA.2.1 _ (kr.ps.map ah) (by rfl) HB.out.fC.2.1 (cL _) (by simp; unfold maxLen; omega) (by simp; omega) ?_
  intro v6 wn bw dM
  rw [<- List.map_append] at bw
  obtain ⟨A7, c7, eD, -⟩ := bw.slice
  obtain ⟨n7, ed⟩ : ∃ y, (((kl.ps ++ [s]) ++ kr.ps).map ah).length = y := ⟨_, rfl⟩
  rw [ed] at eD
  subst eD
  clear ed
  have H6 := Lib.hid (And.intro bw dM)
  clear bw dM
  refine hK.out _ _ (H6.out.2.cell hHeld (fun hh => HB.out.Mq hh rfl)) (fun ae => ?_)
  clear hK K hHeld 
  have hHeld := ae
  clear ae
  try simp only [av, ax, ay, az]
  refine aO [10, 11] ?_
  iterate 2 (refine cI (v := ?_) (fun wS hSw => ?_) hHeld ?_; rotate_left; (go_simp; try with_reducible rfl); try simp only [av, ax, ay, az])
  refine aP ?_
  refine bg 12 (fun K hK => ?_)
  obtain ⟨⟨r6, -⟩, rf, -⟩ := af (H6.out.2.heap HB.out.eA.1 (fun q hh => HB.out.xm hh rfl))
  go_simp
  refine hK.out _ _ ((OnlyC.aT _ l 0 _).cell hHeld (fun e => HB.out.e12 e.1.symm)) (fun ae => ?_)
  clear hK K hHeld r6 rf
  have hHeld := ae
  clear ae
  try simp only [av, ax, ay, az]
  refine wpAnyH_done (by kernel_rfl) ?_ _
  have di := HB.out.p1 (Below.refl _ _) H6.out.2 H6.out.1
  clear hHeld
  generalize wn.setCell ⟨l, 0, none⟩ (.slice A7 n7 c7) = wE at di ⊢
  have HB := Lib.hid di
  clear di H6
  obtain ⟨⟨-, c2⟩, -, -⟩ := af HB.out.fC.1
  have tS := c2
  clear c2
  go_upto_region 3 with fail
  refine wp_region_held_drew (S := (fun W => W.cell? ⟨r, 1, none⟩ = some (.slice LJ uJ Gm))) (by kernel_rfl) tS (fun hHeld => ?_)
  generalize hW3 : World.drew wE = W3 at hHeld ⊢
  have HB := Lib.hid (HB.out.below (w1 := W3) (hW3 ▸ (Below.refl _ _).drew))
  clear hW3 tS
  refine aO [0, 1, 2, 3, 5, 6, 7] ?_
  iterate 7 (refine cI (v := ?_) (fun wS hSw => ?_) hHeld ?_; rotate_left; (go_simp; try with_reducible rfl); try simp only [av, ax, ay, az])
  refine aP ?_
  refine fL 8 (v := ?_) (fun wS hSw => ?_) hHeld ?_
  rotate_left
  ·have s0 := hSw; go_simp; try with_reducible rfl
  try simp only [av, ax, ay, az]
  refine bg 4 (fun K hK => ?_)
  obtain ⟨⟨-, r6⟩, -, rf⟩ := af (HB.out.eA.1)
  go_simp
  refine hK.out _ _ (hHeld) (fun ae => ?_)
  clear hK K hHeld r6 rf
  have hHeld := ae
  clear ae
  try simp only [av, ax, ay, az]
  refine bg 9 (fun K hK => ?_)
  refine fg _ (by rfl) _ _ 199 (by rfl) iN (.pointer none) 8 Tryz.underlying199 HI.out.2.2.2.2.1 HI.out.2.2.2.2.2.1 HI.out.2.2.2.2.2.2.1 HI.out.2.2.2.2.2.2.2 (by rfl) (by decide) _ (pl.map aD) (by rfl) HB.out.eA.2.2 _ (pr.map aD) (by rfl) HB.out.fC.2.2 (bA _) (by rw [List.length_map, List.length_map]; have := HN.out.2.2.2.2.2.2.2.1; have := HN.out.2.2.2.2.2.2.2.2.1; unfold maxLen; omega) (by rw [List.length_map, List.length_map]; have := HN.out.2.2.2.2.2.2.2.1; have := HN.out.2.2.2.2.2.2.2.2.1; omega) ?_
  intro v6 wn bw dM
  rw [<- List.map_append] at bw
  obtain ⟨A7, c7, eD, -⟩ := bw.slice
  obtain ⟨n7, ed⟩ : ∃ y, ((pl ++ pr).map aD).length = y := ⟨_, rfl⟩
  rw [ed] at eD
  subst eD
  clear ed
  have H6 := Lib.hid (And.intro bw dM)
  clear bw dM
  refine hK.out _ _ (H6.out.2.cell hHeld (fun hh => HB.out.sj hh rfl)) (fun ae => ?_)
  clear hK K hHeld 
  have hHeld := ae
  clear ae
  try simp only [av, ax, ay, az]
  refine aO [10, 11] ?_
  iterate 2 (refine cI (v := ?_) (fun wS hSw => ?_) hHeld ?_; rotate_left; (go_simp; try with_reducible rfl); try simp only [av, ax, ay, az])
  refine aP ?_
  refine bg 12 (fun K hK => ?_)
  obtain ⟨⟨-, r6⟩, -, rf⟩ := af (H6.out.2.heap HB.out.eA.1 (fun q hh => HB.out.si hh rfl))
  go_simp
  refine hK.out _ _ ((OnlyC.aT _ l 1 _).cell hHeld (fun e => HB.out.e12 e.1.symm)) (fun ae => ?_)
  clear hK K hHeld r6 rf
  have hHeld := ae
  clear ae
  try simp only [av, ax, ay, az]
  refine wpAnyH_done (by kernel_rfl) ?_ _
  have di := HB.out.k1 (Below.refl _ _) H6.out.2 H6.out.1
  clear hHeld
  generalize wn.setCell ⟨l, 1, none⟩ (.slice A7 n7 c7) = wF at di ⊢
  have HB := Lib.hid di
  clear di H6
  obtain ⟨⟨c1, -⟩, -, -⟩ := af HB.out.kK.1
  go_wp2_with fail
  refine (ji wF (H 1) _ (x.ps.map ah) i _ _ rfl (by omega) HB.out.kK.2.1 (by rw [List.length_map]; have := HN.out.2.2.2.2.2.2.2.2.2.1; have := HN.out.2.2.2.2.2.2.2.2.2.2.1; omega) (by rw [List.length_map]; omega) (cL _)).mono ?_
  rintro e w9 ⟨v9, rfl, bM, dS⟩
  rw [<- List.map_take, <- List.map_drop, <- List.map_append] at bM
  obtain ⟨A8, c8, eW, -⟩ := bM.slice
  obtain ⟨n8, eX⟩ : ∃ y, ((x.ps.take i ++ x.ps.drop (i + 1)).map ah).length = y := ⟨_, rfl⟩
  rw [eX] at eW
  subst eW
  clear eX c1
  have H9 := Lib.hid (And.intro bM dS)
  clear bM dS
  obtain ⟨⟨c1, -⟩, f1, -⟩ := af (H9.out.2.heap HB.out.kK.1 (fun q hh => HB.out.Cv hh rfl))
  go_upto_region 5 with fail
  clear c1 f1
  have hB4 := HB.out.p0 (Below.refl _ _) H9.out.2 (H9.out.1.mono (fun b q hh => .inl hh))
  generalize w9.setCell ⟨a, 0, none⟩ (.slice A8 n8 c8) = wG at hB4 ⊢
  have HB := Lib.hid hB4
  clear hB4 H9
  obtain ⟨⟨-, c2⟩, -, -⟩ := af HB.out.kK.1
  go_wp2_with fail
  refine (gz wG (H 2) _ (ak.map aD) i1 _ _ (by simp) (by omega) HB.out.kK.2.2 (by rw [List.length_map]; have := HN.out.2.2.2.2.2.2.2.2.2.1; have := HN.out.2.2.2.2.2.2.1; have := HN.out.2.2.2.2.2.2.2.2.2.2.2; omega) (by rw [List.length_map]; have := HN.out.2.2.2.2.2.2.1; have := HN.out.2.2.2.2.2.2.2.2.2.2.1; omega) (bA _)).mono ?_
  rintro e wY ⟨v9, rfl, bM, dS⟩
  rw [<- List.map_take, <- List.map_drop, <- List.map_append] at bM
  obtain ⟨A9, c9, eW, -⟩ := bM.slice
  obtain ⟨n9, eX⟩ : ∃ y, ((ak.take i1 ++ ak.drop (i1 + 1)).map aD).length = y := ⟨_, rfl⟩
  rw [eX] at eW
  subst eW
  clear eX c2
  have H9 := Lib.hid (And.intro bM dS)
  clear bM dS
  obtain ⟨⟨-, c2⟩, -, f2⟩ := af (H9.out.2.heap HB.out.kK.1 (fun q hh => HB.out.Mo hh rfl))
  go_wp2_with fail
  first | refine bodyPost_end (results_none rfl _ _ _) rfl ?_ | refine bodyPost_ret (results_none rfl _ _ _) rfl ?_
  have uL := HB.out.k0 (Below.refl _ _) H9.out.2 (H9.out.1.mono (fun b q hh => .inl hh))
  have hE := Bj HA.out.1 HA.out.2.1 (by have := HN.out.2.2.2.2.2.2.2.2.2.1; omega) HA.out.2.2.1 HA.out.2.2.2.1 HA.out.2.2.2.2.1 uL ?_ rfl (fun e => by rw [HA.out.2.2.2.2.2.2.2.2.2.2.2.1 e, HA.out.2.2.2.2.2.2.2.2.2.2.2.2 e]; rfl)
  ·refine ⟨rfl, ?_, hE.2⟩
   have h1 := hE.1
   have e1 : kl.ps ++ [s] ++ kr.ps = kl.ps ++ s :: kr.ps := by simp
   rw [e1] at h1
   exact h1
  ·have h1 := HA.out.2.2.2.2.2.2.1
   have h2 := (List.getElem?_eq_some_iff.1 h1)
   obtain ⟨h3, h4⟩ := h2
   rw [HN.out.2.2.2.2.2.2.2.2.2.2.2, List.take_succ_eq_append_getElem h3, h4]
end Go.Proofs.YtagemonojdgbdaaGreatDoor
