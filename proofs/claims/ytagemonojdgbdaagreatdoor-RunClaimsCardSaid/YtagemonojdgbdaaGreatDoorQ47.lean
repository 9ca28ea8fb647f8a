import Derived.Test.YtagemonojdgbdaaGreatDoorQ34
import Derived.Test.YtagemonojdgbdaaGreatDoorQ46
namespace Go.Proofs.YtagemonojdgbdaaGreatDoor
set_option maxRecDepth 100000
open Go.RowKit
theorem ug (xs : List Ln) (l : aW) : ∀ (m j : Nat) (l0 : aW), xs.length = j + m -> jr (xs.drop j) l0 = some l -> dJ xs j = l0 -> dJ xs xs.length = l
 | 0, j, l0, hm, h, hl => by
  rw [List.drop_eq_nil_of_le (by omega), jr] at h
  injection h with h
  rw [show xs.length = j by omega, hl, h]
 | m + 1, j, l0, hm, h, hl => by
  obtain ⟨x, hx⟩ : ∃ x, xs[j]? = some x := ⟨_, List.getElem?_eq_getElem (by omega)⟩
  have hdr : xs.drop j = x :: xs.drop (j + 1) := by
   have h1 := List.getElem?_eq_some_iff.1 hx
   rw [<- h1.2]
   exact List.drop_eq_getElem_cons h1.1
  rw [hdr] at h
  rcases Classical.em (Gt x.r 4 /\ aI (Aw x).1 l0 = none) with hc | hc
  ·rw [lL hc] at h
   refine ug xs l m (j + 1) _ (by omega) h ?_
   rw [dJ, hx]
   simp only []
   rw [lG (gm xs j), hl]
  ·rw [jO hc] at h
   cases h
theorem vI {xs : List Ln} {most : Int} {l : aW} (h : dK xs most = some l) : xs.length <= 30 /\ mU xs = l := by
 unfold dK at h
 split at h
 ·cases h
 ·rename_i hn
  exact ⟨by omega, ug xs l xs.length 0 [] (by omega) (by simpa using h) rfl⟩
theorem Dx (w : World) (n : Int) (h : jD n) : Calls Tryz.prog 9 #[.int .i64 n] w fun e w' => e = .returned (.string ⟨(Lib.itoa n).toArray⟩) /\ Below w.heap.size w w' :=
 (lK n.natAbs n w (Nat.le_refl _) h).mono fun e w' ⟨h1, m, h2⟩ => ⟨h1, by rw [h2]; exact au (Below.refl _ _) m⟩
theorem Ge (n : Int) : 1 <= (Lib.itoa n).length := by
 unfold Lib.itoa
 split
 ·simp
 ·rw [Lib.decDigits_length]
  exact Lib.nDigits_pos _
theorem gU {w : World} {base n : Nat} {v : Value} {l : List Cl} (h : w.ownsRow base 48 5 v n (sH l)) (_hn : l.length = n) : ∃ A c, v = .slice A n c /\ n <= c /\ c <= maxLen /\ cd w (fun _ => True) (.slice A n c) l := by
 obtain ⟨A, c, rfl⟩ := ar h
 have hr : cd w (fun _ => True) (.slice A n c) l := bE.bC h (bI l) (by decide) (fun _ _ => trivial)
 obtain ⟨A', n', c', e, hl, h1, h2, _⟩ := id hr
 injection e with e1 e2 e3
 subst e1 e2 e3
 exact ⟨_, _, rfl, h1, h2, hr⟩
set_option maxHeartbeats 16000000 in
theorem yE (w : World) (F : Nat -> Prop) (v : Value) (xs : List Ln) (most : Int) (hv : oX w F v xs) (n : Int) (hn : jD n) (r : Rw) (op : Int) (hs : jN w) (ht : fR w) :
  Calls Tryz.prog 3 #[.agg #[v, .int .i64 most], .agg #[.int .i64 n, .int .i64 r.a, .int .i64 r.b, .int .i64 r.c, .int .i64 r.d], .int .i64 op] w fun e w' => e = .returned (.bool true) /\ Below w.heap.size w w' := by
 obtain ⟨A, c, rfl, hlc, hcm⟩ := rO hv
 obtain ⟨ra, rb, rc, rd⟩ := r
 simp only
 have hb0 := ag w (.cells #[.slice A xs.length c, .int .i64 most] 24)
 have k0 := heap_alloc_new w (.cells #[.slice A xs.length c, .int .i64 most] 24)
 have hb1 := ag (w.alloc (.cells #[.slice A xs.length c, .int .i64 most] 24)) (.cells #[.int .i64 n, .int .i64 ra, .int .i64 rb, .int .i64 rc, .int .i64 rd] 28)
 have k1 := heap_alloc_new (w.alloc (.cells #[.slice A xs.length c, .int .i64 most] 24)) (.cells #[.int .i64 n, .int .i64 ra, .int .i64 rb, .int .i64 rc, .int .i64 rd] 28)
 rw [show (w.alloc (.cells #[.slice A xs.length c, .int .i64 most] 24)).heap.size = w.heap.size + 1 by simp] at k1
 have H0 := Lib.hid (show Below w.heap.size w ((w.alloc (.cells #[.slice A xs.length c, .int .i64 most] 24)).alloc (.cells #[.int .i64 n, .int .i64 ra, .int .i64 rb, .int .i64 rc, .int .i64 rd] 28)) /\ ((w.alloc (.cells #[.slice A xs.length c, .int .i64 most] 24)).alloc (.cells #[.int .i64 n, .int .i64 ra, .int .i64 rb, .int .i64 rc, .int .i64 rd] 28)).heap[w.heap.size]? = some (.cells #[.slice A xs.length c, .int .i64 most] 24 (0, 0)) /\ ((w.alloc (.cells #[.slice A xs.length c, .int .i64 most] 24)).alloc (.cells #[.int .i64 n, .int .i64 ra, .int .i64 rb, .int .i64 rc, .int .i64 rd] 28)).heap[w.heap.size + 1]? = some (.cells #[.int .i64 n, .int .i64 ra, .int .i64 rb, .int .i64 rc, .int .i64 rd] 28 (0, 0)) from
  ⟨hb0.trans (hb1.mono hb0.size), (Only.of_below hb1 (fun _ => False)).heap k0 (fun h => h), k1⟩)
 have HV := Lib.hid (And.intro hv (And.intro hn (And.intro hs ht)))
 obtain ⟨N, hN⟩ : ∃ N, xs.length = N := ⟨_, rfl⟩
 rw [hN] at H0 HV ⊢
 clear hb0 k0 hb1 k1 hv hn hs ht hlc hcm
 go_enter Tryz.func3, Tryz.ntmps3
 go_upto_region 1 with fail
 have H1 := H0.out
 clear H0
 generalize ((w.alloc (.cells #[.slice A N c, .int .i64 most] 24)).alloc (.cells #[.int .i64 n, .int .i64 ra, .int .i64 rb, .int .i64 rc, .int .i64 rd] 28)) = w1 at H1 ⊢
 obtain ⟨hb1, kw, kl⟩ := H1
 obtain ⟨X, hX⟩ : ∃ x, w.heap.size = x := ⟨_, rfl⟩
 rw [hX] at kw kl ⊢
 obtain ⟨Y, hY⟩ : ∃ y, X + 1 = y := ⟨_, rfl⟩
 rw [hY] at kl ⊢
 have HC := Lib.hid (show (w1.cell? ⟨X, 0, none⟩ = some (.slice A N c) /\ w1.cell? ⟨X, 1, none⟩ = some (.int .i64 most)) /\ w1.cell? ⟨Y, 0, none⟩ = some (.int .i64 n) /\ w1.cell? ⟨Y, 1, none⟩ = some (.int .i64 ra) /\ w1.cell? ⟨Y, 2, none⟩ = some (.int .i64 rb) /\ w1.cell? ⟨Y, 3, none⟩ = some (.int .i64 rc) /\ w1.cell? ⟨Y, 4, none⟩ = some (.int .i64 rd) by simp [World.cell?, kw, kl])
 have zr := Lib.hid hb1
 have HT := Lib.hid (Ay w1 F _ xs most (show oX w1 F (.slice A N c) xs from bE.below HV.out.1 hb1))
 have HL := Lib.hid hN
 clear kw kl hX hY hb1 hN
 have x0 := HC.out.1.1
 have x1 := HC.out.1.2
 go_wp2_with fail
 refine HT.out.mono ?_
 rintro e w2 ⟨hb2, hnone, hsome⟩
 clear HT x0 x1
 have nN := Lib.hid (show Below w.heap.size w w2 /\ Below w1.heap.size w1 w2 from ⟨zr.out.trans (hb2.mono zr.out.size), hb2⟩)
 clear hb2
 cases hts : dK xs most with
 | none =>
  obtain rfl := hnone hts
  clear hnone hsome hts
  go_wp2_with fail
  refine (ft w2 (HV.out.2.2.1.below nN.out.1) (HV.out.2.2.2.below nN.out.1)).mono ?_
  rintro e wz ⟨rfl, hbz⟩
  have Dy := Lib.hid (show Below w.heap.size w wz from (nN.out.1).trans (hbz.mono (nN.out.1).size))
  clear hbz
  go_wp2_with fail
  go_ret
  exact ⟨rfl, Dy.out⟩
 | some l =>
  obtain ⟨T, FT, rfl, hT, DD⟩ := hsome l hts
  have HS := Lib.hid (vI hts)
  have L4 := Lib.hid (And.intro hT DD)
  clear hnone hsome hts hT DD
  go_wp2_with fail
  refine (zT w2 T 3 most l FT L4.out.1 (fun b q h => (L4.out.2 b q h).2)).mono ?_
  rintro e w3 ⟨B, rfl, hB, hb3⟩
  have tU := Lib.hid (show Below w.heap.size w w3 /\ Below w1.heap.size w1 w3 from ⟨nN.out.1.trans (hb3.mono nN.out.1.size), nN.out.2.trans (hb3.mono nN.out.2.size)⟩)
  have Um := Lib.hid hB
  clear hb3 hB
  have y0 := aa tU.out.2 HC.out.2.1
  have y1 := aa tU.out.2 HC.out.2.2.1
  have y2 := aa tU.out.2 HC.out.2.2.2.1
  have y3 := aa tU.out.2 HC.out.2.2.2.2.1
  have y4 := aa tU.out.2 HC.out.2.2.2.2.2
  go_wp2_with fail
  refine (Dx w3 n HV.out.2.1).mono ?_
  rintro e w4 ⟨rfl, hb4⟩
  have kY := Lib.hid (show Below w.heap.size w w4 /\ Below w1.heap.size w1 w4 from ⟨tU.out.1.trans (hb4.mono tU.out.1.size), tU.out.2.trans (hb4.mono tU.out.2.size)⟩)
  have PA := Lib.hid (Um.out.below hb4)
  obtain ⟨k, hk⟩ : ∃ k, Lib.itoa n = k := ⟨_, rfl⟩
  have hk1 : 1 <= k.length := by rw [<- hk]; exact Ge n
  rw [hk]
  clear hb4 Um hk
  clear y0 y1 y2 y3 y4
  by_cases hlk : 16 < k.length
  ·have RI : (16 : Int) < (k.length : Int) := by omega
   go_wp2_with fail
   refine (ft w4 (HV.out.2.2.1.below kY.out.1) (HV.out.2.2.2.below kY.out.1)).mono ?_
   rintro e wz ⟨rfl, hbz⟩
   have Dy := Lib.hid (show Below w.heap.size w wz from (kY.out.1).trans (hbz.mono (kY.out.1).size))
   clear hbz
   go_wp2_with fail
   go_ret
   exact ⟨rfl, Dy.out⟩
  have RI : ¬ (16 : Int) < (k.length : Int) := by omega
  have HK := Lib.hid (show 1 <= k.length /\ k.length <= 16 from ⟨hk1, by omega⟩)
  clear hk1
  have y0 := aa kY.out.2 HC.out.2.1
  have y1 := aa kY.out.2 HC.out.2.2.1
  have y2 := aa kY.out.2 HC.out.2.2.2.1
  have y3 := aa kY.out.2 HC.out.2.2.2.2.1
  have y4 := aa kY.out.2 HC.out.2.2.2.2.2
  by_cases hop : op = 9 \/ op = 10
  rotate_left
  ·have g9 : (op != 9) = true := by simpa using fun e => hop (.inl e)
   have g10 : (op != 10) = true := by simpa using fun e => hop (.inr e)
   have HO := Lib.hid hop
   clear hop
   go_wp2_with fail
   refine (sI w4 op (fun e => HO.out (.inl e)) (fun e => HO.out (.inr e)) B k ⟨ra, rb, rc, rd⟩).mono ?_
   rintro e w5 ⟨rfl, fx⟩
   have gi := Lib.hid (show Below w.heap.size w w5 /\ Below w1.heap.size w1 w5 from ⟨kY.out.1.trans (fx.mono kY.out.1.size), kY.out.2.trans (fx.mono kY.out.2.size)⟩)
   clear fx
   clear y0 y1 y2 y3 y4
   have y0 := aa gi.out.2 HC.out.2.1
   have y1 := aa gi.out.2 HC.out.2.2.1
   have y2 := aa gi.out.2 HC.out.2.2.2.1
   have y3 := aa gi.out.2 HC.out.2.2.2.2.1
   have y4 := aa gi.out.2 HC.out.2.2.2.2.2
   go_wp2_with fail
   refine (eZ w5 op k ⟨ra, rb, rc, rd⟩).mono ?_
   rintro e w6 ⟨rfl, gj⟩
   have kF := Lib.hid (show Below w.heap.size w w6 /\ Below w1.heap.size w1 w6 from ⟨gi.out.1.trans (gj.mono gi.out.1.size), gi.out.2.trans (gj.mono gi.out.2.size)⟩)
   clear gj
   clear y0 y1 y2 y3 y4
   go_wp2_with fail
   refine (ft w6 (HV.out.2.2.1.below kF.out.1) (HV.out.2.2.2.below kF.out.1)).mono ?_
   rintro e wz ⟨rfl, hbz⟩
   have Dy := Lib.hid (show Below w.heap.size w wz from (kF.out.1).trans (hbz.mono (kF.out.1).size))
   clear hbz
   go_wp2_with fail
   go_ret
   exact ⟨rfl, Dy.out⟩
  rcases hop with rfl | rfl
  ·cases hq : aI k l with
   | none =>
    have HQ := Lib.hid (show eK k [] l = none from hq)
    clear hq
    go_wp2_with fail
    refine (vh w4 B T 3 most l [] FT _ k HK.out PA.out ⟨ra, rb, rc, rd⟩ HQ.out).mono ?_
    rintro e w5 ⟨v5, rfl, bq, fx⟩
    obtain ⟨LL, AE⟩ : ∃ x, dZ k none (some ⟨ra, rb, rc, rd⟩) = x := ⟨_, rfl⟩
    rw [AE] at bq
    obtain ⟨M, hM⟩ : ∃ x, LL.length = x := ⟨_, rfl⟩
    rw [hM] at bq
    obtain ⟨A5, c5, rfl, RJ, Ls, Gf⟩ := gU bq hM
    unfold maxLen at Ls
    have gi := Lib.hid (show Below w.heap.size w w5 /\ Below w1.heap.size w1 w5 from ⟨kY.out.1.trans (fx.mono kY.out.1.size), kY.out.2.trans (fx.mono kY.out.2.size)⟩)
    have Lt := Lib.hid Gf
    have vJ := Lib.hid (And.intro AE hM)
    clear fx bq Gf AE hM
    clear y0 y1 y2 y3 y4
    have y0 := aa gi.out.2 HC.out.2.1
    have y1 := aa gi.out.2 HC.out.2.2.1
    have y2 := aa gi.out.2 HC.out.2.2.2.1
    have y3 := aa gi.out.2 HC.out.2.2.2.2.1
    have y4 := aa gi.out.2 HC.out.2.2.2.2.2
    go_wp2_with fail
    refine (eZ w5 9 k ⟨ra, rb, rc, rd⟩).mono ?_
    rintro e w6 ⟨rfl, gj⟩
    have rQ := gj
    have kF := Lib.hid (show Below w.heap.size w w6 /\ Below w1.heap.size w1 w6 from ⟨gi.out.1.trans (gj.mono gi.out.1.size), gi.out.2.trans (gj.mono gi.out.2.size)⟩)
    have rR := Lib.hid rQ
    clear gj rQ
    clear y0 y1 y2 y3 y4
    have x0 := aa kF.out.2 HC.out.1.1
    have x1 := aa kF.out.2 HC.out.1.2
    go_wp2_with fail
    refine (kH w6 F _ xs most (show oX w6 F (.slice A N c) xs from bE.below HV.out.1 kF.out.1) HS.out.1).mono ?_
    rintro e w7 ⟨v7, rfl, dB, rM⟩
    rw [HS.out.2] at dB
    have AG : bE 5 w7 (fun _ => True) v7 (l.map rH) := bE.bC dB (gZ l) (by decide) (fun _ _ => trivial)
    obtain ⟨A7, c7, rfl, Lu, Lv⟩ := jL AG
    unfold maxLen at Lv
    have rS := rR.out.trans (rM.mono rR.out.size)
    have vK := Lib.hid (show Below w.heap.size w w7 /\ Below w1.heap.size w1 w7 from ⟨kF.out.1.trans (rM.mono kF.out.1.size), kF.out.2.trans (rM.mono kF.out.2.size)⟩)
    have rT := Lib.hid rS
    have Dz := Lib.hid AG
    have Lx := Lib.hid (show l.length <= 1000 from by have h1 := HS.out.1; have h2 := gp xs xs.length; have h3 := HS.out.2; unfold mU at h3; rw [h3] at h2; omega)
    clear rM dB AG rS x0 x1
    go_wp2_with fail
    refine (mi w7 (fun _ => True) _ l k Dz.out Lx.out).mono ?_
    rintro e w8 ⟨rfl, rfl⟩
    rw [yB L4.out.1.up HQ.out]
    obtain ⟨N7, Aj⟩ : ∃ x, l.length = x := ⟨_, rfl⟩
    rw [Aj] at Lu Dz ⊢
    clear Aj
    have hbz := ag w7 (.cells #[.int .i64 0, .int .i64 0, .int .i64 0, .int .i64 0] 25)
    have kz := heap_alloc_new w7 (.cells #[.int .i64 0, .int .i64 0, .int .i64 0, .int .i64 0] 25)
    have HZ := Lib.hid (And.intro hbz kz)
    clear hbz kz
    go_upto_region 17 with fail
    have jQ := HZ.out
    clear HZ
    generalize w7.alloc (.cells #[.int .i64 0, .int .i64 0, .int .i64 0, .int .i64 0] 25) = w9 at jQ ⊢
    obtain ⟨Z, hZ⟩ : ∃ x, w7.heap.size = x := ⟨_, rfl⟩
    obtain ⟨ml, kz⟩ := jQ
    rw [hZ] at kz ⊢
    go_upto_region 19 with fail
    obtain ⟨jH, Gg⟩ : ∃ x, x = w9 := ⟨_, rfl⟩
    rw [<- Gg] at ml kz ⊢
    have jf : Below w7.heap.size w7 jH := ml
    obtain ⟨⟨z0, z1, z2, z3⟩, -⟩ := bG kz
    clear ml kz hZ Gg
    have dL := Lib.hid (show Below w.heap.size w jH /\ Below w1.heap.size w1 jH from ⟨vK.out.1.trans (jf.mono vK.out.1.size), vK.out.2.trans (jf.mono vK.out.2.size)⟩)
    have lN := rT.out.trans (jf.mono rT.out.size)
    have lO := Lib.hid lN
    clear jf lN
    have y0 := aa dL.out.2 HC.out.2.1
    have y1 := aa dL.out.2 HC.out.2.2.1
    have y2 := aa dL.out.2 HC.out.2.2.2.1
    have y3 := aa dL.out.2 HC.out.2.2.2.2.1
    have y4 := aa dL.out.2 HC.out.2.2.2.2.2
    go_wp2_with fail
    refine (zZ jH k 0 0 0 0 ra rb rc rd).mono ?_
    rintro e rU ⟨v11, rfl, fu, gf⟩
    rw [vJ.out.1, vJ.out.2] at fu
    obtain ⟨RM, c11, rfl, LA, AH, rV⟩ := gU fu vJ.out.2
    unfold maxLen at AH
    have kI := Lib.hid (show Below w.heap.size w rU /\ Below w1.heap.size w1 rU from ⟨dL.out.1.trans (gf.mono dL.out.1.size), dL.out.2.trans (gf.mono dL.out.2.size)⟩)
    have AJ := Lib.hid rV
    have AK := Lib.hid (show cd rU (fun _ => True) (.slice A5 M c5) LL from bE.below Lt.out (lO.out.trans (gf.mono lO.out.size)))
    clear fu gf rV z0 z1 z2 z3
    clear y0 y1 y2 y3 y4
    go_wp2_with fail
    go_loopw [19] (fun i wr => ∃ j : Nat, j <= M /\ i = .int .i64 (j : Int) /\ Below rU.heap.size rU wr) (fun i _ => M - (intOf i).toNat)
    case atStart => exact ⟨0, by omega, rfl, Below.refl _ _⟩
    case round =>
     obtain ⟨j, hj, rfl, hbr⟩ := hrel
     by_cases hlt : j < M
     ·obtain ⟨x, hx⟩ : ∃ x, LL[j]? = some x := ⟨_, List.getElem?_eq_getElem (by rw [vJ.out.2]; exact hlt)⟩
      obtain ⟨b5, o5, rfl, -, e0, e1, e2, e3, e4⟩ := cd.at_ (bE.below AK.out hbr) hx
      obtain ⟨b6, o6, rfl, -, f0, f1, f2, f3, f4⟩ := cd.at_ (bE.below AJ.out hbr) hx
      have j1 : (0 : Int) <= (j : Int) := by omega
      have j2 : (j : Int) < (M : Int) := by omega
      have heq := fun (w : World) => x9 x x w
      have hg := Tryz.nM
      have LB := Lib.hid hbr
      clear hx hbr
      obtain ⟨xw, xc, xk, xl, xh⟩ := x
      simp only at e0 e1 e2 e3 e4 f0 f1 f2 f3 f4 heq
      go_wp2_with fail
      go_quiet (fail)
      rename_i nq
      clear e0 e1 e2 e3 e4 f0 f1 f2 f3 f4 heq hg
      go_wp2_with fail
      go_roundw
      case rel => exact ⟨j + 1, by omega, by go_num, Only.au ((Only.of_below LB.out (fun _ => False)).drewN nq) (Nat.le_refl _) (fun _ _ h => h)⟩
      case measure => simp [intOf]; omega
     ·obtain rfl : j = M := by omega
      have kJ := Lib.hid (show Below w.heap.size w wr /\ Below w1.heap.size w1 wr from ⟨kI.out.1.trans (hbr.mono kI.out.1.size), kI.out.2.trans (hbr.mono kI.out.2.size)⟩)
      clear hbr
      go_wp2_with fail
      refine (ft wr (HV.out.2.2.1.below kJ.out.1) (HV.out.2.2.2.below kJ.out.1)).mono ?_
      rintro e wz ⟨rfl, hbz⟩
      have Dy := Lib.hid (show Below w.heap.size w wz from (kJ.out.1).trans (hbz.mono (kJ.out.1).size))
      clear hbz
      go_wp2_with fail
      go_ret
      exact ⟨rfl, Dy.out⟩
   | some old =>
    obtain ⟨oa, ob, oc, od⟩ := old
    have HQ := Lib.hid (show eK k [] l = some ⟨oa, ob, oc, od⟩ from hq)
    clear hq
    go_wp2_with fail
    refine (vo w4 B T 3 most l [] FT _ k HK.out PA.out ⟨oa, ob, oc, od⟩ ⟨ra, rb, rc, rd⟩ HQ.out).mono ?_
    rintro e w5 ⟨v5, rfl, bq, fx⟩
    obtain ⟨LL, AE⟩ : ∃ x, dZ k (some ⟨oa, ob, oc, od⟩) (some ⟨ra, rb, rc, rd⟩) = x := ⟨_, rfl⟩
    rw [AE] at bq
    obtain ⟨M, hM⟩ : ∃ x, LL.length = x := ⟨_, rfl⟩
    rw [hM] at bq
    obtain ⟨A5, c5, rfl, RJ, Ls, Gf⟩ := gU bq hM
    unfold maxLen at Ls
    have gi := Lib.hid (show Below w.heap.size w w5 /\ Below w1.heap.size w1 w5 from ⟨kY.out.1.trans (fx.mono kY.out.1.size), kY.out.2.trans (fx.mono kY.out.2.size)⟩)
    have Lt := Lib.hid Gf
    have vJ := Lib.hid (And.intro AE hM)
    clear fx bq Gf AE hM
    clear y0 y1 y2 y3 y4
    have y0 := aa gi.out.2 HC.out.2.1
    have y1 := aa gi.out.2 HC.out.2.2.1
    have y2 := aa gi.out.2 HC.out.2.2.2.1
    have y3 := aa gi.out.2 HC.out.2.2.2.2.1
    have y4 := aa gi.out.2 HC.out.2.2.2.2.2
    go_wp2_with fail
    refine (eZ w5 9 k ⟨ra, rb, rc, rd⟩).mono ?_
    rintro e w6 ⟨rfl, gj⟩
    have rQ := gj
    have kF := Lib.hid (show Below w.heap.size w w6 /\ Below w1.heap.size w1 w6 from ⟨gi.out.1.trans (gj.mono gi.out.1.size), gi.out.2.trans (gj.mono gi.out.2.size)⟩)
    have rR := Lib.hid rQ
    clear gj rQ
    clear y0 y1 y2 y3 y4
    have x0 := aa kF.out.2 HC.out.1.1
    have x1 := aa kF.out.2 HC.out.1.2
    go_wp2_with fail
    refine (kH w6 F _ xs most (show oX w6 F (.slice A N c) xs from bE.below HV.out.1 kF.out.1) HS.out.1).mono ?_
    rintro e w7 ⟨v7, rfl, dB, rM⟩
    rw [HS.out.2] at dB
    have AG : bE 5 w7 (fun _ => True) v7 (l.map rH) := bE.bC dB (gZ l) (by decide) (fun _ _ => trivial)
    obtain ⟨A7, c7, rfl, Lu, Lv⟩ := jL AG
    unfold maxLen at Lv
    have rS := rR.out.trans (rM.mono rR.out.size)
    have vK := Lib.hid (show Below w.heap.size w w7 /\ Below w1.heap.size w1 w7 from ⟨kF.out.1.trans (rM.mono kF.out.1.size), kF.out.2.trans (rM.mono kF.out.2.size)⟩)
    have rT := Lib.hid rS
    have Dz := Lib.hid AG
    have Lx := Lib.hid (show l.length <= 1000 from by have h1 := HS.out.1; have h2 := gp xs xs.length; have h3 := HS.out.2; unfold mU at h3; rw [h3] at h2; omega)
    clear rM dB AG rS x0 x1
    go_wp2_with fail
    refine (mi w7 (fun _ => True) _ l k Dz.out Lx.out).mono ?_
    rintro e w8 ⟨rfl, rfl⟩
    obtain ⟨i, hi1, hi2⟩ := yC L4.out.1.up HQ.out
    rw [hi1]
    have hil : i < l.length := (List.getElem?_eq_some_iff.1 hi2).1
    obtain ⟨N7, Aj⟩ : ∃ x, l.length = x := ⟨_, rfl⟩
    rw [Aj] at hil Lu Dz ⊢
    obtain ⟨b7, o7, rfl, -, d0, d1, d2, d3, d4⟩ := BS Dz.out hi2
    simp only at d0 d1 d2 d3 d4
    have i1 : (0 : Int) <= (i : Int) := by omega
    have i2 : (i : Int) < (N7 : Int) := by omega
    have HD := Lib.hid (And.intro d1 (And.intro d2 (And.intro d3 d4)))
    clear hi1 hi2 Aj d0 d1 d2 d3 d4
    have hbz := ag w7 (.cells #[.int .i64 0, .int .i64 0, .int .i64 0, .int .i64 0] 25)
    have kz := heap_alloc_new w7 (.cells #[.int .i64 0, .int .i64 0, .int .i64 0, .int .i64 0] 25)
    have HZ := Lib.hid (And.intro hbz kz)
    clear hbz kz
    go_upto_region 17 with fail
    have jQ := HZ.out
    clear HZ
    generalize w7.alloc (.cells #[.int .i64 0, .int .i64 0, .int .i64 0, .int .i64 0] 25) = w9 at jQ ⊢
    obtain ⟨Z, hZ⟩ : ∃ x, w7.heap.size = x := ⟨_, rfl⟩
    obtain ⟨ml, kz⟩ := jQ
    rw [hZ] at kz ⊢
    have d1 := aa ml HD.out.1
    have d2 := aa ml HD.out.2.1
    have d3 := aa ml HD.out.2.2.1
    have d4 := aa ml HD.out.2.2.2
    have hne : ¬ b7 = Z := by have := World.block_lt_of_cell? _ _ HD.out.1; simp only at this; omega
    obtain ⟨⟨z0, z1, z2, z3⟩, q0, q1, q2, q3⟩ := bG kz
    have HZ := Lib.hid (And.intro ml (And.intro kz hZ))
    clear ml kz hZ
    go_upto_region 19 with fail
    have HO := Lib.hid (bb (v0 := .int .i64 oa) (v1 := .int .i64 ob) (v2 := .int .i64 oc) (v3 := .int .i64 od) HZ.out.2.1)
    generalize ((((w9.setCell ⟨Z, 0, none⟩ (.int .i64 oa)).setCell ⟨Z, 1, none⟩ (.int .i64 ob)).setCell ⟨Z, 2, none⟩ (.int .i64 oc)).setCell ⟨Z, 3, none⟩ (.int .i64 od)) = jH at HO ⊢
    have jf : Below w7.heap.size w7 jH := HZ.out.1.trans (HO.out.2.au HZ.out.1.size (fun k hk h => by have := HZ.out.2.2; omega))
    clear d1 d2 d3 d4 hne z0 z1 z2 z3 q0 q1 q2 q3
    obtain ⟨⟨z0, z1, z2, z3⟩, -⟩ := bG HO.out.1
    have dL := Lib.hid (show Below w.heap.size w jH /\ Below w1.heap.size w1 jH from ⟨vK.out.1.trans (jf.mono vK.out.1.size), vK.out.2.trans (jf.mono vK.out.2.size)⟩)
    have lN := rT.out.trans (jf.mono rT.out.size)
    have lO := Lib.hid lN
    clear jf lN
    have y0 := aa dL.out.2 HC.out.2.1
    have y1 := aa dL.out.2 HC.out.2.2.1
    have y2 := aa dL.out.2 HC.out.2.2.2.1
    have y3 := aa dL.out.2 HC.out.2.2.2.2.1
    have y4 := aa dL.out.2 HC.out.2.2.2.2.2
    go_wp2_with fail
    refine (Aa jH k oa ob oc od ra rb rc rd).mono ?_
    rintro e rU ⟨v11, rfl, fu, gf⟩
    rw [vJ.out.1, vJ.out.2] at fu
    obtain ⟨RM, c11, rfl, LA, AH, rV⟩ := gU fu vJ.out.2
    unfold maxLen at AH
    have kI := Lib.hid (show Below w.heap.size w rU /\ Below w1.heap.size w1 rU from ⟨dL.out.1.trans (gf.mono dL.out.1.size), dL.out.2.trans (gf.mono dL.out.2.size)⟩)
    have AJ := Lib.hid rV
    have AK := Lib.hid (show cd rU (fun _ => True) (.slice A5 M c5) LL from bE.below Lt.out (lO.out.trans (gf.mono lO.out.size)))
    clear fu gf rV z0 z1 z2 z3
    clear y0 y1 y2 y3 y4
    go_wp2_with fail
    go_loopw [19] (fun i wr => ∃ j : Nat, j <= M /\ i = .int .i64 (j : Int) /\ Below rU.heap.size rU wr) (fun i _ => M - (intOf i).toNat)
    case atStart => exact ⟨0, by omega, rfl, Below.refl _ _⟩
    case round =>
     obtain ⟨j, hj, rfl, hbr⟩ := hrel
     by_cases hlt : j < M
     ·obtain ⟨x, hx⟩ : ∃ x, LL[j]? = some x := ⟨_, List.getElem?_eq_getElem (by rw [vJ.out.2]; exact hlt)⟩
      obtain ⟨b5, o5, rfl, -, e0, e1, e2, e3, e4⟩ := cd.at_ (bE.below AK.out hbr) hx
      obtain ⟨b6, o6, rfl, -, f0, f1, f2, f3, f4⟩ := cd.at_ (bE.below AJ.out hbr) hx
      have j1 : (0 : Int) <= (j : Int) := by omega
      have j2 : (j : Int) < (M : Int) := by omega
      have heq := fun (w : World) => x9 x x w
      have hg := Tryz.nM
      have LB := Lib.hid hbr
      clear hx hbr
      obtain ⟨xw, xc, xk, xl, xh⟩ := x
      simp only at e0 e1 e2 e3 e4 f0 f1 f2 f3 f4 heq
      go_wp2_with fail
      go_quiet (fail)
      rename_i nq
      clear e0 e1 e2 e3 e4 f0 f1 f2 f3 f4 heq hg
      go_wp2_with fail
      go_roundw
      case rel => exact ⟨j + 1, by omega, by go_num, Only.au ((Only.of_below LB.out (fun _ => False)).drewN nq) (Nat.le_refl _) (fun _ _ h => h)⟩
      case measure => simp [intOf]; omega
     ·obtain rfl : j = M := by omega
      have kJ := Lib.hid (show Below w.heap.size w wr /\ Below w1.heap.size w1 wr from ⟨kI.out.1.trans (hbr.mono kI.out.1.size), kI.out.2.trans (hbr.mono kI.out.2.size)⟩)
      clear hbr
      go_wp2_with fail
      refine (ft wr (HV.out.2.2.1.below kJ.out.1) (HV.out.2.2.2.below kJ.out.1)).mono ?_
      rintro e wz ⟨rfl, hbz⟩
      have Dy := Lib.hid (show Below w.heap.size w wz from (kJ.out.1).trans (hbz.mono (kJ.out.1).size))
      clear hbz
      go_wp2_with fail
      go_ret
      exact ⟨rfl, Dy.out⟩
  ·cases hq : aI k l with
   | none =>
    have HQ := Lib.hid (show eK k [] l = none from hq)
    clear hq
    go_wp2_with fail
    refine (vq w4 B T 3 most l [] FT _ k HK.out PA.out ⟨ra, rb, rc, rd⟩ HQ.out).mono ?_
    rintro e w5 ⟨v5, rfl, bq, fx⟩
    obtain ⟨LL, AE⟩ : ∃ x, dZ k none none = x := ⟨_, rfl⟩
    rw [AE] at bq
    obtain ⟨M, hM⟩ : ∃ x, LL.length = x := ⟨_, rfl⟩
    rw [hM] at bq
    obtain ⟨A5, c5, rfl, RJ, Ls, Gf⟩ := gU bq hM
    unfold maxLen at Ls
    have gi := Lib.hid (show Below w.heap.size w w5 /\ Below w1.heap.size w1 w5 from ⟨kY.out.1.trans (fx.mono kY.out.1.size), kY.out.2.trans (fx.mono kY.out.2.size)⟩)
    have Lt := Lib.hid Gf
    have vJ := Lib.hid (And.intro AE hM)
    clear fx bq Gf AE hM
    clear y0 y1 y2 y3 y4
    have y0 := aa gi.out.2 HC.out.2.1
    have y1 := aa gi.out.2 HC.out.2.2.1
    have y2 := aa gi.out.2 HC.out.2.2.2.1
    have y3 := aa gi.out.2 HC.out.2.2.2.2.1
    have y4 := aa gi.out.2 HC.out.2.2.2.2.2
    go_wp2_with fail
    refine (eZ w5 10 k ⟨ra, rb, rc, rd⟩).mono ?_
    rintro e w6 ⟨rfl, gj⟩
    have rQ := gj
    have kF := Lib.hid (show Below w.heap.size w w6 /\ Below w1.heap.size w1 w6 from ⟨gi.out.1.trans (gj.mono gi.out.1.size), gi.out.2.trans (gj.mono gi.out.2.size)⟩)
    have rR := Lib.hid rQ
    clear gj rQ
    clear y0 y1 y2 y3 y4
    have x0 := aa kF.out.2 HC.out.1.1
    have x1 := aa kF.out.2 HC.out.1.2
    go_wp2_with fail
    refine (kH w6 F _ xs most (show oX w6 F (.slice A N c) xs from bE.below HV.out.1 kF.out.1) HS.out.1).mono ?_
    rintro e w7 ⟨v7, rfl, dB, rM⟩
    rw [HS.out.2] at dB
    have AG : bE 5 w7 (fun _ => True) v7 (l.map rH) := bE.bC dB (gZ l) (by decide) (fun _ _ => trivial)
    obtain ⟨A7, c7, rfl, Lu, Lv⟩ := jL AG
    unfold maxLen at Lv
    have rS := rR.out.trans (rM.mono rR.out.size)
    have vK := Lib.hid (show Below w.heap.size w w7 /\ Below w1.heap.size w1 w7 from ⟨kF.out.1.trans (rM.mono kF.out.1.size), kF.out.2.trans (rM.mono kF.out.2.size)⟩)
    have rT := Lib.hid rS
    have Dz := Lib.hid AG
    have Lx := Lib.hid (show l.length <= 1000 from by have h1 := HS.out.1; have h2 := gp xs xs.length; have h3 := HS.out.2; unfold mU at h3; rw [h3] at h2; omega)
    clear rM dB AG rS x0 x1
    go_wp2_with fail
    refine (mi w7 (fun _ => True) _ l k Dz.out Lx.out).mono ?_
    rintro e w8 ⟨rfl, rfl⟩
    rw [yB L4.out.1.up HQ.out]
    obtain ⟨N7, Aj⟩ : ∃ x, l.length = x := ⟨_, rfl⟩
    rw [Aj] at Lu Dz ⊢
    clear Aj
    have hbz := ag w7 (.cells #[.int .i64 0, .int .i64 0, .int .i64 0, .int .i64 0] 25)
    have kz := heap_alloc_new w7 (.cells #[.int .i64 0, .int .i64 0, .int .i64 0, .int .i64 0] 25)
    have HZ := Lib.hid (And.intro hbz kz)
    clear hbz kz
    go_upto_region 17 with fail
    have jQ := HZ.out
    clear HZ
    generalize w7.alloc (.cells #[.int .i64 0, .int .i64 0, .int .i64 0, .int .i64 0] 25) = w9 at jQ ⊢
    obtain ⟨Z, hZ⟩ : ∃ x, w7.heap.size = x := ⟨_, rfl⟩
    obtain ⟨ml, kz⟩ := jQ
    rw [hZ] at kz ⊢
    go_upto_region 19 with fail
    obtain ⟨jH, Gg⟩ : ∃ x, x = w9 := ⟨_, rfl⟩
    rw [<- Gg] at ml kz ⊢
    have jf : Below w7.heap.size w7 jH := ml
    obtain ⟨⟨z0, z1, z2, z3⟩, -⟩ := bG kz
    clear ml kz hZ Gg
    have dL := Lib.hid (show Below w.heap.size w jH /\ Below w1.heap.size w1 jH from ⟨vK.out.1.trans (jf.mono vK.out.1.size), vK.out.2.trans (jf.mono vK.out.2.size)⟩)
    have lN := rT.out.trans (jf.mono rT.out.size)
    have lO := Lib.hid lN
    clear jf lN
    have y0 := aa dL.out.2 HC.out.2.1
    have y1 := aa dL.out.2 HC.out.2.2.1
    have y2 := aa dL.out.2 HC.out.2.2.2.1
    have y3 := aa dL.out.2 HC.out.2.2.2.2.1
    have y4 := aa dL.out.2 HC.out.2.2.2.2.2
    go_wp2_with fail
    refine (Ab jH k 0 0 0 0 ra rb rc rd).mono ?_
    rintro e rU ⟨v11, rfl, fu, gf⟩
    rw [vJ.out.1, vJ.out.2] at fu
    obtain ⟨RM, c11, rfl, LA, AH, rV⟩ := gU fu vJ.out.2
    unfold maxLen at AH
    have kI := Lib.hid (show Below w.heap.size w rU /\ Below w1.heap.size w1 rU from ⟨dL.out.1.trans (gf.mono dL.out.1.size), dL.out.2.trans (gf.mono dL.out.2.size)⟩)
    have AJ := Lib.hid rV
    have AK := Lib.hid (show cd rU (fun _ => True) (.slice A5 M c5) LL from bE.below Lt.out (lO.out.trans (gf.mono lO.out.size)))
    clear fu gf rV z0 z1 z2 z3
    clear y0 y1 y2 y3 y4
    go_wp2_with fail
    go_loopw [19] (fun i wr => ∃ j : Nat, j <= M /\ i = .int .i64 (j : Int) /\ Below rU.heap.size rU wr) (fun i _ => M - (intOf i).toNat)
    case atStart => exact ⟨0, by omega, rfl, Below.refl _ _⟩
    case round =>
     obtain ⟨j, hj, rfl, hbr⟩ := hrel
     by_cases hlt : j < M
     ·obtain ⟨x, hx⟩ : ∃ x, LL[j]? = some x := ⟨_, List.getElem?_eq_getElem (by rw [vJ.out.2]; exact hlt)⟩
      obtain ⟨b5, o5, rfl, -, e0, e1, e2, e3, e4⟩ := cd.at_ (bE.below AK.out hbr) hx
      obtain ⟨b6, o6, rfl, -, f0, f1, f2, f3, f4⟩ := cd.at_ (bE.below AJ.out hbr) hx
      have j1 : (0 : Int) <= (j : Int) := by omega
      have j2 : (j : Int) < (M : Int) := by omega
      have heq := fun (w : World) => x9 x x w
      have hg := Tryz.nM
      have LB := Lib.hid hbr
      clear hx hbr
      obtain ⟨xw, xc, xk, xl, xh⟩ := x
      simp only at e0 e1 e2 e3 e4 f0 f1 f2 f3 f4 heq
      go_wp2_with fail
      go_quiet (fail)
      rename_i nq
      clear e0 e1 e2 e3 e4 f0 f1 f2 f3 f4 heq hg
      go_wp2_with fail
      go_roundw
      case rel => exact ⟨j + 1, by omega, by go_num, Only.au ((Only.of_below LB.out (fun _ => False)).drewN nq) (Nat.le_refl _) (fun _ _ h => h)⟩
      case measure => simp [intOf]; omega
     ·obtain rfl : j = M := by omega
      have kJ := Lib.hid (show Below w.heap.size w wr /\ Below w1.heap.size w1 wr from ⟨kI.out.1.trans (hbr.mono kI.out.1.size), kI.out.2.trans (hbr.mono kI.out.2.size)⟩)
      clear hbr
      go_wp2_with fail
      refine (ft wr (HV.out.2.2.1.below kJ.out.1) (HV.out.2.2.2.below kJ.out.1)).mono ?_
      rintro e wz ⟨rfl, hbz⟩
      have Dy := Lib.hid (show Below w.heap.size w wz from (kJ.out.1).trans (hbz.mono (kJ.out.1).size))
      clear hbz
      go_wp2_with fail
      go_ret
      exact ⟨rfl, Dy.out⟩
   | some old =>
    obtain ⟨oa, ob, oc, od⟩ := old
    have HQ := Lib.hid (show eK k [] l = some ⟨oa, ob, oc, od⟩ from hq)
    clear hq
    go_wp2_with fail
    refine (vg w4 B T 3 most l [] FT _ k HK.out PA.out ⟨oa, ob, oc, od⟩ ⟨ra, rb, rc, rd⟩ HQ.out).mono ?_
    rintro e w5 ⟨v5, rfl, bq, fx⟩
    obtain ⟨LL, AE⟩ : ∃ x, dZ k (some ⟨oa, ob, oc, od⟩) none = x := ⟨_, rfl⟩
    rw [AE] at bq
    obtain ⟨M, hM⟩ : ∃ x, LL.length = x := ⟨_, rfl⟩
    rw [hM] at bq
    obtain ⟨A5, c5, rfl, RJ, Ls, Gf⟩ := gU bq hM
    unfold maxLen at Ls
    have gi := Lib.hid (show Below w.heap.size w w5 /\ Below w1.heap.size w1 w5 from ⟨kY.out.1.trans (fx.mono kY.out.1.size), kY.out.2.trans (fx.mono kY.out.2.size)⟩)
    have Lt := Lib.hid Gf
    have vJ := Lib.hid (And.intro AE hM)
    clear fx bq Gf AE hM
    clear y0 y1 y2 y3 y4
    have y0 := aa gi.out.2 HC.out.2.1
    have y1 := aa gi.out.2 HC.out.2.2.1
    have y2 := aa gi.out.2 HC.out.2.2.2.1
    have y3 := aa gi.out.2 HC.out.2.2.2.2.1
    have y4 := aa gi.out.2 HC.out.2.2.2.2.2
    go_wp2_with fail
    refine (eZ w5 10 k ⟨ra, rb, rc, rd⟩).mono ?_
    rintro e w6 ⟨rfl, gj⟩
    have rQ := gj
    have kF := Lib.hid (show Below w.heap.size w w6 /\ Below w1.heap.size w1 w6 from ⟨gi.out.1.trans (gj.mono gi.out.1.size), gi.out.2.trans (gj.mono gi.out.2.size)⟩)
    have rR := Lib.hid rQ
    clear gj rQ
    clear y0 y1 y2 y3 y4
    have x0 := aa kF.out.2 HC.out.1.1
    have x1 := aa kF.out.2 HC.out.1.2
    go_wp2_with fail
    refine (kH w6 F _ xs most (show oX w6 F (.slice A N c) xs from bE.below HV.out.1 kF.out.1) HS.out.1).mono ?_
    rintro e w7 ⟨v7, rfl, dB, rM⟩
    rw [HS.out.2] at dB
    have AG : bE 5 w7 (fun _ => True) v7 (l.map rH) := bE.bC dB (gZ l) (by decide) (fun _ _ => trivial)
    obtain ⟨A7, c7, rfl, Lu, Lv⟩ := jL AG
    unfold maxLen at Lv
    have rS := rR.out.trans (rM.mono rR.out.size)
    have vK := Lib.hid (show Below w.heap.size w w7 /\ Below w1.heap.size w1 w7 from ⟨kF.out.1.trans (rM.mono kF.out.1.size), kF.out.2.trans (rM.mono kF.out.2.size)⟩)
    have rT := Lib.hid rS
    have Dz := Lib.hid AG
    have Lx := Lib.hid (show l.length <= 1000 from by have h1 := HS.out.1; have h2 := gp xs xs.length; have h3 := HS.out.2; unfold mU at h3; rw [h3] at h2; omega)
    clear rM dB AG rS x0 x1
    go_wp2_with fail
    refine (mi w7 (fun _ => True) _ l k Dz.out Lx.out).mono ?_
    rintro e w8 ⟨rfl, rfl⟩
    obtain ⟨i, hi1, hi2⟩ := yC L4.out.1.up HQ.out
    rw [hi1]
    have hil : i < l.length := (List.getElem?_eq_some_iff.1 hi2).1
    obtain ⟨N7, Aj⟩ : ∃ x, l.length = x := ⟨_, rfl⟩
    rw [Aj] at hil Lu Dz ⊢
    obtain ⟨b7, o7, rfl, -, d0, d1, d2, d3, d4⟩ := BS Dz.out hi2
    simp only at d0 d1 d2 d3 d4
    have i1 : (0 : Int) <= (i : Int) := by omega
    have i2 : (i : Int) < (N7 : Int) := by omega
    have HD := Lib.hid (And.intro d1 (And.intro d2 (And.intro d3 d4)))
    clear hi1 hi2 Aj d0 d1 d2 d3 d4
    have hbz := ag w7 (.cells #[.int .i64 0, .int .i64 0, .int .i64 0, .int .i64 0] 25)
    have kz := heap_alloc_new w7 (.cells #[.int .i64 0, .int .i64 0, .int .i64 0, .int .i64 0] 25)
    have HZ := Lib.hid (And.intro hbz kz)
    clear hbz kz
    go_upto_region 17 with fail
    have jQ := HZ.out
    clear HZ
    generalize w7.alloc (.cells #[.int .i64 0, .int .i64 0, .int .i64 0, .int .i64 0] 25) = w9 at jQ ⊢
    obtain ⟨Z, hZ⟩ : ∃ x, w7.heap.size = x := ⟨_, rfl⟩
    obtain ⟨ml, kz⟩ := jQ
    rw [hZ] at kz ⊢
    have d1 := aa ml HD.out.1
    have d2 := aa ml HD.out.2.1
    have d3 := aa ml HD.out.2.2.1
    have d4 := aa ml HD.out.2.2.2
    have hne : ¬ b7 = Z := by have := World.block_lt_of_cell? _ _ HD.out.1; simp only at this; omega
    obtain ⟨⟨z0, z1, z2, z3⟩, q0, q1, q2, q3⟩ := bG kz
    have HZ := Lib.hid (And.intro ml (And.intro kz hZ))
    clear ml kz hZ
    go_upto_region 19 with fail
    have HO := Lib.hid (bb (v0 := .int .i64 oa) (v1 := .int .i64 ob) (v2 := .int .i64 oc) (v3 := .int .i64 od) HZ.out.2.1)
    generalize ((((w9.setCell ⟨Z, 0, none⟩ (.int .i64 oa)).setCell ⟨Z, 1, none⟩ (.int .i64 ob)).setCell ⟨Z, 2, none⟩ (.int .i64 oc)).setCell ⟨Z, 3, none⟩ (.int .i64 od)) = jH at HO ⊢
    have jf : Below w7.heap.size w7 jH := HZ.out.1.trans (HO.out.2.au HZ.out.1.size (fun k hk h => by have := HZ.out.2.2; omega))
    clear d1 d2 d3 d4 hne z0 z1 z2 z3 q0 q1 q2 q3
    obtain ⟨⟨z0, z1, z2, z3⟩, -⟩ := bG HO.out.1
    have dL := Lib.hid (show Below w.heap.size w jH /\ Below w1.heap.size w1 jH from ⟨vK.out.1.trans (jf.mono vK.out.1.size), vK.out.2.trans (jf.mono vK.out.2.size)⟩)
    have lN := rT.out.trans (jf.mono rT.out.size)
    have lO := Lib.hid lN
    clear jf lN
    have y0 := aa dL.out.2 HC.out.2.1
    have y1 := aa dL.out.2 HC.out.2.2.1
    have y2 := aa dL.out.2 HC.out.2.2.2.1
    have y3 := aa dL.out.2 HC.out.2.2.2.2.1
    have y4 := aa dL.out.2 HC.out.2.2.2.2.2
    go_wp2_with fail
    refine (zY jH k oa ob oc od ra rb rc rd).mono ?_
    rintro e rU ⟨v11, rfl, fu, gf⟩
    rw [vJ.out.1, vJ.out.2] at fu
    obtain ⟨RM, c11, rfl, LA, AH, rV⟩ := gU fu vJ.out.2
    unfold maxLen at AH
    have kI := Lib.hid (show Below w.heap.size w rU /\ Below w1.heap.size w1 rU from ⟨dL.out.1.trans (gf.mono dL.out.1.size), dL.out.2.trans (gf.mono dL.out.2.size)⟩)
    have AJ := Lib.hid rV
    have AK := Lib.hid (show cd rU (fun _ => True) (.slice A5 M c5) LL from bE.below Lt.out (lO.out.trans (gf.mono lO.out.size)))
    clear fu gf rV z0 z1 z2 z3
    clear y0 y1 y2 y3 y4
    go_wp2_with fail
    go_loopw [19] (fun i wr => ∃ j : Nat, j <= M /\ i = .int .i64 (j : Int) /\ Below rU.heap.size rU wr) (fun i _ => M - (intOf i).toNat)
    case atStart => exact ⟨0, by omega, rfl, Below.refl _ _⟩
    case round =>
     obtain ⟨j, hj, rfl, hbr⟩ := hrel
     by_cases hlt : j < M
     ·obtain ⟨x, hx⟩ : ∃ x, LL[j]? = some x := ⟨_, List.getElem?_eq_getElem (by rw [vJ.out.2]; exact hlt)⟩
      obtain ⟨b5, o5, rfl, -, e0, e1, e2, e3, e4⟩ := cd.at_ (bE.below AK.out hbr) hx
      obtain ⟨b6, o6, rfl, -, f0, f1, f2, f3, f4⟩ := cd.at_ (bE.below AJ.out hbr) hx
      have j1 : (0 : Int) <= (j : Int) := by omega
      have j2 : (j : Int) < (M : Int) := by omega
      have heq := fun (w : World) => x9 x x w
      have hg := Tryz.nM
      have LB := Lib.hid hbr
      clear hx hbr
      obtain ⟨xw, xc, xk, xl, xh⟩ := x
      simp only at e0 e1 e2 e3 e4 f0 f1 f2 f3 f4 heq
      go_wp2_with fail
      go_quiet (fail)
      rename_i nq
      clear e0 e1 e2 e3 e4 f0 f1 f2 f3 f4 heq hg
      go_wp2_with fail
      go_roundw
      case rel => exact ⟨j + 1, by omega, by go_num, Only.au ((Only.of_below LB.out (fun _ => False)).drewN nq) (Nat.le_refl _) (fun _ _ h => h)⟩
      case measure => simp [intOf]; omega
     ·obtain rfl : j = M := by omega
      have kJ := Lib.hid (show Below w.heap.size w wr /\ Below w1.heap.size w1 wr from ⟨kI.out.1.trans (hbr.mono kI.out.1.size), kI.out.2.trans (hbr.mono kI.out.2.size)⟩)
      clear hbr
      go_wp2_with fail
      refine (ft wr (HV.out.2.2.1.below kJ.out.1) (HV.out.2.2.2.below kJ.out.1)).mono ?_
      rintro e wz ⟨rfl, hbz⟩
      have Dy := Lib.hid (show Below w.heap.size w wz from (kJ.out.1).trans (hbz.mono (kJ.out.1).size))
      clear hbz
      go_wp2_with fail
      go_ret
      exact ⟨rfl, Dy.out⟩
end Go.Proofs.YtagemonojdgbdaaGreatDoor
