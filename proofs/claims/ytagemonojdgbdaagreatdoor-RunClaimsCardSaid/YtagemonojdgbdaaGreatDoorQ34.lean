import Derived.Test.YtagemonojdgbdaaGreatDoorQ31
namespace Go.Proofs.YtagemonojdgbdaaGreatDoor
set_option maxRecDepth 100000
open Go.RowKit
def vR (w : World) (X R Y : Nat) (old now : Rw) (p q : Bool) (v : Value) (l : List Cl) (wr : World) : Prop :=
 wr.ownsRow w.heap.size 48 5 v l.length (sH l) /\ (∀ g, v.ownBlock = some g -> g ≠ X /\ g ≠ R /\ g ≠ Y) /\ Below w.heap.size w wr /\ wr.heap[X]? = some (.cells #[.int .i64 old.a, .int .i64 old.b, .int .i64 old.c, .int .i64 old.d] 25 (0, 0)) /\
  wr.heap[R]? = some (.cells #[.int .i64 now.a, .int .i64 now.b, .int .i64 now.c, .int .i64 now.d] 25 (0, 0)) /\ wr.heap[Y]? = some (.cells #[.bool p, .bool q] 46 (0, 0))
section
variable {w wr w1 w2 : World} {X R Y Z : Nat} {old now : Rw} {p q : Bool} {v v' : Value} {l : List Cl} {x : Cl}
theorem vR.still (h : vR w X R Y old now p q v l wr) (hb : Below wr.heap.size wr w1) : vR w X R Y old now p q v l w1 := by
 obtain ⟨h1, h2, h3, h4, h5, h6⟩ := h
 exact ⟨aC h1 hb, h2, h3.trans (hb.mono h3.size), (Only.of_below hb (fun _ => False)).heap h4 (fun h => h), (Only.of_below hb (fun _ => False)).heap h5 (fun h => h), (Only.of_below hb (fun _ => False)).heap h6 (fun h => h)⟩
theorem vR.more (h : vR w X R Y old now p q v l wr) (hb : Below wr.heap.size wr w1) (hown : w2.ownsRow w.heap.size 48 5 v' (l.length + 1) (sH l ++ ([x].map Cl.cells).flatten))
  (hg : w1.grownBy w2 v.ownBlock) (hat : v'.ownBlock = v.ownBlock \/ v'.ownBlock = some Z) (hZ : w1.heap.size <= Z) : vR w X R Y old now p q v' (l ++ [x]) w2 := by
 obtain ⟨h1, h2, h3, h4, h5, h6⟩ := h
 have k4 := (Only.of_below hb (fun _ => False)).heap h4 (fun h => h)
 have k5 := (Only.of_below hb (fun _ => False)).heap h5 (fun h => h)
 have k6 := (Only.of_below hb (fun _ => False)).heap h6 (fun h => h)
 have ho := Only.of_grownBy hg
 refine ⟨by rw [BR, List.length_append]; exact hown, fun g yH => ?_, (h3.trans (hb.mono h3.size)).trans (ho.au (Nat.le_trans h3.size hb.size) (fun k hk e => ?_)), ho.heap k4 (fun e => (h2 X e).1 rfl), ho.heap k5 (fun e => (h2 R e).2.1 rfl), ho.heap k6 (fun e => (h2 Y e).2.2 rfl)⟩
 ·rcases hat with e | e
  ·exact h2 g (by rw [<- e]; exact yH)
  ·rw [yH] at e
   injection e with e
   have := aJ k4
   have := aJ k5
   have := aJ k6
   exact ⟨by omega, by omega, by omega⟩
 ·have := (h1.lt k e).1
  omega
theorem cY {_cs : Array Value} {t : TypeId} (h : w.heap[Y]? = some (.cells #[.bool p, .bool q] t (0, 0))) : w.cell? ⟨Y, 0, none⟩ = some (.bool p) /\ w.cell? ⟨Y, 1, none⟩ = some (.bool q) := by simp [World.cell?, h]
end
set_option maxHeartbeats 4000000 in
theorem zY (w : World) (k : List UInt8) (oa ob oc od na nb nc nd : Int) : Calls Tryz.prog 13 #[.string ⟨k.toArray⟩, .agg #[.int .i64 oa, .int .i64 ob, .int .i64 oc, .int .i64 od], .agg #[.int .i64 na, .int .i64 nb, .int .i64 nc, .int .i64 nd], .agg #[.bool true, .bool false]] w fun e w' =>
  ∃ v, e = .returned v /\ w'.ownsRow w.heap.size 48 5 v (dZ k (some ⟨oa, ob, oc, od⟩) none).length (sH (dZ k (some ⟨oa, ob, oc, od⟩) none)) /\ Below w.heap.size w w' := by
 obtain ⟨i0, hi, hz0, hz1, hz2⟩ := info_parts Tryz.fZ
 have HI := Lib.hid hi
 clear hi
 have hb1 := ag w (.cells #[.int .i64 oa, .int .i64 ob, .int .i64 oc, .int .i64 od] 25)
 have k1 := heap_alloc_new w (.cells #[.int .i64 oa, .int .i64 ob, .int .i64 oc, .int .i64 od] 25)
 have hb2 := ag (w.alloc (.cells #[.int .i64 oa, .int .i64 ob, .int .i64 oc, .int .i64 od] 25)) (.cells #[.int .i64 na, .int .i64 nb, .int .i64 nc, .int .i64 nd] 25)
 have k2 := heap_alloc_new (w.alloc (.cells #[.int .i64 oa, .int .i64 ob, .int .i64 oc, .int .i64 od] 25)) (.cells #[.int .i64 na, .int .i64 nb, .int .i64 nc, .int .i64 nd] 25)
 have hb3 := ag ((w.alloc (.cells #[.int .i64 oa, .int .i64 ob, .int .i64 oc, .int .i64 od] 25)).alloc (.cells #[.int .i64 na, .int .i64 nb, .int .i64 nc, .int .i64 nd] 25)) (.cells #[.bool true, .bool false] 46)
 have k3 := heap_alloc_new ((w.alloc (.cells #[.int .i64 oa, .int .i64 ob, .int .i64 oc, .int .i64 od] 25)).alloc (.cells #[.int .i64 na, .int .i64 nb, .int .i64 nc, .int .i64 nd] 25)) (.cells #[.bool true, .bool false] 46)
 have hs1 : (w.alloc (.cells #[.int .i64 oa, .int .i64 ob, .int .i64 oc, .int .i64 od] 25)).heap.size = w.heap.size + 1 := by simp
 have hs2 : ((w.alloc (.cells #[.int .i64 oa, .int .i64 ob, .int .i64 oc, .int .i64 od] 25)).alloc (.cells #[.int .i64 na, .int .i64 nb, .int .i64 nc, .int .i64 nd] 25)).heap.size = w.heap.size + 1 + 1 := by simp
 rw [hs1] at k2
 rw [hs2] at k3
 have H0 := Lib.hid (show Below w.heap.size w (((w.alloc (.cells #[.int .i64 oa, .int .i64 ob, .int .i64 oc, .int .i64 od] 25)).alloc (.cells #[.int .i64 na, .int .i64 nb, .int .i64 nc, .int .i64 nd] 25)).alloc (.cells #[.bool true, .bool false] 46)) /\ (((w.alloc (.cells #[.int .i64 oa, .int .i64 ob, .int .i64 oc, .int .i64 od] 25)).alloc (.cells #[.int .i64 na, .int .i64 nb, .int .i64 nc, .int .i64 nd] 25)).alloc (.cells #[.bool true, .bool false] 46)).heap[w.heap.size]? = some (.cells #[.int .i64 oa, .int .i64 ob, .int .i64 oc, .int .i64 od] 25 (0, 0)) /\ (((w.alloc (.cells #[.int .i64 oa, .int .i64 ob, .int .i64 oc, .int .i64 od] 25)).alloc (.cells #[.int .i64 na, .int .i64 nb, .int .i64 nc, .int .i64 nd] 25)).alloc (.cells #[.bool true, .bool false] 46)).heap[w.heap.size + 1]? = some (.cells #[.int .i64 na, .int .i64 nb, .int .i64 nc, .int .i64 nd] 25 (0, 0)) /\ (((w.alloc (.cells #[.int .i64 oa, .int .i64 ob, .int .i64 oc, .int .i64 od] 25)).alloc (.cells #[.int .i64 na, .int .i64 nb, .int .i64 nc, .int .i64 nd] 25)).alloc (.cells #[.bool true, .bool false] 46)).heap[w.heap.size + 1 + 1]? = some (.cells #[.bool true, .bool false] 46 (0, 0)) from
  ⟨(hb1.trans (hb2.mono hb1.size)).trans (hb3.mono (Nat.le_trans hb1.size hb2.size)), (Only.of_below (hb2.trans (hb3.mono hb2.size)) (fun _ => False)).heap k1 (fun h => h), (Only.of_below hb3 (fun _ => False)).heap k2 (fun h => h), k3⟩)
 clear hb1 k1 hb2 k2 hb3 k3 hs1 hs2
 go_enter Tryz.func13, Tryz.ntmps13
 go_upto_region 1 with fail
 have H1 := H0.out
 clear H0
 generalize ((w.alloc (.cells #[.int .i64 oa, .int .i64 ob, .int .i64 oc, .int .i64 od] 25)).alloc (.cells #[.int .i64 na, .int .i64 nb, .int .i64 nc, .int .i64 nd] 25)).alloc (.cells #[.bool true, .bool false] 46) = w3 at H1 ⊢
 obtain ⟨X, hX⟩ : ∃ x, w.heap.size = x := ⟨_, rfl⟩
 rw [hX] at H1 ⊢
 obtain ⟨R, hR⟩ : ∃ x, X + 1 = x := ⟨_, rfl⟩
 obtain ⟨Y, hY⟩ : ∃ x, R + 1 = x := ⟨_, rfl⟩
 rw [hR, hY] at H1 ⊢
 rw [<- hX] at H1
 have HX := Lib.hid (show Below w.heap.size w w3 /\ w3.heap[X]? = some (.cells #[.int .i64 oa, .int .i64 ob, .int .i64 oc, .int .i64 od] 25 (0, 0)) /\ w3.heap[R]? = some (.cells #[.int .i64 na, .int .i64 nb, .int .i64 nc, .int .i64 nd] 25 (0, 0)) /\ w3.heap[Y]? = some (.cells #[.bool true, .bool false] 46 (0, 0)) from by rw [hX] at H1; rw [hX]; exact H1)
 clear H1 hX hR hY
 have hby := ag w3 (.cells #[.bool true, .int .i64 (-1), .string ⟨k.toArray⟩, .int .i64 0, .int .i64 0] 48)
 have ky := heap_alloc_new w3 (.cells #[.bool true, .int .i64 (-1), .string ⟨k.toArray⟩, .int .i64 0, .int .i64 0] 48)
 have hs3 : w.heap.size <= w3.heap.size := HX.out.1.size
 have jy := Lib.hid (show vR w X R Y ⟨oa, ob, oc, od⟩ ⟨na, nb, nc, nd⟩ true false (.slice (some ⟨w3.heap.size, 0, none⟩) 1 1) [⟨true, -1, k, 0, 0⟩] (w3.alloc (.cells #[.bool true, .int .i64 (-1), .string ⟨k.toArray⟩, .int .i64 0, .int .i64 0] 48)) from by
  have g4 := (Only.of_below hby (fun _ => False)).heap HX.out.2.1 (fun h => h)
  have g5 := (Only.of_below hby (fun _ => False)).heap HX.out.2.2.1 (fun h => h)
  have g6 := (Only.of_below hby (fun _ => False)).heap HX.out.2.2.2 (fun h => h)
  have l4 := aJ HX.out.2.1
  have l5 := aJ HX.out.2.2.1
  have l6 := aJ HX.out.2.2.2
  exact ⟨iD (x := ⟨true, -1, k, 0, 0⟩) ky hs3, fun g hg => by have hg2 : some w3.heap.size = some g := hg; injection hg2 with hg2; exact ⟨by omega, by omega, by omega⟩, HX.out.1.trans (hby.mono hs3), g4, g5, g6⟩)
 clear hby ky
 go_upto_region 2 with fail
 obtain ⟨w4, hw4⟩ : ∃ x, w3.alloc (.cells #[.bool true, .int .i64 (-1), .string ⟨k.toArray⟩, .int .i64 0, .int .i64 0] 48) = x := ⟨_, rfl⟩
 rw [hw4] at jy ⊢
 obtain ⟨v4, hv4⟩ : ∃ x, Value.slice (some (⟨w3.heap.size, 0, none⟩ : Addr)) 1 1 = x := ⟨_, rfl⟩
 rw [hv4] at jy ⊢
 have H4 := Lib.hid jy.out
 clear jy hw4 hv4
 have KS := H4
 obtain ⟨t0, t1⟩ := cY (_cs := #[]) H4.out.2.2.2.2.2
 have hbz := ag w4 (.cells #[.bool true, .int .i64 (-1), .string ⟨#[35]⟩, .int .i64 0, .int .i64 0] 48)
 have kz := heap_alloc_new w4 (.cells #[.bool true, .int .i64 (-1), .string ⟨#[35]⟩, .int .i64 0, .int .i64 0] 48)
 have HZ := Lib.hid (And.intro hbz (And.intro (gY (x := ⟨true, -1, [35], 0, 0⟩) kz) (aC H4.out.1 hbz)))
 clear hbz kz
 go_upto_region 4 with (at_builtin; go_loud (refine aH _ rfl _ _ 37 rfl w.heap.size 48 i0 _ 5 48 Tryz.underlying37 HI.out hz0 hz1 hz2 rfl (by decide) v4 1 (sH [⟨true, -1, k, 0, 0⟩]) rfl HZ.out.2.2 (fun _ => True) (.slice (some ⟨w4.heap.size, 0, none⟩) 1 1) ([⟨true, -1, [35], 0, 0⟩].map Cl.cells) rfl HZ.out.2.1 (bI _) (eQ _) (by decide) (by decide) (by have := H4.out.2.2.1.size; have := HZ.out.1.size; omega) ?_); intro v5 w5 bq cK lH)
 have H5 := Lib.hid (H4.out.more HZ.out.1 bq cK lH (Nat.le_refl _))
 clear bq cK lH t0 t1 H4 KS
 have HS := Lib.hid (show vR w X R Y ⟨oa, ob, oc, od⟩ ⟨na, nb, nc, nd⟩ true false _ (aL k (some ⟨oa, ob, oc, od⟩) none 0) w5 from H5.out)
 clear H5
 go_wp2_with fail
 go_loopw [9, 10] (fun v i wr => ∃ c : Nat, c <= 4 /\ i = .int .i64 (c : Int) /\ vR w X R Y ⟨oa, ob, oc, od⟩ ⟨na, nb, nc, nd⟩ true false v (aL k (some ⟨oa, ob, oc, od⟩) none c) wr) (fun _ i _ => 4 - (intOf i).toNat)
 case atStart => exact ⟨0, by decide, rfl, HS.out⟩
 case round =>
  obtain ⟨c, hc, rfl, gS⟩ := hrel
  have hlen := dI k (some ⟨oa, ob, oc, od⟩) none c
  have HW := Lib.hid (And.intro gS hlen)
  by_cases hlt : c < 4
  ·have i1 : (0 : Int) <= (c : Int) := by omega
   have i2 : (c : Int) < 4 := by omega
   have z0 := aF (r := ⟨oa, ob, oc, od⟩) gS.2.2.2.1 hlt
   have y0 := aF (r := ⟨na, nb, nc, nd⟩) gS.2.2.2.2.1 hlt
   obtain ⟨t0, t1⟩ := cY (_cs := #[]) gS.2.2.2.2.2
   obtain ⟨x, hx⟩ : ∃ x, Rw.aG ⟨oa, ob, oc, od⟩ c = x := ⟨_, rfl⟩
   obtain ⟨y, hy⟩ : ∃ y, Rw.aG ⟨na, nb, nc, nd⟩ c = y := ⟨_, rfl⟩
   rw [hx] at z0
   rw [hy] at y0
   have HV := Lib.hid (And.intro hx hy)
   clear gS hlen
   clear hx hy
   go_wp2_with fail
   go_quiet (fail)
   rename_i nq
   clear z0 y0 t0 t1
   have HA := Lib.hid (HW.out.1.still (show Below wr.heap.size wr (wr.drewN nq) from Only.au ((Only.refl (fun _ => False) wr).drewN nq) (Nat.le_refl _) (fun _ _ h => h)))
   generalize wr.drewN nq = wa at HA ⊢
   obtain ⟨t0, t1⟩ := cY (_cs := #[]) HA.out.2.2.2.2.2
   go_upto_region 9 with fail
   have HD := Lib.hid (HA.out.still (show Below wa.heap.size wa wa.drew from (Below.refl _ _).drew))
   refine wp_region_held_drew (S := (fun W => W.heap[X]? = some (.cells #[.int .i64 oa, .int .i64 ob, .int .i64 oc, .int .i64 od] 25 (0, 0)) /\ W.heap[R]? = some (.cells #[.int .i64 na, .int .i64 nb, .int .i64 nc, .int .i64 nd] 25 (0, 0)) /\ W.heap[Y]? = some (.cells #[.bool true, .bool false] 46 (0, 0)))) (by kernel_rfl) ⟨HA.out.2.2.2.1, HA.out.2.2.2.2.1, HA.out.2.2.2.2.2⟩ (fun hHeld => ?_)
   generalize wa.drew = wd at HD hHeld ⊢
   refine aO [0, 1, 2, 3] ?_
   iterate 4 (refine cI (v := ?_) (fun wS hSw => ?_) hHeld ?_; rotate_left; (obtain ⟨s0, s1, s2⟩ := hSw; go_simp; try with_reducible rfl); try simp only [av, ax, ay, az])
   refine aP ?_
   refine fL 4 (v := ?_) (fun wS hSw => ?_) hHeld ?_
   rotate_left
   ·obtain ⟨s0, s1, s2⟩ := hSw; have q0 := aF (r := ⟨oa, ob, oc, od⟩) s0 hlt; rw [HV.out.1] at q0; go_simp; try with_reducible rfl
   try simp only [av, ax, ay, az]
   refine aO [5, 6] ?_
   iterate 2 (refine cI (v := ?_) (fun wS hSw => ?_) hHeld ?_; rotate_left; (obtain ⟨s0, s1, s2⟩ := hSw; go_simp; try with_reducible rfl); try simp only [av, ax, ay, az])
   refine aP ?_
   refine fL 7 (v := ?_) (fun wS hSw => ?_) hHeld ?_
   rotate_left
   ·obtain ⟨s0, s1, s2⟩ := hSw; have q0 := aF (r := ⟨oa, ob, oc, od⟩) s0 hlt; rw [HV.out.1] at q0; go_simp; try with_reducible rfl
   try simp only [av, ax, ay, az]
   refine fL 8 (v := ?_) (fun wS hSw => ?_) hHeld ?_
   rotate_left
   ·obtain ⟨s0, s1, s2⟩ := hSw; go_simp; try with_reducible rfl
   try simp only [av, ax, ay, az]
   refine bg 9 (fun K hK => ?_)
   go_simp
   refine hK.out _ _ (⟨(Only.of_below (ag _ _) (fun _ => False)).heap hHeld.1 (fun h => h), (Only.of_below (ag _ _) (fun _ => False)).heap hHeld.2.1 (fun h => h), (Only.of_below (ag _ _) (fun _ => False)).heap hHeld.2.2 (fun h => h)⟩) (fun ae => ?_)
   clear hK K hHeld 
   have hHeld := ae
   clear ae
   try simp only [av, ax, ay, az]
   have dU := ag wd (.cells #[.bool true, .int .i64 (c : Int), .string ⟨#[]⟩, .int .i64 x, .int .i64 x] 48)
   have HN := Lib.hid (And.intro dU (And.intro (gY (x := ⟨true, (c : Int), [], x, x⟩) (heap_alloc_new wd (.cells #[.bool true, .int .i64 (c : Int), .string ⟨#[]⟩, .int .i64 x, .int .i64 x] 48))) (aC HD.out.1 dU)))
   clear dU
   refine bg 10 (fun K hK => ?_)
   refine gQ rfl _ _ 37 rfl w.heap.size 48 i0 _ 5 48 Tryz.underlying37 HI.out hz0 hz1 hz2 rfl (by decide) _ _ _ rfl HN.out.2.2 (fun _ => True) (.slice (some ⟨wd.heap.size, 0, none⟩) 1 1) ([⟨true, (c : Int), [], x, x⟩].map Cl.cells) rfl HN.out.2.1 (bI _) (eQ _) (by have := HW.out.2; simp; omega) (by have := HW.out.2; simp [maxLen]; omega) (by have := HD.out.2.2.1.size; have := HN.out.1.size; omega) ?_
   intro v6 w6 fA iX lD
   have pE := Lib.hid (HD.out.more (x := ⟨true, (c : Int), [], x, x⟩) HN.out.1 fA iX lD (Nat.le_refl _))
   clear fA iX lD HN HD
   refine hK.out _ _ (⟨pE.out.2.2.2.1, pE.out.2.2.2.2.1, pE.out.2.2.2.2.2⟩) (fun ae => ?_)
   clear hK K hHeld 
   have hHeld := ae
   clear ae
   try simp only [av, ax, ay, az]
   refine fL 11 (v := ?_) (fun wS hSw => ?_) hHeld ?_
   rotate_left
   ·obtain ⟨s0, s1, s2⟩ := hSw; go_simp; try with_reducible rfl
   try simp only [av, ax, ay, az]
   refine wpAnyH_done (by kernel_rfl) ?_ _
   clear hHeld
   clear t0 t1
   obtain ⟨t0, t1⟩ := cY (_cs := #[]) pE.out.2.2.2.2.2
   go_wp2_with fail
   go_roundw
   case rel =>
    refine ⟨c + 1, by omega, by go_num, ?_⟩
    have e : aL k (some ⟨oa, ob, oc, od⟩) none (c + 1) = aL k (some ⟨oa, ob, oc, od⟩) none c ++ [⟨true, (c : Int), [], x, x⟩] := by
     rw [aL]
     congr 1
     unfold mM
     simp only [HV.out.1]
    rw [e]
    have h := pE.out
    skip
    exact h
   case measure => simp [intOf]; omega
  ·obtain rfl : c = 4 := by omega
   clear gS hlen
   go_wp2_with fail
   go_ret
   have e := eB k (some ⟨oa, ob, oc, od⟩) none
   have h := HW.out.1
   rw [e] at h
   exact ⟨_, rfl, h.1, h.2.2.1⟩
set_option maxHeartbeats 4000000 in
theorem zZ (w : World) (k : List UInt8) (oa ob oc od na nb nc nd : Int) : Calls Tryz.prog 13 #[.string ⟨k.toArray⟩, .agg #[.int .i64 oa, .int .i64 ob, .int .i64 oc, .int .i64 od], .agg #[.int .i64 na, .int .i64 nb, .int .i64 nc, .int .i64 nd], .agg #[.bool false, .bool true]] w fun e w' =>
  ∃ v, e = .returned v /\ w'.ownsRow w.heap.size 48 5 v (dZ k none (some ⟨na, nb, nc, nd⟩)).length (sH (dZ k none (some ⟨na, nb, nc, nd⟩))) /\ Below w.heap.size w w' := by
 obtain ⟨i0, hi, hz0, hz1, hz2⟩ := info_parts Tryz.fZ
 have HI := Lib.hid hi
 clear hi
 have hb1 := ag w (.cells #[.int .i64 oa, .int .i64 ob, .int .i64 oc, .int .i64 od] 25)
 have k1 := heap_alloc_new w (.cells #[.int .i64 oa, .int .i64 ob, .int .i64 oc, .int .i64 od] 25)
 have hb2 := ag (w.alloc (.cells #[.int .i64 oa, .int .i64 ob, .int .i64 oc, .int .i64 od] 25)) (.cells #[.int .i64 na, .int .i64 nb, .int .i64 nc, .int .i64 nd] 25)
 have k2 := heap_alloc_new (w.alloc (.cells #[.int .i64 oa, .int .i64 ob, .int .i64 oc, .int .i64 od] 25)) (.cells #[.int .i64 na, .int .i64 nb, .int .i64 nc, .int .i64 nd] 25)
 have hb3 := ag ((w.alloc (.cells #[.int .i64 oa, .int .i64 ob, .int .i64 oc, .int .i64 od] 25)).alloc (.cells #[.int .i64 na, .int .i64 nb, .int .i64 nc, .int .i64 nd] 25)) (.cells #[.bool false, .bool true] 46)
 have k3 := heap_alloc_new ((w.alloc (.cells #[.int .i64 oa, .int .i64 ob, .int .i64 oc, .int .i64 od] 25)).alloc (.cells #[.int .i64 na, .int .i64 nb, .int .i64 nc, .int .i64 nd] 25)) (.cells #[.bool false, .bool true] 46)
 have hs1 : (w.alloc (.cells #[.int .i64 oa, .int .i64 ob, .int .i64 oc, .int .i64 od] 25)).heap.size = w.heap.size + 1 := by simp
 have hs2 : ((w.alloc (.cells #[.int .i64 oa, .int .i64 ob, .int .i64 oc, .int .i64 od] 25)).alloc (.cells #[.int .i64 na, .int .i64 nb, .int .i64 nc, .int .i64 nd] 25)).heap.size = w.heap.size + 1 + 1 := by simp
 rw [hs1] at k2
 rw [hs2] at k3
 have H0 := Lib.hid (show Below w.heap.size w (((w.alloc (.cells #[.int .i64 oa, .int .i64 ob, .int .i64 oc, .int .i64 od] 25)).alloc (.cells #[.int .i64 na, .int .i64 nb, .int .i64 nc, .int .i64 nd] 25)).alloc (.cells #[.bool false, .bool true] 46)) /\ (((w.alloc (.cells #[.int .i64 oa, .int .i64 ob, .int .i64 oc, .int .i64 od] 25)).alloc (.cells #[.int .i64 na, .int .i64 nb, .int .i64 nc, .int .i64 nd] 25)).alloc (.cells #[.bool false, .bool true] 46)).heap[w.heap.size]? = some (.cells #[.int .i64 oa, .int .i64 ob, .int .i64 oc, .int .i64 od] 25 (0, 0)) /\ (((w.alloc (.cells #[.int .i64 oa, .int .i64 ob, .int .i64 oc, .int .i64 od] 25)).alloc (.cells #[.int .i64 na, .int .i64 nb, .int .i64 nc, .int .i64 nd] 25)).alloc (.cells #[.bool false, .bool true] 46)).heap[w.heap.size + 1]? = some (.cells #[.int .i64 na, .int .i64 nb, .int .i64 nc, .int .i64 nd] 25 (0, 0)) /\ (((w.alloc (.cells #[.int .i64 oa, .int .i64 ob, .int .i64 oc, .int .i64 od] 25)).alloc (.cells #[.int .i64 na, .int .i64 nb, .int .i64 nc, .int .i64 nd] 25)).alloc (.cells #[.bool false, .bool true] 46)).heap[w.heap.size + 1 + 1]? = some (.cells #[.bool false, .bool true] 46 (0, 0)) from
  ⟨(hb1.trans (hb2.mono hb1.size)).trans (hb3.mono (Nat.le_trans hb1.size hb2.size)), (Only.of_below (hb2.trans (hb3.mono hb2.size)) (fun _ => False)).heap k1 (fun h => h), (Only.of_below hb3 (fun _ => False)).heap k2 (fun h => h), k3⟩)
 clear hb1 k1 hb2 k2 hb3 k3 hs1 hs2
 go_enter Tryz.func13, Tryz.ntmps13
 go_upto_region 1 with fail
 have H1 := H0.out
 clear H0
 generalize ((w.alloc (.cells #[.int .i64 oa, .int .i64 ob, .int .i64 oc, .int .i64 od] 25)).alloc (.cells #[.int .i64 na, .int .i64 nb, .int .i64 nc, .int .i64 nd] 25)).alloc (.cells #[.bool false, .bool true] 46) = w3 at H1 ⊢
 obtain ⟨X, hX⟩ : ∃ x, w.heap.size = x := ⟨_, rfl⟩
 rw [hX] at H1 ⊢
 obtain ⟨R, hR⟩ : ∃ x, X + 1 = x := ⟨_, rfl⟩
 obtain ⟨Y, hY⟩ : ∃ x, R + 1 = x := ⟨_, rfl⟩
 rw [hR, hY] at H1 ⊢
 rw [<- hX] at H1
 have HX := Lib.hid (show Below w.heap.size w w3 /\ w3.heap[X]? = some (.cells #[.int .i64 oa, .int .i64 ob, .int .i64 oc, .int .i64 od] 25 (0, 0)) /\ w3.heap[R]? = some (.cells #[.int .i64 na, .int .i64 nb, .int .i64 nc, .int .i64 nd] 25 (0, 0)) /\ w3.heap[Y]? = some (.cells #[.bool false, .bool true] 46 (0, 0)) from by rw [hX] at H1; rw [hX]; exact H1)
 clear H1 hX hR hY
 have hby := ag w3 (.cells #[.bool true, .int .i64 (-1), .string ⟨k.toArray⟩, .int .i64 0, .int .i64 0] 48)
 have ky := heap_alloc_new w3 (.cells #[.bool true, .int .i64 (-1), .string ⟨k.toArray⟩, .int .i64 0, .int .i64 0] 48)
 have hs3 : w.heap.size <= w3.heap.size := HX.out.1.size
 have jy := Lib.hid (show vR w X R Y ⟨oa, ob, oc, od⟩ ⟨na, nb, nc, nd⟩ false true (.slice (some ⟨w3.heap.size, 0, none⟩) 1 1) [⟨true, -1, k, 0, 0⟩] (w3.alloc (.cells #[.bool true, .int .i64 (-1), .string ⟨k.toArray⟩, .int .i64 0, .int .i64 0] 48)) from by
  have g4 := (Only.of_below hby (fun _ => False)).heap HX.out.2.1 (fun h => h)
  have g5 := (Only.of_below hby (fun _ => False)).heap HX.out.2.2.1 (fun h => h)
  have g6 := (Only.of_below hby (fun _ => False)).heap HX.out.2.2.2 (fun h => h)
  have l4 := aJ HX.out.2.1
  have l5 := aJ HX.out.2.2.1
  have l6 := aJ HX.out.2.2.2
  exact ⟨iD (x := ⟨true, -1, k, 0, 0⟩) ky hs3, fun g hg => by have hg2 : some w3.heap.size = some g := hg; injection hg2 with hg2; exact ⟨by omega, by omega, by omega⟩, HX.out.1.trans (hby.mono hs3), g4, g5, g6⟩)
 clear hby ky
 go_upto_region 2 with fail
 obtain ⟨w4, hw4⟩ : ∃ x, w3.alloc (.cells #[.bool true, .int .i64 (-1), .string ⟨k.toArray⟩, .int .i64 0, .int .i64 0] 48) = x := ⟨_, rfl⟩
 rw [hw4] at jy ⊢
 obtain ⟨v4, hv4⟩ : ∃ x, Value.slice (some (⟨w3.heap.size, 0, none⟩ : Addr)) 1 1 = x := ⟨_, rfl⟩
 rw [hv4] at jy ⊢
 have H4 := Lib.hid jy.out
 clear jy hw4 hv4
 have KS := H4
 obtain ⟨t0, t1⟩ := cY (_cs := #[]) H4.out.2.2.2.2.2
 have hbz := ag w4 (.cells #[.bool true, .int .i64 (-1), .string ⟨#[35]⟩, .int .i64 0, .int .i64 0] 48)
 have kz := heap_alloc_new w4 (.cells #[.bool true, .int .i64 (-1), .string ⟨#[35]⟩, .int .i64 0, .int .i64 0] 48)
 have HZ := Lib.hid (And.intro hbz (And.intro (gY (x := ⟨true, -1, [35], 0, 0⟩) kz) (aC H4.out.1 hbz)))
 clear hbz kz
 go_upto_region 4 with (at_builtin; go_loud (refine aH _ rfl _ _ 37 rfl w.heap.size 48 i0 _ 5 48 Tryz.underlying37 HI.out hz0 hz1 hz2 rfl (by decide) v4 1 (sH [⟨true, -1, k, 0, 0⟩]) rfl HZ.out.2.2 (fun _ => True) (.slice (some ⟨w4.heap.size, 0, none⟩) 1 1) ([⟨true, -1, [35], 0, 0⟩].map Cl.cells) rfl HZ.out.2.1 (bI _) (eQ _) (by decide) (by decide) (by have := H4.out.2.2.1.size; have := HZ.out.1.size; omega) ?_); intro v5 w5 bq cK lH)
 have H5 := Lib.hid (H4.out.more HZ.out.1 bq cK lH (Nat.le_refl _))
 clear bq cK lH t0 t1 H4 KS
 have HS := Lib.hid (show vR w X R Y ⟨oa, ob, oc, od⟩ ⟨na, nb, nc, nd⟩ false true _ (aL k none (some ⟨na, nb, nc, nd⟩) 0) w5 from H5.out)
 clear H5
 go_wp2_with fail
 go_loopw [9, 10] (fun v i wr => ∃ c : Nat, c <= 4 /\ i = .int .i64 (c : Int) /\ vR w X R Y ⟨oa, ob, oc, od⟩ ⟨na, nb, nc, nd⟩ false true v (aL k none (some ⟨na, nb, nc, nd⟩) c) wr) (fun _ i _ => 4 - (intOf i).toNat)
 case atStart => exact ⟨0, by decide, rfl, HS.out⟩
 case round =>
  obtain ⟨c, hc, rfl, gS⟩ := hrel
  have hlen := dI k none (some ⟨na, nb, nc, nd⟩) c
  have HW := Lib.hid (And.intro gS hlen)
  by_cases hlt : c < 4
  ·have i1 : (0 : Int) <= (c : Int) := by omega
   have i2 : (c : Int) < 4 := by omega
   have z0 := aF (r := ⟨oa, ob, oc, od⟩) gS.2.2.2.1 hlt
   have y0 := aF (r := ⟨na, nb, nc, nd⟩) gS.2.2.2.2.1 hlt
   obtain ⟨t0, t1⟩ := cY (_cs := #[]) gS.2.2.2.2.2
   obtain ⟨x, hx⟩ : ∃ x, Rw.aG ⟨oa, ob, oc, od⟩ c = x := ⟨_, rfl⟩
   obtain ⟨y, hy⟩ : ∃ y, Rw.aG ⟨na, nb, nc, nd⟩ c = y := ⟨_, rfl⟩
   rw [hx] at z0
   rw [hy] at y0
   have HV := Lib.hid (And.intro hx hy)
   clear gS hlen
   clear hx hy
   go_wp2_with fail
   go_quiet (fail)
   rename_i nq
   clear z0 y0 t0 t1
   have HA := Lib.hid (HW.out.1.still (show Below wr.heap.size wr (wr.drewN nq) from Only.au ((Only.refl (fun _ => False) wr).drewN nq) (Nat.le_refl _) (fun _ _ h => h)))
   generalize wr.drewN nq = wa at HA ⊢
   obtain ⟨t0, t1⟩ := cY (_cs := #[]) HA.out.2.2.2.2.2
   go_upto_region 11 with fail
   have HD := Lib.hid (HA.out.still (show Below wa.heap.size wa wa.drew from (Below.refl _ _).drew))
   refine wp_region_held_drew (S := (fun W => W.heap[X]? = some (.cells #[.int .i64 oa, .int .i64 ob, .int .i64 oc, .int .i64 od] 25 (0, 0)) /\ W.heap[R]? = some (.cells #[.int .i64 na, .int .i64 nb, .int .i64 nc, .int .i64 nd] 25 (0, 0)) /\ W.heap[Y]? = some (.cells #[.bool false, .bool true] 46 (0, 0)))) (by kernel_rfl) ⟨HA.out.2.2.2.1, HA.out.2.2.2.2.1, HA.out.2.2.2.2.2⟩ (fun hHeld => ?_)
   generalize wa.drew = wd at HD hHeld ⊢
   refine aO [0, 1, 2, 3] ?_
   iterate 4 (refine cI (v := ?_) (fun wS hSw => ?_) hHeld ?_; rotate_left; (obtain ⟨s0, s1, s2⟩ := hSw; go_simp; try with_reducible rfl); try simp only [av, ax, ay, az])
   refine aP ?_
   refine fL 4 (v := ?_) (fun wS hSw => ?_) hHeld ?_
   rotate_left
   ·obtain ⟨s0, s1, s2⟩ := hSw; have q0 := aF (r := ⟨na, nb, nc, nd⟩) s1 hlt; rw [HV.out.2] at q0; go_simp; try with_reducible rfl
   try simp only [av, ax, ay, az]
   refine aO [5, 6] ?_
   iterate 2 (refine cI (v := ?_) (fun wS hSw => ?_) hHeld ?_; rotate_left; (obtain ⟨s0, s1, s2⟩ := hSw; go_simp; try with_reducible rfl); try simp only [av, ax, ay, az])
   refine aP ?_
   refine fL 7 (v := ?_) (fun wS hSw => ?_) hHeld ?_
   rotate_left
   ·obtain ⟨s0, s1, s2⟩ := hSw; have q0 := aF (r := ⟨na, nb, nc, nd⟩) s1 hlt; rw [HV.out.2] at q0; go_simp; try with_reducible rfl
   try simp only [av, ax, ay, az]
   refine fL 8 (v := ?_) (fun wS hSw => ?_) hHeld ?_
   rotate_left
   ·obtain ⟨s0, s1, s2⟩ := hSw; go_simp; try with_reducible rfl
   try simp only [av, ax, ay, az]
   refine bg 9 (fun K hK => ?_)
   go_simp
   refine hK.out _ _ (⟨(Only.of_below (ag _ _) (fun _ => False)).heap hHeld.1 (fun h => h), (Only.of_below (ag _ _) (fun _ => False)).heap hHeld.2.1 (fun h => h), (Only.of_below (ag _ _) (fun _ => False)).heap hHeld.2.2 (fun h => h)⟩) (fun ae => ?_)
   clear hK K hHeld 
   have hHeld := ae
   clear ae
   try simp only [av, ax, ay, az]
   have dU := ag wd (.cells #[.bool true, .int .i64 (c : Int), .string ⟨#[]⟩, .int .i64 y, .int .i64 y] 48)
   have HN := Lib.hid (And.intro dU (And.intro (gY (x := ⟨true, (c : Int), [], y, y⟩) (heap_alloc_new wd (.cells #[.bool true, .int .i64 (c : Int), .string ⟨#[]⟩, .int .i64 y, .int .i64 y] 48))) (aC HD.out.1 dU)))
   clear dU
   refine bg 10 (fun K hK => ?_)
   refine gQ rfl _ _ 37 rfl w.heap.size 48 i0 _ 5 48 Tryz.underlying37 HI.out hz0 hz1 hz2 rfl (by decide) _ _ _ rfl HN.out.2.2 (fun _ => True) (.slice (some ⟨wd.heap.size, 0, none⟩) 1 1) ([⟨true, (c : Int), [], y, y⟩].map Cl.cells) rfl HN.out.2.1 (bI _) (eQ _) (by have := HW.out.2; simp; omega) (by have := HW.out.2; simp [maxLen]; omega) (by have := HD.out.2.2.1.size; have := HN.out.1.size; omega) ?_
   intro v7 w7 dB iY rG
   have yi := Lib.hid (HD.out.more (x := ⟨true, (c : Int), [], y, y⟩) HN.out.1 dB iY rG (Nat.le_refl _))
   clear dB iY rG HN HD
   refine hK.out _ _ (⟨yi.out.2.2.2.1, yi.out.2.2.2.2.1, yi.out.2.2.2.2.2⟩) (fun ae => ?_)
   clear hK K hHeld 
   have hHeld := ae
   clear ae
   try simp only [av, ax, ay, az]
   refine fL 11 (v := ?_) (fun wS hSw => ?_) hHeld ?_
   rotate_left
   ·obtain ⟨s0, s1, s2⟩ := hSw; go_simp; try with_reducible rfl
   try simp only [av, ax, ay, az]
   refine wpAnyH_done (by kernel_rfl) ?_ _
   clear hHeld
   clear t0 t1
   go_wp2_with fail
   go_roundw
   case rel =>
    refine ⟨c + 1, by omega, by go_num, ?_⟩
    have e : aL k none (some ⟨na, nb, nc, nd⟩) (c + 1) = aL k none (some ⟨na, nb, nc, nd⟩) c ++ [⟨true, (c : Int), [], y, y⟩] := by
     rw [aL]
     congr 1
     unfold mM
     simp only [HV.out.2]
    rw [e]
    have h := yi.out
    skip
    exact h
   case measure => simp [intOf]; omega
  ·obtain rfl : c = 4 := by omega
   clear gS hlen
   go_wp2_with fail
   go_ret
   have e := eB k none (some ⟨na, nb, nc, nd⟩)
   have h := HW.out.1
   rw [e] at h
   exact ⟨_, rfl, h.1, h.2.2.1⟩
set_option maxHeartbeats 4000000 in
theorem Aa (w : World) (k : List UInt8) (oa ob oc od na nb nc nd : Int) : Calls Tryz.prog 13 #[.string ⟨k.toArray⟩, .agg #[.int .i64 oa, .int .i64 ob, .int .i64 oc, .int .i64 od], .agg #[.int .i64 na, .int .i64 nb, .int .i64 nc, .int .i64 nd], .agg #[.bool true, .bool true]] w fun e w' =>
  ∃ v, e = .returned v /\ w'.ownsRow w.heap.size 48 5 v (dZ k (some ⟨oa, ob, oc, od⟩) (some ⟨na, nb, nc, nd⟩)).length (sH (dZ k (some ⟨oa, ob, oc, od⟩) (some ⟨na, nb, nc, nd⟩))) /\ Below w.heap.size w w' := by
 obtain ⟨i0, hi, hz0, hz1, hz2⟩ := info_parts Tryz.fZ
 have HI := Lib.hid hi
 clear hi
 have hb1 := ag w (.cells #[.int .i64 oa, .int .i64 ob, .int .i64 oc, .int .i64 od] 25)
 have k1 := heap_alloc_new w (.cells #[.int .i64 oa, .int .i64 ob, .int .i64 oc, .int .i64 od] 25)
 have hb2 := ag (w.alloc (.cells #[.int .i64 oa, .int .i64 ob, .int .i64 oc, .int .i64 od] 25)) (.cells #[.int .i64 na, .int .i64 nb, .int .i64 nc, .int .i64 nd] 25)
 have k2 := heap_alloc_new (w.alloc (.cells #[.int .i64 oa, .int .i64 ob, .int .i64 oc, .int .i64 od] 25)) (.cells #[.int .i64 na, .int .i64 nb, .int .i64 nc, .int .i64 nd] 25)
 have hb3 := ag ((w.alloc (.cells #[.int .i64 oa, .int .i64 ob, .int .i64 oc, .int .i64 od] 25)).alloc (.cells #[.int .i64 na, .int .i64 nb, .int .i64 nc, .int .i64 nd] 25)) (.cells #[.bool true, .bool true] 46)
 have k3 := heap_alloc_new ((w.alloc (.cells #[.int .i64 oa, .int .i64 ob, .int .i64 oc, .int .i64 od] 25)).alloc (.cells #[.int .i64 na, .int .i64 nb, .int .i64 nc, .int .i64 nd] 25)) (.cells #[.bool true, .bool true] 46)
 have hs1 : (w.alloc (.cells #[.int .i64 oa, .int .i64 ob, .int .i64 oc, .int .i64 od] 25)).heap.size = w.heap.size + 1 := by simp
 have hs2 : ((w.alloc (.cells #[.int .i64 oa, .int .i64 ob, .int .i64 oc, .int .i64 od] 25)).alloc (.cells #[.int .i64 na, .int .i64 nb, .int .i64 nc, .int .i64 nd] 25)).heap.size = w.heap.size + 1 + 1 := by simp
 rw [hs1] at k2
 rw [hs2] at k3
 have H0 := Lib.hid (show Below w.heap.size w (((w.alloc (.cells #[.int .i64 oa, .int .i64 ob, .int .i64 oc, .int .i64 od] 25)).alloc (.cells #[.int .i64 na, .int .i64 nb, .int .i64 nc, .int .i64 nd] 25)).alloc (.cells #[.bool true, .bool true] 46)) /\ (((w.alloc (.cells #[.int .i64 oa, .int .i64 ob, .int .i64 oc, .int .i64 od] 25)).alloc (.cells #[.int .i64 na, .int .i64 nb, .int .i64 nc, .int .i64 nd] 25)).alloc (.cells #[.bool true, .bool true] 46)).heap[w.heap.size]? = some (.cells #[.int .i64 oa, .int .i64 ob, .int .i64 oc, .int .i64 od] 25 (0, 0)) /\ (((w.alloc (.cells #[.int .i64 oa, .int .i64 ob, .int .i64 oc, .int .i64 od] 25)).alloc (.cells #[.int .i64 na, .int .i64 nb, .int .i64 nc, .int .i64 nd] 25)).alloc (.cells #[.bool true, .bool true] 46)).heap[w.heap.size + 1]? = some (.cells #[.int .i64 na, .int .i64 nb, .int .i64 nc, .int .i64 nd] 25 (0, 0)) /\ (((w.alloc (.cells #[.int .i64 oa, .int .i64 ob, .int .i64 oc, .int .i64 od] 25)).alloc (.cells #[.int .i64 na, .int .i64 nb, .int .i64 nc, .int .i64 nd] 25)).alloc (.cells #[.bool true, .bool true] 46)).heap[w.heap.size + 1 + 1]? = some (.cells #[.bool true, .bool true] 46 (0, 0)) from
  ⟨(hb1.trans (hb2.mono hb1.size)).trans (hb3.mono (Nat.le_trans hb1.size hb2.size)), (Only.of_below (hb2.trans (hb3.mono hb2.size)) (fun _ => False)).heap k1 (fun h => h), (Only.of_below hb3 (fun _ => False)).heap k2 (fun h => h), k3⟩)
 clear hb1 k1 hb2 k2 hb3 k3 hs1 hs2
 go_enter Tryz.func13, Tryz.ntmps13
 go_upto_region 1 with fail
 have H1 := H0.out
 clear H0
 generalize ((w.alloc (.cells #[.int .i64 oa, .int .i64 ob, .int .i64 oc, .int .i64 od] 25)).alloc (.cells #[.int .i64 na, .int .i64 nb, .int .i64 nc, .int .i64 nd] 25)).alloc (.cells #[.bool true, .bool true] 46) = w3 at H1 ⊢
 obtain ⟨X, hX⟩ : ∃ x, w.heap.size = x := ⟨_, rfl⟩
 rw [hX] at H1 ⊢
 obtain ⟨R, hR⟩ : ∃ x, X + 1 = x := ⟨_, rfl⟩
 obtain ⟨Y, hY⟩ : ∃ x, R + 1 = x := ⟨_, rfl⟩
 rw [hR, hY] at H1 ⊢
 rw [<- hX] at H1
 have HX := Lib.hid (show Below w.heap.size w w3 /\ w3.heap[X]? = some (.cells #[.int .i64 oa, .int .i64 ob, .int .i64 oc, .int .i64 od] 25 (0, 0)) /\ w3.heap[R]? = some (.cells #[.int .i64 na, .int .i64 nb, .int .i64 nc, .int .i64 nd] 25 (0, 0)) /\ w3.heap[Y]? = some (.cells #[.bool true, .bool true] 46 (0, 0)) from by rw [hX] at H1; rw [hX]; exact H1)
 clear H1 hX hR hY
 have hby := ag w3 (.cells #[.bool true, .int .i64 (-1), .string ⟨k.toArray⟩, .int .i64 0, .int .i64 0] 48)
 have ky := heap_alloc_new w3 (.cells #[.bool true, .int .i64 (-1), .string ⟨k.toArray⟩, .int .i64 0, .int .i64 0] 48)
 have hs3 : w.heap.size <= w3.heap.size := HX.out.1.size
 have jy := Lib.hid (show vR w X R Y ⟨oa, ob, oc, od⟩ ⟨na, nb, nc, nd⟩ true true (.slice (some ⟨w3.heap.size, 0, none⟩) 1 1) [⟨true, -1, k, 0, 0⟩] (w3.alloc (.cells #[.bool true, .int .i64 (-1), .string ⟨k.toArray⟩, .int .i64 0, .int .i64 0] 48)) from by
  have g4 := (Only.of_below hby (fun _ => False)).heap HX.out.2.1 (fun h => h)
  have g5 := (Only.of_below hby (fun _ => False)).heap HX.out.2.2.1 (fun h => h)
  have g6 := (Only.of_below hby (fun _ => False)).heap HX.out.2.2.2 (fun h => h)
  have l4 := aJ HX.out.2.1
  have l5 := aJ HX.out.2.2.1
  have l6 := aJ HX.out.2.2.2
  exact ⟨iD (x := ⟨true, -1, k, 0, 0⟩) ky hs3, fun g hg => by have hg2 : some w3.heap.size = some g := hg; injection hg2 with hg2; exact ⟨by omega, by omega, by omega⟩, HX.out.1.trans (hby.mono hs3), g4, g5, g6⟩)
 clear hby ky
 go_upto_region 2 with fail
 obtain ⟨w4, hw4⟩ : ∃ x, w3.alloc (.cells #[.bool true, .int .i64 (-1), .string ⟨k.toArray⟩, .int .i64 0, .int .i64 0] 48) = x := ⟨_, rfl⟩
 rw [hw4] at jy ⊢
 obtain ⟨v4, hv4⟩ : ∃ x, Value.slice (some (⟨w3.heap.size, 0, none⟩ : Addr)) 1 1 = x := ⟨_, rfl⟩
 rw [hv4] at jy ⊢
 have H4 := Lib.hid jy.out
 clear jy hw4 hv4
 have KS := H4
 obtain ⟨t0, t1⟩ := cY (_cs := #[]) H4.out.2.2.2.2.2
 go_upto_region 4 with fail
 obtain ⟨w5, Og⟩ : ∃ x, x = w4 := ⟨_, rfl⟩
 rw [<- Og] at H4 ⊢
 have H5 := Lib.hid H4.out
 clear H4 KS t0 t1 Og
 have HS := Lib.hid (show vR w X R Y ⟨oa, ob, oc, od⟩ ⟨na, nb, nc, nd⟩ true true _ (aL k (some ⟨oa, ob, oc, od⟩) (some ⟨na, nb, nc, nd⟩) 0) w5 from H5.out)
 clear H5
 go_wp2_with fail
 go_loopw [9, 10] (fun v i wr => ∃ c : Nat, c <= 4 /\ i = .int .i64 (c : Int) /\ vR w X R Y ⟨oa, ob, oc, od⟩ ⟨na, nb, nc, nd⟩ true true v (aL k (some ⟨oa, ob, oc, od⟩) (some ⟨na, nb, nc, nd⟩) c) wr) (fun _ i _ => 4 - (intOf i).toNat)
 case atStart => exact ⟨0, by decide, rfl, HS.out⟩
 case round =>
  obtain ⟨c, hc, rfl, gS⟩ := hrel
  have hlen := dI k (some ⟨oa, ob, oc, od⟩) (some ⟨na, nb, nc, nd⟩) c
  have HW := Lib.hid (And.intro gS hlen)
  by_cases hlt : c < 4
  ·have i1 : (0 : Int) <= (c : Int) := by omega
   have i2 : (c : Int) < 4 := by omega
   have z0 := aF (r := ⟨oa, ob, oc, od⟩) gS.2.2.2.1 hlt
   have y0 := aF (r := ⟨na, nb, nc, nd⟩) gS.2.2.2.2.1 hlt
   obtain ⟨t0, t1⟩ := cY (_cs := #[]) gS.2.2.2.2.2
   obtain ⟨x, hx⟩ : ∃ x, Rw.aG ⟨oa, ob, oc, od⟩ c = x := ⟨_, rfl⟩
   obtain ⟨y, hy⟩ : ∃ y, Rw.aG ⟨na, nb, nc, nd⟩ c = y := ⟨_, rfl⟩
   rw [hx] at z0
   rw [hy] at y0
   have HV := Lib.hid (And.intro hx hy)
   clear gS hlen
   by_cases hxy : x = y
   ·subst hxy
    have HE := Lib.hid (show Rw.aG ⟨oa, ob, oc, od⟩ c = Rw.aG ⟨na, nb, nc, nd⟩ c from hx.trans hy.symm)
    go_wp2_with fail
    go_quiet (fail)
    rename_i nq
    go_wp2_with fail
    go_roundw
    case rel =>
     refine ⟨c + 1, by omega, by go_num, ?_⟩
     have e : aL k (some ⟨oa, ob, oc, od⟩) (some ⟨na, nb, nc, nd⟩) (c + 1) = aL k (some ⟨oa, ob, oc, od⟩) (some ⟨na, nb, nc, nd⟩) c := by
      rw [aL]
      unfold mM
      simp only [HE.out, if_true, List.append_nil]
     rw [e]
     exact HW.out.1.still (Only.au ((Only.refl (fun _ => False) wr).drewN nq) (Nat.le_refl _) (fun _ _ h => h))
    case measure => simp [intOf]; omega
   ·have FE : (x == y) = false := by simpa using hxy
    have rE := Lib.hid hxy
    clear hx hy
    go_wp2_with fail
    go_quiet (fail)
    rename_i nq
    clear hxy FE
    clear z0 y0 t0 t1
    have HA := Lib.hid (HW.out.1.still (show Below wr.heap.size wr (wr.drewN nq) from Only.au ((Only.refl (fun _ => False) wr).drewN nq) (Nat.le_refl _) (fun _ _ h => h)))
    generalize wr.drewN nq = wa at HA ⊢
    obtain ⟨t0, t1⟩ := cY (_cs := #[]) HA.out.2.2.2.2.2
    go_upto_region 9 with fail
    have HD := Lib.hid (HA.out.still (show Below wa.heap.size wa wa.drew from (Below.refl _ _).drew))
    refine wp_region_held_drew (S := (fun W => W.heap[X]? = some (.cells #[.int .i64 oa, .int .i64 ob, .int .i64 oc, .int .i64 od] 25 (0, 0)) /\ W.heap[R]? = some (.cells #[.int .i64 na, .int .i64 nb, .int .i64 nc, .int .i64 nd] 25 (0, 0)) /\ W.heap[Y]? = some (.cells #[.bool true, .bool true] 46 (0, 0)))) (by kernel_rfl) ⟨HA.out.2.2.2.1, HA.out.2.2.2.2.1, HA.out.2.2.2.2.2⟩ (fun hHeld => ?_)
    generalize wa.drew = wd at HD hHeld ⊢
    refine aO [0, 1, 2, 3] ?_
    iterate 4 (refine cI (v := ?_) (fun wS hSw => ?_) hHeld ?_; rotate_left; (obtain ⟨s0, s1, s2⟩ := hSw; go_simp; try with_reducible rfl); try simp only [av, ax, ay, az])
    refine aP ?_
    refine fL 4 (v := ?_) (fun wS hSw => ?_) hHeld ?_
    rotate_left
    ·obtain ⟨s0, s1, s2⟩ := hSw; have q0 := aF (r := ⟨oa, ob, oc, od⟩) s0 hlt; rw [HV.out.1] at q0; go_simp; try with_reducible rfl
    try simp only [av, ax, ay, az]
    refine aO [5, 6] ?_
    iterate 2 (refine cI (v := ?_) (fun wS hSw => ?_) hHeld ?_; rotate_left; (obtain ⟨s0, s1, s2⟩ := hSw; go_simp; try with_reducible rfl); try simp only [av, ax, ay, az])
    refine aP ?_
    refine fL 7 (v := ?_) (fun wS hSw => ?_) hHeld ?_
    rotate_left
    ·obtain ⟨s0, s1, s2⟩ := hSw; have q0 := aF (r := ⟨oa, ob, oc, od⟩) s0 hlt; rw [HV.out.1] at q0; go_simp; try with_reducible rfl
    try simp only [av, ax, ay, az]
    refine fL 8 (v := ?_) (fun wS hSw => ?_) hHeld ?_
    rotate_left
    ·obtain ⟨s0, s1, s2⟩ := hSw; go_simp; try with_reducible rfl
    try simp only [av, ax, ay, az]
    refine bg 9 (fun K hK => ?_)
    go_simp
    refine hK.out _ _ (⟨(Only.of_below (ag _ _) (fun _ => False)).heap hHeld.1 (fun h => h), (Only.of_below (ag _ _) (fun _ => False)).heap hHeld.2.1 (fun h => h), (Only.of_below (ag _ _) (fun _ => False)).heap hHeld.2.2 (fun h => h)⟩) (fun ae => ?_)
    clear hK K hHeld 
    have hHeld := ae
    clear ae
    try simp only [av, ax, ay, az]
    have dU := ag wd (.cells #[.bool true, .int .i64 (c : Int), .string ⟨#[]⟩, .int .i64 x, .int .i64 x] 48)
    have HN := Lib.hid (And.intro dU (And.intro (gY (x := ⟨true, (c : Int), [], x, x⟩) (heap_alloc_new wd (.cells #[.bool true, .int .i64 (c : Int), .string ⟨#[]⟩, .int .i64 x, .int .i64 x] 48))) (aC HD.out.1 dU)))
    clear dU
    refine bg 10 (fun K hK => ?_)
    refine gQ rfl _ _ 37 rfl w.heap.size 48 i0 _ 5 48 Tryz.underlying37 HI.out hz0 hz1 hz2 rfl (by decide) _ _ _ rfl HN.out.2.2 (fun _ => True) (.slice (some ⟨wd.heap.size, 0, none⟩) 1 1) ([⟨true, (c : Int), [], x, x⟩].map Cl.cells) rfl HN.out.2.1 (bI _) (eQ _) (by have := HW.out.2; simp; omega) (by have := HW.out.2; simp [maxLen]; omega) (by have := HD.out.2.2.1.size; have := HN.out.1.size; omega) ?_
    intro v6 w6 fA iX lD
    have pE := Lib.hid (HD.out.more (x := ⟨true, (c : Int), [], x, x⟩) HN.out.1 fA iX lD (Nat.le_refl _))
    clear fA iX lD HN HD
    refine hK.out _ _ (⟨pE.out.2.2.2.1, pE.out.2.2.2.2.1, pE.out.2.2.2.2.2⟩) (fun ae => ?_)
    clear hK K hHeld 
    have hHeld := ae
    clear ae
    try simp only [av, ax, ay, az]
    refine fL 11 (v := ?_) (fun wS hSw => ?_) hHeld ?_
    rotate_left
    ·obtain ⟨s0, s1, s2⟩ := hSw; go_simp; try with_reducible rfl
    try simp only [av, ax, ay, az]
    refine wpAnyH_done (by kernel_rfl) ?_ _
    clear hHeld
    clear t0 t1
    obtain ⟨t0, t1⟩ := cY (_cs := #[]) pE.out.2.2.2.2.2
    go_upto_region 11 with fail
    have HD := Lib.hid (pE.out.still (show Below w6.heap.size w6 w6.drew from (Below.refl _ _).drew))
    refine wp_region_held_drew (S := (fun W => W.heap[X]? = some (.cells #[.int .i64 oa, .int .i64 ob, .int .i64 oc, .int .i64 od] 25 (0, 0)) /\ W.heap[R]? = some (.cells #[.int .i64 na, .int .i64 nb, .int .i64 nc, .int .i64 nd] 25 (0, 0)) /\ W.heap[Y]? = some (.cells #[.bool true, .bool true] 46 (0, 0)))) (by kernel_rfl) ⟨pE.out.2.2.2.1, pE.out.2.2.2.2.1, pE.out.2.2.2.2.2⟩ (fun hHeld => ?_)
    generalize w6.drew = wd at HD hHeld ⊢
    refine aO [0, 1, 2, 3] ?_
    iterate 4 (refine cI (v := ?_) (fun wS hSw => ?_) hHeld ?_; rotate_left; (obtain ⟨s0, s1, s2⟩ := hSw; go_simp; try with_reducible rfl); try simp only [av, ax, ay, az])
    refine aP ?_
    refine fL 4 (v := ?_) (fun wS hSw => ?_) hHeld ?_
    rotate_left
    ·obtain ⟨s0, s1, s2⟩ := hSw; have q0 := aF (r := ⟨na, nb, nc, nd⟩) s1 hlt; rw [HV.out.2] at q0; go_simp; try with_reducible rfl
    try simp only [av, ax, ay, az]
    refine aO [5, 6] ?_
    iterate 2 (refine cI (v := ?_) (fun wS hSw => ?_) hHeld ?_; rotate_left; (obtain ⟨s0, s1, s2⟩ := hSw; go_simp; try with_reducible rfl); try simp only [av, ax, ay, az])
    refine aP ?_
    refine fL 7 (v := ?_) (fun wS hSw => ?_) hHeld ?_
    rotate_left
    ·obtain ⟨s0, s1, s2⟩ := hSw; have q0 := aF (r := ⟨na, nb, nc, nd⟩) s1 hlt; rw [HV.out.2] at q0; go_simp; try with_reducible rfl
    try simp only [av, ax, ay, az]
    refine fL 8 (v := ?_) (fun wS hSw => ?_) hHeld ?_
    rotate_left
    ·obtain ⟨s0, s1, s2⟩ := hSw; go_simp; try with_reducible rfl
    try simp only [av, ax, ay, az]
    refine bg 9 (fun K hK => ?_)
    go_simp
    refine hK.out _ _ (⟨(Only.of_below (ag _ _) (fun _ => False)).heap hHeld.1 (fun h => h), (Only.of_below (ag _ _) (fun _ => False)).heap hHeld.2.1 (fun h => h), (Only.of_below (ag _ _) (fun _ => False)).heap hHeld.2.2 (fun h => h)⟩) (fun ae => ?_)
    clear hK K hHeld 
    have hHeld := ae
    clear ae
    try simp only [av, ax, ay, az]
    have dU := ag wd (.cells #[.bool true, .int .i64 (c : Int), .string ⟨#[]⟩, .int .i64 y, .int .i64 y] 48)
    have HN := Lib.hid (And.intro dU (And.intro (gY (x := ⟨true, (c : Int), [], y, y⟩) (heap_alloc_new wd (.cells #[.bool true, .int .i64 (c : Int), .string ⟨#[]⟩, .int .i64 y, .int .i64 y] 48))) (aC HD.out.1 dU)))
    clear dU
    refine bg 10 (fun K hK => ?_)
    refine gQ rfl _ _ 37 rfl w.heap.size 48 i0 _ 5 48 Tryz.underlying37 HI.out hz0 hz1 hz2 rfl (by decide) _ _ _ rfl HN.out.2.2 (fun _ => True) (.slice (some ⟨wd.heap.size, 0, none⟩) 1 1) ([⟨true, (c : Int), [], y, y⟩].map Cl.cells) rfl HN.out.2.1 (bI _) (eQ _) (by have := HW.out.2; simp; omega) (by have := HW.out.2; simp [maxLen]; omega) (by have := HD.out.2.2.1.size; have := HN.out.1.size; omega) ?_
    intro v7 w7 dB iY rG
    have yi := Lib.hid (HD.out.more (x := ⟨true, (c : Int), [], y, y⟩) HN.out.1 dB iY rG (Nat.le_refl _))
    clear dB iY rG HN HD
    refine hK.out _ _ (⟨yi.out.2.2.2.1, yi.out.2.2.2.2.1, yi.out.2.2.2.2.2⟩) (fun ae => ?_)
    clear hK K hHeld 
    have hHeld := ae
    clear ae
    try simp only [av, ax, ay, az]
    refine fL 11 (v := ?_) (fun wS hSw => ?_) hHeld ?_
    rotate_left
    ·obtain ⟨s0, s1, s2⟩ := hSw; go_simp; try with_reducible rfl
    try simp only [av, ax, ay, az]
    refine wpAnyH_done (by kernel_rfl) ?_ _
    clear hHeld
    clear t0 t1
    go_wp2_with fail
    go_roundw
    case rel =>
     refine ⟨c + 1, by omega, by go_num, ?_⟩
     have e : aL k (some ⟨oa, ob, oc, od⟩) (some ⟨na, nb, nc, nd⟩) (c + 1) = aL k (some ⟨oa, ob, oc, od⟩) (some ⟨na, nb, nc, nd⟩) c ++ [⟨true, (c : Int), [], x, x⟩, ⟨true, (c : Int), [], y, y⟩] := by
      rw [aL]
      congr 1
      unfold mM
      simp only [HV.out.1, HV.out.2, if_neg rE.out]
     rw [e]
     have h := yi.out
     rw [List.append_assoc] at h
     exact h
    case measure => simp [intOf]; omega
  ·obtain rfl : c = 4 := by omega
   clear gS hlen
   go_wp2_with fail
   go_ret
   have e := eB k (some ⟨oa, ob, oc, od⟩) (some ⟨na, nb, nc, nd⟩)
   have h := HW.out.1
   rw [e] at h
   exact ⟨_, rfl, h.1, h.2.2.1⟩
set_option maxHeartbeats 4000000 in
theorem Ab (w : World) (k : List UInt8) (oa ob oc od na nb nc nd : Int) : Calls Tryz.prog 13 #[.string ⟨k.toArray⟩, .agg #[.int .i64 oa, .int .i64 ob, .int .i64 oc, .int .i64 od], .agg #[.int .i64 na, .int .i64 nb, .int .i64 nc, .int .i64 nd], .agg #[.bool false, .bool false]] w fun e w' =>
  ∃ v, e = .returned v /\ w'.ownsRow w.heap.size 48 5 v (dZ k none none).length (sH (dZ k none none)) /\ Below w.heap.size w w' := by
 obtain ⟨i0, hi, hz0, hz1, hz2⟩ := info_parts Tryz.fZ
 have HI := Lib.hid hi
 clear hi
 have hb1 := ag w (.cells #[.int .i64 oa, .int .i64 ob, .int .i64 oc, .int .i64 od] 25)
 have k1 := heap_alloc_new w (.cells #[.int .i64 oa, .int .i64 ob, .int .i64 oc, .int .i64 od] 25)
 have hb2 := ag (w.alloc (.cells #[.int .i64 oa, .int .i64 ob, .int .i64 oc, .int .i64 od] 25)) (.cells #[.int .i64 na, .int .i64 nb, .int .i64 nc, .int .i64 nd] 25)
 have k2 := heap_alloc_new (w.alloc (.cells #[.int .i64 oa, .int .i64 ob, .int .i64 oc, .int .i64 od] 25)) (.cells #[.int .i64 na, .int .i64 nb, .int .i64 nc, .int .i64 nd] 25)
 have hb3 := ag ((w.alloc (.cells #[.int .i64 oa, .int .i64 ob, .int .i64 oc, .int .i64 od] 25)).alloc (.cells #[.int .i64 na, .int .i64 nb, .int .i64 nc, .int .i64 nd] 25)) (.cells #[.bool false, .bool false] 46)
 have k3 := heap_alloc_new ((w.alloc (.cells #[.int .i64 oa, .int .i64 ob, .int .i64 oc, .int .i64 od] 25)).alloc (.cells #[.int .i64 na, .int .i64 nb, .int .i64 nc, .int .i64 nd] 25)) (.cells #[.bool false, .bool false] 46)
 have hs1 : (w.alloc (.cells #[.int .i64 oa, .int .i64 ob, .int .i64 oc, .int .i64 od] 25)).heap.size = w.heap.size + 1 := by simp
 have hs2 : ((w.alloc (.cells #[.int .i64 oa, .int .i64 ob, .int .i64 oc, .int .i64 od] 25)).alloc (.cells #[.int .i64 na, .int .i64 nb, .int .i64 nc, .int .i64 nd] 25)).heap.size = w.heap.size + 1 + 1 := by simp
 rw [hs1] at k2
 rw [hs2] at k3
 have H0 := Lib.hid (show Below w.heap.size w (((w.alloc (.cells #[.int .i64 oa, .int .i64 ob, .int .i64 oc, .int .i64 od] 25)).alloc (.cells #[.int .i64 na, .int .i64 nb, .int .i64 nc, .int .i64 nd] 25)).alloc (.cells #[.bool false, .bool false] 46)) /\ (((w.alloc (.cells #[.int .i64 oa, .int .i64 ob, .int .i64 oc, .int .i64 od] 25)).alloc (.cells #[.int .i64 na, .int .i64 nb, .int .i64 nc, .int .i64 nd] 25)).alloc (.cells #[.bool false, .bool false] 46)).heap[w.heap.size]? = some (.cells #[.int .i64 oa, .int .i64 ob, .int .i64 oc, .int .i64 od] 25 (0, 0)) /\ (((w.alloc (.cells #[.int .i64 oa, .int .i64 ob, .int .i64 oc, .int .i64 od] 25)).alloc (.cells #[.int .i64 na, .int .i64 nb, .int .i64 nc, .int .i64 nd] 25)).alloc (.cells #[.bool false, .bool false] 46)).heap[w.heap.size + 1]? = some (.cells #[.int .i64 na, .int .i64 nb, .int .i64 nc, .int .i64 nd] 25 (0, 0)) /\ (((w.alloc (.cells #[.int .i64 oa, .int .i64 ob, .int .i64 oc, .int .i64 od] 25)).alloc (.cells #[.int .i64 na, .int .i64 nb, .int .i64 nc, .int .i64 nd] 25)).alloc (.cells #[.bool false, .bool false] 46)).heap[w.heap.size + 1 + 1]? = some (.cells #[.bool false, .bool false] 46 (0, 0)) from
  ⟨(hb1.trans (hb2.mono hb1.size)).trans (hb3.mono (Nat.le_trans hb1.size hb2.size)), (Only.of_below (hb2.trans (hb3.mono hb2.size)) (fun _ => False)).heap k1 (fun h => h), (Only.of_below hb3 (fun _ => False)).heap k2 (fun h => h), k3⟩)
 clear hb1 k1 hb2 k2 hb3 k3 hs1 hs2
 go_enter Tryz.func13, Tryz.ntmps13
 go_upto_region 1 with fail
 have H1 := H0.out
 clear H0
 generalize ((w.alloc (.cells #[.int .i64 oa, .int .i64 ob, .int .i64 oc, .int .i64 od] 25)).alloc (.cells #[.int .i64 na, .int .i64 nb, .int .i64 nc, .int .i64 nd] 25)).alloc (.cells #[.bool false, .bool false] 46) = w3 at H1 ⊢
 obtain ⟨X, hX⟩ : ∃ x, w.heap.size = x := ⟨_, rfl⟩
 rw [hX] at H1 ⊢
 obtain ⟨R, hR⟩ : ∃ x, X + 1 = x := ⟨_, rfl⟩
 obtain ⟨Y, hY⟩ : ∃ x, R + 1 = x := ⟨_, rfl⟩
 rw [hR, hY] at H1 ⊢
 rw [<- hX] at H1
 have HX := Lib.hid (show Below w.heap.size w w3 /\ w3.heap[X]? = some (.cells #[.int .i64 oa, .int .i64 ob, .int .i64 oc, .int .i64 od] 25 (0, 0)) /\ w3.heap[R]? = some (.cells #[.int .i64 na, .int .i64 nb, .int .i64 nc, .int .i64 nd] 25 (0, 0)) /\ w3.heap[Y]? = some (.cells #[.bool false, .bool false] 46 (0, 0)) from by rw [hX] at H1; rw [hX]; exact H1)
 clear H1 hX hR hY
 have hby := ag w3 (.cells #[.bool true, .int .i64 (-1), .string ⟨k.toArray⟩, .int .i64 0, .int .i64 0] 48)
 have ky := heap_alloc_new w3 (.cells #[.bool true, .int .i64 (-1), .string ⟨k.toArray⟩, .int .i64 0, .int .i64 0] 48)
 have hs3 : w.heap.size <= w3.heap.size := HX.out.1.size
 have jy := Lib.hid (show vR w X R Y ⟨oa, ob, oc, od⟩ ⟨na, nb, nc, nd⟩ false false (.slice (some ⟨w3.heap.size, 0, none⟩) 1 1) [⟨true, -1, k, 0, 0⟩] (w3.alloc (.cells #[.bool true, .int .i64 (-1), .string ⟨k.toArray⟩, .int .i64 0, .int .i64 0] 48)) from by
  have g4 := (Only.of_below hby (fun _ => False)).heap HX.out.2.1 (fun h => h)
  have g5 := (Only.of_below hby (fun _ => False)).heap HX.out.2.2.1 (fun h => h)
  have g6 := (Only.of_below hby (fun _ => False)).heap HX.out.2.2.2 (fun h => h)
  have l4 := aJ HX.out.2.1
  have l5 := aJ HX.out.2.2.1
  have l6 := aJ HX.out.2.2.2
  exact ⟨iD (x := ⟨true, -1, k, 0, 0⟩) ky hs3, fun g hg => by have hg2 : some w3.heap.size = some g := hg; injection hg2 with hg2; exact ⟨by omega, by omega, by omega⟩, HX.out.1.trans (hby.mono hs3), g4, g5, g6⟩)
 clear hby ky
 go_upto_region 2 with fail
 obtain ⟨w4, hw4⟩ : ∃ x, w3.alloc (.cells #[.bool true, .int .i64 (-1), .string ⟨k.toArray⟩, .int .i64 0, .int .i64 0] 48) = x := ⟨_, rfl⟩
 rw [hw4] at jy ⊢
 obtain ⟨v4, hv4⟩ : ∃ x, Value.slice (some (⟨w3.heap.size, 0, none⟩ : Addr)) 1 1 = x := ⟨_, rfl⟩
 rw [hv4] at jy ⊢
 have H4 := Lib.hid jy.out
 clear jy hw4 hv4
 have KS := H4
 obtain ⟨t0, t1⟩ := cY (_cs := #[]) H4.out.2.2.2.2.2
 go_upto_region 4 with fail
 obtain ⟨w5, Og⟩ : ∃ x, x = w4 := ⟨_, rfl⟩
 rw [<- Og] at H4 ⊢
 have H5 := Lib.hid H4.out
 clear H4 KS t0 t1 Og
 have HS := Lib.hid (show vR w X R Y ⟨oa, ob, oc, od⟩ ⟨na, nb, nc, nd⟩ false false _ (aL k none none 0) w5 from H5.out)
 clear H5
 go_wp2_with fail
 go_loopw [9, 10] (fun v i wr => ∃ c : Nat, c <= 4 /\ i = .int .i64 (c : Int) /\ vR w X R Y ⟨oa, ob, oc, od⟩ ⟨na, nb, nc, nd⟩ false false v (aL k none none c) wr) (fun _ i _ => 4 - (intOf i).toNat)
 case atStart => exact ⟨0, by decide, rfl, HS.out⟩
 case round =>
  obtain ⟨c, hc, rfl, gS⟩ := hrel
  have hlen := dI k none none c
  have HW := Lib.hid (And.intro gS hlen)
  by_cases hlt : c < 4
  ·have i1 : (0 : Int) <= (c : Int) := by omega
   have i2 : (c : Int) < 4 := by omega
   have z0 := aF (r := ⟨oa, ob, oc, od⟩) gS.2.2.2.1 hlt
   have y0 := aF (r := ⟨na, nb, nc, nd⟩) gS.2.2.2.2.1 hlt
   obtain ⟨t0, t1⟩ := cY (_cs := #[]) gS.2.2.2.2.2
   obtain ⟨x, hx⟩ : ∃ x, Rw.aG ⟨oa, ob, oc, od⟩ c = x := ⟨_, rfl⟩
   obtain ⟨y, hy⟩ : ∃ y, Rw.aG ⟨na, nb, nc, nd⟩ c = y := ⟨_, rfl⟩
   rw [hx] at z0
   rw [hy] at y0
   have HV := Lib.hid (And.intro hx hy)
   clear gS hlen
   clear hx hy
   go_wp2_with fail
   go_quiet (fail)
   rename_i nq
   clear z0 y0 t0 t1
   have HA := Lib.hid (HW.out.1.still (show Below wr.heap.size wr (wr.drewN nq) from Only.au ((Only.refl (fun _ => False) wr).drewN nq) (Nat.le_refl _) (fun _ _ h => h)))
   generalize wr.drewN nq = wa at HA ⊢
   obtain ⟨t0, t1⟩ := cY (_cs := #[]) HA.out.2.2.2.2.2
   go_wp2_with fail
   go_roundw
   case rel =>
    refine ⟨c + 1, by omega, by go_num, ?_⟩
    have e : aL k none none (c + 1) = aL k none none c ++ [] := by
     rw [aL]
     skip
     rfl
     done
    rw [e]
    have h := HA.out
    rw [List.append_nil]
    exact h
   case measure => simp [intOf]; omega
  ·obtain rfl : c = 4 := by omega
   clear gS hlen
   go_wp2_with fail
   go_ret
   have e := eB k none none
   have h := HW.out.1
   rw [e] at h
   exact ⟨_, rfl, h.1, h.2.2.1⟩
end Go.Proofs.YtagemonojdgbdaaGreatDoor
