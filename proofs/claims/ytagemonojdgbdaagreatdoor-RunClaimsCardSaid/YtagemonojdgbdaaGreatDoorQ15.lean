import Derived.Test.YtagemonojdgbdaaGreatDoorQ09
import Derived.Test.YtagemonojdgbdaaGreatDoorQ14
namespace Go.Proofs.YtagemonojdgbdaaGreatDoor
set_option maxRecDepth 100000
open Go.RowKit
theorem dw {w : World} {T : Nat} {a b c : Value} (h : w.heap[T]? = some (.cells #[a, b, c] 203 (0, 0))) : (w.cell? ⟨T, 0, none⟩ = some a /\ w.cell? ⟨T, 1, none⟩ = some b /\ w.cell? ⟨T, 2, none⟩ = some c) /\ w.frozen? ⟨T, 1, none⟩ = false /\ w.frozen? ⟨T, 2, none⟩ = false := by
 simp [World.cell?, World.frozen?, h]
theorem Bq {w : World} {T : Nat} {a b c : Value} (h : w.heap[T]? = some (.cells #[a, b, c] 203 (0, 0))) (x : Value) : (w.setCell ⟨T, 1, none⟩ x).heap[T]? = some (.cells #[a, x, c] 203 (0, 0)) := by
 have := heap_setCell_same w T 1 _ _ x h
 simpa using this
theorem uH {w : World} {T : Nat} {a b c : Value} (h : w.heap[T]? = some (.cells #[a, b, c] 203 (0, 0))) (x : Value) : (w.setCell ⟨T, 2, none⟩ x).heap[T]? = some (.cells #[a, b, x] 203 (0, 0)) := by
 have := heap_setCell_same w T 2 _ _ x h
 simpa using this
theorem pV {w W9 : World} {T o d r : Nat} {l : List Pr} {y : ND} {F K9 : Nat -> Nat -> Prop} {p : Pr} {cnt : Int} (hup : Up l) (ho : 2 <= o) (fq : o <= 16) (DD : ∀ q, F T q) (_O3 : T < w.heap.size)
  (k9 : W9.heap[T]? = some (.cells #[.int .i64 o, .int .i64 cnt, .pointer (some ⟨r, 0, none⟩)] 203 (0, 0))) (Ke : cnt = (ins p l).length) (hn : ai W9 d r y K9) (hK : ∀ b q, K9 b q -> F b q \/ w.heap.size <= b) (G9 : ∀ q, ¬ K9 T q)
  (hwf : dX d o (if d = 0 then 0 else 1) (2 * o - 1) y) (htl : aS d y = ins p l) : bD W9 T o (ins p l) (fun b q => F b q \/ w.heap.size <= b) := by
 subst Ke
 exact ⟨d, r, y, K9, k9, hn, hwf, htl, by rw [lh]; exact iu hup, ⟨ho, fq⟩, hK, fun q => .inl (DD q), G9⟩
theorem pW {p : Pr} {l : List Pr} (hup : Up l) : (ins p l).length = if (look p.1 l).isSome then l.length else l.length + 1 := by
 rw [lh, look_eq]
 exact mZ hup
def EH (T o : Nat) (l : List Pr) (p : Pr) (F : Nat -> Nat -> Prop) (w : World) (e : Ending) (w' : World) : Prop :=
 e = .returned (.tuple #[.string ⟨((look p.1 l).getD []).toArray⟩, .bool (look p.1 l).isSome, .int .i64 0]) /\ bD w' T o (ins p l) (fun b q => F b q \/ w.heap.size <= b) /\ OnlyC F w w'
set_option maxHeartbeats 4000000 in
theorem mO (w : World) (T o : Nat) (l : List Pr) (F : Nat -> Nat -> Prop) (p : Pr) (h : bD w T o l F) (hF : ∀ b q, F b q -> b < w.heap.size) (hk1 : 1 <= p.1.length) (hk2 : p.1.length <= 64) (hv : p.2.length <= 256) (hl : l.length <= 1000000) :
  Calls Tryz.prog 62 #[.pointer (some ⟨T, 0, none⟩), .string ⟨p.1.toArray⟩, .string ⟨p.2.toArray⟩] w (EH T o l p F w) := by
 obtain ⟨d, r, x, KK, k0, hn, hwf, htl, hup, ⟨ho, fq⟩, MH, DD, G9⟩ := h
 obtain ⟨⟨t0, -, t2⟩, -, -⟩ := dw k0
 have tS := And.intro t0 t2
 have m1 : ¬ (256 : Int) < (p.2.length : Int) := by omega
 have HC := Lib.hid (iy w T ⟨p.1.toArray⟩ (by exact hk1) (by exact hk2))
 have HA := Lib.hid (And.intro k0 (And.intro hn (And.intro hwf (And.intro htl (And.intro hup (And.intro ho (And.intro fq (And.intro MH (And.intro DD (And.intro G9 (And.intro hF hl)))))))))))
 clear k0 hn hwf htl hup ho fq MH DD G9 hF hl hk1 hk2 hv t0 t2
 go_enter Tryz.func62, Tryz.ntmps62
 go_wp2_with fail
 refine HC.out.mono ?_
 rintro e w1 ⟨rfl, hw1⟩
 obtain rfl : w = w1 := hw1.symm
 clear HC
 go_upto_region 6 with fail
 refine wp_region_held_drew (S := (fun W => W.cell? ⟨T, 0, none⟩ = some (.int .i64 o) /\ W.cell? ⟨T, 2, none⟩ = some (.pointer (some ⟨r, 0, none⟩)))) (by kernel_rfl) tS (fun hHeld => ?_)
 generalize hW3 : World.drew w = W3 at hHeld ⊢
 have HB := Lib.hid (show ai W3 d r x KK /\ W3.heap[T]? = some (.cells #[.int .i64 o, .int .i64 l.length, .pointer (some ⟨r, 0, none⟩)] 203 (0, 0)) /\ Below w.heap.size w W3 from hW3 ▸ ⟨HA.out.2.1.below (Below.refl _ _).drew, HA.out.1, (Below.refl _ _).drew⟩)
 clear hW3 tS
 refine aO [0, 1, 2, 3, 4, 5, 6, 7, 8, 9, 10] ?_
 iterate 11 (refine cI (v := ?_) (fun wS hSw => ?_) hHeld ?_; rotate_left; (obtain ⟨s0, s1⟩ := hSw; go_simp; try with_reducible rfl); try simp only [av, ax, ay, az])
 refine aP ?_
 refine bg 11 (fun K hK => ?_)
 go_simp
 refine (EG HA.out.2.2.2.2.2.1 HA.out.2.2.2.2.2.2.1 p d W3 r _ x KK HB.out.1 (fun b q hh => Nat.lt_of_lt_of_le (HA.out.2.2.2.2.2.2.2.2.2.2.1 b q (HA.out.2.2.2.2.2.2.2.1 b q hh)) HB.out.2.2.size) HA.out.2.2.1 (by rw [HA.out.2.2.2.1]; exact HA.out.2.2.2.2.1)).mono ?_
 rintro e wn ⟨rfl, I9, how⟩
 have HK := Lib.hid (And.intro I9 how)
 clear I9 how
 rw [HA.out.2.2.2.1]
 try go_simp
 refine hK.out _ _ (cG hHeld HK.out.2 (HA.out.2.2.2.2.2.2.2.2.2.1 0) (HA.out.2.2.2.2.2.2.2.2.2.1 2)) (fun ae => ?_)
 clear hK K hHeld 
 have hHeld := ae
 clear ae
 try simp only [av, ax, ay, az]
 refine aO [12, 13, 14, 15, 16] ?_
 iterate 5 (refine cI (v := ?_) (fun wS hSw => ?_) hHeld ?_; rotate_left; (obtain ⟨s0, s1⟩ := hSw; go_simp; try with_reducible rfl); try simp only [av, ax, ay, az])
 refine aP ?_
 refine wpAnyH_done (by kernel_rfl) ?_ _
 have HR := Lib.hid (show World.cell? wn ⟨T, 0, none⟩ = _ /\ _ from hHeld)
 clear hHeld
 obtain ⟨b0, hb0⟩ : ∃ b, (look p.1 l).isSome = b := ⟨_, rfl⟩
 obtain ⟨s0, hs0⟩ : ∃ s, (⟨((look p.1 l).getD []).toArray⟩ : ByteArray) = s := ⟨_, rfl⟩
 rw [hs0, hb0]
 have px := Lib.hid (And.intro hs0 hb0)
 clear hs0 hb0
 have k4 := HK.out.2.heap HB.out.2.1 HA.out.2.2.2.2.2.2.2.2.2.1
 have Kf : OnlyC F w wn := (OnlyC.of_below HB.out.2.2 F).trans HK.out.2 (fun b q _ hh => HA.out.2.2.2.2.2.2.2.1 b q hh)
 have Qd := HK.out.1.bound
 cases b0 with
 | true =>
  have H9 := Lib.hid (And.intro k4 (And.intro Qd Kf))
  clear k4 Qd Kf
  go_upto_region 9 with fail
  obtain ⟨W9, Qe⟩ : ∃ y, y = wn := ⟨_, rfl⟩
  rw [<- Qe] at H9 ⊢
  have Wl := Lib.hid Qe
  clear Qe
  obtain ⟨Qb, Qc, xC, H3, g1, -, g3, -⟩ := H9.out.2.1.base
  obtain ⟨A3, c3, e3, -⟩ := g3.slice
  rw [List.length_map] at e3
  subst e3
  obtain ⟨n3, jx⟩ : ∃ y, (fB d x p o).ps.length = y := ⟨_, rfl⟩
  rw [jx] at g1
  obtain ⟨⟨z3, -⟩, -, -⟩ := af g1
  obtain ⟨⟨t0, -, t2⟩, -, tf⟩ := dw H9.out.1
  have hput := mW HA.out.2.2.2.2.2.1 p HA.out.2.2.1 (by rw [HA.out.2.2.2.1]; exact HA.out.2.2.2.2.1)
  have EE := hput.2.len.2
  rw [jx] at EE
  have eT := Lib.hid (And.intro hput jx)
  clear hput g1 g3 jx
  have io : (2 : Int) <= (o : Int) := by have := HA.out.2.2.2.2.2.1; omega
  have R4 : (o : Int) <= 16 := by have := HA.out.2.2.2.2.2.2.1; omega
  have Ja : T < w.heap.size := lt_of_heap HA.out.1
  have kU := Lib.hid Ja
  clear Ja
  by_cases ek : 2 * o - 1 < n3
  ·have i3 : 2 * (o : Int) - 1 < (n3 : Int) := by omega
   have uG := Lib.hid ek
   clear ek EE
   go_quiet (fail)
   have MJ : ∀ X Y, World.cell? (((W9.drewN nq).alloc X).alloc Y) ⟨T, 2, none⟩ = some (.pointer (some ⟨r, 0, none⟩)) /\ World.frozen? (((W9.drewN nq).alloc X).alloc Y) ⟨T, 2, none⟩ = false := fun X Y => by
    have hb : Below W9.heap.size W9 (((W9.drewN nq).alloc X).alloc Y) := ((au (Below.refl W9.heap.size W9) nq).alloc (Nat.le_refl _) X).alloc (by simp) Y
    have hk := (Only.of_below hb (fun _ => False)).heap H9.out.1 (fun h => h)
    exact ⟨(dw hk).1.2.2, (dw hk).2.2⟩
   have Kg := MJ (.cells #[.pointer (some ⟨r, 0, none⟩)] 197) (.cells #[.slice none 0 0, .slice (some ⟨W9.heap.size, 0, none⟩) 1 1] 201)
   obtain ⟨hq2, Qf⟩ := Kg
   clear MJ
   go_upto_region 11 with fail
   clear hq2 Qf
   have hbW : Below W9.heap.size W9 (W9.drewN nq) := au (Below.refl _ _) nq
   have uI : (W9.drewN nq).heap.size = W9.heap.size := rfl
   generalize W9.drewN nq = Wq at hbW uI ⊢
   have kS := heap_alloc_new Wq (.cells #[.pointer (some ⟨r, 0, none⟩)] 197)
   have bS := ag Wq (.cells #[.pointer (some ⟨r, 0, none⟩)] 197)
   have Ha : (Wq.alloc (.cells #[.pointer (some ⟨r, 0, none⟩)] 197)).heap.size = W9.heap.size + 1 := by simp [uI]
   rw [uI] at kS
   obtain ⟨S, hS⟩ : ∃ y, W9.heap.size = y := ⟨_, rfl⟩
   rw [hS] at kS Ha ⊢
   generalize Wq.alloc (.cells #[.pointer (some ⟨r, 0, none⟩)] 197) = wa at kS bS Ha ⊢
   have kN := heap_alloc_new wa (.cells #[.slice none 0 0, .slice (some ⟨S, 0, none⟩) 1 1] 201)
   have bN := ag wa (.cells #[.slice none 0 0, .slice (some ⟨S, 0, none⟩) 1 1] 201)
   rw [Ha] at kN
   generalize wa.alloc (.cells #[.slice none 0 0, .slice (some ⟨S, 0, none⟩) 1 1] 201) = wb at kN bN ⊢
   have ml : Below W9.heap.size W9 wb := (hbW.trans (bS.mono hbW.size)).trans (bN.mono (Nat.le_trans hbW.size bS.size))
   have HZ := Lib.hid (And.intro hS (And.intro ml (And.intro ((Only.of_below bN (fun _ => False)).heap kS (fun h => h)) kN)))
   clear hbW uI kS bS Ha kN bN hS ml
   have kT := uH ((Only.of_below HZ.out.2.1 (fun _ => False)).heap H9.out.1 (fun h => h)) (.pointer (some ⟨S + 1, 0, none⟩))
   obtain ⟨⟨u0, -, u2⟩, -, -⟩ := dw kT
   have tS := And.intro u0 u2
   clear u0 u2
   have nb := ((H9.out.2.1.below HZ.out.2.1).Bg HZ.out.2.2.2 HZ.out.2.2.1 (by omega) (fun q hh => by have := hh.2; have := HZ.out.1; omega) (fun q hh => by have := hh.2; have := HZ.out.1; omega)).only (OnlyC.aT wb T 2 (.pointer (some ⟨S + 1, 0, none⟩))) (fun b q hh e => ?_)
   rotate_left
   ·obtain ⟨rfl, -⟩ := e
    have h1 := kU.out
    have h2 := lt_of_heap H9.out.1
    have h3 := HZ.out.1
    rcases hh with hh | hh | hh
    ·rcases hh.1 with h4 | h4
     ·exact HA.out.2.2.2.2.2.2.2.2.2.1 _ h4
     ·have := HB.out.2.2.size; omega
    ·omega
    ·omega
   have HQ := Lib.hid (And.intro nb (And.intro kT (((H9.out.2.2.trans (OnlyC.of_below HZ.out.2.1 F) (fun _ _ _ h => h)).trans (OnlyC.aT wb T 2 (.pointer (some ⟨S + 1, 0, none⟩))) (fun b q _ e => by obtain ⟨rfl, rfl⟩ := e; exact HA.out.2.2.2.2.2.2.2.2.1 _)))))
   clear nb kT
   have EI : (wb.setCell ⟨T, 2, none⟩ (.pointer (some ⟨S + 1, 0, none⟩))).heap.size = wb.heap.size := by simp [World.setCell]
   generalize (wb.setCell ⟨T, 2, none⟩ (.pointer (some ⟨S + 1, 0, none⟩))) = jH at HQ tS EI ⊢
   refine wp_region_held_drew (S := (fun W => W.cell? ⟨T, 0, none⟩ = some (.int .i64 o) /\ W.cell? ⟨T, 2, none⟩ = some (.pointer (some ⟨S + 1, 0, none⟩)))) (by kernel_rfl) tS (fun hHeld => ?_)
   generalize EJ : World.drew jH = MK at hHeld ⊢
   have gf : Below jH.heap.size jH MK := EJ ▸ (Below.refl _ _).drew
   have HV := Lib.hid (And.intro (HQ.out.1.below gf) gf)
   clear EJ tS gf
   refine aO [0, 1, 2, 3, 4, 5, 6, 7] ?_
   iterate 8 (refine cI (v := ?_) (fun wS hSw => ?_) hHeld ?_; rotate_left; (obtain ⟨s0, s1⟩ := hSw; go_simp; try with_reducible rfl); try simp only [av, ax, ay, az])
   refine aP ?_
   refine bg 8 (fun K hK => ?_)
   go_simp
   refine (qM MK d (S + 1) 0 o (.mk [] [fB d x p o]) (fB d x p o) _ HV.out.1.bound (fun b q hh => hh.2) rfl (Nat.zero_le _) (by simp) (by simp) (by rw [eT.out.2]; have := uG.out; have := eT.out.1.2.len.2; rw [eT.out.2] at this; omega) (fun hd => by obtain ⟨d1, rfl⟩ : ∃ d1, d = d1 + 1 := ⟨d - 1, by omega⟩; have h1 := eT.out.1.2.kids; have h2 := eT.out.2; have h3 := uG.out; have h4 := eT.out.1.2.len.2; omega) HA.out.2.2.2.2.2.1 HA.out.2.2.2.2.2.2.1).mono ?_
   rintro e wn ⟨rfl, EK, CB⟩
   have Hb := Lib.hid (And.intro EK CB)
   clear EK CB
   try go_simp
   refine hK.out _ _ (cG hHeld Hb.out.2 (fun hh => by rcases hh.1 with hh | hh | hh; (· rcases hh.1 with h4 | h4; (· exact HA.out.2.2.2.2.2.2.2.2.2.1 _ h4); (· have := HB.out.2.2.size; have := kU.out; omega)); (· have := kU.out; have := lt_of_heap H9.out.1; have := HZ.out.1; omega); (· have := kU.out; have := lt_of_heap H9.out.1; have := HZ.out.1; omega)) (fun hh => by rcases hh.1 with hh | hh | hh; (· rcases hh.1 with h4 | h4; (· exact HA.out.2.2.2.2.2.2.2.2.2.1 _ h4); (· have := HB.out.2.2.size; have := kU.out; omega)); (· have := kU.out; have := lt_of_heap H9.out.1; have := HZ.out.1; omega); (· have := kU.out; have := lt_of_heap H9.out.1; have := HZ.out.1; omega))) (fun ae => ?_)
   clear hK K hHeld 
   have hHeld := ae
   clear ae
   try simp only [av, ax, ay, az]
   refine wpAnyH_done (by kernel_rfl) ?_ _
   have HH := Lib.hid (show World.cell? wn ⟨T, 0, none⟩ = _ /\ _ from hHeld)
   clear hHeld
   go_wp2_with fail
   go_ret3
   have hy : dX d o (2 * o) (2 * o) (fB d x p o) := eT.out.1.2.re (by rw [eT.out.2]; have := uG.out; omega) (by rw [eT.out.2]; have := uG.out; have := eT.out.1.2.len.2; rw [eT.out.2] at this; omega)
   have hrs := tz HA.out.2.2.2.2.2.1 hy
   have k12 := Hb.out.2.heap ((Only.of_below HV.out.2 (fun _ => False)).heap HQ.out.2.1 (fun h => h)) (fun q => (fun hh => by rcases hh.1 with hh | hh | hh; (· rcases hh.1 with h4 | h4; (· exact HA.out.2.2.2.2.2.2.2.2.2.1 _ h4); (· have := HB.out.2.2.size; have := kU.out; omega)); (· have := kU.out; have := lt_of_heap H9.out.1; have := HZ.out.1; omega); (· have := kU.out; have := lt_of_heap H9.out.1; have := HZ.out.1; omega)))
   have hte := pV (F := F) (w := w) HA.out.2.2.2.2.1 HA.out.2.2.2.2.2.1 HA.out.2.2.2.2.2.2.1 HA.out.2.2.2.2.2.2.2.2.1 kU.out k12 (by rw [pW HA.out.2.2.2.2.1, px.out.2]; rfl) Hb.out.1 ?_ ?_ (by rw [if_neg (by omega)]; exact hrs.2) (by rw [hrs.1, eT.out.1.1, HA.out.2.2.2.1])
   ·refine ⟨by rw [<- px.out.1, <- px.out.2]; rfl, hte, (HQ.out.2.2.trans (OnlyC.of_below HV.out.2 F) (fun _ _ _ h => h)).trans Hb.out.2 (fun b q hb hh => ?_)⟩
    have h1 := HB.out.2.2.size
    have h2 := lt_of_heap H9.out.1
    have h3 := HZ.out.1
    have h4 := H9.out.2.2.size
    rcases hh.1 with hh | hh | hh
    ·rcases hh.1 with h5 | h5
     ·exact HA.out.2.2.2.2.2.2.2.1 b q h5
     ·omega
    ·omega
    ·omega
   ·intro b q hh
    have h1 := HB.out.2.2.size
    have h3 := HZ.out.1
    have h4 := H9.out.2.2.size
    have h6 := HV.out.2.size
    have h7 := HZ.out.2.1.size
    rcases hh with hh | hh
    ·rcases hh.1 with hh | hh | hh
     ·rcases hh.1 with h5 | h5
      ·exact .inl (HA.out.2.2.2.2.2.2.2.1 b q h5)
      ·exact .inr (by omega)
     ·exact .inr (by omega)
     ·exact .inr (by omega)
    ·exact .inr (by omega)
   ·intro q hh
    rcases hh with hh | hh
    ·exact (fun hh => by rcases hh.1 with hh | hh | hh; (· rcases hh.1 with h4 | h4; (· exact HA.out.2.2.2.2.2.2.2.2.2.1 _ h4); (· have := HB.out.2.2.size; have := kU.out; omega)); (· have := kU.out; have := lt_of_heap H9.out.1; have := HZ.out.1; omega); (· have := kU.out; have := lt_of_heap H9.out.1; have := HZ.out.1; omega)) hh
    ·have h1 := kU.out; have h3 := HZ.out.1; have h4 := H9.out.2.2.size; have h6 := HV.out.2.size; have h7 := HZ.out.2.1.size; omega
  ·have i3 : ¬ 2 * (o : Int) - 1 < (n3 : Int) := by omega
   have uG := Lib.hid ek
   clear ek EE
   go_quiet (fail)
   go_wp2_with fail
   go_ret3
   have hte := pV (F := F) (w := w) HA.out.2.2.2.2.1 HA.out.2.2.2.2.2.1 HA.out.2.2.2.2.2.2.1 HA.out.2.2.2.2.2.2.2.2.1 kU.out H9.out.1 (by rw [pW HA.out.2.2.2.2.1, px.out.2]; rfl) H9.out.2.1 (fun b q hh => hh.1.elim (fun h => .inl (HA.out.2.2.2.2.2.2.2.1 b q h)) (fun h => .inr (Nat.le_trans HB.out.2.2.size h))) (fun q hh => hh.1.elim (HA.out.2.2.2.2.2.2.2.2.2.1 q) (fun h => by have := kU.out; have := HB.out.2.2.size; omega)) (eT.out.1.2.re eT.out.1.2.len.1 (by rw [eT.out.2]; have := uG.out; omega)) (by rw [eT.out.1.1, HA.out.2.2.2.1])
   exact ⟨by rw [<- px.out.1, <- px.out.2]; rfl, hte.below (au (Below.refl _ _) _), H9.out.2.2.drewN _⟩
 | false =>
  obtain ⟨⟨-, t1, -⟩, Qg, -⟩ := dw k4
  have il : (l.length : Int) <= 1000000 := by have := HA.out.2.2.2.2.2.2.2.2.2.2.2; omega
  go_upto_region 9 with fail
  have k5 := Bq k4 (.int .i64 ((l.length : Int) + 1))
  have Jb := (HK.out.1.only (OnlyC.aT wn T 1 (.int .i64 ((l.length : Int) + 1))) (fun b q hh e => by have e1 := e.1; rw [e1] at hh; rcases hh with h5 | h5; (· exact HA.out.2.2.2.2.2.2.2.2.2.1 q h5); (· have h6 := HB.out.2.2.size; have h7 := lt_of_heap HA.out.1; omega))).bound
  have Kh := Kf.trans (OnlyC.aT wn T 1 (.int .i64 ((l.length : Int) + 1))) (fun b q _ e => by obtain ⟨rfl, rfl⟩ := e; exact HA.out.2.2.2.2.2.2.2.2.1 _)
  clear t1 Qg k4 Qd Kf
  generalize wn.setCell ⟨T, 1, none⟩ (.int .i64 ((l.length : Int) + 1)) = W9 at k5 Jb Kh ⊢
  have H9 := Lib.hid (And.intro k5 (And.intro Jb Kh))
  clear k5 Jb Kh
  obtain ⟨Qb, Qc, xC, H3, g1, -, g3, -⟩ := H9.out.2.1.base
  obtain ⟨A3, c3, e3, -⟩ := g3.slice
  rw [List.length_map] at e3
  subst e3
  obtain ⟨n3, jx⟩ : ∃ y, (fB d x p o).ps.length = y := ⟨_, rfl⟩
  rw [jx] at g1
  obtain ⟨⟨z3, -⟩, -, -⟩ := af g1
  obtain ⟨⟨t0, -, t2⟩, -, tf⟩ := dw H9.out.1
  have hput := mW HA.out.2.2.2.2.2.1 p HA.out.2.2.1 (by rw [HA.out.2.2.2.1]; exact HA.out.2.2.2.2.1)
  have EE := hput.2.len.2
  rw [jx] at EE
  have eT := Lib.hid (And.intro hput jx)
  clear hput g1 g3 jx
  have io : (2 : Int) <= (o : Int) := by have := HA.out.2.2.2.2.2.1; omega
  have R4 : (o : Int) <= 16 := by have := HA.out.2.2.2.2.2.2.1; omega
  have Ja : T < w.heap.size := lt_of_heap HA.out.1
  have kU := Lib.hid Ja
  clear Ja
  by_cases ek : 2 * o - 1 < n3
  ·have i3 : 2 * (o : Int) - 1 < (n3 : Int) := by omega
   have uG := Lib.hid ek
   clear ek EE
   go_quiet (fail)
   have MJ : ∀ X Y, World.cell? (((W9.drewN nq).alloc X).alloc Y) ⟨T, 2, none⟩ = some (.pointer (some ⟨r, 0, none⟩)) /\ World.frozen? (((W9.drewN nq).alloc X).alloc Y) ⟨T, 2, none⟩ = false := fun X Y => by
    have hb : Below W9.heap.size W9 (((W9.drewN nq).alloc X).alloc Y) := ((au (Below.refl W9.heap.size W9) nq).alloc (Nat.le_refl _) X).alloc (by simp) Y
    have hk := (Only.of_below hb (fun _ => False)).heap H9.out.1 (fun h => h)
    exact ⟨(dw hk).1.2.2, (dw hk).2.2⟩
   have Kg := MJ (.cells #[.pointer (some ⟨r, 0, none⟩)] 197) (.cells #[.slice none 0 0, .slice (some ⟨W9.heap.size, 0, none⟩) 1 1] 201)
   obtain ⟨hq2, Qf⟩ := Kg
   clear MJ
   go_upto_region 11 with fail
   clear hq2 Qf
   have hbW : Below W9.heap.size W9 (W9.drewN nq) := au (Below.refl _ _) nq
   have uI : (W9.drewN nq).heap.size = W9.heap.size := rfl
   generalize W9.drewN nq = Wq at hbW uI ⊢
   have kS := heap_alloc_new Wq (.cells #[.pointer (some ⟨r, 0, none⟩)] 197)
   have bS := ag Wq (.cells #[.pointer (some ⟨r, 0, none⟩)] 197)
   have Ha : (Wq.alloc (.cells #[.pointer (some ⟨r, 0, none⟩)] 197)).heap.size = W9.heap.size + 1 := by simp [uI]
   rw [uI] at kS
   obtain ⟨S, hS⟩ : ∃ y, W9.heap.size = y := ⟨_, rfl⟩
   rw [hS] at kS Ha ⊢
   generalize Wq.alloc (.cells #[.pointer (some ⟨r, 0, none⟩)] 197) = wa at kS bS Ha ⊢
   have kN := heap_alloc_new wa (.cells #[.slice none 0 0, .slice (some ⟨S, 0, none⟩) 1 1] 201)
   have bN := ag wa (.cells #[.slice none 0 0, .slice (some ⟨S, 0, none⟩) 1 1] 201)
   rw [Ha] at kN
   generalize wa.alloc (.cells #[.slice none 0 0, .slice (some ⟨S, 0, none⟩) 1 1] 201) = wb at kN bN ⊢
   have ml : Below W9.heap.size W9 wb := (hbW.trans (bS.mono hbW.size)).trans (bN.mono (Nat.le_trans hbW.size bS.size))
   have HZ := Lib.hid (And.intro hS (And.intro ml (And.intro ((Only.of_below bN (fun _ => False)).heap kS (fun h => h)) kN)))
   clear hbW uI kS bS Ha kN bN hS ml
   have kT := uH ((Only.of_below HZ.out.2.1 (fun _ => False)).heap H9.out.1 (fun h => h)) (.pointer (some ⟨S + 1, 0, none⟩))
   obtain ⟨⟨u0, -, u2⟩, -, -⟩ := dw kT
   have tS := And.intro u0 u2
   clear u0 u2
   have nb := ((H9.out.2.1.below HZ.out.2.1).Bg HZ.out.2.2.2 HZ.out.2.2.1 (by omega) (fun q hh => by have := hh.2; have := HZ.out.1; omega) (fun q hh => by have := hh.2; have := HZ.out.1; omega)).only (OnlyC.aT wb T 2 (.pointer (some ⟨S + 1, 0, none⟩))) (fun b q hh e => ?_)
   rotate_left
   ·obtain ⟨rfl, -⟩ := e
    have h1 := kU.out
    have h2 := lt_of_heap H9.out.1
    have h3 := HZ.out.1
    rcases hh with hh | hh | hh
    ·rcases hh.1 with h4 | h4
     ·exact HA.out.2.2.2.2.2.2.2.2.2.1 _ h4
     ·have := HB.out.2.2.size; omega
    ·omega
    ·omega
   have HQ := Lib.hid (And.intro nb (And.intro kT (((H9.out.2.2.trans (OnlyC.of_below HZ.out.2.1 F) (fun _ _ _ h => h)).trans (OnlyC.aT wb T 2 (.pointer (some ⟨S + 1, 0, none⟩))) (fun b q _ e => by obtain ⟨rfl, rfl⟩ := e; exact HA.out.2.2.2.2.2.2.2.2.1 _)))))
   clear nb kT
   have EI : (wb.setCell ⟨T, 2, none⟩ (.pointer (some ⟨S + 1, 0, none⟩))).heap.size = wb.heap.size := by simp [World.setCell]
   generalize (wb.setCell ⟨T, 2, none⟩ (.pointer (some ⟨S + 1, 0, none⟩))) = jH at HQ tS EI ⊢
   refine wp_region_held_drew (S := (fun W => W.cell? ⟨T, 0, none⟩ = some (.int .i64 o) /\ W.cell? ⟨T, 2, none⟩ = some (.pointer (some ⟨S + 1, 0, none⟩)))) (by kernel_rfl) tS (fun hHeld => ?_)
   generalize EJ : World.drew jH = MK at hHeld ⊢
   have gf : Below jH.heap.size jH MK := EJ ▸ (Below.refl _ _).drew
   have HV := Lib.hid (And.intro (HQ.out.1.below gf) gf)
   clear EJ tS gf
   refine aO [0, 1, 2, 3, 4, 5, 6, 7] ?_
   iterate 8 (refine cI (v := ?_) (fun wS hSw => ?_) hHeld ?_; rotate_left; (obtain ⟨s0, s1⟩ := hSw; go_simp; try with_reducible rfl); try simp only [av, ax, ay, az])
   refine aP ?_
   refine bg 8 (fun K hK => ?_)
   go_simp
   refine (qM MK d (S + 1) 0 o (.mk [] [fB d x p o]) (fB d x p o) _ HV.out.1.bound (fun b q hh => hh.2) rfl (Nat.zero_le _) (by simp) (by simp) (by rw [eT.out.2]; have := uG.out; have := eT.out.1.2.len.2; rw [eT.out.2] at this; omega) (fun hd => by obtain ⟨d1, rfl⟩ : ∃ d1, d = d1 + 1 := ⟨d - 1, by omega⟩; have h1 := eT.out.1.2.kids; have h2 := eT.out.2; have h3 := uG.out; have h4 := eT.out.1.2.len.2; omega) HA.out.2.2.2.2.2.1 HA.out.2.2.2.2.2.2.1).mono ?_
   rintro e wn ⟨rfl, EK, CB⟩
   have Hb := Lib.hid (And.intro EK CB)
   clear EK CB
   try go_simp
   refine hK.out _ _ (cG hHeld Hb.out.2 (fun hh => by rcases hh.1 with hh | hh | hh; (· rcases hh.1 with h4 | h4; (· exact HA.out.2.2.2.2.2.2.2.2.2.1 _ h4); (· have := HB.out.2.2.size; have := kU.out; omega)); (· have := kU.out; have := lt_of_heap H9.out.1; have := HZ.out.1; omega); (· have := kU.out; have := lt_of_heap H9.out.1; have := HZ.out.1; omega)) (fun hh => by rcases hh.1 with hh | hh | hh; (· rcases hh.1 with h4 | h4; (· exact HA.out.2.2.2.2.2.2.2.2.2.1 _ h4); (· have := HB.out.2.2.size; have := kU.out; omega)); (· have := kU.out; have := lt_of_heap H9.out.1; have := HZ.out.1; omega); (· have := kU.out; have := lt_of_heap H9.out.1; have := HZ.out.1; omega))) (fun ae => ?_)
   clear hK K hHeld 
   have hHeld := ae
   clear ae
   try simp only [av, ax, ay, az]
   refine wpAnyH_done (by kernel_rfl) ?_ _
   have HH := Lib.hid (show World.cell? wn ⟨T, 0, none⟩ = _ /\ _ from hHeld)
   clear hHeld
   go_wp2_with fail
   go_ret3
   have hy : dX d o (2 * o) (2 * o) (fB d x p o) := eT.out.1.2.re (by rw [eT.out.2]; have := uG.out; omega) (by rw [eT.out.2]; have := uG.out; have := eT.out.1.2.len.2; rw [eT.out.2] at this; omega)
   have hrs := tz HA.out.2.2.2.2.2.1 hy
   have k12 := Hb.out.2.heap ((Only.of_below HV.out.2 (fun _ => False)).heap HQ.out.2.1 (fun h => h)) (fun q => (fun hh => by rcases hh.1 with hh | hh | hh; (· rcases hh.1 with h4 | h4; (· exact HA.out.2.2.2.2.2.2.2.2.2.1 _ h4); (· have := HB.out.2.2.size; have := kU.out; omega)); (· have := kU.out; have := lt_of_heap H9.out.1; have := HZ.out.1; omega); (· have := kU.out; have := lt_of_heap H9.out.1; have := HZ.out.1; omega)))
   have hte := pV (F := F) (w := w) HA.out.2.2.2.2.1 HA.out.2.2.2.2.2.1 HA.out.2.2.2.2.2.2.1 HA.out.2.2.2.2.2.2.2.2.1 kU.out k12 (by rw [pW HA.out.2.2.2.2.1, px.out.2]; rfl) Hb.out.1 ?_ ?_ (by rw [if_neg (by omega)]; exact hrs.2) (by rw [hrs.1, eT.out.1.1, HA.out.2.2.2.1])
   ·refine ⟨by rw [<- px.out.1, <- px.out.2]; rfl, hte, (HQ.out.2.2.trans (OnlyC.of_below HV.out.2 F) (fun _ _ _ h => h)).trans Hb.out.2 (fun b q hb hh => ?_)⟩
    have h1 := HB.out.2.2.size
    have h2 := lt_of_heap H9.out.1
    have h3 := HZ.out.1
    have h4 := H9.out.2.2.size
    rcases hh.1 with hh | hh | hh
    ·rcases hh.1 with h5 | h5
     ·exact HA.out.2.2.2.2.2.2.2.1 b q h5
     ·omega
    ·omega
    ·omega
   ·intro b q hh
    have h1 := HB.out.2.2.size
    have h3 := HZ.out.1
    have h4 := H9.out.2.2.size
    have h6 := HV.out.2.size
    have h7 := HZ.out.2.1.size
    rcases hh with hh | hh
    ·rcases hh.1 with hh | hh | hh
     ·rcases hh.1 with h5 | h5
      ·exact .inl (HA.out.2.2.2.2.2.2.2.1 b q h5)
      ·exact .inr (by omega)
     ·exact .inr (by omega)
     ·exact .inr (by omega)
    ·exact .inr (by omega)
   ·intro q hh
    rcases hh with hh | hh
    ·exact (fun hh => by rcases hh.1 with hh | hh | hh; (· rcases hh.1 with h4 | h4; (· exact HA.out.2.2.2.2.2.2.2.2.2.1 _ h4); (· have := HB.out.2.2.size; have := kU.out; omega)); (· have := kU.out; have := lt_of_heap H9.out.1; have := HZ.out.1; omega); (· have := kU.out; have := lt_of_heap H9.out.1; have := HZ.out.1; omega)) hh
    ·have h1 := kU.out; have h3 := HZ.out.1; have h4 := H9.out.2.2.size; have h6 := HV.out.2.size; have h7 := HZ.out.2.1.size; omega
  ·have i3 : ¬ 2 * (o : Int) - 1 < (n3 : Int) := by omega
   have uG := Lib.hid ek
   clear ek EE
   go_quiet (fail)
   go_wp2_with fail
   go_ret3
   have hte := pV (F := F) (w := w) HA.out.2.2.2.2.1 HA.out.2.2.2.2.2.1 HA.out.2.2.2.2.2.2.1 HA.out.2.2.2.2.2.2.2.2.1 kU.out H9.out.1 (by rw [pW HA.out.2.2.2.2.1, px.out.2]; rfl) H9.out.2.1 (fun b q hh => hh.1.elim (fun h => .inl (HA.out.2.2.2.2.2.2.2.1 b q h)) (fun h => .inr (Nat.le_trans HB.out.2.2.size h))) (fun q hh => hh.1.elim (HA.out.2.2.2.2.2.2.2.2.2.1 q) (fun h => by have := kU.out; have := HB.out.2.2.size; omega)) (eT.out.1.2.re eT.out.1.2.len.1 (by rw [eT.out.2]; have := uG.out; omega)) (by rw [eT.out.1.1, HA.out.2.2.2.1])
   exact ⟨by rw [<- px.out.1, <- px.out.2]; rfl, hte.below (au (Below.refl _ _) _), H9.out.2.2.drewN _⟩
theorem DF (n : Nat) (h : n <= 100000) : (True -> wrap64 (n : Int) = (n : Int)) /\ (True -> IntKind.i64.wrap (n : Int) = (n : Int)) := by
 rw [IntKind.wrap_i64]
 unfold wrap64
 exact ⟨fun _ => by omega, fun _ => by omega⟩
theorem xD {kl kr : ND} {s z : Pr} {m : Nat} (hm : kl.ps.length = m + 1) (hz : kl.ps[m]? = some z) : df 0 kl s kr = (.mk (kl.ps.take m) [], z, .mk (s :: kr.ps) []) := by
 show (ND.mk (kl.ps.take (kl.ps.length - 1)) [], kl.ps[kl.ps.length - 1]?.getD ([], []), ND.mk (s :: kr.ps) []) = _
 rw [hm, Nat.add_sub_cancel, hz]
 rfl
theorem ny {d : Nat} {kl kr k0 : ND} {s z : Pr} {m : Nat} (hd : d ≠ 0) (hm : kl.ps.length = m + 1) (hz : kl.ps[m]? = some z) (hk : kl.ks.length = m + 2) (dW : kl.ks[m + 1]? = some k0) : df d kl s kr = (.mk (kl.ps.take m) (kl.ks.take (m + 1)), z, .mk (s :: kr.ps) (k0 :: kr.ks)) := by
 obtain ⟨d1, rfl⟩ : ∃ d1, d = d1 + 1 := ⟨d - 1, by omega⟩
 show (ND.mk (kl.ps.take (kl.ps.length - 1)) (kl.ks.take (kl.ks.length - 1)), kl.ps[kl.ps.length - 1]?.getD ([], []), ND.mk (s :: kr.ps) (kl.ks[kl.ks.length - 1]?.getD vY :: kr.ks)) = _
 rw [hm, Nat.add_sub_cancel, hz, hk, show m + 2 - 1 = m + 1 by omega, dW]
 rfl
theorem aj.eo {w : World} {b o n c i : Nat} {ps : List Pr} {F : Nat -> Nat -> Prop} (k v : List UInt8) (h : aj 2 210 w (.slice (some ⟨b, o, none⟩) n c) (ps.map ah) F) (hi : i < ps.length) :
  aj 2 210 ((w.setCell ⟨b, o + i * 2, none⟩ (.string ⟨k.toArray⟩)).setCell ⟨b, o + i * 2 + 1, none⟩ (.string ⟨v.toArray⟩)) (.slice (some ⟨b, o, none⟩) n c) ((ps.take i ++ (k, v) :: ps.drop (i + 1)).map ah) F /\
   OnlyC F w ((w.setCell ⟨b, o + i * 2, none⟩ (.string ⟨k.toArray⟩)).setCell ⟨b, o + i * 2 + 1, none⟩ (.string ⟨v.toArray⟩)) := by
 obtain ⟨b', o', c', cs, e1, q2, q3, q4, q6, q7, q8, q9⟩ := h.lies (by simp; omega)
 simp only [List.length_map, Value.slice.injEq, Option.some.injEq, Addr.mk.injEq, and_true] at e1
 obtain ⟨⟨rfl, rfl⟩, rfl, rfl⟩ := e1
 rw [List.length_map] at q2
 obtain ⟨cs', k1, k2, k3, k4⟩ := bH (t := 210) [.string ⟨k.toArray⟩, .string ⟨v.toArray⟩] (o + i * 2) w cs q6 (by simp; omega)
 have ho := bj b [.string ⟨k.toArray⟩, .string ⟨v.toArray⟩] (o + i * 2) w
 constructor
 ·refine aj.rewritten k1 k2 q7 q8 (by simp; omega) q2 q3 (fun x hx => by obtain ⟨y, _, rfl⟩ := List.mem_map.1 hx; rfl) (fun j u hj => ?_)
  have hlk : (((ps.take i).map ah).flatten).length = i * 2 := by
   rw [aZ (k := 2) (fun x hx => by obtain ⟨y, _, rfl⟩ := List.mem_map.1 hx; rfl)]
   simp; omega
  obtain ⟨z0, hz0⟩ : ∃ z, ps[i]? = some z := ⟨_, List.getElem?_eq_getElem hi⟩
  have hsp : ps = ps.take i ++ z0 :: ps.drop (i + 1) := cS hz0
  have e1 : ((ps.take i ++ (k, v) :: ps.drop (i + 1)).map ah).flatten = ((ps.take i).map ah).flatten ++ (.string ⟨k.toArray⟩ :: .string ⟨v.toArray⟩ :: ((ps.drop (i + 1)).map ah).flatten) := by simp [ah]
  have e2 : (ps.map ah).flatten = ((ps.take i).map ah).flatten ++ (.string ⟨z0.1.toArray⟩ :: .string ⟨z0.2.toArray⟩ :: ((ps.drop (i + 1)).map ah).flatten) := by
   conv => lhs; rw [hsp]
   simp [ah]
  rw [e1] at hj
  rw [e2] at q9
  by_cases c1 : i * 2 <= j /\ j < i * 2 + 2
  ·rw [List.getElem?_append_right (by omega), hlk] at hj
   have := k4 (j - i * 2) u (by
    obtain ⟨t, ht⟩ : ∃ t, j - i * 2 = t := ⟨_, rfl⟩
    rw [ht] at hj ⊢
    match t, ht, hj with
    | 0, _, hj => simpa using hj
    | 1, _, hj => simpa using hj
    | t + 2, ht, _ => omega)
   rw [show o + i * 2 + (j - i * 2) = o + j by omega] at this
   exact this
  ·rw [k3 (o + j) (by simp; omega)]
   refine q9 j u ?_
   rw [List.getElem?_append] at hj ⊢
   split
   ·rename_i c2
    rw [if_pos c2] at hj
    exact hj
   ·rename_i c2
    rw [if_neg c2, hlk] at hj
    rw [hlk] at c2 ⊢
    obtain ⟨t, ht⟩ : ∃ t, j - i * 2 = t := ⟨_, rfl⟩
    rw [ht] at hj ⊢
    match t, ht, hj with
    | 0, ht, _ => omega
    | 1, ht, _ => omega
    | t + 2, _, hj => simpa using hj
 ·refine ho.mono (fun b' q _ e => ?_)
  obtain ⟨rfl, h1, h2⟩ := e
  exact q8 _ (by omega) (by simp at h2; omega)
theorem fE {W W' : World} {F : Nat -> Nat -> Prop} {b1 q1 b2 q2 b3 q3 : Nat} {v1 v2 v3 : Value} (h : W.cell? ⟨b1, q1, none⟩ = some v1 /\ W.cell? ⟨b2, q2, none⟩ = some v2 /\ W.cell? ⟨b3, q3, none⟩ = some v3) (ho : OnlyC F W W') (h1 : ¬ F b1 q1) (h2 : ¬ F b2 q2) (h3 : ¬ F b3 q3) : W'.cell? ⟨b1, q1, none⟩ = some v1 /\ W'.cell? ⟨b2, q2, none⟩ = some v2 /\ W'.cell? ⟨b3, q3, none⟩ = some v3 :=
 ⟨ho.cell h.1 h1, ho.cell h.2.1 h2, ho.cell h.2.2 h3⟩
theorem oH {W W' : World} {p1 p2 p3 : Addr} {v1 v2 v3 : Value} (h : W.cell? p1 = some v1 /\ W.cell? p2 = some v2 /\ W.cell? p3 = some v3) (hb : Below W.heap.size W W') : W'.cell? p1 = some v1 /\ W'.cell? p2 = some v2 /\ W'.cell? p3 = some v3 :=
 ⟨(hb.cell (World.block_lt_of_cell? _ _ h.1)).trans h.1, (hb.cell (World.block_lt_of_cell? _ _ h.2.1)).trans h.2.1, (hb.cell (World.block_lt_of_cell? _ _ h.2.2)).trans h.2.2⟩
theorem aj.iR {w : World} {b o n c i : Nat} {ps : List Pr} {F : Nat -> Nat -> Prop} {p : Pr} (h : aj 2 210 w (.slice (some ⟨b, o, none⟩) n c) (ps.map ah) F) (hp : ps[i]? = some p) :
  (w.cell? ⟨b, o + i * 2, none⟩ = some (.string ⟨p.1.toArray⟩) /\ w.cell? ⟨b, o + i * 2 + 1, none⟩ = some (.string ⟨p.2.toArray⟩)) /\ w.frozen? ⟨b, o + i * 2, none⟩ = false /\ w.frozen? ⟨b, o + i * 2 + 1, none⟩ = false := by
 obtain ⟨b', o', c', e1, _, _, h1, h2, h3, h4⟩ := h.pair hp
 simp only [Value.slice.injEq, Option.some.injEq, Addr.mk.injEq, and_true] at e1
 obtain ⟨⟨rfl, rfl⟩, rfl, rfl⟩ := e1
 exact ⟨⟨h1, h2⟩, h3, h4⟩
theorem aj.xE {w : World} {b o n c i p : Nat} {ps : List Nat} {F : Nat -> Nat -> Prop} (h : aj 1 197 w (.slice (some ⟨b, o, none⟩) n c) (ps.map aD) F) (hp : ps[i]? = some p) : w.cell? ⟨b, o + i, none⟩ = some (.pointer (some ⟨p, 0, none⟩)) := by
 obtain ⟨b', o', c', e1, _, _, h1⟩ := h.ptr hp
 simp only [Value.slice.injEq, Option.some.injEq, Addr.mk.injEq, and_true] at e1
 obtain ⟨⟨rfl, rfl⟩, rfl, rfl⟩ := e1
 exact h1
theorem aj.mP {w : World} {b o n c i : Nat} {ps : List Pr} {F : Nat -> Nat -> Prop} (h : aj 2 210 w (.slice (some ⟨b, o, none⟩) n c) (ps.map ah) F) (hi : i < ps.length) : F b (o + i * 2) /\ F b (o + i * 2 + 1) := by
 obtain ⟨b', o', c', cs, e1, q2, q3, q4, q6, q7, q8, q9⟩ := h.lies (by simp; omega)
 simp only [List.length_map, Value.slice.injEq, Option.some.injEq, Addr.mk.injEq, and_true] at e1
 obtain ⟨⟨rfl, rfl⟩, rfl, rfl⟩ := e1
 rw [List.length_map] at q2
 exact ⟨q8 _ (by omega) (by omega), q8 _ (by omega) (by omega)⟩
theorem aj.xG {w : World} {b o n c i : Nat} {ps : List Nat} {F : Nat -> Nat -> Prop} (h : aj 1 197 w (.slice (some ⟨b, o, none⟩) n c) (ps.map aD) F) (hi : i < ps.length) : F b (o + i) := by
 obtain ⟨b', o', c', cs, e1, q2, q3, q4, q6, q7, q8, q9⟩ := h.lies (by simp; omega)
 simp only [List.length_map, Value.slice.injEq, Option.some.injEq, Addr.mk.injEq, and_true] at e1
 obtain ⟨⟨rfl, rfl⟩, rfl, rfl⟩ := e1
 rw [List.length_map] at q2
 exact q8 _ (by omega) (by omega)
set_option maxHeartbeats 8000000 in
theorem xH (w : World) (d a i i1 : Nat) (x : ND) (F : Nat -> Nat -> Prop) (h : ai w (d + 1) a x F) (hF : ∀ b q, F b q -> b < w.heap.size) (hi1 : i1 = i + 1) (hi : i + 1 < x.ks.length) (hps : x.ks.length = x.ps.length + 1) (hpl : x.ps.length <= 900)
  (Qh : 1 <= (aK x i).ps.length) (Kb : (aK x i).ps.length <= 900) (ML : (aK x (i + 1)).ps.length <= 900) (hkk : d ≠ 0 -> (aK x i).ks.length = (aK x i).ps.length + 1) (MN : (aK x (i + 1)).ks.length <= 901) :
  Calls Tryz.prog 211 #[.pointer (some ⟨a, 0, none⟩), .int .i64 i1] w fun e w' => e = .returned (.tuple #[]) /\ ai w' (d + 1) a (pI x i (df d (aK x i) (fp x i) (aK x (i + 1)))) (fun b q => F b q \/ w.heap.size <= b) /\ OnlyC F w w' := by
 obtain ⟨_, vp, vk, ak, H, hO, _⟩ := h.open_
 have qO := cD (x := x) (i := i) (by omega)
 have qP := cD (x := x) (i := i + 1) (by omega)
 generalize MO : aK x i = kl at *
 generalize MP : aK x (i + 1) = kr at *
 clear MO MP
 obtain ⟨l, hl⟩ : ∃ y, ak[i]? = some y := ⟨_, List.getElem?_eq_getElem (by rw [hO.2.2.2.2.1]; omega)⟩
 obtain ⟨r, hr⟩ : ∃ y, ak[i + 1]? = some y := ⟨_, List.getElem?_eq_getElem (by rw [hO.2.2.2.2.1]; omega)⟩
 obtain ⟨lq, vl, ul, pl, Hl, hL, yX⟩ := (show ai w d l kl (H (i + 3)) from hO.2.2.2.2.2.1 i l kl hl qO).open_
 obtain ⟨hdr, vr, ur, pr, Hr, hR, Gj⟩ := (show ai w d r kr (H (i + 4)) from hO.2.2.2.2.2.1 (i + 1) r kr hr qP).open_
 have hB := aV.start hO hF hL hR
 obtain ⟨s, hs⟩ : ∃ p, x.ps[i]? = some p := ⟨_, List.getElem?_eq_getElem (by omega)⟩
 have xI : fp x i = s := by unfold fp; rw [hs]; rfl
 rw [xI]
 obtain ⟨m, hm⟩ : ∃ m, kl.ps.length = m + 1 := ⟨kl.ps.length - 1, by omega⟩
 obtain ⟨z, hz⟩ : ∃ p, kl.ps[m]? = some p := ⟨_, List.getElem?_eq_getElem (by omega)⟩
 obtain ⟨bn, on, cn, e0, -, -, s0, s1, -⟩ := hO.2.2.1.pair hs
 subst e0
 obtain ⟨bl, ol, cl, e0, -, -, -⟩ := hL.2.2.1.pair hz
 subst e0
 obtain ⟨Ar, cr, e0, -⟩ := hR.2.2.1.slice
 rw [List.length_map] at e0
 subst e0
 obtain ⟨bk, ok, ck, e0, -, -, r1⟩ := hO.2.2.2.1.ptr hl
 obtain ⟨R5, ok', R6, Gl, -, -, r2⟩ := hO.2.2.2.1.ptr hr
 subst e0
 simp only [Value.slice.injEq, Option.some.injEq, Addr.mk.injEq, and_true, true_and] at Gl
 obtain ⟨⟨rfl, rfl⟩, rfl⟩ := Gl
 obtain ⟨Al, Jc, e0, -⟩ := hL.2.2.2.1.slice
 rw [List.length_map] at e0
 subst e0
 obtain ⟨LJ, Gm, e0, -⟩ := hR.2.2.2.1.slice
 rw [List.length_map] at e0
 subst e0
 obtain ⟨np, kM⟩ : ∃ y, x.ps.length = y := ⟨_, rfl⟩
 obtain ⟨nr, rX⟩ : ∃ y, kr.ps.length = y := ⟨_, rfl⟩
 obtain ⟨nk, jn⟩ : ∃ y, ak.length = y := ⟨_, rfl⟩
 obtain ⟨xJ, iz⟩ : ∃ y, pl.length = y := ⟨_, rfl⟩
 obtain ⟨uJ, iA⟩ : ∃ y, pr.length = y := ⟨_, rfl⟩
 obtain ⟨nl, hnl⟩ : ∃ y, kl.ps.length = y := ⟨_, rfl⟩
 have jd := hO.2.2.2.2.1
 have Jd := hL.2.2.2.2.1
 have Br := hR.2.2.2.2.1
 rw [kM, jn] at hO
 rw [hnl, iz] at hL
 rw [rX, iA] at hR
 rw [kM, jn, hnl, iz, rX, iA] at hB
 have py := (hO.2.2.1.mP (i := i) (by omega))
 have HA := Lib.hid (And.intro hO (And.intro hF (And.intro hL (And.intro yX (And.intro hR (And.intro Gj (And.intro hl (And.intro hr (And.intro qO (And.intro qP (And.intro hs (And.intro hz (And.intro lq hdr)))))))))))))
 have HN := Lib.hid (show np = x.ps.length /\ nr = kr.ps.length /\ nk = ak.length /\ xJ = pl.length /\ uJ = pr.length /\ nl = kl.ps.length /\ kl.ps.length = m + 1 /\ ak.length = x.ks.length /\ pl.length = kl.ks.length /\ pr.length = kr.ks.length /\ i + 1 < x.ks.length /\ x.ks.length = x.ps.length + 1 /\ i1 = i + 1 /\ (d ≠ 0 -> kl.ks.length = kl.ps.length + 1) from ⟨kM.symm, rX.symm, jn.symm, iz.symm, iA.symm, hnl.symm, hm, jd, Jd, Br, hi, hps, hi1, hkk⟩)
 have HB := Lib.hid hB
 have HP := Lib.hid py
 obtain ⟨⟨Bt, LK⟩, -, -⟩ := af hB.kK.1
 have j1 : (i1 : Int) - 1 = (i : Int) := by omega
 have j2 : (0 : Int) <= (i : Int) := by omega
 have j3 : (i : Int) < (nk : Int) := by omega
 have j4 : (i1 : Int) < (nk : Int) := by omega
 have j5 : (0 : Int) <= (i1 : Int) := by omega
 have j6 : (i : Int) < (np : Int) := by omega
 have j7 : (nl : Int) - 1 = (m : Int) := by omega
 have j8 : (0 : Int) <= (m : Int) := by omega
 have j9 : (m : Int) < (nl : Int) := by omega
 have j10 : nl <= 900 := by omega
 obtain ⟨j11, j12⟩ := DF i (by omega)
 obtain ⟨j13, Wm⟩ := DF m (by omega)
 have r2' : w.cell? ⟨bk, ok + i1, none⟩ = some (.pointer (some ⟨r, 0, none⟩)) := by rw [hi1]; exact r2
 clear r2 h hO hF hL yX hR Gj hl hr qO qP hB hs hz hm kM rX jn iz iA hnl jd Jd Br py hi1 xI Qh hkk lq hdr
 go_enter Tryz.func211, Tryz.ntmps211
 go_wp2_with fail
 go_quiet (fail)
 go_upto_region 1 with fail
 have pX : Below w.heap.size w (w.drewN nq) := au (Below.refl _ _) nq
 generalize w.drewN nq = wq at pX ⊢
 have Je := (pX.cell (World.block_lt_of_cell? _ _ s0)).trans s0
 have Jf := (pX.cell (World.block_lt_of_cell? _ _ s1)).trans s1
 have HB := Lib.hid (HB.out.below pX)
 clear Bt LK r1 r2' s0 s1 pX
 obtain ⟨⟨UK, -⟩, -, -⟩ := af HB.out.eA.1
 go_upto_region 2 with fail
 clear UK
 obtain ⟨⟨Bt, -⟩, -, -⟩ := af HB.out.kK.1
 have tS := And.intro Bt (And.intro Je Jf)
 clear Bt Je Jf
 refine wp_region_held_drew (S := (fun W => W.cell? ⟨a, 0, none⟩ = some (.slice (some ⟨bn, on, none⟩) np cn) /\ W.cell? ⟨bn, on + i * 2, none⟩ = some (.string ⟨s.1.toArray⟩) /\ W.cell? ⟨bn, on + i * 2 + 1, none⟩ = some (.string ⟨s.2.toArray⟩))) (by kernel_rfl) tS (fun hHeld => ?_)
 generalize hW3 : World.drew wq = W3 at hHeld ⊢
 have HB := Lib.hid (HB.out.below (w1 := W3) (hW3 ▸ (Below.refl _ _).drew))
 clear hW3 tS
 refine aO [0, 1, 2, 3, 5, 6, 7, 8, 9, 10, 11, 12] ?_
 iterate 12 (refine cI (v := ?_) (fun wS hSw => ?_) hHeld ?_; rotate_left; (obtain ⟨s0, s1, s2⟩ := hSw; go_simp; try with_reducible rfl); try simp only [av, ax, ay, az])
 refine aP ?_
 refine wpAnyH_ready (rs := [4, 13]) (by kernel_rfl) (by simp) (cy (i := 4) rfl (fun K hK => ?_) (cy (i := 13) rfl (fun K hK => ?_) AllReadyH.nil))
 ·skip
  obtain ⟨⟨r6, -⟩, -, -⟩ := af HB.out.fC.1
  go_simp
  refine hK.out _ _ (hHeld) (fun ae => ?_)
  clear hK K hHeld r6
  have hHeld := ae
  clear ae
  try simp only [av, ax, ay, az]
  refine bg 13 (fun K hK => ?_)
  go_simp
  refine hK.out _ _ (oH hHeld (ag _ _)) (fun ae => ?_)
  clear hK K hHeld 
  have hHeld := ae
  clear ae
  try simp only [av, ax, ay, az]
  have kV := heap_alloc_new W3 (.cells #[.string ⟨s.1.toArray⟩, .string ⟨s.2.toArray⟩] 210)
  have bV := ag W3 (.cells #[.string ⟨s.1.toArray⟩, .string ⟨s.2.toArray⟩] 210)
  have hvb : ∀ q, ¬ Hr 1 W3.heap.size q := fun q hh => Nat.lt_irrefl _ (HB.out.Ms hh)
  generalize W3.alloc (.cells #[.string ⟨s.1.toArray⟩, .string ⟨s.2.toArray⟩] 210) = W5 at kV bV hHeld ⊢
  obtain ⟨VB, fD⟩ : ∃ y, W3.heap.size = y := ⟨_, rfl⟩
  rw [fD] at kV hvb ⊢
  have HV := Lib.hid (And.intro kV hvb)
  have HB := Lib.hid (HB.out.below bV)
  clear kV bV fD hvb
  refine bg 14 (fun K hK => ?_)
  go_simp
  refine (gG W5 (Hr 1) _ (kr.ps.map ah) 0 _ rfl (ah s) VB HB.out.fC.2.1 (Nat.zero_le _) (by rw [List.length_map]; omega) (by rfl) (by simp [ah, Value.oneCell']) (cL _) HV.out.1 HV.out.2).mono ?_
  rintro e wn ⟨v6, rfl, bw, dM⟩
  rw [dm] at bw
  simp only [List.take_zero, List.nil_append, List.drop_zero] at bw
  obtain ⟨A6, c6, eD, -⟩ := bw.slice
  obtain ⟨n6, ed⟩ : ∃ y, ((s :: kr.ps).map ah).length = y := ⟨_, rfl⟩
  rw [ed] at eD
  subst eD
  clear ed
  have H6 := Lib.hid (And.intro bw dM)
  clear bw dM
  try go_simp
  refine hK.out _ _ (fE hHeld H6.out.2 (fun hh => HB.out.Mr hh rfl) (fun hh => HB.out.pd HP.out.1 hh) (fun hh => HB.out.pd HP.out.2 hh)) (fun ae => ?_)
  clear hK K hHeld 
  have hHeld := ae
  clear ae
  try simp only [av, ax, ay, az]
  refine aO [15, 16] ?_
  iterate 2 (refine cI (v := ?_) (fun wS hSw => ?_) hHeld ?_; rotate_left; (obtain ⟨s0, s1, s2⟩ := hSw; go_simp; try with_reducible rfl); try simp only [av, ax, ay, az])
  refine aP ?_
  refine bg 17 (fun K hK => ?_)
  obtain ⟨⟨r6, -⟩, rf, -⟩ := af (H6.out.2.heap HB.out.fC.1 (fun q hh => HB.out.G3 hh rfl))
  go_simp
  refine hK.out _ _ (fE hHeld (OnlyC.aT _ r 0 _) (fun e => HB.out.RY e.1) (fun e => HB.out.Cw HP.out.1 e.1) (fun e => HB.out.Cw HP.out.2 e.1)) (fun ae => ?_)
  clear hK K hHeld r6 rf
  have hHeld := ae
  clear ae
  try simp only [av, ax, ay, az]
  refine wpAnyH_done (by kernel_rfl) ?_ _
  have di := HB.out.p2 (Below.refl _ _) H6.out.2 H6.out.1
  clear hHeld
  generalize wn.setCell ⟨r, 0, none⟩ (.slice A6 n6 c6) = w7 at di ⊢
  have HB := Lib.hid di
  clear di HV H6
  obtain ⟨c3, c4⟩ := (HB.out.eA.2.1.iR HA.out.2.2.2.2.2.2.2.2.2.2.2.1).1
  obtain ⟨⟨c1, -⟩, -, -⟩ := af HB.out.kK.1
  obtain ⟨⟨c2, -⟩, -, -⟩ := af HB.out.eA.1
  have tS := And.intro c1 (And.intro c2 (And.intro c3 c4))
  clear c1 c2 c3 c4
  have HZ := Lib.hid (HB.out.eA.2.1.mP (i := m) (by have := HN.out.2.2.2.2.2.2.1; omega))
  go_upto_region 3 with fail
  refine wp_region_held_drew (S := (fun W => W.cell? ⟨a, 0, none⟩ = some (.slice (some ⟨bn, on, none⟩) np cn) /\ W.cell? ⟨l, 0, none⟩ = some (.slice (some ⟨bl, ol, none⟩) nl cl) /\ W.cell? ⟨bl, ol + m * 2, none⟩ = some (.string ⟨z.1.toArray⟩) /\ W.cell? ⟨bl, ol + m * 2 + 1, none⟩ = some (.string ⟨z.2.toArray⟩))) (by kernel_rfl) tS (fun hHeld => ?_)
  generalize hW3 : World.drew w7 = W3 at hHeld ⊢
  have HB := Lib.hid (HB.out.below (w1 := W3) (hW3 ▸ (Below.refl _ _).drew))
  clear hW3 tS
  refine aO [0, 1, 2, 3, 4, 5, 6, 7, 8, 9, 10, 11, 12, 13] ?_
  iterate 14 (refine cI (v := ?_) (fun wS hSw => ?_) hHeld ?_; rotate_left; (obtain ⟨s0, s1, s2, s3⟩ := hSw; go_simp; try with_reducible rfl); try simp only [av, ax, ay, az])
  refine aP ?_
  refine bg 14 (fun K hK => ?_)
  obtain ⟨⟨c5, c6⟩, f5, f6⟩ := HB.out.kK.2.1.iR HA.out.2.2.2.2.2.2.2.2.2.2.1
  go_simp
  refine hK.out _ _ (qN hHeld (HB.out.kK.2.1.eo (i := i) z.1 z.2 (by have := HN.out.2.2.2.2.2.2.2.2.2.2.1; have := HN.out.2.2.2.2.2.2.2.2.2.2.2.1; omega)).2 (fun hh => HB.out.Cv hh rfl) (fun hh => HB.out.sf hh rfl) (fun hh => HB.out.kL hh HZ.out.1) (fun hh => HB.out.kL hh HZ.out.2)) (fun ae => ?_)
  clear hK K hHeld c5 c6 f5 f6
  have hHeld := ae
  clear ae
  try simp only [av, ax, ay, az]
  refine wpAnyH_done (by kernel_rfl) ?_ _
  have vL := HB.out.i0 (HB.out.kK.2.1.eo (i := i) z.1 z.2 (by have := HN.out.2.2.2.2.2.2.2.2.2.2.1; have := HN.out.2.2.2.2.2.2.2.2.2.2.2.1; omega)).2 (HB.out.kK.2.1.eo (i := i) z.1 z.2 (by have := HN.out.2.2.2.2.2.2.2.2.2.2.1; have := HN.out.2.2.2.2.2.2.2.2.2.2.2.1; omega)).1
  clear hHeld
  generalize (W3.setCell ⟨bn, on + i * 2, none⟩ (.string ⟨z.1.toArray⟩)).setCell ⟨bn, on + i * 2 + 1, none⟩ (.string ⟨z.2.toArray⟩) = w8 at vL ⊢
  have HB := Lib.hid vL
  clear vL HZ
  obtain ⟨⟨c2, -⟩, -, -⟩ := af HB.out.eA.1
  go_wp2_with fail
  refine (ji w8 (Hl 1) _ (kl.ps.map ah) m _ _ rfl (by simp) HB.out.eA.2.1 (by rw [List.length_map]; have := HN.out.2.2.2.2.2.2.1; omega) (by rw [List.length_map]; omega) (cL _)).mono ?_
  rintro e w9 ⟨v9, rfl, bM, dS⟩
  rw [<- List.map_take, <- List.map_drop, <- List.map_append] at bM
  have xK : kl.ps.drop (m + 1) = [] := List.drop_eq_nil_of_le (by have := HN.out.2.2.2.2.2.2.1; omega)
  rw [xK, List.append_nil] at bM
  obtain ⟨A9, c9, eW, -⟩ := bM.slice
  obtain ⟨n9, eX⟩ : ∃ y, ((kl.ps.take m).map ah).length = y := ⟨_, rfl⟩
  rw [eX] at eW
  subst eW
  clear eX xK c2
  have H9 := Lib.hid (And.intro bM dS)
  clear bM dS
  obtain ⟨⟨c2, -⟩, f2, -⟩ := af (H9.out.2.heap HB.out.eA.1 (fun q hh => HB.out.xm hh rfl))
  go_upto_region 5 with fail
  clear c2 f2
  have hB4 := HB.out.p1 (Below.refl _ _) H9.out.2 (H9.out.1.mono (fun b q hh => .inl hh))
  generalize w9.setCell ⟨l, 0, none⟩ (.slice A9 n9 c9) = wA at hB4 ⊢
  have HB := Lib.hid hB4
  clear hB4 H9
  obtain ⟨⟨-, c2⟩, -, -⟩ := af HB.out.eA.1
  by_cases hd : d = 0
  ·subst hd
   have e1 : kl.ks = [] := HA.out.2.2.2.2.2.2.2.2.2.2.2.2.1 rfl
   have e2 : kr.ks = [] := HA.out.2.2.2.2.2.2.2.2.2.2.2.2.2 rfl
   have dW : xJ = 0 := by rw [HN.out.2.2.2.1, HN.out.2.2.2.2.2.2.2.2.1, e1]; rfl
   subst dW
   have gV := Lib.hid (cP wA l Jc Al c2)
   have HE := Lib.hid (And.intro e1 e2)
   clear c2 e1 e2
   go_wp2_with fail
   refine gV.out.mono ?_
   rintro e wZ ⟨rfl, zj⟩
   subst zj
   go_wp2_with fail
   first | refine bodyPost_end (results_none rfl _ _ _) rfl ?_ | refine bodyPost_ret (results_none rfl _ _ _) rfl ?_
   obtain ⟨e1, e2⟩ := HE.out
   have hE := fk HA.out.1 HA.out.2.1 (by have := HN.out.2.2.2.2.2.2.2.2.2.2.1; omega) HA.out.2.2.1 HA.out.2.2.2.1 HA.out.2.2.2.2.1 HA.out.2.2.2.2.2.1 HB.out 0 0 (Nat.le_refl _) (Nat.zero_le _) [] (fun _ _ _ => False) 0 0 (Nat.le_refl _) (Nat.zero_le _) [] (fun _ _ _ => False) rfl HA.out.2.2.2.2.2.2.1 HA.out.2.2.2.2.2.2.2.1 (by simp) (by simp) (fun _ _ _ h => h.elim) (fun _ _ _ h => h.elim) (fun _ _ _ _ h => h.elim) (fun _ _ _ _ h => h.elim) (fun m p k hm => by simp at hm) (fun m p k hm => by simp at hm) (by simp [e1]) (by simp [e2])
   rw [xD HN.out.2.2.2.2.2.2.1 HA.out.2.2.2.2.2.2.2.2.2.2.2.1]
   refine ⟨rfl, ?_, hE.2⟩
   have h1 := hE.1
   simp only [e1, e2, List.take_nil, List.drop_nil, List.map_nil, List.append_nil] at h1
   exact h1
  ·have hkk := HN.out.2.2.2.2.2.2.2.2.2.2.2.2.2 hd
   obtain ⟨m1, kX⟩ : ∃ y, y = m + 1 := ⟨_, rfl⟩
   have qQ : pl.length = m1 + 1 := by have := HN.out.2.2.2.2.2.2.2.2.1; have := HN.out.2.2.2.2.2.2.1; omega
   obtain ⟨p0, hp0⟩ : ∃ p, pl[m1]? = some p := ⟨_, List.getElem?_eq_getElem (by omega)⟩
   obtain ⟨k0, dW⟩ : ∃ p, kl.ks[m1]? = some p := ⟨_, List.getElem?_eq_getElem (by have := HN.out.2.2.2.2.2.2.2.2.1; omega)⟩
   have uK := HB.out
   obtain ⟨MQ, MR, Qi, e0, -, -, -⟩ := uK.eA.2.2.ptr hp0
   simp only [Value.slice.injEq] at e0
   obtain ⟨rfl, -, rfl⟩ := e0
   have iz : xJ = m1 + 1 := by rw [HN.out.2.2.2.1]; exact qQ
   have gV := Lib.hid (dQ wA l xJ Jc _ (by omega) c2)
   have HB := Lib.hid uK
   have HM := Lib.hid (And.intro kX (And.intro qQ (And.intro hp0 (And.intro dW (And.intro hkk (And.intro iz (uK.eA.2.2.xG (i := m1) (by omega))))))))
   have q1 : (m : Int) + 1 = (m1 : Int) := by omega
   have q2 : m1 <= 901 := by have := HN.out.2.2.2.2.2.2.1; omega
   obtain ⟨q3, q4⟩ := DF m1 (by omega)
   have q5 : (0 : Int) <= (m1 : Int) := by omega
   have q6 : (m1 : Int) < (xJ : Int) := by omega
   have q7 : xJ <= 902 := by omega
   clear uK kX qQ hp0 dW hkk iz hd c2
   go_wp2_with fail
   refine gV.out.mono ?_
   rintro e wZ ⟨rfl, zj⟩
   subst zj
   clear gV
   obtain ⟨⟨-, c1⟩, -, -⟩ := af HB.out.eA.1
   have tS := And.intro c1 (HB.out.eA.2.2.xE HM.out.2.2.1)
   clear c1
   go_upto_region 6 with fail
   refine wp_region_held_drew (S := (fun W => W.cell? ⟨l, 1, none⟩ = some (.slice (some ⟨MQ, MR, none⟩) xJ Jc) /\ W.cell? ⟨MQ, MR + m1, none⟩ = some (.pointer (some ⟨p0, 0, none⟩)))) (by kernel_rfl) tS (fun hHeld => ?_)
   generalize hW3 : World.drew wA = W3 at hHeld ⊢
   have HB := Lib.hid (HB.out.below (w1 := W3) (hW3 ▸ (Below.refl _ _).drew))
   clear hW3 tS
   refine aO [0, 1, 2, 3, 5, 6, 7, 8, 9, 10, 11, 12] ?_
   iterate 12 (refine cI (v := ?_) (fun wS hSw => ?_) hHeld ?_; rotate_left; (obtain ⟨s0, s1⟩ := hSw; go_simp; try with_reducible rfl); try simp only [av, ax, ay, az])
   refine aP ?_
   refine wpAnyH_ready (rs := [4, 13]) (by kernel_rfl) (by simp) (cy (i := 4) rfl (fun K hK => ?_) (cy (i := 13) rfl (fun K hK => ?_) AllReadyH.nil))
   ·skip
    obtain ⟨⟨-, r6⟩, -, -⟩ := af HB.out.fC.1
    go_simp
    refine hK.out _ _ (hHeld) (fun ae => ?_)
    clear hK K hHeld r6
    have hHeld := ae
    clear ae
    try simp only [av, ax, ay, az]
    refine bg 13 (fun K hK => ?_)
    go_simp
    refine hK.out _ _ (jm hHeld (ag _ _)) (fun ae => ?_)
    clear hK K hHeld 
    have hHeld := ae
    clear ae
    try simp only [av, ax, ay, az]
    have kV := heap_alloc_new W3 (.cells #[.pointer (some ⟨p0, 0, none⟩)] 197)
    have bV := ag W3 (.cells #[.pointer (some ⟨p0, 0, none⟩)] 197)
    have hvb : ∀ q, ¬ Hr 2 W3.heap.size q := fun q hh => Nat.lt_irrefl _ (HB.out.G5 hh)
    generalize W3.alloc (.cells #[.pointer (some ⟨p0, 0, none⟩)] 197) = W5 at kV bV hHeld ⊢
    obtain ⟨VB, fD⟩ : ∃ y, W3.heap.size = y := ⟨_, rfl⟩
    rw [fD] at kV hvb ⊢
    have HV := Lib.hid (And.intro kV hvb)
    have HB := Lib.hid (HB.out.below bV)
    clear kV bV fD hvb
    refine bg 14 (fun K hK => ?_)
    go_simp
    refine (gH W5 (Hr 2) _ (pr.map aD) 0 _ rfl (aD p0) VB HB.out.fC.2.2 (Nat.zero_le _) (by rw [List.length_map]; have := HN.out.2.2.2.2.2.2.2.2.2.1; omega) (by rfl) (by simp [aD, Value.oneCell']) (bA _) HV.out.1 HV.out.2).mono ?_
    rintro e wn ⟨v6, rfl, bw, dM⟩
    rw [dm] at bw
    simp only [List.take_zero, List.nil_append, List.drop_zero] at bw
    obtain ⟨A7, c7, eD, -⟩ := bw.slice
    obtain ⟨n7, ed⟩ : ∃ y, ((p0 :: pr).map aD).length = y := ⟨_, rfl⟩
    rw [ed] at eD
    subst eD
    clear ed
    have H6 := Lib.hid (And.intro bw dM)
    clear bw dM
    try go_simp
    refine hK.out _ _ (cG hHeld H6.out.2 (fun hh => HB.out.xo hh rfl) (fun hh => HB.out.pg HM.out.2.2.2.2.2.2 hh)) (fun ae => ?_)
    clear hK K hHeld 
    have hHeld := ae
    clear ae
    try simp only [av, ax, ay, az]
    refine aO [15, 16] ?_
    iterate 2 (refine cI (v := ?_) (fun wS hSw => ?_) hHeld ?_; rotate_left; (obtain ⟨s0, s1⟩ := hSw; go_simp; try with_reducible rfl); try simp only [av, ax, ay, az])
    refine aP ?_
    refine bg 17 (fun K hK => ?_)
    obtain ⟨⟨-, r6⟩, -, rf⟩ := af (H6.out.2.heap HB.out.fC.1 (fun q hh => HB.out.xp hh rfl))
    go_simp
    refine hK.out _ _ (cG hHeld (OnlyC.aT _ r 1 _) (fun e => HB.out.e12 e.1) (fun e => HB.out.sj HM.out.2.2.2.2.2.2 e.1)) (fun ae => ?_)
    clear hK K hHeld r6 rf
    have hHeld := ae
    clear ae
    try simp only [av, ax, ay, az]
    refine wpAnyH_done (by kernel_rfl) ?_ _
    have di := HB.out.k2 (Below.refl _ _) H6.out.2 H6.out.1
    clear hHeld
    generalize wn.setCell ⟨r, 1, none⟩ (.slice A7 n7 c7) = wB at di ⊢
    have HB := Lib.hid di
    clear di HV H6
    obtain ⟨⟨-, c2⟩, -, -⟩ := af HB.out.eA.1
    go_wp2_with fail
    refine (gz wB (Hl 2) _ (pl.map aD) m1 _ _ (by simp) (by omega) HB.out.eA.2.2 (by rw [List.length_map]; have := HM.out.2.1; omega) (by rw [List.length_map]; have := HM.out.2.1; omega) (bA _)).mono ?_
    rintro e w9 ⟨v9, rfl, bM, dS⟩
    rw [<- List.map_take, <- List.map_drop, <- List.map_append] at bM
    obtain ⟨A8, c8, eW, -⟩ := bM.slice
    obtain ⟨n8, eX⟩ : ∃ y, ((pl.take m1 ++ pl.drop (m1 + 1)).map aD).length = y := ⟨_, rfl⟩
    rw [eX] at eW
    subst eW
    clear eX c2
    have H9 := Lib.hid (And.intro bM dS)
    clear bM dS
    obtain ⟨⟨-, c2⟩, -, f2⟩ := af (H9.out.2.heap HB.out.eA.1 (fun q hh => HB.out.si hh rfl))
    go_wp2_with fail
    first | refine bodyPost_end (results_none rfl _ _ _) rfl ?_ | refine bodyPost_ret (results_none rfl _ _ _) rfl ?_
    have uL := HB.out.k1 (Below.refl _ _) H9.out.2 (H9.out.1.mono (fun b q hh => .inl hh))
    obtain ⟨kX, qQ, hp0, dW, hkk, iz, -⟩ := HM.out
    have hlk : kl.ks.length = m1 + 1 := by rw [hkk, HN.out.2.2.2.2.2.2.1, kX]
    have hsub : bu w d p0 k0 (Hl (m1 + 3)) := (HA.out.2.2.1).2.2.2.2.2.1 m1 p0 k0 hp0 dW
    have hE := fk HA.out.1 HA.out.2.1 (by have := HN.out.2.2.2.2.2.2.2.2.2.2.1; omega) HA.out.2.2.1 HA.out.2.2.2.1 HA.out.2.2.2.2.1 HA.out.2.2.2.2.2.1 uL m1 (m1 + 1) (by omega) (by omega) [] (fun _ _ _ => False) 0 0 (Nat.le_refl _) (Nat.zero_le _) [(p0, k0)] (ni (Hl (m1 + 3)) (fun _ _ => False)) rfl HA.out.2.2.2.2.2.2.1 HA.out.2.2.2.2.2.2.2.1 (by simp) (by simp) (fun _ _ _ h => h.elim) (fun mm b q h => match mm, h with | 0, h => ⟨m1, Nat.le_refl _, by omega, h⟩ | 1, h => h.elim | _ + 2, h => h.elim) (fun _ _ _ _ h => h.elim)
     (fun mm zl b q h1 h2 => by
      match mm, h1, zl, h2 with
      | 0, _, 0, _ => rfl
      | 1, h1, _, _ => exact h1.elim
      | _ + 2, h1, _, _ => exact h1.elim
      | 0, _, 1, h2 => exact h2.elim
      | 0, _, _ + 2, h2 => exact h2.elim)
     (fun mm p k hm => by simp at hm)
     (fun mm p k hm => by
      match mm, hm with
      | 0, hm =>
       simp only [List.getElem?_cons_zero, Option.some.injEq, Prod.mk.injEq] at hm
       obtain ⟨rfl, rfl⟩ := hm
       exact hsub
      | mm + 1, hm => simp at hm)
     (fun e => by have h1 := HA.out.2.2.2.2.2.2.2.2.2.2.2.2.1 e; rw [h1] at hlk; simp at hlk) (fun e => by have h1 := HA.out.2.2.2.2.2.2.2.2.2.2.2.2.1 e; rw [h1] at hlk; simp at hlk)
    have hd0 : d ≠ 0 := fun e => by have h1 := HA.out.2.2.2.2.2.2.2.2.2.2.2.2.1 e; rw [h1] at hlk; simp at hlk
    rw [ny hd0 HN.out.2.2.2.2.2.2.1 HA.out.2.2.2.2.2.2.2.2.2.2.2.1 (by rw [hlk, kX]) (kX ▸ dW)]
    refine ⟨rfl, ?_, hE.2⟩
    have h1 := hE.1
    have zm : kl.ks.drop (m1 + 1) = [] := List.drop_eq_nil_of_le (by omega)
    simp only [zm, List.take_zero, List.drop_zero, List.map_nil, List.map_cons, List.append_nil, List.nil_append, List.cons_append] at h1
    rw [kX] at h1
    exact h1
   ·skip
    go_simp
    refine hK.out _ _ (jm hHeld (ag _ _)) (fun ae => ?_)
    clear hK K hHeld 
    have hHeld := ae
    clear ae
    try simp only [av, ax, ay, az]
    have kV := heap_alloc_new W3 (.cells #[.pointer (some ⟨p0, 0, none⟩)] 197)
    have bV := ag W3 (.cells #[.pointer (some ⟨p0, 0, none⟩)] 197)
    have hvb : ∀ q, ¬ Hr 2 W3.heap.size q := fun q hh => Nat.lt_irrefl _ (HB.out.G5 hh)
    generalize W3.alloc (.cells #[.pointer (some ⟨p0, 0, none⟩)] 197) = W5 at kV bV hHeld ⊢
    obtain ⟨VB, fD⟩ : ∃ y, W3.heap.size = y := ⟨_, rfl⟩
    rw [fD] at kV hvb ⊢
    have HV := Lib.hid (And.intro kV hvb)
    have HB := Lib.hid (HB.out.below bV)
    clear kV bV fD hvb
    refine bg 4 (fun K hK => ?_)
    obtain ⟨⟨-, r6⟩, -, -⟩ := af HB.out.fC.1
    go_simp
    refine hK.out _ _ (hHeld) (fun ae => ?_)
    clear hK K hHeld r6
    have hHeld := ae
    clear ae
    try simp only [av, ax, ay, az]
    refine bg 14 (fun K hK => ?_)
    go_simp
    refine (gH W5 (Hr 2) _ (pr.map aD) 0 _ rfl (aD p0) VB HB.out.fC.2.2 (Nat.zero_le _) (by rw [List.length_map]; have := HN.out.2.2.2.2.2.2.2.2.2.1; omega) (by rfl) (by simp [aD, Value.oneCell']) (bA _) HV.out.1 HV.out.2).mono ?_
    rintro e wn ⟨v6, rfl, bw, dM⟩
    rw [dm] at bw
    simp only [List.take_zero, List.nil_append, List.drop_zero] at bw
    obtain ⟨A7, c7, eD, -⟩ := bw.slice
    obtain ⟨n7, ed⟩ : ∃ y, ((p0 :: pr).map aD).length = y := ⟨_, rfl⟩
    rw [ed] at eD
    subst eD
    clear ed
    have H6 := Lib.hid (And.intro bw dM)
    clear bw dM
    try go_simp
    refine hK.out _ _ (cG hHeld H6.out.2 (fun hh => HB.out.xo hh rfl) (fun hh => HB.out.pg HM.out.2.2.2.2.2.2 hh)) (fun ae => ?_)
    clear hK K hHeld 
    have hHeld := ae
    clear ae
    try simp only [av, ax, ay, az]
    refine aO [15, 16] ?_
    iterate 2 (refine cI (v := ?_) (fun wS hSw => ?_) hHeld ?_; rotate_left; (obtain ⟨s0, s1⟩ := hSw; go_simp; try with_reducible rfl); try simp only [av, ax, ay, az])
    refine aP ?_
    refine bg 17 (fun K hK => ?_)
    obtain ⟨⟨-, r6⟩, -, rf⟩ := af (H6.out.2.heap HB.out.fC.1 (fun q hh => HB.out.xp hh rfl))
    go_simp
    refine hK.out _ _ (cG hHeld (OnlyC.aT _ r 1 _) (fun e => HB.out.e12 e.1) (fun e => HB.out.sj HM.out.2.2.2.2.2.2 e.1)) (fun ae => ?_)
    clear hK K hHeld r6 rf
    have hHeld := ae
    clear ae
    try simp only [av, ax, ay, az]
    refine wpAnyH_done (by kernel_rfl) ?_ _
    have di := HB.out.k2 (Below.refl _ _) H6.out.2 H6.out.1
    clear hHeld
    generalize wn.setCell ⟨r, 1, none⟩ (.slice A7 n7 c7) = wB at di ⊢
    have HB := Lib.hid di
    clear di HV H6
    obtain ⟨⟨-, c2⟩, -, -⟩ := af HB.out.eA.1
    go_wp2_with fail
    refine (gz wB (Hl 2) _ (pl.map aD) m1 _ _ (by simp) (by omega) HB.out.eA.2.2 (by rw [List.length_map]; have := HM.out.2.1; omega) (by rw [List.length_map]; have := HM.out.2.1; omega) (bA _)).mono ?_
    rintro e w9 ⟨v9, rfl, bM, dS⟩
    rw [<- List.map_take, <- List.map_drop, <- List.map_append] at bM
    obtain ⟨A8, c8, eW, -⟩ := bM.slice
    obtain ⟨n8, eX⟩ : ∃ y, ((pl.take m1 ++ pl.drop (m1 + 1)).map aD).length = y := ⟨_, rfl⟩
    rw [eX] at eW
    subst eW
    clear eX c2
    have H9 := Lib.hid (And.intro bM dS)
    clear bM dS
    obtain ⟨⟨-, c2⟩, -, f2⟩ := af (H9.out.2.heap HB.out.eA.1 (fun q hh => HB.out.si hh rfl))
    go_wp2_with fail
    first | refine bodyPost_end (results_none rfl _ _ _) rfl ?_ | refine bodyPost_ret (results_none rfl _ _ _) rfl ?_
    have uL := HB.out.k1 (Below.refl _ _) H9.out.2 (H9.out.1.mono (fun b q hh => .inl hh))
    obtain ⟨kX, qQ, hp0, dW, hkk, iz, -⟩ := HM.out
    have hlk : kl.ks.length = m1 + 1 := by rw [hkk, HN.out.2.2.2.2.2.2.1, kX]
    have hsub : bu w d p0 k0 (Hl (m1 + 3)) := (HA.out.2.2.1).2.2.2.2.2.1 m1 p0 k0 hp0 dW
    have hE := fk HA.out.1 HA.out.2.1 (by have := HN.out.2.2.2.2.2.2.2.2.2.2.1; omega) HA.out.2.2.1 HA.out.2.2.2.1 HA.out.2.2.2.2.1 HA.out.2.2.2.2.2.1 uL m1 (m1 + 1) (by omega) (by omega) [] (fun _ _ _ => False) 0 0 (Nat.le_refl _) (Nat.zero_le _) [(p0, k0)] (ni (Hl (m1 + 3)) (fun _ _ => False)) rfl HA.out.2.2.2.2.2.2.1 HA.out.2.2.2.2.2.2.2.1 (by simp) (by simp) (fun _ _ _ h => h.elim) (fun mm b q h => match mm, h with | 0, h => ⟨m1, Nat.le_refl _, by omega, h⟩ | 1, h => h.elim | _ + 2, h => h.elim) (fun _ _ _ _ h => h.elim)
     (fun mm zl b q h1 h2 => by
      match mm, h1, zl, h2 with
      | 0, _, 0, _ => rfl
      | 1, h1, _, _ => exact h1.elim
      | _ + 2, h1, _, _ => exact h1.elim
      | 0, _, 1, h2 => exact h2.elim
      | 0, _, _ + 2, h2 => exact h2.elim)
     (fun mm p k hm => by simp at hm)
     (fun mm p k hm => by
      match mm, hm with
      | 0, hm =>
       simp only [List.getElem?_cons_zero, Option.some.injEq, Prod.mk.injEq] at hm
       obtain ⟨rfl, rfl⟩ := hm
       exact hsub
      | mm + 1, hm => simp at hm)
     (fun e => by have h1 := HA.out.2.2.2.2.2.2.2.2.2.2.2.2.1 e; rw [h1] at hlk; simp at hlk) (fun e => by have h1 := HA.out.2.2.2.2.2.2.2.2.2.2.2.2.1 e; rw [h1] at hlk; simp at hlk)
    have hd0 : d ≠ 0 := fun e => by have h1 := HA.out.2.2.2.2.2.2.2.2.2.2.2.2.1 e; rw [h1] at hlk; simp at hlk
    rw [ny hd0 HN.out.2.2.2.2.2.2.1 HA.out.2.2.2.2.2.2.2.2.2.2.2.1 (by rw [hlk, kX]) (kX ▸ dW)]
    refine ⟨rfl, ?_, hE.2⟩
    have h1 := hE.1
    have zm : kl.ks.drop (m1 + 1) = [] := List.drop_eq_nil_of_le (by omega)
    simp only [zm, List.take_zero, List.drop_zero, List.map_nil, List.map_cons, List.append_nil, List.nil_append, List.cons_append] at h1
    rw [kX] at h1
    exact h1
 ·skip
  go_simp
  refine hK.out _ _ (oH hHeld (ag _ _)) (fun ae => ?_)
  clear hK K hHeld 
  have hHeld := ae
  clear ae
  try simp only [av, ax, ay, az]
  have kV := heap_alloc_new W3 (.cells #[.string ⟨s.1.toArray⟩, .string ⟨s.2.toArray⟩] 210)
  have bV := ag W3 (.cells #[.string ⟨s.1.toArray⟩, .string ⟨s.2.toArray⟩] 210)
  have hvb : ∀ q, ¬ Hr 1 W3.heap.size q := fun q hh => Nat.lt_irrefl _ (HB.out.Ms hh)
  generalize W3.alloc (.cells #[.string ⟨s.1.toArray⟩, .string ⟨s.2.toArray⟩] 210) = W5 at kV bV hHeld ⊢
  obtain ⟨VB, fD⟩ : ∃ y, W3.heap.size = y := ⟨_, rfl⟩
  rw [fD] at kV hvb ⊢
  have HV := Lib.hid (And.intro kV hvb)
  have HB := Lib.hid (HB.out.below bV)
  clear kV bV fD hvb
  refine bg 4 (fun K hK => ?_)
  obtain ⟨⟨r6, -⟩, -, -⟩ := af HB.out.fC.1
  go_simp
  refine hK.out _ _ (hHeld) (fun ae => ?_)
  clear hK K hHeld r6
  have hHeld := ae
  clear ae
  try simp only [av, ax, ay, az]
  refine bg 14 (fun K hK => ?_)
  go_simp
  refine (gG W5 (Hr 1) _ (kr.ps.map ah) 0 _ rfl (ah s) VB HB.out.fC.2.1 (Nat.zero_le _) (by rw [List.length_map]; omega) (by rfl) (by simp [ah, Value.oneCell']) (cL _) HV.out.1 HV.out.2).mono ?_
  rintro e wn ⟨v6, rfl, bw, dM⟩
  rw [dm] at bw
  simp only [List.take_zero, List.nil_append, List.drop_zero] at bw
  obtain ⟨A6, c6, eD, -⟩ := bw.slice
  obtain ⟨n6, ed⟩ : ∃ y, ((s :: kr.ps).map ah).length = y := ⟨_, rfl⟩
  rw [ed] at eD
  subst eD
  clear ed
  have H6 := Lib.hid (And.intro bw dM)
  clear bw dM
  try go_simp
  refine hK.out _ _ (fE hHeld H6.out.2 (fun hh => HB.out.Mr hh rfl) (fun hh => HB.out.pd HP.out.1 hh) (fun hh => HB.out.pd HP.out.2 hh)) (fun ae => ?_)
  clear hK K hHeld 
  have hHeld := ae
  clear ae
  try simp only [av, ax, ay, az]
  refine aO [15, 16] ?_
  iterate 2 (refine cI (v := ?_) (fun wS hSw => ?_) hHeld ?_; rotate_left; (obtain ⟨s0, s1, s2⟩ := hSw; go_simp; try with_reducible rfl); try simp only [av, ax, ay, az])
  refine aP ?_
  refine bg 17 (fun K hK => ?_)
  obtain ⟨⟨r6, -⟩, rf, -⟩ := af (H6.out.2.heap HB.out.fC.1 (fun q hh => HB.out.G3 hh rfl))
  go_simp
  refine hK.out _ _ (fE hHeld (OnlyC.aT _ r 0 _) (fun e => HB.out.RY e.1) (fun e => HB.out.Cw HP.out.1 e.1) (fun e => HB.out.Cw HP.out.2 e.1)) (fun ae => ?_)
  clear hK K hHeld r6 rf
  have hHeld := ae
  clear ae
  try simp only [av, ax, ay, az]
  refine wpAnyH_done (by kernel_rfl) ?_ _
  have di := HB.out.p2 (Below.refl _ _) H6.out.2 H6.out.1
  clear hHeld
  generalize wn.setCell ⟨r, 0, none⟩ (.slice A6 n6 c6) = w7 at di ⊢
  have HB := Lib.hid di
  clear di HV H6
  obtain ⟨c3, c4⟩ := (HB.out.eA.2.1.iR HA.out.2.2.2.2.2.2.2.2.2.2.2.1).1
  obtain ⟨⟨c1, -⟩, -, -⟩ := af HB.out.kK.1
  obtain ⟨⟨c2, -⟩, -, -⟩ := af HB.out.eA.1
  have tS := And.intro c1 (And.intro c2 (And.intro c3 c4))
  clear c1 c2 c3 c4
  have HZ := Lib.hid (HB.out.eA.2.1.mP (i := m) (by have := HN.out.2.2.2.2.2.2.1; omega))
  go_upto_region 3 with fail
  refine wp_region_held_drew (S := (fun W => W.cell? ⟨a, 0, none⟩ = some (.slice (some ⟨bn, on, none⟩) np cn) /\ W.cell? ⟨l, 0, none⟩ = some (.slice (some ⟨bl, ol, none⟩) nl cl) /\ W.cell? ⟨bl, ol + m * 2, none⟩ = some (.string ⟨z.1.toArray⟩) /\ W.cell? ⟨bl, ol + m * 2 + 1, none⟩ = some (.string ⟨z.2.toArray⟩))) (by kernel_rfl) tS (fun hHeld => ?_)
  generalize hW3 : World.drew w7 = W3 at hHeld ⊢
  have HB := Lib.hid (HB.out.below (w1 := W3) (hW3 ▸ (Below.refl _ _).drew))
  clear hW3 tS
  refine aO [0, 1, 2, 3, 4, 5, 6, 7, 8, 9, 10, 11, 12, 13] ?_
  iterate 14 (refine cI (v := ?_) (fun wS hSw => ?_) hHeld ?_; rotate_left; (obtain ⟨s0, s1, s2, s3⟩ := hSw; go_simp; try with_reducible rfl); try simp only [av, ax, ay, az])
  refine aP ?_
  refine bg 14 (fun K hK => ?_)
  obtain ⟨⟨c5, c6⟩, f5, f6⟩ := HB.out.kK.2.1.iR HA.out.2.2.2.2.2.2.2.2.2.2.1
  go_simp
  refine hK.out _ _ (qN hHeld (HB.out.kK.2.1.eo (i := i) z.1 z.2 (by have := HN.out.2.2.2.2.2.2.2.2.2.2.1; have := HN.out.2.2.2.2.2.2.2.2.2.2.2.1; omega)).2 (fun hh => HB.out.Cv hh rfl) (fun hh => HB.out.sf hh rfl) (fun hh => HB.out.kL hh HZ.out.1) (fun hh => HB.out.kL hh HZ.out.2)) (fun ae => ?_)
  clear hK K hHeld c5 c6 f5 f6
  have hHeld := ae
  clear ae
  try simp only [av, ax, ay, az]
  refine wpAnyH_done (by kernel_rfl) ?_ _
  have vL := HB.out.i0 (HB.out.kK.2.1.eo (i := i) z.1 z.2 (by have := HN.out.2.2.2.2.2.2.2.2.2.2.1; have := HN.out.2.2.2.2.2.2.2.2.2.2.2.1; omega)).2 (HB.out.kK.2.1.eo (i := i) z.1 z.2 (by have := HN.out.2.2.2.2.2.2.2.2.2.2.1; have := HN.out.2.2.2.2.2.2.2.2.2.2.2.1; omega)).1
  clear hHeld
  generalize (W3.setCell ⟨bn, on + i * 2, none⟩ (.string ⟨z.1.toArray⟩)).setCell ⟨bn, on + i * 2 + 1, none⟩ (.string ⟨z.2.toArray⟩) = w8 at vL ⊢
  have HB := Lib.hid vL
  clear vL HZ
  obtain ⟨⟨c2, -⟩, -, -⟩ := af HB.out.eA.1
  go_wp2_with fail
  refine (ji w8 (Hl 1) _ (kl.ps.map ah) m _ _ rfl (by simp) HB.out.eA.2.1 (by rw [List.length_map]; have := HN.out.2.2.2.2.2.2.1; omega) (by rw [List.length_map]; omega) (cL _)).mono ?_
  rintro e w9 ⟨v9, rfl, bM, dS⟩
  rw [<- List.map_take, <- List.map_drop, <- List.map_append] at bM
  have xK : kl.ps.drop (m + 1) = [] := List.drop_eq_nil_of_le (by have := HN.out.2.2.2.2.2.2.1; omega)
  rw [xK, List.append_nil] at bM
  obtain ⟨A9, c9, eW, -⟩ := bM.slice
  obtain ⟨n9, eX⟩ : ∃ y, ((kl.ps.take m).map ah).length = y := ⟨_, rfl⟩
  rw [eX] at eW
  subst eW
  clear eX xK c2
  have H9 := Lib.hid (And.intro bM dS)
  clear bM dS
  obtain ⟨⟨c2, -⟩, f2, -⟩ := af (H9.out.2.heap HB.out.eA.1 (fun q hh => HB.out.xm hh rfl))
  go_upto_region 5 with fail
  clear c2 f2
  have hB4 := HB.out.p1 (Below.refl _ _) H9.out.2 (H9.out.1.mono (fun b q hh => .inl hh))
  generalize w9.setCell ⟨l, 0, none⟩ (.slice A9 n9 c9) = wA at hB4 ⊢
  have HB := Lib.hid hB4
  clear hB4 H9
  obtain ⟨⟨-, c2⟩, -, -⟩ := af HB.out.eA.1
  by_cases hd : d = 0
  ·subst hd
   have e1 : kl.ks = [] := HA.out.2.2.2.2.2.2.2.2.2.2.2.2.1 rfl
   have e2 : kr.ks = [] := HA.out.2.2.2.2.2.2.2.2.2.2.2.2.2 rfl
   have dW : xJ = 0 := by rw [HN.out.2.2.2.1, HN.out.2.2.2.2.2.2.2.2.1, e1]; rfl
   subst dW
   have gV := Lib.hid (cP wA l Jc Al c2)
   have HE := Lib.hid (And.intro e1 e2)
   clear c2 e1 e2
   go_wp2_with fail
   refine gV.out.mono ?_
   rintro e wZ ⟨rfl, zj⟩
   subst zj
   go_wp2_with fail
   first | refine bodyPost_end (results_none rfl _ _ _) rfl ?_ | refine bodyPost_ret (results_none rfl _ _ _) rfl ?_
   obtain ⟨e1, e2⟩ := HE.out
   have hE := fk HA.out.1 HA.out.2.1 (by have := HN.out.2.2.2.2.2.2.2.2.2.2.1; omega) HA.out.2.2.1 HA.out.2.2.2.1 HA.out.2.2.2.2.1 HA.out.2.2.2.2.2.1 HB.out 0 0 (Nat.le_refl _) (Nat.zero_le _) [] (fun _ _ _ => False) 0 0 (Nat.le_refl _) (Nat.zero_le _) [] (fun _ _ _ => False) rfl HA.out.2.2.2.2.2.2.1 HA.out.2.2.2.2.2.2.2.1 (by simp) (by simp) (fun _ _ _ h => h.elim) (fun _ _ _ h => h.elim) (fun _ _ _ _ h => h.elim) (fun _ _ _ _ h => h.elim) (fun m p k hm => by simp at hm) (fun m p k hm => by simp at hm) (by simp [e1]) (by simp [e2])
   rw [xD HN.out.2.2.2.2.2.2.1 HA.out.2.2.2.2.2.2.2.2.2.2.2.1]
   refine ⟨rfl, ?_, hE.2⟩
   have h1 := hE.1
   simp only [e1, e2, List.take_nil, List.drop_nil, List.map_nil, List.append_nil] at h1
   exact h1
  ·have hkk := HN.out.2.2.2.2.2.2.2.2.2.2.2.2.2 hd
   obtain ⟨m1, kX⟩ : ∃ y, y = m + 1 := ⟨_, rfl⟩
   have qQ : pl.length = m1 + 1 := by have := HN.out.2.2.2.2.2.2.2.2.1; have := HN.out.2.2.2.2.2.2.1; omega
   obtain ⟨p0, hp0⟩ : ∃ p, pl[m1]? = some p := ⟨_, List.getElem?_eq_getElem (by omega)⟩
   obtain ⟨k0, dW⟩ : ∃ p, kl.ks[m1]? = some p := ⟨_, List.getElem?_eq_getElem (by have := HN.out.2.2.2.2.2.2.2.2.1; omega)⟩
   have uK := HB.out
   obtain ⟨MQ, MR, Qi, e0, -, -, -⟩ := uK.eA.2.2.ptr hp0
   simp only [Value.slice.injEq] at e0
   obtain ⟨rfl, -, rfl⟩ := e0
   have iz : xJ = m1 + 1 := by rw [HN.out.2.2.2.1]; exact qQ
   have gV := Lib.hid (dQ wA l xJ Jc _ (by omega) c2)
   have HB := Lib.hid uK
   have HM := Lib.hid (And.intro kX (And.intro qQ (And.intro hp0 (And.intro dW (And.intro hkk (And.intro iz (uK.eA.2.2.xG (i := m1) (by omega))))))))
   have q1 : (m : Int) + 1 = (m1 : Int) := by omega
   have q2 : m1 <= 901 := by have := HN.out.2.2.2.2.2.2.1; omega
   obtain ⟨q3, q4⟩ := DF m1 (by omega)
   have q5 : (0 : Int) <= (m1 : Int) := by omega
   have q6 : (m1 : Int) < (xJ : Int) := by omega
   have q7 : xJ <= 902 := by omega
   clear uK kX qQ hp0 dW hkk iz hd c2
   go_wp2_with fail
   refine gV.out.mono ?_
   rintro e wZ ⟨rfl, zj⟩
   subst zj
   clear gV
   obtain ⟨⟨-, c1⟩, -, -⟩ := af HB.out.eA.1
   have tS := And.intro c1 (HB.out.eA.2.2.xE HM.out.2.2.1)
   clear c1
   go_upto_region 6 with fail
   refine wp_region_held_drew (S := (fun W => W.cell? ⟨l, 1, none⟩ = some (.slice (some ⟨MQ, MR, none⟩) xJ Jc) /\ W.cell? ⟨MQ, MR + m1, none⟩ = some (.pointer (some ⟨p0, 0, none⟩)))) (by kernel_rfl) tS (fun hHeld => ?_)
   generalize hW3 : World.drew wA = W3 at hHeld ⊢
   have HB := Lib.hid (HB.out.below (w1 := W3) (hW3 ▸ (Below.refl _ _).drew))
   clear hW3 tS
   refine aO [0, 1, 2, 3, 5, 6, 7, 8, 9, 10, 11, 12] ?_
   iterate 12 (refine cI (v := ?_) (fun wS hSw => ?_) hHeld ?_; rotate_left; (obtain ⟨s0, s1⟩ := hSw; go_simp; try with_reducible rfl); try simp only [av, ax, ay, az])
   refine aP ?_
   refine wpAnyH_ready (rs := [4, 13]) (by kernel_rfl) (by simp) (cy (i := 4) rfl (fun K hK => ?_) (cy (i := 13) rfl (fun K hK => ?_) AllReadyH.nil))
   ·skip
    obtain ⟨⟨-, r6⟩, -, -⟩ := af HB.out.fC.1
    go_simp
    refine hK.out _ _ (hHeld) (fun ae => ?_)
    clear hK K hHeld r6
    have hHeld := ae
    clear ae
    try simp only [av, ax, ay, az]
    refine bg 13 (fun K hK => ?_)
    go_simp
    refine hK.out _ _ (jm hHeld (ag _ _)) (fun ae => ?_)
    clear hK K hHeld 
    have hHeld := ae
    clear ae
    try simp only [av, ax, ay, az]
    have kV := heap_alloc_new W3 (.cells #[.pointer (some ⟨p0, 0, none⟩)] 197)
    have bV := ag W3 (.cells #[.pointer (some ⟨p0, 0, none⟩)] 197)
    have hvb : ∀ q, ¬ Hr 2 W3.heap.size q := fun q hh => Nat.lt_irrefl _ (HB.out.G5 hh)
    generalize W3.alloc (.cells #[.pointer (some ⟨p0, 0, none⟩)] 197) = W5 at kV bV hHeld ⊢
    obtain ⟨VB, fD⟩ : ∃ y, W3.heap.size = y := ⟨_, rfl⟩
    rw [fD] at kV hvb ⊢
    have HV := Lib.hid (And.intro kV hvb)
    have HB := Lib.hid (HB.out.below bV)
    clear kV bV fD hvb
    refine bg 14 (fun K hK => ?_)
    go_simp
    refine (gH W5 (Hr 2) _ (pr.map aD) 0 _ rfl (aD p0) VB HB.out.fC.2.2 (Nat.zero_le _) (by rw [List.length_map]; have := HN.out.2.2.2.2.2.2.2.2.2.1; omega) (by rfl) (by simp [aD, Value.oneCell']) (bA _) HV.out.1 HV.out.2).mono ?_
    rintro e wn ⟨v6, rfl, bw, dM⟩
    rw [dm] at bw
    simp only [List.take_zero, List.nil_append, List.drop_zero] at bw
    obtain ⟨A7, c7, eD, -⟩ := bw.slice
    obtain ⟨n7, ed⟩ : ∃ y, ((p0 :: pr).map aD).length = y := ⟨_, rfl⟩
    rw [ed] at eD
    subst eD
    clear ed
    have H6 := Lib.hid (And.intro bw dM)
    clear bw dM
    try go_simp
    refine hK.out _ _ (cG hHeld H6.out.2 (fun hh => HB.out.xo hh rfl) (fun hh => HB.out.pg HM.out.2.2.2.2.2.2 hh)) (fun ae => ?_)
    clear hK K hHeld 
    have hHeld := ae
    clear ae
    try simp only [av, ax, ay, az]
    refine aO [15, 16] ?_
    iterate 2 (refine cI (v := ?_) (fun wS hSw => ?_) hHeld ?_; rotate_left; (obtain ⟨s0, s1⟩ := hSw; go_simp; try with_reducible rfl); try simp only [av, ax, ay, az])
    refine aP ?_
    refine bg 17 (fun K hK => ?_)
    obtain ⟨⟨-, r6⟩, -, rf⟩ := af (H6.out.2.heap HB.out.fC.1 (fun q hh => HB.out.xp hh rfl))
    go_simp
    refine hK.out _ _ (cG hHeld (OnlyC.aT _ r 1 _) (fun e => HB.out.e12 e.1) (fun e => HB.out.sj HM.out.2.2.2.2.2.2 e.1)) (fun ae => ?_)
    clear hK K hHeld r6 rf
    have hHeld := ae
    clear ae
    try simp only [av, ax, ay, az]
    refine wpAnyH_done (by kernel_rfl) ?_ _
    have di := HB.out.k2 (Below.refl _ _) H6.out.2 H6.out.1
    clear hHeld
    generalize wn.setCell ⟨r, 1, none⟩ (.slice A7 n7 c7) = wB at di ⊢
    have HB := Lib.hid di
    clear di HV H6
    obtain ⟨⟨-, c2⟩, -, -⟩ := af HB.out.eA.1
    go_wp2_with fail
    refine (gz wB (Hl 2) _ (pl.map aD) m1 _ _ (by simp) (by omega) HB.out.eA.2.2 (by rw [List.length_map]; have := HM.out.2.1; omega) (by rw [List.length_map]; have := HM.out.2.1; omega) (bA _)).mono ?_
    rintro e w9 ⟨v9, rfl, bM, dS⟩
    rw [<- List.map_take, <- List.map_drop, <- List.map_append] at bM
    obtain ⟨A8, c8, eW, -⟩ := bM.slice
    obtain ⟨n8, eX⟩ : ∃ y, ((pl.take m1 ++ pl.drop (m1 + 1)).map aD).length = y := ⟨_, rfl⟩
    rw [eX] at eW
    subst eW
    clear eX c2
    have H9 := Lib.hid (And.intro bM dS)
    clear bM dS
    obtain ⟨⟨-, c2⟩, -, f2⟩ := af (H9.out.2.heap HB.out.eA.1 (fun q hh => HB.out.si hh rfl))
    go_wp2_with fail
    first | refine bodyPost_end (results_none rfl _ _ _) rfl ?_ | refine bodyPost_ret (results_none rfl _ _ _) rfl ?_
    have uL := HB.out.k1 (Below.refl _ _) H9.out.2 (H9.out.1.mono (fun b q hh => .inl hh))
    obtain ⟨kX, qQ, hp0, dW, hkk, iz, -⟩ := HM.out
    have hlk : kl.ks.length = m1 + 1 := by rw [hkk, HN.out.2.2.2.2.2.2.1, kX]
    have hsub : bu w d p0 k0 (Hl (m1 + 3)) := (HA.out.2.2.1).2.2.2.2.2.1 m1 p0 k0 hp0 dW
    have hE := fk HA.out.1 HA.out.2.1 (by have := HN.out.2.2.2.2.2.2.2.2.2.2.1; omega) HA.out.2.2.1 HA.out.2.2.2.1 HA.out.2.2.2.2.1 HA.out.2.2.2.2.2.1 uL m1 (m1 + 1) (by omega) (by omega) [] (fun _ _ _ => False) 0 0 (Nat.le_refl _) (Nat.zero_le _) [(p0, k0)] (ni (Hl (m1 + 3)) (fun _ _ => False)) rfl HA.out.2.2.2.2.2.2.1 HA.out.2.2.2.2.2.2.2.1 (by simp) (by simp) (fun _ _ _ h => h.elim) (fun mm b q h => match mm, h with | 0, h => ⟨m1, Nat.le_refl _, by omega, h⟩ | 1, h => h.elim | _ + 2, h => h.elim) (fun _ _ _ _ h => h.elim)
     (fun mm zl b q h1 h2 => by
      match mm, h1, zl, h2 with
      | 0, _, 0, _ => rfl
      | 1, h1, _, _ => exact h1.elim
      | _ + 2, h1, _, _ => exact h1.elim
      | 0, _, 1, h2 => exact h2.elim
      | 0, _, _ + 2, h2 => exact h2.elim)
     (fun mm p k hm => by simp at hm)
     (fun mm p k hm => by
      match mm, hm with
      | 0, hm =>
       simp only [List.getElem?_cons_zero, Option.some.injEq, Prod.mk.injEq] at hm
       obtain ⟨rfl, rfl⟩ := hm
       exact hsub
      | mm + 1, hm => simp at hm)
     (fun e => by have h1 := HA.out.2.2.2.2.2.2.2.2.2.2.2.2.1 e; rw [h1] at hlk; simp at hlk) (fun e => by have h1 := HA.out.2.2.2.2.2.2.2.2.2.2.2.2.1 e; rw [h1] at hlk; simp at hlk)
    have hd0 : d ≠ 0 := fun e => by have h1 := HA.out.2.2.2.2.2.2.2.2.2.2.2.2.1 e; rw [h1] at hlk; simp at hlk
    rw [ny hd0 HN.out.2.2.2.2.2.2.1 HA.out.2.2.2.2.2.2.2.2.2.2.2.1 (by rw [hlk, kX]) (kX ▸ dW)]
    refine ⟨rfl, ?_, hE.2⟩
    have h1 := hE.1
    have zm : kl.ks.drop (m1 + 1) = [] := List.drop_eq_nil_of_le (by omega)
    simp only [zm, List.take_zero, List.drop_zero, List.map_nil, List.map_cons, List.append_nil, List.nil_append, List.cons_append] at h1
    rw [kX] at h1
    exact h1
   ·skip
    go_simp
    refine hK.out _ _ (jm hHeld (ag _ _)) (fun ae => ?_)
    clear hK K hHeld 
    have hHeld := ae
    clear ae
    try simp only [av, ax, ay, az]
    have kV := heap_alloc_new W3 (.cells #[.pointer (some ⟨p0, 0, none⟩)] 197)
    have bV := ag W3 (.cells #[.pointer (some ⟨p0, 0, none⟩)] 197)
    have hvb : ∀ q, ¬ Hr 2 W3.heap.size q := fun q hh => Nat.lt_irrefl _ (HB.out.G5 hh)
    generalize W3.alloc (.cells #[.pointer (some ⟨p0, 0, none⟩)] 197) = W5 at kV bV hHeld ⊢
    obtain ⟨VB, fD⟩ : ∃ y, W3.heap.size = y := ⟨_, rfl⟩
    rw [fD] at kV hvb ⊢
    have HV := Lib.hid (And.intro kV hvb)
    have HB := Lib.hid (HB.out.below bV)
    clear kV bV fD hvb
    refine bg 4 (fun K hK => ?_)
    obtain ⟨⟨-, r6⟩, -, -⟩ := af HB.out.fC.1
    go_simp
    refine hK.out _ _ (hHeld) (fun ae => ?_)
    clear hK K hHeld r6
    have hHeld := ae
    clear ae
    try simp only [av, ax, ay, az]
    refine bg 14 (fun K hK => ?_)
    go_simp
    refine (gH W5 (Hr 2) _ (pr.map aD) 0 _ rfl (aD p0) VB HB.out.fC.2.2 (Nat.zero_le _) (by rw [List.length_map]; have := HN.out.2.2.2.2.2.2.2.2.2.1; omega) (by rfl) (by simp [aD, Value.oneCell']) (bA _) HV.out.1 HV.out.2).mono ?_
    rintro e wn ⟨v6, rfl, bw, dM⟩
    rw [dm] at bw
    simp only [List.take_zero, List.nil_append, List.drop_zero] at bw
    obtain ⟨A7, c7, eD, -⟩ := bw.slice
    obtain ⟨n7, ed⟩ : ∃ y, ((p0 :: pr).map aD).length = y := ⟨_, rfl⟩
    rw [ed] at eD
    subst eD
    clear ed
    have H6 := Lib.hid (And.intro bw dM)
    clear bw dM
    try go_simp
    refine hK.out _ _ (cG hHeld H6.out.2 (fun hh => HB.out.xo hh rfl) (fun hh => HB.out.pg HM.out.2.2.2.2.2.2 hh)) (fun ae => ?_)
    clear hK K hHeld 
    have hHeld := ae
    clear ae
    try simp only [av, ax, ay, az]
    refine aO [15, 16] ?_
    iterate 2 (refine cI (v := ?_) (fun wS hSw => ?_) hHeld ?_; rotate_left; (obtain ⟨s0, s1⟩ := hSw; go_simp; try with_reducible rfl); try simp only [av, ax, ay, az])
    refine aP ?_
    refine bg 17 (fun K hK => ?_)
    obtain ⟨⟨-, r6⟩, -, rf⟩ := af (H6.out.2.heap HB.out.fC.1 (fun q hh => HB.out.xp hh rfl))
    go_simp
    refine hK.out _ _ (cG hHeld (OnlyC.aT _ r 1 _) (fun e => HB.out.e12 e.1) (fun e => HB.out.sj HM.out.2.2.2.2.2.2 e.1)) (fun ae => ?_)
    clear hK K hHeld r6 rf
    have hHeld := ae
    clear ae
    try simp only [av, ax, ay, az]
    refine wpAnyH_done (by kernel_rfl) ?_ _
    have di := HB.out.k2 (Below.refl _ _) H6.out.2 H6.out.1
    clear hHeld
    generalize wn.setCell ⟨r, 1, none⟩ (.slice A7 n7 c7) = wB at di ⊢
    have HB := Lib.hid di
    clear di HV H6
    obtain ⟨⟨-, c2⟩, -, -⟩ := af HB.out.eA.1
    go_wp2_with fail
    refine (gz wB (Hl 2) _ (pl.map aD) m1 _ _ (by simp) (by omega) HB.out.eA.2.2 (by rw [List.length_map]; have := HM.out.2.1; omega) (by rw [List.length_map]; have := HM.out.2.1; omega) (bA _)).mono ?_
    rintro e w9 ⟨v9, rfl, bM, dS⟩
    rw [<- List.map_take, <- List.map_drop, <- List.map_append] at bM
    obtain ⟨A8, c8, eW, -⟩ := bM.slice
    obtain ⟨n8, eX⟩ : ∃ y, ((pl.take m1 ++ pl.drop (m1 + 1)).map aD).length = y := ⟨_, rfl⟩
    rw [eX] at eW
    subst eW
    clear eX c2
    have H9 := Lib.hid (And.intro bM dS)
    clear bM dS
    obtain ⟨⟨-, c2⟩, -, f2⟩ := af (H9.out.2.heap HB.out.eA.1 (fun q hh => HB.out.si hh rfl))
    go_wp2_with fail
    first | refine bodyPost_end (results_none rfl _ _ _) rfl ?_ | refine bodyPost_ret (results_none rfl _ _ _) rfl ?_
    have uL := HB.out.k1 (Below.refl _ _) H9.out.2 (H9.out.1.mono (fun b q hh => .inl hh))
    obtain ⟨kX, qQ, hp0, dW, hkk, iz, -⟩ := HM.out
    have hlk : kl.ks.length = m1 + 1 := by rw [hkk, HN.out.2.2.2.2.2.2.1, kX]
    have hsub : bu w d p0 k0 (Hl (m1 + 3)) := (HA.out.2.2.1).2.2.2.2.2.1 m1 p0 k0 hp0 dW
    have hE := fk HA.out.1 HA.out.2.1 (by have := HN.out.2.2.2.2.2.2.2.2.2.2.1; omega) HA.out.2.2.1 HA.out.2.2.2.1 HA.out.2.2.2.2.1 HA.out.2.2.2.2.2.1 uL m1 (m1 + 1) (by omega) (by omega) [] (fun _ _ _ => False) 0 0 (Nat.le_refl _) (Nat.zero_le _) [(p0, k0)] (ni (Hl (m1 + 3)) (fun _ _ => False)) rfl HA.out.2.2.2.2.2.2.1 HA.out.2.2.2.2.2.2.2.1 (by simp) (by simp) (fun _ _ _ h => h.elim) (fun mm b q h => match mm, h with | 0, h => ⟨m1, Nat.le_refl _, by omega, h⟩ | 1, h => h.elim | _ + 2, h => h.elim) (fun _ _ _ _ h => h.elim)
     (fun mm zl b q h1 h2 => by
      match mm, h1, zl, h2 with
      | 0, _, 0, _ => rfl
      | 1, h1, _, _ => exact h1.elim
      | _ + 2, h1, _, _ => exact h1.elim
      | 0, _, 1, h2 => exact h2.elim
      | 0, _, _ + 2, h2 => exact h2.elim)
     (fun mm p k hm => by simp at hm)
     (fun mm p k hm => by
      match mm, hm with
      | 0, hm =>
       simp only [List.getElem?_cons_zero, Option.some.injEq, Prod.mk.injEq] at hm
       obtain ⟨rfl, rfl⟩ := hm
       exact hsub
      | mm + 1, hm => simp at hm)
     (fun e => by have h1 := HA.out.2.2.2.2.2.2.2.2.2.2.2.2.1 e; rw [h1] at hlk; simp at hlk) (fun e => by have h1 := HA.out.2.2.2.2.2.2.2.2.2.2.2.2.1 e; rw [h1] at hlk; simp at hlk)
    have hd0 : d ≠ 0 := fun e => by have h1 := HA.out.2.2.2.2.2.2.2.2.2.2.2.2.1 e; rw [h1] at hlk; simp at hlk
    rw [ny hd0 HN.out.2.2.2.2.2.2.1 HA.out.2.2.2.2.2.2.2.2.2.2.2.1 (by rw [hlk, kX]) (kX ▸ dW)]
    refine ⟨rfl, ?_, hE.2⟩
    have h1 := hE.1
    have zm : kl.ks.drop (m1 + 1) = [] := List.drop_eq_nil_of_le (by omega)
    simp only [zm, List.take_zero, List.drop_zero, List.map_nil, List.map_cons, List.append_nil, List.nil_append, List.cons_append] at h1
    rw [kX] at h1
    exact h1
end Go.Proofs.YtagemonojdgbdaaGreatDoor
