import Derived.Test.YtagemonojdgbdaaGreatDoorQ31
import Derived.Test.YtagemonojdgbdaaGreatDoorQ45
namespace Go.Proofs.YtagemonojdgbdaaGreatDoor
set_option maxRecDepth 100000
open Go.RowKit
def oW (key : List UInt8) : Nat -> aW -> Int
 | _, [] => -1
 | j, q :: l => if q.1 = key then j else oW key (j + 1) l
theorem ub {key : List UInt8} : ∀ {l : aW} {j : Nat}, (∀ q ∈ l, q.1 ≠ key) -> oW key j l = -1
 | [], _, _ => rfl
 | q :: l, j, h => by
  rw [oW, if_neg (h q (by simp))]
  exact ub (fun p hp => h p (by simp [hp]))
theorem uf {key : List UInt8} {r : Rw} : ∀ {l : aW} {j : Nat}, lg l -> (key, r) ∈ l -> ∃ i, oW key j l = ((j + i : Nat) : Int) /\ l[i]? = some (key, r)
 | [], _, _, h => by simp at h
 | q :: l, j, hu, h => by
  have hu' := List.pairwise_cons.1 hu
  rcases List.mem_cons.1 h with rfl | h
  ·exact ⟨0, by rw [oW, if_pos rfl]; rfl, rfl⟩
  ·have hne : q.1 ≠ key := fun e => by
    have := hu'.1 _ h
    rw [e] at this
    exact aM _ this
   obtain ⟨i, h1, h2⟩ := uf (j := j + 1) hu'.2 h
   exact ⟨i + 1, by rw [oW, if_neg hne, h1]; congr 1; omega, by simpa using h2⟩
theorem yB {key : List UInt8} {l : aW} (h : lg l) (hn : aI key l = none) : oW key 0 l = -1 := ub ((cJ h).1 hn)
theorem yC {key : List UInt8} {r : Rw} {l : aW} (h : lg l) (hn : aI key l = some r) : ∃ i : Nat, oW key 0 l = (i : Int) /\ l[i]? = some (key, r) := by
 obtain ⟨i, h1, h2⟩ := uf (j := 0) h ((dv h).1 hn)
 exact ⟨i, by rw [h1]; simp, h2⟩
set_option maxHeartbeats 1000000 in
theorem mi (w : World) (F : Nat -> Prop) (v : Value) (l : aW) (key : List UInt8) (hv : bE 5 w F v (l.map rH)) (hl : l.length <= 1000) :
  Calls Tryz.prog 12 #[v, .string ⟨key.toArray⟩] w fun e w' => e = .returned (.int .i64 (oW key 0 l)) /\ w = w' := by
 obtain ⟨A, c, rfl, hlc, hcm⟩ := jL hv
 unfold maxLen at hcm
 obtain ⟨N, hN⟩ : ∃ N, l.length = N := ⟨_, rfl⟩
 rw [hN] at hv hlc hl ⊢
 have HL := Lib.hid (And.intro hN hv)
 clear hv hN
 go_enter Tryz.func12, Tryz.ntmps12
 go_wp2_with fail
 go_loopw [5] (fun i wr => ∃ j : Nat, j <= N /\ i = .int .i64 (j : Int) /\ oW key j (l.drop j) = oW key 0 l /\ wr = w) (fun i _ => N - (intOf i).toNat)
 case atStart => exact ⟨0, by omega, rfl, by simp, by first | rfl | trivial⟩
 case round =>
  obtain ⟨j, hj, rfl, heq, rfl⟩ := hrel
  by_cases hlt : j < N
  ·obtain ⟨q, hq⟩ : ∃ q, l[j]? = some q := ⟨_, List.getElem?_eq_getElem (by rw [HL.out.1]; exact hlt)⟩
   have hdr : l.drop j = q :: l.drop (j + 1) := by
    have h1 := List.getElem?_eq_some_iff.1 hq
    rw [<- h1.2]
    exact List.drop_eq_getElem_cons h1.1
   obtain ⟨b, o, rfl, hF, d0, d1, d2, d3, d4⟩ := BS HL.out.2 hq
   obtain ⟨qk, qa, qb, qc, qd⟩ := q
   simp only at d0
   have i1 : (0 : Int) <= (j : Int) := by omega
   have i2 : (j : Int) < (N : Int) := by omega
   rw [hdr, oW] at heq
   by_cases he : qk = key
   ·subst he
    rw [if_pos rfl] at heq
    have HE := Lib.hid heq
    clear heq hdr hq d1 d2 d3 d4
    go_wp2_with fail
    go_ret
    exact ⟨by rw [<- HE.out]; rfl, by first | rfl | trivial⟩
   ·rw [if_neg he] at heq
    have HE := Lib.hid heq
    have g3 : (qk == key) = false := beq_eq_false_iff_ne.2 he
    have g4 : ¬ qk.toArray = key.toArray := fun e => he (by simpa using e)
    clear heq hdr hq d1 d2 d3 d4 he
    go_wp2_with fail
    go_roundw
    case rel => exact ⟨j + 1, by omega, by go_num, HE.out, by first | rfl | trivial⟩
    case measure => simp [intOf]; omega
  ·obtain rfl : j = N := by omega
   have hnil : l.drop j = [] := List.drop_eq_nil_of_le (by rw [HL.out.1]; exact Nat.le_refl _)
   rw [hnil, oW] at heq
   have HE := Lib.hid heq
   clear heq hnil
   go_wp2_with fail
   go_ret
   exact ⟨by rw [<- HE.out]; rfl, by first | rfl | trivial⟩
structure Ln where
 n : Int
 r : Rw
def L3 (x : Ln) : List Value := [.int .i64 x.n, .int .i64 x.r.a, .int .i64 x.r.b, .int .i64 x.r.c, .int .i64 x.r.d]
def oX (w : World) (F : Nat -> Prop) (v : Value) (l : List Ln) : Prop := bE 5 w F v (l.map L3)
theorem JH {w : World} {F : Nat -> Prop} {A : Option Addr} {n c : Nat} {l : List Ln} (h : oX w F (.slice A n c) l) {j : Nat} {x : Ln} (hj : l[j]? = some x) :
  ∃ b o, A = some ⟨b, o, none⟩ /\ F b /\ w.cell? ⟨b, o + j * 5, none⟩ = some (.int .i64 x.n) /\ w.cell? ⟨b, o + j * 5 + 1, none⟩ = some (.int .i64 x.r.a) /\ w.cell? ⟨b, o + j * 5 + 2, none⟩ = some (.int .i64 x.r.b) /\
   w.cell? ⟨b, o + j * 5 + 3, none⟩ = some (.int .i64 x.r.c) /\ w.cell? ⟨b, o + j * 5 + 4, none⟩ = some (.int .i64 x.r.d) := by
 obtain ⟨A', n', c', hv, hl, _, _, hx⟩ := h
 injection hv with h1 h2 h3
 subst h1 h2 h3
 have hlt := (List.getElem?_eq_some_iff.1 hj).1
 obtain ⟨b, o, rfl, hF, hc⟩ := hx (by simp at hl; omega)
 have hx' : (l.map L3)[j]? = some (L3 x) := by simp [hj]
 exact ⟨b, o, rfl, hF, hc j _ hx' 0 _ rfl, hc j _ hx' 1 _ rfl, hc j _ hx' 2 _ rfl, hc j _ hx' 3 _ rfl, hc j _ hx' 4 _ rfl⟩
theorem rO {w : World} {F : Nat -> Prop} {v : Value} {l : List Ln} (h : oX w F v l) : ∃ A c, v = .slice A l.length c /\ l.length <= c /\ c <= maxLen := by
 obtain ⟨A', n', c', hv, hl, h1, h2, _⟩ := h
 simp at hl
 exact ⟨A', c', by rw [hl]; exact hv, by omega, h2⟩
def Aw (x : Ln) : List UInt8 × Rw := (Lib.itoa (bt x.n), x.r)
def dJ (xs : List Ln) : Nat -> aW
 | 0 => []
 | j + 1 => match xs[j]? with
  | some x => ig (Aw x) false (dJ xs j)
  | none => dJ xs j
def mU (xs : List Ln) : aW := dJ xs xs.length
theorem gm (xs : List Ln) : ∀ j, lg (dJ xs j)
 | 0 => List.Pairwise.nil
 | j + 1 => by
  rw [dJ]
  split
  ·rw [lG (gm xs j)]
   exact iu (gm xs j)
  ·exact gm xs j
theorem gp (xs : List Ln) : ∀ j, (dJ xs j).length <= j
 | 0 => Nat.le_refl _
 | j + 1 => by
  have ih := gp xs j
  rw [dJ]
  split
  ·rw [lG (gm xs j)]
   have := gK (Aw ‹_›) (dJ xs j)
   omega
  ·omega
set_option maxHeartbeats 4000000 in
theorem kH (w : World) (F : Nat -> Prop) (v : Value) (xs : List Ln) (most : Int) (hv : oX w F v xs) (hl : xs.length <= 30) :
  Calls Tryz.prog 11 #[.agg #[v, .int .i64 most]] w (TH (mU xs) w) := by
 obtain ⟨A, c, rfl, hlc, hcm⟩ := rO hv
 unfold maxLen at hcm
 have hb0 := ag w (.cells #[.slice A xs.length c, .int .i64 most] 24)
 have k0 := heap_alloc_new w (.cells #[.slice A xs.length c, .int .i64 most] 24)
 have hv1 := (show oX _ _ _ _ from bE.below hv hb0)
 have HG := Lib.hid (show mU xs = dJ xs xs.length from rfl)
 obtain ⟨N, hN⟩ : ∃ N, xs.length = N := ⟨_, rfl⟩
 rw [hN] at hv1 hlc hl hb0 k0 HG ⊢
 have HL := Lib.hid hN
 clear hv hN
 go_enter Tryz.func11, Tryz.ntmps11
 go_upto_region 1 with fail
 generalize w.alloc (.cells #[.slice A N c, .int .i64 most] 24) = w1 at hb0 k0 hv1 ⊢
 obtain ⟨X, hX⟩ : ∃ x, w.heap.size = x := ⟨_, rfl⟩
 rw [hX] at k0 ⊢
 have f0 : w1.cell? ⟨X, 0, none⟩ = some (.slice A N c) := by simp [World.cell?, k0]
 have H1 := Lib.hid (And.intro hb0 (And.intro k0 (And.intro hX hv1)))
 clear hb0 k0 hX hv1
 have HF := Lib.hid f0
 clear f0
 go_wp2_with fail
 go_loopw [3, 4] (fun v i wr => ∃ j : Nat, j <= N /\ i = .int .i64 (j : Int) /\ dV w1.heap.size v (dJ xs j) wr /\ Below w1.heap.size w1 wr) (fun _ i _ => N - (intOf i).toNat)
 case atStart => exact ⟨0, by omega, rfl, World.ownsRow_nil _ _ _ _, Below.refl _ _⟩
 case round =>
  obtain ⟨j, hj, rfl, hown, hb⟩ := hrel
  have x0 := aa hb HF.out
  by_cases hlt : j < N
  ·obtain ⟨x, hx⟩ : ∃ x, xs[j]? = some x := ⟨_, List.getElem?_eq_getElem (by rw [HL.out]; exact hlt)⟩
   obtain ⟨b, o, rfl, hF, d0, d1, d2, d3, d4⟩ := JH H1.out.2.2.2 hx
   obtain ⟨n, ra, rb, rc, rd⟩ := x
   simp only at d0 d1 d2 d3 d4
   have e0 := aa hb d0
   have e1 := aa hb d1
   have e2 := aa hb d2
   have e3 := aa hb d3
   have e4 := aa hb d4
   have i1 : (0 : Int) <= (j : Int) := by omega
   have i2 : (j : Int) < (N : Int) := by omega
   have HR := Lib.hid (mg n)
   have HW := Lib.hid (And.intro hown (And.intro hb hx))
   clear hown hb hx d0 d1 d2 d3 d4
   go_wp2_with fail
   go_upto_region 5 with fail
   have HZ := Lib.hid (And.intro x0 (And.intro e0 (And.intro e1 (And.intro e2 (And.intro e3 e4)))))
   clear x0 e0 e1 e2 e3 e4
   refine wp_region_held_drew (S := (fun W => Below wr.heap.size wr W)) (by kernel_rfl) (Below.refl _ _).drew (fun hHeld => ?_)
   refine aO [0, 1] ?_
   iterate 2 (refine cI (v := ?_) (fun wS hSw => ?_) hHeld ?_; rotate_left; (go_simp; try with_reducible rfl); try simp only [av, ax, ay, az])
   refine aP ?_
   refine fL 2 (v := ?_) (fun wS hSw => ?_) hHeld ?_
   rotate_left
   ·have x0 := aa hSw HZ.out.1; have e0 := aa hSw HZ.out.2.1; have e1 := aa hSw HZ.out.2.2.1; have e2 := aa hSw HZ.out.2.2.2.1; have e3 := aa hSw HZ.out.2.2.2.2.1; have e4 := aa hSw HZ.out.2.2.2.2.2; go_simp; try with_reducible rfl
   try simp only [av, ax, ay, az]
   refine aO [3, 4, 5] ?_
   iterate 3 (refine cI (v := ?_) (fun wS hSw => ?_) hHeld ?_; rotate_left; (go_simp; try with_reducible rfl); try simp only [av, ax, ay, az])
   refine aP ?_
   refine fL 6 (v := ?_) (fun wS hSw => ?_) hHeld ?_
   rotate_left
   ·have x0 := aa hSw HZ.out.1; have e0 := aa hSw HZ.out.2.1; have e1 := aa hSw HZ.out.2.2.1; have e2 := aa hSw HZ.out.2.2.2.1; have e3 := aa hSw HZ.out.2.2.2.2.1; have e4 := aa hSw HZ.out.2.2.2.2.2; go_simp; try with_reducible rfl
   try simp only [av, ax, ay, az]
   refine fL 9 (v := ?_) (fun wS hSw => ?_) hHeld ?_
   rotate_left
   ·go_simp; try with_reducible rfl
   try simp only [av, ax, ay, az]
   refine fL 10 (v := ?_) (fun wS hSw => ?_) hHeld ?_
   rotate_left
   ·have x0 := aa hSw HZ.out.1; have e0 := aa hSw HZ.out.2.1; have e1 := aa hSw HZ.out.2.2.1; have e2 := aa hSw HZ.out.2.2.2.1; have e3 := aa hSw HZ.out.2.2.2.2.1; have e4 := aa hSw HZ.out.2.2.2.2.2; go_simp; try with_reducible rfl
   try simp only [av, ax, ay, az]
   refine aO [11, 12, 13] ?_
   iterate 3 (refine cI (v := ?_) (fun wS hSw => ?_) hHeld ?_; rotate_left; (go_simp; try with_reducible rfl); try simp only [av, ax, ay, az])
   refine aP ?_
   refine fL 14 (v := ?_) (fun wS hSw => ?_) hHeld ?_
   rotate_left
   ·have x0 := aa hSw HZ.out.1; have e0 := aa hSw HZ.out.2.1; have e1 := aa hSw HZ.out.2.2.1; have e2 := aa hSw HZ.out.2.2.2.1; have e3 := aa hSw HZ.out.2.2.2.2.1; have e4 := aa hSw HZ.out.2.2.2.2.2; go_simp; try with_reducible rfl
   try simp only [av, ax, ay, az]
   refine bg 7 (fun K hK => ?_)
   go_simp
   refine (rL _ n).mono ?_
   rintro e wn ⟨rfl, rfl⟩
   try go_simp
   refine hK.out _ _ (hHeld) (fun ae => ?_)
   clear hK K hHeld 
   have hHeld := ae
   clear ae
   try simp only [av, ax, ay, az]
   refine bg 8 (fun K hK => ?_)
   go_simp
   refine (lK (bt n).natAbs (bt n) _ (Nat.le_refl _) HR.out.i64).mono ?_
   rintro e wn ⟨rfl, m, rfl⟩
   try go_simp
   refine hK.out _ _ (Only.au ((Only.refl (fun _ => False) wr).drewN _) (Nat.le_refl _) (fun _ _ h => h)) (fun ae => ?_)
   clear hK K hHeld 
   have hHeld := ae
   clear ae
   try simp only [av, ax, ay, az]
   refine fL 15 (v := ?_) (fun wS hSw => ?_) hHeld ?_
   rotate_left
   ·go_simp; try with_reducible rfl
   try simp only [av, ax, ay, az]
   refine bg 16 (fun K hK => ?_)
   go_simp
   refine (FL _ (fun _ => True) _ (dJ xs j) (Lib.itoa (bt n)) ⟨ra, rb, rc, rd⟩ (bE.bC (aC HW.out.1 hHeld) (gZ _) (by decide) (fun _ _ => trivial)) (by have := gp xs j; omega)).mono ?_
   rintro e wn ⟨vn, rfl, Fg, dU⟩
   have HP := Lib.hid (And.intro hHeld (And.intro Fg dU))
   try go_simp
   refine hK.out _ _ (JP hHeld dU) (fun ae => ?_)
   clear hK K hHeld dU Fg
   have hHeld := ae
   clear ae
   try simp only [av, ax, ay, az]
   refine fL 17 (v := ?_) (fun wS hSw => ?_) hHeld ?_
   rotate_left
   ·go_simp; try with_reducible rfl
   try simp only [av, ax, ay, az]
   refine wpAnyH_done (by kernel_rfl) ?_ _
   clear hHeld
   go_wp2_with fail
   go_roundw
   case rel =>
    refine ⟨j + 1, by omega, by go_num, ?_, HW.out.2.1.trans ((HP.out.1.trans (HP.out.2.2.mono HP.out.1.size)).mono HW.out.2.1.size)⟩
    rw [dJ, HW.out.2.2]
    exact dO HP.out.2.1 (fun g hg => by have := (HP.out.2.1.lt g hg).1; have := HP.out.1.size; have := HW.out.2.1.size; omega)
   case measure => simp [intOf]; omega
  ·obtain rfl : j = N := by omega
   have HW := Lib.hid (And.intro hown hb)
   clear hown hb
   go_wp2_with fail
   go_ret
   refine ⟨_, rfl, ?_, H1.out.1.trans (HW.out.2.mono H1.out.1.size)⟩
   rw [HG.out]
   exact dO HW.out.1 (fun g hg => by have := (HW.out.1.lt g hg).1; have := H1.out.1.size; omega)
def Gt (r : Rw) (k : Nat) : Prop := ∀ c, c < k -> bt (r.aG c) = r.aG c
noncomputable def jr : List Ln -> aW -> Option aW
 | [], l => some l
 | x :: xs, l => @ite _ (Gt x.r 4 /\ aI (Aw x).1 l = none) (Classical.propDecidable _) (jr xs (bU (Aw x) l)) none
theorem lL {x : Ln} {xs : List Ln} {l : aW} (h : Gt x.r 4 /\ aI (Aw x).1 l = none) : jr (x :: xs) l = jr xs (bU (Aw x) l) := by
 rw [jr]
 exact @if_pos _ (Classical.propDecidable _) h _ _ _
theorem jO {x : Ln} {xs : List Ln} {l : aW} (h : ¬ (Gt x.r 4 /\ aI (Aw x).1 l = none)) : jr (x :: xs) l = none := by
 rw [jr]
 exact @if_neg _ (Classical.propDecidable _) h _ _ _
noncomputable def dK (xs : List Ln) (most : Int) : Option aW := if 30 < xs.length \/ most < 1 \/ 60 < most \/ most < (xs.length : Int) then none else jr xs []
def jP (p : Option aW) (most : Int) (w : World) (e : Ending) (w' : World) : Prop :=
 Below w.heap.size w w' /\ (p = none -> e = .returned (.pointer none)) /\ ∀ l, p = some l -> ∃ T F, e = .returned (.pointer (some ⟨T, 0, none⟩)) /\ cM w' T most 3 l F /\ ∀ b q, F b q -> w.heap.size <= b /\ b < w'.heap.size
theorem jP.no {p : Option aW} {most : Int} {w w' : World} (hp : p = none) (hb : Below w.heap.size w w') : jP p most w (.returned (.pointer none)) w' := ⟨hb, fun _ => rfl, fun l h => by rw [hp] at h; cases h⟩
theorem IU {r : Rw} (h : Gt r 4) : ∀ c, I6 (r.aG c) := by
 have h4 : ∀ c, c < 4 -> I6 (r.aG c) := fun c hc => by
  have h1 := mg (r.aG c)
  rw [h c hc] at h1
  unfold fO at h1
  exact ⟨by omega, by omega⟩
 intro c
 match c with
 | 0 => exact h4 0 (by decide)
 | 1 => exact h4 1 (by decide)
 | 2 => exact h4 2 (by decide)
 | c + 3 => exact h4 3 (by decide)
def iG (w1 : World) (T : Nat) (most : Int) (l : aW) (E : Nat -> Prop) (wr : World) : Prop :=
 ∃ F, cM wr T most 3 l F /\ (∀ b q, F b q -> w1.heap.size <= b /\ b < wr.heap.size /\ ¬ E b) /\ (∀ k, E k -> w1.heap.size <= k /\ k < wr.heap.size) /\ Below w1.heap.size w1 wr
def OT : Nat -> Prop := fun _ => False
section
variable {w w1 wr w2 : World} {T : Nat} {most : Int} {l : aW} {E : Nat -> Prop}
theorem iG.Dw (h : iG w1 T most l E wr) : Below w1.heap.size w1 wr := by obtain ⟨F, _, _, _, h⟩ := h; exact h
theorem iG.still (h : iG w1 T most l E wr) (hb : Below wr.heap.size wr w2) : iG w1 T most l E w2 := by
 obtain ⟨F, h1, h2, h4, h3⟩ := h
 exact ⟨F, h1.below hb, fun b q hf => ⟨(h2 b q hf).1, Nat.lt_of_lt_of_le (h2 b q hf).2.1 hb.size, (h2 b q hf).2.2⟩, fun k hk => ⟨(h4 k hk).1, Nat.lt_of_lt_of_le (h4 k hk).2 hb.size⟩, h3.trans (hb.mono h3.size)⟩
theorem iG.eN (h : iG w1 T most l E wr) (o : Obj) : iG w1 T most l (fun k => E k \/ k = wr.heap.size) (wr.alloc o) := by
 obtain ⟨F, h1, h2, h4, h3⟩ := h
 have hb := ag wr o
 have hs : (wr.alloc o).heap.size = wr.heap.size + 1 := by simp
 refine ⟨F, h1.below hb, fun b q hf => ?_, fun k hk => ?_, h3.trans (hb.mono h3.size)⟩
 ·have := h2 b q hf
  refine ⟨this.1, by omega, ?_⟩
  rintro (h | h)
  ·exact this.2.2 h
  ·omega
 ·have hs3 := h3.size
  rcases hk with h | h
  ·have := h4 k h; exact ⟨by omega, by omega⟩
  ·exact ⟨by omega, by omega⟩
theorem iG.box (h : iG w1 T most l E wr) {S : Nat -> Prop} (ho : Only S wr w2) (hS : ∀ k, S k -> E k) : iG w1 T most l E w2 := by
 obtain ⟨F, h1, h2, h4, h3⟩ := h
 exact ⟨F, h1.eP ho (fun b q hf hs => (h2 b q hf).2.2 (hS b hs)), fun b q hf => ⟨(h2 b q hf).1, Nat.lt_of_lt_of_le (h2 b q hf).2.1 ho.size, (h2 b q hf).2.2⟩, fun k hk => ⟨(h4 k hk).1, Nat.lt_of_lt_of_le (h4 k hk).2 ho.size⟩,
  h3.trans (ho.au h3.size (fun k hk hs => by have := h4 k (hS k hs); omega))⟩
theorem iG.forget (h : iG w1 T most l E wr) : iG w1 T most l OT wr := by
 obtain ⟨F, h1, h2, h4, h3⟩ := h
 exact ⟨F, h1, fun b q hf => ⟨(h2 b q hf).1, (h2 b q hf).2.1, fun h => h⟩, fun k hk => hk.elim, h3⟩
theorem iG.end_ {p : Option aW} (hb : Below w.heap.size w w1) (h : iG w1 T most l E wr) (hp : p = some l) : jP p most w (.returned (.pointer (some ⟨T, 0, none⟩))) wr := by
 obtain ⟨F, h1, h2, h4, h3⟩ := h
 refine ⟨hb.trans (h3.mono hb.size), fun e => (by rw [hp] at e; cases e), fun l' e => ?_⟩
 rw [hp] at e
 injection e with e
 subst e
 exact ⟨T, F, rfl, h1, fun b q hf => ⟨Nat.le_trans hb.size (h2 b q hf).1, (h2 b q hf).2.1⟩⟩
theorem jt {k : List UInt8} {r : Rw} {q : Option Rw} (h : iG w1 T most l E wr) (hk : 1 <= k.length /\ k.length <= 16) (hr : ∀ c, I6 (r.aG c)) (hq : aI k l = q) (Uk : ¬ (aI k l = none /\ most <= (l.length : Int))) :
  Calls Tryz.prog 35 #[.pointer (some ⟨T, 0, none⟩), .string ⟨k.toArray⟩, .agg #[.int .i64 r.a, .int .i64 r.b, .int .i64 r.c, .int .i64 r.d]] wr fun e w' =>
   ∃ oa ob oc od : Int, e = .returned (.tuple #[.agg #[.int .i64 oa, .int .i64 ob, .int .i64 oc, .int .i64 od], .bool q.isSome, .int .i64 0]) /\ iG w1 T most (bU (k, r) l) E w' /\ ∀ b o, E b -> wr.heap[b]? = some o -> w'.heap[b]? = some o := by
 obtain ⟨F, h1, h2, h4, h3⟩ := h
 refine (C9 wr T 3 most l F k r h1 (fun b q hf => (h2 b q hf).2.1) hk hr).mono ?_
 rintro e w' ⟨rfl, ht, ho⟩
 have hE : sG most l k = 0 := by unfold sG; rw [if_neg Uk]
 have hR : ve most l k r = bU (k, r) l := by unfold ve; rw [if_neg Uk]
 rw [hR] at ht
 rw [hE, hq]
 refine ⟨_, _, _, _, rfl, ⟨_, ht.bound, fun b q hf => ⟨?_, hf.2, fun hb => ?_⟩, fun k hk => ⟨(h4 k hk).1, Nat.lt_of_lt_of_le (h4 k hk).2 ho.size⟩, h3.trans (Only.au ho.only h3.size (fun k hk ⟨q, hq⟩ => by have := (h2 k q hq).1; omega))⟩, fun b o hb NA => ho.heap NA (fun q hq => (h2 b q hq).2.2 hb)⟩
 ·rcases hf.1 with h | h
  ·exact (h2 b q h).1
  ·exact Nat.le_trans h3.size h
 ·rcases hf.1 with h | h
  ·exact (h2 b q h).2.2 hb
  ·have := (h4 b hb).2; omega
end
theorem gT {xs : List Ln} {j : Nat} {x : Ln} {l : aW} (hx : xs[j]? = some x) (CM : dJ xs j = l) (hll : l.length = j) (hq : aI (Aw x).1 l = none) : (bU (Aw x) l).length = j + 1 /\ dJ xs (j + 1) = bU (Aw x) l := by
 have hu : lg l := by rw [<- CM]; exact gm xs j
 constructor
 ·rw [mZ hu, hq, hll]
  rfl
 ·rw [dJ, hx]
  simp only []
  rw [lG (gm xs j), CM]
theorem iI (w : World) (n : Int) : Calls Tryz.prog 34 #[.int .i64 n] w fun e w' => e = .returned (.int .i64 (bt n)) /\ w = w' := rL w n
theorem iJ (w : World) (n : Int) (h : fO n) : Calls Tryz.prog 9 #[.int .i64 n] w fun e w' => e = .returned (.string ⟨(Lib.itoa n).toArray⟩) /\ Below w.heap.size w w' :=
 (lK n.natAbs n w (Nat.le_refl _) h.i64).mono fun e w' ⟨h1, m, h2⟩ => ⟨h1, by rw [h2]; exact au (Below.refl _ _) m⟩
theorem Lr {w : World} {b p : Nat} {r : Rw} (h1 : w.cell? ⟨b, p + 1, none⟩ = some (.int .i64 r.a)) (h2 : w.cell? ⟨b, p + 2, none⟩ = some (.int .i64 r.b)) (h3 : w.cell? ⟨b, p + 3, none⟩ = some (.int .i64 r.c)) (h4 : w.cell? ⟨b, p + 4, none⟩ = some (.int .i64 r.d)) {k : Nat} (hk : k < 4) :
  w.cell? ⟨b, p + 1 + k, none⟩ = some (.int .i64 (r.aG k)) := by
 match k, hk with
 | 0, _ => exact h1
 | 1, _ => exact h2
 | 2, _ => exact h3
 | 3, _ => exact h4
set_option maxHeartbeats 8000000 in
theorem Ay (w : World) (F : Nat -> Prop) (v : Value) (xs : List Ln) (most : Int) (hv : oX w F v xs) :
  Calls Tryz.prog 6 #[.agg #[v, .int .i64 most]] w (jP (dK xs most) most w) := by
 obtain ⟨A, c, rfl, hlc, hcm⟩ := rO hv
 unfold maxLen at hcm
 have hb0 := ag w (.cells #[.slice A xs.length c, .int .i64 most] 24)
 have k0 := heap_alloc_new w (.cells #[.slice A xs.length c, .int .i64 most] 24)
 have hv1 := (show oX _ _ _ _ from bE.below hv hb0)
 have HG := Lib.hid (show dK xs most = if 30 < xs.length \/ most < 1 \/ 60 < most \/ most < (xs.length : Int) then none else jr xs [] from rfl)
 obtain ⟨N, hN⟩ : ∃ N, xs.length = N := ⟨_, rfl⟩
 rw [hN] at hv1 hlc hb0 k0 HG ⊢
 have HL := Lib.hid hN
 clear hv hN
 go_enter Tryz.func6, Tryz.ntmps6
 go_upto_region 1 with fail
 generalize w.alloc (.cells #[.slice A N c, .int .i64 most] 24) = w1 at hb0 k0 hv1 ⊢
 obtain ⟨X, hX⟩ : ∃ x, w.heap.size = x := ⟨_, rfl⟩
 rw [hX] at k0 ⊢
 have x0 : w1.cell? ⟨X, 0, none⟩ = some (.slice A N c) := by simp [World.cell?, k0]
 have x1 : w1.cell? ⟨X, 1, none⟩ = some (.int .i64 most) := by simp [World.cell?, k0]
 have H1 := Lib.hid (And.intro hb0 (And.intro x0 (And.intro x1 hv1)))
 clear hb0 k0 hX hv1
 by_cases c1 : 30 < N
 ·have c1' : (30 : Int) < (N : Int) := by omega
  have HE := Lib.hid (show dK xs most = none by rw [HG.out]; exact if_pos (.inl c1))
  clear c1
  go_wp2_with fail
  go_ret
  exact jP.no HE.out H1.out.1
 by_cases c2 : most < 1
 ·have c1' : ¬ (30 : Int) < (N : Int) := by omega
  have HE := Lib.hid (show dK xs most = none by rw [HG.out]; exact if_pos (.inr (.inl c2)))
  clear c1
  go_wp2_with fail
  go_ret
  exact jP.no HE.out H1.out.1
 by_cases c3 : 60 < most
 ·have c1' : ¬ (30 : Int) < (N : Int) := by omega
  have HE := Lib.hid (show dK xs most = none by rw [HG.out]; exact if_pos (.inr (.inr (.inl c3))))
  clear c1
  go_wp2_with fail
  go_ret
  exact jP.no HE.out H1.out.1
 by_cases c4 : most < (N : Int)
 ·have c1' : ¬ (30 : Int) < (N : Int) := by omega
  have HE := Lib.hid (show dK xs most = none by rw [HG.out]; exact if_pos (.inr (.inr (.inr c4))))
  clear c1
  go_wp2_with fail
  go_ret
  exact jP.no HE.out H1.out.1
 have c1' : ¬ (30 : Int) < (N : Int) := by omega
 have HE := Lib.hid (show dK xs most = jr xs [] by rw [HG.out]; exact if_neg (by omega))
 have HM := Lib.hid (show (N <= 30 /\ 1 <= most /\ most <= 60 /\ (N : Int) <= most) from ⟨by omega, by omega, by omega, by omega⟩)
 have HT := Lib.hid (zx w1 most 3 HM.out.2.1 (by have := HM.out; omega) (by decide) (by decide))
 clear c1 HG
 go_wp2_with fail
 refine HT.out.mono ?_
 rintro e w2 ⟨T, rfl, Ul, hb2⟩
 have HR := Lib.hid (show iG w1 T most [] OT w2 from ⟨_, Ul, fun b q h => ⟨h.1, h.2, fun h => h⟩, fun k hk => hk.elim, hb2⟩)
 clear Ul hb2 HT c1' c2 c3 c4 x0 x1
 go_wp2_with fail
 go_loopw [5] (fun i wr => ∃ (j : Nat) (l : aW), j <= N /\ i = .int .i64 (j : Int) /\ iG w1 T most l OT wr /\ jr xs [] = jr (xs.drop j) l /\ l.length = j /\ dJ xs j = l) (fun i _ => N - (intOf i).toNat)
 case atStart => exact ⟨0, [], by omega, rfl, HR.out, by simp, rfl, rfl⟩
 case round =>
  obtain ⟨j, l, hj, rfl, hR, heq, hll, CM⟩ := hrel
  have hbr : Below w1.heap.size w1 wr := hR.Dw
  have x0 := aa hbr H1.out.2.1
  by_cases hlt : j < N
  ·obtain ⟨x, hx⟩ : ∃ x, xs[j]? = some x := ⟨_, List.getElem?_eq_getElem (by rw [HL.out]; exact hlt)⟩
   have hdr : xs.drop j = x :: xs.drop (j + 1) := by
    have h1 := List.getElem?_eq_some_iff.1 hx
    rw [<- h1.2]
    exact List.drop_eq_getElem_cons h1.1
   rw [hdr] at heq
   obtain ⟨b, o, rfl, hF, d0, d1, d2, d3, d4⟩ := JH H1.out.2.2.2 hx
   obtain ⟨n, ra, rb, rc, rd⟩ := x
   simp only at d0 d1 d2 d3 d4
   have i1 : (0 : Int) <= (j : Int) := by omega
   have i2 : (j : Int) < (N : Int) := by omega
   have HD := Lib.hid (And.intro d0 (And.intro d1 (And.intro d2 (And.intro d3 d4))))
   have HW := Lib.hid (And.intro hR (And.intro heq (And.intro hll (And.intro CM (And.intro hx hbr)))))
   clear hR heq hll CM hx hdr hbr d0 d1 d2 d3 d4
   go_wp2_with fail
   go_loopw [6] (fun i wq => ∃ k : Nat, k <= 4 /\ i = .int .i64 (k : Int) /\ Gt ⟨ra, rb, rc, rd⟩ k /\ Below wr.heap.size wr wq) (fun i _ => 4 - (intOf i).toNat)
   case atStart => exact ⟨0, by decide, rfl, fun c hc => by omega, Below.refl _ _⟩
   case round =>
    obtain ⟨k, hk, rfl, hrc, pX⟩ := hrel
    have sP := HW.out.2.2.2.2.2.trans (pX.mono HW.out.2.2.2.2.2.size)
    have x0 := aa sP H1.out.2.1
    have e0 := aa sP HD.out.1
    have e1 := aa sP HD.out.2.1
    have e2 := aa sP HD.out.2.2.1
    have e3 := aa sP HD.out.2.2.2.1
    have e4 := aa sP HD.out.2.2.2.2
    by_cases hk4 : k < 4
    ·have j1 : (0 : Int) <= (k : Int) := by omega
     have j2 : (k : Int) < 4 := by omega
     have ec := Lr (r := ⟨ra, rb, rc, rd⟩) e1 e2 e3 e4 hk4
     obtain ⟨v, hv⟩ : ∃ v, Rw.aG ⟨ra, rb, rc, rd⟩ k = v := ⟨_, rfl⟩
     rw [hv] at ec
     by_cases hcl : bt v = v
     ·have HC := Lib.hid (fun w => iI w v)
      rw [hcl] at HC
      have HQ := Lib.hid (And.intro hrc (And.intro pX (show bt (Rw.aG ⟨ra, rb, rc, rd⟩ k) = Rw.aG ⟨ra, rb, rc, rd⟩ k by rw [hv, hcl])))
      clear hrc pX sP hcl hv e0 e1 e2 e3 e4
      go_wp2_with fail
      go_quiet ((go_at_call 34; exact jX (HC.out _)))
      rename_i nq
      clear x0 ec
      go_wp2_with fail
      go_roundw
      case rel =>
       refine ⟨k + 1, by omega, by go_num, fun c hc => ?_, Only.au ((Only.of_below HQ.out.2.1 (fun _ => False)).drewN nq) (Nat.le_refl _) (fun _ _ h => h)⟩
       by_cases e : c = k
       ·subst e; exact HQ.out.2.2
       ·exact HQ.out.1 c (by omega)
      case measure => simp [intOf]; omega
     ·obtain ⟨u, hu⟩ : ∃ u, bt v = u := ⟨_, rfl⟩
      have HC := Lib.hid (fun w => iI w v)
      rw [hu] at HC hcl
      have WV : (u != v) = true := by simpa using hcl
      have HN := Lib.hid (show dK xs most = none from by
       rw [HE.out, HW.out.2.1]
       exact jO (fun h => hcl (by rw [<- hu, <- hv]; exact h.1 k hk4)))
      have HB := Lib.hid (show Below w.heap.size w wr from H1.out.1.trans (sP.mono H1.out.1.size))
      clear hrc pX sP hcl hv hu e0 e1 e2 e3 e4
      go_wp2_with fail
      go_quiet ((go_at_call 34; exact jX (HC.out _)))
      rename_i nq
      clear x0 ec
      go_wp2_with fail
      go_ret
      exact jP.no HN.out (Only.au ((Only.of_below HB.out (fun _ => False)).drewN nq) (Nat.le_refl _) (fun _ _ h => h))
    ·obtain rfl : k = 4 := by omega
     have HQ := Lib.hid (And.intro hrc (HW.out.1.still pX))
     have rY := Lib.hid (And.intro (mg n) (And.intro (rK (mg n)) (IU hrc)))
     clear hrc pX sP x0 e0 e1 e2 e3 e4
     cases hq : aI (Lib.itoa (bt n)) l with
     | none =>
      have HK := Lib.hid hq
      clear hq
      go_wp2_with fail
      go_upto_region 14 with fail
      have HT := Lib.hid (show iG w1 T most l OT wr.drew from HQ.out.2.still (Below.refl _ _).drew)
      have NF := Lib.hid (show ¬ (aI (Lib.itoa (bt n)) l = none /\ most <= (l.length : Int)) from fun h => by have h1 := HW.out.2.2.1; have h2 := HM.out; have h3 := h.2; rw [h1] at h3; omega)
      refine wp_region_held_drew (S := (fun W => ∃ l E, iG w1 T most l E W)) (by kernel_rfl) ⟨_, _, HQ.out.2.still (Below.refl _ _).drew⟩ (fun hHeld => ?_)
      generalize wr.drew = W3 at HT hHeld ⊢
      refine aO [0, 1] ?_
      iterate 2 (refine cI (v := ?_) (fun wS hSw => ?_) hHeld ?_; rotate_left; (go_simp; try with_reducible rfl); try simp only [av, ax, ay, az])
      refine aP ?_
      refine fL 2 (v := ?_) (fun wS hSw => ?_) hHeld ?_
      rotate_left
      ·obtain ⟨_, _, Az⟩ := hSw; have gq := Az.Dw; have x0 := aa gq H1.out.2.1; have e0 := aa gq HD.out.1; have e1 := aa gq HD.out.2.1; have e2 := aa gq HD.out.2.2.1; have e3 := aa gq HD.out.2.2.2.1; have e4 := aa gq HD.out.2.2.2.2; go_simp; try with_reducible rfl
      try simp only [av, ax, ay, az]
      refine aO [3, 4, 5] ?_
      iterate 3 (refine cI (v := ?_) (fun wS hSw => ?_) hHeld ?_; rotate_left; (go_simp; try with_reducible rfl); try simp only [av, ax, ay, az])
      refine aP ?_
      refine fL 6 (v := ?_) (fun wS hSw => ?_) hHeld ?_
      rotate_left
      ·obtain ⟨_, _, Az⟩ := hSw; have gq := Az.Dw; have x0 := aa gq H1.out.2.1; have e0 := aa gq HD.out.1; have e1 := aa gq HD.out.2.1; have e2 := aa gq HD.out.2.2.1; have e3 := aa gq HD.out.2.2.2.1; have e4 := aa gq HD.out.2.2.2.2; go_simp; try with_reducible rfl
      try simp only [av, ax, ay, az]
      refine fL 9 (v := ?_) (fun wS hSw => ?_) hHeld ?_
      rotate_left
      ·go_simp; try with_reducible rfl
      try simp only [av, ax, ay, az]
      refine fL 10 (v := ?_) (fun wS hSw => ?_) hHeld ?_
      rotate_left
      ·obtain ⟨_, _, Az⟩ := hSw; have gq := Az.Dw; have x0 := aa gq H1.out.2.1; have e0 := aa gq HD.out.1; have e1 := aa gq HD.out.2.1; have e2 := aa gq HD.out.2.2.1; have e3 := aa gq HD.out.2.2.2.1; have e4 := aa gq HD.out.2.2.2.2; go_simp; try with_reducible rfl
      try simp only [av, ax, ay, az]
      refine aO [11, 12, 13] ?_
      iterate 3 (refine cI (v := ?_) (fun wS hSw => ?_) hHeld ?_; rotate_left; (go_simp; try with_reducible rfl); try simp only [av, ax, ay, az])
      refine aP ?_
      refine fL 14 (v := ?_) (fun wS hSw => ?_) hHeld ?_
      rotate_left
      ·obtain ⟨_, _, Az⟩ := hSw; have gq := Az.Dw; have x0 := aa gq H1.out.2.1; have e0 := aa gq HD.out.1; have e1 := aa gq HD.out.2.1; have e2 := aa gq HD.out.2.2.1; have e3 := aa gq HD.out.2.2.2.1; have e4 := aa gq HD.out.2.2.2.2; go_simp; try with_reducible rfl
      try simp only [av, ax, ay, az]
      refine wpAnyH_ready (rs := [7, 20]) (by kernel_rfl) (by simp) (cy (i := 7) rfl (fun K hK => ?_) (cy (i := 20) rfl (fun K hK => ?_) AllReadyH.nil))
      ·skip
       go_simp
       refine (iI _ n).mono ?_
       rintro e wn ⟨rfl, rfl⟩
       try go_simp
       refine hK.out _ _ (hHeld) (fun ae => ?_)
       clear hK K hHeld 
       have hHeld := ae
       clear ae
       try simp only [av, ax, ay, az]
       refine wpAnyH_ready (rs := [8, 20]) (by kernel_rfl) (by simp) (cy (i := 8) rfl (fun K hK => ?_) (cy (i := 20) rfl (fun K hK => ?_) AllReadyH.nil))
       ·skip
        go_simp
        refine (iJ _ (bt n) rY.out.1).mono ?_
        rintro e wk ⟨rfl, dU⟩
        have dD := Lib.hid (HT.out.still dU)
        clear HT
        have HT := dD
        clear dD
        try go_simp
        refine hK.out _ _ (⟨_, _, HT.out⟩) (fun ae => ?_)
        clear hK K hHeld dU
        have hHeld := ae
        clear ae
        try simp only [av, ax, ay, az]
        refine wpAnyH_ready (rs := [15, 20]) (by kernel_rfl) (by simp) (cy (i := 15) rfl (fun K hK => ?_) (cy (i := 20) rfl (fun K hK => ?_) AllReadyH.nil))
        ·skip
         go_simp
         refine (jt (r := ⟨ra, rb, rc, rd⟩) HT.out rY.out.2.1 rY.out.2.2 HK.out NF.out).mono ?_
         rintro e wp ⟨oa, ob, oc, od, rfl, nu, sQ⟩
         have dD := Lib.hid (nu)
         clear HT
         have HT := dD
         clear dD
         clear nu sQ
         try go_simp
         refine hK.out _ _ (⟨_, _, HT.out⟩) (fun ae => ?_)
         clear hK K hHeld 
         have hHeld := ae
         clear ae
         try simp only [av, ax, ay, az]
         refine aO [16, 17, 18, 19] ?_
         iterate 4 (refine cI (v := ?_) (fun wS hSw => ?_) hHeld ?_; rotate_left; (go_simp; try with_reducible rfl); try simp only [av, ax, ay, az])
         refine aP ?_
         refine bg 20 (fun K hK => ?_)
         go_simp
         refine hK.out _ _ (⟨_, _, HT.out.eN _⟩) (fun ae => ?_)
         clear hK K hHeld 
         have hHeld := ae
         clear ae
         try simp only [av, ax, ay, az]
         have dD := Lib.hid (HT.out.eN (.cells #[.int .i64 0, .int .i64 0, .int .i64 0, .int .i64 0] 26))
         have HZ := Lib.hid (heap_alloc_new wp (.cells #[.int .i64 0, .int .i64 0, .int .i64 0, .int .i64 0] 26))
         clear HT
         generalize wp.heap.size = Z at dD HZ hHeld ⊢
         generalize wp.alloc (.cells #[.int .i64 0, .int .i64 0, .int .i64 0, .int .i64 0] 26) = wz at dD HZ hHeld ⊢
         have HT := dD
         clear dD
         refine bg 21 (fun K hK => ?_)
         obtain ⟨⟨z0, z1, z2, z3⟩, y0, y1, y2, y3⟩ := bG HZ.out
         go_simp
         refine hK.out _ _ (⟨_, _, HT.out.box (bb (v0 := .int .i64 oa) (v1 := .int .i64 ob) (v2 := .int .i64 oc) (v3 := .int .i64 od) HZ.out).2 (fun k hk => .inr hk)⟩) (fun ae => ?_)
         clear hK K hHeld z0 z1 z2 z3 y0 y1 y2 y3
         have hHeld := ae
         clear ae
         try simp only [av, ax, ay, az]
         refine aO [22, 23] ?_
         iterate 2 (refine cI (v := ?_) (fun wS hSw => ?_) hHeld ?_; rotate_left; (go_simp; try with_reducible rfl); try simp only [av, ax, ay, az])
         refine aP ?_
         refine wpAnyH_done (by kernel_rfl) ?_ _
         have AA := Lib.hid (HT.out.box (bb (v0 := .int .i64 oa) (v1 := .int .i64 ob) (v2 := .int .i64 oc) (v3 := .int .i64 od) HZ.out).2 (fun k hk => .inr hk)).forget
         clear HT hHeld
         go_wp2_with fail
         go_roundw
         case rel =>
          refine ⟨j + 1, bU (Lib.itoa (bt n), ⟨ra, rb, rc, rd⟩) l, by omega, by go_num, AA.out, ?_, ?_, ?_⟩
          ·rw [HW.out.2.1, lL (x := ⟨n, ⟨ra, rb, rc, rd⟩⟩) (show Gt (⟨ra, rb, rc, rd⟩ : Rw) 4 /\ aI (Lib.itoa (bt n)) l = none from ⟨HQ.out.1, HK.out⟩)]
           rfl
          ·exact (gT HW.out.2.2.2.2.1 HW.out.2.2.2.1 HW.out.2.2.1 HK.out).1
          ·exact (gT HW.out.2.2.2.2.1 HW.out.2.2.2.1 HW.out.2.2.1 HK.out).2
         case measure => simp [intOf]; omega
        ·skip
         go_simp
         refine hK.out _ _ (⟨_, _, HT.out.eN _⟩) (fun ae => ?_)
         clear hK K hHeld 
         have hHeld := ae
         clear ae
         try simp only [av, ax, ay, az]
         have dD := Lib.hid (HT.out.eN (.cells #[.int .i64 0, .int .i64 0, .int .i64 0, .int .i64 0] 26))
         have HZ := Lib.hid (heap_alloc_new wk (.cells #[.int .i64 0, .int .i64 0, .int .i64 0, .int .i64 0] 26))
         clear HT
         generalize wk.heap.size = Z at dD HZ hHeld ⊢
         generalize wk.alloc (.cells #[.int .i64 0, .int .i64 0, .int .i64 0, .int .i64 0] 26) = wz at dD HZ hHeld ⊢
         have HT := dD
         clear dD
         refine bg 15 (fun K hK => ?_)
         go_simp
         refine (jt (r := ⟨ra, rb, rc, rd⟩) HT.out rY.out.2.1 rY.out.2.2 HK.out NF.out).mono ?_
         rintro e wp ⟨oa, ob, oc, od, rfl, nu, sQ⟩
         have dD := Lib.hid (nu)
         clear HT
         have HT := dD
         clear dD
         have jQ := Lib.hid (sQ _ _ (.inr rfl) HZ.out)
         clear HZ
         have HZ := jQ
         clear jQ
         clear nu sQ
         try go_simp
         refine hK.out _ _ (⟨_, _, HT.out⟩) (fun ae => ?_)
         clear hK K hHeld 
         have hHeld := ae
         clear ae
         try simp only [av, ax, ay, az]
         refine aO [16, 17, 18, 19] ?_
         iterate 4 (refine cI (v := ?_) (fun wS hSw => ?_) hHeld ?_; rotate_left; (go_simp; try with_reducible rfl); try simp only [av, ax, ay, az])
         refine aP ?_
         refine bg 21 (fun K hK => ?_)
         obtain ⟨⟨z0, z1, z2, z3⟩, y0, y1, y2, y3⟩ := bG HZ.out
         go_simp
         refine hK.out _ _ (⟨_, _, HT.out.box (bb (v0 := .int .i64 oa) (v1 := .int .i64 ob) (v2 := .int .i64 oc) (v3 := .int .i64 od) HZ.out).2 (fun k hk => .inr hk)⟩) (fun ae => ?_)
         clear hK K hHeld z0 z1 z2 z3 y0 y1 y2 y3
         have hHeld := ae
         clear ae
         try simp only [av, ax, ay, az]
         refine aO [22, 23] ?_
         iterate 2 (refine cI (v := ?_) (fun wS hSw => ?_) hHeld ?_; rotate_left; (go_simp; try with_reducible rfl); try simp only [av, ax, ay, az])
         refine aP ?_
         refine wpAnyH_done (by kernel_rfl) ?_ _
         have AA := Lib.hid (HT.out.box (bb (v0 := .int .i64 oa) (v1 := .int .i64 ob) (v2 := .int .i64 oc) (v3 := .int .i64 od) HZ.out).2 (fun k hk => .inr hk)).forget
         clear HT hHeld
         go_wp2_with fail
         go_roundw
         case rel =>
          refine ⟨j + 1, bU (Lib.itoa (bt n), ⟨ra, rb, rc, rd⟩) l, by omega, by go_num, AA.out, ?_, ?_, ?_⟩
          ·rw [HW.out.2.1, lL (x := ⟨n, ⟨ra, rb, rc, rd⟩⟩) (show Gt (⟨ra, rb, rc, rd⟩ : Rw) 4 /\ aI (Lib.itoa (bt n)) l = none from ⟨HQ.out.1, HK.out⟩)]
           rfl
          ·exact (gT HW.out.2.2.2.2.1 HW.out.2.2.2.1 HW.out.2.2.1 HK.out).1
          ·exact (gT HW.out.2.2.2.2.1 HW.out.2.2.2.1 HW.out.2.2.1 HK.out).2
         case measure => simp [intOf]; omega
       ·skip
        go_simp
        refine hK.out _ _ (⟨_, _, HT.out.eN _⟩) (fun ae => ?_)
        clear hK K hHeld 
        have hHeld := ae
        clear ae
        try simp only [av, ax, ay, az]
        have dD := Lib.hid (HT.out.eN (.cells #[.int .i64 0, .int .i64 0, .int .i64 0, .int .i64 0] 26))
        have HZ := Lib.hid (heap_alloc_new W3 (.cells #[.int .i64 0, .int .i64 0, .int .i64 0, .int .i64 0] 26))
        clear HT
        generalize W3.heap.size = Z at dD HZ hHeld ⊢
        generalize W3.alloc (.cells #[.int .i64 0, .int .i64 0, .int .i64 0, .int .i64 0] 26) = wz at dD HZ hHeld ⊢
        have HT := dD
        clear dD
        refine bg 8 (fun K hK => ?_)
        go_simp
        refine (iJ _ (bt n) rY.out.1).mono ?_
        rintro e wk ⟨rfl, dU⟩
        have dD := Lib.hid (HT.out.still dU)
        clear HT
        have HT := dD
        clear dD
        have jQ := Lib.hid ((Only.of_below dU (fun _ => False)).heap HZ.out (fun h => h))
        clear HZ
        have HZ := jQ
        clear jQ
        try go_simp
        refine hK.out _ _ (⟨_, _, HT.out⟩) (fun ae => ?_)
        clear hK K hHeld dU
        have hHeld := ae
        clear ae
        try simp only [av, ax, ay, az]
        refine bg 15 (fun K hK => ?_)
        go_simp
        refine (jt (r := ⟨ra, rb, rc, rd⟩) HT.out rY.out.2.1 rY.out.2.2 HK.out NF.out).mono ?_
        rintro e wp ⟨oa, ob, oc, od, rfl, nu, sQ⟩
        have dD := Lib.hid (nu)
        clear HT
        have HT := dD
        clear dD
        have jQ := Lib.hid (sQ _ _ (.inr rfl) HZ.out)
        clear HZ
        have HZ := jQ
        clear jQ
        clear nu sQ
        try go_simp
        refine hK.out _ _ (⟨_, _, HT.out⟩) (fun ae => ?_)
        clear hK K hHeld 
        have hHeld := ae
        clear ae
        try simp only [av, ax, ay, az]
        refine aO [16, 17, 18, 19] ?_
        iterate 4 (refine cI (v := ?_) (fun wS hSw => ?_) hHeld ?_; rotate_left; (go_simp; try with_reducible rfl); try simp only [av, ax, ay, az])
        refine aP ?_
        refine bg 21 (fun K hK => ?_)
        obtain ⟨⟨z0, z1, z2, z3⟩, y0, y1, y2, y3⟩ := bG HZ.out
        go_simp
        refine hK.out _ _ (⟨_, _, HT.out.box (bb (v0 := .int .i64 oa) (v1 := .int .i64 ob) (v2 := .int .i64 oc) (v3 := .int .i64 od) HZ.out).2 (fun k hk => .inr hk)⟩) (fun ae => ?_)
        clear hK K hHeld z0 z1 z2 z3 y0 y1 y2 y3
        have hHeld := ae
        clear ae
        try simp only [av, ax, ay, az]
        refine aO [22, 23] ?_
        iterate 2 (refine cI (v := ?_) (fun wS hSw => ?_) hHeld ?_; rotate_left; (go_simp; try with_reducible rfl); try simp only [av, ax, ay, az])
        refine aP ?_
        refine wpAnyH_done (by kernel_rfl) ?_ _
        have AA := Lib.hid (HT.out.box (bb (v0 := .int .i64 oa) (v1 := .int .i64 ob) (v2 := .int .i64 oc) (v3 := .int .i64 od) HZ.out).2 (fun k hk => .inr hk)).forget
        clear HT hHeld
        go_wp2_with fail
        go_roundw
        case rel =>
         refine ⟨j + 1, bU (Lib.itoa (bt n), ⟨ra, rb, rc, rd⟩) l, by omega, by go_num, AA.out, ?_, ?_, ?_⟩
         ·rw [HW.out.2.1, lL (x := ⟨n, ⟨ra, rb, rc, rd⟩⟩) (show Gt (⟨ra, rb, rc, rd⟩ : Rw) 4 /\ aI (Lib.itoa (bt n)) l = none from ⟨HQ.out.1, HK.out⟩)]
          rfl
         ·exact (gT HW.out.2.2.2.2.1 HW.out.2.2.2.1 HW.out.2.2.1 HK.out).1
         ·exact (gT HW.out.2.2.2.2.1 HW.out.2.2.2.1 HW.out.2.2.1 HK.out).2
        case measure => simp [intOf]; omega
      ·skip
       go_simp
       refine hK.out _ _ (⟨_, _, HT.out.eN _⟩) (fun ae => ?_)
       clear hK K hHeld 
       have hHeld := ae
       clear ae
       try simp only [av, ax, ay, az]
       have dD := Lib.hid (HT.out.eN (.cells #[.int .i64 0, .int .i64 0, .int .i64 0, .int .i64 0] 26))
       have HZ := Lib.hid (heap_alloc_new W3 (.cells #[.int .i64 0, .int .i64 0, .int .i64 0, .int .i64 0] 26))
       clear HT
       generalize W3.heap.size = Z at dD HZ hHeld ⊢
       generalize W3.alloc (.cells #[.int .i64 0, .int .i64 0, .int .i64 0, .int .i64 0] 26) = wz at dD HZ hHeld ⊢
       have HT := dD
       clear dD
       refine bg 7 (fun K hK => ?_)
       go_simp
       refine (iI _ n).mono ?_
       rintro e wn ⟨rfl, rfl⟩
       try go_simp
       refine hK.out _ _ (hHeld) (fun ae => ?_)
       clear hK K hHeld 
       have hHeld := ae
       clear ae
       try simp only [av, ax, ay, az]
       refine bg 8 (fun K hK => ?_)
       go_simp
       refine (iJ _ (bt n) rY.out.1).mono ?_
       rintro e wk ⟨rfl, dU⟩
       have dD := Lib.hid (HT.out.still dU)
       clear HT
       have HT := dD
       clear dD
       have jQ := Lib.hid ((Only.of_below dU (fun _ => False)).heap HZ.out (fun h => h))
       clear HZ
       have HZ := jQ
       clear jQ
       try go_simp
       refine hK.out _ _ (⟨_, _, HT.out⟩) (fun ae => ?_)
       clear hK K hHeld dU
       have hHeld := ae
       clear ae
       try simp only [av, ax, ay, az]
       refine bg 15 (fun K hK => ?_)
       go_simp
       refine (jt (r := ⟨ra, rb, rc, rd⟩) HT.out rY.out.2.1 rY.out.2.2 HK.out NF.out).mono ?_
       rintro e wp ⟨oa, ob, oc, od, rfl, nu, sQ⟩
       have dD := Lib.hid (nu)
       clear HT
       have HT := dD
       clear dD
       have jQ := Lib.hid (sQ _ _ (.inr rfl) HZ.out)
       clear HZ
       have HZ := jQ
       clear jQ
       clear nu sQ
       try go_simp
       refine hK.out _ _ (⟨_, _, HT.out⟩) (fun ae => ?_)
       clear hK K hHeld 
       have hHeld := ae
       clear ae
       try simp only [av, ax, ay, az]
       refine aO [16, 17, 18, 19] ?_
       iterate 4 (refine cI (v := ?_) (fun wS hSw => ?_) hHeld ?_; rotate_left; (go_simp; try with_reducible rfl); try simp only [av, ax, ay, az])
       refine aP ?_
       refine bg 21 (fun K hK => ?_)
       obtain ⟨⟨z0, z1, z2, z3⟩, y0, y1, y2, y3⟩ := bG HZ.out
       go_simp
       refine hK.out _ _ (⟨_, _, HT.out.box (bb (v0 := .int .i64 oa) (v1 := .int .i64 ob) (v2 := .int .i64 oc) (v3 := .int .i64 od) HZ.out).2 (fun k hk => .inr hk)⟩) (fun ae => ?_)
       clear hK K hHeld z0 z1 z2 z3 y0 y1 y2 y3
       have hHeld := ae
       clear ae
       try simp only [av, ax, ay, az]
       refine aO [22, 23] ?_
       iterate 2 (refine cI (v := ?_) (fun wS hSw => ?_) hHeld ?_; rotate_left; (go_simp; try with_reducible rfl); try simp only [av, ax, ay, az])
       refine aP ?_
       refine wpAnyH_done (by kernel_rfl) ?_ _
       have AA := Lib.hid (HT.out.box (bb (v0 := .int .i64 oa) (v1 := .int .i64 ob) (v2 := .int .i64 oc) (v3 := .int .i64 od) HZ.out).2 (fun k hk => .inr hk)).forget
       clear HT hHeld
       go_wp2_with fail
       go_roundw
       case rel =>
        refine ⟨j + 1, bU (Lib.itoa (bt n), ⟨ra, rb, rc, rd⟩) l, by omega, by go_num, AA.out, ?_, ?_, ?_⟩
        ·rw [HW.out.2.1, lL (x := ⟨n, ⟨ra, rb, rc, rd⟩⟩) (show Gt (⟨ra, rb, rc, rd⟩ : Rw) 4 /\ aI (Lib.itoa (bt n)) l = none from ⟨HQ.out.1, HK.out⟩)]
         rfl
        ·exact (gT HW.out.2.2.2.2.1 HW.out.2.2.2.1 HW.out.2.2.1 HK.out).1
        ·exact (gT HW.out.2.2.2.2.1 HW.out.2.2.2.1 HW.out.2.2.1 HK.out).2
       case measure => simp [intOf]; omega
     | some old =>
      have HK := Lib.hid hq
      clear hq
      go_wp2_with fail
      go_upto_region 14 with fail
      have HT := Lib.hid (show iG w1 T most l OT wr.drew from HQ.out.2.still (Below.refl _ _).drew)
      have NF := Lib.hid (show ¬ (aI (Lib.itoa (bt n)) l = none /\ most <= (l.length : Int)) from fun h => by have h1 := HW.out.2.2.1; have h2 := HM.out; have h3 := h.2; rw [h1] at h3; omega)
      refine wp_region_held_drew (S := (fun W => ∃ l E, iG w1 T most l E W)) (by kernel_rfl) ⟨_, _, HQ.out.2.still (Below.refl _ _).drew⟩ (fun hHeld => ?_)
      generalize wr.drew = W3 at HT hHeld ⊢
      refine aO [0, 1] ?_
      iterate 2 (refine cI (v := ?_) (fun wS hSw => ?_) hHeld ?_; rotate_left; (go_simp; try with_reducible rfl); try simp only [av, ax, ay, az])
      refine aP ?_
      refine fL 2 (v := ?_) (fun wS hSw => ?_) hHeld ?_
      rotate_left
      ·obtain ⟨_, _, Az⟩ := hSw; have gq := Az.Dw; have x0 := aa gq H1.out.2.1; have e0 := aa gq HD.out.1; have e1 := aa gq HD.out.2.1; have e2 := aa gq HD.out.2.2.1; have e3 := aa gq HD.out.2.2.2.1; have e4 := aa gq HD.out.2.2.2.2; go_simp; try with_reducible rfl
      try simp only [av, ax, ay, az]
      refine aO [3, 4, 5] ?_
      iterate 3 (refine cI (v := ?_) (fun wS hSw => ?_) hHeld ?_; rotate_left; (go_simp; try with_reducible rfl); try simp only [av, ax, ay, az])
      refine aP ?_
      refine fL 6 (v := ?_) (fun wS hSw => ?_) hHeld ?_
      rotate_left
      ·obtain ⟨_, _, Az⟩ := hSw; have gq := Az.Dw; have x0 := aa gq H1.out.2.1; have e0 := aa gq HD.out.1; have e1 := aa gq HD.out.2.1; have e2 := aa gq HD.out.2.2.1; have e3 := aa gq HD.out.2.2.2.1; have e4 := aa gq HD.out.2.2.2.2; go_simp; try with_reducible rfl
      try simp only [av, ax, ay, az]
      refine fL 9 (v := ?_) (fun wS hSw => ?_) hHeld ?_
      rotate_left
      ·go_simp; try with_reducible rfl
      try simp only [av, ax, ay, az]
      refine fL 10 (v := ?_) (fun wS hSw => ?_) hHeld ?_
      rotate_left
      ·obtain ⟨_, _, Az⟩ := hSw; have gq := Az.Dw; have x0 := aa gq H1.out.2.1; have e0 := aa gq HD.out.1; have e1 := aa gq HD.out.2.1; have e2 := aa gq HD.out.2.2.1; have e3 := aa gq HD.out.2.2.2.1; have e4 := aa gq HD.out.2.2.2.2; go_simp; try with_reducible rfl
      try simp only [av, ax, ay, az]
      refine aO [11, 12, 13] ?_
      iterate 3 (refine cI (v := ?_) (fun wS hSw => ?_) hHeld ?_; rotate_left; (go_simp; try with_reducible rfl); try simp only [av, ax, ay, az])
      refine aP ?_
      refine fL 14 (v := ?_) (fun wS hSw => ?_) hHeld ?_
      rotate_left
      ·obtain ⟨_, _, Az⟩ := hSw; have gq := Az.Dw; have x0 := aa gq H1.out.2.1; have e0 := aa gq HD.out.1; have e1 := aa gq HD.out.2.1; have e2 := aa gq HD.out.2.2.1; have e3 := aa gq HD.out.2.2.2.1; have e4 := aa gq HD.out.2.2.2.2; go_simp; try with_reducible rfl
      try simp only [av, ax, ay, az]
      refine wpAnyH_ready (rs := [7, 20]) (by kernel_rfl) (by simp) (cy (i := 7) rfl (fun K hK => ?_) (cy (i := 20) rfl (fun K hK => ?_) AllReadyH.nil))
      ·skip
       go_simp
       refine (iI _ n).mono ?_
       rintro e wn ⟨rfl, rfl⟩
       try go_simp
       refine hK.out _ _ (hHeld) (fun ae => ?_)
       clear hK K hHeld 
       have hHeld := ae
       clear ae
       try simp only [av, ax, ay, az]
       refine wpAnyH_ready (rs := [8, 20]) (by kernel_rfl) (by simp) (cy (i := 8) rfl (fun K hK => ?_) (cy (i := 20) rfl (fun K hK => ?_) AllReadyH.nil))
       ·skip
        go_simp
        refine (iJ _ (bt n) rY.out.1).mono ?_
        rintro e wk ⟨rfl, dU⟩
        have dD := Lib.hid (HT.out.still dU)
        clear HT
        have HT := dD
        clear dD
        try go_simp
        refine hK.out _ _ (⟨_, _, HT.out⟩) (fun ae => ?_)
        clear hK K hHeld dU
        have hHeld := ae
        clear ae
        try simp only [av, ax, ay, az]
        refine wpAnyH_ready (rs := [15, 20]) (by kernel_rfl) (by simp) (cy (i := 15) rfl (fun K hK => ?_) (cy (i := 20) rfl (fun K hK => ?_) AllReadyH.nil))
        ·skip
         go_simp
         refine (jt (r := ⟨ra, rb, rc, rd⟩) HT.out rY.out.2.1 rY.out.2.2 HK.out NF.out).mono ?_
         rintro e wp ⟨oa, ob, oc, od, rfl, nu, sQ⟩
         have dD := Lib.hid (nu)
         clear HT
         have HT := dD
         clear dD
         clear nu sQ
         try go_simp
         refine hK.out _ _ (⟨_, _, HT.out⟩) (fun ae => ?_)
         clear hK K hHeld 
         have hHeld := ae
         clear ae
         try simp only [av, ax, ay, az]
         refine aO [16, 17, 18, 19] ?_
         iterate 4 (refine cI (v := ?_) (fun wS hSw => ?_) hHeld ?_; rotate_left; (go_simp; try with_reducible rfl); try simp only [av, ax, ay, az])
         refine aP ?_
         refine bg 20 (fun K hK => ?_)
         go_simp
         refine hK.out _ _ (⟨_, _, HT.out.eN _⟩) (fun ae => ?_)
         clear hK K hHeld 
         have hHeld := ae
         clear ae
         try simp only [av, ax, ay, az]
         have dD := Lib.hid (HT.out.eN (.cells #[.int .i64 0, .int .i64 0, .int .i64 0, .int .i64 0] 26))
         have HZ := Lib.hid (heap_alloc_new wp (.cells #[.int .i64 0, .int .i64 0, .int .i64 0, .int .i64 0] 26))
         clear HT
         generalize wp.heap.size = Z at dD HZ hHeld ⊢
         generalize wp.alloc (.cells #[.int .i64 0, .int .i64 0, .int .i64 0, .int .i64 0] 26) = wz at dD HZ hHeld ⊢
         have HT := dD
         clear dD
         refine bg 21 (fun K hK => ?_)
         obtain ⟨⟨z0, z1, z2, z3⟩, y0, y1, y2, y3⟩ := bG HZ.out
         go_simp
         refine hK.out _ _ (⟨_, _, HT.out.box (bb (v0 := .int .i64 oa) (v1 := .int .i64 ob) (v2 := .int .i64 oc) (v3 := .int .i64 od) HZ.out).2 (fun k hk => .inr hk)⟩) (fun ae => ?_)
         clear hK K hHeld z0 z1 z2 z3 y0 y1 y2 y3
         have hHeld := ae
         clear ae
         try simp only [av, ax, ay, az]
         refine aO [22, 23] ?_
         iterate 2 (refine cI (v := ?_) (fun wS hSw => ?_) hHeld ?_; rotate_left; (go_simp; try with_reducible rfl); try simp only [av, ax, ay, az])
         refine aP ?_
         refine wpAnyH_done (by kernel_rfl) ?_ _
         have AA := Lib.hid (HT.out.box (bb (v0 := .int .i64 oa) (v1 := .int .i64 ob) (v2 := .int .i64 oc) (v3 := .int .i64 od) HZ.out).2 (fun k hk => .inr hk)).forget
         clear HT hHeld
         have HN := Lib.hid (show dK xs most = none from by
          rw [HE.out, HW.out.2.1]
          exact jO (fun h => by
           have h2 := h.2
           have h3 := HK.out
           rw [show (Aw ⟨n, ⟨ra, rb, rc, rd⟩⟩).1 = Lib.itoa (bt n) from rfl, h3] at h2
           cases h2))
         go_wp2_with fail
         go_ret
         exact jP.no HN.out (H1.out.1.trans (AA.out.Dw.mono H1.out.1.size))
        ·skip
         go_simp
         refine hK.out _ _ (⟨_, _, HT.out.eN _⟩) (fun ae => ?_)
         clear hK K hHeld 
         have hHeld := ae
         clear ae
         try simp only [av, ax, ay, az]
         have dD := Lib.hid (HT.out.eN (.cells #[.int .i64 0, .int .i64 0, .int .i64 0, .int .i64 0] 26))
         have HZ := Lib.hid (heap_alloc_new wk (.cells #[.int .i64 0, .int .i64 0, .int .i64 0, .int .i64 0] 26))
         clear HT
         generalize wk.heap.size = Z at dD HZ hHeld ⊢
         generalize wk.alloc (.cells #[.int .i64 0, .int .i64 0, .int .i64 0, .int .i64 0] 26) = wz at dD HZ hHeld ⊢
         have HT := dD
         clear dD
         refine bg 15 (fun K hK => ?_)
         go_simp
         refine (jt (r := ⟨ra, rb, rc, rd⟩) HT.out rY.out.2.1 rY.out.2.2 HK.out NF.out).mono ?_
         rintro e wp ⟨oa, ob, oc, od, rfl, nu, sQ⟩
         have dD := Lib.hid (nu)
         clear HT
         have HT := dD
         clear dD
         have jQ := Lib.hid (sQ _ _ (.inr rfl) HZ.out)
         clear HZ
         have HZ := jQ
         clear jQ
         clear nu sQ
         try go_simp
         refine hK.out _ _ (⟨_, _, HT.out⟩) (fun ae => ?_)
         clear hK K hHeld 
         have hHeld := ae
         clear ae
         try simp only [av, ax, ay, az]
         refine aO [16, 17, 18, 19] ?_
         iterate 4 (refine cI (v := ?_) (fun wS hSw => ?_) hHeld ?_; rotate_left; (go_simp; try with_reducible rfl); try simp only [av, ax, ay, az])
         refine aP ?_
         refine bg 21 (fun K hK => ?_)
         obtain ⟨⟨z0, z1, z2, z3⟩, y0, y1, y2, y3⟩ := bG HZ.out
         go_simp
         refine hK.out _ _ (⟨_, _, HT.out.box (bb (v0 := .int .i64 oa) (v1 := .int .i64 ob) (v2 := .int .i64 oc) (v3 := .int .i64 od) HZ.out).2 (fun k hk => .inr hk)⟩) (fun ae => ?_)
         clear hK K hHeld z0 z1 z2 z3 y0 y1 y2 y3
         have hHeld := ae
         clear ae
         try simp only [av, ax, ay, az]
         refine aO [22, 23] ?_
         iterate 2 (refine cI (v := ?_) (fun wS hSw => ?_) hHeld ?_; rotate_left; (go_simp; try with_reducible rfl); try simp only [av, ax, ay, az])
         refine aP ?_
         refine wpAnyH_done (by kernel_rfl) ?_ _
         have AA := Lib.hid (HT.out.box (bb (v0 := .int .i64 oa) (v1 := .int .i64 ob) (v2 := .int .i64 oc) (v3 := .int .i64 od) HZ.out).2 (fun k hk => .inr hk)).forget
         clear HT hHeld
         have HN := Lib.hid (show dK xs most = none from by
          rw [HE.out, HW.out.2.1]
          exact jO (fun h => by
           have h2 := h.2
           have h3 := HK.out
           rw [show (Aw ⟨n, ⟨ra, rb, rc, rd⟩⟩).1 = Lib.itoa (bt n) from rfl, h3] at h2
           cases h2))
         go_wp2_with fail
         go_ret
         exact jP.no HN.out (H1.out.1.trans (AA.out.Dw.mono H1.out.1.size))
       ·skip
        go_simp
        refine hK.out _ _ (⟨_, _, HT.out.eN _⟩) (fun ae => ?_)
        clear hK K hHeld 
        have hHeld := ae
        clear ae
        try simp only [av, ax, ay, az]
        have dD := Lib.hid (HT.out.eN (.cells #[.int .i64 0, .int .i64 0, .int .i64 0, .int .i64 0] 26))
        have HZ := Lib.hid (heap_alloc_new W3 (.cells #[.int .i64 0, .int .i64 0, .int .i64 0, .int .i64 0] 26))
        clear HT
        generalize W3.heap.size = Z at dD HZ hHeld ⊢
        generalize W3.alloc (.cells #[.int .i64 0, .int .i64 0, .int .i64 0, .int .i64 0] 26) = wz at dD HZ hHeld ⊢
        have HT := dD
        clear dD
        refine bg 8 (fun K hK => ?_)
        go_simp
        refine (iJ _ (bt n) rY.out.1).mono ?_
        rintro e wk ⟨rfl, dU⟩
        have dD := Lib.hid (HT.out.still dU)
        clear HT
        have HT := dD
        clear dD
        have jQ := Lib.hid ((Only.of_below dU (fun _ => False)).heap HZ.out (fun h => h))
        clear HZ
        have HZ := jQ
        clear jQ
        try go_simp
        refine hK.out _ _ (⟨_, _, HT.out⟩) (fun ae => ?_)
        clear hK K hHeld dU
        have hHeld := ae
        clear ae
        try simp only [av, ax, ay, az]
        refine bg 15 (fun K hK => ?_)
        go_simp
        refine (jt (r := ⟨ra, rb, rc, rd⟩) HT.out rY.out.2.1 rY.out.2.2 HK.out NF.out).mono ?_
        rintro e wp ⟨oa, ob, oc, od, rfl, nu, sQ⟩
        have dD := Lib.hid (nu)
        clear HT
        have HT := dD
        clear dD
        have jQ := Lib.hid (sQ _ _ (.inr rfl) HZ.out)
        clear HZ
        have HZ := jQ
        clear jQ
        clear nu sQ
        try go_simp
        refine hK.out _ _ (⟨_, _, HT.out⟩) (fun ae => ?_)
        clear hK K hHeld 
        have hHeld := ae
        clear ae
        try simp only [av, ax, ay, az]
        refine aO [16, 17, 18, 19] ?_
        iterate 4 (refine cI (v := ?_) (fun wS hSw => ?_) hHeld ?_; rotate_left; (go_simp; try with_reducible rfl); try simp only [av, ax, ay, az])
        refine aP ?_
        refine bg 21 (fun K hK => ?_)
        obtain ⟨⟨z0, z1, z2, z3⟩, y0, y1, y2, y3⟩ := bG HZ.out
        go_simp
        refine hK.out _ _ (⟨_, _, HT.out.box (bb (v0 := .int .i64 oa) (v1 := .int .i64 ob) (v2 := .int .i64 oc) (v3 := .int .i64 od) HZ.out).2 (fun k hk => .inr hk)⟩) (fun ae => ?_)
        clear hK K hHeld z0 z1 z2 z3 y0 y1 y2 y3
        have hHeld := ae
        clear ae
        try simp only [av, ax, ay, az]
        refine aO [22, 23] ?_
        iterate 2 (refine cI (v := ?_) (fun wS hSw => ?_) hHeld ?_; rotate_left; (go_simp; try with_reducible rfl); try simp only [av, ax, ay, az])
        refine aP ?_
        refine wpAnyH_done (by kernel_rfl) ?_ _
        have AA := Lib.hid (HT.out.box (bb (v0 := .int .i64 oa) (v1 := .int .i64 ob) (v2 := .int .i64 oc) (v3 := .int .i64 od) HZ.out).2 (fun k hk => .inr hk)).forget
        clear HT hHeld
        have HN := Lib.hid (show dK xs most = none from by
         rw [HE.out, HW.out.2.1]
         exact jO (fun h => by
          have h2 := h.2
          have h3 := HK.out
          rw [show (Aw ⟨n, ⟨ra, rb, rc, rd⟩⟩).1 = Lib.itoa (bt n) from rfl, h3] at h2
          cases h2))
        go_wp2_with fail
        go_ret
        exact jP.no HN.out (H1.out.1.trans (AA.out.Dw.mono H1.out.1.size))
      ·skip
       go_simp
       refine hK.out _ _ (⟨_, _, HT.out.eN _⟩) (fun ae => ?_)
       clear hK K hHeld 
       have hHeld := ae
       clear ae
       try simp only [av, ax, ay, az]
       have dD := Lib.hid (HT.out.eN (.cells #[.int .i64 0, .int .i64 0, .int .i64 0, .int .i64 0] 26))
       have HZ := Lib.hid (heap_alloc_new W3 (.cells #[.int .i64 0, .int .i64 0, .int .i64 0, .int .i64 0] 26))
       clear HT
       generalize W3.heap.size = Z at dD HZ hHeld ⊢
       generalize W3.alloc (.cells #[.int .i64 0, .int .i64 0, .int .i64 0, .int .i64 0] 26) = wz at dD HZ hHeld ⊢
       have HT := dD
       clear dD
       refine bg 7 (fun K hK => ?_)
       go_simp
       refine (iI _ n).mono ?_
       rintro e wn ⟨rfl, rfl⟩
       try go_simp
       refine hK.out _ _ (hHeld) (fun ae => ?_)
       clear hK K hHeld 
       have hHeld := ae
       clear ae
       try simp only [av, ax, ay, az]
       refine bg 8 (fun K hK => ?_)
       go_simp
       refine (iJ _ (bt n) rY.out.1).mono ?_
       rintro e wk ⟨rfl, dU⟩
       have dD := Lib.hid (HT.out.still dU)
       clear HT
       have HT := dD
       clear dD
       have jQ := Lib.hid ((Only.of_below dU (fun _ => False)).heap HZ.out (fun h => h))
       clear HZ
       have HZ := jQ
       clear jQ
       try go_simp
       refine hK.out _ _ (⟨_, _, HT.out⟩) (fun ae => ?_)
       clear hK K hHeld dU
       have hHeld := ae
       clear ae
       try simp only [av, ax, ay, az]
       refine bg 15 (fun K hK => ?_)
       go_simp
       refine (jt (r := ⟨ra, rb, rc, rd⟩) HT.out rY.out.2.1 rY.out.2.2 HK.out NF.out).mono ?_
       rintro e wp ⟨oa, ob, oc, od, rfl, nu, sQ⟩
       have dD := Lib.hid (nu)
       clear HT
       have HT := dD
       clear dD
       have jQ := Lib.hid (sQ _ _ (.inr rfl) HZ.out)
       clear HZ
       have HZ := jQ
       clear jQ
       clear nu sQ
       try go_simp
       refine hK.out _ _ (⟨_, _, HT.out⟩) (fun ae => ?_)
       clear hK K hHeld 
       have hHeld := ae
       clear ae
       try simp only [av, ax, ay, az]
       refine aO [16, 17, 18, 19] ?_
       iterate 4 (refine cI (v := ?_) (fun wS hSw => ?_) hHeld ?_; rotate_left; (go_simp; try with_reducible rfl); try simp only [av, ax, ay, az])
       refine aP ?_
       refine bg 21 (fun K hK => ?_)
       obtain ⟨⟨z0, z1, z2, z3⟩, y0, y1, y2, y3⟩ := bG HZ.out
       go_simp
       refine hK.out _ _ (⟨_, _, HT.out.box (bb (v0 := .int .i64 oa) (v1 := .int .i64 ob) (v2 := .int .i64 oc) (v3 := .int .i64 od) HZ.out).2 (fun k hk => .inr hk)⟩) (fun ae => ?_)
       clear hK K hHeld z0 z1 z2 z3 y0 y1 y2 y3
       have hHeld := ae
       clear ae
       try simp only [av, ax, ay, az]
       refine aO [22, 23] ?_
       iterate 2 (refine cI (v := ?_) (fun wS hSw => ?_) hHeld ?_; rotate_left; (go_simp; try with_reducible rfl); try simp only [av, ax, ay, az])
       refine aP ?_
       refine wpAnyH_done (by kernel_rfl) ?_ _
       have AA := Lib.hid (HT.out.box (bb (v0 := .int .i64 oa) (v1 := .int .i64 ob) (v2 := .int .i64 oc) (v3 := .int .i64 od) HZ.out).2 (fun k hk => .inr hk)).forget
       clear HT hHeld
       have HN := Lib.hid (show dK xs most = none from by
        rw [HE.out, HW.out.2.1]
        exact jO (fun h => by
         have h2 := h.2
         have h3 := HK.out
         rw [show (Aw ⟨n, ⟨ra, rb, rc, rd⟩⟩).1 = Lib.itoa (bt n) from rfl, h3] at h2
         cases h2))
       go_wp2_with fail
       go_ret
       exact jP.no HN.out (H1.out.1.trans (AA.out.Dw.mono H1.out.1.size))
  ·obtain rfl : j = N := by omega
   have hnil : xs.drop j = [] := List.drop_eq_nil_of_le (by rw [HL.out]; exact Nat.le_refl _)
   rw [hnil, jr] at heq
   have HF := Lib.hid (hR.end_ H1.out.1 (HE.out.trans heq))
   clear hR heq hll CM hbr hnil
   go_wp2_with fail
   go_ret
   exact HF.out
section
open Go.ChangeShapes Go.WideShapes Go.ChangeAt Go.RowKit Go.Deep
theorem Tryz.Gb : Tryz.prog.cellsOf 26 = 4 := by kernel_rfl
theorem Tryz.Cc : Tryz.prog.cellsOf 28 = 5 := by kernel_rfl
theorem Tryz.Gc : Tryz.prog.cellsOf 22 = 1 := by kernel_rfl
theorem Tryz.Gd : Tryz.prog.cellsOf 24 = 2 := by kernel_rfl
theorem yD {H : Type} {enc : TypeId × Value -> H} {W : World} {fuel : Nat} {c0 c1 c2 c3 : Value} {x : DataW H × List MemPlace} (hf : DataW.trod enc Tryz.prog W 0 (fun _ => true) true fuel 26 [c0, c1, c2, c3] = some x) :
  ∃ r : Rw, c0 = .int .i64 r.a /\ c1 = .int .i64 r.b /\ c2 = .int .i64 r.c /\ c3 = .int .i64 r.d := by
 obtain ⟨xs, m, _, _, hl, hx, hi⟩ := DataW.trod_array Tryz.underlying26 hf
 have key : ∀ i, i < 4 -> ∃ n : Int, (([c0, c1, c2, c3] : List Value)[i]?) = some (.int .i64 n) := by
  intro i hi4
  have hh := hi i hi4
  rw [Tryz.vz, List.getElem?_eq_getElem (by rw [hx]; exact hi4)] at hh
  have h1 : (List.take 1 (List.drop (i * 1) [c0, c1, c2, c3])) = [[c0, c1, c2, c3][i]] := by
   have : i = 0 \/ i = 1 \/ i = 2 \/ i = 3 := by omega
   rcases this with rfl | rfl | rfl | rfl <;> rfl
  rw [h1] at hh
  obtain ⟨n, h2, _, h3⟩ := DataW.trod_int Tryz.underlying3 hh
  refine ⟨n, ?_⟩
  rw [List.getElem?_eq_getElem (by simpa using hi4)]
  simp at h2
  rw [h2]
 obtain ⟨n0, e0⟩ := key 0 (by decide)
 obtain ⟨n1, e1⟩ := key 1 (by decide)
 obtain ⟨n2, e2⟩ := key 2 (by decide)
 obtain ⟨n3, e3⟩ := key 3 (by decide)
 simp at e0 e1 e2 e3
 exact ⟨⟨n0, n1, n2, n3⟩, e0, e1, e2, e3⟩
theorem rP {H : Type} {enc : TypeId × Value -> H} {W : World} {fuel : Nat} {cs : List Value} {x : DataW H × List MemPlace} (h : DataW.trod enc Tryz.prog W 0 (fun _ => true) true fuel 28 cs = some x) :
  ∃ y : Ln, cs = L3 y /\ jD y.n := by
 obtain ⟨xs, n, _, _, hlen, hxl, hf⟩ := DataW.trod_struct Tryz.underlying28 h
 rw [Tryz.Cc] at hlen
 match cs, hlen with
 | [v0, v1, v2, v3, v4], _ =>
  have hx : ∀ i, i < 2 -> ∃ y, xs[i]? = some y := fun i hi => ⟨_, List.getElem?_eq_getElem (by rw [hxl]; exact hi)⟩
  obtain ⟨y0, e0⟩ := hx 0 (by decide)
  obtain ⟨y1, e1⟩ := hx 1 (by decide)
  have f0 := hf 0 _ rfl
  rw [e0] at f0
  change DataW.trod enc Tryz.prog W 0 (fun _ => true) true n 3 (List.take (Tryz.prog.cellsOf 3) (List.drop 0 [v0, v1, v2, v3, v4])) = _ at f0
  rw [Tryz.vz] at f0
  have f1 := hf 1 _ rfl
  rw [e1] at f1
  change DataW.trod enc Tryz.prog W 0 (fun _ => true) true n 26 (List.take (Tryz.prog.cellsOf 26) (List.drop 1 [v0, v1, v2, v3, v4])) = _ at f1
  rw [Tryz.Gb] at f1
  obtain ⟨n0, h0, _, w0⟩ := DataW.trod_int Tryz.underlying3 f0
  obtain ⟨r, rfl, rfl, rfl, rfl⟩ := yD f1
  simp at h0
  subst h0
  exact ⟨⟨n0, r⟩, rfl, bounds_i64 w0⟩
theorem IV {H : Type} {enc : TypeId × Value -> H} {W : World} {v : Value} {d : DataW H} {p : List MemPlace} {base : Nat} (hval : Value.okWide Tryz.prog W .any base 28 v)
  (h : DataW.Trod enc Tryz.prog W 0 (fun _ => true) true 28 v d p) : ∃ (n : Int) (r : Rw), v = .agg #[.int .i64 n, .int .i64 r.a, .int .i64 r.b, .int .i64 r.c, .int .i64 r.d] /\ jD n := by
 obtain ⟨cs, rfl, hs⟩ := okWide_struct Tryz.underlying28 hval
 obtain ⟨fuel, hf⟩ := h
 obtain ⟨⟨n, r⟩, h2, h3⟩ := rP hf
 refine ⟨n, r, ?_, h3⟩
 obtain ⟨cl⟩ := cs
 have : cl = L3 ⟨n, r⟩ := by simpa [Value.cells] using h2
 rw [this]
 rfl
theorem AB {H : Type} {enc : TypeId × Value -> H} {W : World} {v : Value} {d : DataW H} {p : List MemPlace} {base : Nat} (hval : Value.okWide Tryz.prog W .any base 24 v)
  (h : DataW.Trod enc Tryz.prog W 0 (fun _ => true) true 24 v d p) : ∃ (u : Value) (xs : List Ln) (most : Int), v = .agg #[u, .int .i64 most] /\ oX W (fun _ => True) u xs /\ (∀ x ∈ xs, jD x.n) /\ jD most := by
 obtain ⟨cs, rfl, hs⟩ := okWide_struct Tryz.underlying24 hval
 obtain ⟨fuel, h⟩ := h
 obtain ⟨xs, n, _, _, hlen, hxl, hf⟩ := DataW.trod_struct Tryz.underlying24 h
 rw [Tryz.Gd] at hlen
 obtain ⟨cl⟩ := cs
 match cl, hlen with
 | [v0, v1], _ =>
  have hx : ∀ i, i < 2 -> ∃ y, xs[i]? = some y := fun i hi => ⟨_, List.getElem?_eq_getElem (by rw [hxl]; exact hi)⟩
  obtain ⟨y0, e0⟩ := hx 0 (by decide)
  obtain ⟨y1, e1⟩ := hx 1 (by decide)
  have f0 := hf 0 _ rfl
  rw [e0] at f0
  change DataW.trod enc Tryz.prog W 0 (fun _ => true) true n 22 (List.take (Tryz.prog.cellsOf 22) (List.drop 0 [v0, v1])) = _ at f0
  rw [Tryz.Gc] at f0
  have f1 := hf 1 _ rfl
  rw [e1] at f1
  change DataW.trod enc Tryz.prog W 0 (fun _ => true) true n 3 (List.take (Tryz.prog.cellsOf 3) (List.drop 1 [v0, v1])) = _ at f1
  rw [Tryz.vz] at f1
  obtain ⟨n1, h1, _, w1⟩ := DataW.trod_int Tryz.underlying3 f1
  obtain ⟨u, l, h2, r2, g2⟩ := sL 22 28 Tryz.underlying22 5 (by decide) Tryz.Cc L3 (fun _ => rfl) (fun y => jD y.n) ⟨0, .zero⟩ (fun _ cs _ hh => rP hh) f0
  simp at h1 h2
  subst h1 h2
  exact ⟨_, l, n1, rfl, r2, g2, bounds_i64 w1⟩
end
end Go.Proofs.YtagemonojdgbdaaGreatDoor
