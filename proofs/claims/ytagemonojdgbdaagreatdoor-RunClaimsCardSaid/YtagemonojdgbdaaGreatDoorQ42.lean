import Derived.Test.YtagemonojdgbdaaGreatDoorQ12
import Derived.Test.YtagemonojdgbdaaGreatDoorQ41
import Derived.Deep.RegionWith
namespace Go.Proofs.YtagemonojdgbdaaGreatDoor
set_option maxRecDepth 100000
open Go.RowKit
def fR (w : World) : Prop := Lib.TabIs Tryz.prog w "internal/strconv.uint64pow10" .u64 Lib.pow10Tab
theorem Tryz.g10 : Tryz.prog.globalNamed "internal/strconv.uint64pow10" = some 5 := by kernel_rfl
theorem fR.lt {w : World} (h : fR w) : 5 < w.heap.size := by
 unfold fR Lib.TabIs World.var? at h
 rw [Tryz.g10] at h
 simp only [Option.bind_some] at h
 rcases Nat.lt_or_ge 5 w.heap.size with h' | h'
 ·exact h'
 ·rw [Array.getElem?_eq_none h'] at h; cases h
theorem fR.only {S : Nat -> Prop} {w w' : World} (h : fR w) (ho : Only S w w') (hS : ¬ S 5) : fR w' := by
 have hlt := h.lt
 unfold fR Lib.TabIs World.var? at h ⊢
 rw [Tryz.g10] at h ⊢
 simp only [Option.bind_some] at h ⊢
 rw [ho.block _ hlt hS]
 exact h
theorem fR.below {w w' : World} (h : fR w) (hb : Below w.heap.size w w') : fR w' := h.only (Only.of_below hb (fun _ => False)) (fun h => h)
theorem Ap (w : World) (k : Nat) (os : Array Obj) : Below w.heap.size w (Sort.grow (w.drewN k) os) := by
 have h0 := Below.refl w.heap.size w
 refine ⟨h0.os, h0.tape, h0.output, ?_, fun j hj => ?_⟩
 ·show w.heap.size <= (w.heap ++ os).size
  simp
 ·show (w.heap ++ os)[j]? = w.heap[j]?
  rw [Array.getElem?_append_left hj]
theorem La (w : World) (n : Int) (hn : jD n) (ht : fR w) : Calls Tryz.prog 147 #[.int .i64 n] w fun e w' => e = .returned (.string ⟨(Lib.itoa n).toArray⟩) /\ Below w.heap.size w w' := by
 have H := Lib.hid (Any.strconv_Itoa Tryz.Et n hn.1 hn.2 w ht)
 clear ht
 go_enter Tryz.func147, Tryz.ntmps147
 go_wp2_with fail
 refine H.out.mono ?_
 rintro e w' ⟨rfl, k, os, rfl⟩
 have HB := Lib.hid (Ap w k os)
 generalize Sort.grow (w.drewN k) os = w2 at HB ⊢
 go_wp2_with fail
 go_ret
 exact ⟨rfl, HB.out⟩
section
variable {R : Type} {c : RC} {K : (Nat -> Prop) -> R -> World -> Prop}
theorem Ds {w : World} {s : PS R} (hc : c.Fit) (hK : yt K) (h : MI c K w s) (l : List Cl) (v : Value) (hl : cd w (fun k => ¬ c.S k) v l) (hlen : l.length <= 1000) (hg : Good l) :
  Calls Tryz.prog 148 #[.pointer (some ⟨c.M, 0, none⟩), v] w fun e w' => e = .returned (.int .i64 (ct c.ok s.cl l).2) /\ MI c K w' { s with cl := (ct c.ok s.cl l).1 } /\ Only (fun k => k = c.M) w w' := by
 obtain ⟨f, h1, h2, h3, h4, h5, h6, h7⟩ := h
 refine (FX w c.S c.M (c.ms s f) c.ok s.cl l v h1 hc.own h6 h2 h3 hl hlen hg).mono ?_
 rintro e w' ⟨f', rfl, g1, g2, g3⟩
 have hS : ∀ k, k = c.M -> c.S k := fun k hk => by subst hk; exact hc.own
 exact ⟨rfl, ⟨f', g1, g2, h3.only g3 hS, h4.only g3 (fun k hk e => hk (hS k e)), hK.only _ _ _ _ _ (fun k hk => by subst hk; exact hc.K7) h5 g3, fun k hk => Nat.lt_of_lt_of_le (h6 k hk) g3.size, h7⟩, g3⟩
end
def Rp (r : Option Rw) (w : World) (e : Ending) (w' : World) : Prop :=
 e = .returned (.tuple #[(r.getD .zero).val, .int .i64 (if r.isSome then 0 else 14)]) /\ Below w.heap.size w w'
def F4 {R : Type} (b : Value) (K : (Nat -> Prop) -> R -> World -> Prop) (get : R -> List UInt8 -> Option Rw) : Prop :=
 ∀ (Z : Nat -> Prop) (r : R) (w : World) (k : List UInt8), K Z r w -> cO k = 0 -> Calls Tryz.prog 38 #[b, .string ⟨k.toArray⟩] w (Rp (get r k) w)
def Lb {R : Type} (K : (Nat -> Prop) -> R -> World -> Prop) : Prop := ∀ Z r w, K Z r w -> fR w
section
variable {R : Type} {c : RC} {K : (Nat -> Prop) -> R -> World -> Prop} {get : R -> List UInt8 -> Option Rw}
def rowP (ok : Cl -> Bool) (get : R -> List UInt8 -> Option Rw) (i : Nat) (s : PS R) : PS R × Option Rw × Int :=
 let p := ct ok s.cl [fP (s.ij i)]
 ({ s with cl := p.1 }, if p.2 = 0 then get s.rows (Lib.itoa (s.ij i)) else none, p.2)
def Rq (c : RC) (K : (Nat -> Prop) -> R -> World -> Prop) (p : PS R × Option Rw × Int) (w : World) (e : Ending) (w' : World) : Prop :=
 e = .returned (.tuple #[(p.2.1.getD .zero).val, .bool p.2.1.isSome, .int .i64 p.2.2]) /\ MI c K w' p.1 /\ Only c.W w w'
set_option maxHeartbeats 2000000 in
theorem Lc {w : World} {s : PS R} (hc : c.Fit) (hK : yt K) (hT : Lb K) (hG : F4 c.b K get) (h : MI c K w s) (i : Nat) (hi : i < 8) :
  Calls Tryz.prog 146 #[.pointer (some ⟨c.M, 0, none⟩), .int .i64 i] w (Rq c K (rowP c.ok get i s) w) := by
 have hb0 := ag w (.cells #[.int .i64 0, .int .i64 0, .int .i64 0, .int .i64 0] 26)
 have k0 := heap_alloc_new w (.cells #[.int .i64 0, .int .i64 0, .int .i64 0, .int .i64 0] 26)
 have h1 := h.eN hc hK hb0 (Nat.le_refl _) (by simp)
 have hlo : c.lo <= w.heap.size := by obtain ⟨_, hm, _⟩ := h; have := hm.lt; have := hc.low; omega
 have HC := Lib.hid (And.intro hc (And.intro hK (And.intro hT (And.intro hG hlo))))
 have HS := Lib.hid (show ∀ k, c.S k -> k < w.heap.size by obtain ⟨_, _, _, _, _, _, h6, _⟩ := h; exact h6)
 have i1 : (0 : Int) <= (i : Int) := by omega
 have i2 : (i : Int) < 8 := by omega
 go_enter Tryz.func146, Tryz.ntmps146
 go_upto_region 1 with fail
 generalize w.alloc (.cells #[.int .i64 0, .int .i64 0, .int .i64 0, .int .i64 0] 26) = w1 at hb0 k0 h1 ⊢
 obtain ⟨R0, hR⟩ : ∃ x, w.heap.size = x := ⟨_, rfl⟩
 rw [hR] at k0 h1 ⊢
 have HR := Lib.hid (And.intro hR (And.intro hb0 k0))
 have HI := Lib.hid h1
 obtain ⟨f, hm, _, _, _, hk, _, hfit⟩ := h1
 have c1 := hm.ij hi
 have Ld := hfit.1 i
 have Le := Lib.hid (And.intro (La w1 (s.ij i) Ld.i64 (hT _ _ _ hk)) Ld)
 simp only [RC.ms] at c1
 have HL := Lib.hid (hc.eN R0)
 clear h hb0 k0 hR hm hk hfit Ld hc hK hT hG hlo
 change World.cell? w1 ⟨c.M, 18 + i, none⟩ = _ at c1
 go_wp2_with fail
 refine Le.out.1.mono ?_
 rintro e w2 ⟨rfl, hb2⟩
 have h2 := HI.out.below HL.out HC.out.2.1 hb2
 have OD := HR.out.2.1.trans (hb2.mono HR.out.2.1.size)
 have k2 := (Only.of_below hb2 (fun _ => False)).heap HR.out.2.2 (fun h => h)
 have eU := ag w2 (.cells #[.bool false, .int .i64 (-1), .string ⟨(Lib.itoa (s.ij i)).toArray⟩, .int .i64 0, .int .i64 0] 48)
 have kx := heap_alloc_new w2 (.cells #[.bool false, .int .i64 (-1), .string ⟨(Lib.itoa (s.ij i)).toArray⟩, .int .i64 0, .int .i64 0] 48)
 have H2 := Lib.hid (And.intro h2 (And.intro OD (And.intro k2 (And.intro eU kx))))
 clear hb2 h2 OD k2 eU kx c1 HI
 go_wp2_with fail
 have H3 := H2.out
 clear H2
 generalize w2.alloc (.cells #[.bool false, .int .i64 (-1), .string ⟨(Lib.itoa (s.ij i)).toArray⟩, .int .i64 0, .int .i64 0] 48) = w3 at H3 ⊢
 obtain ⟨h2, hb2, k2, eU, kx⟩ := H3
 obtain ⟨X, hX⟩ : ∃ x, w2.heap.size = x := ⟨_, rfl⟩
 have Pk : R0 < X := by have := aJ k2; omega
 have h3 := h2.below HL.out HC.out.2.1 eU
 have hb3 := hb2.trans (eU.mono hb2.size)
 have k3 := (Only.of_below eU (fun _ => False)).heap k2 (fun h => h)
 rw [hX] at kx ⊢
 have hcl := lI (l := [fP (s.ij i)]) (F := fun k => ¬ (c.eN R0).S k) kx rfl (fun hs => by
  rcases hs with hs | hs
  ·have := HS.out X hs; have := HR.out.1; omega
  ·omega) (by simp [maxLen])
 have H3 := Lib.hid (And.intro hb3 k3)
 have LZ := Lib.hid (Ds HL.out HC.out.2.1 h3 [fP (s.ij i)] _ hcl (by simp) (ja Le.out.2))
 obtain ⟨T3, n, hp⟩ : ∃ T3 n, ct c.ok s.cl [fP (s.ij i)] = (T3, n) := ⟨_, _, rfl⟩
 rw [show (c.eN R0).ok = c.ok from rfl, hp] at LZ
 have HP := Lib.hid hp
 clear h2 hb2 k2 eU kx hX Pk h3 hb3 k3 hcl hp
 refine LZ.out.mono ?_
 rintro e w4 ⟨rfl, Rs, Gr⟩
 have Kl : ¬ c.S R0 := fun hs => by have := HS.out R0 hs; have := HR.out.1; omega
 have T4 : ¬ R0 = c.M := fun e => Kl (by rw [e]; exact HC.out.1.own)
 have k4 := Gr.heap H3.out.2 T4
 have T5 : Only c.W w w4 := (Only.of_below H3.out.1 _).trans Gr (fun k _ hk => by subst hk; exact HC.out.1.K6)
 have H4 := Lib.hid (And.intro Rs (And.intro T5 (And.intro k4 Kl)))
 obtain ⟨⟨z0, z1, z2, z3⟩, y0, y1, y2, y3⟩ := bG k4
 clear Gr k4 T5 LZ Kl T4
 by_cases hn : n = 0
 ·subst hn
  obtain ⟨f4, OE, _, _, _, hk4, _, OG⟩ := Rs
  have Qw := OE.b
  simp only [RC.ms] at Qw
  change World.cell? w4 ⟨c.M, 26, none⟩ = _ at Qw
  have HG := Lib.hid (HC.out.2.2.2.1 _ s.rows w4 (Lib.itoa (s.ij i)) hk4 (yl Le.out.2))
  clear OE hk4 OG
  go_wp2_with fail
  have hbc : (c.eN R0).b = c.b := rfl
  rw [hbc]
  obtain ⟨q, hq⟩ : ∃ q, get s.rows (Lib.itoa (s.ij i)) = q := ⟨_, rfl⟩
  rw [hq] at HG
  have HQ := Lib.hid hq
  clear hq hbc
  refine HG.out.mono ?_
  rintro e w5 ⟨rfl, fx⟩
  cases q with
  | none =>
   simp only [Option.getD_none, Option.isSome_none, Rw.val, Rw.zero]
   have hbz := ag w5 (.cells #[.int .i64 0, .int .i64 0, .int .i64 0, .int .i64 0] 26)
   have gj := fx.trans (hbz.mono fx.size)
   have k6 := (Only.of_below gj (fun _ => False)).heap H4.out.2.2.1 (fun h => h)
   have kz := bG (heap_alloc_new w5 (.cells #[.int .i64 0, .int .i64 0, .int .i64 0, .int .i64 0] 26))
   have hne : ¬ w5.heap.size = R0 := by have := aJ H4.out.2.2.1; have := fx.size; omega
   have H6 := Lib.hid (And.intro gj (And.intro k6 (And.intro hne kz)))
   clear hbz gj k6 fx hne kz
   go_upto_region 6 with fail
   have H7 := H6.out
   clear H6
   generalize w5.alloc (.cells #[.int .i64 0, .int .i64 0, .int .i64 0, .int .i64 0] 26) = w6 at H7 ⊢
   generalize w5.heap.size = Z at H7 ⊢
   obtain ⟨gj, k6, hne, ⟨x0, x1, x2, x3⟩, _⟩ := H7
   obtain ⟨⟨z0, z1, z2, z3⟩, y0, y1, y2, y3⟩ := bG k6
   have H6 := Lib.hid (And.intro gj k6)
   clear gj k6
   go_wp2_with fail
   have p8 := pj (v0 := .int .i64 0) (v1 := .int .i64 0) (v2 := .int .i64 0) (v3 := .int .i64 0) H6.out.2
   have ho := (((dF w6 R0 0 (.int .i64 0)).setCell (p := ⟨R0, 1, none⟩) (fun _ => rfl) (.int .i64 0)).setCell (p := ⟨R0, 2, none⟩) (fun _ => rfl) (.int .i64 0)).setCell (p := ⟨R0, 3, none⟩) (fun _ => rfl) (.int .i64 0)
   have HO := Lib.hid (And.intro p8 ho)
   clear p8 ho
   generalize ((((w6.setCell ⟨R0, 0, none⟩ (.int .i64 0)).setCell ⟨R0, 1, none⟩ (.int .i64 0)).setCell ⟨R0, 2, none⟩ (.int .i64 0)).setCell ⟨R0, 3, none⟩ (.int .i64 0)) = w7 at HO ⊢
   refine bodyPost_ret (cj rfl _ _ _ _ _ _ _ rfl HO.out.1 Tryz.underlying26 rfl (by kernel_rfl)) rfl ⟨?_, ?_, ?_⟩
   ·unfold rowP
    rw [HP.out]
    simp only [if_true, HQ.out]
    rfl
   ·unfold rowP
    rw [HP.out]
    exact (H4.out.1.below HL.out HC.out.2.1 H6.out.1).back H4.out.2.2.2 HC.out.1 HC.out.2.1 HO.out.2
   ·exact (H4.out.2.1.trans (Only.of_below H6.out.1 c.W) (fun _ _ h => h)).trans HO.out.2 (fun k hk hs => by have := HR.out.1; omega)
  | some VS =>
   obtain ⟨ra, rb, rc, rd⟩ := VS
   simp only [Option.getD_some, Option.isSome_some, Rw.val, if_true]
   have hbz := ag w5 (.cells #[.int .i64 ra, .int .i64 rb, .int .i64 rc, .int .i64 rd] 26)
   have gj := fx.trans (hbz.mono fx.size)
   have k6 := (Only.of_below gj (fun _ => False)).heap H4.out.2.2.1 (fun h => h)
   have kz := bG (heap_alloc_new w5 (.cells #[.int .i64 ra, .int .i64 rb, .int .i64 rc, .int .i64 rd] 26))
   have hne : ¬ w5.heap.size = R0 := by have := aJ H4.out.2.2.1; have := fx.size; omega
   have H6 := Lib.hid (And.intro gj (And.intro k6 (And.intro hne kz)))
   clear hbz gj k6 fx hne kz
   go_upto_region 6 with fail
   have H7 := H6.out
   clear H6
   generalize w5.alloc (.cells #[.int .i64 ra, .int .i64 rb, .int .i64 rc, .int .i64 rd] 26) = w6 at H7 ⊢
   generalize w5.heap.size = Z at H7 ⊢
   obtain ⟨gj, k6, hne, ⟨x0, x1, x2, x3⟩, _⟩ := H7
   obtain ⟨⟨z0, z1, z2, z3⟩, y0, y1, y2, y3⟩ := bG k6
   have H6 := Lib.hid (And.intro gj k6)
   clear gj k6
   go_wp2_with fail
   have p8 := pj (v0 := .int .i64 ra) (v1 := .int .i64 rb) (v2 := .int .i64 rc) (v3 := .int .i64 rd) H6.out.2
   have ho := (((dF w6 R0 0 (.int .i64 ra)).setCell (p := ⟨R0, 1, none⟩) (fun _ => rfl) (.int .i64 rb)).setCell (p := ⟨R0, 2, none⟩) (fun _ => rfl) (.int .i64 rc)).setCell (p := ⟨R0, 3, none⟩) (fun _ => rfl) (.int .i64 rd)
   have HO := Lib.hid (And.intro p8 ho)
   clear p8 ho
   generalize ((((w6.setCell ⟨R0, 0, none⟩ (.int .i64 ra)).setCell ⟨R0, 1, none⟩ (.int .i64 rb)).setCell ⟨R0, 2, none⟩ (.int .i64 rc)).setCell ⟨R0, 3, none⟩ (.int .i64 rd)) = w7 at HO ⊢
   refine bodyPost_ret (cj rfl _ _ _ _ _ _ _ rfl HO.out.1 Tryz.underlying26 rfl (by kernel_rfl)) rfl ⟨?_, ?_, ?_⟩
   ·unfold rowP
    rw [HP.out]
    simp only [if_true, HQ.out]
    rfl
   ·unfold rowP
    rw [HP.out]
    exact (H4.out.1.below HL.out HC.out.2.1 H6.out.1).back H4.out.2.2.2 HC.out.1 HC.out.2.1 HO.out.2
   ·exact (H4.out.2.1.trans (Only.of_below H6.out.1 c.W) (fun _ _ h => h)).trans HO.out.2 (fun k hk hs => by have := HR.out.1; omega)
 ·clear Rs
  have pM : (n != 0) = true := by simpa using hn
  have HN := Lib.hid hn
  clear hn
  go_wp2_with fail
  have p8 := pj (v0 := .int .i64 0) (v1 := .int .i64 0) (v2 := .int .i64 0) (v3 := .int .i64 0) H4.out.2.2.1
  have ho := (((dF w4 R0 0 (.int .i64 0)).setCell (p := ⟨R0, 1, none⟩) (fun _ => rfl) (.int .i64 0)).setCell (p := ⟨R0, 2, none⟩) (fun _ => rfl) (.int .i64 0)).setCell (p := ⟨R0, 3, none⟩) (fun _ => rfl) (.int .i64 0)
  have HO := Lib.hid (And.intro p8 ho)
  clear p8 ho
  generalize ((((w4.setCell ⟨R0, 0, none⟩ (.int .i64 0)).setCell ⟨R0, 1, none⟩ (.int .i64 0)).setCell ⟨R0, 2, none⟩ (.int .i64 0)).setCell ⟨R0, 3, none⟩ (.int .i64 0)) = w5 at HO ⊢
  refine bodyPost_ret (cj rfl _ _ _ _ _ _ _ rfl HO.out.1 Tryz.underlying26 rfl (by kernel_rfl)) rfl ⟨?_, ?_, ?_⟩
  ·unfold rowP
   rw [HP.out]
   simp only [if_neg HN.out]
   rfl
  ·unfold rowP
   rw [HP.out]
   exact H4.out.1.back H4.out.2.2.2 HC.out.1 HC.out.2.1 HO.out.2
  ·exact H4.out.2.1.trans HO.out.2 (fun k hk hs => by have := HR.out.1; omega)
end
section
variable {R : Type} {c : RC} {K : (Nat -> Prop) -> R -> World -> Prop} {get : R -> List UInt8 -> Option Rw} {w : World} {s : PS R}
theorem F5 {f : Nat -> Int} (h : ∀ i, fO (f i)) (a : Nat) {v : Int} (hv : fO v) : ∀ i, fO (nU f a v i) := fun i => by
 unfold nU
 split
 ·exact hv
 ·exact h i
def B0 (x : cC) (s : PS R) : PS R × Int := ({ s with ij := nU s.ij x.a.toNat x.c }, 0)
theorem IJ (hc : c.Fit) (hK : yt K) (h : MI c K w s) (x : cC) (a : Nat) (ha : a < 8) (CO : x.a = (a : Int)) (LQ : -1099511627776 <= x.c /\ x.c <= 1099511627776) :
  Calls Tryz.prog 99 #[.pointer (some ⟨c.M, 0, none⟩), x.val] w (Dq c K (B0 x s) w) := by
 have h0 := h
 obtain ⟨f, h1, _, _, _, _, _, h7⟩ := h
 refine (KZ w c.M (c.ms s f) h1 x a ha CO).mono ?_
 rintro e w' ⟨rfl, hm, ho⟩
 refine ⟨rfl, h0.turn hc hK ho (fun LY Ao => ?_) rfl rfl ⟨F5 h7.1 _ ⟨by omega, by omega⟩, h7.2⟩, ho.K8 hc⟩
 obtain rfl : LY = f := by
  have := Ao.foot
  rw [h1.foot] at this
  simp only [RC.ms, Option.some.injEq] at this
  exact this.symm
 unfold B0
 rw [CO]
 exact hm
theorem IK (w : World) : Calls Tryz.prog 145 #[.bool true] w fun e w' => e = .returned (.int .i64 1) /\ w = w' := by
 go_enter Tryz.func145, Tryz.ntmps145
 go_wp2_with fail
 go_ret
 exact ⟨rfl, rfl⟩
theorem Lf (w : World) : Calls Tryz.prog 145 #[.bool false] w fun e w' => e = .returned (.int .i64 0) /\ w = w' := by
 go_enter Tryz.func145, Tryz.ntmps145
 go_wp2_with fail
 go_ret
 exact ⟨rfl, rfl⟩
def kQ (ok : Cl -> Bool) (get : R -> List UInt8 -> Option Rw) (x : cC) (s : PS R) : PS R × Int :=
 let p := rowP ok get x.b.toNat s
 if p.2.2 = 0 then ({ p.1 with ij := nU p.1.ij x.a.toNat (if p.2.1.isSome then 1 else 0) }, 0) else (p.1, p.2.2)
theorem MI.oU {a : Nat} (hc : c.Fit) (hK : yt K) (h : MI c K w s) (ha : a < 8) {v : Int} (hv : fO v) : MI c K (w.setCell ⟨c.M, 18 + a, none⟩ (.int .i64 v)) { s with ij := nU s.ij a v } := by
 have h0 := h
 obtain ⟨f, h1, _, _, _, _, _, h7⟩ := h
 exact h0.turn hc hK (dF w c.M (18 + a) _) (fun LY Ao => Ao.oU ha v) rfl rfl ⟨F5 h7.1 _ hv, h7.2⟩
theorem MI.drew (h : MI c K w s) (hc : c.Fit) (hK : yt K) : MI c K w.drew s := h.below hc hK ((Below.refl _ _).drew)
set_option maxHeartbeats 2000000 in
theorem IL (hc : c.Fit) (hK : yt K) (hT : Lb K) (hG : F4 c.b K get) (h : MI c K w s) (x : cC) (a b : Nat) (ha : a < 8) (hb : b < 8) (CO : x.a = (a : Int)) (T6 : x.b = (b : Int)) :
  Calls Tryz.prog 105 #[.pointer (some ⟨c.M, 0, none⟩), x.val] w (Dq c K (kQ c.ok get x s) w) := by
 obtain ⟨dk, xa, xb, xc, xn⟩ := x
 simp only at CO T6
 subst CO T6
 unfold cC.val
 simp only
 have hb0 := ag w (.cells #[.int .i64 dk, .int .i64 (a : Int), .int .i64 (b : Int), .int .i64 xc, .int .i64 xn] 104)
 have k0 := heap_alloc_new w (.cells #[.int .i64 dk, .int .i64 (a : Int), .int .i64 (b : Int), .int .i64 xc, .int .i64 xn] 104)
 have h1 := h.below hc hK hb0
 have HC := Lib.hid (And.intro hc (And.intro hK (And.intro hT hG)))
 have Ow : ∀ k, c.S k -> k < w.heap.size := by obtain ⟨_, _, _, _, _, _, h6, _⟩ := h; exact h6
 have i1 : (0 : Int) <= (a : Int) := by omega
 have i2 : (a : Int) < 8 := by omega
 go_enter Tryz.func105, Tryz.ntmps105
 go_upto_region 1 with fail
 generalize w.alloc (.cells #[.int .i64 dk, .int .i64 (a : Int), .int .i64 (b : Int), .int .i64 xc, .int .i64 xn] 104) = w1 at hb0 k0 h1 ⊢
 obtain ⟨O, hO⟩ : ∃ x, w.heap.size = x := ⟨_, rfl⟩
 rw [hO] at k0 ⊢
 have T7 : ¬ c.S O := fun hs => by have := Ow O hs; omega
 have o2 : w1.cell? ⟨O, 2, none⟩ = some (.int .i64 (b : Int)) := by simp [World.cell?, k0]
 have HR := Lib.hid (Lc hc hK hT hG h1 b hb)
 have H1 := Lib.hid (And.intro hb0 (And.intro k0 T7))
 obtain ⟨s', r, n, hp⟩ : ∃ s' r n, rowP c.ok get b s = (s', r, n) := ⟨_, _, _, rfl⟩
 rw [hp] at HR
 have HP := Lib.hid hp
 clear h h1 hb0 k0 hO T7 Ow hp hc hK hT hG
 go_wp2_with fail
 refine HR.out.mono ?_
 rintro e w2 ⟨rfl, T8, fq⟩
 have k2 := fq.heap H1.out.2.1 (fun h => H1.out.2.2 (HC.out.1.sub _ h))
 obtain ⟨⟨ra, rb, rc, rd⟩, gS⟩ : ∃ q, r.getD .zero = q := ⟨_, rfl⟩
 simp only [gS, Rw.val]
 have HI := Lib.hid (And.intro T8 (And.intro fq k2))
 clear T8 fq k2 HR
 go_upto_region 2 with fail
 have hbz := ag w2 (.cells #[.int .i64 ra, .int .i64 rb, .int .i64 rc, .int .i64 rd] 26)
 have HZ := Lib.hid hbz
 clear hbz
 generalize w2.alloc (.cells #[.int .i64 ra, .int .i64 rb, .int .i64 rc, .int .i64 rd] 26) = w3 at HZ ⊢
 have h3 := HI.out.1.below HC.out.1 HC.out.2.1 HZ.out
 have k3 := (Only.of_below HZ.out (fun _ => False)).heap HI.out.2.2 (fun h => h)
 have Jh : Only c.W w w3 := ((Only.of_below H1.out.1 c.W).trans HI.out.2.1 (fun _ _ h => h)).trans (Only.of_below HZ.out c.W) (fun _ _ h => h)
 by_cases hn : n = 0
 ·subst hn
  have H3 := Lib.hid (And.intro h3 Jh)
  obtain ⟨f3, Rt, _⟩ := h3
  have m3 := Rt.ij ha
  have mf := Rt.free (18 + a)
  have o1 : w3.cell? ⟨O, 1, none⟩ = some (.int .i64 (a : Int)) := by simp [World.cell?, k3]
  have Ru : ¬ O = c.M := fun e => H1.out.2.2 (by rw [e]; exact HC.out.1.own)
  have P4 : ∀ v, (w3.setCell ⟨c.M, 18 + a, none⟩ v).cell? ⟨O, 1, none⟩ = some (.int .i64 (a : Int)) := fun v => (dF w3 c.M (18 + a) v).cell o1 Ru
  clear Rt k3 Jh
  cases hq : r.isSome with
  | true =>
   go_wp2_with fail
   go_region_held3 (fun W => W.cell? ⟨O, 1, none⟩ = some (.int .i64 (a : Int))) (first | exact o1 | exact P4 _ | go_keep) (first | (go_at_call 145; refine (IK _).mono ?_; rintro e w' ⟨rfl, rfl⟩))
   go_wp2_with fail
   go_ret
   have HF := (H3.out.1.drew HC.out.1 HC.out.2.1).oU HC.out.1 HC.out.2.1 ha (v := 1) ⟨by decide, by decide⟩
   refine ⟨?_, ?_, H3.out.2.trans ((xt w3 1 c.M (18 + a) _).K8 HC.out.1) (fun _ _ h => h)⟩
   ·unfold kQ
    simp only [Int.toNat_natCast, HP.out, if_true]
    rfl
   ·unfold kQ
    simp only [Int.toNat_natCast, HP.out, if_true, hq]
    exact HF
  | false =>
   go_wp2_with fail
   go_region_held3 (fun W => W.cell? ⟨O, 1, none⟩ = some (.int .i64 (a : Int))) (first | exact o1 | exact P4 _ | go_keep) (first | (go_at_call 145; refine (Lf _).mono ?_; rintro e w' ⟨rfl, rfl⟩))
   go_wp2_with fail
   go_ret
   have HF := (H3.out.1.drew HC.out.1 HC.out.2.1).oU HC.out.1 HC.out.2.1 ha (v := 0) ⟨by decide, by decide⟩
   refine ⟨?_, ?_, H3.out.2.trans ((xt w3 1 c.M (18 + a) _).K8 HC.out.1) (fun _ _ h => h)⟩
   ·unfold kQ
    simp only [Int.toNat_natCast, HP.out, if_true]
    rfl
   ·unfold kQ
    simp only [Int.toNat_natCast, HP.out, if_true, hq]
    exact HF
 ·have pM : (n == 0) = false := by simpa using hn
  have HN := Lib.hid (And.intro hn (And.intro h3 Jh))
  clear hn h3 k3 Jh
  go_wp2_with fail
  go_ret
  refine ⟨?_, ?_, HN.out.2.2⟩
  ·unfold kQ
   simp only [Int.toNat_natCast, HP.out, if_neg HN.out.1]
   rfl
  ·unfold kQ
   simp only [Int.toNat_natCast, HP.out, if_neg HN.out.1]
   exact HN.out.2.1
end
def Aq (w : World) (M : Nat) : Int := match w.cell? ⟨M, 17, none⟩ with
 | some (.int _ n) => n
 | _ => 0
theorem MI.Aq {R : Type} {c : RC} {K : (Nat -> Prop) -> R -> World -> Prop} {w : World} {s : PS R} (h : MI c K w s) : Aq w c.M = s.pc := by
 obtain ⟨f, h1, _⟩ := h
 have := h1.pc
 unfold Proofs.YtagemonojdgbdaaGreatDoor.Aq
 rw [this]
 rfl
def vH {R : Type} (c : RC) (K : (Nat -> Prop) -> R -> World -> Prop) (act : cC -> PS R -> PS R × Int) (fr tt : Nat) : Prop :=
 ∀ (i : Nat) (x : cC), fr <= i -> i < tt -> c.ops[i]? = some x -> (1 <= x.d /\ x.d <= 15) /\ ∀ (s : PS R), s.pc = (i : Int) + 1 ->
  (∀ w, MI c K w s -> Calls Tryz.prog (Dr x.d.toNat) #[.pointer (some ⟨c.M, 0, none⟩), x.val] w (Dq c K (act x s) w)) /\ ((act x s).2 = 0 -> s.pc <= (act x s).1.pc)
def OH {R : Type} (c : RC) (K : (Nat -> Prop) -> R -> World -> Prop) (act : cC -> PS R -> PS R × Int) (fr tt : Nat) (s0 : PS R) (w wr : World) : Prop :=
 ∃ (s : PS R) (g : Nat), MI c K wr s /\ Only c.W w wr /\ dC c.fuel c.ops act tt (tt - fr) s0 = dC c.fuel c.ops act tt g s /\ (tt : Int) - s.pc <= g /\ (fr : Int) <= s.pc
set_option maxHeartbeats 4000000 in
theorem F6 {R : Type} {c : RC} {K : (Nat -> Prop) -> R -> World -> Prop} {act : cC -> PS R -> PS R × Int} {w : World} {s : PS R} (hc : c.Fit) (hK : yt K) (h : MI c K w s) (fr tt : Nat) (hft : fr <= tt) (PB : tt <= c.ops.length) (ha : vH c K act fr tt) :
  Calls Tryz.prog 66 #[.pointer (some ⟨c.M, 0, none⟩), .int .i64 fr, .int .i64 tt] w (Dq c K (dC c.fuel c.ops act tt (tt - fr) { s with pc := fr }) w) := by
 have hlen := hc.ops
 have h0 : MI c K (w.setCell ⟨c.M, 17, none⟩ (.int .i64 fr)) { s with pc := fr } := by
  refine h.turn hc hK (dF w c.M 17 _) (fun f hm => hm.JB _) rfl rfl ?_
  obtain ⟨_, _, _, _, _, _, _, h7⟩ := h
  exact ⟨h7.1, h7.2.1, by show (0 : Int) <= (fr : Int); omega, by show (fr : Int) <= 1000; omega⟩
 have HC := Lib.hid (And.intro hc (And.intro hK ha))
 have H0 := Lib.hid (show OH c K act fr tt { s with pc := fr } w (w.setCell ⟨c.M, 17, none⟩ (.int .i64 fr)) from ⟨_, tt - fr, h0, (dF w c.M 17 _).K8 hc, rfl, by show (tt : Int) - (fr : Int) <= ((tt - fr : Nat) : Int); omega, Int.le_refl _⟩)
 obtain ⟨f, hm, _⟩ := h
 have cf := hm.free 17
 have cp := hm.pc
 simp only [RC.ms] at cp
 clear hm ha h0 hc hK
 go_enter Tryz.func66, Tryz.ntmps66
 go_wp2_with fail
 go_step3
 go_wp2_with fail
 go_step3
 go_wp2_with fail
 go_loopw [7] (fun e wr => e = .int .i64 0 /\ OH c K act fr tt { s with pc := fr } w wr) (fun _ wr => ((tt : Int) - Aq wr c.M).toNat)
 case atStart => exact ⟨rfl, H0.out⟩
 case round =>
  obtain ⟨rfl, s1, g, r1, r2, r3, r4, r5⟩ := hrel
  have HR := Lib.hid (And.intro r1 (And.intro r2 (And.intro r3 (And.intro r4 r5))))
  have hpc := r1.Aq
  obtain ⟨f1, kX, _, _, sN, _, _, hfit⟩ := r1
  have c17 := kX.pc
  simp only [RC.ms] at c17
  by_cases hlt : s1.pc < tt
  ·obtain ⟨i, hi⟩ : ∃ i : Nat, s1.pc = (i : Int) := ⟨s1.pc.toNat, by have := hfit.2.2.1; omega⟩
   have hi1 : fr <= i := by omega
   have hi2 : i < tt := by omega
   obtain ⟨x, hx⟩ : ∃ x, c.ops[i]? = some x := ⟨_, List.getElem?_eq_getElem (by omega)⟩
   obtain ⟨g', rfl⟩ : ∃ g', g = g' + 1 := ⟨g - 1, by omega⟩
   have Rv : c.ops[s1.pc.toNat]? = some x := by rw [hi]; simpa using hx
   by_cases Lg : c.fuel <= s1.steps
   ·have HE := Lib.hid (And.intro (zX (fuel := c.fuel) (ops := c.ops) (act := act) (g := g') hlt Lg) (F3 HC.out.1 HC.out.2.1 HR.out.1 Lg))
    clear r2 r3 r4 r5 hpc kX sN hfit hx Rv hi
    go_wp2_with fail
    refine HE.out.2.mono ?_
    rintro e w2 ⟨rfl, hI, ho⟩
    have HI := Lib.hid (And.intro hI ho)
    clear hI ho
    go_wp2_with fail
    go_ret
    refine ⟨?_, ?_, HR.out.2.1.trans HI.out.2 (fun _ _ h => h)⟩
    ·rw [HR.out.2.2.1, HE.out.1]; rfl
    ·rw [HR.out.2.2.1, HE.out.1]; exact HI.out.1
   ·have hst : s1.steps < c.fuel := by omega
    have HX := Lib.hid (And.intro hx (And.intro Rv (And.intro hi (And.intro hst hlt))))
    have HS := Lib.hid (FZ HC.out.1 HC.out.2.1 HR.out.1 hst)
    clear r2 r3 r4 r5 hpc kX sN hfit hx Rv Lg hst hi
    go_wp2_with fail
    refine HS.out.mono ?_
    rintro e w2 ⟨rfl, hI, ho⟩
    clear c17 hlt
    have HI := Lib.hid (And.intro hI (HR.out.2.1.trans ho (fun _ _ h => h)))
    obtain ⟨f2, hm2, _, _, B6, _, VT, OI⟩ := hI
    obtain ⟨A, UW, hov, hlc, hcm⟩ := B6.slice
    unfold maxLen at hcm
    have c0 := hm2.ops
    have c17 := hm2.pc
    have f17 := hm2.free 17
    rw [hov] at B6
    obtain ⟨b, o, rfl, vN, d0, d1, d2, d3, d4⟩ := B6.at_ HX.out.1
    simp only [RC.ms, hov, HX.out.2.2.1] at c0 c17
    have T9 := hm2.lt
    obtain ⟨xd, xa, xb, xc, xn⟩ := x
    simp only at d0 d1 d2 d3 d4
    have WQ : ¬ b = c.M := fun e => vN (by rw [e]; exact HC.out.1.own)
    have hbl := World.block_lt_of_cell? _ _ d0
    simp only at hbl
    have i1 : (0 : Int) <= (i : Int) := by omega
    have i2 : (i : Int) < (c.ops.length : Int) := by omega
    clear B6 hm2 OI VT ho hov vN HS
    go_upto_region 6 with fail
    go_region
    go_upto_region 7 with fail
    have gj : Below w2.heap.size w2 (w2.alloc (.cells #[.int .i64 xd, .int .i64 xa, .int .i64 xb, .int .i64 xc, .int .i64 xn] 104)).drew := (gA w2 (.cells #[.int .i64 xd, .int .i64 xa, .int .i64 xb, .int .i64 xc, .int .i64 xn] 104)).drew
    have k6 : (w2.alloc (.cells #[.int .i64 xd, .int .i64 xa, .int .i64 xb, .int .i64 xc, .int .i64 xn] 104)).drew.heap[w2.heap.size]? = some (.cells #[.int .i64 xd, .int .i64 xa, .int .i64 xb, .int .i64 xc, .int .i64 xn] 104 (0, 0)) := heap_alloc_new w2 _
    clear c0 c17 f17 d0 d1 d2 d3 d4
    generalize (w2.alloc (.cells #[.int .i64 xd, .int .i64 xa, .int .i64 xb, .int .i64 xc, .int .i64 xn] 104)).drew = w6 at gj k6 ⊢
    obtain ⟨O, hO⟩ : ∃ y, w2.heap.size = y := ⟨_, rfl⟩
    rw [hO] at k6 ⊢
    have Rx := HI.out.1.below HC.out.1 HC.out.2.1 gj
    have Ru : ¬ O = c.M := by omega
    obtain ⟨f6, Ry, _⟩ := Rx
    have c17 := Ry.pc
    have f17 := Ry.free 17
    simp only [RC.ms, HX.out.2.2.1] at c17
    have hw1 : IntKind.i64.wrap ((i : Int) + 1) = (i : Int) + 1 := by rw [IntKind.wrap_i64]; omega
    have h7 : MI c K (w6.setCell ⟨c.M, 17, none⟩ (.int .i64 ((i : Int) + 1))) { s1 with steps := s1.steps + 1, pc := s1.pc + 1 } := by
     have h6 := HI.out.1.below HC.out.1 HC.out.2.1 gj
     refine h6.turn HC.out.1 HC.out.2.1 (dF w6 c.M 17 _) (fun f hm => ?_) rfl rfl ?_
     ·have := hm.JB ((i : Int) + 1)
      simp only [RC.ms, HX.out.2.2.1] at this ⊢
      exact this
     ·obtain ⟨_, _, _, _, _, _, _, q7⟩ := h6
      exact ⟨q7.1, q7.2.1, by show 0 <= s1.pc + 1; have := q7.2.2.1; simp only at this; omega, by show s1.pc + 1 <= 1000; rw [HX.out.2.2.1]; omega⟩
    have k7 := (dF w6 c.M 17 (.int .i64 ((i : Int) + 1))).heap k6 Ru
    have vS : Only c.W w (w6.setCell ⟨c.M, 17, none⟩ (.int .i64 ((i : Int) + 1))) := (HI.out.2.trans (Only.of_below gj c.W) (fun _ _ h => h)).trans ((dF w6 c.M 17 _).K8 HC.out.1) (fun _ _ h => h)
    have H7 := Lib.hid (And.intro h7 (And.intro k7 vS))
    clear h7 k7 vS Ry k6 gj hO
    go_upto_region 8 with fail
    generalize w6.setCell ⟨c.M, 17, none⟩ (.int .i64 ((i : Int) + 1)) = w7 at H7 ⊢
    clear c17 f17 hw1
    obtain ⟨⟨hd1, hd2⟩, F7⟩ := HC.out.2.2 i _ hi1 hi2 HX.out.1
    simp only at hd1 hd2
    obtain ⟨dn, rfl⟩ : ∃ dn : Nat, xd = (dn : Int) := ⟨xd.toNat, by omega⟩
    obtain ⟨h7, k7, vS⟩ := H7.out
    obtain ⟨f7, Ua, _⟩ := id h7
    have ca := Ua.act (show 1 <= dn by omega) (show dn <= 15 by omega)
    have hen := yu (show 1 <= dn by omega) (show dn <= 15 by omega)
    obtain ⟨fn, hfn⟩ : ∃ fn, Dr dn = fn := ⟨_, rfl⟩
    have yw := F7 { s1 with steps := s1.steps + 1, pc := s1.pc + 1 } (by show s1.pc + 1 = (i : Int) + 1; rw [HX.out.2.2.1])
    rw [show (cC.mk (dn : Int) xa xb xc xn).d.toNat = dn from Int.toNat_natCast dn] at yw
    rw [hfn] at ca hen yw
    unfold mh at ca
    have HA := Lib.hid (And.intro (yw.1 w7.drew (h7.drew HC.out.1 HC.out.2.1)) yw.2)
    obtain ⟨e0, e1, e2, e3, e4⟩ := oL k7
    have j1 : (0 : Int) <= (dn : Int) := by omega
    have j2 : (dn : Int) < 16 := by omega
    clear h7 k7 vS Ua F7 yw hfn
    go_still_tail 9, (by kernel_rfl)
    change wpList _ _ _ _ _ w7.drew
    have HD := Lib.hid (Below.refl w7.heap.size w7).drew
    generalize w7.drew = w8 at HA HD ⊢
    go_wp2_with fail
    obtain ⟨s3, n, hp⟩ : ∃ s3 n, act (cC.mk (dn : Int) xa xb xc xn) { s1 with steps := s1.steps + 1, pc := s1.pc + 1 } = (s3, n) := ⟨_, _, rfl⟩
    rw [hp] at HA
    have HP := Lib.hid hp
    clear hp
    refine HA.out.1.mono ?_
    rintro e w9 ⟨rfl, OJ, dS⟩
    have Jw : Only c.W w w9 := (H7.out.2.2.trans (Only.of_below HD.out c.W) (fun _ _ h => h)).trans dS (fun _ _ h => h)
    by_cases hn : n = 0
    ·subst hn
     have HE := Lib.hid (Db (g := g') (tt := (tt : Int)) HX.out.2.2.2.2 HX.out.2.2.2.1 HX.out.2.1 HP.out)
     have HF := Lib.hid (And.intro OJ Jw)
     have Lh := OJ.Aq
     have hge := HA.out.2 rfl
     have Li := HR.out.1.Aq
     simp only [HX.out.2.2.1] at hge Li Lh
     have HG := Lib.hid (And.intro hge (And.intro Li Lh))
     clear OJ Jw dS hge Li Lh
     go_wp2_with fail
     go_roundw
     case rel =>
      refine ⟨rfl, s3, g', HF.out.1, HF.out.2, by rw [HR.out.2.2.1, HE.out], ?_, ?_⟩
      ·have h1 := HR.out.2.2.2.1
       have h2 := HG.out.1
       rw [HX.out.2.2.1] at h1
       omega
      ·have h2 := HG.out.1
       omega
     case measure =>
      rw [HG.out.2.1, HG.out.2.2]
      have h2 := HG.out.1
      omega
    ·have pM : (n != 0) = true := by simpa using hn
     have HE := Lib.hid (ym (g := g') (tt := (tt : Int)) HX.out.2.2.2.2 HX.out.2.2.2.1 HX.out.2.1 HP.out hn)
     have HF := Lib.hid (And.intro OJ Jw)
     clear hn OJ Jw dS
     go_wp2_with fail
     go_ret
     refine ⟨?_, ?_, HF.out.2⟩
     ·rw [HR.out.2.2.1, HE.out]; rfl
     ·rw [HR.out.2.2.1, HE.out]; exact HF.out.1
  ·have HE := Lib.hid (zW (fuel := c.fuel) (ops := c.ops) (act := act) (g := g) (show (tt : Int) <= s1.pc by omega))
   clear r2 r3 r4 r5 hpc kX sN hfit
   go_wp2_with fail
   go_ret
   refine ⟨?_, ?_, HR.out.2.1⟩
   ·rw [HR.out.2.2.1, HE.out]; rfl
   ·rw [HR.out.2.2.1, HE.out]; exact HR.out.1
end Go.Proofs.YtagemonojdgbdaaGreatDoor
