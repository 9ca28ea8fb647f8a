import Derived.Test.YtagemonojdgbdaaGreatDoorQ11
import Derived.Test.YtagemonojdgbdaaGreatDoorQ20
import Derived.Test.YtagemonojdgbdaaGreatDoorQ29
namespace Go.Proofs.YtagemonojdgbdaaGreatDoor
set_option maxRecDepth 100000
open Go.RowKit
theorem uZ {k : List UInt8} (h : 1 <= k.length /\ k.length <= 16) : cO k = 0 := by unfold cO; rw [if_neg (by omega)]
theorem kv (w : World) (T a : Nat) (h : w.cell? ⟨T, 1, none⟩ = some (jJ a)) : Calls Tryz.prog 61 #[.pointer (some ⟨T, 0, none⟩)] w fun e w' => e = .returned (jJ a) /\ w = w' := by
 unfold jJ at h ⊢
 go_enter Tryz.func61, Tryz.ntmps61
 go_wp2_with fail
 go_ret
 exact ⟨rfl, rfl⟩
theorem yb (w : World) (T a c : Nat) (hc : c < 4) (h : w.cell? ⟨T, c + 1 + 1, none⟩ = some (jJ a)) : Calls Tryz.prog 97 #[.pointer (some ⟨T, 0, none⟩), .int .i64 (c : Int)] w fun e w' => e = .returned (jJ a) /\ w = w' := by
 unfold jJ at h ⊢
 rw [show c + 1 + 1 = 1 + (c + 1) by omega] at h
 have h0 : (1 : Int) + (c : Int) = ((c + 1 : Nat) : Int) := by omega
 have i1 : (0 : Int) <= ((c + 1 : Nat) : Int) := by omega
 have i2 : ((c + 1 : Nat) : Int) < 5 := by omega
 generalize c + 1 = d at h h0 i1 i2
 go_enter Tryz.func97, Tryz.ntmps97
 go_wp2_with fail
 go_ret
 exact ⟨rfl, rfl⟩
theorem pD (w : World) (T : Nat) (k : List UInt8) : Calls Tryz.prog 58 #[.pointer (some ⟨T, 0, none⟩), .string ⟨k.toArray⟩] w fun e w' => e = .returned (.int .i64 (cO k)) /\ w = w' := by
 have HC := Lib.hid (dE w k)
 go_enter Tryz.func58, Tryz.ntmps58
 go_wp2_with fail
 refine HC.out.mono ?_
 rintro e w1 ⟨rfl, rfl⟩
 go_wp2_with fail
 go_ret
 exact ⟨rfl, rfl⟩
theorem zR (w : World) (T o : Nat) (most : Int) (t : Nat -> Nat) (ls : Nat -> List Pr) (Fs : Nat -> Nat -> Nat -> Prop) (h : fK w T most o t ls Fs) : Calls Tryz.prog 60 #[.pointer (some ⟨T, 0, none⟩)] w fun e w' => e = .returned (.int .i64 (ls 0).length) /\ w = w' := by
 have HC := Lib.hid (And.intro (kv w T (t 0) (h.ci (by decide))) (zq w (t 0) o (ls 0) (Fs 0) (h.tree 0 (by decide))))
 clear h
 go_enter Tryz.func60, Tryz.ntmps60
 go_wp2_with fail
 refine HC.out.1.mono ?_
 rintro e w1 ⟨rfl, rfl⟩
 unfold jJ
 go_wp2_with fail
 refine HC.out.2.mono ?_
 rintro e w1 ⟨rfl, rfl⟩
 go_wp2_with fail
 go_ret
 exact ⟨rfl, rfl⟩
theorem C7 (w : World) (T o : Nat) (most : Int) (l : aW) (F : Nat -> Nat -> Prop) (h : cM w T most o l F) : Calls Tryz.prog 60 #[.pointer (some ⟨T, 0, none⟩)] w fun e w' => e = .returned (.int .i64 l.length) /\ w = w' := by
 obtain ⟨t, Fs, h1, h2, h3, _⟩ := h
 have := zR w T o most t _ Fs h1
 rw [iT h2 h3] at this
 exact this
def QX (w w' : World) (v : Value) (r : Option Rw) : Prop := rD w' v r /\ ∀ b, v = .pointer (some ⟨b, 0, none⟩) -> w.heap.size <= b
def N2 (r : Option Rw) (w : World) (e : Ending) (w' : World) : Prop := ∃ v, e = .returned v /\ QX w w' v r /\ Below w.heap.size w w'
set_option maxHeartbeats 2000000 in
theorem look_ok (w : World) (T o : Nat) (most : Int) (l : aW) (F : Nat -> Nat -> Prop) (k : List UInt8) (h : cM w T most o l F) (hk : 1 <= k.length /\ k.length <= 16) :
  Calls Tryz.prog 59 #[.pointer (some ⟨T, 0, none⟩), .string ⟨k.toArray⟩] w (N2 (aI k l) w) := by
 obtain ⟨t, Fs, h1, h2, h3, _⟩ := h
 have hG := zo w (t 0) o (gL l 0) (Fs 0) k (h1.tree 0 (by decide)) hk.1 (by omega)
 have hl : look k (gL l 0) = (aI k l).map eI := wM eI k l
 have HC := Lib.hid (And.intro (kv w T (t 0) (h1.ci (by decide))) hG)
 have HL := Lib.hid hl
 have hfit : ∀ r, aI k l = some r -> ∀ c, I6 (r.aG c) := fun r hr => h3 (k, r) ((dv h2).1 hr)
 have HF := Lib.hid hfit
 clear h1 h2 h3 hG hl hfit hk
 go_enter Tryz.func59, Tryz.ntmps59
 go_wp2_with fail
 refine HC.out.1.mono ?_
 rintro e w1 ⟨rfl, rfl⟩
 unfold jJ
 go_wp2_with fail
 refine HC.out.2.mono ?_
 rintro e w1 ⟨rfl, hb⟩
 rw [HL.out]
 have HB := Lib.hid hb
 clear HC hb
 cases hq : aI k l with
 | none =>
  have HQ := Lib.hid hq
  simp only [Option.map_none, Option.getD_none, Option.isSome_none, Bool.false_eq_true, if_false]
  clear hq
  go_wp2_with fail
  go_ret
  exact ⟨_, rfl, ⟨by rw [HQ.out]; rfl, fun b hb => by cases hb⟩, HB.out⟩
 | some r =>
  have Tx := HF.out r hq
  have HQ := Lib.hid (And.intro hq Tx)
  simp only [Option.map_some, Option.getD_some, Option.isSome_some, if_true]
  have hcv := fun w => yZ w (eI r)
  have hel := nC r
  obtain ⟨E, hE⟩ : ∃ E, eI r = E := ⟨_, rfl⟩
  have HE := Lib.hid (And.intro hE hel)
  rw [hE] at hcv ⊢
  clear hq Tx hE hel
  go_wp2_with fail
  have kP := Ep w1 5 (eI r) (by have := HE.out.2; unfold maxLen; omega)
  have hbb := xu w1 5 ⟨(eI r).toArray⟩
  have HD := Lib.hid (And.intro (CK _ _ r _ HQ.out.2 kP) hbb)
  rw [HE.out.1] at HD
  clear kP hbb hcv
  refine HD.out.1.mono ?_
  rintro e w2 ⟨rfl, hb2⟩
  have nN := Lib.hid (show Below w.heap.size w w2 from (HB.out.trans (HD.out.2.mono HB.out.size)).trans (hb2.mono (Nat.le_trans HB.out.size HD.out.2.size)))
  clear hb2 HD
  obtain ⟨ra, rb, rc, rd⟩ := r
  unfold Rw.val
  have eU := ag w2 (.cells #[.int .i64 ra, .int .i64 rb, .int .i64 rc, .int .i64 rd] 26)
  have kx := heap_alloc_new w2 (.cells #[.int .i64 ra, .int .i64 rb, .int .i64 rc, .int .i64 rd] 26)
  have HX := Lib.hid (And.intro eU kx)
  clear eU kx
  go_wp2_with fail
  go_ret
  exact ⟨_, rfl, ⟨by rw [HQ.out.1]; exact ⟨_, rfl, HX.out.2⟩, fun b hb => by injection hb with hb; injection hb with hb; injection hb with hb; have := nN.out.size; omega⟩, nN.out.trans (HX.out.1.mono nN.out.size)⟩
theorem zS (w : World) (k : List UInt8) (hk : 1 <= k.length /\ k.length <= 16) (po pn : Value) (old now : Option Rw) (ho : rD w po old) (hn : rD w pn now) (h : ¬ (old = none /\ now = none)) :
  Calls Tryz.prog 95 #[.string ⟨k.toArray⟩, po, pn] w (Ih (E5 k old now) w) := by
 cases old with
 | none =>
  obtain rfl := ho
  cases now with
  | none => exact absurd ⟨rfl, rfl⟩ h
  | some n =>
   obtain ⟨b, rfl, hb⟩ := hn
   exact zM w k hk b n hb
 | some o =>
  obtain ⟨a, rfl, ha⟩ := ho
  cases now with
  | none =>
   obtain rfl := hn
   exact zO w k hk a o ha
  | some n =>
   obtain ⟨b, rfl, hb⟩ := hn
   exact zP w k hk a o ha b n hb
theorem Ik {w : World} {F : Nat -> Prop} {A : Option Addr} {n c : Nat} {l : List Ch} (h : bE 4 w F (.slice A n c) (l.map Ch.cells)) {j : Nat} {x : Ch} (hj : l[j]? = some x) :
  ∃ b o, A = some ⟨b, o, none⟩ /\ F b /\ w.cell? ⟨b, o + j * 4, none⟩ = some (.int .i64 (x.aG : Int)) /\ w.cell? ⟨b, o + j * 4 + 1, none⟩ = some (.int .i64 x.v) /\ w.cell? ⟨b, o + j * 4 + 2, none⟩ = some (.string ⟨x.k.toArray⟩) /\
   w.cell? ⟨b, o + j * 4 + 3, none⟩ = some (.bool x.add) := by
 obtain ⟨A', n', c', hv, hl, _, _, hx⟩ := h
 injection hv with h1 h2 h3
 subst h1 h2 h3
 have hlt := (List.getElem?_eq_some_iff.1 hj).1
 obtain ⟨b, o, rfl, hF, hc⟩ := hx (by simp at hl; omega)
 have hx' : (l.map Ch.cells)[j]? = some x.cells := by simp [hj]
 exact ⟨b, o, rfl, hF, hc j _ hx' 0 _ rfl, hc j _ hx' 1 _ rfl, hc j _ hx' 2 _ rfl, hc j _ hx' 3 _ rfl⟩
def lF (T o : Nat) (most : Int) (t : Nat -> Nat) (ls : Nat -> List Pr) (xs : List Ch) (Fs : Nat -> Nat -> Nat -> Prop) (w w' : World) : Prop :=
 ∃ vO, fK w' T most o t (xs.foldl je ls) vO /\ (∀ b q, nE vO b q -> nE Fs b q \/ w.heap.size <= b) /\ OnlyC (nE Fs) w w'
theorem Il {w : World} {T o : Nat} {most : Int} {t : Nat -> Nat} {ls : Nat -> List Pr} {Fs : Nat -> Nat -> Nat -> Prop} (h : fK w T most o t ls Fs) {b q : Nat} (hb : nE Fs b q) : b < w.heap.size := let ⟨i, hi, hf⟩ := hb; h.Gp i hi b q hf
theorem lF.step {w w1 w' : World} {T o : Nat} {most : Int} {t : Nat -> Nat} {ls : Nat -> List Pr} {xs : List Ch} {Fs vO : Nat -> Nat -> Nat -> Prop} {x : Ch} (hx : x.aG < 4) (hs : w.heap.size <= w1.heap.size)
  (h : fK w1 T most o t (xs.foldl je ls) vO) (hF : ∀ b q, nE vO b q -> nE Fs b q \/ w.heap.size <= b) (ho : OnlyC (nE Fs) w w1)
  {l' : List Pr} (hl : l' = je (xs.foldl je ls) x (x.aG + 1)) (ht : bD w' (t (x.aG + 1)) o l' (fun b q => vO (x.aG + 1) b q \/ w1.heap.size <= b)) (ho' : OnlyC (vO (x.aG + 1)) w1 w') : lF T o most t ls (xs ++ [x]) Fs w w' := by
 refine ⟨gW vO (x.aG + 1) (fun b q => (vO (x.aG + 1) b q \/ w1.heap.size <= b) /\ b < w'.heap.size), ?_, fun b q hb => ?_, ho.trans ho' (fun b q hb hf => ?_)⟩
 ·have h1 := h.upd (i := x.aG + 1) (by omega) ht ho'
  rw [List.foldl_append, List.foldl_cons, List.foldl_nil]
  refine h1.congr (fun i _ => ?_)
  rw [hl]
  unfold je gW
  by_cases e : i = x.aG + 1
  ·rw [if_pos e, if_pos rfl, if_pos e]
  ·rw [if_neg e, if_neg e]
 ·rcases BC (by omega) hb with hb | hb
  ·exact hF b q hb
  ·exact .inr (by omega)
 ·rcases hF b q ⟨_, by omega, hf⟩ with h | h
  ·exact h
  ·omega
set_option maxHeartbeats 4000000 in
theorem BM (w : World) (T o : Nat) (most : Int) (t : Nat -> Nat) (ls : Nat -> List Pr) (Fs : Nat -> Nat -> Nat -> Prop) (k : List UInt8) (po pn : Value) (old now : Option Rw) (h : fK w T most o t ls Fs) (hk : 1 <= k.length /\ k.length <= 16)
  (ho : rD w po old) (hn : rD w pn now) (hne : ¬ (old = none /\ now = none)) (dM : ∀ r, old = some r -> ∀ c, I6 (r.aG c)) (ed : ∀ r, now = some r -> ∀ c, I6 (r.aG c)) (hlen : ∀ i, i < 5 -> (ls i).length <= 900000) :
  Calls Tryz.prog 64 #[.pointer (some ⟨T, 0, none⟩), .string ⟨k.toArray⟩, po, pn] w fun e w' => e = .returned (.tuple #[]) /\ lF T o most t ls (E5 k old now) Fs w w' := by
 have HC := Lib.hid (zS w k hk po pn old now ho hn hne)
 obtain ⟨xs, hxs⟩ : ∃ xs, E5 k old now = xs := ⟨_, rfl⟩
 have Ty : ∀ x ∈ xs, (x.aG < 4 /\ x.k = k) /\ I6 x.v := fun x hx => by rw [<- hxs] at hx; exact ⟨BA hx, BB dM ed hx⟩
 have hxl : xs.length <= 8 := by rw [<- hxs]; exact nD k old now 4
 rw [hxs] at HC ⊢
 have H := Lib.hid (And.intro h (And.intro hk (And.intro Ty (And.intro hxl hlen))))
 clear h hk hne dM ed hlen hxs Ty
 have hpo : (∃ b, po = .pointer b) := by cases old with | none => exact ⟨_, ho⟩ | some r => obtain ⟨b, e, _⟩ := ho; exact ⟨_, e⟩
 have VC : (∃ b, pn = .pointer b) := by cases now with | none => exact ⟨_, hn⟩ | some r => obtain ⟨b, e, _⟩ := hn; exact ⟨_, e⟩
 obtain ⟨bo, rfl⟩ := hpo
 obtain ⟨bn, rfl⟩ := VC
 clear ho hn
 go_enter Tryz.func64, Tryz.ntmps64
 go_step3
 go_wp2_with fail
 refine HC.out.mono ?_
 rintro e w1 ⟨v, rfl, hown, hb1⟩
 obtain ⟨A, c, rfl⟩ := ar hown
 obtain ⟨n, hn⟩ : ∃ n, xs.length = n := ⟨_, rfl⟩
 rw [hn] at hxl
 have kP : bE 4 w1 (fun b => w.heap.size <= b /\ b < w1.heap.size) (.slice A n c) (xs.map Ch.cells) := by rw [<- hn]; exact bE.bC hown (oM xs) (by decide) (fun g hg => hown.lt g hg)
 have H1 := Lib.hid (And.intro kP (And.intro hb1 hn))
 rw [hn]
 clear kP hb1 hown hn HC
 go_wp2_with fail
 go_step3
 go_wp2_with fail
 go_loopw [23] (fun i wr => ∃ j : Nat, j <= n /\ i = .int .i64 (j : Int) /\ lF T o most t ls (xs.take j) Fs w1 wr) (fun i _ => n - (intOf i).toNat)
 case atStart => exact ⟨0, by omega, rfl, Fs, H.out.1.below H1.out.2.1, fun b q h => .inl h, OnlyC.refl _ _⟩
 case round =>
  obtain ⟨j, hj, rfl, vO, hW, hF', Im⟩ := hrel
  by_cases hlt : j < n
  ·obtain ⟨x, hx⟩ : ∃ x, xs[j]? = some x := ⟨_, List.getElem?_eq_getElem (by rw [H1.out.2.2]; exact hlt)⟩
   have N3 : bE 4 wr (fun b => w.heap.size <= b /\ b < w1.heap.size) (.slice A n c) (xs.map Ch.cells) := H1.out.1.only Im.only (fun b hb ⟨q, hq⟩ => by have := Il H.out.1 hq; omega)
   obtain ⟨b, o', rfl, VD, d0, d1, d2, d3⟩ := Ik N3 hx
   have hcm : c <= maxLen := by obtain ⟨_, _, _, e, _, _, h, _⟩ := H1.out.1; injection e with _ _ e; omega
   have hnc : n <= c := by obtain ⟨_, _, _, e, _, h, _, _⟩ := H1.out.1; injection e with _ e2 e; omega
   unfold maxLen at hcm
   obtain ⟨⟨LQ, hxk⟩, hxv⟩ := H.out.2.2.1 x (List.mem_of_getElem? hx)
   obtain ⟨xc, xv, xk, xa⟩ := x
   simp only at LQ hxk hxv d0 d1 d2 d3
   subst hxk
   have i1 : (0 : Int) <= (j : Int) := by omega
   have i2 : (j : Int) < (n : Int) := by omega
   have eU := ag wr (.cells #[.int .i64 (xc : Int), .int .i64 xv, .string ⟨xk.toArray⟩, .bool xa] 218)
   have kx := heap_alloc_new wr (.cells #[.int .i64 (xc : Int), .int .i64 xv, .string ⟨xk.toArray⟩, .bool xa] 218)
   have HX := Lib.hid (And.intro (hW.below eU) (And.intro hF' (And.intro (Im.trans (OnlyC.of_below eU (nE Fs)) (fun _ _ _ h => h)) (And.intro hx (And.intro LQ hxv)))))
   clear hW hF' Im N3 hx VD hxv
   go_upto_region 4 with fail
   clear d0 d1 d2 d3
   have HB := Lib.hid eU
   clear eU
   generalize wr.alloc (.cells #[.int .i64 (xc : Int), .int .i64 xv, .string ⟨xk.toArray⟩, .bool xa] 218) = w2 at HX HB kx ⊢
   obtain ⟨X, hX⟩ : ∃ y, wr.heap.size = y := ⟨_, rfl⟩
   rw [hX] at kx ⊢
   obtain ⟨⟨e0, e1, e2, e3⟩, -⟩ := bG kx
   have HK := Lib.hid (And.intro kx hX)
   have HP := Lib.hid (zQ w2 xv xk HX.out.2.2.2.2.2 H.out.2.1)
   clear kx hX
   go_wp2_with fail
   refine HP.out.mono ?_
   rintro e w3 ⟨rfl, hb3⟩
   have k3 := (Only.of_below hb3 (fun _ => False)).heap HK.out.1 (fun h => h)
   obtain ⟨⟨e0, e1, e2, e3⟩, -⟩ := bG k3
   have H3 := Lib.hid (show fK w3 T most o t ((xs.take j).foldl je ls) vO /\ OnlyC (nE Fs) w1 w3 from ⟨HX.out.1.below hb3, HX.out.2.2.1.trans (OnlyC.of_below hb3 (nE Fs)) (fun _ _ _ h => h)⟩)
   have BN : ((xs.take j).foldl je ls (xc + 1)).length <= 1000000 := by
    have h1 := qV (xc + 1) (xs.take j) ls 900000 (H.out.2.2.2.2 _ (by omega))
    rw [List.length_take] at h1
    omega
   have hent : 1 <= (iM xv xk).length /\ (iM xv xk).length <= 64 := by
    unfold iM
    rw [List.length_append, lU]
    have := H.out.2.1
    omega
   have HI := Lib.hid (yb w3 T (t (xc + 1)) xc LQ (H3.out.1.ci (i := xc + 1) (by omega)))
   have BO := H3.out.1.tree (xc + 1) (by omega)
   have Io := H3.out.1.Gp (xc + 1) (by omega)
   have htk : xs.take j ++ [⟨xc, xv, xk, xa⟩] = xs.take (j + 1) := by
    have := HX.out.2.2.2.1
    rw [List.take_add_one, this]
    rfl
   clear hb3 k3 HP
   cases xa with
   | true =>
    have HT := Lib.hid (mO w3 (t (xc + 1)) o _ (vO (xc + 1)) (iM xv xk, []) BO Io hent.1 hent.2 (by simp) BN)
    have HN := Lib.hid htk
    clear BO Io hent BN htk
    go_wp2_with fail
    refine HI.out.mono ?_
    rintro e w4 ⟨rfl, rfl⟩
    unfold jJ
    go_wp2_with fail
    refine HT.out.mono ?_
    rintro e w5 ⟨rfl, N4, nv⟩
    have HR := Lib.hid (lF.step (x := ⟨xc, xv, xk, true⟩) LQ (H3.out.2.size) H3.out.1 HX.out.2.1 H3.out.2 (by unfold je; rw [if_pos rfl, eu]) N4 nv)
    rw [HN.out] at HR
    clear N4 nv HT
    go_wp2_with fail
    go_roundw
    case rel => exact ⟨j + 1, by omega, by go_num, HR.out⟩
    case measure => simp [intOf]; omega
   | false =>
    have HT := Lib.hid (zn w3 (t (xc + 1)) o _ (vO (xc + 1)) (iM xv xk) BO Io hent.1 hent.2 BN)
    have HN := Lib.hid htk
    clear BO Io hent BN htk
    go_wp2_with fail
    refine HI.out.mono ?_
    rintro e w4 ⟨rfl, rfl⟩
    unfold jJ
    go_wp2_with fail
    refine HT.out.mono ?_
    rintro e w5 ⟨rfl, N4, nv⟩
    have HR := Lib.hid (lF.step (x := ⟨xc, xv, xk, false⟩) LQ (H3.out.2.size) H3.out.1 HX.out.2.1 H3.out.2 (by unfold je; rw [if_neg (by simp), eu]) N4 nv)
    rw [HN.out] at HR
    clear N4 nv HT
    go_wp2_with fail
    go_roundw
    case rel => exact ⟨j + 1, by omega, by go_num, HR.out⟩
    case measure => simp [intOf]; omega
  ·obtain rfl : j = n := by omega
   have HR := Lib.hid (show lF T o most t ls xs Fs w wr from by
    rw [List.take_of_length_le (by rw [H1.out.2.2]; exact Nat.le_refl _)] at hW
    refine ⟨vO, hW, fun b q hb => (hF' b q hb).imp id (fun h => by have := H1.out.2.1.size; omega), (OnlyC.of_below H1.out.2.1 (nE Fs)).trans Im (fun _ _ _ h => h)⟩)
   clear hW hF' Im
   go_wp2_with fail
   rw [Exit.noGoto_normal]
   exact bodyPost_end (results_none rfl _ _ _) rfl ⟨rfl, HR.out⟩
theorem rD.only {w w' : World} {v : Value} {r : Option Rw} {S : Nat -> Prop} (h : rD w v r) (ho : Only S w w') (hd : ∀ b, v = .pointer (some ⟨b, 0, none⟩) -> ¬ S b) : rD w' v r := by
 cases r with
 | none => exact h
 | some r =>
  obtain ⟨b, e, h⟩ := h
  exact ⟨b, e, ho.heap h (hd b e)⟩
theorem bb {w : World} {A : Nat} {a0 a1 a2 a3 v0 v1 v2 v3 : Value} {t : TypeId} (h : w.heap[A]? = some (.cells #[a0, a1, a2, a3] t (0, 0))) :
  ((((w.setCell ⟨A, 0, none⟩ v0).setCell ⟨A, 1, none⟩ v1).setCell ⟨A, 2, none⟩ v2).setCell ⟨A, 3, none⟩ v3).heap[A]? = some (.cells #[v0, v1, v2, v3] t (0, 0)) /\ Only (fun k => k = A) w ((((w.setCell ⟨A, 0, none⟩ v0).setCell ⟨A, 1, none⟩ v1).setCell ⟨A, 2, none⟩ v2).setCell ⟨A, 3, none⟩ v3) :=
 ⟨pj h, (((dF w A 0 v0).setCell (p := ⟨A, 1, none⟩) (fun _ => rfl) v1).setCell (p := ⟨A, 2, none⟩) (fun _ => rfl) v2).setCell (p := ⟨A, 3, none⟩) (fun _ => rfl) v3⟩
def BP (r : Option Rw) (w : World) (e : Ending) (w' : World) : Prop := e = .returned (.tuple #[(r.getD .zero).val, .int .i64 (if r.isSome then 0 else 14)]) /\ Below w.heap.size w w'
set_option maxHeartbeats 2000000 in
theorem C8 (w : World) (T o : Nat) (most : Int) (l : aW) (F : Nat -> Nat -> Prop) (k : List UInt8) (h : cM w T most o l F) (hk : 1 <= k.length /\ k.length <= 16) :
  Calls Tryz.prog 73 #[.pointer (some ⟨T, 0, none⟩), .string ⟨k.toArray⟩] w (BP (aI k l) w) := by
 have hb0 := ag w (.cells #[.int .i64 0, .int .i64 0, .int .i64 0, .int .i64 0] 26)
 have k0 := heap_alloc_new w (.cells #[.int .i64 0, .int .i64 0, .int .i64 0, .int .i64 0] 26)
 have h0 := h.below hb0
 clear h
 go_enter Tryz.func73, Tryz.ntmps73
 go_upto_region 1 with fail
 generalize w.alloc (.cells #[.int .i64 0, .int .i64 0, .int .i64 0, .int .i64 0] 26) = w1 at hb0 k0 h0 ⊢
 obtain ⟨A, hA⟩ : ∃ x, w.heap.size = x := ⟨_, rfl⟩
 rw [hA] at k0 ⊢
 have HC := Lib.hid (And.intro (pD w1 T k) (look_ok w1 T o most l F k h0 hk))
 rw [uZ hk] at HC
 have H := Lib.hid (And.intro hb0 (And.intro k0 hA))
 clear h0 hk hb0 k0 hA
 go_wp2_with fail
 refine HC.out.1.mono ?_
 rintro e w2 ⟨rfl, rfl⟩
 go_wp2_with fail
 refine HC.out.2.mono ?_
 rintro e w2 ⟨v, rfl, hv, hb⟩
 have k2 := (Only.of_below hb (fun _ => False)).heap H.out.2.1 (fun h => h)
 obtain ⟨⟨-, -, -, -⟩, y0, y1, y2, y3⟩ := bG k2
 obtain ⟨⟨z0, z1, z2, z3⟩, -⟩ := bG k2
 have hb2 := H.out.1.trans (hb.mono H.out.1.size)
 have H2 := Lib.hid (And.intro hb2 k2)
 cases hq : aI k l with
 | none =>
  rw [hq] at hv
  obtain ⟨rfl, -⟩ := hv
  have HQ := Lib.hid hq
  clear hb hb2 k2 hq HC
  go_wp2_with fail
  have HO := Lib.hid (bb (v0 := .int .i64 0) (v1 := .int .i64 0) (v2 := .int .i64 0) (v3 := .int .i64 0) H2.out.2)
  generalize ((((w2.setCell ⟨A, 0, none⟩ (.int .i64 0)).setCell ⟨A, 1, none⟩ (.int .i64 0)).setCell ⟨A, 2, none⟩ (.int .i64 0)).setCell ⟨A, 3, none⟩ (.int .i64 0)) = w3 at HO ⊢
  refine bodyPost_ret (aA rfl _ _ _ _ _ _ _ rfl HO.out.1 Tryz.underlying26 rfl (by kernel_rfl)) rfl ⟨by rw [HQ.out]; rfl, ?_⟩
  exact H2.out.1.trans (HO.out.2.au H2.out.1.size (fun k hk h => by have := H.out.2.2; omega))
 | some r =>
  rw [hq] at hv
  obtain ⟨⟨b, rfl, DK⟩, dU⟩ := hv
  have hne : ¬ b = A := by have := dU b rfl; have := aJ H.out.2.1; omega
  obtain ⟨ra, rb, rc, rd⟩ := r
  obtain ⟨⟨x0, x1, x2, x3⟩, -⟩ := bG DK
  have HQ := Lib.hid hq
  clear hb hb2 k2 hq HC DK dU
  go_wp2_with fail
  have HO := Lib.hid (bb (v0 := .int .i64 ra) (v1 := .int .i64 rb) (v2 := .int .i64 rc) (v3 := .int .i64 rd) H2.out.2)
  generalize ((((w2.setCell ⟨A, 0, none⟩ (.int .i64 ra)).setCell ⟨A, 1, none⟩ (.int .i64 rb)).setCell ⟨A, 2, none⟩ (.int .i64 rc)).setCell ⟨A, 3, none⟩ (.int .i64 rd)) = w3 at HO ⊢
  refine bodyPost_ret (aA rfl _ _ _ _ _ _ _ rfl HO.out.1 Tryz.underlying26 rfl (by kernel_rfl)) rfl ⟨by rw [HQ.out]; rfl, ?_⟩
  exact H2.out.1.trans (HO.out.2.au H2.out.1.size (fun k hk h => by have := H.out.2.2; omega))
def ve (most : Int) (l : aW) (k : List UInt8) (r : Rw) : aW := if aI k l = none /\ most <= (l.length : Int) then l else bU (k, r) l
def sG (most : Int) (l : aW) (k : List UInt8) : Int := if aI k l = none /\ most <= (l.length : Int) then 16 else 0
theorem OnlyC.far {F : Nat -> Nat -> Prop} {S : Nat -> Prop} {w w' w'' : World} (h : OnlyC F w w') (ho : Only S w' w'') (hS : ∀ k, k < w.heap.size -> ¬ S k) : OnlyC F w w'' := by
 refine ⟨ho.os.trans h.os, ho.tape.trans h.tape, ho.output.trans h.output, Nat.le_trans h.size ho.size, fun k cs t fr hk => ?_, fun k hk hF => ?_⟩
 ·obtain ⟨cs', h1, h2, h3⟩ := h.shape k cs t fr hk
  exact ⟨cs', (ho.block k (Nat.lt_of_lt_of_le (lt_of_heap hk) h.size) (hS k (lt_of_heap hk))).trans h1, h2, h3⟩
 ·exact (ho.block k (Nat.lt_of_lt_of_le hk h.size) (hS k hk)).trans (h.block k hk hF)
theorem fK.one {w w4 w5 : World} {T o : Nat} {most : Int} {t : Nat -> Nat} {ls : Nat -> List Pr} {Fs : Nat -> Nat -> Nat -> Prop} {i : Nat} {l' : List Pr} (h : fK w T most o t ls Fs) (hi : i < 5) (hb : Below w.heap.size w w4)
  (ht : bD w5 (t i) o l' (fun b q => Fs i b q \/ w4.heap.size <= b)) (ho : OnlyC (Fs i) w4 w5) : ∃ Ip, fK w5 T most o t (gW ls i l') Ip /\ (∀ b q, nE Ip b q -> nE Fs b q \/ w.heap.size <= b) /\ OnlyC (nE Fs) w w5 := by
 refine ⟨gW Fs i (fun b q => (Fs i b q \/ w4.heap.size <= b) /\ b < w5.heap.size), (h.below hb).upd hi ht ho, fun b q hf => ?_, (OnlyC.of_below hb (nE Fs)).trans ho (fun b q _ hf => ⟨i, hi, hf⟩)⟩
 rcases BC hi hf with h | h
 ·exact .inl h
 ·exact .inr (Nat.le_trans hb.size h)
theorem lF.from_ {w w5 w9 : World} {T o : Nat} {most : Int} {t : Nat -> Nat} {ls : Nat -> List Pr} {xs : List Ch} {Fs Ip : Nat -> Nat -> Nat -> Prop} (hP : lF T o most t ls xs Ip w5 w9) (h1 : ∀ b q, nE Ip b q -> nE Fs b q \/ w.heap.size <= b) (ho : OnlyC (nE Fs) w w5) : lF T o most t ls xs Fs w w9 := by
 obtain ⟨vO, hW, hF, Im⟩ := hP
 refine ⟨vO, hW, fun b q hb => ?_, ho.trans Im (fun b q hb hf => ?_)⟩
 ·rcases hF b q hb with h | h
  ·exact h1 b q h
  ·exact .inr (Nat.le_trans ho.size h)
 ·rcases h1 b q hf with h | h
  ·exact h
  ·omega
theorem BQ {w w2 w9 jH : World} {T o A : Nat} {most : Int} {t : Nat -> Nat} {l' : aW} {xs : List Ch} {ls : Nat -> List Pr} {F : Nat -> Nat -> Prop} {Fs : Nat -> Nat -> Nat -> Prop} (hb : Below w.heap.size w w2) (hP : lF T o most t ls xs Fs w2 w9)
  (ho : Only (fun k => k = A) w9 jH) (hA : w.heap.size <= A) (WI : A < w2.heap.size) (VE : ∀ q, ¬ nE Fs A q) (O3 : T < w.heap.size) (Tz : ∀ b q, nE Fs b q -> F b q) (hT : ∀ q, F T q) (he : ∀ i, i < 5 -> xs.foldl je ls i = gL l' i)
  (h1 : lg l') (h2 : RowsFit l') (h3 : ∀ q ∈ l', 1 <= q.1.length /\ q.1.length <= 16) (h4 : 1 <= most /\ most <= 1024) (h5 : (l'.length : Int) <= most) : cM jH T most o l' (fun b q => F b q \/ w.heap.size <= b) /\ OnlyC F w jH := by
 obtain ⟨vO, hW, hF', Im⟩ := hP
 refine ⟨⟨t, vO, ((hW.congr he).eP ho (fun e => by omega) (fun b q hf e => ?_)), h1, h2, h3, h4, h5, fun b q hf => ?_, fun q => .inl (hT q)⟩, ?_⟩
 ·subst e
  rcases hF' b q hf with h | h
  ·exact VE q h
  ·omega
 ·rcases hF' b q hf with h | h
  ·exact .inl (Tz b q h)
  ·exact .inr (Nat.le_trans hb.size h)
 ·exact (((OnlyC.of_below hb F).trans (Im.mono (fun b q _ h => Tz b q h)) (fun _ _ _ h => h))).far ho (fun k hk e => by omega)
def qf (T o : Nat) (most : Int) (l : aW) (k : List UInt8) (r : Rw) (F : Nat -> Nat -> Prop) (w : World) (e : Ending) (w' : World) : Prop :=
 e = .returned (.tuple #[((if sG most l k = 0 then aI k l else none).getD .zero).val, .bool (aI k l).isSome, .int .i64 (sG most l k)]) /\ cM w' T most o (ve most l k r) (fun b q => F b q \/ w.heap.size <= b) /\ OnlyC F w w'
theorem yc {l : aW} {k : List UInt8} {r : Rw} (h : ∀ q ∈ l, 1 <= q.1.length /\ q.1.length <= 16) (hk : 1 <= k.length /\ k.length <= 16) : ∀ q ∈ bU (k, r) l, 1 <= q.1.length /\ q.1.length <= 16 := fun q hq => (mY hq).elim (fun e => by subst e; exact hk) (h q)
set_option maxHeartbeats 4000000 in
theorem C9 (w : World) (T o : Nat) (most : Int) (l : aW) (F : Nat -> Nat -> Prop) (k : List UInt8) (r : Rw) (h : cM w T most o l F) (hF : ∀ b q, F b q -> b < w.heap.size) (hk : 1 <= k.length /\ k.length <= 16) (hr : ∀ c, I6 (r.aG c)) :
  Calls Tryz.prog 35 #[.pointer (some ⟨T, 0, none⟩), .string ⟨k.toArray⟩, r.val] w (qf T o most l k r F w) := by
 have hmm := h.Nk
 have hll := h.len
 have hb0 := ag w (.cells #[.int .i64 r.a, .int .i64 r.b, .int .i64 r.c, .int .i64 r.d] 26)
 have k0 := heap_alloc_new w (.cells #[.int .i64 r.a, .int .i64 r.b, .int .i64 r.c, .int .i64 r.d] 26)
 have hb1 := ag (w.alloc (.cells #[.int .i64 r.a, .int .i64 r.b, .int .i64 r.c, .int .i64 r.d] 26)) (.cells #[.int .i64 0, .int .i64 0, .int .i64 0, .int .i64 0] 26)
 have k1 := heap_alloc_new (w.alloc (.cells #[.int .i64 r.a, .int .i64 r.b, .int .i64 r.c, .int .i64 r.d] 26)) (.cells #[.int .i64 0, .int .i64 0, .int .i64 0, .int .i64 0] 26)
 have hs1 : (w.alloc (.cells #[.int .i64 r.a, .int .i64 r.b, .int .i64 r.c, .int .i64 r.d] 26)).heap.size = w.heap.size + 1 := by simp
 have H0 := Lib.hid (show Below w.heap.size w ((w.alloc (.cells #[.int .i64 r.a, .int .i64 r.b, .int .i64 r.c, .int .i64 r.d] 26)).alloc (.cells #[.int .i64 0, .int .i64 0, .int .i64 0, .int .i64 0] 26)) /\
  ((w.alloc (.cells #[.int .i64 r.a, .int .i64 r.b, .int .i64 r.c, .int .i64 r.d] 26)).alloc (.cells #[.int .i64 0, .int .i64 0, .int .i64 0, .int .i64 0] 26)).heap[w.heap.size]? = some (.cells #[.int .i64 r.a, .int .i64 r.b, .int .i64 r.c, .int .i64 r.d] 26 (0, 0)) /\
  ((w.alloc (.cells #[.int .i64 r.a, .int .i64 r.b, .int .i64 r.c, .int .i64 r.d] 26)).alloc (.cells #[.int .i64 0, .int .i64 0, .int .i64 0, .int .i64 0] 26)).heap[w.heap.size + 1]? = some (.cells #[.int .i64 0, .int .i64 0, .int .i64 0, .int .i64 0] 26 (0, 0)) from
  ⟨hb0.trans (hb1.mono hb0.size), (Only.of_below hb1 (fun _ => False)).heap k0 (fun h => h), by rw [<- hs1]; exact k1⟩)
 obtain ⟨ra, rb, rc, rd⟩ := r
 unfold Rw.val
 simp only at H0
 clear hb0 k0 hb1 k1 hs1
 have HH := Lib.hid (And.intro h (And.intro hF (And.intro hk (And.intro hr (And.intro hmm hll)))))
 clear h hF hk hr hmm hll
 go_enter Tryz.func35, Tryz.ntmps35
 go_upto_region 1 with fail
 have H1 := H0.out
 clear H0
 generalize (w.alloc (.cells #[.int .i64 ra, .int .i64 rb, .int .i64 rc, .int .i64 rd] 26)).alloc (.cells #[.int .i64 0, .int .i64 0, .int .i64 0, .int .i64 0] 26) = w1 at H1 ⊢
 obtain ⟨hb1, kr, ka⟩ := H1
 obtain ⟨R, hR⟩ : ∃ x, w.heap.size = x := ⟨_, rfl⟩
 rw [hR] at kr ka ⊢
 obtain ⟨A, hA⟩ : ∃ x, R + 1 = x := ⟨_, rfl⟩
 rw [hA] at ka ⊢
 have h1 := HH.out.1.below hb1
 have HC := Lib.hid (And.intro (pD w1 T k) (look_ok w1 T o most l F k h1 HH.out.2.2.1))
 rw [uZ HH.out.2.2.1] at HC
 have H := Lib.hid (And.intro hb1 (And.intro kr (And.intro ka (And.intro hR (And.intro hA h1)))))
 clear hb1 kr ka hR hA h1
 go_wp2_with fail
 refine HC.out.1.mono ?_
 rintro e w2 ⟨rfl, rfl⟩
 go_wp2_with fail
 refine HC.out.2.mono ?_
 rintro e w2 ⟨v, rfl, hv, hb⟩
 have kr := (Only.of_below hb (fun _ => False)).heap H.out.2.1 (fun h => h)
 have ka := (Only.of_below hb (fun _ => False)).heap H.out.2.2.1 (fun h => h)
 have h2 := H.out.2.2.2.2.2.below hb
 have hb2 := H.out.1.trans (hb.mono H.out.1.size)
 have TA : ∀ b, v = .pointer (some ⟨b, 0, none⟩) -> A < b := fun b e => by have := hv.2 b e; have := aJ H.out.2.2.1; omega
 have H2 := Lib.hid (And.intro hb2 (And.intro kr (And.intro ka (And.intro h2 (And.intro hv.1 TA)))))
 clear kr ka h2 hb2 TA hb HC
 obtain ⟨t, Fs, hW, g2, g3, g4, g5, g6, g7, g8⟩ := H2.out.2.2.2.1
 have LR : ∀ q, ¬ nE Fs R q := fun q hq => by have := HH.out.2.1 R q (g7 R q hq); have := H.out.2.2.2.1; omega
 have TB : ∀ q, ¬ nE Fs A q := fun q hq => by have := HH.out.2.1 A q (g7 A q hq); have := H.out.2.2.2.1; have := H.out.2.2.2.2.1; omega
 have TC : ∀ b q, nE Fs b q -> b < w.heap.size := fun b q hq => HH.out.2.1 b q (g7 b q hq)
 have O3 : T < w.heap.size := HH.out.2.1 T 0 (g8 0)
 have c0 := hW.c0
 have HT := Lib.hid (And.intro hW (And.intro g2 (And.intro g3 (And.intro g4 (And.intro g5 (And.intro g6 (And.intro g7 (And.intro g8 (And.intro LR (And.intro TB (And.intro TC O3)))))))))))
 clear hW g2 g3 g4 g5 g6 g7 g8 LR TB TC O3
 cases hq : aI k l with
 | none =>
  rw [hq] at hv
  obtain ⟨rfl, -⟩ := hv
  obtain ⟨N, hN⟩ : ∃ N : Nat, l.length = N := ⟨_, rfl⟩
  have HL := Lib.hid (fun n => C7 (w2.drewN n) T o most l F (H2.out.2.2.2.1.eP ((Only.refl (fun _ => False) w2).drewN n) (fun _ _ _ h => h)))
  rw [hN] at HL
  by_cases hge : most <= (N : Int)
  ·have HQ := Lib.hid (show aI k l = none /\ most <= (l.length : Int) from ⟨hq, by rw [hN]; exact hge⟩)
   clear hq hN
   go_wp2_with fail
   go_quiet ((go_at_call 60; exact jX (HL.out _)))
   rename_i nq
   clear c0 hge
   go_upto_region 6 with fail
   obtain ⟨w3, hw3⟩ : ∃ w3, w2.drewN nq = w3 := ⟨_, rfl⟩
   have hb3 : Below w2.heap.size w2 w3 := by rw [<- hw3]; exact Only.au ((Only.refl (fun _ => False) w2).drewN nq) (Nat.le_refl _) (fun _ _ h => h)
   rw [hw3]
   have k3 := (Only.of_below hb3 (fun _ => False)).heap H2.out.2.2.1 (fun h => h)
   obtain ⟨⟨z0, z1, z2, z3⟩, y0, y1, y2, y3⟩ := bG k3
   have tU := Lib.hid (And.intro hb3 k3)
   clear hb3 k3 hw3
   go_wp2_with fail
   have HO := Lib.hid (bb (v0 := .int .i64 0) (v1 := .int .i64 0) (v2 := .int .i64 0) (v3 := .int .i64 0) tU.out.2)
   generalize (((w3.setCell ⟨A, 0, none⟩ (.int .i64 0)).setCell ⟨A, 1, none⟩ (.int .i64 0)).setCell ⟨A, 2, none⟩ (.int .i64 0)).setCell ⟨A, 3, none⟩ (.int .i64 0) = jH at HO ⊢
   refine bodyPost_ret (cj rfl _ _ _ _ _ _ _ rfl HO.out.1 Tryz.underlying26 rfl (by kernel_rfl)) rfl ?_
   have hE : sG most l k = 16 := by unfold sG; rw [if_pos HQ.out]
   have hR : ve most l k ⟨ra, rb, rc, rd⟩ = l := by unfold ve; rw [if_pos HQ.out]
   unfold qf
   rw [hE, hR, HQ.out.1]
   have jf : Below w.heap.size w jH := (H2.out.1.trans (tU.out.1.mono H2.out.1.size)).trans (Only.au (HO.out.2) (Nat.le_trans H2.out.1.size tU.out.1.size) (fun k hk h => by have := H.out.2.2.2.1; have := H.out.2.2.2.2.1; omega))
   exact ⟨rfl, (HH.out.1.below jf).mono (fun b q h => .inl h), OnlyC.of_below jf F⟩
  ·have HQ := Lib.hid (show aI k l = none /\ ¬ most <= (l.length : Int) from ⟨hq, by rw [hN]; exact hge⟩)
   clear hq hN
   go_wp2_with fail
   go_quiet ((go_at_call 60; exact jX (HL.out _)))
   rename_i nq
   simp only [show decide (most <= (N : Int)) = false from decide_eq_false (by omega)]
   clear c0 hge
   go_upto_region 7 with fail
   generalize hW0 : w2.drewN nq = W0
   have hb0 : Below w2.heap.size w2 W0 := by rw [<- hW0]; exact Only.au ((Only.refl (fun _ => False) w2).drewN nq) (Nat.le_refl _) (fun _ _ h => h)
   clear hW0
   have iW : Below w2.heap.size w2 W0.drew := hb0.drew
   have N5 : Only (fun b => ∃ q, Fs 0 b q) w2 W0.drew := Only.of_below iW _
   clear hb0
   refine wp_region_held_drew (S := (fun W => Only (fun b => ∃ q, Fs 0 b q) w2 W)) (by kernel_rfl) N5 (fun hHeld => ?_)
   generalize hW3 : W0.drew = W3 at hHeld iW ⊢
   clear hW3 N5
   refine aO [0, 2] ?_
   iterate 2 (refine cI (v := ?_) (fun wS hSw => ?_) hHeld ?_; rotate_left; (go_simp; try with_reducible rfl); try simp only [av, ax, ay, az])
   refine aP ?_
   refine fL 3 (v := ?_) (fun wS hSw => ?_) hHeld ?_
   rotate_left
   ·obtain ⟨⟨u0, u1, u2, u3⟩, -⟩ := bG (hSw.heap H2.out.2.1 (fun ⟨q, hq⟩ => HT.out.2.2.2.2.2.2.2.2.1 q ⟨0, by decide, hq⟩)); go_simp; try with_reducible rfl
   try simp only [av, ax, ay, az]
   refine bg 1 (fun K hK => ?_)
   go_simp
   refine (kv _ T (t 0) ((iW.cell (p := ⟨T, 1, none⟩) (by have := HT.out.1.lt; exact this)).trans (HT.out.1.ci (i := 0) (by decide)))).mono ?_
   rintro e wn ⟨rfl, rfl⟩
   try go_simp
   refine hK.out _ _ (hHeld) (fun ae => ?_)
   clear hK K hHeld 
   have hHeld := ae
   clear ae
   try simp only [av, ax, ay, az]
   refine bg 4 (fun K hK => ?_)
   go_simp
   refine (tG _ ⟨ra, rb, rc, rd⟩ HH.out.2.2.2.1).mono ?_
   rintro e wn ⟨A2, c2, rfl, hx, dU⟩
   have ye := iW.trans (dU.mono iW.size)
   have hcv := uR (P := Tryz.prog) 118 9 5 Tryz.underlying118 Tryz.underlying5 Tryz.underlying9 (Rd.bC (F := fun _ => True) hx (fun _ _ => trivial))
   rw [List.length_map] at hcv
   have iW := ye
   clear ye hx
   try go_simp
   refine hK.out _ _ (hHeld.trans (Only.of_below dU _) (fun _ _ h => h)) (fun ae => ?_)
   clear hK K hHeld dU
   have hHeld := ae
   clear ae
   try simp only [av, ax, ay, az]
   refine bg 5 (fun K hK => ?_)
   go_simp
   refine hK.out _ _ (hHeld) (fun ae => ?_)
   clear hK K hHeld hcv
   have hHeld := ae
   clear ae
   try simp only [av, ax, ay, az]
   refine bg 6 (fun K hK => ?_)
   go_simp
   refine (mO _ (t 0) o (gL l 0) (Fs 0) (k, eI ⟨ra, rb, rc, rd⟩) ((HT.out.1.tree 0 (by decide)).below iW) (fun b q hq => Nat.lt_of_lt_of_le (HT.out.1.Gp 0 (by decide) b q hq) iW.size) HH.out.2.2.1.1 (by have := HH.out.2.2.1; exact Nat.le_trans this.2 (by decide)) (Nat.le_trans (nC _) (by decide)) (by rw [iT HT.out.2.1 HT.out.2.2.1]; have := HT.out.2.2.2.2.2.1; have := HT.out.2.2.2.2.1; omega)).mono ?_
   rintro e wn ⟨rfl, ht, KJ⟩
   have Iq := Lib.hid (And.intro iW (And.intro ht KJ))
   have FJ := KJ.only
   clear iW ht KJ
   try go_simp
   refine hK.out _ _ (hHeld.trans FJ (fun _ _ h => h)) (fun ae => ?_)
   clear hK K hHeld FJ
   have hHeld := ae
   clear ae
   try simp only [av, ax, ay, az]
   refine wpAnyH_done (by kernel_rfl) ?_ _
   obtain ⟨Ip, hW1, N8, uQ⟩ := HT.out.1.one (by decide) Iq.out.1 Iq.out.2.1 Iq.out.2.2
   clear Iq hHeld iW
   have mn : ∀ b, w.heap.size <= b -> ∀ q, ¬ nE Fs b q := fun b hb q hq => by have := HT.out.2.2.2.2.2.2.2.2.2.2.1 b q hq; omega
   have N9 := uQ.heap H2.out.2.1 HT.out.2.2.2.2.2.2.2.2.1
   have QY := uQ.heap H2.out.2.2.1 HT.out.2.2.2.2.2.2.2.2.2.1
   have yg : ∀ i, i < 5 -> (gW (gL l) 0 (ins (k, eI ⟨ra, rb, rc, rd⟩) (gL l 0)) i).length <= 900000 := fun i hi => by
    have h1 := iT HT.out.2.1 HT.out.2.2.1 i
    have h0 := iT HT.out.2.1 HT.out.2.2.1 0
    have h2 := HT.out.2.2.2.2.2.1
    have h3 := HT.out.2.2.2.2.1
    unfold gW
    split
    ·have := gK (k, eI ⟨ra, rb, rc, rd⟩) (gL l 0); rw [<- lh] at this; omega
    ·omega
   have HU := Lib.hid (BM wn T o most t _ Ip k (.pointer none) (.pointer (some ⟨R, 0, none⟩)) none (some ⟨ra, rb, rc, rd⟩) hW1 HH.out.2.2.1 (show rD _ _ none from rfl) ⟨_, rfl, N9⟩ (fun h => by cases h.2) (fun r hr => by cases hr) (fun r hr => by injection hr with hr; subst hr; exact HH.out.2.2.2.1) yg)
   have H5 := Lib.hid (And.intro N8 (And.intro uQ mn))
   clear hW1 N8 uQ N9 QY yg mn
   go_wp2_with fail
   refine HU.out.mono ?_
   rintro e w9 ⟨rfl, hP⟩
   have KL := hP.from_ H5.out.1 H5.out.2.1
   obtain ⟨_, _, _, LS⟩ := id KL
   have KM := LS.heap H2.out.2.2.1 HT.out.2.2.2.2.2.2.2.2.2.1
   obtain ⟨⟨z0, z1, z2, z3⟩, y0, y1, y2, y3⟩ := bG KM
   have H9 := Lib.hid (And.intro KL KM)
   clear hP KL LS KM HU
   go_wp2_with fail
   have HO := Lib.hid (bb (v0 := .int .i64 0) (v1 := .int .i64 0) (v2 := .int .i64 0) (v3 := .int .i64 0) H9.out.2)
   generalize (((w9.setCell ⟨A, 0, none⟩ (.int .i64 0)).setCell ⟨A, 1, none⟩ (.int .i64 0)).setCell ⟨A, 2, none⟩ (.int .i64 0)).setCell ⟨A, 3, none⟩ (.int .i64 0) = jH at HO ⊢
   refine bodyPost_ret (cj rfl _ _ _ _ _ _ _ rfl HO.out.1 Tryz.underlying26 rfl (by kernel_rfl)) rfl ?_
   have hE : sG most l k = 0 := by unfold sG; rw [if_neg (fun h => by have h1 := HQ.out.2; have h2 := h.2; omega)]
   have hR : ve most l k ⟨ra, rb, rc, rd⟩ = bU (k, ⟨ra, rb, rc, rd⟩) l := by unfold ve; rw [if_neg (fun h => by have h1 := HQ.out.2; have h2 := h.2; omega)]
   unfold qf
   rw [hE, hR, HQ.out.1]
   have CM : ((bU (k, (⟨ra, rb, rc, rd⟩ : Rw)) l).length : Int) <= most := by
    have h1 := mZ (p := (k, (⟨ra, rb, rc, rd⟩ : Rw))) HT.out.2.1
    simp only [HQ.out.1, Option.isSome_none, Bool.false_eq_true, if_false] at h1
    have h2 := HT.out.2.2.2.2.2.1
    have h3 := HQ.out.2
    rw [h1]
    omega
   have he : ∀ i, i < 5 -> (E5 k none (some ⟨ra, rb, rc, rd⟩)).foldl je (gW (gL l) 0 (ins (k, eI ⟨ra, rb, rc, rd⟩) (gL l 0))) i = gL (bU (k, ⟨ra, rb, rc, rd⟩) l) i := fun i hi => by
    have := xL (k := k) (r := ⟨ra, rb, rc, rd⟩) HT.out.2.1 HT.out.2.2.1 HH.out.2.2.2.1 i hi
    rw [HQ.out.1] at this
    exact this
   refine ⟨rfl, BQ H2.out.1 H9.out.1 HO.out.2 (by have := H.out.2.2.2.1; have := H.out.2.2.2.2.1; omega) (aJ H2.out.2.2.1) HT.out.2.2.2.2.2.2.2.2.2.1 HT.out.2.2.2.2.2.2.2.2.2.2.2 HT.out.2.2.2.2.2.2.1 HT.out.2.2.2.2.2.2.2.1 he (iu HT.out.2.1) (HT.out.2.2.1.ins HH.out.2.2.2.1) (yc HT.out.2.2.2.1 HH.out.2.2.1) HT.out.2.2.2.2.1 CM⟩
 | some old =>
  obtain ⟨oa, ob, oc, od⟩ := old
  have HQ := Lib.hid hq
  rw [hq] at hv
  obtain ⟨⟨B, rfl, DK⟩, -⟩ := hv
  have hB : w2.heap[B]? = some (.cells #[.int .i64 oa, .int .i64 ob, .int .i64 oc, .int .i64 od] 26 (0, 0)) /\ A < B := ⟨DK, H2.out.2.2.2.2.2 B rfl⟩
  clear hq DK
  go_wp2_with fail
  go_quiet (fail)
  rename_i nq
  clear c0
  go_upto_region 7 with fail
  generalize hW0 : w2.drewN nq = W0
  have hb0 : Below w2.heap.size w2 W0 := by rw [<- hW0]; exact Only.au ((Only.refl (fun _ => False) w2).drewN nq) (Nat.le_refl _) (fun _ _ h => h)
  clear hW0
  have iW : Below w2.heap.size w2 W0.drew := hb0.drew
  have N5 : Only (fun b => ∃ q, Fs 0 b q) w2 W0.drew := Only.of_below iW _
  clear hb0
  refine wp_region_held_drew (S := (fun W => Only (fun b => ∃ q, Fs 0 b q) w2 W)) (by kernel_rfl) N5 (fun hHeld => ?_)
  generalize hW3 : W0.drew = W3 at hHeld iW ⊢
  clear hW3 N5
  refine aO [0, 2] ?_
  iterate 2 (refine cI (v := ?_) (fun wS hSw => ?_) hHeld ?_; rotate_left; (go_simp; try with_reducible rfl); try simp only [av, ax, ay, az])
  refine aP ?_
  refine fL 3 (v := ?_) (fun wS hSw => ?_) hHeld ?_
  rotate_left
  ·obtain ⟨⟨u0, u1, u2, u3⟩, -⟩ := bG (hSw.heap H2.out.2.1 (fun ⟨q, hq⟩ => HT.out.2.2.2.2.2.2.2.2.1 q ⟨0, by decide, hq⟩)); go_simp; try with_reducible rfl
  try simp only [av, ax, ay, az]
  refine bg 1 (fun K hK => ?_)
  go_simp
  refine (kv _ T (t 0) ((iW.cell (p := ⟨T, 1, none⟩) (by have := HT.out.1.lt; exact this)).trans (HT.out.1.ci (i := 0) (by decide)))).mono ?_
  rintro e wn ⟨rfl, rfl⟩
  try go_simp
  refine hK.out _ _ (hHeld) (fun ae => ?_)
  clear hK K hHeld 
  have hHeld := ae
  clear ae
  try simp only [av, ax, ay, az]
  refine bg 4 (fun K hK => ?_)
  go_simp
  refine (tG _ ⟨ra, rb, rc, rd⟩ HH.out.2.2.2.1).mono ?_
  rintro e wn ⟨A2, c2, rfl, hx, dU⟩
  have ye := iW.trans (dU.mono iW.size)
  have hcv := uR (P := Tryz.prog) 118 9 5 Tryz.underlying118 Tryz.underlying5 Tryz.underlying9 (Rd.bC (F := fun _ => True) hx (fun _ _ => trivial))
  rw [List.length_map] at hcv
  have iW := ye
  clear ye hx
  try go_simp
  refine hK.out _ _ (hHeld.trans (Only.of_below dU _) (fun _ _ h => h)) (fun ae => ?_)
  clear hK K hHeld dU
  have hHeld := ae
  clear ae
  try simp only [av, ax, ay, az]
  refine bg 5 (fun K hK => ?_)
  go_simp
  refine hK.out _ _ (hHeld) (fun ae => ?_)
  clear hK K hHeld hcv
  have hHeld := ae
  clear ae
  try simp only [av, ax, ay, az]
  refine bg 6 (fun K hK => ?_)
  go_simp
  refine (mO _ (t 0) o (gL l 0) (Fs 0) (k, eI ⟨ra, rb, rc, rd⟩) ((HT.out.1.tree 0 (by decide)).below iW) (fun b q hq => Nat.lt_of_lt_of_le (HT.out.1.Gp 0 (by decide) b q hq) iW.size) HH.out.2.2.1.1 (by have := HH.out.2.2.1; exact Nat.le_trans this.2 (by decide)) (Nat.le_trans (nC _) (by decide)) (by rw [iT HT.out.2.1 HT.out.2.2.1]; have := HT.out.2.2.2.2.2.1; have := HT.out.2.2.2.2.1; omega)).mono ?_
  rintro e wn ⟨rfl, ht, KJ⟩
  have Iq := Lib.hid (And.intro iW (And.intro ht KJ))
  have FJ := KJ.only
  clear iW ht KJ
  try go_simp
  refine hK.out _ _ (hHeld.trans FJ (fun _ _ h => h)) (fun ae => ?_)
  clear hK K hHeld FJ
  have hHeld := ae
  clear ae
  try simp only [av, ax, ay, az]
  refine wpAnyH_done (by kernel_rfl) ?_ _
  obtain ⟨Ip, hW1, N8, uQ⟩ := HT.out.1.one (by decide) Iq.out.1 Iq.out.2.1 Iq.out.2.2
  clear Iq hHeld iW
  have mn : ∀ b, w.heap.size <= b -> ∀ q, ¬ nE Fs b q := fun b hb q hq => by have := HT.out.2.2.2.2.2.2.2.2.2.2.1 b q hq; omega
  have N9 := uQ.heap H2.out.2.1 HT.out.2.2.2.2.2.2.2.2.1
  have QY := uQ.heap H2.out.2.2.1 HT.out.2.2.2.2.2.2.2.2.2.1
  have yg : ∀ i, i < 5 -> (gW (gL l) 0 (ins (k, eI ⟨ra, rb, rc, rd⟩) (gL l 0)) i).length <= 900000 := fun i hi => by
   have h1 := iT HT.out.2.1 HT.out.2.2.1 i
   have h0 := iT HT.out.2.1 HT.out.2.2.1 0
   have h2 := HT.out.2.2.2.2.2.1
   have h3 := HT.out.2.2.2.2.1
   unfold gW
   split
   ·have := gK (k, eI ⟨ra, rb, rc, rd⟩) (gL l 0); rw [<- lh] at this; omega
   ·omega
  have TD := uQ.heap hB.1 (mn _ (by have := hB.2; have := H.out.2.2.2.1; have := H.out.2.2.2.2.1; omega))
  have HU := Lib.hid (BM wn T o most t _ Ip k (.pointer (some ⟨B, 0, none⟩)) (.pointer (some ⟨R, 0, none⟩)) (some ⟨oa, ob, oc, od⟩) (some ⟨ra, rb, rc, rd⟩) hW1 HH.out.2.2.1 (show rD _ _ (some ⟨oa, ob, oc, od⟩) from ⟨_, rfl, TD⟩) ⟨_, rfl, N9⟩ (fun h => by cases h.2) (fun r hr => by injection hr with hr; subst hr; exact HT.out.2.2.1 _ ((dv HT.out.2.1).1 HQ.out)) (fun r hr => by injection hr with hr; subst hr; exact HH.out.2.2.2.1) yg)
  have H5 := Lib.hid (And.intro N8 (And.intro uQ mn))
  clear hW1 N8 uQ N9 QY yg mn TD
  go_wp2_with fail
  refine HU.out.mono ?_
  rintro e w9 ⟨rfl, hP⟩
  have KL := hP.from_ H5.out.1 H5.out.2.1
  obtain ⟨_, _, _, LS⟩ := id KL
  have KM := LS.heap H2.out.2.2.1 HT.out.2.2.2.2.2.2.2.2.2.1
  obtain ⟨⟨z0, z1, z2, z3⟩, y0, y1, y2, y3⟩ := bG KM
  have TE := LS.heap hB.1 (H5.out.2.2 _ (by have := hB.2; have := H.out.2.2.2.1; have := H.out.2.2.2.2.1; omega))
  obtain ⟨⟨x0, x1, x2, x3⟩, -⟩ := bG TE
  have WJ : ¬ B = A := by have := hB.2; omega
  have H9 := Lib.hid (And.intro KL KM)
  clear hP KL LS KM HU TE
  go_wp2_with fail
  have HO := Lib.hid (bb (v0 := .int .i64 oa) (v1 := .int .i64 ob) (v2 := .int .i64 oc) (v3 := .int .i64 od) H9.out.2)
  generalize (((w9.setCell ⟨A, 0, none⟩ (.int .i64 oa)).setCell ⟨A, 1, none⟩ (.int .i64 ob)).setCell ⟨A, 2, none⟩ (.int .i64 oc)).setCell ⟨A, 3, none⟩ (.int .i64 od) = jH at HO ⊢
  refine bodyPost_ret (cj rfl _ _ _ _ _ _ _ rfl HO.out.1 Tryz.underlying26 rfl (by kernel_rfl)) rfl ?_
  have hE : sG most l k = 0 := by unfold sG; rw [if_neg (fun h => by rw [HQ.out] at h; cases h.1)]
  have hR : ve most l k ⟨ra, rb, rc, rd⟩ = bU (k, ⟨ra, rb, rc, rd⟩) l := by unfold ve; rw [if_neg (fun h => by rw [HQ.out] at h; cases h.1)]
  unfold qf
  rw [hE, hR, HQ.out]
  have CM : ((bU (k, (⟨ra, rb, rc, rd⟩ : Rw)) l).length : Int) <= most := by
   have h1 := mZ (p := (k, (⟨ra, rb, rc, rd⟩ : Rw))) HT.out.2.1
   simp only [HQ.out, Option.isSome_some, if_true] at h1
   have h2 := HT.out.2.2.2.2.2.1
   rw [h1]
   omega
  have he : ∀ i, i < 5 -> (E5 k (some ⟨oa, ob, oc, od⟩) (some ⟨ra, rb, rc, rd⟩)).foldl je (gW (gL l) 0 (ins (k, eI ⟨ra, rb, rc, rd⟩) (gL l 0))) i = gL (bU (k, ⟨ra, rb, rc, rd⟩) l) i := fun i hi => by
   have := xL (k := k) (r := ⟨ra, rb, rc, rd⟩) HT.out.2.1 HT.out.2.2.1 HH.out.2.2.2.1 i hi
   rw [HQ.out] at this
   exact this
  refine ⟨rfl, BQ H2.out.1 H9.out.1 HO.out.2 (by have := H.out.2.2.2.1; have := H.out.2.2.2.2.1; omega) (aJ H2.out.2.2.1) HT.out.2.2.2.2.2.2.2.2.2.1 HT.out.2.2.2.2.2.2.2.2.2.2.2 HT.out.2.2.2.2.2.2.1 HT.out.2.2.2.2.2.2.2.1 he (iu HT.out.2.1) (HT.out.2.2.1.ins HH.out.2.2.2.1) (yc HT.out.2.2.2.1 HH.out.2.2.1) HT.out.2.2.2.2.1 CM⟩
end Go.Proofs.YtagemonojdgbdaaGreatDoor
