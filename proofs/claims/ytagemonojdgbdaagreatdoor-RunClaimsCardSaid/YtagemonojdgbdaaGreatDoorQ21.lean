import Derived.Test.YtagemonojdgbdaaGreatDoorQ10
import Derived.Test.YtagemonojdgbdaaGreatDoorQ19
namespace Go.Proofs.YtagemonojdgbdaaGreatDoor
set_option maxRecDepth 100000
open Go.RowKit
def gM (r : Rw) : Nat -> List UInt8
 | 0 => []
 | c + 1 => gM r c ++ mj (mB (r.aG c))
theorem qW (r : Rw) : gM r 4 = eI r := by simp [gM, eI, Rw.aG]
theorem qX (r : Rw) : ∀ k, (gM r k).length <= 10 * k
 | 0 => by simp [gM]
 | k + 1 => by
  have h1 := qX r k
  have h2 := fX (mB (r.aG k))
  simp only [gM, List.length_append]
  omega
theorem CJ (r : Rw) {k : Nat} (hk : k < 4) : ∃ rest, eI r = gM r k ++ (mj (mB (r.aG k)) ++ rest) /\ eI r = gM r (k + 1) ++ rest := by
 rw [<- qW]
 match k, hk with
 | 0, _ => exact ⟨mj (mB (r.aG 1)) ++ mj (mB (r.aG 2)) ++ mj (mB (r.aG 3)), by simp [gM], by simp [gM]⟩
 | 1, _ => exact ⟨mj (mB (r.aG 2)) ++ mj (mB (r.aG 3)), by simp [gM], by simp [gM]⟩
 | 2, _ => exact ⟨mj (mB (r.aG 3)), by simp [gM], by simp [gM]⟩
 | 3, _ => exact ⟨[], by simp [gM], by simp [gM]⟩
theorem Hs {n : Int} (h : I6 n) (rest : List UInt8) : Gn (mj (mB n) ++ rest) = some (n, rest) := by
 have h1 := E3 h.1 (by have := h.2; omega)
 have := GG 9 0 0 (mB n) rest rfl (by simpa using h1) (.inl rfl)
 unfold Gn mj
 rw [this]
 simp [Hn]
theorem aF {w : World} {R : Nat} {r : Rw} {t : TypeId} (h : w.heap[R]? = some (.cells #[.int .i64 r.a, .int .i64 r.b, .int .i64 r.c, .int .i64 r.d] t (0, 0))) {k : Nat} (hk : k < 4) : w.cell? ⟨R, k, none⟩ = some (.int .i64 (r.aG k)) := by
 match k, hk with
 | 0, _ | 1, _ | 2, _ | 3, _ => simp [World.cell?, h, Rw.aG]
theorem E8 {w : World} {R : Nat} {cs : Array Value} {t : TypeId} (h : w.heap[R]? = some (.cells cs t (0, 0))) (k : Nat) : w.frozen? ⟨R, k, none⟩ = false := by simp [World.frozen?, h]
set_option maxHeartbeats 2000000 in
theorem tG (w : World) (r : Rw) (hr : ∀ c, I6 (r.aG c)) : Calls Tryz.prog 63 #[r.val] w (Ez 5 ((eI r).map B8) w) := by
 obtain ⟨ra, rb, rc, rd⟩ := r
 unfold Rw.val
 have hb0 := ag w (.cells #[.int .i64 ra, .int .i64 rb, .int .i64 rc, .int .i64 rd] 26)
 have k0 := heap_alloc_new w (.cells #[.int .i64 ra, .int .i64 rb, .int .i64 rc, .int .i64 rd] 26)
 have HR := Lib.hid hr
 go_enter Tryz.func63, Tryz.ntmps63
 go_upto_region 1 with fail
 generalize w.alloc (.cells #[.int .i64 ra, .int .i64 rb, .int .i64 rc, .int .i64 rd] 26) = w1 at hb0 k0 ⊢
 obtain ⟨R, hR⟩ : ∃ x, w.heap.size = x := ⟨_, rfl⟩
 rw [hR] at k0 ⊢
 have hb1 := ag w1 (.cells #[.slice none 0 0] 188)
 have k1 := heap_alloc_new w1 (.cells #[.slice none 0 0] 188)
 have Kv := (Only.of_below hb1 (fun _ => False)).heap k0 (fun h => h)
 go_upto_region 2 with fail
 generalize w1.alloc (.cells #[.slice none 0 0] 188) = w2 at hb1 k1 Kv ⊢
 obtain ⟨W, hW⟩ : ∃ x, w1.heap.size = x := ⟨_, rfl⟩
 rw [hW] at k1 ⊢
 have Nl : R < W := by have := aJ k0; omega
 have H := Lib.hid (show Below w.heap.size w w2 /\ sw w2 (fun k => W <= k) W [] /\ w2.heap[R]? = some (.cells #[.int .i64 ra, .int .i64 rb, .int .i64 rc, .int .i64 rd] 26 (0, 0)) /\ R < W /\ w.heap.size <= R from
  ⟨hb0.trans (hb1.mono hb0.size), ⟨_, k1, Nat.le_refl _, World.ownsRow_nil _ _ _ _, fun g hg => by simp [Value.ownBlock] at hg⟩, Kv, Nl, by omega⟩)
 clear hb0 k0 hR hb1 k1 Kv hW hr Nl
 go_wp2_with fail
 go_loopw [7] (fun i wr => ∃ k : Nat, k <= 4 /\ i = .int .i64 (k : Int) /\ sw wr (fun k => W <= k) W (gM ⟨ra, rb, rc, rd⟩ k) /\ Only (fun k => W <= k) w2 wr) (fun i _ => 4 - (intOf i).toNat)
 case atStart => exact ⟨0, by decide, rfl, H.out.2.1, Only.refl _ _⟩
 case round =>
  obtain ⟨k, hk, rfl, hwr, yG⟩ := hrel
  by_cases hlt : k < 4
  ·have q1 := yG.heap H.out.2.2.1 (fun h => by have := H.out.2.2.2.1; omega)
   have z0 := aF (r := ⟨ra, rb, rc, rd⟩) q1 hlt
   have i1 : (0 : Int) <= (k : Int) := by omega
   have i2 : (k : Int) < 4 := by omega
   obtain ⟨v, hv⟩ : ∃ v, Rw.aG ⟨ra, rb, rc, rd⟩ k = v := ⟨_, rfl⟩
   have Pb := HR.out k
   rw [hv] at z0 Pb
   have hl := qX ⟨ra, rb, rc, rd⟩ k
   have HC := Lib.hid (Ks wr _ W _ hwr v Pb.1 (by have := Pb.2; omega) (by omega))
   have HW := Lib.hid (And.intro hv yG)
   clear hwr yG q1 hv Pb hl
   go_wp2_with fail
   refine HC.out.mono ?_
   rintro e w3 ⟨rfl, ho, F', hw, hF'⟩
   have HN := Lib.hid (show sw w3 (fun k => W <= k) W (gM ⟨ra, rb, rc, rd⟩ (k + 1)) /\ Only (fun k => W <= k) w2 w3 from by
    have hs := HW.out.2.size
    have Wt := aJ H.out.2.1.choose_spec.1
    refine ⟨?_, HW.out.2.trans ho (fun _ _ h => h)⟩
    rw [show gM ⟨ra, rb, rc, rd⟩ (k + 1) = gM ⟨ra, rb, rc, rd⟩ k ++ mj (mB v) by rw [gM, HW.out.1]]
    obtain ⟨v', g1, g2, g3, g4⟩ := hw
    exact ⟨v', g1, Nat.le_refl _, g3, fun g hg => by rcases hF' g (g4 g hg) with h | h <;> omega⟩)
   clear ho hw hF' z0
   go_wp2_with fail
   go_roundw
   case rel => exact ⟨k + 1, by omega, by go_num, HN.out.1, HN.out.2⟩
   case measure => simp [intOf]; omega
  ·obtain rfl : k = 4 := by omega
   have HC := Lib.hid (And.intro (CH wr _ W _ hwr (by have := qX ⟨ra, rb, rc, rd⟩ 4; omega)) yG)
   clear hwr yG
   go_wp2_with fail
   refine HC.out.1.mono ?_
   rintro e w3 ⟨A, c, rfl, hx, hb⟩
   have HX := Lib.hid (And.intro hx hb)
   clear hx hb
   go_wp2_with fail
   go_ret
   have hb2 : Below w.heap.size w wr := H.out.1.trans (HC.out.2.au H.out.1.size (fun k hk h => by have := H.out.2.2.2; omega))
   rw [qW] at HX ⊢
   refine ⟨A, c, by simp, dO HX.out.1 (fun g hg => by have := (HX.out.1.lt g hg).1; have := hb2.size; omega), hb2.trans (HX.out.2.mono hb2.size)⟩
def jZ (r : Rw) (k : Nat) : Rw := ⟨if 0 < k then r.a else 0, if 1 < k then r.b else 0, if 2 < k then r.c else 0, if 3 < k then r.d else 0⟩
theorem E9 (r : Rw) {k : Nat} (hk : k < 4) : (#[.int .i64 (jZ r k).a, .int .i64 (jZ r k).b, .int .i64 (jZ r k).c, .int .i64 (jZ r k).d] : Array Value).setIfInBounds k (.int .i64 (r.aG k)) = #[.int .i64 (jZ r (k + 1)).a, .int .i64 (jZ r (k + 1)).b, .int .i64 (jZ r (k + 1)).c, .int .i64 (jZ r (k + 1)).d] := by
 match k, hk with
 | 0, _ | 1, _ | 2, _ | 3, _ => simp [jZ, Rw.aG]
set_option maxHeartbeats 2000000 in
theorem CK (w : World) (v : Value) (r : Rw) (F : Nat -> Prop) (hr : ∀ c, I6 (r.aG c)) (hv : Rd w F v ((eI r).map B8)) :
  Calls Tryz.prog 90 #[v] w fun e w' => e = .returned (.tuple #[r.val, .int .i64 0]) /\ Below w.heap.size w w' := by
 have hb0 := ag w (.cells #[.int .i64 0, .int .i64 0, .int .i64 0, .int .i64 0] 26)
 have k0 := heap_alloc_new w (.cells #[.int .i64 0, .int .i64 0, .int .i64 0, .int .i64 0] 26)
 have HR := Lib.hid hr
 have hv1 := hv.below hb0
 obtain ⟨A, n, c, rfl, _⟩ := id hv
 clear hr hv
 go_enter Tryz.func90, Tryz.ntmps90
 go_upto_region 1 with fail
 generalize w.alloc (.cells #[.int .i64 0, .int .i64 0, .int .i64 0, .int .i64 0] 26) = w1 at hb0 k0 hv1 ⊢
 obtain ⟨R, hR⟩ : ∃ x, w.heap.size = x := ⟨_, rfl⟩
 rw [hR] at k0 ⊢
 have HC := Lib.hid (Hm w1 F _ (eI r) hv1 (by have := nC r; omega))
 have H1 := Lib.hid (And.intro hb0 (And.intro k0 hR))
 clear hb0 k0 hR hv1
 go_wp2_with fail
 refine HC.out.mono ?_
 rintro e w2 ⟨b, rfl, hb2, kP⟩
 have hb3 := ag w2 (.cells #[.int .i64 0, .int .i64 0, .int .i64 0, .int .i64 0] 26)
 have k3 := heap_alloc_new w2 (.cells #[.int .i64 0, .int .i64 0, .int .i64 0, .int .i64 0] 26)
 have H2 := Lib.hid (show Below w.heap.size w (w2.alloc (.cells #[.int .i64 0, .int .i64 0, .int .i64 0, .int .i64 0] 26)) /\ cz (w2.alloc (.cells #[.int .i64 0, .int .i64 0, .int .i64 0, .int .i64 0] 26)) (fun k => R < k /\ k < w2.heap.size) b (eI r) 0 /\
   (w2.alloc (.cells #[.int .i64 0, .int .i64 0, .int .i64 0, .int .i64 0] 26)).heap[R]? = some (.cells #[.int .i64 0, .int .i64 0, .int .i64 0, .int .i64 0] 26 (0, 0)) /\ R < w2.heap.size /\ w.heap.size <= R from by
  have OX := aJ H1.out.2.1
  obtain ⟨v', g1, g2, g3, g4, g5⟩ := kP.bound
  exact ⟨(H1.out.1.trans (hb2.mono H1.out.1.size)).trans (hb3.mono (Nat.le_trans H1.out.1.size hb2.size)), (show cz w2 (fun k => R < k /\ k < w2.heap.size) b (eI r) 0 from ⟨v', g1, ⟨by omega, g2.2⟩, g3, g4, fun g hg => ⟨⟨by have := (g5 g hg).1.1; omega, (g5 g hg).1.2⟩, (g5 g hg).2⟩⟩).below hb3,
   (Only.of_below (hb2.trans (hb3.mono hb2.size)) (fun _ => False)).heap H1.out.2.1 (fun h => h), by have := hb2.size; omega, by have := H1.out.2.2; omega⟩)
 clear hb2 kP hb3 HC
 go_upto_region 4 with fail
 generalize w2.alloc (.cells #[.int .i64 0, .int .i64 0, .int .i64 0, .int .i64 0] 26) = w3 at H2 k3 ⊢
 obtain ⟨B, hB⟩ : ∃ x, w2.heap.size = x := ⟨_, rfl⟩
 rw [hB] at H2 k3 ⊢
 have H3 := Lib.hid k3
 clear hB k3 H1
 go_wp2_with fail
 go_loopw [14] (fun i wr => ∃ k : Nat, k <= 4 /\ i = .int .i64 (k : Int) /\ cz wr (fun k => R < k /\ k < B) b (eI r) (gM r k).length /\ Only (fun k => R < k) w3 wr /\
   wr.heap[B]? = some (.cells #[.int .i64 (jZ r k).a, .int .i64 (jZ r k).b, .int .i64 (jZ r k).c, .int .i64 (jZ r k).d] 26 (0, 0))) (fun i _ => 4 - (intOf i).toNat)
 case atStart => exact ⟨0, by decide, rfl, H2.out.2.1, Only.refl _ _, H3.out⟩
 case round =>
  obtain ⟨k, hk, rfl, kP, yG, ov⟩ := hrel
  have Qw : b < B := by obtain ⟨v', g1, g2, _⟩ := kP; exact g2.2
  have U0 : R < b := by obtain ⟨v', g1, g2, _⟩ := kP; exact g2.1
  by_cases hlt : k < 4
  ·have HC := Lib.hid (Kt wr _ b _ _ kP)
   have HW := Lib.hid (And.intro yG ov)
   have i1 : (0 : Int) <= (k : Int) := by omega
   have i2 : (k : Int) < 4 := by omega
   obtain ⟨v, hv⟩ : ∃ v, r.aG k = v := ⟨_, rfl⟩
   have HV := Lib.hid hv
   clear kP yG ov hv
   go_wp2_with fail
   refine HC.out.mono ?_
   rintro e w4 ⟨ho, hm⟩
   obtain ⟨rest, e1, e2⟩ := CJ r hlt
   have hd : (eI r).drop (gM r k).length = mj (mB (r.aG k)) ++ rest := by rw [e1, List.drop_left]
   rw [hd, Hs (HR.out k), HV.out] at hm
   obtain ⟨rfl, p', hp1, hp2, hr4⟩ := hm
   have hp : p' = (gM r (k + 1)).length := by
    have hpl : p' <= (eI r).length := by obtain ⟨_, _, _, h, _⟩ := hr4; exact h
    have h1 := congrArg List.length hp1
    have h2 := congrArg List.length e2
    rw [List.length_drop] at h1
    rw [List.length_append] at h2
    omega
   subst hp
   have k4 := ho.heap HW.out.2 (fun e => by omega)
   have z0 := aF (r := jZ r k) k4 hlt
   have z1 := E8 k4 k
   have H4 := Lib.hid (show cz (w4.setCell ⟨B, k, none⟩ (.int .i64 v)) (fun k => R < k /\ k < B) b (eI r) (gM r (k + 1)).length /\ Only (fun k => R < k) w3 (w4.setCell ⟨B, k, none⟩ (.int .i64 v)) /\
     (w4.setCell ⟨B, k, none⟩ (.int .i64 v)).heap[B]? = some (.cells #[.int .i64 (jZ r (k + 1)).a, .int .i64 (jZ r (k + 1)).b, .int .i64 (jZ r (k + 1)).c, .int .i64 (jZ r (k + 1)).d] 26 (0, 0)) from by
    refine ⟨hr4.only (dF w4 B k _) (fun j hj e => by omega), (HW.out.1.trans (ho.mono (fun j _ hj => by subst hj; exact U0)) (fun _ _ h => h)).trans (dF w4 B k _) (fun j _ hj => by omega), ?_⟩
    rw [heap_setCell_same w4 B k _ _ (.int .i64 v) k4, <- HV.out, E9 r hlt])
   clear ho hd e1 e2 hp1 hp2 hr4 k4 HC HW HV
   go_wp2_with fail
   go_roundw
   case rel => exact ⟨k + 1, by omega, by go_num, H4.out⟩
   case measure => simp [intOf]; omega
  ·obtain rfl : k = 4 := by omega
   have HC := Lib.hid (Hk wr _ b _ _ kP)
   have HW := Lib.hid (And.intro yG ov)
   have hl0 : (eI r).length - (gM r 4).length = 0 := by rw [qW]; omega
   rw [hl0] at HC
   clear kP yG ov hl0
   go_wp2_with fail
   refine HC.out.mono ?_
   rintro e w4 ⟨rfl, ho⟩
   have k4 := ho.heap HW.out.2 (fun h => h)
   have kR := ho.heap (HW.out.1.heap H2.out.2.2.1 (fun e => by omega)) (fun h => h)
   simp only [jZ, show (0 : Nat) < 4 by decide, show (1 : Nat) < 4 by decide, show (2 : Nat) < 4 by decide, show (3 : Nat) < 4 by decide, if_true] at k4
   obtain ⟨⟨x0, x1, x2, x3⟩, -⟩ := bG k4
   obtain ⟨⟨z0, z1, z2, z3⟩, y0, y1, y2, y3⟩ := bG kR
   obtain ⟨ra, rb, rc, rd⟩ := r
   have hne : ¬ B = R := by omega
   have H6 := Lib.hid (And.intro kR (show Only (fun k => R < k) w3 w4 from HW.out.1.trans ho (fun _ _ h => h.elim)))
   clear k4 kR ho HC HW
   go_wp2_with fail
   have p8 := pj (v0 := .int .i64 ra) (v1 := .int .i64 rb) (v2 := .int .i64 rc) (v3 := .int .i64 rd) H6.out.1
   have ho := (((dF w4 R 0 (.int .i64 ra)).setCell (p := ⟨R, 1, none⟩) (fun _ => rfl) (.int .i64 rb)).setCell (p := ⟨R, 2, none⟩) (fun _ => rfl) (.int .i64 rc)).setCell (p := ⟨R, 3, none⟩) (fun _ => rfl) (.int .i64 rd)
   have HO := Lib.hid (And.intro p8 ho)
   clear p8 ho
   generalize ((((w4.setCell ⟨R, 0, none⟩ (.int .i64 ra)).setCell ⟨R, 1, none⟩ (.int .i64 rb)).setCell ⟨R, 2, none⟩ (.int .i64 rc)).setCell ⟨R, 3, none⟩ (.int .i64 rd)) = w7 at HO ⊢
   refine bodyPost_ret (aA rfl _ _ _ _ _ _ _ rfl HO.out.1 Tryz.underlying26 rfl (by kernel_rfl)) rfl ⟨rfl, ?_⟩
   exact H2.out.1.trans (((H6.out.2.mono (T := fun k => R <= k) (fun k _ h => by omega)).trans (HO.out.2.mono (T := fun k => R <= k) (fun k _ h => by omega)) (fun _ _ h => h)).au H2.out.1.size (fun k hk h => by have := H2.out.2.2.2.2; omega))
end Go.Proofs.YtagemonojdgbdaaGreatDoor
