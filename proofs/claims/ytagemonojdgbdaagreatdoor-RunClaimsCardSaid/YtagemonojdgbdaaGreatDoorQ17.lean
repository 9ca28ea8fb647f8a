import Derived.Test.YtagemonojdgbdaaGreatDoorQ16
namespace Go.Proofs.YtagemonojdgbdaaGreatDoor
set_option maxRecDepth 100000
open Go.RowKit
theorem aN.nA {w : World} {d a bk ok nk ck : Nat} {x : ND} {F : Nat -> Nat -> Prop} {vp : Value} {ak : List Nat} {H : Nat -> Nat -> Nat -> Prop} (h : aN w (ai w d) a x F vp (.slice (some ⟨bk, ok, none⟩) nk ck) ak H) {j : Nat} (hj : j < x.ks.length) :
  ∃ p A c, w.cell? ⟨bk, ok + j, none⟩ = some (.pointer (some ⟨p, 0, none⟩)) /\ w.cell? ⟨p, 0, none⟩ = some (.slice A (aK x j).ps.length c) := by
 obtain ⟨p, hp⟩ : ∃ y, ak[j]? = some y := ⟨_, List.getElem?_eq_getElem (by rw [h.2.2.2.2.1]; exact hj)⟩
 have hn := h.2.2.2.2.2.1 j p (aK x j) hp (cD hj)
 obtain ⟨vp', vk', R7, H', g1, -, g3, -⟩ := ai.base hn
 obtain ⟨A, c, rfl, -⟩ := g3.slice
 rw [List.length_map] at g1
 exact ⟨p, A, c, h.2.2.2.1.xE hp, (af g1).1.1⟩
set_option maxHeartbeats 8000000 in
theorem uM (w : World) (d a i o lo hi : Nat) (x : ND) (F : Nat -> Nat -> Prop) (h : ai w (d + 1) a x F) (hF : ∀ b q, F b q -> b < w.heap.size) (hk : ql d o i lo hi x) (hlo : 1 <= lo) (hhi : hi <= 900) (ho : 2 <= o) (fq : o <= 16) :
  Calls Tryz.prog 173 #[.pointer (some ⟨a, 0, none⟩), .int .i64 i, .int .i64 o] w fun e w' => e = .returned (.tuple #[]) /\ ai w' (d + 1) a (ib d x i o) (fun b q => F b q \/ w.heap.size <= b) /\ OnlyC F w w' := by
 have hxl := hk.1
 have R8 := hk.2.1
 have hps := hk.2.2.1
 have hil := hk.2.2.2.1
 have wi := hk.2.2.2.2.2
 have wj : ∀ j, j < x.ks.length -> (aK x j).ps.length <= 900 /\ (aK x j).ks.length <= 901 /\ (d ≠ 0 -> (aK x j).ks.length = (aK x j).ps.length + 1) := by
  intro j hj
  have hwf : ∃ lo' hi', dX d o lo' hi' (aK x j) /\ hi' <= 900 := by
   by_cases e : j = i
   ·subst e; exact ⟨_, _, wi, by omega⟩
   ·exact ⟨_, _, hk.kid e hj, by omega⟩
  obtain ⟨lo', hi', hw, hle⟩ := hwf
  have hl := hw.len
  refine ⟨by omega, ?_, fun hd => ?_⟩
  ·cases d with
   | zero => rw [hw.none]; simp
   | succ d => rw [hw.kids]; omega
  ·obtain ⟨d1, rfl⟩ : ∃ d1, d = d1 + 1 := ⟨d - 1, by omega⟩
   exact hw.kids
 have hN := h
 obtain ⟨_, vp, vk, ak, H, hO, _⟩ := h.open_
 obtain ⟨l0, hl0⟩ : ∃ y, ak[i]? = some y := ⟨_, List.getElem?_eq_getElem (by rw [hO.2.2.2.2.1]; exact hil)⟩
 obtain ⟨bk, ok, ck, e0, -, -, -⟩ := hO.2.2.2.1.ptr hl0
 subst e0
 obtain ⟨nk, jn⟩ : ∃ y, ak.length = y := ⟨_, rfl⟩
 have jd := hO.2.2.2.2.1
 rw [jn] at hO jd
 obtain ⟨⟨-, LK⟩, -, -⟩ := af hO.1
 obtain ⟨p0, A0, c0, k0, k1⟩ := aN.nA hO (j := i) hil
 obtain ⟨n0, hn0⟩ : ∃ y, (aK x i).ps.length = y := ⟨_, rfl⟩
 rw [hn0] at k1
 obtain ⟨m, hm⟩ : ∃ m, o = m + 1 := ⟨o - 1, by omega⟩
 have HA := Lib.hid (And.intro hN (And.intro hF (And.intro hO (And.intro hil (And.intro hps (And.intro hn0 (And.intro hm (And.intro wj (And.intro hk (And.intro R8 hhi))))))))))
 have j0 : (o : Int) - 1 = (m : Int) := by omega
 have j2 : (0 : Int) <= (i : Int) := by omega
 have j3 : (i : Int) < (nk : Int) := by omega
 obtain ⟨y1, y2⟩ := DF m (by omega)
 have UM : nk <= 901 := by omega
 have ES : nk = x.ks.length := jd
 have CC := wj i hil
 have UN := Lib.hid hlo
 clear hN hF hO hps wj wi hk hxl R8 h hl0 jd jn hlo hhi
 by_cases c1 : m <= n0
 ·have q1 : (m : Int) <= (n0 : Int) := by omega
  have HC := Lib.hid c1
  clear hil hm hn0 ES CC c1
  go_enter Tryz.func173, Tryz.ntmps173
  go_wp2_with fail
  first | refine bodyPost_end (results_none rfl _ _ _) rfl ?_ | refine bodyPost_ret (results_none rfl _ _ _) rfl ?_
  have Ql : ib d x i o = x := by
   unfold ib
   rw [if_pos (by have := HA.out.2.2.2.2.2.1; have := HA.out.2.2.2.2.2.2.1; have := HC.out; omega)]
  rw [Ql]
  exact ⟨rfl, HA.out.1.mono (fun b q hh => .inl hh), OnlyC.refl _ _⟩
 ·have q1 : ¬ (m : Int) <= (n0 : Int) := by omega
  have HC := Lib.hid c1
  have kX := HA.out.2.2.2.2.2.2.1
  have qD := HA.out.2.2.2.2.2.1
  have MX : ib d x i o = if 0 < i /\ o - 1 < (aK x (i - 1)).ps.length then pI x (i - 1) (df d (aK x (i - 1)) (fp x (i - 1)) (aK x i))
    else if i + 1 < x.ks.length /\ o - 1 < (aK x (i + 1)).ps.length then pI x i (eV d (aK x i) (fp x i) (aK x (i + 1)))
    else if 0 < i then pJ x (i - 1) (jg (aK x (i - 1)) (fp x (i - 1)) (aK x i)) else pJ x i (jg (aK x i) (fp x i) (aK x (i + 1))) := by
   conv => lhs; unfold ib
   rw [if_neg (by omega)]
  have HU := Lib.hid MX
  clear hm hn0 kX qD c1 MX
  by_cases ci : 0 < i
  ·obtain ⟨i0, hi0⟩ : ∃ y, i = y + 1 := ⟨i - 1, by omega⟩
   obtain ⟨p2, A2, c2, k2, k3⟩ := aN.nA HA.out.2.2.1 (j := i0) (by omega)
   obtain ⟨n2, pM⟩ : ∃ y, (aK x i0).ps.length = y := ⟨_, rfl⟩
   rw [pM] at k3
   have q2 : (0 : Int) < (i : Int) := by omega
   have q3 : (i : Int) - 1 = (i0 : Int) := by omega
   have q4 : (0 : Int) <= (i0 : Int) := by omega
   have q5 : (i0 : Int) < (nk : Int) := by omega
   obtain ⟨y3, y4⟩ := DF i0 (by omega)
   have HI := Lib.hid (And.intro hi0 pM)
   have hw0 := HA.out.2.2.2.2.2.2.2.1 i0 (by omega)
   by_cases cl : m < n2
   ·have q6 : (m : Int) < (n2 : Int) := by omega
    have HL := Lib.hid cl
    clear pM hi0 cl ci
    go_enter Tryz.func173, Tryz.ntmps173
    go_wp2_with fail
    have HQ := Lib.hid (xH w d a i0 i x F HA.out.1 HA.out.2.1 HI.out.1 (by have := HI.out.1; omega) HA.out.2.2.2.2.1 (by have := HA.out.2.2.2.2.2.2.2.2.2.1; have := HA.out.2.2.2.2.2.2.2.2.2.2; omega) (by have := HI.out.2; have := HL.out; omega) hw0.1 (by rw [show i0 + 1 = i from HI.out.1.symm]; exact CC.1) hw0.2.2 (by rw [show i0 + 1 = i from HI.out.1.symm]; exact CC.2.1))
    refine HQ.out.mono ?_
    rintro e w2 ⟨rfl, hn, ho⟩
    have HF := Lib.hid (And.intro hn ho)
    clear hn ho HQ
    go_wp2_with fail
    first | refine bodyPost_end (results_none rfl _ _ _) rfl ?_ | refine bodyPost_ret (results_none rfl _ _ _) rfl ?_
    rw [HU.out, if_pos ⟨by have := HI.out.1; omega, by rw [show i - 1 = i0 by have := HI.out.1; omega]; have := HI.out.2; have := HL.out; have := HA.out.2.2.2.2.2.2.1; omega⟩, show i - 1 = i0 by have := HI.out.1; omega]
    have h1 := HF.out.1
    rw [show i0 + 1 = i from HI.out.1.symm] at h1
    exact ⟨rfl, h1, HF.out.2⟩
   ·have q6 : ¬ (m : Int) < (n2 : Int) := by omega
    have HL := Lib.hid cl
    have hnl : ¬ (0 < i /\ o - 1 < (aK x (i - 1)).ps.length) := by
     rintro ⟨_, h2⟩
     rw [show i - 1 = i0 by omega, pM] at h2
     have := HA.out.2.2.2.2.2.2.1
     omega
    have LN := Lib.hid hnl
    clear cl hnl
    obtain ⟨i1, hi1⟩ : ∃ y, y = i + 1 := ⟨_, rfl⟩
    have q7 : (i : Int) + 1 = (i1 : Int) := by omega
    obtain ⟨y5, y6⟩ := DF i1 (by omega)
    have q8 : (0 : Int) <= (i1 : Int) := by omega
    by_cases cr : i + 1 < x.ks.length
    ·obtain ⟨p3, A3, c3, k4, k5⟩ := aN.nA HA.out.2.2.1 (j := i + 1) cr
     rw [<- hi1] at k4
     obtain ⟨n3, jx⟩ : ∃ y, (aK x (i + 1)).ps.length = y := ⟨_, rfl⟩
     rw [jx] at k5
     have q9 : (i1 : Int) < (nk : Int) := by omega
     have hw3 := HA.out.2.2.2.2.2.2.2.1 (i + 1) cr
     have hi2 := cr
     have HH := Lib.hid (And.intro jx hi1)
     by_cases cx : m < n3
     ·have qa : (m : Int) < (n3 : Int) := by omega
      have MZ := Lib.hid cx
      clear pM hi0 ci
      clear jx cx cr hi1
      go_enter Tryz.func173, Tryz.ntmps173
      go_wp2_with fail
      have HQ := Lib.hid (nz w d a i x F HA.out.1 HA.out.2.1 hi2 HA.out.2.2.2.2.1 (by have := HA.out.2.2.2.2.2.2.2.2.2.1; have := HA.out.2.2.2.2.2.2.2.2.2.2; omega) (by have := HH.out.1; have := MZ.out; omega) CC.1 hw3.1 (fun hd => by have := hw3.2.2 hd; omega) CC.2.1 hw3.2.1)
      refine HQ.out.mono ?_
      rintro e w2 ⟨rfl, hn, ho⟩
      have HF := Lib.hid (And.intro hn ho)
      clear hn ho HQ
      go_wp2_with fail
      first | refine bodyPost_end (results_none rfl _ _ _) rfl ?_ | refine bodyPost_ret (results_none rfl _ _ _) rfl ?_
      rw [HU.out, if_neg LN.out, if_pos ⟨hi2, by have := HH.out.1; have := MZ.out; have := HA.out.2.2.2.2.2.2.1; omega⟩]
      exact ⟨rfl, HF.out.1, HF.out.2⟩
     ·have qa : ¬ (m : Int) < (n3 : Int) := by omega
      have rX : ¬ (i + 1 < x.ks.length /\ o - 1 < (aK x (i + 1)).ps.length) := by
       rintro ⟨_, h2⟩
       rw [jx] at h2
       have := HA.out.2.2.2.2.2.2.1
       omega
      have M0 := Lib.hid rX
      clear pM hi0 ci
      clear jx cx cr hi1 rX
      go_enter Tryz.func173, Tryz.ntmps173
      go_wp2_with fail
      have HQ := Lib.hid (lu w d a i0 x F HA.out.1 HA.out.2.1 (by have := HI.out.1; omega) HA.out.2.2.2.2.1 (by have := HA.out.2.2.2.2.2.2.2.2.2.1; have := HA.out.2.2.2.2.2.2.2.2.2.2; omega) hw0.1 (by rw [show i0 + 1 = i from HI.out.1.symm]; exact CC.1) hw0.2.1 (by rw [show i0 + 1 = i from HI.out.1.symm]; exact CC.2.1))
      refine HQ.out.mono ?_
      rintro e w2 ⟨rfl, hn, ho⟩
      have HF := Lib.hid (And.intro hn ho)
      clear hn ho HQ
      go_wp2_with fail
      first | refine bodyPost_end (results_none rfl _ _ _) rfl ?_ | refine bodyPost_ret (results_none rfl _ _ _) rfl ?_
      rw [HU.out, if_neg LN.out, if_neg M0.out]
      rw [if_pos (by have := HI.out.1; omega), show i - 1 = i0 by have := HI.out.1; omega]
      have h1 := HF.out.1
      rw [show i0 + 1 = i from HI.out.1.symm] at h1
      exact ⟨rfl, h1, HF.out.2⟩
    ·have q9 : ¬ (i1 : Int) < (nk : Int) := by omega
     have M0 := Lib.hid (show ¬ (i + 1 < x.ks.length /\ o - 1 < (aK x (i + 1)).ps.length) from fun h => cr h.1)
     clear pM hi0 ci
     clear cr hi1
     go_enter Tryz.func173, Tryz.ntmps173
     go_wp2_with fail
     have HQ := Lib.hid (lu w d a i0 x F HA.out.1 HA.out.2.1 (by have := HI.out.1; omega) HA.out.2.2.2.2.1 (by have := HA.out.2.2.2.2.2.2.2.2.2.1; have := HA.out.2.2.2.2.2.2.2.2.2.2; omega) hw0.1 (by rw [show i0 + 1 = i from HI.out.1.symm]; exact CC.1) hw0.2.1 (by rw [show i0 + 1 = i from HI.out.1.symm]; exact CC.2.1))
     refine HQ.out.mono ?_
     rintro e w2 ⟨rfl, hn, ho⟩
     have HF := Lib.hid (And.intro hn ho)
     clear hn ho HQ
     go_wp2_with fail
     first | refine bodyPost_end (results_none rfl _ _ _) rfl ?_ | refine bodyPost_ret (results_none rfl _ _ _) rfl ?_
     rw [HU.out, if_neg LN.out, if_neg M0.out]
     rw [if_pos (by have := HI.out.1; omega), show i - 1 = i0 by have := HI.out.1; omega]
     have h1 := HF.out.1
     rw [show i0 + 1 = i from HI.out.1.symm] at h1
     exact ⟨rfl, h1, HF.out.2⟩
  ·have q2 : ¬ (0 : Int) < (i : Int) := by omega
   have hnl : ¬ (0 < i /\ o - 1 < (aK x (i - 1)).ps.length) := fun h => ci h.1
   have LN := Lib.hid hnl
   have HI := Lib.hid ci
   clear hnl
   obtain ⟨i1, hi1⟩ : ∃ y, y = i + 1 := ⟨_, rfl⟩
   have q7 : (i : Int) + 1 = (i1 : Int) := by omega
   obtain ⟨y5, y6⟩ := DF i1 (by omega)
   have q8 : (0 : Int) <= (i1 : Int) := by omega
   by_cases cr : i + 1 < x.ks.length
   ·obtain ⟨p3, A3, c3, k4, k5⟩ := aN.nA HA.out.2.2.1 (j := i + 1) cr
    rw [<- hi1] at k4
    obtain ⟨n3, jx⟩ : ∃ y, (aK x (i + 1)).ps.length = y := ⟨_, rfl⟩
    rw [jx] at k5
    have q9 : (i1 : Int) < (nk : Int) := by omega
    have hw3 := HA.out.2.2.2.2.2.2.2.1 (i + 1) cr
    have hi2 := cr
    have HH := Lib.hid (And.intro jx hi1)
    by_cases cx : m < n3
    ·have qa : (m : Int) < (n3 : Int) := by omega
     have MZ := Lib.hid cx
     clear ci
     clear jx cx cr hi1
     go_enter Tryz.func173, Tryz.ntmps173
     go_wp2_with fail
     have HQ := Lib.hid (nz w d a i x F HA.out.1 HA.out.2.1 hi2 HA.out.2.2.2.2.1 (by have := HA.out.2.2.2.2.2.2.2.2.2.1; have := HA.out.2.2.2.2.2.2.2.2.2.2; omega) (by have := HH.out.1; have := MZ.out; omega) CC.1 hw3.1 (fun hd => by have := hw3.2.2 hd; omega) CC.2.1 hw3.2.1)
     refine HQ.out.mono ?_
     rintro e w2 ⟨rfl, hn, ho⟩
     have HF := Lib.hid (And.intro hn ho)
     clear hn ho HQ
     go_wp2_with fail
     first | refine bodyPost_end (results_none rfl _ _ _) rfl ?_ | refine bodyPost_ret (results_none rfl _ _ _) rfl ?_
     rw [HU.out, if_neg LN.out, if_pos ⟨hi2, by have := HH.out.1; have := MZ.out; have := HA.out.2.2.2.2.2.2.1; omega⟩]
     exact ⟨rfl, HF.out.1, HF.out.2⟩
    ·have qa : ¬ (m : Int) < (n3 : Int) := by omega
     have rX : ¬ (i + 1 < x.ks.length /\ o - 1 < (aK x (i + 1)).ps.length) := by
      rintro ⟨_, h2⟩
      rw [jx] at h2
      have := HA.out.2.2.2.2.2.2.1
      omega
     have M0 := Lib.hid rX
     clear ci
     clear jx cx cr hi1 rX
     go_enter Tryz.func173, Tryz.ntmps173
     go_wp2_with fail
     have HQ := Lib.hid (lu w d a i x F HA.out.1 HA.out.2.1 hi2 HA.out.2.2.2.2.1 (by have := HA.out.2.2.2.2.2.2.2.2.2.1; have := HA.out.2.2.2.2.2.2.2.2.2.2; omega) CC.1 hw3.1 CC.2.1 hw3.2.1)
     refine HQ.out.mono ?_
     rintro e w2 ⟨rfl, hn, ho⟩
     have HF := Lib.hid (And.intro hn ho)
     clear hn ho HQ
     go_wp2_with fail
     first | refine bodyPost_end (results_none rfl _ _ _) rfl ?_ | refine bodyPost_ret (results_none rfl _ _ _) rfl ?_
     rw [HU.out, if_neg LN.out, if_neg M0.out]
     rw [if_neg HI.out]
     have h1 := HF.out.1
     exact ⟨rfl, h1, HF.out.2⟩
   ·exfalso
    have h1 := HA.out.2.2.2.2.2.2.2.2.1.1
    have h2 := HA.out.2.2.2.2.1
    have h3 := UN.out
    omega
def uN (d o : Nat) : Prop := ∀ (w : World) (a lo hi : Nat) (x : ND) (F : Nat -> Nat -> Prop), ai w d a x F -> (∀ b q, F b q -> b < w.heap.size) -> dX d o lo hi x -> 1 <= lo -> hi <= 900 ->
 Calls Tryz.prog 172 #[.pointer (some ⟨a, 0, none⟩), .int .i64 o] w fun e w' => e = .returned (Gk (eO d x o).2) /\ ai w' d a (eO d x o).1 (fun b q => F b q \/ w.heap.size <= b) /\ OnlyC F w w'
theorem Jg {w : World} {B : Nat} {a0 a1 v0 v1 : Value} {t : TypeId} (h : w.heap[B]? = some (.cells #[a0, a1] t (0, 0))) : ((w.setCell ⟨B, 0, none⟩ v0).setCell ⟨B, 1, none⟩ v1).heap[B]? = some (.cells #[v0, v1] t (0, 0)) := by
 have h1 := heap_setCell_same w B 0 _ _ v0 h
 have h2 := heap_setCell_same _ B 1 _ _ v1 h1
 simpa using h2
set_option maxHeartbeats 8000000 in
theorem CD (o : Nat) : uN 0 o := by
 intro w a lo hi x F h hF hw hlo hhi
 have hks := hw.none
 have hlen := hw.len
 obtain ⟨m, hm⟩ : ∃ m, x.ps.length = m + 1 := ⟨x.ps.length - 1, by omega⟩
 obtain ⟨z, hz⟩ : ∃ p, x.ps[m]? = some p := ⟨_, List.getElem?_eq_getElem (by omega)⟩
 have hres : eO 0 x o = (.mk (x.ps.take m) [], z) := by
  show (ND.mk (x.ps.take (x.ps.length - 1)) [], x.ps[x.ps.length - 1]?.getD ([], [])) = _
  rw [hm, Nat.add_sub_cancel, hz]
  rfl
 have hb0 := ag w (.cells #[.string ⟨#[]⟩, .string ⟨#[]⟩] 210)
 have k0 := heap_alloc_new w (.cells #[.string ⟨#[]⟩, .string ⟨#[]⟩] 210)
 have h1 := h.below hb0
 go_enter Tryz.func172, Tryz.ntmps172
 go_upto_region 1 with fail
 generalize w.alloc (.cells #[.string ⟨#[]⟩, .string ⟨#[]⟩] 210) = w1 at hb0 k0 h1 ⊢
 obtain ⟨R0, hR⟩ : ∃ y, w.heap.size = y := ⟨_, rfl⟩
 rw [hR] at k0 ⊢
 obtain ⟨hd0, vp, vk, ak, H, hO, -⟩ := h1.open_
 have hp0 : ak = [] := List.eq_nil_of_length_eq_zero (by rw [hO.2.2.2.2.1, hks]; rfl)
 subst hp0
 obtain ⟨bl, ol, cl, e0, -, -, -⟩ := hO.2.2.1.pair hz
 subst e0
 obtain ⟨A2, c2, e2, -⟩ := hO.2.2.2.1.slice
 have e2 : vk = .slice A2 0 c2 := by simpa using e2
 subst e2
 obtain ⟨n, hn⟩ : ∃ y, x.ps.length = y := ⟨_, rfl⟩
 rw [hn] at hO
 have ET : ∀ b q, F b q -> b < w1.heap.size := fun b q hh => Nat.lt_of_lt_of_le (hF b q hh) hb0.size
 have HA := Lib.hid (And.intro hO (And.intro hF (And.intro ET (And.intro hb0 (And.intro k0 (And.intro hR (And.intro hks (And.intro hz (And.intro hm hres)))))))))
 obtain ⟨⟨z0, z1⟩, -, -⟩ := af hO.1
 have gV := Lib.hid (cP w1 a c2 A2 z1)
 have j1 : (n : Int) - 1 = (m : Int) := by omega
 have j2 : (0 : Int) <= (m : Int) := by omega
 have j3 : (m : Int) < (n : Int) := by omega
 have j4 : n <= 900 := by omega
 obtain ⟨y1, y2⟩ := DF m (by omega)
 obtain ⟨⟨s0, s1⟩, -, -⟩ := hO.2.2.1.iR hz
 clear h hF hw hlo hhi hks hlen hm hz hres hb0 k0 h1 hR hd0 hO hn ET
 go_wp2_with fail
 refine gV.out.mono ?_
 rintro e w2 ⟨rfl, hw2⟩
 subst hw2
 clear gV
 go_upto_region 4 with fail
 have bZ := ag w1 (.cells #[.string ⟨z.1.toArray⟩, .string ⟨z.2.toArray⟩] 210)
 have kZ := heap_alloc_new w1 (.cells #[.string ⟨z.1.toArray⟩, .string ⟨z.2.toArray⟩] 210)
 generalize w1.alloc (.cells #[.string ⟨z.1.toArray⟩, .string ⟨z.2.toArray⟩] 210) = w3 at bZ kZ ⊢
 obtain ⟨ZB, Ki⟩ : ∃ y, w1.heap.size = y := ⟨_, rfl⟩
 rw [Ki] at kZ ⊢
 have Jh := aN.below (d := 0) HA.out.1 bZ
 clear z0 z1 s0 s1
 obtain ⟨⟨z0, -⟩, -, -⟩ := af Jh.1
 have H3 := Lib.hid (And.intro bZ (And.intro kZ (And.intro Ki Jh)))
 clear bZ kZ Ki Jh
 go_wp2_with fail
 refine (ji w3 (H 1) _ (x.ps.map ah) m _ _ rfl (by simp) H3.out.2.2.2.2.2.1 (by rw [List.length_map]; have := HA.out.2.2.2.2.2.2.2.2.1; omega) (by rw [List.length_map]; have := HA.out.2.2.2.2.2.2.2.2.1; omega) (cL _)).mono ?_
 rintro e w9 ⟨v9, rfl, bM, dS⟩
 rw [<- List.map_take, <- List.map_drop, <- List.map_append] at bM
 have xK : x.ps.drop (m + 1) = [] := List.drop_eq_nil_of_le (by have := HA.out.2.2.2.2.2.2.2.2.1; omega)
 rw [xK, List.append_nil] at bM
 obtain ⟨A9, c9, eW, -⟩ := bM.slice
 obtain ⟨n9, eX⟩ : ∃ y, ((x.ps.take m).map ah).length = y := ⟨_, rfl⟩
 rw [eX] at eW
 subst eW
 clear eX xK z0
 have Kj := dS.heap H3.out.2.2.2.1 (fun q hh => HA.out.1.own.2.1 1 0 a q (by decide) hh (HA.out.1.2.1 q))
 have qR : ∀ b, w.heap.size <= b -> ∀ q, ¬ F b q := fun b hb q hh => by have := HA.out.2.1 b q hh; omega
 have R9 := dS.heap ((Only.of_below H3.out.1 (fun _ => False)).heap HA.out.2.2.2.2.1 (fun h => h)) (fun q hh => qR R0 (by have := HA.out.2.2.2.2.2.1; omega) q (HA.out.1.own.1 1 _ q hh))
 have Sa := dS.heap H3.out.2.1 (fun q hh => qR ZB (by have := HA.out.2.2.2.1.size; have := H3.out.2.2.1; omega) q (HA.out.1.own.1 1 _ q hh))
 have UO : ¬ R0 = a := fun e => qR R0 (by have := HA.out.2.2.2.2.2.1; omega) 0 (HA.out.1.own.1 0 _ 0 (e ▸ HA.out.1.2.1 0))
 have UQ : ¬ ZB = a := fun e => qR ZB (by have := HA.out.2.2.2.1.size; have := H3.out.2.2.1; omega) 0 (HA.out.1.own.1 0 _ 0 (e ▸ HA.out.1.2.1 0))
 have H9 := Lib.hid (And.intro bM (And.intro dS Kj))
 obtain ⟨⟨z0, -⟩, zf, -⟩ := af Kj
 clear bM dS Kj
 go_upto_region 5 with fail
 have CE := (OnlyC.aT w9 a 0 (.slice A9 n9 c9)).heap R9 (fun q e => UO e.1)
 have Kk := (OnlyC.aT w9 a 0 (.slice A9 n9 c9)).heap Sa (fun q e => UQ e.1)
 have h3 := H3.out.2.2.2
 have hr := aN.lX (d := 0) (w' := w9.setCell ⟨a, 0, none⟩ (.slice A9 n9 c9)) h3 (fun _ => HA.out.2.2.2.2.2.2.1) (fun b q hh => Nat.lt_of_lt_of_le (HA.out.2.2.1 b q hh) H3.out.1.size) (gB H9.out.2.2 (.slice A9 n9 c9))
  ((H9.out.2.1.mono (fun b q _ hh => .inl hh)).trans (OnlyC.aT w9 a 0 (.slice A9 n9 c9)) (fun b q _ e => .inr e.1)) ((H9.out.1.only (OnlyC.aT w9 a 0 (.slice A9 n9 c9)) (fun b q hh e => HA.out.1.own.2.2 1 b q (by decide) hh e.1)).mono (fun b q hh => .inl hh))
 clear z0 zf R9 Sa
 generalize w9.setCell ⟨a, 0, none⟩ (.slice A9 n9 c9) = jH at CE Kk hr ⊢
 obtain ⟨z0, z1⟩ := dR Kk
 obtain ⟨x0, x1⟩ := dR CE
 have f0 : jH.frozen? ⟨R0, 0, none⟩ = false := frozen_of_heap CE 0
 have f1 : jH.frozen? ⟨R0, 1, none⟩ = false := frozen_of_heap CE 1
 have Sb := Lib.hid (And.intro hr CE)
 clear hr CE Kk
 go_wp2_with fail
 have hp := Jg (v0 := .string ⟨z.1.toArray⟩) (v1 := .string ⟨z.2.toArray⟩) Sb.out.2
 have hbW : Below w.heap.size w w3 := HA.out.2.2.2.1.trans (H3.out.1.mono HA.out.2.2.2.1.size)
 have oR : OnlyC (fun b _ => b = R0) jH ((jH.setCell ⟨R0, 0, none⟩ (.string ⟨z.1.toArray⟩)).setCell ⟨R0, 1, none⟩ (.string ⟨z.2.toArray⟩)) := ((OnlyC.aT jH R0 0 _).mono (fun b q _ e => e.1)).trans (OnlyC.aT _ R0 1 _) (fun b q _ e => e.1)
 refine bodyPost_ret (results_cell_row rfl _ _ _ _ _ _ _ rfl hp Tryz.underlying210 rfl (by kernel_rfl)) rfl ?_
 rw [HA.out.2.2.2.2.2.2.2.2.2]
 have hr := Sb.out.1
 rw [HA.out.2.2.2.2.2.2.1] at hr
 refine ⟨rfl, ?_, (((OnlyC.of_below hbW F).trans hr.2 (fun _ _ _ h => h)).trans oR (fun b q hb e => by subst e; have := HA.out.2.2.2.2.2.1; omega))⟩
 refine (hr.1.only oR (fun b q hh e => ?_)).mono (fun b q hh => hh.imp id (fun h => Nat.le_trans hbW.size h))
 subst e
 have h5 := HA.out.2.2.2.2.2.1
 have h6 := lt_of_heap HA.out.2.2.2.2.1
 have h7 := H3.out.1.size
 rcases hh with hh | hh
 ·have := HA.out.2.1 _ q hh
  omega
 ·omega
set_option maxHeartbeats 8000000 in
theorem Hc (d o : Nat) (ih : uN d o) (ho : 2 <= o) (fq : o <= 16) : uN (d + 1) o := by
 intro w a lo hi x F h hF hw hlo hhi
 have hlen := hw.len
 have jG := hw.kids
 obtain ⟨m, hm⟩ : ∃ m, x.ks.length = m + 1 := ⟨x.ks.length - 1, by omega⟩
 have hlm : x.ks.length - 1 = m := by omega
 have hres : eO (d + 1) x o = (ib d (mK x m (eO d (aK x m) o).1) m o, (eO d (aK x m) o).2) := by
  show (ib d (mK x (x.ks.length - 1) (eO d (aK x (x.ks.length - 1)) o).1) (x.ks.length - 1) o, (eO d (aK x (x.ks.length - 1)) o).2) = _
  rw [hlm]
 have hk := cD (x := x) (i := m) (by omega)
 have wk := hw.2.2.2 _ (List.mem_of_getElem? hk)
 have wl := (mX ho wk (by omega)).2
 have nB := iH hw (i := m) (by omega) (by rw [show o - 1 - 1 = o - 2 by omega] at wl; exact wl)
 have hb0 := ag w (.cells #[.string ⟨#[]⟩, .string ⟨#[]⟩] 210)
 have k0 := heap_alloc_new w (.cells #[.string ⟨#[]⟩, .string ⟨#[]⟩] 210)
 have h1 := h.below hb0
 go_enter Tryz.func172, Tryz.ntmps172
 go_upto_region 1 with fail
 generalize w.alloc (.cells #[.string ⟨#[]⟩, .string ⟨#[]⟩] 210) = w1 at hb0 k0 h1 ⊢
 obtain ⟨R0, hR⟩ : ∃ y, w.heap.size = y := ⟨_, rfl⟩
 rw [hR] at k0 ⊢
 obtain ⟨-, vp, vk, ak, H, hO, -⟩ := h1.open_
 obtain ⟨l, hl⟩ : ∃ y, ak[m]? = some y := ⟨_, List.getElem?_eq_getElem (by rw [hO.2.2.2.2.1]; omega)⟩
 obtain ⟨bk, ok, ck, e0, -, -, r1⟩ := hO.2.2.2.1.ptr hl
 subst e0
 obtain ⟨nk, jn⟩ : ∃ y, ak.length = y := ⟨_, rfl⟩
 have jd := hO.2.2.2.2.1
 rw [jn] at hO jd
 have ET : ∀ b q, F b q -> b < w1.heap.size := fun b q hh => Nat.lt_of_lt_of_le (hF b q hh) hb0.size
 have Bv := Lib.hid (ih w1 l (o - 1) (2 * o - 1) (aK x m) (H (m + 3)) (hO.2.2.2.2.2.1 m l _ hl hk) (fun b q hh => ET b q (hO.own.1 _ b q hh)) wk (by omega) (by omega))
 obtain ⟨⟨zk, zv⟩, hz⟩ : ∃ p, (eO d (aK x m) o).2 = p := ⟨_, rfl⟩
 have HA := Lib.hid (And.intro hO (And.intro hF (And.intro ET (And.intro hb0 (And.intro k0 (And.intro hR (And.intro hl (And.intro hk (And.intro nB (And.intro hres (And.intro hz (And.intro hlo hhi))))))))))))
 obtain ⟨⟨-, z1⟩, -, -⟩ := af hO.1
 have gV := Lib.hid (dQ w1 a nk ck _ (by omega) z1)
 have j1 : (nk : Int) - 1 = (m : Int) := by omega
 have j2 : (0 : Int) <= (m : Int) := by omega
 have j3 : (m : Int) < (nk : Int) := by omega
 have j4 : nk <= 901 := by omega
 obtain ⟨y1, y2⟩ := DF m (by omega)
 rw [hz] at Bv
 unfold Gk at Bv
 simp only at Bv
 clear h hF hw hlo hhi hlen jG hm hlm hres hk wk wl nB hb0 k0 h1 hR hl hO jd jn ET hz ih
 go_wp2_with fail
 refine gV.out.mono ?_
 rintro e w2 ⟨rfl, hw2⟩
 subst hw2
 clear gV
 go_wp2_with fail
 refine Bv.out.mono ?_
 rintro e w3 ⟨rfl, jx, vM⟩
 clear Bv z1 r1
 have hr := HA.out.1.Bf HA.out.2.2.1 HA.out.2.2.2.2.2.2.2.1 HA.out.2.2.2.2.2.2.1 vM jx
 have bZ := ag w3 (.cells #[.string ⟨zk.toArray⟩, .string ⟨zv.toArray⟩] 210)
 have kZ := heap_alloc_new w3 (.cells #[.string ⟨zk.toArray⟩, .string ⟨zv.toArray⟩] 210)
 have qR : ∀ b, w.heap.size <= b -> ∀ q, ¬ F b q := fun b hb q hh => by have := HA.out.2.1 b q hh; omega
 have M3 := vM.heap HA.out.2.2.2.2.1 (fun q hh => qR R0 (by have := HA.out.2.2.2.2.2.1; omega) q (HA.out.1.own.1 _ _ q hh))
 have H3 := Lib.hid (And.intro hr (And.intro bZ (And.intro kZ M3)))
 clear hr bZ kZ M3 jx vM qR
 go_upto_region 8 with fail
 have H4 := H3.out
 clear H3
 generalize w3.alloc (.cells #[.string ⟨zk.toArray⟩, .string ⟨zv.toArray⟩] 210) = w4 at H4 ⊢
 obtain ⟨hr, bZ, kZ, M3⟩ := H4
 obtain ⟨ZB, Ki⟩ : ∃ y, w3.heap.size = y := ⟨_, rfl⟩
 rw [Ki] at kZ ⊢
 have Sc := (Only.of_below bZ (fun _ => False)).heap M3 (fun h => h)
 have hb4 := hr.1.bound.below bZ
 have H4 := Lib.hid (And.intro hr.2 (And.intro bZ (And.intro kZ (And.intro Sc (And.intro Ki hb4)))))
 have hsz1 : w.heap.size <= w1.heap.size := HA.out.2.2.2.1.size
 have HM := Lib.hid (uM w4 d a m o lo hi _ _ hb4 (fun b q hh => Nat.lt_of_lt_of_le hh.2 bZ.size) HA.out.2.2.2.2.2.2.2.2.1 HA.out.2.2.2.2.2.2.2.2.2.2.2.1 HA.out.2.2.2.2.2.2.2.2.2.2.2.2 ho fq)
 clear hr bZ kZ M3 Sc hb4 Ki
 go_wp2_with fail
 refine HM.out.mono ?_
 rintro e w5 ⟨rfl, EF, nv⟩
 clear HM
 have UR := lt_of_heap HA.out.2.2.2.2.1
 have Kl : ∀ q, ¬ ((F R0 q \/ w1.heap.size <= R0) /\ R0 < w3.heap.size) := fun q hh => by
  rcases hh.1 with h5 | h5
  ·have := HA.out.2.1 _ q h5; have := HA.out.2.2.2.2.2.1; omega
  ·omega
 have Br := nv.heap H4.out.2.2.2.1 Kl
 have Sd := nv.heap H4.out.2.2.1 (fun q hh => by have := hh.2; have := H4.out.2.2.2.2.1; omega)
 obtain ⟨z0, z1⟩ := dR Sd
 obtain ⟨x0, x1⟩ := dR Br
 have f0 : w5.frozen? ⟨R0, 0, none⟩ = false := frozen_of_heap Br 0
 have f1 : w5.frozen? ⟨R0, 1, none⟩ = false := frozen_of_heap Br 1
 have H5 := Lib.hid (And.intro EF (And.intro nv (And.intro Br Kl)))
 clear EF nv Br Sd Kl
 go_wp2_with fail
 have hp := Jg (v0 := .string ⟨zk.toArray⟩) (v1 := .string ⟨zv.toArray⟩) H5.out.2.2.1
 have oR : OnlyC (fun b _ => b = R0) w5 ((w5.setCell ⟨R0, 0, none⟩ (.string ⟨zk.toArray⟩)).setCell ⟨R0, 1, none⟩ (.string ⟨zv.toArray⟩)) := ((OnlyC.aT w5 R0 0 _).mono (fun b q _ e => e.1)).trans (OnlyC.aT _ R0 1 _) (fun b q _ e => e.1)
 refine bodyPost_ret (results_cell_row rfl _ _ _ _ _ _ _ rfl hp Tryz.underlying210 rfl (by kernel_rfl)) rfl ?_
 rw [HA.out.2.2.2.2.2.2.2.2.2.1, HA.out.2.2.2.2.2.2.2.2.2.2.1]
 have UT : OnlyC F w1 w4 := H4.out.1.trans (OnlyC.of_below H4.out.2.1 F) (fun _ _ _ h => h)
 have UU : OnlyC F w w5 := ((OnlyC.of_below HA.out.2.2.2.1 F).trans UT (fun _ _ _ h => h)).trans H5.out.2.1 (fun b q hb hh => hh.1.elim id (fun h => by omega))
 refine ⟨rfl, (H5.out.1.only oR (fun b q hh e => ?_)).mono (fun b q hh => ?_), UU.trans oR (fun b q hb e => by subst e; have := HA.out.2.2.2.2.2.1; omega)⟩
 ·subst e
  rcases hh with hh | hh
  ·exact H5.out.2.2.2 q hh
  ·have := lt_of_heap H4.out.2.2.2.1
   omega
 ·rcases hh with hh | hh
  ·exact hh.1.imp id (fun h => by omega)
  ·have := H4.out.2.1.size
   have := H4.out.1.size
   exact .inr (by omega)
theorem Bw {o : Nat} (ho : 2 <= o) (fq : o <= 16) : ∀ d, uN d o
 | 0 => CD o
 | d + 1 => Hc d o (Bw ho fq d) ho fq
def EU (d o : Nat) (key : List UInt8) : Prop := ∀ (w : World) (a lo hi : Nat) (x : ND) (F : Nat -> Nat -> Prop), ai w d a x F -> (∀ b q, F b q -> b < w.heap.size) -> dX d o lo hi x -> (1 <= lo \/ d = 0) -> hi <= 900 -> Up (aS d x) ->
 Calls Tryz.prog 143 #[.pointer (some ⟨a, 0, none⟩), .string ⟨key.toArray⟩, .int .i64 o] w (zg d a (jT d x key o) F (look key (aS d x)) w)
set_option maxHeartbeats 8000000 in
theorem EW (o : Nat) (key : List UInt8) : EU 0 o key := by
 intro w a lo hi x F h hF hw _ hhi hu
 have hks := hw.none
 have hlen := hw.len
 have Hd := qF hw hu
 have hlx : x.ps.length <= 1000 := by omega
 have hpos := dt key x.ps
 have mA := Lib.hid (find_ok w F a x key h.base Hd hlx)
 obtain ⟨i, hi⟩ : ∃ i, posOf key x.ps = i := ⟨_, rfl⟩
 rw [hi] at mA hpos
 have HH := Lib.hid (And.intro h (And.intro hF (And.intro hks (And.intro hi hlx))))
 by_cases hh : hit key x.ps = true
 ·obtain ⟨v, hv⟩ := eG hh
  rw [hi] at hv
  have HV := Lib.hid (And.intro hh hv)
  rw [hh] at mA
  clear h hF hw hks hlen Hd hlx hh hi hu hhi
  go_enter Tryz.func143, Tryz.ntmps143
  go_wp2_with fail
  refine mA.out.mono ?_
  rintro e w2 ⟨rfl, hb2⟩
  have h2 := HH.out.1.below hb2
  obtain ⟨hd0, vp, vk, ak, H, hO, -⟩ := h2.open_
  have hp0 : ak = [] := List.eq_nil_of_length_eq_zero (by rw [hO.2.2.2.2.1, HH.out.2.2.1]; rfl)
  subst hp0
  obtain ⟨bl, ol, cl, e0, -, -, -⟩ := hO.2.2.1.pair hv
  subst e0
  obtain ⟨A2, c2, e2, -⟩ := hO.2.2.2.1.slice
  have e2 : vk = .slice A2 0 c2 := by simpa using e2
  subst e2
  obtain ⟨n, hn⟩ : ∃ y, x.ps.length = y := ⟨_, rfl⟩
  rw [hn] at hO hpos
  have hil := (List.getElem?_eq_some_iff.1 hv).1
  have HA := Lib.hid (And.intro hO (And.intro hb2 hn))
  obtain ⟨⟨z0, z1⟩, -, -⟩ := af hO.1
  have gV := Lib.hid (cP w2 a c2 A2 z1)
  obtain ⟨⟨s0, s1⟩, -, -⟩ := hO.2.2.1.iR hv
  have j2 : (0 : Int) <= (i : Int) := by omega
  have j3 : (i : Int) < (n : Int) := by omega
  have j4 : n <= 1000 := by rw [<- hn]; exact HH.out.2.2.2.2
  clear mA h2 hd0 hO hb2 hn hv hil hpos
  go_wp2_with fail
  refine gV.out.mono ?_
  rintro e w3 ⟨rfl, hw3⟩
  subst hw3
  go_wp2_with fail
  refine gV.out.mono ?_
  rintro e w3 ⟨rfl, hw3⟩
  subst hw3
  clear gV z1
  go_wp2_with fail
  have hil := (List.getElem?_eq_some_iff.1 HV.out.2).1
  refine (ji w2 (H 1) _ (x.ps.map ah) i _ _ rfl (by first | rfl | simp | omega) HA.out.1.2.2.1 (by rw [List.length_map]; exact hil) (by rw [List.length_map]; exact HH.out.2.2.2.2) (cL _)).mono ?_
  rintro e w9 ⟨v9, rfl, bM, dS⟩
  rw [<- List.map_take, <- List.map_drop, <- List.map_append] at bM
  obtain ⟨A9, c9, eW, -⟩ := bM.slice
  obtain ⟨n9, eX⟩ : ∃ y, ((x.ps.take i ++ x.ps.drop (i + 1)).map ah).length = y := ⟨_, rfl⟩
  rw [eX] at eW
  subst eW
  clear eX z0 s0 s1 hil
  have Kj := dS.heap HA.out.1.1 (fun q hh => HA.out.1.own.2.1 1 0 a q (by decide) hh (HA.out.1.2.1 q))
  have H9 := Lib.hid (And.intro bM (And.intro dS Kj))
  obtain ⟨⟨z0, -⟩, zf, -⟩ := af Kj
  clear bM dS Kj
  go_wp2_with fail
  go_ret2
  have hF2 : ∀ b q, F b q -> b < w2.heap.size := fun b q hh => Nat.lt_of_lt_of_le (HH.out.2.1 b q hh) HA.out.2.1.size
  have hr := aN.lX (d := 0) (w' := w9.setCell ⟨a, 0, none⟩ (.slice A9 n9 c9)) HA.out.1 (fun _ => HH.out.2.2.1) hF2 (gB H9.out.2.2 (.slice A9 n9 c9))
   ((H9.out.2.1.mono (fun b q _ hh => .inl hh)).trans (OnlyC.aT w9 a 0 (.slice A9 n9 c9)) (fun b q _ e => .inr e.1)) ((H9.out.1.only (OnlyC.aT w9 a 0 (.slice A9 n9 c9)) (fun b q hh e => HA.out.1.own.2.2 1 b q (by decide) hh e.1)).mono (fun b q hh => .inl hh))
  rw [HH.out.2.2.1] at hr
  have hi2 := HH.out.2.2.2.1
  rw [sZ HV.out.1, hi2]
  have hlk : look key x.ps = some v := om (by rw [hi2]; exact HV.out.2)
  rw [show look key (aS 0 x) = some v from hlk]
  exact ⟨rfl, hr.1.mono (fun b q hh => hh.imp id (fun h => Nat.le_trans HA.out.2.1.size h)), (OnlyC.of_below HA.out.2.1 F).trans hr.2 (fun _ _ _ h => h)⟩
 ·simp only [Bool.not_eq_true] at hh
  have HV := Lib.hid hh
  rw [hh] at mA
  clear h hF hw hks hlen Hd hlx hh hi hu hhi
  go_enter Tryz.func143, Tryz.ntmps143
  go_wp2_with fail
  refine mA.out.mono ?_
  rintro e w2 ⟨rfl, hb2⟩
  have h2 := HH.out.1.below hb2
  obtain ⟨hd0, vp, vk, ak, H, hO, -⟩ := h2.open_
  have hp0 : ak = [] := List.eq_nil_of_length_eq_zero (by rw [hO.2.2.2.2.1, HH.out.2.2.1]; rfl)
  subst hp0
  obtain ⟨A2, c2, e2, -⟩ := hO.2.2.2.1.slice
  have e2 : vk = .slice A2 0 c2 := by simpa using e2
  subst e2
  have HA := Lib.hid (And.intro h2 hb2)
  obtain ⟨⟨z0, z1⟩, -, -⟩ := af hO.1
  have gV := Lib.hid (cP w2 a c2 A2 z1)
  clear mA h2 hd0 hO hb2 z0 z1
  go_wp2_with fail
  refine gV.out.mono ?_
  rintro e w3 ⟨rfl, hw3⟩
  subst hw3
  go_wp2_with fail
  go_ret2
  rw [qp HV.out, show look key (aS 0 x) = none from wJ HV.out]
  exact ⟨rfl, HA.out.1.mono (fun b q hh => .inl hh), OnlyC.of_below HA.out.2 F⟩
set_option maxHeartbeats 8000000 in
theorem Km (d o : Nat) (key : List UInt8) (ih : EU d o key) (ho : 2 <= o) (fq : o <= 16) (w : World) (a lo hi : Nat) (x : ND) (F : Nat -> Nat -> Prop) (h : ai w (d + 1) a x F) (hF : ∀ b q, F b q -> b < w.heap.size) (hw : dX (d + 1) o lo hi x) (hlo : 1 <= lo) (hhi : hi <= 900) (hu : Up (aS (d + 1) x)) (hh : hit key x.ps = false) :
  Calls Tryz.prog 143 #[.pointer (some ⟨a, 0, none⟩), .string ⟨key.toArray⟩, .int .i64 o] w (zg (d + 1) a (jT (d + 1) x key o) F (look key (aS (d + 1) x)) w) := by
 have hlen := hw.len
 have jG := hw.kids
 have Hd := qF hw hu
 have hlx : x.ps.length <= 1000 := by omega
 have hpos := dt key x.ps
 have mA := Lib.hid (find_ok w F a x key h.base Hd hlx)
 rw [hh] at mA
 have hk := cD (x := x) (i := posOf key x.ps) (by omega)
 have wk := hw.2.2.2 _ (List.mem_of_getElem? hk)
 have O4 : Up (aS d (aK x (posOf key x.ps))) := by
  have hu2 := hu
  rw [<- cN x] at hu2
  exact Up.kid jG hu2 hk
 have wl := (uo ho key wk (.inl (by omega)) O4).2
 have nB := iH hw (i := posOf key x.ps) (by omega) (by rw [show o - 1 - 1 = o - 2 by omega] at wl; exact wl)
 have kO : look key (aS (d + 1) x) = look key (aS d (aK x (posOf key x.ps))) := by
  have hu2 := hu
  rw [<- cN x] at hu2
  rw [<- cN x]
  exact uq jG hu2 hh hk
 rw [um hh, kO]
 clear kO wl
 obtain ⟨i, hi1⟩ : ∃ i, posOf key x.ps = i := ⟨_, rfl⟩
 rw [hi1] at mA hpos hk wk O4 nB ⊢
 have HH := Lib.hid (And.intro h (And.intro hF (And.intro hk (And.intro wk (And.intro O4 (And.intro nB (And.intro hlo (And.intro hhi ih))))))))
 clear h hF hw hlo hhi hu hh Hd hk wk O4 nB hi1 ih
 go_enter Tryz.func143, Tryz.ntmps143
 go_wp2_with fail
 refine mA.out.mono ?_
 rintro e w2 ⟨rfl, hb2⟩
 have h2 := HH.out.1.below hb2
 obtain ⟨-, vp, vk, ak, H, hO, -⟩ := h2.open_
 obtain ⟨l, hl⟩ : ∃ y, ak[i]? = some y := ⟨_, List.getElem?_eq_getElem (by rw [hO.2.2.2.2.1]; omega)⟩
 obtain ⟨bk, ok, ck, e0, -, -, r1⟩ := hO.2.2.2.1.ptr hl
 subst e0
 obtain ⟨nk, jn⟩ : ∃ y, ak.length = y := ⟨_, rfl⟩
 have jd := hO.2.2.2.2.1
 rw [jn] at hO jd
 have hF2 : ∀ b q, F b q -> b < w2.heap.size := fun b q hh => Nat.lt_of_lt_of_le (HH.out.2.1 b q hh) hb2.size
 have Bv := Lib.hid (HH.out.2.2.2.2.2.2.2.2 w2 l (o - 1) (2 * o - 1) (aK x i) (H (i + 3)) (hO.2.2.2.2.2.1 i l _ hl HH.out.2.2.1) (fun b q hh => hF2 b q (hO.own.1 _ b q hh)) HH.out.2.2.2.1 (.inl (by omega)) (by omega) HH.out.2.2.2.2.1)
 have HA := Lib.hid (And.intro hO (And.intro hb2 (And.intro hF2 hl)))
 obtain ⟨⟨-, z1⟩, -, -⟩ := af hO.1
 have gV := Lib.hid (dQ w2 a nk ck _ (by omega) z1)
 have j2 : (0 : Int) <= (i : Int) := by omega
 have j3 : (i : Int) < (nk : Int) := by omega
 have j4 : nk <= 1001 := by omega
 clear mA h2 hO hb2 hF2 hl jn jd hlen jG hlx hpos
 go_wp2_with fail
 refine gV.out.mono ?_
 rintro e w3 ⟨rfl, hw3⟩
 subst hw3
 go_wp2_with fail
 refine gV.out.mono ?_
 rintro e w3 ⟨rfl, hw3⟩
 subst hw3
 clear gV
 go_wp2_with fail
 refine Bv.out.mono ?_
 rintro e w3 ⟨rfl, jx, vM⟩
 obtain ⟨s0, hs0⟩ : ∃ s, (⟨((look key (aS d (aK x i))).getD []).toArray⟩ : ByteArray) = s := ⟨_, rfl⟩
 obtain ⟨b0, hb0⟩ : ∃ b, (look key (aS d (aK x i))).isSome = b := ⟨_, rfl⟩
 rw [hs0, hb0]
 have px := Lib.hid (And.intro hs0 hb0)
 have hr := HA.out.1.Bf HA.out.2.2.1 HH.out.2.2.1 HA.out.2.2.2 vM jx
 have hb4 := hr.1.bound
 have H4 := Lib.hid (And.intro hr.2 hb4)
 have HM := Lib.hid (uM w3 d a i o lo hi _ _ hb4 (fun b q hh => hh.2) HH.out.2.2.2.2.2.1 HH.out.2.2.2.2.2.2.1 HH.out.2.2.2.2.2.2.2.1 ho fq)
 clear Bv z1 r1 hr hb4 jx vM hs0 hb0
 go_wp2_with fail
 refine HM.out.mono ?_
 rintro e w5 ⟨rfl, EF, nv⟩
 have H5 := Lib.hid (And.intro EF nv)
 clear HM EF nv
 go_wp2_with fail
 go_ret2
 have h6 := HA.out.2.1.size
 have h7 := H4.out.1.size
 refine ⟨by rw [px.out.1, px.out.2]; rfl, H5.out.1.mono (fun b q hh => ?_), ((OnlyC.of_below HA.out.2.1 F).trans H4.out.1 (fun _ _ _ h => h)).trans H5.out.2 (fun b q hb hh => hh.1.elim id (fun h => by omega))⟩
 rcases hh with hh | hh
 ·exact hh.1.imp id (fun h => by omega)
 ·exact .inr (by omega)
set_option maxHeartbeats 8000000 in
theorem He (d o : Nat) (key : List UInt8) (ho : 2 <= o) (fq : o <= 16) (w : World) (a lo hi : Nat) (x : ND) (F : Nat -> Nat -> Prop) (h : ai w (d + 1) a x F) (hF : ∀ b q, F b q -> b < w.heap.size) (hw : dX (d + 1) o lo hi x) (hlo : 1 <= lo) (hhi : hi <= 900) (hu : Up (aS (d + 1) x)) (hh : hit key x.ps = true) :
  Calls Tryz.prog 143 #[.pointer (some ⟨a, 0, none⟩), .string ⟨key.toArray⟩, .int .i64 o] w (zg (d + 1) a (jT (d + 1) x key o) F (look key (aS (d + 1) x)) w) := by
 have hlen := hw.len
 have jG := hw.kids
 have Hd := qF hw hu
 have hlx : x.ps.length <= 1000 := by omega
 have hpos := dt key x.ps
 obtain ⟨v, hv⟩ := eG hh
 have kO : look key (aS (d + 1) x) = some v := by
  have hu2 := hu
  rw [<- cN x] at hu2 ⊢
  exact qq jG hu2 hh hv
 have mA := Lib.hid (find_ok w F a x key h.base Hd hlx)
 rw [hh] at mA
 have hk := cD (x := x) (i := posOf key x.ps) (by omega)
 have wk := hw.2.2.2 _ (List.mem_of_getElem? hk)
 have wl := (mX ho wk (by omega)).2
 rw [wI hh, kO]
 obtain ⟨i, hi1⟩ : ∃ i, posOf key x.ps = i := ⟨_, rfl⟩
 rw [hi1] at mA hpos hk wk wl hv ⊢
 obtain ⟨⟨zk, zv⟩, hz⟩ : ∃ p, (eO d (aK x i) o).2 = p := ⟨_, rfl⟩
 rw [hz]
 have Qm := (List.getElem?_eq_some_iff.1 hv).1
 have OU : dX (d + 1) o lo hi (lf x i (zk, zv)) := ⟨by simp [lf]; omega, by simp [lf]; omega, by simp [lf]; omega, hw.2.2.2⟩
 have nB := iH OU (i := i) (by show i < x.ks.length; omega) (by rw [show o - 1 - 1 = o - 2 by omega] at wl; exact wl)
 have HH := Lib.hid (And.intro h (And.intro hF (And.intro hk (And.intro wk (And.intro hv (And.intro nB (And.intro hlo (And.intro hhi hz))))))))
 clear h hF hw hlo hhi hu hh Hd hk wk wl nB hi1 hv OU kO
 go_enter Tryz.func143, Tryz.ntmps143
 go_wp2_with fail
 refine mA.out.mono ?_
 rintro e w2 ⟨rfl, hb2⟩
 have h2 := HH.out.1.below hb2
 obtain ⟨-, vp, vk, ak, H, hO, -⟩ := h2.open_
 obtain ⟨l, hl⟩ : ∃ y, ak[i]? = some y := ⟨_, List.getElem?_eq_getElem (by rw [hO.2.2.2.2.1]; omega)⟩
 obtain ⟨bk, ok, ck, e0, -, -, r1⟩ := hO.2.2.2.1.ptr hl
 subst e0
 obtain ⟨bn, on, cn, e0, -, -, s0, s1, -⟩ := hO.2.2.1.pair HH.out.2.2.2.2.1
 subst e0
 obtain ⟨nk, jn⟩ : ∃ y, ak.length = y := ⟨_, rfl⟩
 obtain ⟨np, kM⟩ : ∃ y, x.ps.length = y := ⟨_, rfl⟩
 have jd := hO.2.2.2.2.1
 have hin := hO.2.2.2.1.xG (i := i) (by rw [jd]; omega)
 rw [jn] at hO jd
 rw [kM] at hO
 have hF2 : ∀ b q, F b q -> b < w2.heap.size := fun b q hh => Nat.lt_of_lt_of_le (HH.out.2.1 b q hh) hb2.size
 have HA := Lib.hid (And.intro hO (And.intro hb2 (And.intro hF2 (And.intro hl (And.intro hin kM)))))
 obtain ⟨⟨z0, z1⟩, -, -⟩ := af hO.1
 have gV := Lib.hid (dQ w2 a nk ck _ (by omega) z1)
 have j2 : (0 : Int) <= (i : Int) := by omega
 have j3 : (i : Int) < (nk : Int) := by omega
 have j4 : nk <= 1001 := by omega
 have j5 : (i : Int) < (np : Int) := by omega
 have tS := And.intro z0 (And.intro z1 r1)
 clear mA h2 hO hb2 hF2 hl jn jd hlen jG hlx hpos hin kM Qm
 go_wp2_with fail
 refine gV.out.mono ?_
 rintro e w3 ⟨rfl, hw3⟩
 subst hw3
 go_wp2_with fail
 refine gV.out.mono ?_
 rintro e w3 ⟨rfl, hw3⟩
 subst hw3
 clear gV
 go_upto_region 11 with fail
 clear z0 z1 r1 s0 s1
 refine wp_region_held_drew (S := (fun W => W.cell? ⟨a, 0, none⟩ = some (.slice (some ⟨bn, on, none⟩) np cn) /\ W.cell? ⟨a, 1, none⟩ = some (.slice (some ⟨bk, ok, none⟩) nk ck) /\ W.cell? ⟨bk, ok + i, none⟩ = some (.pointer (some ⟨l, 0, none⟩)))) (by kernel_rfl) tS (fun hHeld => ?_)
 generalize hW3 : World.drew w2 = W3 at hHeld ⊢
 have hbW : Below w2.heap.size w2 W3 := hW3 ▸ (Below.refl _ _).drew
 have HB := Lib.hid (And.intro (aN.below (d := d + 1) HA.out.1 hbW) hbW)
 clear hW3 tS hbW
 refine aO [0, 1, 2, 3, 4, 5, 6, 7, 8, 9, 10, 11, 12] ?_
 iterate 13 (refine cI (v := ?_) (fun wS hSw => ?_) hHeld ?_; rotate_left; (obtain ⟨s0, s1, s2⟩ := hSw; go_simp; try with_reducible rfl); try simp only [av, ax, ay, az])
 refine aP ?_
 refine bg 13 (fun K hK => ?_)
 go_simp
 refine (Bw ho fq d W3 l (o - 1) (2 * o - 1) (aK x i) (H (i + 3)) (HB.out.1.2.2.2.2.2.1 i l _ HA.out.2.2.2.1 HH.out.2.2.1) (fun b q hh => Nat.lt_of_lt_of_le (HA.out.2.2.1 b q (HA.out.1.own.1 _ b q hh)) HB.out.2.size) HH.out.2.2.2.1 (by omega) (by omega)).mono ?_
 rintro e wn ⟨rfl, jx, vM⟩
 have HK := Lib.hid (And.intro jx vM)
 clear jx vM
 rw [HH.out.2.2.2.2.2.2.2.2]
 unfold Gk
 simp only
 try go_simp
 refine hK.out _ _ (fE hHeld HK.out.2 (HA.out.1.own.2.1 0 (i + 3) a 0 (by omega) (HA.out.1.2.1 0)) (HA.out.1.own.2.1 0 (i + 3) a 1 (by omega) (HA.out.1.2.1 1)) (HA.out.1.own.2.1 2 (i + 3) bk (ok + i) (by omega) HA.out.2.2.2.2.1)) (fun ae => ?_)
 clear hK K hHeld 
 have hHeld := ae
 clear ae
 try simp only [av, ax, ay, az]
 refine fL 14 (v := ?_) (fun wS hSw => ?_) hHeld ?_
 rotate_left
 ·obtain ⟨s0, s1, s2⟩ := hSw; go_simp; try with_reducible rfl
 try simp only [av, ax, ay, az]
 refine bg 15 (fun K hK => ?_)
 have hs4 := (HB.out.1.2.2.1.only HK.out.2 (fun b q => HA.out.1.own.2.1 1 (i + 3) b q (by omega)))
 obtain ⟨⟨c5, c6⟩, f5, f6⟩ := hs4.iR HH.out.2.2.2.2.1
 go_simp
 refine hK.out _ _ (fE hHeld ((HB.out.1.2.2.1.only HK.out.2 (fun b q => HA.out.1.own.2.1 1 (i + 3) b q (by omega))).eo (i := i) zk zv (List.getElem?_eq_some_iff.1 HH.out.2.2.2.2.1).1).2 (fun hh => HA.out.1.own.2.2 1 a 0 (by decide) hh rfl) (fun hh => HA.out.1.own.2.2 1 a 1 (by decide) hh rfl) (fun hh => HA.out.1.own.2.1 1 2 bk (ok + i) (by decide) hh HA.out.2.2.2.2.1)) (fun ae => ?_)
 clear hK K hHeld hs4 c5 c6 f5 f6
 have hHeld := ae
 clear ae
 try simp only [av, ax, ay, az]
 refine wpAnyH_done (by kernel_rfl) ?_ _
 clear hHeld
 have hr := HB.out.1.Bf (fun b q hh => Nat.lt_of_lt_of_le (HA.out.2.2.1 b q hh) HB.out.2.size) HH.out.2.2.1 HA.out.2.2.2.1 HK.out.2 HK.out.1
 obtain ⟨-, Wn, Wo, Sg, H5, jd, -⟩ := hr.1.bound.open_
 have Si := HK.out.2.heap HB.out.1.1 (fun q hh => HA.out.1.own.2.1 0 (i + 3) a q (by omega) (HA.out.1.2.1 q) hh)
 have Sj := jd.1.symm.trans Si
 simp only [Option.some.injEq, Obj.cells.injEq, Array.mk.injEq, List.cons.injEq, and_true] at Sj
 obtain ⟨e5, e6⟩ := Sj
 subst e5
 have hsp := jd.2.2.1.eo (i := i) zk zv (List.getElem?_eq_some_iff.1 HH.out.2.2.2.2.1).1
 have O5 := jd.lX (w' := ((wn.setCell ⟨bn, on + i * 2, none⟩ (.string ⟨zk.toArray⟩)).setCell ⟨bn, on + i * 2 + 1, none⟩ (.string ⟨zv.toArray⟩))) (fun e => by omega) (fun b q hh => hh.2) (hsp.2.heap jd.1 (fun q hh => jd.own.2.1 1 0 a q (by decide) hh (jd.2.1 q))) (hsp.2.mono (fun _ _ _ hh => .inl hh)) (hsp.1.mono (fun _ _ hh => .inl hh))
 generalize ((wn.setCell ⟨bn, on + i * 2, none⟩ (.string ⟨zk.toArray⟩)).setCell ⟨bn, on + i * 2 + 1, none⟩ (.string ⟨zv.toArray⟩)) = w4 at O5 ⊢
 have hb4 := O5.1.bound
 have HM := Lib.hid (uM w4 d a i o lo hi _ _ hb4 (fun b q hh => hh.2) HH.out.2.2.2.2.2.1 HH.out.2.2.2.2.2.2.1 HH.out.2.2.2.2.2.2.2.1 ho fq)
 have H4 := Lib.hid (And.intro hr.2 (And.intro O5.2 hb4))
 clear hr jd Si e6 hsp O5 hb4
 go_wp2_with fail
 refine HM.out.mono ?_
 rintro e w5 ⟨rfl, EF, nv⟩
 have H5 := Lib.hid (And.intro EF nv)
 clear HM EF nv
 go_wp2_with fail
 go_ret2
 have h6 := HA.out.2.1.size
 have h7 := H4.out.1.size
 have h8 := H4.out.2.1.size
 have h9 := HB.out.2.size
 have oA : OnlyC F w w4 := (((OnlyC.of_below HA.out.2.1 F).trans (OnlyC.of_below HB.out.2 F) (fun _ _ _ h => h)).trans H4.out.1 (fun _ _ _ h => h)).trans H4.out.2.1 (fun b q hb hh => hh.1.elim id (fun h => by omega))
 refine ⟨rfl, H5.out.1.mono (fun b q hh => ?_), oA.trans H5.out.2 (fun b q hb hh => hh.1.elim (fun h => h.1.elim id (fun h => by omega)) (fun h => by omega))⟩
 rcases hh with hh | hh
 ·rcases hh.1 with hh | hh
  ·exact hh.1.imp id (fun h => by omega)
  ·exact .inr (by omega)
 ·exact .inr (by omega)
theorem EX {o : Nat} (ho : 2 <= o) (fq : o <= 16) (key : List UInt8) : ∀ d, EU d o key
 | 0 => EW o key
 | d + 1 => fun w a lo hi x F h hF hw hlo hhi hu => by
  have M4 : 1 <= lo := by rcases hlo with h | h; exact h; omega
  by_cases hh : hit key x.ps = true
  ·exact He d o key ho fq w a lo hi x F h hF hw M4 hhi hu hh
  ·simp only [Bool.not_eq_true] at hh
   exact Km d o key (EX ho fq key d) ho fq w a lo hi x F h hF hw M4 hhi hu hh
def EY (T o : Nat) (l : List Pr) (key : List UInt8) (F : Nat -> Nat -> Prop) (w : World) (e : Ending) (w' : World) : Prop :=
 e = .returned (.tuple #[.string ⟨((look key l).getD []).toArray⟩, .int .i64 (if (look key l).isSome then 0 else 14)]) /\ bD w' T o (del key l) (fun b q => F b q \/ w.heap.size <= b) /\ OnlyC F w w'
theorem pZ {w W9 : World} {T o d r : Nat} {l : List Pr} {y : ND} {F K9 : Nat -> Nat -> Prop} {key : List UInt8} {cnt : Int} (hup : Up l) (ho : 2 <= o) (fq : o <= 16) (DD : ∀ q, F T q)
  (k9 : W9.heap[T]? = some (.cells #[.int .i64 o, .int .i64 cnt, .pointer (some ⟨r, 0, none⟩)] 203 (0, 0))) (Ke : cnt = (del key l).length) (hn : ai W9 d r y K9) (hK : ∀ b q, K9 b q -> F b q \/ w.heap.size <= b) (G9 : ∀ q, ¬ K9 T q)
  (hwf : dX d o (if d = 0 then 0 else 1) (2 * o - 1) y) (htl : aS d y = del key l) : bD W9 T o (del key l) (fun b q => F b q \/ w.heap.size <= b) := by
 subst Ke
 exact ⟨d, r, y, K9, k9, hn, hwf, htl, by rw [del_eq]; exact jU hup, ⟨ho, fq⟩, hK, fun q => .inl (DD q), G9⟩
theorem tD {o : Nat} (key : List UInt8) : ∀ {d lo hi : Nat} {x : ND}, dX d o lo hi x -> Up (aS d x) -> look key (aS d x) = none -> jT d x key o = x
 | 0, lo, hi, x, hw, hu, hl => by
  by_cases hh : hit key x.ps = true
  ·obtain ⟨v, hv⟩ := eG hh
   have h1 : look key x.ps = some v := om hv
   rw [show look key (aS 0 x) = look key x.ps from rfl, h1] at hl
   cases hl
  ·exact qp (by simpa using hh)
 | d + 1, lo, hi, x, hw, hu, hl => by
  have jG := hw.kids
  have hpos := dt key x.ps
  have hk := cD (x := x) (i := posOf key x.ps) (by omega)
  have hu2 := hu
  rw [<- cN x] at hu2
  by_cases hh : hit key x.ps = true
  ·obtain ⟨v, hv⟩ := eG hh
   have h1 := qq jG hu2 hh hv
   rw [cN, hl] at h1
   cases h1
  ·simp only [Bool.not_eq_true] at hh
   have h1 := uq jG hu2 hh hk
   rw [cN, hl] at h1
   have wk := hw.2.2.2 _ (List.mem_of_getElem? hk)
   have ih := tD key wk (Up.kid jG hu2 hk) h1.symm
   have hs : mK x (posOf key x.ps) (aK x (posOf key x.ps)) = x := by
    unfold mK
    rw [<- cS hk, cN]
   rw [um hh, ih, hs]
   unfold ib
   rw [if_pos wk.len.1]
theorem uO {key : List UInt8} {l : List Pr} (h : (look key l).isSome = false) : (del key l) = l := by
 rw [del_eq]
 refine oo ?_
 rw [look_eq] at h
 cases e : aI key l with
 | none => rfl
 | some v => rw [e] at h; simp at h
theorem uP {key : List UInt8} {l : List Pr} (h : (look key l).isSome = true) : (del key l).length + 1 = l.length := by
 rw [del_eq]
 rw [look_eq] at h
 cases e : aI key l with
 | none => rw [e] at h; simp at h
 | some v => exact DV e
set_option maxHeartbeats 4000000 in
theorem zn (w : World) (T o : Nat) (l : List Pr) (F : Nat -> Nat -> Prop) (key : List UInt8) (h : bD w T o l F) (hF : ∀ b q, F b q -> b < w.heap.size) (hk1 : 1 <= key.length) (hk2 : key.length <= 64) (hl : l.length <= 1000000) :
  Calls Tryz.prog 98 #[.pointer (some ⟨T, 0, none⟩), .string ⟨key.toArray⟩] w (EY T o l key F w) := by
 obtain ⟨d, r, x, KK, k0, hn, hwf, htl, hup, ⟨ho, fq⟩, MH, DD, G9⟩ := h
 obtain ⟨⟨t0, -, t2⟩, -, -⟩ := dw k0
 have tS := And.intro t0 t2
 have HC := Lib.hid (iy w T ⟨key.toArray⟩ (by exact hk1) (by exact hk2))
 have Kn := uo ho key hwf (by by_cases e : d = 0; exact .inr e; exact .inl (by rw [if_neg e]; exact Nat.le_refl _)) (by rw [htl]; exact hup)
 rw [htl] at Kn
 have CF := Lib.hid Kn
 have HA := Lib.hid (And.intro k0 (And.intro hn (And.intro hwf (And.intro htl (And.intro hup (And.intro ho (And.intro fq (And.intro MH (And.intro DD (And.intro G9 (And.intro hF hl)))))))))))
 clear k0 hn hwf htl hup ho fq MH DD G9 hF hl hk1 hk2 t0 t2 Kn
 go_enter Tryz.func98, Tryz.ntmps98
 go_wp2_with fail
 refine HC.out.mono ?_
 rintro e w1 ⟨rfl, hw1⟩
 obtain rfl : w = w1 := hw1.symm
 clear HC
 go_upto_region 4 with fail
 refine wp_region_held_drew (S := (fun W => W.cell? ⟨T, 0, none⟩ = some (.int .i64 o) /\ W.cell? ⟨T, 2, none⟩ = some (.pointer (some ⟨r, 0, none⟩)))) (by kernel_rfl) tS (fun hHeld => ?_)
 generalize hW3 : World.drew w = W3 at hHeld ⊢
 have HB := Lib.hid (show ai W3 d r x KK /\ W3.heap[T]? = some (.cells #[.int .i64 o, .int .i64 l.length, .pointer (some ⟨r, 0, none⟩)] 203 (0, 0)) /\ Below w.heap.size w W3 from hW3 ▸ ⟨HA.out.2.1.below (Below.refl _ _).drew, HA.out.1, (Below.refl _ _).drew⟩)
 clear hW3 tS
 refine aO [0, 1, 2, 3, 4, 5, 6, 7, 8] ?_
 iterate 9 (refine cI (v := ?_) (fun wS hSw => ?_) hHeld ?_; rotate_left; (obtain ⟨s0, s1⟩ := hSw; go_simp; try with_reducible rfl); try simp only [av, ax, ay, az])
 refine aP ?_
 refine bg 9 (fun K hK => ?_)
 go_simp
 refine (EX HA.out.2.2.2.2.2.1 HA.out.2.2.2.2.2.2.1 key d W3 r _ _ x KK HB.out.1 (fun b q hh => Nat.lt_of_lt_of_le (HA.out.2.2.2.2.2.2.2.2.2.2.1 b q (HA.out.2.2.2.2.2.2.2.1 b q hh)) HB.out.2.2.size) HA.out.2.2.1 (by by_cases e : d = 0; exact .inr e; exact .inl (by rw [if_neg e]; exact Nat.le_refl _)) (by have := HA.out.2.2.2.2.2.2.1; omega) (by rw [HA.out.2.2.2.1]; exact HA.out.2.2.2.2.1)).mono ?_
 rintro e wn ⟨rfl, I9, how⟩
 have HK := Lib.hid (And.intro I9 how)
 clear I9 how
 rw [HA.out.2.2.2.1]
 try go_simp
 refine hK.out _ _ (cG hHeld HK.out.2 (HA.out.2.2.2.2.2.2.2.2.2.1 0) (HA.out.2.2.2.2.2.2.2.2.2.1 2)) (fun ae => ?_)
 clear hK K hHeld 
 have hHeld := ae
 clear ae
 try simp only [av, ax, ay, az]
 refine aO [10, 11, 12, 13, 14] ?_
 iterate 5 (refine cI (v := ?_) (fun wS hSw => ?_) hHeld ?_; rotate_left; (obtain ⟨s0, s1⟩ := hSw; go_simp; try with_reducible rfl); try simp only [av, ax, ay, az])
 refine aP ?_
 refine wpAnyH_done (by kernel_rfl) ?_ _
 clear hHeld
 obtain ⟨b0, hb0⟩ : ∃ b, (look key l).isSome = b := ⟨_, rfl⟩
 obtain ⟨s0, hs0⟩ : ∃ s, (⟨((look key l).getD []).toArray⟩ : ByteArray) = s := ⟨_, rfl⟩
 rw [hs0, hb0]
 have px := Lib.hid (And.intro hs0 hb0)
 clear hs0 hb0
 have k4 := HK.out.2.heap HB.out.2.1 HA.out.2.2.2.2.2.2.2.2.2.1
 have Kf : OnlyC F w wn := (OnlyC.of_below HB.out.2.2 F).trans HK.out.2 (fun b q _ hh => HA.out.2.2.2.2.2.2.2.1 b q hh)
 have Ja : T < w.heap.size := lt_of_heap HA.out.1
 have kU := Lib.hid Ja
 clear Ja
 have M5 : ∀ q, ¬ (KK T q \/ W3.heap.size <= T) := fun q hh => hh.elim (HA.out.2.2.2.2.2.2.2.2.2.1 q) (fun h => by have := kU.out; have := HB.out.2.2.size; omega)
 have H4 := Lib.hid (And.intro k4 (And.intro Kf M5))
 clear k4 Kf M5
 cases b0 with
 | false =>
  go_wp2_with fail
  go_ret2
  have Sk := uO px.out.2
  have hnone : look key l = none := by cases e : look key l with | none => rfl | some v => have h1 := px.out.2; rw [e] at h1; simp at h1
  have hsame := tD (o := o) key HA.out.2.2.1 (by rw [HA.out.2.2.2.1]; exact HA.out.2.2.2.2.1) (by rw [HA.out.2.2.2.1]; exact hnone)
  have hnd := HK.out.1
  rw [hsame] at hnd
  have hte := pZ (F := F) (w := w) (cnt := (l.length : Int)) HA.out.2.2.2.2.1 HA.out.2.2.2.2.2.1 HA.out.2.2.2.2.2.2.1 HA.out.2.2.2.2.2.2.2.2.1 H4.out.1 (by rw [Sk]) hnd (fun b q hh => hh.elim (fun h => .inl (HA.out.2.2.2.2.2.2.2.1 b q h)) (fun h => .inr (Nat.le_trans HB.out.2.2.size h))) H4.out.2.2 HA.out.2.2.1 (by rw [Sk]; exact HA.out.2.2.2.1)
  refine ⟨?_, hte, H4.out.2.1⟩
  rw [hnone]
  rfl
 | true =>
  obtain ⟨⟨-, t1, -⟩, Qg, -⟩ := dw H4.out.1
  have il : (l.length : Int) <= 1000000 := by have := HA.out.2.2.2.2.2.2.2.2.2.2.2; omega
  have hds := uP px.out.2
  have Wp : (1 : Int) <= (l.length : Int) := by omega
  have Qn := Lib.hid hds
  clear hds
  go_upto_region 8 with fail
  have k5 := Bq H4.out.1 (.int .i64 ((l.length : Int) - 1))
  have Jb := (HK.out.1.only (OnlyC.aT wn T 1 (.int .i64 ((l.length : Int) - 1))) (fun b q hh e => by have e1 := e.1; rw [e1] at hh; exact H4.out.2.2 q hh)).bound
  have Kh := H4.out.2.1.trans (OnlyC.aT wn T 1 (.int .i64 ((l.length : Int) - 1))) (fun b q _ e => by obtain ⟨rfl, rfl⟩ := e; exact HA.out.2.2.2.2.2.2.2.2.1 _)
  clear t1 Qg
  generalize wn.setCell ⟨T, 1, none⟩ (.int .i64 ((l.length : Int) - 1)) = W9 at k5 Jb Kh ⊢
  obtain ⟨hd0, Qb, Qc, xC, H3, hO, -⟩ := Jb.open_
  obtain ⟨A3, c3, e3, -⟩ := hO.2.2.1.slice
  rw [List.length_map] at e3
  subst e3
  obtain ⟨A4, c4, e4, -⟩ := hO.2.2.2.1.slice
  rw [List.length_map] at e4
  subst e4
  obtain ⟨n3, jx⟩ : ∃ y, (jT d x key o).ps.length = y := ⟨_, rfl⟩
  obtain ⟨nk, jn⟩ : ∃ y, xC.length = y := ⟨_, rfl⟩
  rw [jx, jn] at hO
  obtain ⟨⟨z0, z1⟩, -, -⟩ := af hO.1
  obtain ⟨⟨-, -, t2⟩, -, Ws⟩ := dw k5
  have HX := Lib.hid (And.intro k5 (And.intro Jb (And.intro Kh (And.intro hd0 (And.intro hO (And.intro jx jn))))))
  have hres : look key l = some ((look key l).getD []) := by cases e : look key l with | none => have h1 := px.out.2; rw [e] at h1; simp at h1 | some v => rfl
  have zi := Lib.hid hres
  clear k5 Jb Kh hd0 hO jx hres
  by_cases hz : n3 = 0
  ·subst hz
   by_cases hk : nk = 0
   ·have M6 : d = 0 := by
     cases d with
     | zero => rfl
     | succ d1 =>
      have h1 := CF.out.2.kids
      have h2 := HX.out.2.2.2.2.1.2.2.2.2.1
      have h3 := HX.out.2.2.2.2.2.2
      have h4 := HX.out.2.2.2.2.2.1
      omega
    have HD := Lib.hid M6
    subst hk
    have HL := Lib.hid (cP W9 r c4 A4 z1)
    clear M6
    go_wp2_with fail
    refine HL.out.mono ?_
    rintro e wL ⟨rfl, Qo⟩
    subst Qo
    go_wp2_with fail
    go_ret2
    have hte := pZ (F := F) (w := w) (cnt := (l.length : Int) - 1) HA.out.2.2.2.2.1 HA.out.2.2.2.2.2.1 HA.out.2.2.2.2.2.2.1 HA.out.2.2.2.2.2.2.2.2.1 HX.out.1 (by have := Qn.out; omega) HX.out.2.1 (fun b q hh => hh.1.elim (fun h => .inl (HA.out.2.2.2.2.2.2.2.1 b q h)) (fun h => .inr (Nat.le_trans HB.out.2.2.size h))) (fun q hh => H4.out.2.2 q hh.1) (CF.out.2.re (by rw [if_pos (HD.out)]; exact Nat.zero_le _) CF.out.2.len.2) CF.out.1
    exact ⟨by rw [px.out.1, px.out.2]; rfl, hte, HX.out.2.2.1⟩
   ·obtain ⟨d1, rfl⟩ : ∃ d1, d = d1 + 1 := by
     cases d with
     | zero =>
      exfalso
      have h1 := CF.out.2.none
      have h2 := HX.out.2.2.2.2.1.2.2.2.2.1
      have h3 := HX.out.2.2.2.2.2.2
      rw [h1] at h2
      simp at h2
      subst h2
      simp at h3
      omega
     | succ d1 => exact ⟨d1, rfl⟩
    obtain ⟨l0, hl0⟩ : ∃ y, xC[0]? = some y := ⟨_, List.getElem?_eq_getElem (by have := HX.out.2.2.2.2.2.2; omega)⟩
    obtain ⟨k9, Bb⟩ : ∃ y, (jT (d1 + 1) x key o).ks[0]? = some y := ⟨_, List.getElem?_eq_getElem (by have := CF.out.2.kids; omega)⟩
    obtain ⟨bk, ok, ck, e5, -, -, r1⟩ := HX.out.2.2.2.2.1.2.2.2.1.ptr hl0
    simp only [Value.slice.injEq] at e5
    obtain ⟨rfl, -, rfl⟩ := e5
    rw [Nat.add_zero] at r1
    have O6 := Lib.hid (And.intro hl0 Bb)
    have j1 : (0 : Int) < (nk : Int) := by omega
    have j2 : nk <= 1000000 := by have h1 := CF.out.2.kids; have h2 := HX.out.2.2.2.2.1.2.2.2.2.1; have h3 := HX.out.2.2.2.2.2.2; have h4 := HX.out.2.2.2.2.2.1; omega
    have HL := Lib.hid (dQ W9 r nk c4 _ (by omega) z1)
    clear hl0 Bb hk
    go_wp2_with fail
    refine HL.out.mono ?_
    rintro e wL ⟨rfl, Qo⟩
    subst Qo
    go_wp2_with fail
    go_ret2
    have Qp := HX.out.2.2.2.2.1.2.2.2.2.2.1 0 l0 k9 O6.out.1 O6.out.2
    have hwk := CF.out.2.2.2.2 k9 (List.mem_of_getElem? O6.out.2)
    have EZ := fun b q (hh : H3 3 b q) => HX.out.2.2.2.2.1.own.1 3 b q hh
    have M7 := (show ai W9 d1 l0 k9 (H3 3) from Qp).only (OnlyC.aT W9 T 2 (.pointer (some ⟨l0, 0, none⟩))) (fun b q hh e => by have e1 := e.1; rw [e1] at hh; exact H4.out.2.2 q (EZ _ q hh).1)
    have hks : (jT (d1 + 1) x key o).ks = [k9] := by
     have h1 := CF.out.2.kids
     have h4 := HX.out.2.2.2.2.2.1
     rw [h4] at h1
     match hq : (jT (d1 + 1) x key o).ks, h1 with
     | [y], _ =>
      have h5 := O6.out.2
      rw [hq] at h5
      simpa using h5
    have Qq : aS d1 k9 = del key l := by
     rw [<- CF.out.1]
     have hps : (jT (d1 + 1) x key o).ps = [] := List.eq_nil_of_length_eq_zero HX.out.2.2.2.2.2.1
     show _ = flat ((jT (d1 + 1) x key o).ks.map (aS d1)) (jT (d1 + 1) x key o).ps
     rw [hks, hps]
     rfl
    have hte := pZ (F := F) (w := w) (cnt := (l.length : Int) - 1) HA.out.2.2.2.2.1 HA.out.2.2.2.2.2.1 HA.out.2.2.2.2.2.2.1 HA.out.2.2.2.2.2.2.2.2.1 (uH HX.out.1 (.pointer (some ⟨l0, 0, none⟩))) (by have := Qn.out; omega) M7 (fun b q hh => (EZ b q hh).1.elim (fun h => .inl (HA.out.2.2.2.2.2.2.2.1 b q h)) (fun h => .inr (Nat.le_trans HB.out.2.2.size h))) (fun q hh => H4.out.2.2 q (EZ _ q hh).1) (hwk.re (by have h1 := hwk.len.1; have := HA.out.2.2.2.2.2.1; split <;> omega) hwk.len.2) Qq
    exact ⟨by rw [px.out.1, px.out.2]; rfl, hte, HX.out.2.2.1.trans (OnlyC.aT W9 T 2 _) (fun b q _ e => by obtain ⟨rfl, rfl⟩ := e; exact HA.out.2.2.2.2.2.2.2.2.1 _)⟩
  ·have hz2 : ((n3 : Int) == 0) = false := by rw [beq_eq_false_iff_ne]; omega
   have HZ := Lib.hid hz
   go_wp2_with fail
   go_ret2
   have hte := pZ (F := F) (w := w) (cnt := (l.length : Int) - 1) HA.out.2.2.2.2.1 HA.out.2.2.2.2.2.1 HA.out.2.2.2.2.2.2.1 HA.out.2.2.2.2.2.2.2.2.1 HX.out.1 (by have := Qn.out; omega) HX.out.2.1 (fun b q hh => hh.1.elim (fun h => .inl (HA.out.2.2.2.2.2.2.2.1 b q h)) (fun h => .inr (Nat.le_trans HB.out.2.2.size h))) (fun q hh => H4.out.2.2 q hh.1) (CF.out.2.re (by have h1 := HX.out.2.2.2.2.2.1; have h2 := HZ.out; split <;> omega) CF.out.2.len.2) CF.out.1
   exact ⟨by rw [px.out.1, px.out.2]; rfl, hte, HX.out.2.2.1⟩
def qT : Nat -> World -> Value -> Nat
 | 0, _, _ => 0
 | f + 1, w, .pointer (some ⟨p, _, _⟩) => match w.cell? ⟨p, 1, none⟩ with
  | some (.slice (some ad) (_ + 1) _) => match w.cell? ad with
   | some q => qT f w q + 1
   | none => 0
  | _ => 0
 | _ + 1, _, _ => 0
theorem jI {w : World} {o : Nat} : ∀ (d f lo : Nat) (p : Nat) (x : ND) (K : Nat -> Nat -> Prop), ai w d p x K -> dX d o lo (2 * o - 1) x -> d <= f -> qT f w (.pointer (some ⟨p, 0, none⟩)) = d
 | 0, 0, _, _, _, _, _, _, _ => rfl
 | 0, f + 1, lo, p, x, K, h, hw, _ => by
  obtain ⟨hd0, vp, vk, ak, H, hO, _⟩ := h.open_
  have hp0 : ak = [] := List.eq_nil_of_length_eq_zero (by rw [hO.2.2.2.2.1, hd0 rfl]; rfl)
  subst hp0
  obtain ⟨A, c, e, _⟩ := hO.2.2.2.1.slice
  have e : vk = .slice A 0 c := by simpa using e
  subst e
  have z1 := (af hO.1).1.2
  simp only [qT, z1]
 | d + 1, 0, _, _, _, _, _, _, hf => by omega
 | d + 1, f + 1, lo, p, x, K, h, hw, hf => by
  obtain ⟨hd0, vp, vk, ak, H, hO, _⟩ := h.open_
  have hkl := hw.kids
  obtain ⟨k, hk⟩ : ∃ k, x.ks[0]? = some k := ⟨_, List.getElem?_eq_getElem (by omega)⟩
  obtain ⟨l, hl⟩ : ∃ l, ak[0]? = some l := ⟨_, List.getElem?_eq_getElem (by rw [hO.2.2.2.2.1]; omega)⟩
  obtain ⟨b, off, c, rfl, _, _, r2⟩ := hO.2.2.2.1.ptr hl
  have z1 := (af hO.1).1.2
  have ih := jI d f _ l k _ (show ai w d l k _ from hO.2.2.2.2.2.1 0 l k hl hk) (hw.2.2.2 k (List.mem_of_getElem? hk)) (by omega)
  obtain ⟨n, hn⟩ : ∃ n, ak.length = n + 1 := ⟨ak.length - 1, by have := (List.getElem?_eq_some_iff.1 hl).1; omega⟩
  rw [hn] at z1
  rw [Nat.add_zero] at r2
  simp only [qT, z1, r2, ih]
def Qr (c : Option Pr) : List UInt8 := (c.map Prod.fst).getD []
def Qs (c : Option Pr) : List UInt8 := (c.map Prod.snd).getD []
def O7 (c : Option Pr) : Int := if c.isSome then 0 else 14
def Ji (o d0 : Nat) (key : List UInt8) (l : List Pr) (w : World) (k v e q : Value) (wr : World) : Prop :=
 ∃ (d p lo : Nat) (x : ND) (KK : Nat -> Nat -> Prop) (c : Option Pr), k = .string ⟨(Qr c).toArray⟩ /\ v = .string ⟨(Qs c).toArray⟩ /\ e = .int .i64 (O7 c) /\ q = .pointer (some ⟨p, 0, none⟩) /\ ai wr d p x KK /\ dX d o lo (2 * o - 1) x /\ Up (aS d x) /\ (ceil key (aS d x)).or c = ceil key l /\ Below w.heap.size w wr /\ d <= d0
def M8 (key : List UInt8) (l : List Pr) (w : World) (e : Ending) (w' : World) : Prop :=
 e = .returned (.tuple #[.string ⟨(Qr (ceil key l)).toArray⟩, .string ⟨(Qs (ceil key l)).toArray⟩, .int .i64 (O7 (ceil key l))]) /\ Below w.heap.size w w'
theorem qU {o d : Nat} {key : List UInt8} {x : ND} {lo : Nat} (hw : dX d o lo (2 * o - 1) x) (hu : Up (aS d x)) (h : d = 0 \/ hit key x.ps = true) : ceil key (aS d x) = x.ps[posOf key x.ps]? := by
 cases d with
 | zero => exact jA _
 | succ d =>
  rcases h with h | h
  ·omega
  ·rw [<- cN x] at hu ⊢
   exact wh hw.kids hu h
theorem tE {o d : Nat} {key : List UInt8} {x k : ND} {lo : Nat} (hw : dX (d + 1) o lo (2 * o - 1) x) (hu : Up (aS (d + 1) x)) (hk : x.ks[posOf key x.ps]? = some k) (c : Option Pr) : (ceil key (aS (d + 1) x)).or c = (ceil key (aS d k)).or (x.ps[posOf key x.ps]?.or c) := by
 have := ui (d := d) (ps := x.ps) (ks := x.ks) hw.kids (by rw [cN]; exact hu) hk
 rw [cN] at this
 rw [this, Option.or_assoc]
set_option maxHeartbeats 4000000 in
theorem Hf (w : World) (T o : Nat) (l : List Pr) (F : Nat -> Nat -> Prop) (key : List UInt8) (h : bD w T o l F) : Calls Tryz.prog 132 #[.pointer (some ⟨T, 0, none⟩), .string ⟨key.toArray⟩] w (M8 key l w) := by
 obtain ⟨d0, r, x0, K0, k0, hn0, M9, Ko, Na, ⟨ho, fq⟩, -, -, -⟩ := h
 have c2 : w.cell? ⟨T, 2, none⟩ = some (.pointer (some ⟨r, 0, none⟩)) := by simp [World.cell?, k0]
 have H0 := Lib.hid (show Ji o d0 key l w (.string ⟨#[]⟩) (.string ⟨#[]⟩) (.int .i64 14) (.pointer (some ⟨r, 0, none⟩)) w from ⟨d0, r, _, x0, K0, none, rfl, rfl, rfl, rfl, hn0, M9, Ko ▸ Na, by rw [Ko, Option.or_none], Below.refl _ _, Nat.le_refl _⟩)
 clear k0 hn0 M9 Ko Na ho
 go_enter Tryz.func132, Tryz.ntmps132
 go_wp2_with fail
 go_step3
 go_wp2_with fail
 go_step3
 go_wp2_with fail
 go_loopw [4, 5, 6, 7] (fun k v e q wr => Ji o d0 key l w k v e q wr) (fun _ _ _ q wr => qT d0 wr q)
 case atStart => exact H0.out
 case round =>
  obtain ⟨d, p, lo, x, KK, c, rfl, rfl, rfl, rfl, hn, hw, hu, hce, hb, hd⟩ := hrel
  have hlen : x.ps.length <= 1000 := by have := hw.len; omega
  have HF := Lib.hid (find_ok wr KK p x key hn.base (qF hw hu) hlen)
  have hpos := dt key x.ps
  obtain ⟨i, hi⟩ : ∃ i, posOf key x.ps = i := ⟨_, rfl⟩
  rw [hi] at HF hpos
  have HR := Lib.hid (And.intro hn (And.intro hw (And.intro hu (And.intro hce (And.intro hb (And.intro hd hi))))))
  clear hn hw hu hce hb hd hi
  go_wp2_with fail
  refine HF.out.mono ?_
  rintro e w2 ⟨rfl, hb2⟩
  clear HF
  have pM := HR.out.1.below hb2
  obtain ⟨hd0, vp, vk, ak, H, hO, -⟩ := pM.open_
  obtain ⟨A, cp, e1, -⟩ := hO.2.2.1.slice
  rw [List.length_map] at e1
  subst e1
  obtain ⟨A2, ck, e2, -⟩ := hO.2.2.2.1.slice
  rw [List.length_map] at e2
  subst e2
  obtain ⟨nk, jn⟩ : ∃ y, ak.length = y := ⟨_, rfl⟩
  rw [jn] at hO
  obtain ⟨⟨z0, z1⟩, -, -⟩ := af hO.1
  have H2 := Lib.hid (And.intro pM (And.intro hd0 (And.intro hO (And.intro hb2 jn))))
  obtain ⟨n, hnn⟩ : ∃ n, x.ps.length = n := ⟨_, rfl⟩
  rw [hnn] at z0 hpos
  have HN := Lib.hid hnn
  clear pM hd0 hO hb2 jn hnn
  by_cases hlt : i < n
  ·obtain ⟨pr, hp⟩ : ∃ pr, x.ps[posOf key x.ps]? = some pr := ⟨_, List.getElem?_eq_getElem (by rw [HR.out.2.2.2.2.2.2, HN.out]; exact hlt)⟩
   have HC := Lib.hid hp
   have hp2 := hp
   rw [HR.out.2.2.2.2.2.2] at hp2
   obtain ⟨b, off, UW, e1, -, -, y0, y1, -⟩ := H2.out.2.2.1.2.2.1.pair hp2
   rw [HN.out] at e1
   simp only [Value.slice.injEq, true_and] at e1
   obtain ⟨rfl, rfl⟩ := e1
   have i1 : (0 : Int) <= (i : Int) := by omega
   have i3 : (i : Int) < (n : Int) := by omega
   obtain ⟨bh, Qt⟩ : ∃ y, hit key x.ps = y := ⟨_, rfl⟩
   have HB := Lib.hid Qt
   rw [Qt]
   clear hp hp2 Qt
   cases bh with
   | true =>
    go_wp2_with fail
    go_quiet (fail)
    go_wp2_with fail
    rw [Exit.noGoto_ret]
    go_ret3
    obtain ⟨hn, hw, hu, hce, hb, hd, hi⟩ := HR.out
    have hE := qU (key := key) hw hu (.inr HB.out)
    rw [HC.out] at hE
    rw [hE] at hce
    have hce : (some pr).or c = ceil key l := hce
    refine ⟨by rw [<- hce]; rfl, ?_⟩
    exact HR.out.2.2.2.2.1.trans (Below.mono (au H2.out.2.2.2.1 _) HR.out.2.2.2.2.1.size)
   | false =>
    clear HB
    go_wp2_with fail
    go_quiet (fail)
    by_cases Hg : d = 0
    ·have dW : nk = 0 := by rw [<- H2.out.2.2.2.2, H2.out.2.2.1.2.2.2.2.1, H2.out.2.1 Hg]; rfl
     subst dW
     have HL := Lib.hid (cP (w2.drewN nq) p ck A2 (by exact z1))
     have HD := Lib.hid Hg
     clear Hg z1
     go_wp2_with fail
     refine HL.out.mono ?_
     rintro e w3 ⟨rfl, hw3⟩
     have Qu := Lib.hid hw3
     clear hw3
     go_wp2_with fail
     rw [Exit.noGoto_ret]
     go_ret3
     obtain ⟨hn, hw, hu, hce, hb, hd, hi⟩ := HR.out
     have hE := qU (key := key) hw hu (.inl HD.out)
     rw [HC.out] at hE
     rw [hE] at hce
     have hce : (some pr).or c = ceil key l := hce
     refine ⟨by rw [<- hce]; rfl, ?_⟩
     exact HR.out.2.2.2.2.1.trans (Below.mono (Qu.out ▸ (au H2.out.2.2.2.1 _)) HR.out.2.2.2.2.1.size)
    ·obtain ⟨d1, rfl⟩ : ∃ d1, d = d1 + 1 := ⟨d - 1, by omega⟩
     have hkl := HR.out.2.1.kids
     have hik : i < x.ks.length := by rw [hkl, HN.out]; omega
     obtain ⟨k, hk⟩ : ∃ k, x.ks[i]? = some k := ⟨_, List.getElem?_eq_getElem hik⟩
     obtain ⟨l2, hl⟩ : ∃ y, ak[i]? = some y := ⟨_, List.getElem?_eq_getElem (by rw [H2.out.2.2.1.2.2.2.2.1]; exact hik)⟩
     have MG : i < nk := by rw [<- H2.out.2.2.2.2, H2.out.2.2.1.2.2.2.2.1]; exact hik
     obtain ⟨bk, ok, UX, e2, -, -, r2⟩ := H2.out.2.2.1.2.2.2.1.ptr hl
     simp only [H2.out.2.2.2.2, Value.slice.injEq, true_and] at e2
     obtain ⟨rfl, rfl⟩ := e2
     have xB : nk <= 1001 := by rw [<- H2.out.2.2.2.2, H2.out.2.2.1.2.2.2.2.1, hkl]; omega
     have HL := Lib.hid (dQ (w2.drewN nq) p nk ck _ (by omega) (by exact z1))
     have HK := Lib.hid (And.intro hk hl)
     clear hk hl hkl hik Hg
     have i1 : (0 : Int) <= (i : Int) := by omega
     have i2 : (i : Int) < (nk : Int) := by omega
     go_wp2_with fail
     refine HL.out.mono ?_
     rintro e w3 ⟨rfl, hw3⟩
     subst hw3
     go_wp2_with fail
     go_roundw
     case rel =>
      obtain ⟨hn, hw, hu, hce, hb, hd, hi⟩ := HR.out
      refine ⟨d1, l2, _, k, _, (some pr), rfl, rfl, rfl, rfl, (show ai w2 d1 l2 k _ from H2.out.2.2.1.2.2.2.2.2.1 i l2 k HK.out.2 HK.out.1).below ?_, hw.2.2.2 k (List.mem_of_getElem? HK.out.1), Up.kid hw.kids (by rwa [<- cN x] at hu) HK.out.1, ?_, hb.trans (Below.mono (au H2.out.2.2.2.1 _) hb.size), by omega⟩
      ·exact au (Below.refl _ _) _
      ·rw [tE hw hu (by rw [hi]; exact HK.out.1), HC.out] at hce
       exact hce
     case measure =>
      obtain ⟨hn, hw, hu, hce, hb, hd, hi⟩ := HR.out
      rw [jI (o := o) (d1 + 1) d0 _ p x KK hn hw hd]
      rw [jI (o := o) d1 d0 _ l2 k _ (ai.below (show ai w2 d1 l2 k _ from H2.out.2.2.1.2.2.2.2.2.1 i l2 k HK.out.2 HK.out.1) (au (Below.refl _ _) _)) (hw.2.2.2 k (List.mem_of_getElem? HK.out.1)) (by omega)]
      omega
  ·have CG : x.ps[posOf key x.ps]? = none := List.getElem?_eq_none (by rw [HR.out.2.2.2.2.2.2, HN.out]; omega)
   have Sl : hit key x.ps = false := by unfold hit; rw [CG]
   have HC := Lib.hid CG
   have i3 : ¬ (i : Int) < (n : Int) := by omega
   rw [Sl]
   clear CG Sl hlt
   by_cases Hg : d = 0
   ·have dW : nk = 0 := by rw [<- H2.out.2.2.2.2, H2.out.2.2.1.2.2.2.2.1, H2.out.2.1 Hg]; rfl
    subst dW
    have HL := Lib.hid (cP (w2) p ck A2 (by exact z1))
    have HD := Lib.hid Hg
    clear Hg z1
    go_wp2_with fail
    refine HL.out.mono ?_
    rintro e w3 ⟨rfl, hw3⟩
    have Qu := Lib.hid hw3
    clear hw3
    go_wp2_with fail
    rw [Exit.noGoto_ret]
    go_ret3
    obtain ⟨hn, hw, hu, hce, hb, hd, hi⟩ := HR.out
    have hE := qU (key := key) hw hu (.inl HD.out)
    rw [HC.out] at hE
    rw [hE] at hce
    have hce : (none : Option Pr).or c = ceil key l := hce
    refine ⟨by rw [<- hce]; rfl, ?_⟩
    exact HR.out.2.2.2.2.1.trans (Below.mono (Qu.out ▸ H2.out.2.2.2.1) HR.out.2.2.2.2.1.size)
   ·obtain ⟨d1, rfl⟩ : ∃ d1, d = d1 + 1 := ⟨d - 1, by omega⟩
    have hkl := HR.out.2.1.kids
    have hik : i < x.ks.length := by rw [hkl, HN.out]; omega
    obtain ⟨k, hk⟩ : ∃ k, x.ks[i]? = some k := ⟨_, List.getElem?_eq_getElem hik⟩
    obtain ⟨l2, hl⟩ : ∃ y, ak[i]? = some y := ⟨_, List.getElem?_eq_getElem (by rw [H2.out.2.2.1.2.2.2.2.1]; exact hik)⟩
    have MG : i < nk := by rw [<- H2.out.2.2.2.2, H2.out.2.2.1.2.2.2.2.1]; exact hik
    obtain ⟨bk, ok, UX, e2, -, -, r2⟩ := H2.out.2.2.1.2.2.2.1.ptr hl
    simp only [H2.out.2.2.2.2, Value.slice.injEq, true_and] at e2
    obtain ⟨rfl, rfl⟩ := e2
    have xB : nk <= 1001 := by rw [<- H2.out.2.2.2.2, H2.out.2.2.1.2.2.2.2.1, hkl]; omega
    have HL := Lib.hid (dQ (w2) p nk ck _ (by omega) (by exact z1))
    have HK := Lib.hid (And.intro hk hl)
    clear hk hl hkl hik Hg
    have i1 : (0 : Int) <= (i : Int) := by omega
    have i2 : (i : Int) < (nk : Int) := by omega
    go_wp2_with fail
    refine HL.out.mono ?_
    rintro e w3 ⟨rfl, hw3⟩
    obtain rfl : w2 = w3 := hw3
    go_wp2_with fail
    go_roundw
    case rel =>
     obtain ⟨hn, hw, hu, hce, hb, hd, hi⟩ := HR.out
     refine ⟨d1, l2, _, k, _, c, rfl, rfl, rfl, rfl, (show ai w2 d1 l2 k _ from H2.out.2.2.1.2.2.2.2.2.1 i l2 k HK.out.2 HK.out.1).below ?_, hw.2.2.2 k (List.mem_of_getElem? HK.out.1), Up.kid hw.kids (by rwa [<- cN x] at hu) HK.out.1, ?_, hb.trans (Below.mono H2.out.2.2.2.1 hb.size), by omega⟩
     ·exact Below.refl _ _
     ·rw [tE hw hu (by rw [hi]; exact HK.out.1), HC.out] at hce
      exact hce
    case measure =>
     obtain ⟨hn, hw, hu, hce, hb, hd, hi⟩ := HR.out
     rw [jI (o := o) (d1 + 1) d0 _ p x KK hn hw hd]
     rw [jI (o := o) d1 d0 _ l2 k _ (ai.below (show ai w2 d1 l2 k _ from H2.out.2.2.1.2.2.2.2.2.1 i l2 k HK.out.2 HK.out.1) (Below.refl _ _)) (hw.2.2.2 k (List.mem_of_getElem? HK.out.1)) (by omega)]
     omega
def E0 (key : List UInt8) (l : List Pr) (w : World) (e : Ending) (w' : World) : Prop :=
 e = .returned (.tuple #[.string ⟨((look key l).getD []).toArray⟩, .int .i64 (if (look key l).isSome then 0 else 14)]) /\ Below w.heap.size w w'
set_option maxHeartbeats 4000000 in
theorem zo (w : World) (T o : Nat) (l : List Pr) (F : Nat -> Nat -> Prop) (key : List UInt8) (h : bD w T o l F) (hk1 : 1 <= key.length) (hk2 : key.length <= 64) : Calls Tryz.prog 89 #[.pointer (some ⟨T, 0, none⟩), .string ⟨key.toArray⟩] w (E0 key l w) := by
 have HC := Lib.hid (And.intro (iy w T ⟨key.toArray⟩ (by exact hk1) (by exact hk2)) (Hf w T o l F key h))
 clear h hk1 hk2
 go_enter Tryz.func89, Tryz.ntmps89
 go_wp2_with fail
 refine HC.out.1.mono ?_
 rintro e w1 ⟨rfl, hw1⟩
 obtain rfl : w = w1 := hw1.symm
 go_wp2_with fail
 refine HC.out.2.mono ?_
 rintro e w2 ⟨rfl, hb⟩
 have HB := Lib.hid hb
 clear hb HC
 cases hc : ceil key l with
 | none =>
  have HL := Lib.hid (lT hc)
  unfold O7
  simp only [Option.isSome_none]
  clear hc
  go_wp2_with fail
  go_ret2
  exact ⟨by rw [HL.out]; rfl, HB.out⟩
 | some q =>
  have HL := Lib.hid (fT hc)
  unfold O7 Qr Qs
  simp only [Option.isSome_some, Option.map_some, Option.getD_some, if_true]
  clear hc
  obtain ⟨qk, qv⟩ := q
  by_cases hq : qk = key
  ·subst hq
   go_wp2_with fail
   go_ret2
   refine ⟨?_, HB.out⟩
   rw [show look qk l = some qv by simpa using HL.out]
   rfl
  ·have h1 : ¬ (⟨qk.toArray⟩ : ByteArray) = ⟨key.toArray⟩ := fun e => hq (by injection e with e; simpa using e)
   have h3 : ¬ qk.toArray = key.toArray := fun e => hq (by simpa using e)
   have h4 : (qk == key) = false := beq_eq_false_iff_ne.2 hq
   have HQ := Lib.hid hq
   go_wp2_with fail
   go_ret2
   refine ⟨?_, HB.out⟩
   rw [show look key l = none by simpa [HQ.out] using HL.out]
   rfl
theorem zq (w : World) (T o : Nat) (l : List Pr) (F : Nat -> Nat -> Prop) (h : bD w T o l F) : Calls Tryz.prog 91 #[.pointer (some ⟨T, 0, none⟩)] w fun e w' => e = .returned (.int .i64 l.length) /\ w = w' := by
 obtain ⟨d, r, x, K, k0, -⟩ := h
 have c1 : w.cell? ⟨T, 1, none⟩ = some (.int .i64 l.length) := by simp [World.cell?, k0]
 clear k0
 go_enter Tryz.func91, Tryz.ntmps91
 go_wp2_with fail
 go_ret
 exact ⟨rfl, rfl⟩
end Go.Proofs.YtagemonojdgbdaaGreatDoor
