import Derived.Test.YtagemonojdgbdaaGreatDoorQ10
import Derived.Test.YtagemonojdgbdaaGreatDoorQ13
import Derived.Laws.OwnMore
import Derived.Deep.RegionLaw
namespace Go.Proofs.YtagemonojdgbdaaGreatDoor
set_option maxRecDepth 100000
open Go.RowKit
def uS : Value := .agg #[.int .i64 0, .int .i64 0, .int .i64 0, .int .i64 0]
set_option maxHeartbeats 1000000 in
theorem uT (w : World) (T L : Nat) (most n : Int) (s : ByteArray) (hs1 : 1 <= s.size) (hs2 : s.size <= 16) (h : jY w T most n L) : Calls Tryz.prog 73 #[.pointer (some ⟨T, 0, none⟩), .string s] w fun e w' => e = .returned (.tuple #[uS, .int .i64 14]) /\ Below w.heap.size w w' := by
 have hb0 := ag w (.cells #[.int .i64 0, .int .i64 0, .int .i64 0, .int .i64 0] 26)
 have k0 := heap_alloc_new w (.cells #[.int .i64 0, .int .i64 0, .int .i64 0, .int .i64 0] 26)
 have h1 := h.below hb0
 go_enter Tryz.func73, Tryz.ntmps73
 go_upto_region 1 with fail
 generalize w.alloc (.cells #[.int .i64 0, .int .i64 0, .int .i64 0, .int .i64 0] 26) = w1 at hb0 k0 h1 ⊢
 obtain ⟨R, hR⟩ : ∃ x, w.heap.size = x := ⟨_, rfl⟩
 rw [hR] at k0 ⊢
 have HR := Lib.hid (And.intro hR (And.intro hb0 k0))
 have HC := Lib.hid (And.intro (su w1 T s hs1 hs2) (Ey w1 T L most n s hs1 (by omega) h1))
 clear h h1 hb0 k0 hR hs1 hs2
 go_wp2_with fail
 refine HC.out.1.mono ?_
 rintro e w2 ⟨rfl, rfl⟩
 go_wp2_with fail
 refine HC.out.2.mono ?_
 rintro e w3 ⟨rfl, hb⟩
 have k3 := (Only.of_below hb (fun _ => False)).heap HR.out.2.2 (fun h => h)
 have HB := Lib.hid (And.intro hb k3)
 have z0 : w3.cell? ⟨R, 0, none⟩ = some (.int .i64 0) := by simp [World.cell?, k3]
 have z1 : w3.cell? ⟨R, 1, none⟩ = some (.int .i64 0) := by simp [World.cell?, k3]
 have z2 : w3.cell? ⟨R, 2, none⟩ = some (.int .i64 0) := by simp [World.cell?, k3]
 have z3 : w3.cell? ⟨R, 3, none⟩ = some (.int .i64 0) := by simp [World.cell?, k3]
 have y0 : w3.frozen? ⟨R, 0, none⟩ = false := by simp [World.frozen?, k3]
 have y1 : w3.frozen? ⟨R, 1, none⟩ = false := by simp [World.frozen?, k3]
 have y2 : w3.frozen? ⟨R, 2, none⟩ = false := by simp [World.frozen?, k3]
 have y3 : w3.frozen? ⟨R, 3, none⟩ = false := by simp [World.frozen?, k3]
 clear hb k3
 go_wp2_with fail
 have hp := pj (v0 := .int .i64 0) (v1 := .int .i64 0) (v2 := .int .i64 0) (v3 := .int .i64 0) HB.out.2
 have di : Below w.heap.size w w3 := HR.out.2.1.trans (HB.out.1.mono HR.out.2.1.size)
 have se : w.heap.size <= R := Nat.le_of_eq HR.out.1
 exact bodyPost_ret (aA rfl _ _ _ _ _ _ _ rfl hp Tryz.underlying26 rfl (by kernel_rfl)) rfl ⟨rfl, (((di.setCell (p := ⟨R, 0, none⟩) se _).setCell (p := ⟨R, 1, none⟩) se _).setCell (p := ⟨R, 2, none⟩) se _).setCell (p := ⟨R, 3, none⟩) se _⟩
def aQ (out : List (Int × Int)) (x : Int × Int) : List (Int × Int) :=
 match out.getLast? with
 | none => out ++ [x]
 | some a => match qH a x with
  | none => out ++ [x]
  | some y => out.dropLast ++ [y]
def bK (l : List (Int × Int)) : List (Int × Int) := l.foldl aQ []
def fF (l : List (Int × Int)) : Prop := ∀ x ∈ l, jD x.1 /\ jD x.2
theorem CL {a b y : Int × Int} (h : qH a b = some y) (ha : jD a.1 /\ jD a.2) (hb : jD b.1 /\ jD b.2) : jD y.1 /\ jD y.2 := by
 unfold qH at h
 split at h
 ·cases h
 ·injection h with h
  subst h
  refine ⟨ha.1, ?_⟩
  unfold jD at *
  simp only
  omega
theorem uU {out : List (Int × Int)} {x : Int × Int} (ho : fF out) (hx : jD x.1 /\ jD x.2) : fF (aQ out x) := by
 unfold aQ
 split
 ·intro y hy
  rcases List.mem_append.1 hy with h | h
  ·exact ho y h
  ·simp at h; subst h; exact hx
 ·rename_i a ha
  have hal : a ∈ out := List.mem_of_getLast? ha
  split
  ·intro y hy
   rcases List.mem_append.1 hy with h | h
   ·exact ho y h
   ·simp at h; subst h; exact hx
  ·rename_i y hy
   intro z hz
   rcases List.mem_append.1 hz with h | h
   ·exact ho z (List.dropLast_subset _ h)
   ·simp at h; subst h; exact CL hy (ho a hal) hx
theorem uV (out : List (Int × Int)) (x : Int × Int) : (aQ out x).length <= out.length + 1 := by
 unfold aQ
 split
 ·simp
 ·split
  ·simp
  ·simp
theorem tH {l : List (Int × Int)} : ∀ {out}, fF out -> fF l -> fF (l.foldl aQ out) := by
 induction l with
 | nil => intro out h _; exact h
 | cons x l ih =>
  intro out ho hl
  exact ih (uU ho (hl x (by simp))) (fun y hy => hl y (by simp [hy]))
theorem tI {l : List (Int × Int)} : ∀ {out : List (Int × Int)}, (l.foldl aQ out).length <= out.length + l.length := by
 induction l with
 | nil => intro out; simp
 | cons x l ih =>
  intro out
  have := ih (out := aQ out x)
  have := uV out x
  simp
  omega
theorem Ht (l : List (Int × Int)) (y : Int × Int) (hl : l ≠ []) :
  (((l.map jv).flatten.set ((l.length - 1) * 2) (.int .i64 y.1)).set ((l.length - 1) * 2 + 1) (.int .i64 y.2)) = ((l.dropLast ++ [y]).map jv).flatten := by
 obtain ⟨m, z, rfl⟩ : ∃ m z, l = m ++ [z] := ⟨l.dropLast, l.getLast hl, (List.dropLast_concat_getLast hl).symm⟩
 have hlen : (m.map jv).flatten.length = m.length * 2 := by rw [nj (jl m)]; simp
 simp only [List.map_append, List.flatten_append, List.length_append, List.length_singleton, Nat.add_sub_cancel, List.dropLast_concat]
 rw [List.set_append_right _ _ (by omega), List.set_append_right _ _ (by omega), hlen]
 simp [jv]
theorem tJ {W w1 : World} {n : Nat} (hn : W.heap.size = n) (hb : Below W.drew.heap.size W.drew w1) (Y : Obj) : n <= w1.heap.size /\ (w1.alloc Y).heap[w1.heap.size]? = some Y /\ Below n W (w1.alloc Y) := by
 subst hn
 have h := ll hb
 have hs : W.heap.size <= w1.heap.size := h.size
 exact ⟨hs, heap_alloc_new _ _, h.alloc hs _⟩
theorem qY {W w1 : World} {n : Nat} {t : TypeId} {z0 z1 : Value} (hn : W.heap.size = n) (hb : Below (W.alloc (.cells #[z0, z1] t)).drew.heap.size (W.alloc (.cells #[z0, z1] t)).drew w1) (a b : Value) :
  n <= n /\ ((w1.setCell ⟨n, 0, none⟩ a).setCell ⟨n, 1, none⟩ b).heap[n]? = some (.cells #[a, b] t) /\ Below n W ((w1.setCell ⟨n, 0, none⟩ a).setCell ⟨n, 1, none⟩ b) := by
 subst hn
 have h := ll hb
 have h1 : w1.heap[W.heap.size]? = some (.cells #[z0, z1] t) := by
  rw [h.block W.heap.size (by show W.heap.size < (W.alloc (.cells #[z0, z1] t)).heap.size; simp)]
  exact heap_alloc_new _ _
 refine ⟨Nat.le_refl _, ?_, ?_⟩
 ·have h2 := heap_setCell_same w1 W.heap.size 0 _ t a h1
  have h3 := heap_setCell_same _ W.heap.size 1 _ t b h2
  simpa using h3
 ·have h2 : Below W.heap.size W w1 := ((Below.refl _ _).alloc (Nat.le_refl _) _).trans (h.mono (by show W.heap.size <= (W.alloc (.cells #[z0, z1] t)).heap.size; simp))
  exact (h2.setCell (Nat.le_refl _) _).setCell (Nat.le_refl _) _
theorem eJ {w : World} {b : Nat} {u v : Value} {t : TypeId} (h : w.heap[b]? = some (.cells #[u, v] t (0, 0))) : w.cell? ⟨b, 0, none⟩ = some u /\ w.cell? ⟨b, 1, none⟩ = some v /\ w.frozen? ⟨b, 0, none⟩ = false /\ w.frozen? ⟨b, 1, none⟩ = false := by
 simp [World.cell?, World.frozen?, h]
def Fa (l : List (Int × Int)) (w : World) (e : Ending) (w' : World) : Prop :=
 ∃ A c, e = .returned (.slice A l.length c) /\ w'.ownsRow w.heap.size 178 2 (.slice A l.length c) l.length (l.map jv).flatten /\ Below w.heap.size w w'
def Nn (w : World) (l : List (Int × Int)) (k : Nat) (v : Value) (w' : World) : Prop :=
 w'.ownsRow w.heap.size 178 2 v (((l.take k).foldl aQ [])).length ((((l.take k).foldl aQ [])).map jv).flatten /\ Below w.heap.size w w'
set_option maxHeartbeats 1000000 in
theorem tK (w : World) (F : Nat -> Prop) (v : Value) (l : List (Int × Int)) (h : jE w F v l) (hl : l.length <= 1000) (hfit : fF l) :
  Calls Tryz.prog 119 #[v, .func (.func 120) #[] #[]] w (Fa (bK l) w) := by
 obtain ⟨i0, hi, hz0, hz1, hz2⟩ := info_parts Tryz.yY
 obtain ⟨A, c, rfl, hnc, hcm⟩ := h.slice
 have H := Lib.hid h
 clear h
 go_enter Tryz.func119, Tryz.ntmps119
 go_wp2_with fail
 go_loopw [5, 13] (fun v i wr => ∃ k, k <= l.length /\ i = .int .i64 (k : Int) /\ Nn w l k v wr) (fun _ i _ => l.length - (intOf i).toNat)
 case atStart => exact ⟨0, Nat.zero_le _, rfl, World.ownsRow_nil _ _ _ _, Below.refl _ _⟩
 case round =>
  obtain ⟨k, hk, rfl, hown, hbl⟩ := hrel
  by_cases hlt : k < l.length
  ·obtain ⟨x, hx⟩ : ∃ x, l[k]? = some x := ⟨_, List.getElem?_eq_getElem hlt⟩
   obtain ⟨b, o, rfl, hF, c0, c1⟩ := H.out.at_ hx
   have hb : b < w.heap.size := World.block_lt_of_cell? w _ c0
   have c0' := (hbl.cell (p := ⟨b, o + k * 2, none⟩) hb).trans c0
   have c1' := (hbl.cell (p := ⟨b, o + k * 2 + 1, none⟩) hb).trans c1
   have htk : (l.take (k + 1)).foldl aQ [] = aQ ((l.take k).foldl aQ []) x := by
    rw [List.take_add_one, hx]
    simp
   have uW := hfit x (List.mem_of_getElem? hx)
   have hfo : fF ((l.take k).foldl aQ []) := tH (fun _ h => by simp at h) (fun y hy => hfit y (List.mem_of_mem_take hy))
   have CM : ((l.take k).foldl aQ []).length <= k := by
    have := tI (l := l.take k) (out := [])
    simp at this
    omega
   obtain ⟨out, hout⟩ : ∃ out, (l.take k).foldl aQ [] = out := ⟨_, rfl⟩
   rw [hout] at htk hfo CM hown
   have HB := Lib.hid htk
   clear hx c0 c1 hout htk
   obtain ⟨n, hn⟩ : ∃ n, out.length = n := ⟨_, rfl⟩
   rw [hn] at hown CM
   obtain ⟨A5, c5, rfl⟩ := ar hown
   have hs := hbl.size
   obtain ⟨wa, DI⟩ : ∃ wa, wr.alloc (.cells #[.int .i64 x.1, .int .i64 x.2] 178) = wa := ⟨_, rfl⟩
   have LO : Below wr.heap.size wr wa := by rw [<- DI]; exact (Below.refl _ _).alloc (Nat.le_refl _) _
   have hsa : wa.heap.size = wr.heap.size + 1 := by rw [<- DI]; simp
   have eU : wa.heap[wr.heap.size]? = some (.cells #[.int .i64 x.1, .int .i64 x.2] 178) := by rw [<- DI]; exact heap_alloc_new _ _
   have Np := hbl.trans (LO.mono hs)
   cases hgl : out.getLast? with
   | none =>
    have : out = [] := by simpa using hgl
    subst this
    simp at hn
    subst hn
    have hown' := (hown.alloc (.cells #[.int .i64 x.1, .int .i64 x.2] 178)).alloc (.cells #[.int .i64 x.1, .int .i64 x.2] 178)
    have hnews := World.news_of_block (heap_alloc_new (wr.alloc (.cells #[.int .i64 x.1, .int .i64 x.2] 178)) (.cells #[.int .i64 x.1, .int .i64 x.2] 178))
    rw [show (wr.alloc (.cells #[.int .i64 x.1, .int .i64 x.2] 178)).heap.size = wr.heap.size + 1 by simp] at hnews
    have HOWN := Lib.hid (And.intro hown' (And.intro hnews hown))
    have G8 := Lib.hid hbl
    have sk := Lib.hid hi
    clear hown hown' hnews hbl LO hsa eU Np DI hgl hfo
    go_wp2_with (at_builtin; go_loud (refine wpList_append_lies _ rfl _ _ 172 rfl w.heap.size 178 i0 _ 2 16 Tryz.underlying172 sk.out hz0 hz1 hz2 rfl (by decide) (.slice A5 0 c5) 0 _ rfl HOWN.out.1 ⟨wr.heap.size + 1, 0, none⟩ 1 1 [.int .i64 x.1, .int .i64 x.2] rfl rfl HOWN.out.2.1 (by simp [Value.oneCell']) (by decide) (by unfold maxLen; omega) (by omega) (by have := G8.out.size; simp; omega) _ rfl ?_); intro g cap w1 hown1 hgrow1 oC xq)
    go_roundw
    case rel =>
     refine ⟨k + 1, by omega, by go_num, ?_, ?_⟩
     ·rw [HB.out]
      simpa [aQ, jv] using hown1
     ·exact ((G8.out.alloc (by omega) _).alloc (by simp; omega) _).grown hgrow1 (by simp; omega) (fun j hj => (HOWN.out.2.2.lt j hj).1)
    case measure => simp [intOf]; omega
   | some a =>
    obtain ⟨m, hm⟩ : ∃ m, n = m + 1 := ⟨out.length - 1, by have : out ≠ [] := (fun h => by subst h; simp at hgl); have := List.length_pos_iff.2 this; omega⟩
    subst hm
    have hm := hn
    have Pd : out[m]? = some a := by rw [List.getLast?_eq_getElem?, hm] at hgl; simpa using hgl
    have Sn := hfo a (List.mem_of_getElem? Pd)
    have BD : ∀ j u, (jv a)[j]? = some u -> (out.map jv).flatten[m * 2 + j]? = some u := jk (jl out) m (jv a) (by simp [Pd])
    have hn0 : out.length * 2 = m * 2 + 2 := by omega
    obtain ⟨g, cap, hv, hg0, U1⟩ := hown.form (by omega)
    injection hv with hv1 _ hv3
    subst hv1 hv3
    have d0 := (hown.cellAt (m * 2) (by omega)).trans (BD 0 _ rfl)
    have d1 := (hown.cellAt (m * 2 + 1) (by omega)).trans (BD 1 _ rfl)
    have U2 : g ≠ wr.heap.size := by omega
    have U3 := bW d0 (.cells #[.int .i64 x.1, .int .i64 x.2] 178)
    have U4 := bW d1 (.cells #[.int .i64 x.1, .int .i64 x.2] 178)
    have HO := Lib.hid (And.intro hown (And.intro hgl (And.intro Sn (And.intro BD (And.intro Pd hm)))))
    have sk := Lib.hid hi
    have G8 := Lib.hid hbl
    clear hown hgl Sn BD Pd hm hi hn0 hbl LO hsa eU Np DI hn
    have hg1 : g < wr.heap.size + 1 := by omega
    have hg2 : g < wr.heap.size + 1 + 1 := by omega
    have LD : (m : Int) < (m : Int) + 1 := by omega
    have f0 := HO.out.1.frozenAt (m * 2)
    have f1 := HO.out.1.frozenAt (m * 2 + 1)
    cases Pe : qH a x with
    | none =>
     have HM := Lib.hid Pe
     clear Pe
     go_upto_region 7 with fail
     go_cut [9, 10, 13] from 13 to 41 (fun s9 Qx Qy wx => Qy = .int .i64 (k : Int) /\ ∃ B, s9 = .pointer (some ⟨B, 0, none⟩) /\ Qx = .bool false /\ wr.heap.size + 1 <= B /\ wx.heap[B]? = some (.cells #[.int .i64 0, .int .i64 0] 178) /\ Below (wr.heap.size + 1) (wr.alloc (.cells #[.int .i64 x.1, .int .i64 x.2] 178)) wx)
     case first =>
      go_region_law ((go_simp; go_at_call 120; go_loud (refine (Bl _ a x HO.out.2.2.1.2 uW.1).mono ?_); rintro e w1 ⟨zy, hmm⟩; rw [HM.out] at hmm; simp only at hmm; subst hmm; have Fb := Lib.hid zy; obtain ⟨bc, bf⟩ := IZ zy; clear zy))
      all_goals
       go_wp2_with fail
       go_meet
       first
        | exact ⟨rfl, _, rfl, rfl, tJ (by simp) Fb.out _⟩
        | exact ⟨rfl, _, rfl, rfl, qY (by simp) Fb.out _ _⟩
     case rest =>
      obtain ⟨rfl, B, rfl, rfl, J3, di, hcb⟩ := hcut
      have eU : wc.heap[wr.heap.size]? = some (.cells #[.int .i64 x.1, .int .i64 x.2] 178) := by rw [hcb.block _ (by omega)]; exact heap_alloc_new _ _
      obtain ⟨x0, x1, _, _⟩ := eJ eU
      have mC := aC (HO.out.1.alloc (.cells #[.int .i64 x.1, .int .i64 x.2] 178)) (w' := wc) (by simpa using hcb)
      have CN : Below w.heap.size w wc := (G8.out.alloc (by omega) _).trans (hcb.mono (by omega))
      have hs2 := CN.size
      have hown' := mC.alloc (.cells #[.int .i64 x.1, .int .i64 x.2] 178)
      have hnews := World.news_of_block (heap_alloc_new wc (.cells #[.int .i64 x.1, .int .i64 x.2] 178))
      have HOWN := Lib.hid (And.intro hown' (And.intro hnews (And.intro mC CN)))
      clear hown' hnews mC CN eU hcb di
      go_wp2_with (at_builtin; go_loud (refine wpList_append_lies _ rfl _ _ 172 rfl w.heap.size 178 i0 _ 2 16 Tryz.underlying172 sk.out hz0 hz1 hz2 rfl (by decide) (.slice (some ⟨g, 0, none⟩) (m + 1) c5) (m + 1) _ rfl HOWN.out.1 ⟨wc.heap.size, 0, none⟩ 1 1 [.int .i64 x.1, .int .i64 x.2] rfl rfl HOWN.out.2.1 (by simp [Value.oneCell']) (by decide) (by unfold maxLen; omega) (by omega) (by simp; omega) _ rfl ?_); intro g2 cap w1 hown1 hgrow1 oC xq)
      go_roundw
      case rel =>
       refine ⟨k + 1, by omega, by go_num, ?_, ?_⟩
       ·have hj : aQ out x = out ++ [x] := by unfold aQ; rw [HO.out.2.1]; simp only; rw [HM.out]
        rw [HB.out, hj]
        have hl2 := HO.out.2.2.2.2.2
        simpa [jv, hl2] using hown1
       ·exact (HOWN.out.2.2.2.alloc (by omega) _).grown hgrow1 (by simp; omega) (fun j hj => (HOWN.out.2.2.1.lt j hj).1)
      case measure => simp [intOf]; omega
    | some y =>
     have HM := Lib.hid Pe
     clear Pe
     go_upto_region 7 with fail
     go_cut [9, 10, 13] from 13 to 41 (fun s9 Qx Qy wx => Qy = .int .i64 (k : Int) /\ ∃ B, s9 = .pointer (some ⟨B, 0, none⟩) /\ Qx = .bool true /\ wr.heap.size + 1 <= B /\ wx.heap[B]? = some (.cells #[.int .i64 y.1, .int .i64 y.2] 178) /\ Below (wr.heap.size + 1) (wr.alloc (.cells #[.int .i64 x.1, .int .i64 x.2] 178)) wx)
     case first =>
      go_region_law ((go_simp; go_at_call 120; go_loud (refine (Bl _ a x HO.out.2.2.1.2 uW.1).mono ?_); rintro e w1 ⟨zy, hmm⟩; rw [HM.out] at hmm; simp only at hmm; subst hmm; have Fb := Lib.hid zy; obtain ⟨bc, bf⟩ := IZ zy; clear zy))
      all_goals
       go_wp2_with fail
       go_meet
       first
        | exact ⟨rfl, _, rfl, rfl, tJ (by simp) Fb.out _⟩
        | exact ⟨rfl, _, rfl, rfl, qY (by simp) Fb.out _ _⟩
     case rest =>
      obtain ⟨rfl, B, rfl, rfl, J3, di, hcb⟩ := hcut
      have eU : wc.heap[wr.heap.size]? = some (.cells #[.int .i64 x.1, .int .i64 x.2] 178) := by rw [hcb.block _ (by omega)]; exact heap_alloc_new _ _
      obtain ⟨x0, x1, _, _⟩ := eJ eU
      have mC := aC (HO.out.1.alloc (.cells #[.int .i64 x.1, .int .i64 x.2] 178)) (w' := wc) (by simpa using hcb)
      have CN : Below w.heap.size w wc := (G8.out.alloc (by omega) _).trans (hcb.mono (by omega))
      obtain ⟨y0, y1, _, _⟩ := eJ di
      have e0 := (mC.cellAt (m * 2) (by omega)).trans (HO.out.2.2.2.1 0 _ rfl)
      have e1 := (mC.cellAt (m * 2 + 1) (by omega)).trans (HO.out.2.2.2.1 1 _ rfl)
      have k0 := mC.frozenAt (m * 2)
      have k1 := mC.frozenAt (m * 2 + 1)
      have HOWN := Lib.hid (And.intro mC CN)
      clear mC CN eU hcb di
      go_wp2_with fail
      go_roundw
      case rel =>
       refine ⟨k + 1, by omega, by go_num, ?_, ?_⟩
       ·have hj : aQ out x = out.dropLast ++ [y] := by unfold aQ; rw [HO.out.2.1]; simp only; rw [HM.out]
        have hl2 := HO.out.2.2.2.2.2
        have hne : out ≠ [] := fun h => by subst h; simp at hl2
        rw [HB.out, hj, <- Ht out y hne, hl2]
        have Qz : (out.dropLast ++ [y]).length = m + 1 := by simp [hl2]
        rw [Qz]
        exact ((HOWN.out.1.stored (m * 2) _).1.stored (m * 2 + 1) _).1
       ·exact (HOWN.out.2.setCell hg0 _).setCell hg0 _
      case measure => simp [intOf]; omega
  ·have hkl : k = l.length := by omega
   subst hkl
   go_wp2_with fail
   go_ret
   rw [List.take_length] at hown
   obtain ⟨A', c', rfl⟩ := ar hown
   exact ⟨A', c', rfl, hown, hbl⟩
def dA (s : Int × Int) : List (Int × Int) -> List (Int × Int)
 | [] => [s]
 | o :: os => if s.2 < o.1 then [s] else
   (if s.1 < o.1 then [(s.1, o.1 - 1)] else []) ++ (if s.2 <= o.2 then [] else dA (o.2 + 1, s.2) os)
def bP (lo : Int) (os : List (Int × Int)) : List (Int × Int) := os.dropWhile fun o => decide (o.2 < lo)
def bp : List (Int × Int) -> List (Int × Int) -> List (Int × Int)
 | [], _ => []
 | s :: l, os => dA s (bP s.1 os) ++ bp l (bP s.1 os)
def jc (l : List (Int × Int)) (n : Int) : Prop := ∃ x ∈ l, x.1 <= n /\ n <= x.2
def oJ (l : List (Int × Int)) : Prop := ∀ x ∈ l, x.1 <= x.2
def bL (l : List (Int × Int)) : Prop := oJ l /\ l.Pairwise fun a b => a.2 + 1 < b.1
theorem cU (n : Int) : ¬ jc [] n := by rintro ⟨x, hx, _⟩; simp at hx
theorem aR {x : Int × Int} {l : List (Int × Int)} {n : Int} : jc (x :: l) n ↔ (x.1 <= n /\ n <= x.2) \/ jc l n := by
 unfold jc
 simp
theorem kf {a b : List (Int × Int)} {n : Int} : jc (a ++ b) n ↔ jc a n \/ jc b n := by
 unfold jc
 constructor
 ·rintro ⟨x, hx, h⟩
  rcases List.mem_append.1 hx with hx | hx
  ·exact .inl ⟨x, hx, h⟩
  ·exact .inr ⟨x, hx, h⟩
 ·rintro (⟨x, hx, h⟩ | ⟨x, hx, h⟩)
  ·exact ⟨x, List.mem_append.2 (.inl hx), h⟩
  ·exact ⟨x, List.mem_append.2 (.inr hx), h⟩
theorem xN {a b : List (Int × Int)} (h : a.Perm b) (n : Int) : jc a n ↔ jc b n :=
 ⟨fun ⟨x, hx, h1⟩ => ⟨x, h.mem_iff.1 hx, h1⟩, fun ⟨x, hx, h1⟩ => ⟨x, h.mem_iff.2 hx, h1⟩⟩
theorem bL.tail {x : Int × Int} {l : List (Int × Int)} (h : bL (x :: l)) : bL l := ⟨fun y hy => h.1 y (by simp [hy]), (List.pairwise_cons.1 h.2).2⟩
theorem bL.head {x : Int × Int} {l : List (Int × Int)} (h : bL (x :: l)) : x.1 <= x.2 /\ ∀ n, jc l n -> x.2 + 1 < n := by
 refine ⟨h.1 x (by simp), ?_⟩
 rintro n ⟨y, hy, h1, _⟩
 have := (List.pairwise_cons.1 h.2).1 y hy
 omega
theorem bL.cons {x : Int × Int} {l : List (Int × Int)} (hx : x.1 <= x.2) (hl : bL l) (h : ∀ y ∈ l, x.2 + 1 < y.1) : bL (x :: l) := by
 refine ⟨fun y hy => ?_, List.pairwise_cons.2 ⟨h, hl.2⟩⟩
 rcases List.mem_cons.1 hy with rfl | hy
 ·exact hx
 ·exact hl.1 y hy
theorem ly : ∀ {a b : List (Int × Int)}, bL a -> bL b -> (∀ n, jc a n ↔ jc b n) -> a = b
 | [], [], _, _, _ => rfl
 | [], y :: b, _, hb, h => absurd ((h y.1).2 (aR.2 (.inl ⟨Int.le_refl _, (hb.head).1⟩))) (cU _)
 | x :: a, [], ha, _, h => absurd ((h x.1).1 (aR.2 (.inl ⟨Int.le_refl _, (ha.head).1⟩))) (cU _)
 | x :: a, y :: b, ha, hb, h => by
  obtain ⟨hx, CO⟩ := ha.head
  obtain ⟨hy, Pf⟩ := hb.head
  have e1 : x.1 = y.1 := by
   have p := (h x.1).1 (aR.2 (.inl ⟨Int.le_refl _, hx⟩))
   have q := (h y.1).2 (aR.2 (.inl ⟨Int.le_refl _, hy⟩))
   rcases aR.1 p with p | p <;> rcases aR.1 q with q | q
   ·omega
   ·have := CO _ q; omega
   ·have := Pf _ p; omega
   ·have := CO _ q; have := Pf _ p; omega
  have e2 : x.2 = y.2 := by
   rcases Int.lt_trichotomy x.2 y.2 with hlt | he | hgt
   ·have p := (h (x.2 + 1)).2 (aR.2 (.inl ⟨by omega, by omega⟩))
    rcases aR.1 p with p | p
    ·omega
    ·have := CO _ p; omega
   ·exact he
   ·have p := (h (y.2 + 1)).1 (aR.2 (.inl ⟨by omega, by omega⟩))
    rcases aR.1 p with p | p
    ·omega
    ·have := Pf _ p; omega
  have e : x = y := Prod.ext e1 e2
  subst e
  rw [ly ha.tail hb.tail (fun n => ?_)]
  have := h n
  rw [aR, aR] at this
  constructor
  ·intro p
   have h1 := CO n p
   rcases this.1 (.inr p) with q | q
   ·omega
   ·exact q
  ·intro p
   have h1 := Pf n p
   rcases this.2 (.inr p) with q | q
   ·omega
   ·exact q
theorem sx {out : List (Int × Int)} {x : Int × Int} (ho : bL out) (hx : x.1 <= x.2) (hlo : ∀ y ∈ out, y.1 <= x.1) :
  bL (aQ out x) /\ (∀ n, jc (aQ out x) n ↔ jc out n \/ (x.1 <= n /\ n <= x.2)) /\ ∀ y ∈ aQ out x, y.1 <= x.1 := by
 rcases List.eq_nil_or_concat out with rfl | ⟨m, a, rfl⟩
 ·simp only [aQ, List.getLast?_nil, List.nil_append]
  refine ⟨bL.cons hx ⟨fun y hy => by simp at hy, List.Pairwise.nil⟩ (fun y hy => by simp at hy), fun n => ?_, fun y hy => by simp at hy; subst hy; exact Int.le_refl _⟩
  rw [aR]
  constructor
  ·rintro (h | h)
   ·exact .inr h
   ·exact absurd h (cU n)
  ·rintro (h | h)
   ·exact absurd h (cU n)
   ·exact .inl h
 ·rw [List.concat_eq_append] at ho hlo ⊢
  have hal := hlo a (by simp)
  have hap := ho.1 a (by simp)
  have hm : ∀ y ∈ m, y.2 + 1 < a.1 := fun y hy => (List.pairwise_append.1 ho.2).2.2 y hy a (List.mem_singleton.2 rfl)
  have Ql : bL m := ⟨fun y hy => ho.1 y (by simp [hy]), (List.pairwise_append.1 ho.2).1⟩
  have snoc : ∀ {m : List (Int × Int)} {z : Int × Int}, bL m -> z.1 <= z.2 -> (∀ y ∈ m, y.2 + 1 < z.1) -> bL (m ++ [z]) := by
   intro m z h1 h2 h3
   refine ⟨fun y hy => ?_, List.pairwise_append.2 ⟨h1.2, by simp, fun y hy u hu => ?_⟩⟩
   ·rcases List.mem_append.1 hy with hy | hy
    ·exact h1.1 y hy
    ·simp at hy; subst hy; exact h2
   ·simp at hu; subst hu; exact h3 y hy
  unfold aQ
  simp only [List.getLast?_append, List.getLast?_singleton, Option.some_or, qH]
  by_cases hg : a.2 < x.1 /\ a.2 + 1 < x.1
  ·rw [if_pos hg]
   simp only
   refine ⟨snoc ho hx ?_, fun n => ?_, ?_⟩
   ·intro y hy
    rcases List.mem_append.1 hy with hy | hy
    ·have := hm y hy; omega
    ·simp at hy; subst hy; exact hg.2
   ·rw [kf, aR]
    constructor
    ·rintro (h | h | h)
     ·exact .inl h
     ·exact .inr h
     ·exact absurd h (cU n)
    ·rintro (h | h)
     ·exact .inl h
     ·exact .inr (.inl h)
   ·intro y hy
    rcases List.mem_append.1 hy with hy | hy
    ·exact hlo y hy
    ·simp at hy; subst hy; exact Int.le_refl _
  ·rw [if_neg hg]
   simp only [List.dropLast_concat]
   refine ⟨snoc Ql (by simp only; omega) hm, fun n => ?_, ?_⟩
   ·rw [kf, kf, aR, aR]
    simp only
    have h0 := cU n
    constructor
    ·rintro (h | h | h)
     ·exact .inl (.inl h)
     ·by_cases h1 : n <= a.2
      ·exact .inl (.inr (.inl ⟨h.1, h1⟩))
      ·exact .inr (by omega)
     ·exact absurd h h0
    ·rintro ((h | h | h) | h)
     ·exact .inl h
     ·exact .inr (.inl (by omega))
     ·exact absurd h h0
     ·exact .inr (.inl (by omega))
   ·intro y hy
    rcases List.mem_append.1 hy with hy | hy
    ·exact hlo y (by simp [hy])
    ·simp at hy; subst hy; exact hal
theorem qZ : ∀ {s out : List (Int × Int)}, bL out -> oJ s -> (s.Pairwise fun a b => a.1 <= b.1) -> (∀ y ∈ out, ∀ x ∈ s, y.1 <= x.1) ->
  bL (s.foldl aQ out) /\ ∀ n, jc (s.foldl aQ out) n ↔ jc out n \/ jc s n
 | [], out, ho, _, _, _ => ⟨ho, fun n => ⟨.inl, fun h => h.resolve_right (cU n)⟩⟩
 | x :: s, out, ho, hp, hs, hlo => by
  obtain ⟨h1, h2, h3⟩ := sx ho (hp x (by simp)) (fun y hy => hlo y hy x (by simp))
  obtain ⟨hs1, hs2⟩ := List.pairwise_cons.1 hs
  obtain ⟨h4, h5⟩ := qZ (s := s) h1 (fun y hy => hp y (by simp [hy])) hs2 (fun y hy z hz => Int.le_trans (h3 y hy) (hs1 z hz))
  refine ⟨h4, fun n => ?_⟩
  rw [List.foldl_cons, h5, h2, aR]
  constructor
  ·rintro ((h | h) | h)
   ·exact .inl h
   ·exact .inr (.inl h)
   ·exact .inr (.inr h)
  ·rintro (h | h | h)
   ·exact .inl (.inl h)
   ·exact .inl (.inr h)
   ·exact .inr h
theorem rh {s : List (Int × Int)} (hp : oJ s) (hs : s.Pairwise fun a b => a.1 <= b.1) : bL (bK s) /\ ∀ n, jc (bK s) n ↔ jc s n := by
 obtain ⟨h1, h2⟩ := qZ (out := []) ⟨fun y hy => by simp at hy, List.Pairwise.nil⟩ hp hs (fun y hy => by simp at hy)
 exact ⟨h1, fun n => (h2 n).trans ⟨fun h => h.resolve_left (cU n), .inr⟩⟩
theorem rp : ∀ {os : List (Int × Int)} {s : Int × Int}, s.1 <= s.2 -> bL os -> (∀ o ∈ os, s.1 <= o.2) ->
  bL (dA s os) /\ (∀ n, jc (dA s os) n ↔ (s.1 <= n /\ n <= s.2) /\ ¬ jc os n) /\ ∀ y ∈ dA s os, s.1 <= y.1 /\ y.2 <= s.2
 | [], s, hs, _, _ => by
  refine ⟨bL.cons hs ⟨fun y hy => by simp at hy, List.Pairwise.nil⟩ (fun y hy => by simp at hy), fun n => ?_, fun y hy => by simp [dA] at hy; subst hy; exact ⟨Int.le_refl _, Int.le_refl _⟩⟩
  simp only [dA, aR]
  have h0 := cU n
  constructor
  ·rintro (h | h)
   ·exact ⟨h, h0⟩
   ·exact absurd h h0
  ·rintro ⟨h, _⟩
   exact .inl h
 | o :: os, s, hs, hos, mn => by
  obtain ⟨ho, Kr⟩ := hos.head
  have hol := mn o (by simp)
  have U5 : ∀ y ∈ os, o.2 + 1 < y.1 := (List.pairwise_cons.1 hos.2).1
  unfold dA
  by_cases h1 : s.2 < o.1
  ·rw [if_pos h1]
   refine ⟨bL.cons hs ⟨fun y hy => by simp at hy, List.Pairwise.nil⟩ (fun y hy => by simp at hy), fun n => ?_, fun y hy => by simp at hy; subst hy; exact ⟨Int.le_refl _, Int.le_refl _⟩⟩
   rw [aR, aR]
   have h0 := cU n
   constructor
   ·rintro (h | h)
    ·refine ⟨h, ?_⟩
     rintro (h2 | h2)
     ·omega
     ·have := Kr n h2; omega
    ·exact absurd h h0
   ·rintro ⟨h, _⟩
    exact .inl h
  ·rw [if_neg h1]
   by_cases h2 : s.2 <= o.2
   ·rw [if_pos h2, List.append_nil]
    by_cases h3 : s.1 < o.1
    ·rw [if_pos h3]
     refine ⟨bL.cons (by simp only; omega) ⟨fun y hy => by simp at hy, List.Pairwise.nil⟩ (fun y hy => by simp at hy), fun n => ?_, fun y hy => by simp at hy; subst hy; simp only; omega⟩
     rw [aR, aR]
     have h0 := cU n
     simp only
     constructor
     ·rintro (h | h)
      ·refine ⟨by omega, ?_⟩
       rintro (h4 | h4)
       ·omega
       ·have := Kr n h4; omega
      ·exact absurd h h0
     ·rintro ⟨h, h4⟩
      have : ¬ (o.1 <= n /\ n <= o.2) := fun h5 => h4 (.inl h5)
      exact .inl (by omega)
    ·rw [if_neg h3]
     refine ⟨⟨fun y hy => by simp at hy, List.Pairwise.nil⟩, fun n => ?_, fun y hy => by simp at hy⟩
     rw [aR]
     have h0 := cU n
     constructor
     ·intro h; exact absurd h h0
     ·rintro ⟨h, h4⟩
      exact absurd (.inl (by omega)) h4
   ·rw [if_neg h2]
    obtain ⟨r1, r2, r3⟩ := rp (os := os) (s := (o.2 + 1, s.2)) (by simp only; omega) hos.tail (fun y hy => by have := U5 y hy; have := hos.1 y (by simp [hy]); simp only; omega)
    simp only at r2 r3
    by_cases h3 : s.1 < o.1
    ·rw [if_pos h3]
     refine ⟨?_, fun n => ?_, ?_⟩
     ·refine bL.cons (by simp only; omega) r1 (fun y hy => ?_)
      have := (r3 y hy).1
      simp only; omega
     ·rw [List.singleton_append, aR, r2, aR]
      simp only
      constructor
      ·rintro (h | ⟨h, h5⟩)
       ·refine ⟨by omega, ?_⟩
        rintro (h4 | h4)
        ·omega
        ·have := Kr n h4; omega
       ·refine ⟨by omega, ?_⟩
        rintro (h4 | h4)
        ·omega
        ·exact h5 h4
      ·rintro ⟨h, h4⟩
       have h6 : ¬ (o.1 <= n /\ n <= o.2) := fun h5 => h4 (.inl h5)
       by_cases h7 : n < o.1
       ·exact .inl (by omega)
       ·exact .inr ⟨by omega, fun h8 => h4 (.inr h8)⟩
     ·intro y hy
      rcases List.mem_append.1 hy with hy | hy
      ·simp at hy; subst hy; simp only; omega
      ·have := r3 y hy; omega
    ·rw [if_neg h3, List.nil_append]
     refine ⟨r1, fun n => ?_, fun y hy => by have := r3 y hy; omega⟩
     rw [r2, aR]
     constructor
     ·rintro ⟨h, h5⟩
      refine ⟨by omega, ?_⟩
      rintro (h4 | h4)
      ·omega
      ·exact h5 h4
     ·rintro ⟨h, h4⟩
      have h6 : ¬ (o.1 <= n /\ n <= o.2) := fun h5 => h4 (.inl h5)
      exact ⟨by omega, fun h8 => h4 (.inr h8)⟩
theorem nG : ∀ {os : List (Int × Int)} (lo : Int), bL os -> bL (bP lo os) /\ (∀ o ∈ bP lo os, lo <= o.2) /\ ∀ n, lo <= n -> (jc (bP lo os) n ↔ jc os n)
 | [], lo, h => ⟨h, fun o ho => by simp [bP] at ho, fun n _ => Iff.rfl⟩
 | o :: os, lo, h => by
  unfold bP
  rw [List.dropWhile_cons]
  by_cases h1 : o.2 < lo
  ·rw [if_pos (by simpa using h1)]
   obtain ⟨a, b, c⟩ := nG lo h.tail
   refine ⟨a, b, fun n hn => (c n hn).trans ?_⟩
   rw [aR]
   exact ⟨.inr, fun h2 => h2.resolve_left (by omega)⟩
  ·rw [if_neg (by simpa using h1)]
   refine ⟨h, fun y hy => ?_, fun n _ => Iff.rfl⟩
   rcases List.mem_cons.1 hy with rfl | hy
   ·omega
   ·have := (List.pairwise_cons.1 h.2).1 y hy
    have := h.1 y (by simp [hy])
    have := h.1 o (by simp)
    omega
theorem mD : ∀ {l os : List (Int × Int)}, bL l -> bL os -> bL (bp l os) /\ (∀ n, jc (bp l os) n ↔ jc l n /\ ¬ jc os n) /\ ∀ y ∈ bp l os, ∃ x ∈ l, x.1 <= y.1 /\ y.2 <= x.2
 | [], os, h, _ => ⟨h, fun n => ⟨fun h => absurd h (cU n), fun h => h.1⟩, fun y hy => by simp [bp] at hy⟩
 | s :: l, os, h, hos => by
  obtain ⟨hs, hsl⟩ := h.head
  obtain ⟨d1, d2, d3⟩ := nG s.1 hos
  obtain ⟨c1, c2, c3⟩ := rp hs d1 d2
  obtain ⟨w1, w2, w3⟩ := mD (l := l) h.tail d1
  have U6 : ∀ y ∈ l, s.2 + 1 < y.1 := (List.pairwise_cons.1 h.2).1
  unfold bp
  refine ⟨⟨fun y hy => ?_, List.pairwise_append.2 ⟨c1.2, w1.2, fun y hy z hz => ?_⟩⟩, fun n => ?_, fun y hy => ?_⟩
  ·rcases List.mem_append.1 hy with hy | hy
   ·exact c1.1 y hy
   ·exact w1.1 y hy
  ·obtain ⟨x, hx, h1, _⟩ := w3 z hz
   have := U6 x hx
   have := c3 y hy
   omega
  ·rw [kf, c2, w2, aR]
   constructor
   ·rintro (⟨h1, h2⟩ | ⟨h1, h2⟩)
    ·exact ⟨.inl h1, fun h3 => h2 ((d3 n h1.1).2 h3)⟩
    ·have := hsl n h1
     exact ⟨.inr h1, fun h3 => h2 ((d3 n (by omega)).2 h3)⟩
   ·rintro ⟨h1 | h1, h2⟩
    ·exact .inl ⟨h1, fun h3 => h2 ((d3 n h1.1).1 h3)⟩
    ·have := hsl n h1
     exact .inr ⟨h1, fun h3 => h2 ((d3 n (by omega)).1 h3)⟩
  ·rcases List.mem_append.1 hy with hy | hy
   ·exact ⟨s, by simp, c3 y hy⟩
   ·obtain ⟨x, hx, h1⟩ := w3 y hy
    exact ⟨x, by simp [hx], h1⟩
theorem cQ {α : Type} {l : List α} {k : Nat} {x : α} (h : l[k]? = some x) : l.take (k + 1) = l.take k ++ [x] := by rw [List.take_add_one, h]; rfl
abbrev jo := Int × List UInt8 × Int
def Cl.has (c : Cl) (t : jo) : Prop := c.aG = t.1 /\ c.key = t.2.1 /\ c.lo <= t.2.2 /\ t.2.2 <= c.hi
instance (c : Cl) (t : jo) : Decidable (c.has t) := by unfold Cl.has; infer_instance
def dN (l : List Cl) (t : jo) : Int :=
 if ∃ c ∈ l, c.has t /\ c.wr = true then 2 else if ∃ c ∈ l, c.has t then 1 else 0
theorem fo {l : List Cl} {t : jo} : dN l t = 2 ↔ ∃ c ∈ l, c.has t /\ c.wr = true := by
 unfold dN
 split
 ·simp_all
 ·split <;> simp_all
theorem bO {l : List Cl} {t : jo} : 1 <= dN l t ↔ ∃ c ∈ l, c.has t := by
 unfold dN
 split
 ·rename_i h
  obtain ⟨c, h1, h2, _⟩ := h
  exact ⟨fun _ => ⟨c, h1, h2⟩, fun _ => by decide⟩
 ·split
  ·rename_i h
   exact ⟨fun _ => h, fun _ => by decide⟩
  ·rename_i h
   exact ⟨fun h0 => absurd h0 (by decide), fun h0 => absurd h0 h⟩
theorem gg (l : List Cl) (t : jo) : 0 <= dN l t /\ dN l t <= 2 := by
 unfold dN
 split
 ·omega
 ·split <;> omega
theorem Fe {a b : List Cl} {t : jo} (h2 : (∃ c ∈ a, c.has t /\ c.wr = true) -> ∃ c ∈ b, c.has t /\ c.wr = true) (h1 : (∃ c ∈ a, c.has t) -> ∃ c ∈ b, c.has t) : dN a t <= dN b t := by
 have e2 : dN a t = 2 -> dN b t = 2 := fun h => fo.2 (h2 (fo.1 h))
 have e1 : 1 <= dN a t -> 1 <= dN b t := fun h => bO.2 (h1 (bO.1 h))
 have := gg a t
 have := gg b t
 omega
theorem BF {a b : List Cl} (h : ∀ c, c ∈ a -> c ∈ b) (t : jo) : dN a t <= dN b t :=
 Fe (fun ⟨c, x, y⟩ => ⟨c, h c x, y⟩) (fun ⟨c, x, y⟩ => ⟨c, h c x, y⟩)
theorem Hu (t : jo) : dN [] t = 0 := by simp [dN]
theorem kg (a b : List Cl) (t : jo) : dN (a ++ b) t = max (dN a t) (dN b t) := by
 have h1 := BF (a := a) (b := a ++ b) (fun c h => List.mem_append.2 (.inl h)) t
 have h2 := BF (a := b) (b := a ++ b) (fun c h => List.mem_append.2 (.inr h)) t
 have h3 : dN (a ++ b) t = 2 -> dN a t = 2 \/ dN b t = 2 := by
  intro h
  obtain ⟨c, hc, h⟩ := fo.1 h
  rcases List.mem_append.1 hc with hc | hc
  ·exact .inl (fo.2 ⟨c, hc, h⟩)
  ·exact .inr (fo.2 ⟨c, hc, h⟩)
 have h4 : 1 <= dN (a ++ b) t -> 1 <= dN a t \/ 1 <= dN b t := by
  intro h
  obtain ⟨c, hc, h⟩ := bO.1 h
  rcases List.mem_append.1 hc with hc | hc
  ·exact .inl (bO.2 ⟨c, hc, h⟩)
  ·exact .inr (bO.2 ⟨c, hc, h⟩)
 have := gg a t
 have := gg b t
 have := gg (a ++ b) t
 omega
theorem xO (a : List Cl) (c : Cl) (t : jo) : dN (a ++ [c]) t = if c.has t then (if c.wr = true then 2 else max (dN a t) 1) else dN a t := by
 rw [kg]
 have hb := gg a t
 have h1 : dN [c] t = if c.has t then (if c.wr = true then 2 else 1) else 0 := by
  unfold dN
  by_cases h : c.has t <;> by_cases hw : c.wr = true <;> simp [h, hw]
 rw [h1]
 by_cases h : c.has t
 ·by_cases hw : c.wr = true
  ·simp only [h, hw, if_true]; omega
  ·simp only [h, hw, if_true]; simp
 ·simp only [h, if_false]; omega
theorem mE {α : Type} {r : α -> α -> Prop} (QA : ∀ a, ¬ r a a) (Sp : ∀ a b, r a b -> r b a -> False) : ∀ {a b : List α}, a.Pairwise r -> b.Pairwise r -> (∀ x, x ∈ a ↔ x ∈ b) -> a = b
 | [], [], _, _, _ => rfl
 | [], y :: b, _, _, h => absurd ((h y).2 (by simp)) (by simp)
 | x :: a, [], _, _, h => absurd ((h x).1 (by simp)) (by simp)
 | x :: a, y :: b, ha, hb, h => by
  have ha' := List.pairwise_cons.1 ha
  have hb' := List.pairwise_cons.1 hb
  have hxy : x = y := by
   rcases List.mem_cons.1 ((h x).1 (by simp)) with e | e
   ·exact e
   ·rcases List.mem_cons.1 ((h y).2 (by simp)) with e' | e'
    ·exact e'.symm
    ·exact (Sp _ _ (ha'.1 _ e') (hb'.1 _ e)).elim
  subst hxy
  congr 1
  refine mE QA Sp ha'.2 hb'.2 fun z => ?_
  constructor
  ·intro hz
   rcases List.mem_cons.1 ((h z).1 (by simp [hz])) with e | e
   ·subst e; exact absurd (ha'.1 _ hz) (QA _)
   ·exact e
  ·intro hz
   rcases List.mem_cons.1 ((h z).2 (by simp [hz])) with e | e
   ·subst e; exact absurd (hb'.1 _ hz) (QA _)
   ·exact e
def sy (x : Bool × List UInt8) : Cl := ⟨x.1, -1, x.2, 0, 0⟩
def pN (W R : Int -> List (Int × Int)) (i : Int) : List Cl := (W i).map (oz i true) ++ (R i).map (oz i false)
def ej (ks : List (Bool × List UInt8)) (W R : Int -> List (Int × Int)) : List Cl :=
 ks.map sy ++ pN W R 0 ++ pN W R 1 ++ pN W R 2 ++ pN W R 3
def BG (l : List Cl) : Prop := ∃ ks W R, l = ej ks W R /\ (ks.Pairwise fun a b => a.2 < b.2) /\ ∀ i : Int, 0 <= i -> i < 4 -> bL (W i) /\ bL (R i) /\ ∀ n, jc (W i) n -> ¬ jc (R i) n
theorem eY {W R : Int -> List (Int × Int)} {i : Int} {c : Cl} : c ∈ pN W R i ↔ (∃ x ∈ W i, oz i true x = c) \/ ∃ x ∈ R i, oz i false x = c := by
 unfold pN
 rw [List.mem_append, List.mem_map, List.mem_map]
theorem cw {ks : List (Bool × List UInt8)} {W R : Int -> List (Int × Int)} {c : Cl} : c ∈ ej ks W R ↔ (∃ x ∈ ks, sy x = c) \/ ∃ i : Int, 0 <= i /\ i < 4 /\ c ∈ pN W R i := by
 unfold ej
 simp only [List.mem_append, List.mem_map]
 constructor
 ·rintro ((((h | h) | h) | h) | h)
  ·exact .inl h
  ·exact .inr ⟨0, by decide, by decide, h⟩
  ·exact .inr ⟨1, by decide, by decide, h⟩
  ·exact .inr ⟨2, by decide, by decide, h⟩
  ·exact .inr ⟨3, by decide, by decide, h⟩
 ·rintro (h | ⟨i, h1, h2, h⟩)
  ·exact .inl (.inl (.inl (.inl h)))
  ·have : i = 0 \/ i = 1 \/ i = 2 \/ i = 3 := by omega
   rcases this with rfl | rfl | rfl | rfl
   ·exact .inl (.inl (.inl (.inr h)))
   ·exact .inl (.inl (.inr h))
   ·exact .inl (.inr h)
   ·exact .inr h
theorem fG {x : Bool × List UInt8} {t : jo} : (sy x).has t ↔ t = (-1, x.2, 0) := by
 obtain ⟨a, b, n⟩ := t
 unfold Cl.has sy
 simp only [Prod.mk.injEq]
 constructor
 ·rintro ⟨h1, h2, h3, h4⟩; exact ⟨h1.symm, h2.symm, by omega⟩
 ·rintro ⟨h1, h2, h3⟩; exact ⟨h1.symm, h2.symm, by omega, by omega⟩
theorem cV {i : Int} {b : Bool} {x : Int × Int} {t : jo} : (oz i b x).has t ↔ t.1 = i /\ t.2.1 = [] /\ x.1 <= t.2.2 /\ t.2.2 <= x.2 := by
 unfold Cl.has oz
 simp only
 constructor
 ·rintro ⟨h1, h2, h3⟩; exact ⟨h1.symm, h2.symm, h3⟩
 ·rintro ⟨h1, h2, h3⟩; exact ⟨h1.symm, h2.symm, h3⟩
section
variable {ks : List (Bool × List UInt8)} {W R : Int -> List (Int × Int)}
theorem ki {k : List UInt8} : 1 <= dN (ej ks W R) (-1, k, 0) ↔ ∃ b, (b, k) ∈ ks := by
 rw [bO]
 constructor
 ·rintro ⟨c, hc, h⟩
  rcases cw.1 hc with ⟨x, hx, rfl⟩ | ⟨i, h1, h2, hi⟩
  ·have := fG.1 h
   simp at this
   exact ⟨x.1, by rw [this]; exact hx⟩
  ·rcases eY.1 hi with ⟨x, _, rfl⟩ | ⟨x, _, rfl⟩
   ·have := (cV.1 h).1; simp only at this; omega
   ·have := (cV.1 h).1; simp only at this; omega
 ·rintro ⟨b, hb⟩
  exact ⟨_, cw.2 (.inl ⟨_, hb, rfl⟩), fG.2 rfl⟩
theorem kj {k : List UInt8} : dN (ej ks W R) (-1, k, 0) = 2 ↔ (true, k) ∈ ks := by
 rw [fo]
 constructor
 ·rintro ⟨c, hc, h, hw⟩
  rcases cw.1 hc with ⟨x, hx, rfl⟩ | ⟨i, h1, h2, hi⟩
  ·have := fG.1 h
   simp at this
   unfold sy at hw
   simp only at hw
   obtain ⟨x1, x2⟩ := x
   simp_all
  ·rcases eY.1 hi with ⟨x, _, rfl⟩ | ⟨x, _, rfl⟩
   ·have := (cV.1 h).1; simp only at this; omega
   ·have := (cV.1 h).1; simp only at this; omega
 ·rintro hb
  exact ⟨_, cw.2 (.inl ⟨_, hb, rfl⟩), fG.2 rfl, rfl⟩
theorem km {i n : Int} (h0 : 0 <= i) (h4 : i < 4) : dN (ej ks W R) (i, [], n) = 2 ↔ jc (W i) n := by
 rw [fo]
 constructor
 ·rintro ⟨c, hc, h, hw⟩
  rcases cw.1 hc with ⟨x, hx, rfl⟩ | ⟨j, h1, h2, hi⟩
  ·have := fG.1 h
   simp at this
   omega
  ·rcases eY.1 hi with ⟨x, hx, rfl⟩ | ⟨x, _, rfl⟩
   ·have h' := cV.1 h
    simp only at h'
    obtain ⟨rfl, _, h3⟩ := h'
    exact ⟨x, hx, h3⟩
   ·cases hw
 ·rintro ⟨x, hx, h⟩
  exact ⟨_, cw.2 (.inr ⟨i, h0, h4, eY.2 (.inl ⟨x, hx, rfl⟩)⟩), cV.2 ⟨rfl, rfl, h⟩, rfl⟩
theorem ko {i n : Int} (h0 : 0 <= i) (h4 : i < 4) : 1 <= dN (ej ks W R) (i, [], n) ↔ jc (W i) n \/ jc (R i) n := by
 rw [bO]
 constructor
 ·rintro ⟨c, hc, h⟩
  rcases cw.1 hc with ⟨x, hx, rfl⟩ | ⟨j, h1, h2, hi⟩
  ·have := fG.1 h
   simp at this
   omega
  ·rcases eY.1 hi with ⟨x, hx, rfl⟩ | ⟨x, hx, rfl⟩
   ·have h' := cV.1 h
    simp only at h'
    obtain ⟨rfl, _, h3⟩ := h'
    exact .inl ⟨x, hx, h3⟩
   ·have h' := cV.1 h
    simp only at h'
    obtain ⟨rfl, _, h3⟩ := h'
    exact .inr ⟨x, hx, h3⟩
 ·rintro (⟨x, hx, h⟩ | ⟨x, hx, h⟩)
  ·exact ⟨_, cw.2 (.inr ⟨i, h0, h4, eY.2 (.inl ⟨x, hx, rfl⟩)⟩), cV.2 ⟨rfl, rfl, h⟩⟩
  ·exact ⟨_, cw.2 (.inr ⟨i, h0, h4, eY.2 (.inr ⟨x, hx, rfl⟩)⟩), cV.2 ⟨rfl, rfl, h⟩⟩
end
theorem uX (a : List UInt8) : ¬ a < a := List.lt_irrefl a
theorem Hv {a b : List UInt8} (h : a < b) (h' : b < a) : False := List.lt_irrefl a (List.lt_trans h h')
theorem xP {a b : List Cl} (ha : BG a) (hb : BG b) (h : ∀ t, dN a t = dN b t) : a = b := by
 obtain ⟨ks, W, R, rfl, hk, hn⟩ := ha
 obtain ⟨ks', W', R', rfl, hk', hn'⟩ := hb
 have hp : ∀ {ks : List (Bool × List UInt8)}, (ks.Pairwise fun a b => a.2 < b.2) -> ∀ x ∈ ks, ∀ y ∈ ks, x.2 = y.2 -> x = y := by
  intro ks hk x hx y hy e
  by_cases hne : x = y
  ·exact hne
  ·obtain ⟨i, hi, rfl⟩ := List.mem_iff_getElem.1 hx
   obtain ⟨j, hj, rfl⟩ := List.mem_iff_getElem.1 hy
   rcases Nat.lt_trichotomy i j with hij | hij | hij
   ·have := List.pairwise_iff_getElem.1 hk i j hi hj hij; rw [e] at this; exact (uX _ this).elim
   ·subst hij; rfl
   ·have := List.pairwise_iff_getElem.1 hk j i hj hi hij; rw [e] at this; exact (uX _ this).elim
 have hks : ks = ks' := by
  refine mE (r := fun a b => a.2 < b.2) (fun a => uX a.2) (fun a b => Hv) hk hk' ?_
  have side : ∀ {ks ks' : List (Bool × List UInt8)} {W R W' R' : Int -> List (Int × Int)}, (ks.Pairwise fun a b => a.2 < b.2) -> (ks'.Pairwise fun a b => a.2 < b.2) -> (∀ t, dN (ej ks W R) t = dN (ej ks' W' R') t) -> ∀ x, x ∈ ks -> x ∈ ks' := by
   intro ks ks' W R W' R' hk hk' h x hx
   obtain ⟨b, k⟩ := x
   have h1 := (ki (ks := ks) (W := W) (R := R)).2 ⟨b, hx⟩
   rw [h] at h1
   obtain ⟨b', hb'⟩ := ki.1 h1
   have h2 : ((true, k) ∈ ks) ↔ ((true, k) ∈ ks') := by
    rw [<- kj (ks := ks) (W := W) (R := R), <- kj (ks := ks') (W := W') (R := R'), h]
   cases b with
   | true => exact h2.1 hx
   | false =>
    cases b' with
    | false => exact hb'
    | true =>
     have := hp hk _ (h2.2 hb') _ hx rfl
     cases this
  exact fun x => ⟨side hk hk' h x, side hk' hk (fun t => (h t).symm) x⟩
 subst hks
 have hW : ∀ i : Int, 0 <= i -> i < 4 -> W i = W' i := fun i h0 h4 => ly (hn i h0 h4).1 (hn' i h0 h4).1 fun n => by
  rw [<- km (ks := ks) (R := R) h0 h4, <- km (ks := ks) (R := R') h0 h4, h]
 have hR : ∀ i : Int, 0 <= i -> i < 4 -> R i = R' i := fun i h0 h4 => ly (hn i h0 h4).2.1 (hn' i h0 h4).2.1 fun n => by
  have e1 := ko (ks := ks) (W := W) (R := R) (n := n) h0 h4
  have e2 := ko (ks := ks) (W := W') (R := R') (n := n) h0 h4
  have e3 := (hn i h0 h4).2.2 n
  have e4 := (hn' i h0 h4).2.2 n
  rw [h, e2, hW i h0 h4] at e1
  rw [hW i h0 h4] at e3
  constructor
  ·intro hr
   rcases e1.2 (.inr hr) with h' | h'
   ·exact absurd hr (e3 h')
   ·exact h'
  ·intro hr
   rcases e1.1 (.inr hr) with h' | h'
   ·exact absurd hr (e4 h')
   ·exact h'
 unfold ej pN
 rw [hW 0 (by decide) (by decide), hW 1 (by decide) (by decide), hW 2 (by decide) (by decide), hW 3 (by decide) (by decide), hR 0 (by decide) (by decide), hR 1 (by decide) (by decide), hR 2 (by decide) (by decide), hR 3 (by decide) (by decide)]
def Ok (c : Cl) : Prop := Bk c = 0
theorem Ok.parts {c : Cl} (h : Ok c) : (c.aG = -1 /\ c.lo = 0 /\ c.hi = 0 /\ 1 <= c.key.length /\ c.key.length <= 16) \/ (0 <= c.aG /\ c.aG < 4 /\ c.key = [] /\ c.lo <= c.hi) := by
 unfold Ok Bk at h
 split at h
 ·cases h
 ·split at h
  ·split at h
   ·cases h
   ·rename_i h1 h2 h3
    refine .inr ⟨h2, by omega, ?_, ?_⟩
    ·exact Classical.byContradiction fun hk => h3 (.inl hk)
    ·exact Int.not_lt.1 fun hk => h3 (.inr hk)
  ·split at h
   ·cases h
   ·unfold cO at h
    split at h
    ·cases h
    ·omega
theorem Ok.of {c : Cl} (h : (c.aG = -1 /\ c.lo = 0 /\ c.hi = 0 /\ 1 <= c.key.length /\ c.key.length <= 16) \/ (0 <= c.aG /\ c.aG < 4 /\ c.key = [] /\ c.lo <= c.hi)) : Ok c := by
 unfold Ok Bk cO
 rcases h with ⟨h1, h2, h3, h4, h5⟩ | ⟨h1, h2, h3, h4⟩
 ·rw [if_neg (by omega), if_neg (by omega), if_neg (by omega), if_neg (by omega)]
 ·rw [if_neg (by omega), if_pos h1, if_neg (by simp [h3]; omega)]
theorem Ok.proper {c : Cl} (h : Ok c) : c.lo <= c.hi := by
 rcases h.parts with h | h <;> omega
def bQ (l : List Cl) (i : Int) (b : Bool) : List (Int × Int) := (l.filter fun c => c.aG == i && c.wr == b).map fun c => (c.lo, c.hi)
theorem jq {l : List Cl} {i : Int} {b : Bool} {x : Int × Int} : x ∈ bQ l i b ↔ ∃ c ∈ l, c.aG = i /\ c.wr = b /\ (c.lo, c.hi) = x := by
 unfold bQ
 simp only [List.mem_map, List.mem_filter, Bool.and_eq_true, beq_iff_eq]
 constructor
 ·rintro ⟨c, ⟨h1, h2, h3⟩, h4⟩; exact ⟨c, h1, h2, h3, h4⟩
 ·rintro ⟨c, h1, h2, h3, h4⟩; exact ⟨c, ⟨h1, h2, h3⟩, h4⟩
theorem lA {l : List Cl} (hl : ∀ c ∈ l, Ok c) {i n : Int} {b : Bool} (h0 : 0 <= i) : jc (bQ l i b) n ↔ ∃ c ∈ l, c.has (i, [], n) /\ c.wr = b := by
 unfold jc
 constructor
 ·rintro ⟨x, hx, h⟩
  obtain ⟨c, h1, h2, h3, rfl⟩ := jq.1 hx
  have := (hl c h1).parts
  refine ⟨c, h1, ⟨h2, ?_, h⟩, h3⟩
  rcases this with this | this
  ·omega
  ·exact this.2.2.1
 ·rintro ⟨c, h1, ⟨h2, h3, h4⟩, h5⟩
  exact ⟨_, jq.2 ⟨c, h1, h2, h5, rfl⟩, h4⟩
theorem lC {l : List Cl} (hl : ∀ c ∈ l, Ok c) (i : Int) (b : Bool) : oJ (bQ l i b) := by
 intro x hx
 obtain ⟨c, h1, h2, h3, rfl⟩ := jq.1 hx
 exact (hl c h1).proper
theorem Hw {l : List Cl} (hl : ∀ c ∈ l, Ok c) {ks : List (Bool × List UInt8)} {W R : Int -> List (Int × Int)} (hk : ks.Pairwise fun a b => a.2 < b.2)
  (h1 : ∀ k, (∃ b, (b, k) ∈ ks) ↔ 1 <= dN l (-1, k, 0)) (h2 : ∀ k, (true, k) ∈ ks ↔ dN l (-1, k, 0) = 2)
  (hW : ∀ i : Int, 0 <= i -> i < 4 -> bL (W i) /\ ∀ n, jc (W i) n ↔ jc (bQ l i true) n)
  (hR : ∀ i : Int, 0 <= i -> i < 4 -> bL (R i) /\ ∀ n, jc (R i) n ↔ jc (bQ l i false) n /\ ¬ jc (W i) n) :
  BG (ej ks W R) /\ ∀ t, dN (ej ks W R) t = dN l t := by
 refine ⟨⟨ks, W, R, rfl, hk, fun i a b => ⟨(hW i a b).1, (hR i a b).1, fun n h h' => ((((hR i a b).2 n).1 h').2 h)⟩⟩, ?_⟩
 rintro ⟨i, k, n⟩
 have Wu := gg (ej ks W R) (i, k, n)
 have Wv := gg l (i, k, n)
 by_cases hi : 0 <= i /\ i < 4
 ·obtain ⟨a, b⟩ := hi
  by_cases hkn : k = []
  ·subst hkn
   have e1 := (km (ks := ks) (W := W) (R := R) (n := n) a b)
   have e2 := (ko (ks := ks) (W := W) (R := R) (n := n) a b)
   rw [(hW i a b).2 n, lA hl a, <- fo] at e1
   have e3 : (jc (W i) n \/ jc (R i) n) ↔ 1 <= dN l (i, [], n) := by
    rw [(hR i a b).2 n, (hW i a b).2 n, lA hl a, lA hl a, bO]
    constructor
    ·rintro (⟨c, x, y, _⟩ | ⟨⟨c, x, y, _⟩, _⟩)
     ·exact ⟨c, x, y⟩
     ·exact ⟨c, x, y⟩
    ·rintro ⟨c, x, y⟩
     cases hw : c.wr
     ·by_cases hh : ∃ c ∈ l, c.has (i, [], n) /\ c.wr = true
      ·exact .inl hh
      ·exact .inr ⟨⟨c, x, y, hw⟩, hh⟩
     ·exact .inl ⟨c, x, y, hw⟩
   rw [e3] at e2
   omega
  ·have e1 : ¬ 1 <= dN (ej ks W R) (i, k, n) := by
    rw [bO]
    rintro ⟨c, hc, h⟩
    rcases cw.1 hc with ⟨x, hx, rfl⟩ | ⟨j, _, _, hi⟩
    ·have := fG.1 h; simp at this; omega
    ·rcases eY.1 hi with ⟨x, hx, rfl⟩ | ⟨x, hx, rfl⟩
     ·exact hkn (cV.1 h).2.1
     ·exact hkn (cV.1 h).2.1
   have e2 : ¬ 1 <= dN l (i, k, n) := by
    rw [bO]
    rintro ⟨c, hc, g1, g2, g3⟩
    simp only at g1 g2
    rcases (hl c hc).parts with h | h
    ·omega
    ·exact hkn (g2.symm.trans h.2.2.1)
   omega
 ·by_cases hr : i = -1 /\ n = 0
  ·obtain ⟨rfl, rfl⟩ := hr
   have e1 := (ki (ks := ks) (W := W) (R := R) (k := k)).trans (h1 k)
   have e2 := (kj (ks := ks) (W := W) (R := R) (k := k)).trans (h2 k)
   omega
  ·have e1 : ¬ 1 <= dN (ej ks W R) (i, k, n) := by
    rw [bO]
    rintro ⟨c, hc, h⟩
    rcases cw.1 hc with ⟨x, hx, rfl⟩ | ⟨j, _, _, hi⟩
    ·have := fG.1 h; simp at this; omega
    ·rcases eY.1 hi with ⟨x, hx, rfl⟩ | ⟨x, hx, rfl⟩
     ·have := (cV.1 h).1; simp only at this; omega
     ·have := (cV.1 h).1; simp only at this; omega
   have e2 : ¬ 1 <= dN l (i, k, n) := by
    rw [bO]
    rintro ⟨c, hc, g1, g2, g3, g4⟩
    simp only at g1 g2 g3 g4
    rcases (hl c hc).parts with h | h
    ·omega
    ·omega
   omega
end Go.Proofs.YtagemonojdgbdaaGreatDoor
