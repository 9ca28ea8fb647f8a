import Derived.Test.YtagemonojdgbdaaGreatDoorC04
import Derived.Laws.OwnMore
import Derived.Deep.RegionLaw
import Derived.Deep.CutRange
namespace Go.Proofs.YtagemonojdgbdaaGreatDoor
set_option maxRecDepth 100000
open Go.RowKit
def joinStep (out : List (Int × Int)) (x : Int × Int) : List (Int × Int) :=
 match out.getLast? with
 | none => out ++ [x]
 | some a => match meetS a x with
  | none => out ++ [x]
  | some y => out.dropLast ++ [y]
def joinS (l : List (Int × Int)) : List (Int × Int) := l.foldl joinStep []
def SpFit (l : List (Int × Int)) : Prop := ∀ x ∈ l, I64 x.1 ∧ I64 x.2
theorem meetS_fit {a b y : Int × Int} (h : meetS a b = some y) (ha : I64 a.1 ∧ I64 a.2) (hb : I64 b.1 ∧ I64 b.2) : I64 y.1 ∧ I64 y.2 := by
 unfold meetS at h
 split at h
 ·cases h
 ·injection h with h
  subst h
  refine ⟨ha.1, ?_⟩
  unfold I64 at *
  simp only
  omega
theorem joinStep_fit {out : List (Int × Int)} {x : Int × Int} (ho : SpFit out) (hx : I64 x.1 ∧ I64 x.2) : SpFit (joinStep out x) := by
 unfold joinStep
 split
 ·intro y hy
  rcases List.mem_append.1 hy with h | h
  ·exact ho y h
  ·simp at h; subst h; exact hx
 ·rename_i a ha
  have hal : a ∈ out := List.mem_of_getLast? ha
  split
  ·intro y hy
   rcases List.mem_append.1 hy with h | h
   ·exact ho y h
   ·simp at h; subst h; exact hx
  ·rename_i y hy
   intro z hz
   rcases List.mem_append.1 hz with h | h
   ·exact ho z (List.dropLast_subset _ h)
   ·simp at h; subst h; exact meetS_fit hy (ho a hal) hx
theorem joinStep_len (out : List (Int × Int)) (x : Int × Int) : (joinStep out x).length ≤ out.length + 1 := by
 unfold joinStep
 split
 ·simp
 ·split
  ·simp
  ·simp
theorem foldl_fit {l : List (Int × Int)} : ∀ {out}, SpFit out → SpFit l → SpFit (l.foldl joinStep out) := by
 induction l with
 | nil => intro out h _; exact h
 | cons x l ih =>
  intro out ho hl
  exact ih (joinStep_fit ho (hl x (by simp))) (fun y hy => hl y (by simp [hy]))
theorem foldl_len {l : List (Int × Int)} : ∀ {out : List (Int × Int)}, (l.foldl joinStep out).length ≤ out.length + l.length := by
 induction l with
 | nil => intro out; simp
 | cons x l ih =>
  intro out
  have := ih (out := joinStep out x)
  have := joinStep_len out x
  simp
  omega
theorem spc_set (l : List (Int × Int)) (y : Int × Int) (hl : l ≠ []) :
  (((l.map spc).flatten.set ((l.length - 1) * 2) (.int .i64 y.1)).set ((l.length - 1) * 2 + 1) (.int .i64 y.2)) = ((l.dropLast ++ [y]).map spc).flatten := by
 obtain ⟨m, z, rfl⟩ : ∃ m z, l = m ++ [z] := ⟨l.dropLast, l.getLast hl, (List.dropLast_concat_getLast hl).symm⟩
 have hlen : (m.map spc).flatten.length = m.length * 2 := by rw [flat_len (spc_len m)]; simp
 simp only [List.map_append, List.flatten_append, List.length_append, List.length_singleton, Nat.add_sub_cancel, List.dropLast_concat]
 rw [List.set_append_right _ _ (by omega), List.set_append_right _ _ (by omega), hlen]
 simp [spc]
theorem box_after {W w1 : World} {n : Nat} (hn : W.heap.size = n) (hb : Below W.drew.heap.size W.drew w1) (Y : Obj) : n ≤ w1.heap.size ∧ (w1.alloc Y).heap[w1.heap.size]? = some Y ∧ Below n W (w1.alloc Y) := by
 subst hn
 have h := undrew hb
 have hs : W.heap.size ≤ w1.heap.size := h.size
 exact ⟨hs, heap_alloc_new _ _, h.alloc hs _⟩
theorem box_before {W w1 : World} {n : Nat} {t : TypeId} {z0 z1 : Value} (hn : W.heap.size = n) (hb : Below (W.alloc (.cells #[z0, z1] t)).drew.heap.size (W.alloc (.cells #[z0, z1] t)).drew w1) (a b : Value) :
  n ≤ n ∧ ((w1.setCell ⟨n, 0, none⟩ a).setCell ⟨n, 1, none⟩ b).heap[n]? = some (.cells #[a, b] t) ∧ Below n W ((w1.setCell ⟨n, 0, none⟩ a).setCell ⟨n, 1, none⟩ b) := by
 subst hn
 have h := undrew hb
 have h1 : w1.heap[W.heap.size]? = some (.cells #[z0, z1] t) := by
  rw [h.block W.heap.size (by show W.heap.size < (W.alloc (.cells #[z0, z1] t)).heap.size; simp)]
  exact heap_alloc_new _ _
 refine ⟨Nat.le_refl _, ?_, ?_⟩
 ·have h2 := heap_setCell_same w1 W.heap.size 0 _ t a h1
  have h3 := heap_setCell_same _ W.heap.size 1 _ t b h2
  simpa using h3
 ·have h2 : Below W.heap.size W w1 := ((Below.refl _ _).alloc (Nat.le_refl _) _).trans (h.mono (by show W.heap.size ≤ (W.alloc (.cells #[z0, z1] t)).heap.size; simp))
  exact (h2.setCell (Nat.le_refl _) _).setCell (Nat.le_refl _) _
theorem blk_cell2 {w : World} {b : Nat} {u v : Value} {t : TypeId} (h : w.heap[b]? = some (.cells #[u, v] t (0, 0))) : w.cell? ⟨b, 0, none⟩ = some u ∧ w.cell? ⟨b, 1, none⟩ = some v ∧ w.frozen? ⟨b, 0, none⟩ = false ∧ w.frozen? ⟨b, 1, none⟩ = false := by
 simp [World.cell?, World.frozen?, h]
def FreshS (l : List (Int × Int)) (w : World) (e : Ending) (w' : World) : Prop :=
 ∃ A c, e = .returned (.slice A l.length c) ∧ w'.ownsRow w.heap.size 178 2 (.slice A l.length c) l.length (l.map spc).flatten ∧ Below w.heap.size w w'
def JoinR (w : World) (l : List (Int × Int)) (k : Nat) (v : Value) (w' : World) : Prop :=
 w'.ownsRow w.heap.size 178 2 v (((l.take k).foldl joinStep [])).length ((((l.take k).foldl joinStep [])).map spc).flatten ∧ Below w.heap.size w w'
set_option maxHeartbeats 1000000 in
theorem joined_ok (w : World) (F : Nat → Prop) (v : Value) (l : List (Int × Int)) (h : SpRd w F v l) (hl : l.length ≤ 1000) (hfit : SpFit l) :
  Calls Tryz.prog 119 #[v, .func (.func 120) #[] #[]] w (FreshS (joinS l) w) := by
 obtain ⟨i0, hi, hz0, hz1, hz2⟩ := info_parts Tryz.info81
 obtain ⟨A, c, rfl, hnc, hcm⟩ := h.slice
 have H := Lib.hid h
 clear h
 go_enter Tryz.func119, Tryz.ntmps119
 go_wp2_with fail
 go_loopw [5, 13] (fun v i wr => ∃ k, k ≤ l.length ∧ i = .int .i64 (k : Int) ∧ JoinR w l k v wr) (fun _ i _ => l.length - (intOf i).toNat)
 case atStart => exact ⟨0, Nat.zero_le _, rfl, World.ownsRow_nil _ _ _ _, Below.refl _ _⟩
 case round =>
  obtain ⟨k, hk, rfl, hown, hbl⟩ := hrel
  by_cases hlt : k < l.length
  ·obtain ⟨x, hx⟩ : ∃ x, l[k]? = some x := ⟨_, List.getElem?_eq_getElem hlt⟩
   obtain ⟨b, o, rfl, hF, c0, c1⟩ := H.out.at_ hx
   have hb : b < w.heap.size := World.block_lt_of_cell? w _ c0
   have c0' := (hbl.cell (p := ⟨b, o + k * 2, none⟩) hb).trans c0
   have c1' := (hbl.cell (p := ⟨b, o + k * 2 + 1, none⟩) hb).trans c1
   have htk : (l.take (k + 1)).foldl joinStep [] = joinStep ((l.take k).foldl joinStep []) x := by
    rw [List.take_add_one, hx]
    simp
   have hxf := hfit x (List.mem_of_getElem? hx)
   have hfo : SpFit ((l.take k).foldl joinStep []) := foldl_fit (fun _ h => by simp at h) (fun y hy => hfit y (List.mem_of_mem_take hy))
   have hln : ((l.take k).foldl joinStep []).length ≤ k := by
    have := foldl_len (l := l.take k) (out := [])
    simp at this
    omega
   obtain ⟨out, hout⟩ : ∃ out, (l.take k).foldl joinStep [] = out := ⟨_, rfl⟩
   rw [hout] at htk hfo hln hown
   have HB := Lib.hid htk
   clear hx c0 c1 hout htk
   obtain ⟨n, hn⟩ : ∃ n, out.length = n := ⟨_, rfl⟩
   rw [hn] at hown hln
   obtain ⟨A5, c5, rfl⟩ := ownsRow_slice hown
   have hs := hbl.size
   obtain ⟨wa, hwa⟩ : ∃ wa, wr.alloc (.cells #[.int .i64 x.1, .int .i64 x.2] 178) = wa := ⟨_, rfl⟩
   have hba : Below wr.heap.size wr wa := by rw [← hwa]; exact (Below.refl _ _).alloc (Nat.le_refl _) _
   have hsa : wa.heap.size = wr.heap.size + 1 := by rw [← hwa]; simp
   have hbx : wa.heap[wr.heap.size]? = some (.cells #[.int .i64 x.1, .int .i64 x.2] 178) := by rw [← hwa]; exact heap_alloc_new _ _
   have hba' := hbl.trans (hba.mono hs)
   cases hgl : out.getLast? with
   | none =>
    have : out = [] := by simpa using hgl
    subst this
    simp at hn
    subst hn
    have hown' := (hown.alloc (.cells #[.int .i64 x.1, .int .i64 x.2] 178)).alloc (.cells #[.int .i64 x.1, .int .i64 x.2] 178)
    have hnews := World.news_of_block (heap_alloc_new (wr.alloc (.cells #[.int .i64 x.1, .int .i64 x.2] 178)) (.cells #[.int .i64 x.1, .int .i64 x.2] 178))
    rw [show (wr.alloc (.cells #[.int .i64 x.1, .int .i64 x.2] 178)).heap.size = wr.heap.size + 1 by simp] at hnews
    have HOWN := Lib.hid (And.intro hown' (And.intro hnews hown))
    have HBL := Lib.hid hbl
    have HHI := Lib.hid hi
    clear hown hown' hnews hbl hba hsa hbx hba' hwa hgl hfo
    go_wp2_with (at_builtin; go_loud (refine wpList_append_lies _ rfl _ _ 172 rfl w.heap.size 178 i0 _ 2 16 Tryz.underlying172 HHI.out hz0 hz1 hz2 rfl (by decide) (.slice A5 0 c5) 0 _ rfl HOWN.out.1 ⟨wr.heap.size + 1, 0, none⟩ 1 1 [.int .i64 x.1, .int .i64 x.2] rfl rfl HOWN.out.2.1 (by simp [Value.oneCell']) (by decide) (by unfold maxLen; omega) (by omega) (by have := HBL.out.size; simp; omega) _ rfl ?_); intro g cap w1 hown1 hgrow1 hat1 hlt1)
    go_roundw
    case rel =>
     refine ⟨k + 1, by omega, by go_num, ?_, ?_⟩
     ·rw [HB.out]
      simpa [joinStep, spc] using hown1
     ·exact ((HBL.out.alloc (by omega) _).alloc (by simp; omega) _).grown hgrow1 (by simp; omega) (fun j hj => (HOWN.out.2.2.lt j hj).1)
    case measure => simp [intOf]; omega
   | some a =>
    obtain ⟨m, hm⟩ : ∃ m, n = m + 1 := ⟨out.length - 1, by have : out ≠ [] := (fun h => by subst h; simp at hgl); have := List.length_pos_iff.2 this; omega⟩
    subst hm
    have hm := hn
    have ham : out[m]? = some a := by rw [List.getLast?_eq_getElem?, hm] at hgl; simpa using hgl
    have haf := hfo a (List.mem_of_getElem? ham)
    have hflat : ∀ j u, (spc a)[j]? = some u → (out.map spc).flatten[m * 2 + j]? = some u := flat_at (spc_len out) m (spc a) (by simp [ham])
    have hn0 : out.length * 2 = m * 2 + 2 := by omega
    obtain ⟨g, cap, hv, hg0, hgl2⟩ := hown.form (by omega)
    injection hv with hv1 _ hv3
    subst hv1 hv3
    have d0 := (hown.cellAt (m * 2) (by omega)).trans (hflat 0 _ rfl)
    have d1 := (hown.cellAt (m * 2 + 1) (by omega)).trans (hflat 1 _ rfl)
    have hgne : g ≠ wr.heap.size := by omega
    have d0' := cell_alloc_any d0 (.cells #[.int .i64 x.1, .int .i64 x.2] 178)
    have d1' := cell_alloc_any d1 (.cells #[.int .i64 x.1, .int .i64 x.2] 178)
    have HO := Lib.hid (And.intro hown (And.intro hgl (And.intro haf (And.intro hflat (And.intro ham hm)))))
    have HHI := Lib.hid hi
    have HBL := Lib.hid hbl
    clear hown hgl haf hflat ham hm hi hn0 hbl hba hsa hbx hba' hwa hn
    have hg1 : g < wr.heap.size + 1 := by omega
    have hg2 : g < wr.heap.size + 1 + 1 := by omega
    have hmi : (m : Int) < (m : Int) + 1 := by omega
    have f0 := HO.out.1.frozenAt (m * 2)
    have f1 := HO.out.1.frozenAt (m * 2 + 1)
    cases hms : meetS a x with
    | none =>
     have HM := Lib.hid hms
     clear hms
     go_upto_region 7 with fail
     go_cut [9, 10, 13] from 13 to 41 (fun s9 s10 s13 wx => s13 = .int .i64 (k : Int) ∧ ∃ B, s9 = .pointer (some ⟨B, 0, none⟩) ∧ s10 = .bool false ∧ wr.heap.size + 1 ≤ B ∧ wx.heap[B]? = some (.cells #[.int .i64 0, .int .i64 0] 178) ∧ Below (wr.heap.size + 1) (wr.alloc (.cells #[.int .i64 x.1, .int .i64 x.2] 178)) wx)
     case first =>
      go_region_law ((go_simp; go_at_call 120; go_loud (refine (meet_ok _ a x HO.out.2.2.1.2 hxf.1).mono ?_); rintro e w1 ⟨hbl1, hmm⟩; rw [HM.out] at hmm; simp only at hmm; subst hmm; have HBL1 := Lib.hid hbl1; obtain ⟨bc, bf⟩ := bcell hbl1; clear hbl1))
      all_goals
       go_wp2_with fail
       go_meet
       first
        | exact ⟨rfl, _, rfl, rfl, box_after (by simp) HBL1.out _⟩
        | exact ⟨rfl, _, rfl, rfl, box_before (by simp) HBL1.out _ _⟩
     case rest =>
      obtain ⟨rfl, B, rfl, rfl, hB1, hB2, hcb⟩ := hcut
      have hbx : wc.heap[wr.heap.size]? = some (.cells #[.int .i64 x.1, .int .i64 x.2] 178) := by rw [hcb.block _ (by omega)]; exact heap_alloc_new _ _
      obtain ⟨x0, x1, _, _⟩ := blk_cell2 hbx
      have hownc := own_below (HO.out.1.alloc (.cells #[.int .i64 x.1, .int .i64 x.2] 178)) (w' := wc) (by simpa using hcb)
      have hblc : Below w.heap.size w wc := (HBL.out.alloc (by omega) _).trans (hcb.mono (by omega))
      have hs2 := hblc.size
      have hown' := hownc.alloc (.cells #[.int .i64 x.1, .int .i64 x.2] 178)
      have hnews := World.news_of_block (heap_alloc_new wc (.cells #[.int .i64 x.1, .int .i64 x.2] 178))
      have HOWN := Lib.hid (And.intro hown' (And.intro hnews (And.intro hownc hblc)))
      clear hown' hnews hownc hblc hbx hcb hB2
      go_wp2_with (at_builtin; go_loud (refine wpList_append_lies _ rfl _ _ 172 rfl w.heap.size 178 i0 _ 2 16 Tryz.underlying172 HHI.out hz0 hz1 hz2 rfl (by decide) (.slice (some ⟨g, 0, none⟩) (m + 1) c5) (m + 1) _ rfl HOWN.out.1 ⟨wc.heap.size, 0, none⟩ 1 1 [.int .i64 x.1, .int .i64 x.2] rfl rfl HOWN.out.2.1 (by simp [Value.oneCell']) (by decide) (by unfold maxLen; omega) (by omega) (by simp; omega) _ rfl ?_); intro g2 cap w1 hown1 hgrow1 hat1 hlt1)
      go_roundw
      case rel =>
       refine ⟨k + 1, by omega, by go_num, ?_, ?_⟩
       ·have hj : joinStep out x = out ++ [x] := by unfold joinStep; rw [HO.out.2.1]; simp only; rw [HM.out]
        rw [HB.out, hj]
        have hl2 := HO.out.2.2.2.2.2
        simpa [spc, hl2] using hown1
       ·exact (HOWN.out.2.2.2.alloc (by omega) _).grown hgrow1 (by simp; omega) (fun j hj => (HOWN.out.2.2.1.lt j hj).1)
      case measure => simp [intOf]; omega
    | some y =>
     have HM := Lib.hid hms
     clear hms
     go_upto_region 7 with fail
     go_cut [9, 10, 13] from 13 to 41 (fun s9 s10 s13 wx => s13 = .int .i64 (k : Int) ∧ ∃ B, s9 = .pointer (some ⟨B, 0, none⟩) ∧ s10 = .bool true ∧ wr.heap.size + 1 ≤ B ∧ wx.heap[B]? = some (.cells #[.int .i64 y.1, .int .i64 y.2] 178) ∧ Below (wr.heap.size + 1) (wr.alloc (.cells #[.int .i64 x.1, .int .i64 x.2] 178)) wx)
     case first =>
      go_region_law ((go_simp; go_at_call 120; go_loud (refine (meet_ok _ a x HO.out.2.2.1.2 hxf.1).mono ?_); rintro e w1 ⟨hbl1, hmm⟩; rw [HM.out] at hmm; simp only at hmm; subst hmm; have HBL1 := Lib.hid hbl1; obtain ⟨bc, bf⟩ := bcell hbl1; clear hbl1))
      all_goals
       go_wp2_with fail
       go_meet
       first
        | exact ⟨rfl, _, rfl, rfl, box_after (by simp) HBL1.out _⟩
        | exact ⟨rfl, _, rfl, rfl, box_before (by simp) HBL1.out _ _⟩
     case rest =>
      obtain ⟨rfl, B, rfl, rfl, hB1, hB2, hcb⟩ := hcut
      have hbx : wc.heap[wr.heap.size]? = some (.cells #[.int .i64 x.1, .int .i64 x.2] 178) := by rw [hcb.block _ (by omega)]; exact heap_alloc_new _ _
      obtain ⟨x0, x1, _, _⟩ := blk_cell2 hbx
      have hownc := own_below (HO.out.1.alloc (.cells #[.int .i64 x.1, .int .i64 x.2] 178)) (w' := wc) (by simpa using hcb)
      have hblc : Below w.heap.size w wc := (HBL.out.alloc (by omega) _).trans (hcb.mono (by omega))
      obtain ⟨y0, y1, _, _⟩ := blk_cell2 hB2
      have e0 := (hownc.cellAt (m * 2) (by omega)).trans (HO.out.2.2.2.1 0 _ rfl)
      have e1 := (hownc.cellAt (m * 2 + 1) (by omega)).trans (HO.out.2.2.2.1 1 _ rfl)
      have k0 := hownc.frozenAt (m * 2)
      have k1 := hownc.frozenAt (m * 2 + 1)
      have HOWN := Lib.hid (And.intro hownc hblc)
      clear hownc hblc hbx hcb hB2
      go_wp2_with fail
      go_roundw
      case rel =>
       refine ⟨k + 1, by omega, by go_num, ?_, ?_⟩
       ·have hj : joinStep out x = out.dropLast ++ [y] := by unfold joinStep; rw [HO.out.2.1]; simp only; rw [HM.out]
        have hl2 := HO.out.2.2.2.2.2
        have hne : out ≠ [] := fun h => by subst h; simp at hl2
        rw [HB.out, hj, ← spc_set out y hne, hl2]
        have hl3 : (out.dropLast ++ [y]).length = m + 1 := by simp [hl2]
        rw [hl3]
        exact ((HOWN.out.1.stored (m * 2) _).1.stored (m * 2 + 1) _).1
       ·exact (HOWN.out.2.setCell hg0 _).setCell hg0 _
      case measure => simp [intOf]; omega
  ·have hkl : k = l.length := by omega
   subst hkl
   go_wp2_with fail
   go_ret
   rw [List.take_length] at hown
   obtain ⟨A', c', rfl⟩ := ownsRow_slice hown
   exact ⟨A', c', rfl, hown, hbl⟩
def cutGo (s : Int × Int) : List (Int × Int) → List (Int × Int)
 | [] => [s]
 | o :: os => if s.2 < o.1 then [s] else
   (if s.1 < o.1 then [(s.1, o.1 - 1)] else []) ++ (if s.2 ≤ o.2 then [] else cutGo (o.2 + 1, s.2) os)
def dropLow (lo : Int) (os : List (Int × Int)) : List (Int × Int) := os.dropWhile fun o => decide (o.2 < lo)
def withoutS : List (Int × Int) → List (Int × Int) → List (Int × Int)
 | [], _ => []
 | s :: l, os => cutGo s (dropLow s.1 os) ++ withoutS l (dropLow s.1 os)
def inS (l : List (Int × Int)) (n : Int) : Prop := ∃ x ∈ l, x.1 ≤ n ∧ n ≤ x.2
def Proper (l : List (Int × Int)) : Prop := ∀ x ∈ l, x.1 ≤ x.2
def NormS (l : List (Int × Int)) : Prop := Proper l ∧ l.Pairwise fun a b => a.2 + 1 < b.1
theorem inS_nil (n : Int) : ¬ inS [] n := by rintro ⟨x, hx, _⟩; simp at hx
theorem inS_cons {x : Int × Int} {l : List (Int × Int)} {n : Int} : inS (x :: l) n ↔ (x.1 ≤ n ∧ n ≤ x.2) ∨ inS l n := by
 unfold inS
 simp
theorem inS_append {a b : List (Int × Int)} {n : Int} : inS (a ++ b) n ↔ inS a n ∨ inS b n := by
 unfold inS
 constructor
 ·rintro ⟨x, hx, h⟩
  rcases List.mem_append.1 hx with hx | hx
  ·exact .inl ⟨x, hx, h⟩
  ·exact .inr ⟨x, hx, h⟩
 ·rintro (⟨x, hx, h⟩ | ⟨x, hx, h⟩)
  ·exact ⟨x, List.mem_append.2 (.inl hx), h⟩
  ·exact ⟨x, List.mem_append.2 (.inr hx), h⟩
theorem inS_perm {a b : List (Int × Int)} (h : a.Perm b) (n : Int) : inS a n ↔ inS b n :=
 ⟨fun ⟨x, hx, h1⟩ => ⟨x, h.mem_iff.1 hx, h1⟩, fun ⟨x, hx, h1⟩ => ⟨x, h.mem_iff.2 hx, h1⟩⟩
theorem NormS.tail {x : Int × Int} {l : List (Int × Int)} (h : NormS (x :: l)) : NormS l := ⟨fun y hy => h.1 y (by simp [hy]), (List.pairwise_cons.1 h.2).2⟩
theorem NormS.head {x : Int × Int} {l : List (Int × Int)} (h : NormS (x :: l)) : x.1 ≤ x.2 ∧ ∀ n, inS l n → x.2 + 1 < n := by
 refine ⟨h.1 x (by simp), ?_⟩
 rintro n ⟨y, hy, h1, _⟩
 have := (List.pairwise_cons.1 h.2).1 y hy
 omega
theorem NormS.cons {x : Int × Int} {l : List (Int × Int)} (hx : x.1 ≤ x.2) (hl : NormS l) (h : ∀ y ∈ l, x.2 + 1 < y.1) : NormS (x :: l) := by
 refine ⟨fun y hy => ?_, List.pairwise_cons.2 ⟨h, hl.2⟩⟩
 rcases List.mem_cons.1 hy with rfl | hy
 ·exact hx
 ·exact hl.1 y hy
theorem norm_unique : ∀ {a b : List (Int × Int)}, NormS a → NormS b → (∀ n, inS a n ↔ inS b n) → a = b
 | [], [], _, _, _ => rfl
 | [], y :: b, _, hb, h => absurd ((h y.1).2 (inS_cons.2 (.inl ⟨Int.le_refl _, (hb.head).1⟩))) (inS_nil _)
 | x :: a, [], ha, _, h => absurd ((h x.1).1 (inS_cons.2 (.inl ⟨Int.le_refl _, (ha.head).1⟩))) (inS_nil _)
 | x :: a, y :: b, ha, hb, h => by
  obtain ⟨hx, hxa⟩ := ha.head
  obtain ⟨hy, hyb⟩ := hb.head
  have e1 : x.1 = y.1 := by
   have p := (h x.1).1 (inS_cons.2 (.inl ⟨Int.le_refl _, hx⟩))
   have q := (h y.1).2 (inS_cons.2 (.inl ⟨Int.le_refl _, hy⟩))
   rcases inS_cons.1 p with p | p <;> rcases inS_cons.1 q with q | q
   ·omega
   ·have := hxa _ q; omega
   ·have := hyb _ p; omega
   ·have := hxa _ q; have := hyb _ p; omega
  have e2 : x.2 = y.2 := by
   rcases Int.lt_trichotomy x.2 y.2 with hlt | he | hgt
   ·have p := (h (x.2 + 1)).2 (inS_cons.2 (.inl ⟨by omega, by omega⟩))
    rcases inS_cons.1 p with p | p
    ·omega
    ·have := hxa _ p; omega
   ·exact he
   ·have p := (h (y.2 + 1)).1 (inS_cons.2 (.inl ⟨by omega, by omega⟩))
    rcases inS_cons.1 p with p | p
    ·omega
    ·have := hyb _ p; omega
  have e : x = y := Prod.ext e1 e2
  subst e
  rw [norm_unique ha.tail hb.tail (fun n => ?_)]
  have := h n
  rw [inS_cons, inS_cons] at this
  constructor
  ·intro p
   have h1 := hxa n p
   rcases this.1 (.inr p) with q | q
   ·omega
   ·exact q
  ·intro p
   have h1 := hyb n p
   rcases this.2 (.inr p) with q | q
   ·omega
   ·exact q
theorem joinStep_norm {out : List (Int × Int)} {x : Int × Int} (ho : NormS out) (hx : x.1 ≤ x.2) (hlo : ∀ y ∈ out, y.1 ≤ x.1) :
  NormS (joinStep out x) ∧ (∀ n, inS (joinStep out x) n ↔ inS out n ∨ (x.1 ≤ n ∧ n ≤ x.2)) ∧ ∀ y ∈ joinStep out x, y.1 ≤ x.1 := by
 rcases List.eq_nil_or_concat out with rfl | ⟨m, a, rfl⟩
 ·simp only [joinStep, List.getLast?_nil, List.nil_append]
  refine ⟨NormS.cons hx ⟨fun y hy => by simp at hy, List.Pairwise.nil⟩ (fun y hy => by simp at hy), fun n => ?_, fun y hy => by simp at hy; subst hy; exact Int.le_refl _⟩
  rw [inS_cons]
  constructor
  ·rintro (h | h)
   ·exact .inr h
   ·exact absurd h (inS_nil n)
  ·rintro (h | h)
   ·exact absurd h (inS_nil n)
   ·exact .inl h
 ·rw [List.concat_eq_append] at ho hlo ⊢
  have hal := hlo a (by simp)
  have hap := ho.1 a (by simp)
  have hm : ∀ y ∈ m, y.2 + 1 < a.1 := fun y hy => (List.pairwise_append.1 ho.2).2.2 y hy a (List.mem_singleton.2 rfl)
  have hmn : NormS m := ⟨fun y hy => ho.1 y (by simp [hy]), (List.pairwise_append.1 ho.2).1⟩
  have snoc : ∀ {m : List (Int × Int)} {z : Int × Int}, NormS m → z.1 ≤ z.2 → (∀ y ∈ m, y.2 + 1 < z.1) → NormS (m ++ [z]) := by
   intro m z h1 h2 h3
   refine ⟨fun y hy => ?_, List.pairwise_append.2 ⟨h1.2, by simp, fun y hy u hu => ?_⟩⟩
   ·rcases List.mem_append.1 hy with hy | hy
    ·exact h1.1 y hy
    ·simp at hy; subst hy; exact h2
   ·simp at hu; subst hu; exact h3 y hy
  unfold joinStep
  simp only [List.getLast?_append, List.getLast?_singleton, Option.some_or, meetS]
  by_cases hg : a.2 < x.1 ∧ a.2 + 1 < x.1
  ·rw [if_pos hg]
   simp only
   refine ⟨snoc ho hx ?_, fun n => ?_, ?_⟩
   ·intro y hy
    rcases List.mem_append.1 hy with hy | hy
    ·have := hm y hy; omega
    ·simp at hy; subst hy; exact hg.2
   ·rw [inS_append, inS_cons]
    constructor
    ·rintro (h | h | h)
     ·exact .inl h
     ·exact .inr h
     ·exact absurd h (inS_nil n)
    ·rintro (h | h)
     ·exact .inl h
     ·exact .inr (.inl h)
   ·intro y hy
    rcases List.mem_append.1 hy with hy | hy
    ·exact hlo y hy
    ·simp at hy; subst hy; exact Int.le_refl _
  ·rw [if_neg hg]
   simp only [List.dropLast_concat]
   refine ⟨snoc hmn (by simp only; omega) hm, fun n => ?_, ?_⟩
   ·rw [inS_append, inS_append, inS_cons, inS_cons]
    simp only
    have h0 := inS_nil n
    constructor
    ·rintro (h | h | h)
     ·exact .inl (.inl h)
     ·by_cases h1 : n ≤ a.2
      ·exact .inl (.inr (.inl ⟨h.1, h1⟩))
      ·exact .inr (by omega)
     ·exact absurd h h0
    ·rintro ((h | h | h) | h)
     ·exact .inl h
     ·exact .inr (.inl (by omega))
     ·exact absurd h h0
     ·exact .inr (.inl (by omega))
   ·intro y hy
    rcases List.mem_append.1 hy with hy | hy
    ·exact hlo y (by simp [hy])
    ·simp at hy; subst hy; exact hal
theorem foldl_norm : ∀ {s out : List (Int × Int)}, NormS out → Proper s → (s.Pairwise fun a b => a.1 ≤ b.1) → (∀ y ∈ out, ∀ x ∈ s, y.1 ≤ x.1) →
  NormS (s.foldl joinStep out) ∧ ∀ n, inS (s.foldl joinStep out) n ↔ inS out n ∨ inS s n
 | [], out, ho, _, _, _ => ⟨ho, fun n => ⟨.inl, fun h => h.resolve_right (inS_nil n)⟩⟩
 | x :: s, out, ho, hp, hs, hlo => by
  obtain ⟨h1, h2, h3⟩ := joinStep_norm ho (hp x (by simp)) (fun y hy => hlo y hy x (by simp))
  obtain ⟨hs1, hs2⟩ := List.pairwise_cons.1 hs
  obtain ⟨h4, h5⟩ := foldl_norm (s := s) h1 (fun y hy => hp y (by simp [hy])) hs2 (fun y hy z hz => Int.le_trans (h3 y hy) (hs1 z hz))
  refine ⟨h4, fun n => ?_⟩
  rw [List.foldl_cons, h5, h2, inS_cons]
  constructor
  ·rintro ((h | h) | h)
   ·exact .inl h
   ·exact .inr (.inl h)
   ·exact .inr (.inr h)
  ·rintro (h | h | h)
   ·exact .inl (.inl h)
   ·exact .inl (.inr h)
   ·exact .inr h
theorem joinS_norm {s : List (Int × Int)} (hp : Proper s) (hs : s.Pairwise fun a b => a.1 ≤ b.1) : NormS (joinS s) ∧ ∀ n, inS (joinS s) n ↔ inS s n := by
 obtain ⟨h1, h2⟩ := foldl_norm (out := []) ⟨fun y hy => by simp at hy, List.Pairwise.nil⟩ hp hs (fun y hy => by simp at hy)
 exact ⟨h1, fun n => (h2 n).trans ⟨fun h => h.resolve_left (inS_nil n), .inr⟩⟩
theorem cutGo_norm : ∀ {os : List (Int × Int)} {s : Int × Int}, s.1 ≤ s.2 → NormS os → (∀ o ∈ os, s.1 ≤ o.2) →
  NormS (cutGo s os) ∧ (∀ n, inS (cutGo s os) n ↔ (s.1 ≤ n ∧ n ≤ s.2) ∧ ¬ inS os n) ∧ ∀ y ∈ cutGo s os, s.1 ≤ y.1 ∧ y.2 ≤ s.2
 | [], s, hs, _, _ => by
  refine ⟨NormS.cons hs ⟨fun y hy => by simp at hy, List.Pairwise.nil⟩ (fun y hy => by simp at hy), fun n => ?_, fun y hy => by simp [cutGo] at hy; subst hy; exact ⟨Int.le_refl _, Int.le_refl _⟩⟩
  simp only [cutGo, inS_cons]
  have h0 := inS_nil n
  constructor
  ·rintro (h | h)
   ·exact ⟨h, h0⟩
   ·exact absurd h h0
  ·rintro ⟨h, _⟩
   exact .inl h
 | o :: os, s, hs, hos, hlow => by
  obtain ⟨ho, hoo⟩ := hos.head
  have hol := hlow o (by simp)
  have hoy : ∀ y ∈ os, o.2 + 1 < y.1 := (List.pairwise_cons.1 hos.2).1
  unfold cutGo
  by_cases h1 : s.2 < o.1
  ·rw [if_pos h1]
   refine ⟨NormS.cons hs ⟨fun y hy => by simp at hy, List.Pairwise.nil⟩ (fun y hy => by simp at hy), fun n => ?_, fun y hy => by simp at hy; subst hy; exact ⟨Int.le_refl _, Int.le_refl _⟩⟩
   rw [inS_cons, inS_cons]
   have h0 := inS_nil n
   constructor
   ·rintro (h | h)
    ·refine ⟨h, ?_⟩
     rintro (h2 | h2)
     ·omega
     ·have := hoo n h2; omega
    ·exact absurd h h0
   ·rintro ⟨h, _⟩
    exact .inl h
  ·rw [if_neg h1]
   by_cases h2 : s.2 ≤ o.2
   ·rw [if_pos h2, List.append_nil]
    by_cases h3 : s.1 < o.1
    ·rw [if_pos h3]
     refine ⟨NormS.cons (by simp only; omega) ⟨fun y hy => by simp at hy, List.Pairwise.nil⟩ (fun y hy => by simp at hy), fun n => ?_, fun y hy => by simp at hy; subst hy; simp only; omega⟩
     rw [inS_cons, inS_cons]
     have h0 := inS_nil n
     simp only
     constructor
     ·rintro (h | h)
      ·refine ⟨by omega, ?_⟩
       rintro (h4 | h4)
       ·omega
       ·have := hoo n h4; omega
      ·exact absurd h h0
     ·rintro ⟨h, h4⟩
      have : ¬ (o.1 ≤ n ∧ n ≤ o.2) := fun h5 => h4 (.inl h5)
      exact .inl (by omega)
    ·rw [if_neg h3]
     refine ⟨⟨fun y hy => by simp at hy, List.Pairwise.nil⟩, fun n => ?_, fun y hy => by simp at hy⟩
     rw [inS_cons]
     have h0 := inS_nil n
     constructor
     ·intro h; exact absurd h h0
     ·rintro ⟨h, h4⟩
      exact absurd (.inl (by omega)) h4
   ·rw [if_neg h2]
    obtain ⟨r1, r2, r3⟩ := cutGo_norm (os := os) (s := (o.2 + 1, s.2)) (by simp only; omega) hos.tail (fun y hy => by have := hoy y hy; have := hos.1 y (by simp [hy]); simp only; omega)
    simp only at r2 r3
    by_cases h3 : s.1 < o.1
    ·rw [if_pos h3]
     refine ⟨?_, fun n => ?_, ?_⟩
     ·refine NormS.cons (by simp only; omega) r1 (fun y hy => ?_)
      have := (r3 y hy).1
      simp only; omega
     ·rw [List.singleton_append, inS_cons, r2, inS_cons]
      simp only
      constructor
      ·rintro (h | ⟨h, h5⟩)
       ·refine ⟨by omega, ?_⟩
        rintro (h4 | h4)
        ·omega
        ·have := hoo n h4; omega
       ·refine ⟨by omega, ?_⟩
        rintro (h4 | h4)
        ·omega
        ·exact h5 h4
      ·rintro ⟨h, h4⟩
       have h6 : ¬ (o.1 ≤ n ∧ n ≤ o.2) := fun h5 => h4 (.inl h5)
       by_cases h7 : n < o.1
       ·exact .inl (by omega)
       ·exact .inr ⟨by omega, fun h8 => h4 (.inr h8)⟩
     ·intro y hy
      rcases List.mem_append.1 hy with hy | hy
      ·simp at hy; subst hy; simp only; omega
      ·have := r3 y hy; omega
    ·rw [if_neg h3, List.nil_append]
     refine ⟨r1, fun n => ?_, fun y hy => by have := r3 y hy; omega⟩
     rw [r2, inS_cons]
     constructor
     ·rintro ⟨h, h5⟩
      refine ⟨by omega, ?_⟩
      rintro (h4 | h4)
      ·omega
      ·exact h5 h4
     ·rintro ⟨h, h4⟩
      have h6 : ¬ (o.1 ≤ n ∧ n ≤ o.2) := fun h5 => h4 (.inl h5)
      exact ⟨by omega, fun h8 => h4 (.inr h8)⟩
theorem dropLow_norm : ∀ {os : List (Int × Int)} (lo : Int), NormS os → NormS (dropLow lo os) ∧ (∀ o ∈ dropLow lo os, lo ≤ o.2) ∧ ∀ n, lo ≤ n → (inS (dropLow lo os) n ↔ inS os n)
 | [], lo, h => ⟨h, fun o ho => by simp [dropLow] at ho, fun n _ => Iff.rfl⟩
 | o :: os, lo, h => by
  unfold dropLow
  rw [List.dropWhile_cons]
  by_cases h1 : o.2 < lo
  ·rw [if_pos (by simpa using h1)]
   obtain ⟨a, b, c⟩ := dropLow_norm lo h.tail
   refine ⟨a, b, fun n hn => (c n hn).trans ?_⟩
   rw [inS_cons]
   exact ⟨.inr, fun h2 => h2.resolve_left (by omega)⟩
  ·rw [if_neg (by simpa using h1)]
   refine ⟨h, fun y hy => ?_, fun n _ => Iff.rfl⟩
   rcases List.mem_cons.1 hy with rfl | hy
   ·omega
   ·have := (List.pairwise_cons.1 h.2).1 y hy
    have := h.1 y (by simp [hy])
    have := h.1 o (by simp)
    omega
theorem withoutS_norm : ∀ {l os : List (Int × Int)}, NormS l → NormS os → NormS (withoutS l os) ∧ (∀ n, inS (withoutS l os) n ↔ inS l n ∧ ¬ inS os n) ∧ ∀ y ∈ withoutS l os, ∃ x ∈ l, x.1 ≤ y.1 ∧ y.2 ≤ x.2
 | [], os, h, _ => ⟨h, fun n => ⟨fun h => absurd h (inS_nil n), fun h => h.1⟩, fun y hy => by simp [withoutS] at hy⟩
 | s :: l, os, h, hos => by
  obtain ⟨hs, hsl⟩ := h.head
  obtain ⟨d1, d2, d3⟩ := dropLow_norm s.1 hos
  obtain ⟨c1, c2, c3⟩ := cutGo_norm hs d1 d2
  obtain ⟨w1, w2, w3⟩ := withoutS_norm (l := l) h.tail d1
  have hsy : ∀ y ∈ l, s.2 + 1 < y.1 := (List.pairwise_cons.1 h.2).1
  unfold withoutS
  refine ⟨⟨fun y hy => ?_, List.pairwise_append.2 ⟨c1.2, w1.2, fun y hy z hz => ?_⟩⟩, fun n => ?_, fun y hy => ?_⟩
  ·rcases List.mem_append.1 hy with hy | hy
   ·exact c1.1 y hy
   ·exact w1.1 y hy
  ·obtain ⟨x, hx, h1, _⟩ := w3 z hz
   have := hsy x hx
   have := c3 y hy
   omega
  ·rw [inS_append, c2, w2, inS_cons]
   constructor
   ·rintro (⟨h1, h2⟩ | ⟨h1, h2⟩)
    ·exact ⟨.inl h1, fun h3 => h2 ((d3 n h1.1).2 h3)⟩
    ·have := hsl n h1
     exact ⟨.inr h1, fun h3 => h2 ((d3 n (by omega)).2 h3)⟩
   ·rintro ⟨h1 | h1, h2⟩
    ·exact .inl ⟨h1, fun h3 => h2 ((d3 n h1.1).1 h3)⟩
    ·have := hsl n h1
     exact .inr ⟨h1, fun h3 => h2 ((d3 n (by omega)).1 h3)⟩
  ·rcases List.mem_append.1 hy with hy | hy
   ·exact ⟨s, by simp, c3 y hy⟩
   ·obtain ⟨x, hx, h1⟩ := w3 y hy
    exact ⟨x, by simp [hx], h1⟩
theorem take_snoc {α : Type} {l : List α} {k : Nat} {x : α} (h : l[k]? = some x) : l.take (k + 1) = l.take k ++ [x] := by rw [List.take_add_one, h]; rfl
abbrev Thing := Int × List UInt8 × Int
def Cl.has (c : Cl) (t : Thing) : Prop := c.col = t.1 ∧ c.key = t.2.1 ∧ c.lo ≤ t.2.2 ∧ t.2.2 ≤ c.hi
instance (c : Cl) (t : Thing) : Decidable (c.has t) := by unfold Cl.has; infer_instance
def lev (l : List Cl) (t : Thing) : Int :=
 if ∃ c ∈ l, c.has t ∧ c.wr = true then 2 else if ∃ c ∈ l, c.has t then 1 else 0
theorem lev_two {l : List Cl} {t : Thing} : lev l t = 2 ↔ ∃ c ∈ l, c.has t ∧ c.wr = true := by
 unfold lev
 split
 ·simp_all
 ·split <;> simp_all
theorem lev_pos {l : List Cl} {t : Thing} : 1 ≤ lev l t ↔ ∃ c ∈ l, c.has t := by
 unfold lev
 split
 ·rename_i h
  obtain ⟨c, h1, h2, _⟩ := h
  exact ⟨fun _ => ⟨c, h1, h2⟩, fun _ => by decide⟩
 ·split
  ·rename_i h
   exact ⟨fun _ => h, fun _ => by decide⟩
  ·rename_i h
   exact ⟨fun h0 => absurd h0 (by decide), fun h0 => absurd h0 h⟩
theorem lev_bd (l : List Cl) (t : Thing) : 0 ≤ lev l t ∧ lev l t ≤ 2 := by
 unfold lev
 split
 ·omega
 ·split <;> omega
theorem lev_le {a b : List Cl} {t : Thing} (h2 : (∃ c ∈ a, c.has t ∧ c.wr = true) → ∃ c ∈ b, c.has t ∧ c.wr = true) (h1 : (∃ c ∈ a, c.has t) → ∃ c ∈ b, c.has t) : lev a t ≤ lev b t := by
 have e2 : lev a t = 2 → lev b t = 2 := fun h => lev_two.2 (h2 (lev_two.1 h))
 have e1 : 1 ≤ lev a t → 1 ≤ lev b t := fun h => lev_pos.2 (h1 (lev_pos.1 h))
 have := lev_bd a t
 have := lev_bd b t
 omega
theorem lev_sub {a b : List Cl} (h : ∀ c, c ∈ a → c ∈ b) (t : Thing) : lev a t ≤ lev b t :=
 lev_le (fun ⟨c, x, y⟩ => ⟨c, h c x, y⟩) (fun ⟨c, x, y⟩ => ⟨c, h c x, y⟩)
theorem lev_nil (t : Thing) : lev [] t = 0 := by simp [lev]
theorem lev_append (a b : List Cl) (t : Thing) : lev (a ++ b) t = max (lev a t) (lev b t) := by
 have h1 := lev_sub (a := a) (b := a ++ b) (fun c h => List.mem_append.2 (.inl h)) t
 have h2 := lev_sub (a := b) (b := a ++ b) (fun c h => List.mem_append.2 (.inr h)) t
 have h3 : lev (a ++ b) t = 2 → lev a t = 2 ∨ lev b t = 2 := by
  intro h
  obtain ⟨c, hc, h⟩ := lev_two.1 h
  rcases List.mem_append.1 hc with hc | hc
  ·exact .inl (lev_two.2 ⟨c, hc, h⟩)
  ·exact .inr (lev_two.2 ⟨c, hc, h⟩)
 have h4 : 1 ≤ lev (a ++ b) t → 1 ≤ lev a t ∨ 1 ≤ lev b t := by
  intro h
  obtain ⟨c, hc, h⟩ := lev_pos.1 h
  rcases List.mem_append.1 hc with hc | hc
  ·exact .inl (lev_pos.2 ⟨c, hc, h⟩)
  ·exact .inr (lev_pos.2 ⟨c, hc, h⟩)
 have := lev_bd a t
 have := lev_bd b t
 have := lev_bd (a ++ b) t
 omega
theorem lev_snoc (a : List Cl) (c : Cl) (t : Thing) : lev (a ++ [c]) t = if c.has t then (if c.wr = true then 2 else max (lev a t) 1) else lev a t := by
 rw [lev_append]
 have hb := lev_bd a t
 have h1 : lev [c] t = if c.has t then (if c.wr = true then 2 else 1) else 0 := by
  unfold lev
  by_cases h : c.has t <;> by_cases hw : c.wr = true <;> simp [h, hw]
 rw [h1]
 by_cases h : c.has t
 ·by_cases hw : c.wr = true
  ·simp only [h, hw, if_true]; omega
  ·simp only [h, hw, if_true]; simp
 ·simp only [h, if_false]; omega
theorem strict_unique {α : Type} {r : α → α → Prop} (irr : ∀ a, ¬ r a a) (asy : ∀ a b, r a b → r b a → False) : ∀ {a b : List α}, a.Pairwise r → b.Pairwise r → (∀ x, x ∈ a ↔ x ∈ b) → a = b
 | [], [], _, _, _ => rfl
 | [], y :: b, _, _, h => absurd ((h y).2 (by simp)) (by simp)
 | x :: a, [], _, _, h => absurd ((h x).1 (by simp)) (by simp)
 | x :: a, y :: b, ha, hb, h => by
  have ha' := List.pairwise_cons.1 ha
  have hb' := List.pairwise_cons.1 hb
  have hxy : x = y := by
   rcases List.mem_cons.1 ((h x).1 (by simp)) with e | e
   ·exact e
   ·rcases List.mem_cons.1 ((h y).2 (by simp)) with e' | e'
    ·exact e'.symm
    ·exact (asy _ _ (ha'.1 _ e') (hb'.1 _ e)).elim
  subst hxy
  congr 1
  refine strict_unique irr asy ha'.2 hb'.2 fun z => ?_
  constructor
  ·intro hz
   rcases List.mem_cons.1 ((h z).1 (by simp [hz])) with e | e
   ·subst e; exact absurd (ha'.1 _ hz) (irr _)
   ·exact e
  ·intro hz
   rcases List.mem_cons.1 ((h z).2 (by simp [hz])) with e | e
   ·subst e; exact absurd (hb'.1 _ hz) (irr _)
   ·exact e
def rowC (x : Bool × List UInt8) : Cl := ⟨x.1, -1, x.2, 0, 0⟩
def colC (W R : Int → List (Int × Int)) (i : Int) : List Cl := (W i).map (spCl i true) ++ (R i).map (spCl i false)
def formOf (ks : List (Bool × List UInt8)) (W R : Int → List (Int × Int)) : List Cl :=
 ks.map rowC ++ colC W R 0 ++ colC W R 1 ++ colC W R 2 ++ colC W R 3
def NormC (l : List Cl) : Prop := ∃ ks W R, l = formOf ks W R ∧ (ks.Pairwise fun a b => a.2 < b.2) ∧ ∀ i : Int, 0 ≤ i → i < 4 → NormS (W i) ∧ NormS (R i) ∧ ∀ n, inS (W i) n → ¬ inS (R i) n
theorem mem_colC {W R : Int → List (Int × Int)} {i : Int} {c : Cl} : c ∈ colC W R i ↔ (∃ x ∈ W i, spCl i true x = c) ∨ ∃ x ∈ R i, spCl i false x = c := by
 unfold colC
 rw [List.mem_append, List.mem_map, List.mem_map]
theorem mem_formOf {ks : List (Bool × List UInt8)} {W R : Int → List (Int × Int)} {c : Cl} : c ∈ formOf ks W R ↔ (∃ x ∈ ks, rowC x = c) ∨ ∃ i : Int, 0 ≤ i ∧ i < 4 ∧ c ∈ colC W R i := by
 unfold formOf
 simp only [List.mem_append, List.mem_map]
 constructor
 ·rintro ((((h | h) | h) | h) | h)
  ·exact .inl h
  ·exact .inr ⟨0, by decide, by decide, h⟩
  ·exact .inr ⟨1, by decide, by decide, h⟩
  ·exact .inr ⟨2, by decide, by decide, h⟩
  ·exact .inr ⟨3, by decide, by decide, h⟩
 ·rintro (h | ⟨i, h1, h2, h⟩)
  ·exact .inl (.inl (.inl (.inl h)))
  ·have : i = 0 ∨ i = 1 ∨ i = 2 ∨ i = 3 := by omega
   rcases this with rfl | rfl | rfl | rfl
   ·exact .inl (.inl (.inl (.inr h)))
   ·exact .inl (.inl (.inr h))
   ·exact .inl (.inr h)
   ·exact .inr h
theorem has_rowC {x : Bool × List UInt8} {t : Thing} : (rowC x).has t ↔ t = (-1, x.2, 0) := by
 obtain ⟨a, b, n⟩ := t
 unfold Cl.has rowC
 simp only [Prod.mk.injEq]
 constructor
 ·rintro ⟨h1, h2, h3, h4⟩; exact ⟨h1.symm, h2.symm, by omega⟩
 ·rintro ⟨h1, h2, h3⟩; exact ⟨h1.symm, h2.symm, by omega, by omega⟩
theorem has_spCl {i : Int} {b : Bool} {x : Int × Int} {t : Thing} : (spCl i b x).has t ↔ t.1 = i ∧ t.2.1 = [] ∧ x.1 ≤ t.2.2 ∧ t.2.2 ≤ x.2 := by
 unfold Cl.has spCl
 simp only
 constructor
 ·rintro ⟨h1, h2, h3⟩; exact ⟨h1.symm, h2.symm, h3⟩
 ·rintro ⟨h1, h2, h3⟩; exact ⟨h1.symm, h2.symm, h3⟩
section
variable {ks : List (Bool × List UInt8)} {W R : Int → List (Int × Int)}
theorem form_row_pos {k : List UInt8} : 1 ≤ lev (formOf ks W R) (-1, k, 0) ↔ ∃ b, (b, k) ∈ ks := by
 rw [lev_pos]
 constructor
 ·rintro ⟨c, hc, h⟩
  rcases mem_formOf.1 hc with ⟨x, hx, rfl⟩ | ⟨i, h1, h2, hi⟩
  ·have := has_rowC.1 h
   simp at this
   exact ⟨x.1, by rw [this]; exact hx⟩
  ·rcases mem_colC.1 hi with ⟨x, _, rfl⟩ | ⟨x, _, rfl⟩
   ·have := (has_spCl.1 h).1; simp only at this; omega
   ·have := (has_spCl.1 h).1; simp only at this; omega
 ·rintro ⟨b, hb⟩
  exact ⟨_, mem_formOf.2 (.inl ⟨_, hb, rfl⟩), has_rowC.2 rfl⟩
theorem form_row_two {k : List UInt8} : lev (formOf ks W R) (-1, k, 0) = 2 ↔ (true, k) ∈ ks := by
 rw [lev_two]
 constructor
 ·rintro ⟨c, hc, h, hw⟩
  rcases mem_formOf.1 hc with ⟨x, hx, rfl⟩ | ⟨i, h1, h2, hi⟩
  ·have := has_rowC.1 h
   simp at this
   unfold rowC at hw
   simp only at hw
   obtain ⟨x1, x2⟩ := x
   simp_all
  ·rcases mem_colC.1 hi with ⟨x, _, rfl⟩ | ⟨x, _, rfl⟩
   ·have := (has_spCl.1 h).1; simp only at this; omega
   ·have := (has_spCl.1 h).1; simp only at this; omega
 ·rintro hb
  exact ⟨_, mem_formOf.2 (.inl ⟨_, hb, rfl⟩), has_rowC.2 rfl, rfl⟩
theorem form_col_two {i n : Int} (h0 : 0 ≤ i) (h4 : i < 4) : lev (formOf ks W R) (i, [], n) = 2 ↔ inS (W i) n := by
 rw [lev_two]
 constructor
 ·rintro ⟨c, hc, h, hw⟩
  rcases mem_formOf.1 hc with ⟨x, hx, rfl⟩ | ⟨j, h1, h2, hi⟩
  ·have := has_rowC.1 h
   simp at this
   omega
  ·rcases mem_colC.1 hi with ⟨x, hx, rfl⟩ | ⟨x, _, rfl⟩
   ·have h' := has_spCl.1 h
    simp only at h'
    obtain ⟨rfl, _, h3⟩ := h'
    exact ⟨x, hx, h3⟩
   ·cases hw
 ·rintro ⟨x, hx, h⟩
  exact ⟨_, mem_formOf.2 (.inr ⟨i, h0, h4, mem_colC.2 (.inl ⟨x, hx, rfl⟩)⟩), has_spCl.2 ⟨rfl, rfl, h⟩, rfl⟩
theorem form_col_pos {i n : Int} (h0 : 0 ≤ i) (h4 : i < 4) : 1 ≤ lev (formOf ks W R) (i, [], n) ↔ inS (W i) n ∨ inS (R i) n := by
 rw [lev_pos]
 constructor
 ·rintro ⟨c, hc, h⟩
  rcases mem_formOf.1 hc with ⟨x, hx, rfl⟩ | ⟨j, h1, h2, hi⟩
  ·have := has_rowC.1 h
   simp at this
   omega
  ·rcases mem_colC.1 hi with ⟨x, hx, rfl⟩ | ⟨x, hx, rfl⟩
   ·have h' := has_spCl.1 h
    simp only at h'
    obtain ⟨rfl, _, h3⟩ := h'
    exact .inl ⟨x, hx, h3⟩
   ·have h' := has_spCl.1 h
    simp only at h'
    obtain ⟨rfl, _, h3⟩ := h'
    exact .inr ⟨x, hx, h3⟩
 ·rintro (⟨x, hx, h⟩ | ⟨x, hx, h⟩)
  ·exact ⟨_, mem_formOf.2 (.inr ⟨i, h0, h4, mem_colC.2 (.inl ⟨x, hx, rfl⟩)⟩), has_spCl.2 ⟨rfl, rfl, h⟩⟩
  ·exact ⟨_, mem_formOf.2 (.inr ⟨i, h0, h4, mem_colC.2 (.inr ⟨x, hx, rfl⟩)⟩), has_spCl.2 ⟨rfl, rfl, h⟩⟩
end
theorem key_irr (a : List UInt8) : ¬ a < a := List.lt_irrefl a
theorem key_asy {a b : List UInt8} (h : a < b) (h' : b < a) : False := List.lt_irrefl a (List.lt_trans h h')
theorem form_unique {a b : List Cl} (ha : NormC a) (hb : NormC b) (h : ∀ t, lev a t = lev b t) : a = b := by
 obtain ⟨ks, W, R, rfl, hk, hn⟩ := ha
 obtain ⟨ks', W', R', rfl, hk', hn'⟩ := hb
 have hp : ∀ {ks : List (Bool × List UInt8)}, (ks.Pairwise fun a b => a.2 < b.2) → ∀ x ∈ ks, ∀ y ∈ ks, x.2 = y.2 → x = y := by
  intro ks hk x hx y hy e
  by_cases hne : x = y
  ·exact hne
  ·obtain ⟨i, hi, rfl⟩ := List.mem_iff_getElem.1 hx
   obtain ⟨j, hj, rfl⟩ := List.mem_iff_getElem.1 hy
   rcases Nat.lt_trichotomy i j with hij | hij | hij
   ·have := List.pairwise_iff_getElem.1 hk i j hi hj hij; rw [e] at this; exact (key_irr _ this).elim
   ·subst hij; rfl
   ·have := List.pairwise_iff_getElem.1 hk j i hj hi hij; rw [e] at this; exact (key_irr _ this).elim
 have hks : ks = ks' := by
  refine strict_unique (r := fun a b => a.2 < b.2) (fun a => key_irr a.2) (fun a b => key_asy) hk hk' ?_
  have side : ∀ {ks ks' : List (Bool × List UInt8)} {W R W' R' : Int → List (Int × Int)}, (ks.Pairwise fun a b => a.2 < b.2) → (ks'.Pairwise fun a b => a.2 < b.2) → (∀ t, lev (formOf ks W R) t = lev (formOf ks' W' R') t) → ∀ x, x ∈ ks → x ∈ ks' := by
   intro ks ks' W R W' R' hk hk' h x hx
   obtain ⟨b, k⟩ := x
   have h1 := (form_row_pos (ks := ks) (W := W) (R := R)).2 ⟨b, hx⟩
   rw [h] at h1
   obtain ⟨b', hb'⟩ := form_row_pos.1 h1
   have h2 : ((true, k) ∈ ks) ↔ ((true, k) ∈ ks') := by
    rw [← form_row_two (ks := ks) (W := W) (R := R), ← form_row_two (ks := ks') (W := W') (R := R'), h]
   cases b with
   | true => exact h2.1 hx
   | false =>
    cases b' with
    | false => exact hb'
    | true =>
     have := hp hk _ (h2.2 hb') _ hx rfl
     cases this
  exact fun x => ⟨side hk hk' h x, side hk' hk (fun t => (h t).symm) x⟩
 subst hks
 have hW : ∀ i : Int, 0 ≤ i → i < 4 → W i = W' i := fun i h0 h4 => norm_unique (hn i h0 h4).1 (hn' i h0 h4).1 fun n => by
  rw [← form_col_two (ks := ks) (R := R) h0 h4, ← form_col_two (ks := ks) (R := R') h0 h4, h]
 have hR : ∀ i : Int, 0 ≤ i → i < 4 → R i = R' i := fun i h0 h4 => norm_unique (hn i h0 h4).2.1 (hn' i h0 h4).2.1 fun n => by
  have e1 := form_col_pos (ks := ks) (W := W) (R := R) (n := n) h0 h4
  have e2 := form_col_pos (ks := ks) (W := W') (R := R') (n := n) h0 h4
  have e3 := (hn i h0 h4).2.2 n
  have e4 := (hn' i h0 h4).2.2 n
  rw [h, e2, hW i h0 h4] at e1
  rw [hW i h0 h4] at e3
  constructor
  ·intro hr
   rcases e1.2 (.inr hr) with h' | h'
   ·exact absurd hr (e3 h')
   ·exact h'
  ·intro hr
   rcases e1.1 (.inr hr) with h' | h'
   ·exact absurd hr (e4 h')
   ·exact h'
 unfold formOf colC
 rw [hW 0 (by decide) (by decide), hW 1 (by decide) (by decide), hW 2 (by decide) (by decide), hW 3 (by decide) (by decide), hR 0 (by decide) (by decide), hR 1 (by decide) (by decide), hR 2 (by decide) (by decide), hR 3 (by decide) (by decide)]
def Ok (c : Cl) : Prop := chk c = 0
theorem Ok.parts {c : Cl} (h : Ok c) : (c.col = -1 ∧ c.lo = 0 ∧ c.hi = 0 ∧ 1 ≤ c.key.length ∧ c.key.length ≤ 16) ∨ (0 ≤ c.col ∧ c.col < 4 ∧ c.key = [] ∧ c.lo ≤ c.hi) := by
 unfold Ok chk at h
 split at h
 ·cases h
 ·split at h
  ·split at h
   ·cases h
   ·rename_i h1 h2 h3
    refine .inr ⟨h2, by omega, ?_, ?_⟩
    ·exact Classical.byContradiction fun hk => h3 (.inl hk)
    ·exact Int.not_lt.1 fun hk => h3 (.inr hk)
  ·split at h
   ·cases h
   ·unfold keyErr at h
    split at h
    ·cases h
    ·omega
theorem Ok.proper {c : Cl} (h : Ok c) : c.lo ≤ c.hi := by
 rcases h.parts with h | h <;> omega
def spansOf (l : List Cl) (i : Int) (b : Bool) : List (Int × Int) := (l.filter fun c => c.col == i && c.wr == b).map fun c => (c.lo, c.hi)
theorem mem_spansOf {l : List Cl} {i : Int} {b : Bool} {x : Int × Int} : x ∈ spansOf l i b ↔ ∃ c ∈ l, c.col = i ∧ c.wr = b ∧ (c.lo, c.hi) = x := by
 unfold spansOf
 simp only [List.mem_map, List.mem_filter, Bool.and_eq_true, beq_iff_eq]
 constructor
 ·rintro ⟨c, ⟨h1, h2, h3⟩, h4⟩; exact ⟨c, h1, h2, h3, h4⟩
 ·rintro ⟨c, h1, h2, h3, h4⟩; exact ⟨c, ⟨h1, h2, h3⟩, h4⟩
theorem inS_spansOf {l : List Cl} (hl : ∀ c ∈ l, Ok c) {i n : Int} {b : Bool} (h0 : 0 ≤ i) : inS (spansOf l i b) n ↔ ∃ c ∈ l, c.has (i, [], n) ∧ c.wr = b := by
 unfold inS
 constructor
 ·rintro ⟨x, hx, h⟩
  obtain ⟨c, h1, h2, h3, rfl⟩ := mem_spansOf.1 hx
  have := (hl c h1).parts
  refine ⟨c, h1, ⟨h2, ?_, h⟩, h3⟩
  rcases this with this | this
  ·omega
  ·exact this.2.2.1
 ·rintro ⟨c, h1, ⟨h2, h3, h4⟩, h5⟩
  exact ⟨_, mem_spansOf.2 ⟨c, h1, h2, h5, rfl⟩, h4⟩
theorem proper_spansOf {l : List Cl} (hl : ∀ c ∈ l, Ok c) (i : Int) (b : Bool) : Proper (spansOf l i b) := by
 intro x hx
 obtain ⟨c, h1, h2, h3, rfl⟩ := mem_spansOf.1 hx
 exact (hl c h1).proper
theorem form_is {l : List Cl} (hl : ∀ c ∈ l, Ok c) {ks : List (Bool × List UInt8)} {W R : Int → List (Int × Int)} (hk : ks.Pairwise fun a b => a.2 < b.2)
  (h1 : ∀ k, (∃ b, (b, k) ∈ ks) ↔ 1 ≤ lev l (-1, k, 0)) (h2 : ∀ k, (true, k) ∈ ks ↔ lev l (-1, k, 0) = 2)
  (hW : ∀ i : Int, 0 ≤ i → i < 4 → NormS (W i) ∧ ∀ n, inS (W i) n ↔ inS (spansOf l i true) n)
  (hR : ∀ i : Int, 0 ≤ i → i < 4 → NormS (R i) ∧ ∀ n, inS (R i) n ↔ inS (spansOf l i false) n ∧ ¬ inS (W i) n) :
  NormC (formOf ks W R) ∧ ∀ t, lev (formOf ks W R) t = lev l t := by
 refine ⟨⟨ks, W, R, rfl, hk, fun i a b => ⟨(hW i a b).1, (hR i a b).1, fun n h h' => ((((hR i a b).2 n).1 h').2 h)⟩⟩, ?_⟩
 rintro ⟨i, k, n⟩
 have bd1 := lev_bd (formOf ks W R) (i, k, n)
 have bd2 := lev_bd l (i, k, n)
 by_cases hi : 0 ≤ i ∧ i < 4
 ·obtain ⟨a, b⟩ := hi
  by_cases hkn : k = []
  ·subst hkn
   have e1 := (form_col_two (ks := ks) (W := W) (R := R) (n := n) a b)
   have e2 := (form_col_pos (ks := ks) (W := W) (R := R) (n := n) a b)
   rw [(hW i a b).2 n, inS_spansOf hl a, ← lev_two] at e1
   have e3 : (inS (W i) n ∨ inS (R i) n) ↔ 1 ≤ lev l (i, [], n) := by
    rw [(hR i a b).2 n, (hW i a b).2 n, inS_spansOf hl a, inS_spansOf hl a, lev_pos]
    constructor
    ·rintro (⟨c, x, y, _⟩ | ⟨⟨c, x, y, _⟩, _⟩)
     ·exact ⟨c, x, y⟩
     ·exact ⟨c, x, y⟩
    ·rintro ⟨c, x, y⟩
     cases hw : c.wr
     ·by_cases hh : ∃ c ∈ l, c.has (i, [], n) ∧ c.wr = true
      ·exact .inl hh
      ·exact .inr ⟨⟨c, x, y, hw⟩, hh⟩
     ·exact .inl ⟨c, x, y, hw⟩
   rw [e3] at e2
   omega
  ·have e1 : ¬ 1 ≤ lev (formOf ks W R) (i, k, n) := by
    rw [lev_pos]
    rintro ⟨c, hc, h⟩
    rcases mem_formOf.1 hc with ⟨x, hx, rfl⟩ | ⟨j, _, _, hi⟩
    ·have := has_rowC.1 h; simp at this; omega
    ·rcases mem_colC.1 hi with ⟨x, hx, rfl⟩ | ⟨x, hx, rfl⟩
     ·exact hkn (has_spCl.1 h).2.1
     ·exact hkn (has_spCl.1 h).2.1
   have e2 : ¬ 1 ≤ lev l (i, k, n) := by
    rw [lev_pos]
    rintro ⟨c, hc, g1, g2, g3⟩
    simp only at g1 g2
    rcases (hl c hc).parts with h | h
    ·omega
    ·exact hkn (g2.symm.trans h.2.2.1)
   omega
 ·by_cases hr : i = -1 ∧ n = 0
  ·obtain ⟨rfl, rfl⟩ := hr
   have e1 := (form_row_pos (ks := ks) (W := W) (R := R) (k := k)).trans (h1 k)
   have e2 := (form_row_two (ks := ks) (W := W) (R := R) (k := k)).trans (h2 k)
   omega
  ·have e1 : ¬ 1 ≤ lev (formOf ks W R) (i, k, n) := by
    rw [lev_pos]
    rintro ⟨c, hc, h⟩
    rcases mem_formOf.1 hc with ⟨x, hx, rfl⟩ | ⟨j, _, _, hi⟩
    ·have := has_rowC.1 h; simp at this; omega
    ·rcases mem_colC.1 hi with ⟨x, hx, rfl⟩ | ⟨x, hx, rfl⟩
     ·have := (has_spCl.1 h).1; simp only at this; omega
     ·have := (has_spCl.1 h).1; simp only at this; omega
   have e2 : ¬ 1 ≤ lev l (i, k, n) := by
    rw [lev_pos]
    rintro ⟨c, hc, g1, g2, g3, g4⟩
    simp only at g1 g2 g3 g4
    rcases (hl c hc).parts with h | h
    ·omega
    ·omega
   omega
end Go.Proofs.YtagemonojdgbdaaGreatDoor
