/- joined: a list of spans whose neighbours that meet are one. -/
import Derived.Test.YtifpaagppjmbhaaGreatDoorFoot
import Derived.Laws.OwnMore
import Derived.Deep.RegionLaw
import Derived.Deep.CutRange
namespace Go.Proofs.YtifpaagppjmbhaaGreatDoor
set_option maxRecDepth 100000
open Go.RowKit

/-- One span more. -/
def joinStep (out : List (Int × Int)) (x : Int × Int) : List (Int × Int) :=
  match out.getLast? with
  | none => out ++ [x]
  | some a => match meetS a x with
    | none => out ++ [x]
    | some y => out.dropLast ++ [y]
def joinS (l : List (Int × Int)) : List (Int × Int) := l.foldl joinStep []

def SpFit (l : List (Int × Int)) : Prop := ∀ x ∈ l, I64 x.1 ∧ I64 x.2

theorem meetS_fit {a b y : Int × Int} (h : meetS a b = some y) (ha : I64 a.1 ∧ I64 a.2) (hb : I64 b.1 ∧ I64 b.2) : I64 y.1 ∧ I64 y.2 := by
  unfold meetS at h
  split at h
  · cases h
  · injection h with h
    subst h
    refine ⟨ha.1, ?_⟩
    unfold I64 at *
    simp only
    omega

theorem joinStep_fit {out : List (Int × Int)} {x : Int × Int} (ho : SpFit out) (hx : I64 x.1 ∧ I64 x.2) : SpFit (joinStep out x) := by
  unfold joinStep
  split
  · intro y hy
    rcases List.mem_append.1 hy with h | h
    · exact ho y h
    · simp at h; subst h; exact hx
  · rename_i a ha
    have hal : a ∈ out := List.mem_of_getLast? ha
    split
    · intro y hy
      rcases List.mem_append.1 hy with h | h
      · exact ho y h
      · simp at h; subst h; exact hx
    · rename_i y hy
      intro z hz
      rcases List.mem_append.1 hz with h | h
      · exact ho z (List.dropLast_subset _ h)
      · simp at h; subst h; exact meetS_fit hy (ho a hal) hx

theorem joinStep_len (out : List (Int × Int)) (x : Int × Int) : (joinStep out x).length ≤ out.length + 1 := by
  unfold joinStep
  split
  · simp
  · split
    · simp
    · simp

theorem foldl_fit {l : List (Int × Int)} : ∀ {out}, SpFit out → SpFit l → SpFit (l.foldl joinStep out) := by
  induction l with
  | nil => intro out h _; exact h
  | cons x l ih =>
    intro out ho hl
    exact ih (joinStep_fit ho (hl x (by simp))) (fun y hy => hl y (by simp [hy]))
theorem foldl_len {l : List (Int × Int)} : ∀ {out : List (Int × Int)}, (l.foldl joinStep out).length ≤ out.length + l.length := by
  induction l with
  | nil => intro out; simp
  | cons x l ih =>
    intro out
    have := ih (out := joinStep out x)
    have := joinStep_len out x
    simp
    omega

theorem spc_set (l : List (Int × Int)) (y : Int × Int) (hl : l ≠ []) :
    (((l.map spc).flatten.set ((l.length - 1) * 2) (.int .i64 y.1)).set ((l.length - 1) * 2 + 1) (.int .i64 y.2)) = ((l.dropLast ++ [y]).map spc).flatten := by
  obtain ⟨m, z, rfl⟩ : ∃ m z, l = m ++ [z] := ⟨l.dropLast, l.getLast hl, (List.dropLast_concat_getLast hl).symm⟩
  have hlen : (m.map spc).flatten.length = m.length * 2 := by rw [flat_len (spc_len m)]; simp
  simp only [List.map_append, List.flatten_append, List.length_append, List.length_singleton, Nat.add_sub_cancel, List.dropLast_concat]
  rw [List.set_append_right _ _ (by omega), List.set_append_right _ _ (by omega), hlen]
  simp [spc]

theorem box_after {W w1 : World} {n : Nat} (hn : W.heap.size = n) (hb : Below W.drew.heap.size W.drew w1) (Y : Obj) : n ≤ w1.heap.size ∧ (w1.alloc Y).heap[w1.heap.size]? = some Y ∧ Below n W (w1.alloc Y) := by
  subst hn
  have h := undrew hb
  have hs : W.heap.size ≤ w1.heap.size := h.size
  exact ⟨hs, heap_alloc_new _ _, h.alloc hs _⟩
theorem box_before {W w1 : World} {n : Nat} {t : TypeId} {z0 z1 : Value} (hn : W.heap.size = n) (hb : Below (W.alloc (.cells #[z0, z1] t)).drew.heap.size (W.alloc (.cells #[z0, z1] t)).drew w1) (a b : Value) :
    n ≤ n ∧ ((w1.setCell ⟨n, 0, none⟩ a).setCell ⟨n, 1, none⟩ b).heap[n]? = some (.cells #[a, b] t) ∧ Below n W ((w1.setCell ⟨n, 0, none⟩ a).setCell ⟨n, 1, none⟩ b) := by
  subst hn
  have h := undrew hb
  have h1 : w1.heap[W.heap.size]? = some (.cells #[z0, z1] t) := by
    rw [h.block W.heap.size (by show W.heap.size < (W.alloc (.cells #[z0, z1] t)).heap.size; simp)]
    exact heap_alloc_new _ _
  refine ⟨Nat.le_refl _, ?_, ?_⟩
  · have h2 := heap_setCell_same w1 W.heap.size 0 _ t a h1
    have h3 := heap_setCell_same _ W.heap.size 1 _ t b h2
    simpa using h3
  · have h2 : Below W.heap.size W w1 := ((Below.refl _ _).alloc (Nat.le_refl _) _).trans (h.mono (by show W.heap.size ≤ (W.alloc (.cells #[z0, z1] t)).heap.size; simp))
    exact (h2.setCell (Nat.le_refl _) _).setCell (Nat.le_refl _) _
theorem blk_cell2 {w : World} {b : Nat} {u v : Value} {t : TypeId} (h : w.heap[b]? = some (.cells #[u, v] t (0, 0))) : w.cell? ⟨b, 0, none⟩ = some u ∧ w.cell? ⟨b, 1, none⟩ = some v ∧ w.frozen? ⟨b, 0, none⟩ = false ∧ w.frozen? ⟨b, 1, none⟩ = false := by
  simp [World.cell?, World.frozen?, h]

/-- A fresh row of spans. -/
def FreshS (l : List (Int × Int)) (w : World) (e : Ending) (w' : World) : Prop :=
  ∃ A c, e = .returned (.slice A l.length c) ∧ w'.ownsRow w.heap.size 202 2 (.slice A l.length c) l.length (l.map spc).flatten ∧ Below w.heap.size w w'

def JoinR (w : World) (l : List (Int × Int)) (k : Nat) (v : Value) (w' : World) : Prop :=
  w'.ownsRow w.heap.size 202 2 v (((l.take k).foldl joinStep [])).length ((((l.take k).foldl joinStep [])).map spc).flatten ∧ Below w.heap.size w w'

set_option maxRecDepth 100000 in
set_option maxHeartbeats 1000000 in
theorem joined_ok (w : World) (F : Nat → Prop) (v : Value) (l : List (Int × Int)) (h : SpRd w F v l) (hl : l.length ≤ 1000) (hfit : SpFit l) :
    Calls Tryz.prog 133 #[v, .func (.func 134) #[] #[]] w (FreshS (joinS l) w) := by
  obtain ⟨i0, hi, hz0, hz1, hz2⟩ := info_parts Tryz.info81
  obtain ⟨A, c, rfl, hnc, hcm⟩ := h.slice
  have H := Lib.hid h
  clear h
  go_enter Tryz.func133, Tryz.ntmps133
  go_wp2_with fail
  go_loopw [5, 13] (fun v i wr => ∃ k, k ≤ l.length ∧ i = .int .i64 (k : Int) ∧ JoinR w l k v wr) (fun _ i _ => l.length - (intOf i).toNat)
  case atStart => exact ⟨0, Nat.zero_le _, rfl, World.ownsRow_nil _ _ _ _, Below.refl _ _⟩
  case round =>
    obtain ⟨k, hk, rfl, hown, hbl⟩ := hrel
    by_cases hlt : k < l.length
    · obtain ⟨x, hx⟩ : ∃ x, l[k]? = some x := ⟨_, List.getElem?_eq_getElem hlt⟩
      obtain ⟨b, o, rfl, hF, c0, c1⟩ := H.out.at_ hx
      have hb : b < w.heap.size := World.block_lt_of_cell? w _ c0
      have c0' := (hbl.cell (p := ⟨b, o + k * 2, none⟩) hb).trans c0
      have c1' := (hbl.cell (p := ⟨b, o + k * 2 + 1, none⟩) hb).trans c1
      have htk : (l.take (k + 1)).foldl joinStep [] = joinStep ((l.take k).foldl joinStep []) x := by
        rw [List.take_add_one, hx]
        simp
      have hxf := hfit x (List.mem_of_getElem? hx)
      have hfo : SpFit ((l.take k).foldl joinStep []) := foldl_fit (fun _ h => by simp at h) (fun y hy => hfit y (List.mem_of_mem_take hy))
      have hln : ((l.take k).foldl joinStep []).length ≤ k := by
        have := foldl_len (l := l.take k) (out := [])
        simp at this
        omega
      obtain ⟨out, hout⟩ : ∃ out, (l.take k).foldl joinStep [] = out := ⟨_, rfl⟩
      rw [hout] at htk hfo hln hown
      have HB := Lib.hid htk
      clear hx c0 c1 hout htk
      obtain ⟨n, hn⟩ : ∃ n, out.length = n := ⟨_, rfl⟩
      rw [hn] at hown hln
      obtain ⟨A5, c5, rfl⟩ := ownsRow_slice hown
      have hs := hbl.size
      obtain ⟨wa, hwa⟩ : ∃ wa, wr.alloc (.cells #[.int .i64 x.1, .int .i64 x.2] 202) = wa := ⟨_, rfl⟩
      have hba : Below wr.heap.size wr wa := by rw [← hwa]; exact (Below.refl _ _).alloc (Nat.le_refl _) _
      have hsa : wa.heap.size = wr.heap.size + 1 := by rw [← hwa]; simp
      have hbx : wa.heap[wr.heap.size]? = some (.cells #[.int .i64 x.1, .int .i64 x.2] 202) := by rw [← hwa]; exact heap_alloc_new _ _
      have hba' := hbl.trans (hba.mono hs)
      cases hgl : out.getLast? with
      | none =>
        have : out = [] := by simpa using hgl
        subst this
        simp at hn
        subst hn
        have hown' := (hown.alloc (.cells #[.int .i64 x.1, .int .i64 x.2] 202)).alloc (.cells #[.int .i64 x.1, .int .i64 x.2] 202)
        have hnews := World.news_of_block (heap_alloc_new (wr.alloc (.cells #[.int .i64 x.1, .int .i64 x.2] 202)) (.cells #[.int .i64 x.1, .int .i64 x.2] 202))
        rw [show (wr.alloc (.cells #[.int .i64 x.1, .int .i64 x.2] 202)).heap.size = wr.heap.size + 1 by simp] at hnews
        have HOWN := Lib.hid (And.intro hown' (And.intro hnews hown))
        have HBL := Lib.hid hbl
        have HHI := Lib.hid hi
        clear hown hown' hnews hbl hba hsa hbx hba' hwa hgl hfo
        go_wp2_with (at_builtin; go_loud (refine wpList_append_lies _ rfl _ _ 196 rfl w.heap.size 202 i0 _ 2 16 Tryz.underlying196 HHI.out hz0 hz1 hz2 rfl (by decide) (.slice A5 0 c5) 0 _ rfl HOWN.out.1 ⟨wr.heap.size + 1, 0, none⟩ 1 1 [.int .i64 x.1, .int .i64 x.2] rfl rfl HOWN.out.2.1 (by simp [Value.oneCell']) (by decide) (by unfold maxLen; omega) (by omega) (by have := HBL.out.size; simp; omega) _ rfl ?_); intro g cap w1 hown1 hgrow1 hat1 hlt1)
        go_roundw
        case rel =>
          refine ⟨k + 1, by omega, by go_num, ?_, ?_⟩
          · rw [HB.out]
            simpa [joinStep, spc] using hown1
          · exact ((HBL.out.alloc (by omega) _).alloc (by simp; omega) _).grown hgrow1 (by simp; omega) (fun j hj => (HOWN.out.2.2.lt j hj).1)
        case measure => simp [intOf]; omega
      | some a =>
        obtain ⟨m, hm⟩ : ∃ m, n = m + 1 := ⟨out.length - 1, by have : out ≠ [] := (fun h => by subst h; simp at hgl); have := List.length_pos_iff.2 this; omega⟩
        subst hm
        have hm := hn
        have ham : out[m]? = some a := by rw [List.getLast?_eq_getElem?, hm] at hgl; simpa using hgl
        have haf := hfo a (List.mem_of_getElem? ham)
        have hflat : ∀ j u, (spc a)[j]? = some u → (out.map spc).flatten[m * 2 + j]? = some u := flat_at (spc_len out) m (spc a) (by simp [ham])
        have hn0 : out.length * 2 = m * 2 + 2 := by omega
        obtain ⟨g, cap, hv, hg0, hgl2⟩ := hown.form (by omega)
        injection hv with hv1 _ hv3
        subst hv1 hv3
        have d0 := (hown.cellAt (m * 2) (by omega)).trans (hflat 0 _ rfl)
        have d1 := (hown.cellAt (m * 2 + 1) (by omega)).trans (hflat 1 _ rfl)
        have hgne : g ≠ wr.heap.size := by omega
        have d0' := cell_alloc_any d0 (.cells #[.int .i64 x.1, .int .i64 x.2] 202)
        have d1' := cell_alloc_any d1 (.cells #[.int .i64 x.1, .int .i64 x.2] 202)
        have HO := Lib.hid (And.intro hown (And.intro hgl (And.intro haf (And.intro hflat (And.intro ham hm)))))
        have HHI := Lib.hid hi
        have HBL := Lib.hid hbl
        clear hown hgl haf hflat ham hm hi hn0 hbl hba hsa hbx hba' hwa hn
        have hg1 : g < wr.heap.size + 1 := by omega
        have hg2 : g < wr.heap.size + 1 + 1 := by omega
        have hmi : (m : Int) < (m : Int) + 1 := by omega
        have f0 := HO.out.1.frozenAt (m * 2)
        have f1 := HO.out.1.frozenAt (m * 2 + 1)
        cases hms : meetS a x with
        | none =>
          have HM := Lib.hid hms
          clear hms
          go_upto_region 7 with fail
          go_cut [9, 10, 13] from 13 to 41 (fun s9 s10 s13 wx => s13 = .int .i64 (k : Int) ∧ ∃ B, s9 = .pointer (some ⟨B, 0, none⟩) ∧ s10 = .bool false ∧ wr.heap.size + 1 ≤ B ∧ wx.heap[B]? = some (.cells #[.int .i64 0, .int .i64 0] 202) ∧ Below (wr.heap.size + 1) (wr.alloc (.cells #[.int .i64 x.1, .int .i64 x.2] 202)) wx)
          case first =>
            go_region_law ((go_simp; go_at_call 134; go_loud (refine (meet_ok _ a x HO.out.2.2.1.2 hxf.1).mono ?_); rintro e w1 ⟨hbl1, hmm⟩; rw [HM.out] at hmm; simp only at hmm; subst hmm; have HBL1 := Lib.hid hbl1; obtain ⟨bc, bf⟩ := bcell hbl1; clear hbl1))
            all_goals
              go_wp2_with fail
              go_meet
              first
                | exact ⟨rfl, _, rfl, rfl, box_after (by simp) HBL1.out _⟩
                | exact ⟨rfl, _, rfl, rfl, box_before (by simp) HBL1.out _ _⟩
          case rest =>
            obtain ⟨rfl, B, rfl, rfl, hB1, hB2, hcb⟩ := hcut
            have hbx : wc.heap[wr.heap.size]? = some (.cells #[.int .i64 x.1, .int .i64 x.2] 202) := by rw [hcb.block _ (by omega)]; exact heap_alloc_new _ _
            obtain ⟨x0, x1, _, _⟩ := blk_cell2 hbx
            have hownc := own_below (HO.out.1.alloc (.cells #[.int .i64 x.1, .int .i64 x.2] 202)) (w' := wc) (by simpa using hcb)
            have hblc : Below w.heap.size w wc := (HBL.out.alloc (by omega) _).trans (hcb.mono (by omega))
            have hs2 := hblc.size
            have hown' := hownc.alloc (.cells #[.int .i64 x.1, .int .i64 x.2] 202)
            have hnews := World.news_of_block (heap_alloc_new wc (.cells #[.int .i64 x.1, .int .i64 x.2] 202))
            have HOWN := Lib.hid (And.intro hown' (And.intro hnews (And.intro hownc hblc)))
            clear hown' hnews hownc hblc hbx hcb hB2
            go_wp2_with (at_builtin; go_loud (refine wpList_append_lies _ rfl _ _ 196 rfl w.heap.size 202 i0 _ 2 16 Tryz.underlying196 HHI.out hz0 hz1 hz2 rfl (by decide) (.slice (some ⟨g, 0, none⟩) (m + 1) c5) (m + 1) _ rfl HOWN.out.1 ⟨wc.heap.size, 0, none⟩ 1 1 [.int .i64 x.1, .int .i64 x.2] rfl rfl HOWN.out.2.1 (by simp [Value.oneCell']) (by decide) (by unfold maxLen; omega) (by omega) (by simp; omega) _ rfl ?_); intro g2 cap w1 hown1 hgrow1 hat1 hlt1)
            go_roundw
            case rel =>
              refine ⟨k + 1, by omega, by go_num, ?_, ?_⟩
              · have hj : joinStep out x = out ++ [x] := by unfold joinStep; rw [HO.out.2.1]; simp only; rw [HM.out]
                rw [HB.out, hj]
                have hl2 := HO.out.2.2.2.2.2
                simpa [spc, hl2] using hown1
              · exact (HOWN.out.2.2.2.alloc (by omega) _).grown hgrow1 (by simp; omega) (fun j hj => (HOWN.out.2.2.1.lt j hj).1)
            case measure => simp [intOf]; omega
        | some y =>
          have HM := Lib.hid hms
          clear hms
          go_upto_region 7 with fail
          go_cut [9, 10, 13] from 13 to 41 (fun s9 s10 s13 wx => s13 = .int .i64 (k : Int) ∧ ∃ B, s9 = .pointer (some ⟨B, 0, none⟩) ∧ s10 = .bool true ∧ wr.heap.size + 1 ≤ B ∧ wx.heap[B]? = some (.cells #[.int .i64 y.1, .int .i64 y.2] 202) ∧ Below (wr.heap.size + 1) (wr.alloc (.cells #[.int .i64 x.1, .int .i64 x.2] 202)) wx)
          case first =>
            go_region_law ((go_simp; go_at_call 134; go_loud (refine (meet_ok _ a x HO.out.2.2.1.2 hxf.1).mono ?_); rintro e w1 ⟨hbl1, hmm⟩; rw [HM.out] at hmm; simp only at hmm; subst hmm; have HBL1 := Lib.hid hbl1; obtain ⟨bc, bf⟩ := bcell hbl1; clear hbl1))
            all_goals
              go_wp2_with fail
              go_meet
              first
                | exact ⟨rfl, _, rfl, rfl, box_after (by simp) HBL1.out _⟩
                | exact ⟨rfl, _, rfl, rfl, box_before (by simp) HBL1.out _ _⟩
          case rest =>
            obtain ⟨rfl, B, rfl, rfl, hB1, hB2, hcb⟩ := hcut
            have hbx : wc.heap[wr.heap.size]? = some (.cells #[.int .i64 x.1, .int .i64 x.2] 202) := by rw [hcb.block _ (by omega)]; exact heap_alloc_new _ _
            obtain ⟨x0, x1, _, _⟩ := blk_cell2 hbx
            have hownc := own_below (HO.out.1.alloc (.cells #[.int .i64 x.1, .int .i64 x.2] 202)) (w' := wc) (by simpa using hcb)
            have hblc : Below w.heap.size w wc := (HBL.out.alloc (by omega) _).trans (hcb.mono (by omega))
            obtain ⟨y0, y1, _, _⟩ := blk_cell2 hB2
            have e0 := (hownc.cellAt (m * 2) (by omega)).trans (HO.out.2.2.2.1 0 _ rfl)
            have e1 := (hownc.cellAt (m * 2 + 1) (by omega)).trans (HO.out.2.2.2.1 1 _ rfl)
            have k0 := hownc.frozenAt (m * 2)
            have k1 := hownc.frozenAt (m * 2 + 1)
            have HOWN := Lib.hid (And.intro hownc hblc)
            clear hownc hblc hbx hcb hB2
            go_wp2_with fail
            go_roundw
            case rel =>
              refine ⟨k + 1, by omega, by go_num, ?_, ?_⟩
              · have hj : joinStep out x = out.dropLast ++ [y] := by unfold joinStep; rw [HO.out.2.1]; simp only; rw [HM.out]
                have hl2 := HO.out.2.2.2.2.2
                have hne : out ≠ [] := fun h => by subst h; simp at hl2
                rw [HB.out, hj, ← spc_set out y hne, hl2]
                have hl3 : (out.dropLast ++ [y]).length = m + 1 := by simp [hl2]
                rw [hl3]
                exact ((HOWN.out.1.stored (m * 2) _).1.stored (m * 2 + 1) _).1
              · exact (HOWN.out.2.setCell hg0 _).setCell hg0 _
            case measure => simp [intOf]; omega
    · have hkl : k = l.length := by omega
      subst hkl
      go_wp2_with fail
      go_ret
      rw [List.take_length] at hown
      obtain ⟨A', c', rfl⟩ := ownsRow_slice hown
      exact ⟨A', c', rfl, hown, hbl⟩

end Go.Proofs.YtifpaagppjmbhaaGreatDoor
