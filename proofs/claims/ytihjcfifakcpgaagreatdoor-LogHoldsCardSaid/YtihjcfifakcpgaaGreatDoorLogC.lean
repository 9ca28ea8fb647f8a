/- All: the iterator over a log's pieces. -/
import Derived.Test.YtihjcfifakcpgaaGreatDoorLogB
import Derived.Test.YtihjcfifakcpgaaGreatDoorRange
namespace Go.Proofs.YtihjcfifakcpgaaGreatDoor
set_option maxRecDepth 100000
open Go.RowKit Go.Shelf

attribute [local go_sem] Oper.semAt_some

/-- What All hands back, and what it has captured. -/
def AllP (F : Nat → Prop) (ps : List (List UInt8)) (w : World) (e : Ending) (w' : World) : Prop :=
  ∃ Bs v, e = .returned (.func (.func 65) #[] #[.pointer (some ⟨Bs, 0, none⟩)]) ∧ Below w.heap.size w w' ∧ w.heap.size ≤ Bs ∧ w'.cell? ⟨Bs, 0, none⟩ = some v ∧
    RowsRd w' (fun k => F k ∨ w.heap.size ≤ k) v ps

theorem all_ok (w : World) (F : Nat → Prop) (b : Nat) (ps : List (List UInt8)) (h : LogAt w F b ps) (hl : ps.length ≤ 1024) :
    Calls Tryz.prog 34 #[.pointer (some ⟨b, 0, none⟩)] w (AllP F ps w) := by
  obtain ⟨A, c, hc, hrr⟩ := h.at_
  replace hrr := hrr.bound
  have hb := h.lt
  have hc1 : (w.alloc (.cells #[.slice none 0 0] 55)).cell? ⟨b, 0, none⟩ = some (.slice A ps.length c) := cell_alloc_any hc _
  have hrr1 : RowsRd (w.alloc (.cells #[.slice none 0 0] 55)) (fun k => F k ∧ k < w.heap.size) (.slice A ps.length c) ps := hrr.below ((Below.refl _ _).alloc (Nat.le_refl _) _)
  obtain ⟨vs, hrd, hvl, hin⟩ := hrr1
  have H := Lib.hid (And.intro hrd (And.intro hvl hin))
  have hone : ∀ u ∈ vs, u.oneCell' = true := by
    intro u hu
    obtain ⟨i, hi, rfl⟩ := List.getElem_of_mem hu
    obtain ⟨A', c', hx, _⟩ := hin i ps[i] (by simp [← hvl, hi])
    rw [List.getElem?_eq_getElem hi] at hx
    injection hx with hx
    rw [hx]
    rfl
  have hvl2 : vs.length * 24 ≤ 140737488355328 := by omega
  have HO := Lib.hid hone
  clear hrr hrd hvl hin h hone
  go_enter Tryz.func34, Tryz.ntmps34
  go_wp2_with fail
  refine (clone_rows _ vs _ _ H.out.1 HO.out hvl2).mono ?_
  rintro e w1 ⟨Ax, cx, rfl, hx, hbl⟩
  have hblk : w1.heap[w.heap.size]? = some (.cells #[.slice none 0 0] 55 (0, 0)) := (hbl.block _ (by simp)).trans (heap_alloc_new w _)
  have hB := blk_cell hblk
  have hBf := blk_frozen hblk
  go_wp2_with fail
  go_ret
  have hS := Only.set1 w1 w.heap.size 0 (.slice Ax vs.length cx)
  refine ⟨w.heap.size, .slice Ax vs.length cx, rfl, ?_, Nat.le_refl _, ?_, vs, ?_, H.out.2.1, fun i p hp => ?_⟩
  · refine (((Below.refl _ _).alloc (Nat.le_refl _) _).trans (hbl.mono (by simp))).setCell (Nat.le_refl _) _
  · exact World.cell?_setCell_same' _ _ _ (by rw [hB]; rfl)
  · refine Rd.of_own (own_only hx hS ?_) ?_
    · intro g hg e
      have := (hx.lt g hg).1
      simp at this; omega
    · intro g hg
      have := (hx.lt g hg).1
      simp at this
      exact .inr (by omega)
  · obtain ⟨A', c', h1, h2⟩ := H.out.2.2 i p hp
    refine ⟨A', c', h1, Rd.mono (F := fun k => F k ∧ k < w.heap.size) ((h2.below hbl).only hS ?_) (fun k hk => .inl hk.1)⟩
    intro k hk e
    omega

/-- What the iterator tells of what it hands out. -/
def LogPre (ps : List (List UInt8)) (pre : List (List UInt8)) (x : List UInt8) (v0 v1 : Value) (U : Nat → Prop) (W : World) : Prop :=
  v0 = .int .i64 pre.length ∧ ∃ A c F, v1 = .slice A x.length c ∧ ps[pre.length]? = some x ∧ pre = ps.take pre.length ∧ Rd W F (.slice A x.length c) (x.map B8) ∧ ∀ k, F k → ¬ U k

theorem logPre_only (ps : List (List UInt8)) : ∀ pre x v0 v1 U V A B, LogPre ps pre x v0 v1 V A → Only V A B → (∀ k, U k → V k) → LogPre ps pre x v0 v1 U B := by
  rintro pre x v0 v1 U V A B ⟨h0, A', c, F, h1, h2, h3, h4, h5⟩ ho hs
  exact ⟨h0, A', c, F, h1, h2, h3, h4.only ho h5, fun k hk hu => h5 k hk (hs k hu)⟩

set_option maxRecDepth 100000 in
set_option maxHeartbeats 2000000 in
theorem all_seq (w : World) (Fp : Nat → Prop) (Bs : Nat) (v : Value) (ps : List (List UInt8)) (hpl : ∀ p ∈ ps, p.length ≤ 8192) (hF : Fp Bs) (hBs : w.cell? ⟨Bs, 0, none⟩ = some v) (hr : RowsRd w Fp v ps) :
    SeqG Tryz.prog 65 #[.pointer (some ⟨Bs, 0, none⟩)] (fun pre x args U W => ∃ v0 v1, args = #[v0, v1] ∧ LogPre ps pre x v0 v1 U W) Fp (fun xs => xs = ps) (fun pre => pre <+: ps) w := by
  intro l J Jx W U0 hJ hJx hag hdis h0 hY
  have hr' := hr.agree hag
  obtain ⟨A, c, rfl, hc, hm, _⟩ := hr.at_
  have hBs' : W.cell? ⟨Bs, 0, none⟩ = some (.slice A ps.length c) := cell_agree hag hF hBs
  have HY := Lib.hid hY
  have HR := Lib.hid hr'
  have HP := Lib.hid hpl
  clear hY hr hr' hag hpl hBs
  unfold maxLen at hm
  refine callsIn_of_wp Tryz.func65 rfl trivial ?_ rfl
  simp only [Tryz.ntmps65, List.size_toArray, List.length_cons, List.length_nil, Nat.reduceAdd, Nat.reduceSub, Array.replicate_succ, Array.replicate_zero, List.push_toArray, List.append_toArray, List.nil_append, List.cons_append]
  gi_wp2
  gi_loopw [7] (fun i wr => ∃ (k : Nat) (U : Nat → Prop), k ≤ ps.length ∧ i = .int .i64 k ∧ J (ps.take k) U wr ∧ Only U0 W wr ∧ Grow W U0 U)
    (fun i _ => ps.length - (intOf i).toNat)
  case atStart => exact ⟨0, U0, Nat.zero_le _, rfl, by simpa using h0, Only.refl _ _, Grow.refl _ _⟩
  case round =>
    obtain ⟨k, U, hk, rfl, hJs, ho, hg⟩ := hrel
    by_cases hlt : k < ps.length
    · obtain ⟨p, hp⟩ : ∃ p, ps[k]? = some p := ⟨_, List.getElem?_eq_getElem hlt⟩
      obtain ⟨A0, c0, he, _, _, hat⟩ := (HR.out.only ho hdis).at_
      injection he with e1 _ e3
      subst e1 e3
      obtain ⟨b, o, A', c', rfl, hcell, hrd⟩ := hat k p hp
      have hpl := HP.out p (List.mem_of_getElem? hp)
      have htk : ps.take (k + 1) = ps.take k ++ [p] := by rw [List.take_add_one, hp]; rfl
      have hlk : (ps.take k).length = k := by simp; omega
      have HTK := Lib.hid htk
      have HLK := Lib.hid hlk
      have HPK := Lib.hid hp
      have HRD := Lib.hid hrd
      have hUlt := hJ.1 _ _ _ hJs
      have HU := Lib.hid hUlt
      clear hat htk hlk hp hrd hUlt
      gi_wp2_with (refine ⟨trivial, ?_⟩; gi_at_call 57; refine (callsIn_wide.2 (clone_bytes _ (p.map B8) Fp _ HRD.out (B8_one p) (by simp; omega))).mono ?_; rintro e w1 ⟨Ax, cx, rfl, hx, hbl⟩)
      have hx2 : w1.ownsRow wr.heap.size 5 1 (.slice Ax p.length cx) p.length (p.map B8) := by simpa using hx
      have hJ1 : J (ps.take k) U w1 := hJ.2 _ _ _ _ _ hJs (Only.of_below hbl fun _ => False) (fun _ h => h.elim)
      have hpre : LogPre ps (ps.take k) p (.int .i64 k) (.slice Ax p.length cx) U w1 :=
        ⟨by rw [HLK.out], Ax, cx, fun j => wr.heap.size ≤ j, rfl, by rw [HLK.out]; exact HPK.out, by rw [HLK.out], Rd.of_own hx2 (fun g hg => (hx2.lt g hg).1), fun j hj hu => by have := HU.out j hu; omega⟩
      obtain ⟨fn, tmps, assign, body, hy, hR⟩ := HY.out _ _ _ _ _ hJ1 ⟨_, _, rfl, hpre⟩
      have hsz : wr.heap.size ≤ w1.heap.size := hbl.size
      have hg1 : Only U0 W w1 := ho.trans (T := fun _ => False) (Only.of_below hbl _) (fun _ _ h => h.elim)
      rw [hy]
      refine ⟨fun h => by simp [Fence.wide] at h, (roundIn_wide hR).mono ?_⟩
      rintro e W3 (⟨rfl, U', hJ3, ho3, hg3⟩ | ⟨rfl, U', hJx3, ho3, hg3⟩)
      · have hJ4 : J (ps.take (k + 1)) U' W3 := by rw [HTK.out]; exact hJ3
        have ho4 : Only U0 W W3 := hg1.trans ho3 (fun i hi h => (hg i h).elim id (fun h => by omega))
        have hg4 : Grow W U0 U' := hg.trans hg3 (by have := ho.size; omega)
        gi_wp2
        go_roundw
        case rel => exact ⟨k + 1, U', by omega, by go_num, hJ4, ho4, hg4⟩
        case measure => simp [intOf]; omega
      · have ho4 : Only U0 W W3 := hg1.trans ho3 (fun i hi h => (hg i h).elim id (fun h => by omega))
        have hg4 : Grow W U0 U' := hg.trans hg3 (by have := ho.size; omega)
        gi_wp2
        refine bodyPost_ret (results_none rfl _ _ _) rfl ?_
        exact ⟨⟨_, rfl⟩, .inr ⟨_, U', by rw [← HTK.out]; exact List.take_prefix _ _, hJx3, ho4, hg4⟩⟩
    · obtain rfl : k = ps.length := by omega
      gi_wp2
      go_end0
      exact ⟨⟨_, rfl⟩, .inl ⟨_, U, rfl, by simpa using hJs, ho, hg⟩⟩
end Go.Proofs.YtihjcfifakcpgaaGreatDoor
