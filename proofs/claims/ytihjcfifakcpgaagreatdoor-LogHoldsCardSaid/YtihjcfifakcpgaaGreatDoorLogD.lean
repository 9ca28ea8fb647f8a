/- 'holds': a log has just some pieces. -/
import Derived.Test.YtihjcfifakcpgaaGreatDoorLogC
namespace Go.Proofs.YtihjcfifakcpgaaGreatDoor
set_option maxRecDepth 100000
open Go.RowKit Go.Shelf

attribute [local go_sem] Oper.semAt_some

theorem all_not_nil (Bs : Nat) (w : World) : (binOp .eql 69 (.func (.func 65) #[] #[.pointer (some ⟨Bs, 0, none⟩)]) .nilFunc).run Tryz.prog w = .ok (.bool false) w := by kernel_rfl

set_option maxRecDepth 100000 in
set_option maxHeartbeats 2000000 in
theorem loghas_ok (w : World) (F G : Nat → Prop) (b : Nat) (ps : List (List UInt8)) (v : Value) (h : LogAt w F b ps) (hr : RowsRd w G v ps) (hlen : ps.length ≤ 1024) (hpl : ∀ p ∈ ps, p.length ≤ 8192) :
    Calls Tryz.prog 27 #[.pointer (some ⟨b, 0, none⟩), v] w fun e w' => e = .returned (.bool true) ∧ Below w.heap.size w w' := by
  obtain ⟨A, c, rfl, hc, hm, _⟩ := hr.at_
  have H := Lib.hid (And.intro h.bound hr.bound)
  clear h hr
  have hb := H.out.1.lt
  refine calls_marks Tryz.func27 rfl ?_
  simp only [Tryz.ntmps27, List.size_toArray, List.length_cons, List.length_nil, Nat.reduceAdd, Nat.reduceSub, Array.replicate_succ, Array.replicate_zero, List.push_toArray, List.append_toArray, List.nil_append, List.cons_append]
  go_wp2_with fail
  obtain ⟨W0, hW0⟩ : ∃ W0, (w.alloc (.cells #[.slice A ps.length c] 55)).alloc (.cells #[.bool false] 4) = W0 := ⟨_, rfl⟩
  rw [hW0]
  have hbl0 : Below w.heap.size w W0 := by rw [← hW0]; exact ((Below.refl _ _).alloc (Nat.le_refl _) _).alloc (by simp) _
  have hlog0 := H.out.1.below hbl0
  have hrr0 := H.out.2.below hbl0
  refine (all_ok W0 _ b ps hlog0 hlen).mono ?_
  rintro e w1 ⟨Bs, v1, rfl, hbl1, hBs, hcB, hrows⟩
  have hlog1 := hlog0.below hbl1
  have hrr1 := hrr0.below hbl1
  have hsz0 : W0.heap.size = w.heap.size + 2 := by rw [← hW0]; simp
  have hk0 : W0.heap[w.heap.size]? = some (.cells #[.slice A ps.length c] 55 (0, 0)) := by rw [← hW0]; exact (Below.heap_alloc _ _ _ (by simp)).trans (heap_alloc_new w _)
  have hk1 : W0.heap[w.heap.size + 1]? = some (.cells #[.bool false] 4 (0, 0)) := by rw [← hW0]; have := heap_alloc_new (w.alloc (.cells #[.slice A ps.length c] 55)) (.cells #[.bool false] 4); rwa [World.size_alloc] at this
  have hk0' : w1.heap[w.heap.size]? = some (.cells #[.slice A ps.length c] 55 (0, 0)) := (hbl1.block _ (by omega)).trans hk0
  have hk1' : w1.heap[w.heap.size + 1]? = some (.cells #[.bool false] 4 (0, 0)) := (hbl1.block _ (by omega)).trans hk1
  have c0 := blk_cell hk0'
  have HK := Lib.hid (And.intro hk0' hk1')
  clear hk0 hk1 hk0' hk1' hW0
  go_wp2_with fail
  have hfn := all_not_nil Bs
  go_quiet ((go_at_call 35; exact quiet_left (loglen_ok _ _ b ps (hlog1.drewN _))))
  obtain ⟨w2, hw2⟩ : ∃ w2, w1.drewN nq = w2 := ⟨_, rfl⟩
  rw [hw2]
  have hq : Only (fun _ => False) w1 w2 := by rw [← hw2]; exact (Only.refl _ _).drewN _
  have hbl2 : Below W0.heap.size W0 w2 := hbl1.trans (by have := hq.below (fun _ _ h => h); exact this.mono hbl1.size)
  have hk2 := hq.heap HK.out.1 id
  have hk2' := hq.heap HK.out.2 id
  have hrr2 := hrr1.only hq (fun _ _ => id)
  have hlog2 := hlog1.only hq (fun _ _ => id)
  have hrows2 := hrows.only hq (fun _ _ => id)
  have hcB2 := hq.cell hcB id
  have HR2 := Lib.hid (And.intro hk2 (And.intro hk2' (And.intro hrr2 (And.intro hlog2 (And.intro hrows2 hcB2)))))
  clear hk2 hk2' hrr2 hlog2 hrows2 hcB2 hw2 hq hlog1 hrr1 hrows hcB c0 HK hbl1 hrr0 hlog0 hfn H
  go_wp2_with fail
  obtain ⟨w3, hw3⟩ : ∃ w3, w2.alloc (.cells #[.int .i64 0] 3) = w3 := ⟨_, rfl⟩
  rw [hw3]
  have hq3 : Only (fun _ => False) w2 w3 := by rw [← hw3]; exact (Only.refl _ _).alloc _
  have hsz3 : w3.heap.size = w2.heap.size + 1 := by rw [← hw3]; simp
  have hnb : w3.heap[w2.heap.size]? = some (.cells #[.int .i64 0] 3 (0, 0)) := by rw [← hw3]; exact heap_alloc_new _ _
  have hrr3 := (HR2.out.2.2.2.2.1.bound).only hq3 (fun _ _ => id)
  have hcB3 := hq3.cell HR2.out.2.2.2.2.2 id
  have hBs2 : Bs < w2.heap.size := World.block_lt_of_cell? w2 _ HR2.out.2.2.2.2.2
  have hsz2 := hbl2.size
  refine range_law2 (fun t v0 v1 => (t.setIfInBounds 7 v0).setIfInBounds 8 v1) rfl (enters_of Tryz.func65 (by kernel_rfl) rfl) (all_seq w3 _ Bs v1 ps hpl ⟨.inr hBs, hBs2⟩ hcB3 hrr3) (fun k hk => by omega) (logPre_only ps)
    (fun pre U W => U = (fun k => k = w2.heap.size) ∧ Only (fun k => k = w2.heap.size) w3 W ∧ W.heap[w2.heap.size]? = some (.cells #[.int .i64 pre.length] 3 (0, 0)))
    (fun _ _ _ _ => False) ?hJ (fun _ => Stable.none _) (fun k => k = w2.heap.size) ⟨rfl, Only.refl _ _, hnb⟩ (fun k hk e => by omega) ?hassign ?hbody ?hdone ?hstop
  case hJ =>
    refine ⟨?_, ?_⟩
    · rintro pre U A ⟨rfl, _, h⟩ k rfl
      exact (Array.getElem?_eq_some_iff.1 h).1
    · rintro pre U A B S' ⟨rfl, ho, h⟩ hS hd
      exact ⟨rfl, ho.trans hS (fun i hi hs => by have := (hd i hs).1; omega), hS.heap h (fun hs => (hd _ hs).2 rfl)⟩
  case hassign =>
    intro l v0 v1' W K hK
    gi_wp2
    exact hK
  case hbody =>
    rintro l pre x v0 v1' U W ⟨rfl, ho, hn⟩ ⟨rfl, A', c', F', rfl, hpx, hpre, hrd, hdis⟩
    have hlt : pre.length < ps.length := (List.getElem?_eq_some_iff.1 hpx).1
    have hcl : W.cell? ⟨w.heap.size, 0, none⟩ = some (.slice A ps.length c) := ho.cell (hq3.cell (blk_cell HR2.out.1) id) (by show ¬ w.heap.size = w2.heap.size; omega)
    have hcn := blk_cell hn
    have hfn := blk_frozen hn
    have hrl : RowsRd W (fun k => G k ∧ k < w.heap.size) (.slice A ps.length c) ps := (HR2.out.2.2.1.only hq3 (fun _ _ => id)).only ho (fun k hk e => by omega)
    obtain ⟨A0, c0, he, _, _, hat⟩ := hrl.at_
    injection he with e1 _ e3
    subst e1 e3
    obtain ⟨bb, oo, A2, c2, rfl, hcell, hrd2⟩ := hat pre.length x hpx
    have HRD := Lib.hid (And.intro hrd hrd2)
    have hge : decide ((ps.length : Int) ≤ (pre.length : Int)) = false := by simp; omega
    unfold maxLen at hm
    have HH := Lib.hid (And.intro ho hn)
    clear hrd hrd2 hat hrl hpx hpre hdis hn ho
    simp only [List.setIfInBounds_toArray, List.set_cons_zero, List.set_cons_succ]
    gi_wp2_with (refine ⟨trivial, ?_⟩; gi_at_call 15; refine (CallsIn.inRound l (callsIn_wide.2 (law_bytes _ _ _ _ _ x HRD.out.1 HRD.out.2))).mono ?_; rintro e W1 ⟨rfl, hblW⟩; have hcn1 := (hblW.cell (p := ⟨w2.heap.size, 0, none⟩) (World.block_lt_of_cell? _ _ hcn)).trans hcn; have hfn1 := (hblW.frozen (p := ⟨w2.heap.size, 0, none⟩) (World.block_lt_of_cell? _ _ hcn)).trans hfn)
    have ho2 : Only (fun k => k = w2.heap.size) W (W1.setCell ⟨w2.heap.size, 0, none⟩ (.int .i64 ((pre.length : Int) + 1))) :=
      (Only.of_below hblW (fun k => k = w2.heap.size)).setCell (p := ⟨w2.heap.size, 0, none⟩) (fun _ => rfl) _
    have hn1 := (Only.of_below hblW (fun _ => False)).heap HH.out.2 id
    refine ⟨_, ⟨rfl, HH.out.1.trans ho2 (fun _ _ h => h), ?_⟩, ho2, Grow.refl _ _⟩
    simp [World.setCell, Array.getElem?_modify, hn1]
  case hdone =>
    rintro D xs U W hD hUD rfl ⟨rfl, ho, hn⟩ - - hK
    have hcl : W.cell? ⟨w.heap.size, 0, none⟩ = some (.slice A xs.length c) := ho.cell (hq3.cell (blk_cell HR2.out.1) id) (by show ¬ w.heap.size = w2.heap.size; omega)
    have hrl : RowsRd W (fun k => G k ∧ k < w.heap.size) (.slice A xs.length c) xs := (HR2.out.2.2.1.only hq3 (fun _ _ => id)).only ho (fun k hk e => by omega)
    have hlg : LogAt W (fun k => F k ∧ k < w.heap.size) b xs := (HR2.out.2.2.2.1.only hq3 (fun _ _ => id)).only ho (fun k hk e => by omega)
    have hres : W.heap[w.heap.size + 1]? = some (.cells #[.bool false] 4 (0, 0)) := ho.heap (hq3.heap HR2.out.2.1 id) (by show ¬ w.heap.size + 1 = w2.heap.size; omega)
    have hcn := blk_cell hn
    have HX := Lib.hid (And.intro hrl (And.intro hlg (And.intro hres (And.intro hK hn))))
    have hblW : Below w.heap.size w W := by
      have a1 : Below w.heap.size w w2 := hbl0.trans (hbl2.mono (by omega))
      have a2 : Below w.heap.size w2 w3 := (hq3.below (fun _ _ h => h)).mono (by omega)
      exact (a1.trans a2).trans (ho.belowN (by omega) (fun k hk e => by omega))
    clear hrl hlg hres hK hn HR2 hcB3 hrr3 hnb hq3 hw3
    unfold maxLen at hm
    go_wp2_with fail
    go_loopw [9] (fun v wr => ∃ i : Int, -1 ≤ i ∧ i ≤ xs.length + 1 ∧ v = .int .i64 i ∧ Below W.heap.size W wr) (fun v _ => (xs.length + 1 - intOf v).toNat)
    case atStart => exact ⟨-1, by omega, by omega, rfl, Below.refl _ _⟩
    case round =>
      obtain ⟨i, hi1, hi2, rfl, hbl⟩ := hrel
      have hcl' : wr.cell? ⟨w.heap.size, 0, none⟩ = some (.slice A xs.length c) := (hbl.cell (p := ⟨w.heap.size, 0, none⟩) (World.block_lt_of_cell? W _ hcl)).trans hcl
      have hlg' := HX.out.2.1.below hbl
      by_cases hneg : i < 0
      · have hd : decide (i < 0) = true := by simpa using hneg
        go_wp2_with fail
        refine (at_out wr _ b xs hlg' i (by omega)).mono ?_
        rintro e w4 ⟨rfl, rfl⟩
        go_wp2_with fail
        go_roundw
        case rel => exact ⟨i + 1, by omega, by omega, rfl, hbl⟩
        case measure => simp [intOf]; omega
      · have hd : decide (i < 0) = false := by simpa using hneg
        by_cases hlt : i < xs.length
        · obtain ⟨n, rfl⟩ := Int.eq_ofNat_of_zero_le (by omega : 0 ≤ i)
          obtain ⟨x, hx⟩ : ∃ x, xs[n]? = some x := ⟨_, List.getElem?_eq_getElem (by omega)⟩
          have hxl := hpl x (List.mem_of_getElem? hx)
          have hge : decide ((xs.length : Int) ≤ (n : Int)) = false := by simp; omega
          obtain ⟨A0, c0, he, _, _, hat⟩ := HX.out.1.at_
          injection he with e1 _ e3
          subst e1 e3
          obtain ⟨bb, oo, A2, c2, rfl, hcell, hrd2⟩ := hat n x hx
          have HRD := Lib.hid (And.intro hrd2 hx)
          clear hat hrd2 hx
          go_wp2_with fail
          refine (at_ok wr _ b xs hlg' n x HRD.out.2 hxl).mono ?_
          rintro e w4 ⟨Ax, cx, rfl, hown, hbl4⟩
          have hbl5 : Below W.heap.size W w4 := hbl.trans (hbl4.mono hbl.size)
          have hcl4 : w4.cell? ⟨w.heap.size, 0, none⟩ = some (.slice (some ⟨bb, oo, none⟩) xs.length c) := (hbl5.cell (p := ⟨w.heap.size, 0, none⟩) (World.block_lt_of_cell? W _ hcl)).trans hcl
          have hcell4 : w4.cell? ⟨bb, oo + n, none⟩ = some (.slice A2 x.length c2) := (hbl5.cell (p := ⟨bb, oo + n, none⟩) (World.block_lt_of_cell? W _ hcell)).trans hcell
          have hrd4 := HRD.out.1.below hbl5
          have hrd5 : Rd w4 (fun _ => True) (.slice Ax x.length cx) (x.map B8) := Rd.of_own hown (fun _ _ => trivial)
          have HR4 := Lib.hid (And.intro hrd4 hrd5)
          clear hrd4 hrd5
          go_wp2_with fail
          refine (law_bytes w4 _ _ _ _ x HR4.out.2 HR4.out.1).mono ?_
          rintro e w6 ⟨rfl, hbl6⟩
          go_wp2_with fail
          go_roundw
          case rel => exact ⟨(n : Int) + 1, by omega, by omega, rfl, hbl5.trans (hbl6.mono hbl5.size)⟩
          case measure => simp [intOf]; omega
        · have hge : decide ((xs.length : Int) ≤ i) = true := by simp; omega
          by_cases hlast : i = xs.length
          · subst hlast
            go_wp2_with fail
            refine (at_out wr _ b xs hlg' xs.length (by omega)).mono ?_
            rintro e w4 ⟨rfl, rfl⟩
            go_wp2_with fail
            go_roundw
            case rel => exact ⟨xs.length + 1, by omega, Int.le_refl _, rfl, hbl⟩
            case measure => simp [intOf]
          · obtain rfl : i = xs.length + 1 := by omega
            have hcn' : wr.cell? ⟨w2.heap.size, 0, none⟩ = some (.int .i64 xs.length) := (hbl.cell (p := ⟨w2.heap.size, 0, none⟩) (World.block_lt_of_cell? W _ hcn)).trans hcn
            have hres' : wr.heap[w.heap.size + 1]? = some (.cells #[.bool false] 4 (0, 0)) := (hbl.block _ (Array.getElem?_eq_some_iff.1 HX.out.2.2.1).1).trans HX.out.2.2.1
            have hrc := blk_cell hres'
            have hrf := blk_frozen hres'
            have HRS := Lib.hid hres'
            clear hres'
            go_wp2_with fail
            have hne : w.heap.size + 1 ≠ D := by omega
            have hKr : wr.heap[D]? = some (.deferred (some [])) := (hbl.block _ (Array.getElem?_eq_some_iff.1 HX.out.2.2.2.1).1).trans HX.out.2.2.2.1
            have hK2 : (wr.setCell ⟨w.heap.size + 1, 0, none⟩ (.bool true)).heap[D]? = some (.deferred (some [])) := (Below.heap_setCell _ _ _ _ (Ne.symm hne)).trans hKr
            have hc2 : ((wr.setCell ⟨w.heap.size + 1, 0, none⟩ (.bool true)).putObj D (.deferred none)).cell? ⟨w.heap.size + 1, 0, none⟩ = some (.bool true) := by
              rw [World.cell?_of_block (World.putObj_heap_other hne)]
              exact World.cell?_setCell_same' _ _ _ (by rw [hrc]; rfl)
            refine leave_mark (v := .bool true) hK2 (by simp [results, Tryz.results27, go_sem, hc2]) ⟨rfl, ?_⟩
            have b1 : Below w.heap.size w wr := hblW.trans (hbl.mono hblW.size)
            exact (b1.setCell (p := ⟨w.heap.size + 1, 0, none⟩) (by simp) _).trans (((Only.putObj _ D _).belowN (by have := b1.size; simp [World.setCell]; omega) (fun k hk e => by omega)))
  case hstop =>
    intro D c' pre U W _ _ _ h
    exact h.elim
end Go.Proofs.YtihjcfifakcpgaaGreatDoor
