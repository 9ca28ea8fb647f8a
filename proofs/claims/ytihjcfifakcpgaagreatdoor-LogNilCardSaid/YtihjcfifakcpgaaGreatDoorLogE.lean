/- A log's bytes, and the chapter's example. -/
import Derived.Test.YtihjcfifakcpgaaGreatDoorLogC
import Derived.Test.YtihjcfifakcpgaaGreatDoorFld
namespace Go.Proofs.YtihjcfifakcpgaaGreatDoor
set_option maxRecDepth 100000
open Go.RowKit Go.Shelf

attribute [local go_sem] Oper.semAt_some

theorem WrAt.only {w w' : World} {F S : Nat → Prop} {b : Nat} {bs : List UInt8} (h : WrAt w F b bs) (ho : Only S w w') (hd : ∀ k, F k → ¬ S k) : WrAt w' F b bs := by
  obtain ⟨v, h1, h2, h3, h4⟩ := h
  exact ⟨v, ho.heap h1 (hd b h2), h2, own_only h3 ho (fun g hg => hd g (h4 g hg)), h4⟩
theorem WrAt.bound {w : World} {F : Nat → Prop} {b : Nat} {bs : List UInt8} (h : WrAt w F b bs) : WrAt w (fun k => F k ∧ k < w.heap.size) b bs := by
  obtain ⟨v, h1, h2, h3, h4⟩ := h
  exact ⟨v, h1, ⟨h2, (Array.getElem?_eq_some_iff.1 h1).1⟩, h3, fun g hg => ⟨h4 g hg, (h3.lt g hg).2⟩⟩

theorem WrAt.eq {w : World} {F : Nat → Prop} {b : Nat} {bs cs : List UInt8} (h : WrAt w F b bs) (e : bs = cs) : WrAt w F b cs := e ▸ h

set_option maxRecDepth 100000 in
set_option maxHeartbeats 2000000 in
theorem logbytes_ok (w : World) (F : Nat → Prop) (b : Nat) (ps : List (List UInt8)) (h : LogAt w F b ps) (hlen : ps.length ≤ 1024) (hpl : ∀ p ∈ ps, p.length ≤ 8192) :
    Calls Tryz.prog 28 #[.pointer (some ⟨b, 0, none⟩)] w (Fresh 5 ((logB ps).map B8) w) := by
  obtain ⟨A, c, hc, hrr⟩ := h.at_
  have hb := h.lt
  have H := Lib.hid h.bound
  clear h hrr
  refine calls_marks Tryz.func28 rfl ?_
  simp only [Tryz.ntmps28, List.size_toArray, List.length_cons, List.length_nil, Nat.reduceAdd, Nat.reduceSub, Array.replicate_succ, Array.replicate_zero, List.push_toArray, List.append_toArray, List.nil_append, List.cons_append]
  have hc1 : (w.alloc (.cells #[.slice none 0 0] 77)).cell? ⟨b, 0, none⟩ = some (.slice A ps.length c) := cell_alloc_any hc _
  go_wp2_with fail
  obtain ⟨W0, hW0⟩ : ∃ W0, w.alloc (.cells #[.slice none 0 0] 77) = W0 := ⟨_, rfl⟩
  rw [hW0]
  have hbl0 : Below w.heap.size w W0 := by rw [← hW0]; exact (Below.refl _ _).alloc (Nat.le_refl _) _
  have hsz0 : W0.heap.size = w.heap.size + 1 := by rw [← hW0]; simp
  have hwr0 : WrAt W0 (fun k => k = w.heap.size) w.heap.size [] := by
    rw [← hW0]
    exact ⟨.slice none 0 0, heap_alloc_new _ _, rfl, World.ownsRow_nil _ _ _ _, fun g hg => by simp [Value.ownBlock] at hg⟩
  refine (uint_ok W0 _ _ _ hwr0 ps.length (by omega) (by simp)).mono ?_
  rintro e w1 ⟨rfl, ho1, F1, hwr1, hF1⟩
  have hlog1 := (H.out.below hbl0).only ho1 (fun k hk e => by omega)
  have hsz1 := ho1.size
  go_wp2_with fail
  refine (all_ok w1 _ b ps hlog1 hlen).mono ?_
  rintro e w2 ⟨Bs, v1, rfl, hbl2, hBs, hcB, hrows⟩
  go_wp2_with fail
  have hBs2 : Bs < w2.heap.size := World.block_lt_of_cell? w2 _ hcB
  have hsz2 := hbl2.size
  have hwr2 : WrAt w2 (fun k => F1 k ∧ k < w1.heap.size) w.heap.size (leb ps.length ++ textsB []) := by
    have := hwr1.bound.only (Only.of_below hbl2 fun _ => False) (fun _ _ => id)
    simpa [textsB] using this
  refine range_law2 (fun t _ v1 => t.setIfInBounds 5 v1) rfl (enters_of Tryz.func65 (by kernel_rfl) rfl) (all_seq w2 _ Bs v1 ps hpl ⟨.inr hBs, hBs2⟩ hcB hrows.bound) (fun k hk => hk.2) (logPre_only ps)
    (fun pre U W => WrAt W U w.heap.size (leb ps.length ++ textsB pre) ∧ (∀ k, U k → k < W.heap.size) ∧ pre <+: ps)
    (fun _ _ _ _ => False) ?hJ (fun _ => Stable.none _) (fun k => F1 k ∧ k < w1.heap.size) ⟨hwr2, fun k hk => by omega, by simp⟩ (fun k hk hu => by have := hF1 k hu.1; omega) ?hassign ?hbody ?hdone ?hstop
  case hJ =>
    refine ⟨fun pre U A h => h.2.1, ?_⟩
    rintro pre U A B S' ⟨hw, hlt, hpre⟩ hS hd
    exact ⟨hw.only hS (fun k hk hs => (hd k hs).2 hk), fun k hk => by have := hlt k hk; have := hS.size; omega, hpre⟩
  case hassign =>
    intro l v0 v1' W K hK
    gi_wp2
    exact hK
  case hstop =>
    intro D c' pre U W _ _ _ h
    exact h.elim
  case hbody =>
    rintro l pre x v0 v1' U W ⟨hwr, hUlt, hpre⟩ ⟨rfl, A', c', F', rfl, hpx, hpt, hrd, hdis⟩
    have hxl := hpl x (List.mem_of_getElem? hpx)
    have hcv := conv_rd (P := Tryz.prog) 31 9 5 Tryz.underlying31 Tryz.underlying5 Tryz.underlying9 hrd
    have hl1 : (leb ps.length ++ textsB pre).length ≤ 1000000000 := by
      have h1 := textsB_length pre (fun p hp => hpl p (hpre.subset hp))
      have h2 := hpre.length_le
      have h3 := leb_length ps.length
      simp
      omega
    have hpre2 : pre ++ [x] <+: ps := by
      have hq : pre ++ [x] = ps.take (pre.length + 1) := by
        rw [List.take_add_one, hpx]
        conv => lhs; rw [hpt]
        simp
      rw [hq]; exact List.take_prefix _ _
    have hsx : (⟨x.toArray⟩ : ByteArray).size = x.length := by simp [ByteArray.size]
    have HX := Lib.hid (And.intro hwr (And.intro hl1 (And.intro hpre2 (And.intro hUlt hsx))))
    clear hwr hl1 hpre2 hUlt hpre hpx hpt hrd hdis hsx
    simp only [List.setIfInBounds_toArray, List.set_cons_zero, List.set_cons_succ]
    gi_wp2_with (refine ⟨trivial, ?_⟩; gi_at_call 42; refine (CallsIn.inRound l (callsIn_wide.2 (text_ok W U _ _ HX.out.1 ⟨x.toArray⟩ (by rw [HX.out.2.2.2.2]; omega) HX.out.2.1))).mono ?_; rintro e W1 ⟨rfl, hoW, F2, hwr2, hF2⟩)
    refine ⟨_, ⟨hwr2.bound.eq (by rw [HX.out.2.2.2.2]; simp [textsB, textB]), fun k hk => hk.2, HX.out.2.2.1⟩, hoW, fun k hk => hF2 k hk.1⟩
  case hdone =>
    rintro D xs U W hD hUD rfl ⟨hwr, hUlt, hpre⟩ ho hg hK
    have hl1 : (logB xs).length ≤ 1000000000 := by
      have h1 := textsB_length xs hpl
      have h3 := leb_length xs.length
      simp [logB]
      omega
    have HX := Lib.hid (And.intro hwr (And.intro ho (And.intro hg hK)))
    clear hwr hUlt hpre ho hg hK
    go_wp2_with fail
    refine (wbytes_ok W U _ _ HX.out.1 hl1).mono ?_
    rintro e W1 ⟨Ax, cx, rfl, hx, hbl⟩
    have hn0 : (List.map B8 (logB xs)).length = (List.map B8 (leb xs.length ++ textsB xs)).length := rfl
    generalize hn : (List.map B8 (leb xs.length ++ textsB xs)).length = n at *
    have HY := Lib.hid (And.intro hx (And.intro hbl hn0))
    clear hx hbl hn hn0
    go_wp2_with fail
    have hKr : W1.heap[D]? = some (.deferred (some [])) := (HY.out.2.1.block _ (Array.getElem?_eq_some_iff.1 HX.out.2.2.2).1).trans HX.out.2.2.2
    refine leave_mark (v := .slice Ax n cx) hKr (by simp [results, Tryz.results28, go_sem]) ⟨Ax, cx, by rw [HY.out.2.2], ?_, ?_⟩
    · rw [HY.out.2.2]
      have h1 := HY.out.1.kept (grownBy_putObj' W1 D (.deferred none)) (by
        cases hA : (Value.slice Ax n cx).ownBlock with
        | none => exact .inl rfl
        | some k =>
          refine .inr (fun e => ?_)
          injection e with e
          subst e
          have := (HY.out.1.lt _ hA).1
          have := (Array.getElem?_eq_some_iff.1 HX.out.2.2.2).1
          omega)
      exact own_base h1 (fun g hg => by
        have := (HY.out.1.lt _ hg).1
        have := HX.out.2.1.size
        omega)
    · have a1 : Below w.heap.size w w1 := hbl0.trans (ho1.belowN (by omega) (fun k hk e => by omega))
      have a2 : Below w.heap.size w w2 := a1.trans (hbl2.mono (by omega))
      have a3 : Below w.heap.size w W := a2.trans (HX.out.2.1.belowN (by omega) (fun k hk e => by have := hF1 k e.1; omega))
      have a4 : Below w.heap.size w W1 := a3.trans (HY.out.2.1.mono (by have := a3.size; omega))
      exact a4.trans ((Only.putObj W1 D (.deferred none)).belowN (by have := a4.size; omega) (fun k hk e => by omega))

theorem awake_rows (w : World) : RowsRd (w.alloc (.cells #[.slice none 0 0] 31)) (fun k => k = w.heap.size) (.slice (some ⟨w.heap.size, 0, none⟩) 1 1) [[]] := by
  refine ⟨[.slice none 0 0], ⟨_, 1, 1, rfl, rfl, Nat.le_refl _, by simp [maxLen], fun _ => ⟨w.heap.size, 0, rfl, rfl, fun j u hj => ?_⟩⟩, rfl, fun i p hp => ?_⟩
  · have hj0 : j = 0 := by have := (List.getElem?_eq_some_iff.1 hj).1; simp at this; omega
    subst hj0
    simp at hj
    subst hj
    exact blk_cell (heap_alloc_new w _)
  · have hi0 : i = 0 := by have := (List.getElem?_eq_some_iff.1 hp).1; simp at this; omega
    subst hi0
    simp at hp
    subst hp
    exact ⟨none, 0, rfl, Rd.nil _ _⟩

theorem rd_two (w : World) (x y : UInt8) : Rd (w.alloc (.cells #[B8 x, B8 y] 5)) (fun _ => True) (.slice (some ⟨w.heap.size, 0, none⟩) 2 2) ([x, y].map B8) := by
  refine ⟨_, 2, 2, rfl, rfl, Nat.le_refl _, by simp [maxLen], fun _ => ⟨w.heap.size, 0, rfl, trivial, fun j u hj => ?_⟩⟩
  have h := heap_alloc_new w (.cells #[B8 x, B8 y] 5)
  match j, hj with
  | 0, hj => simp at hj; subst hj; rw [cell_of_row _ _ _ _ _ _ h]; rfl
  | 1, hj => simp at hj; subst hj; rw [cell_of_row _ _ _ _ _ _ h]; rfl

theorem logB_awake : logB [[]] = [1, 0] := by decide

theorem awake14_ok (w : World) : Calls Tryz.prog 25 #[] w fun e w' => e = .returned (.bool true) ∧ Below w.heap.size w w' := by
  have hrows := awake_rows w
  go_enter Tryz.func25, Tryz.ntmps25
  go_wp2_with fail
  refine (log_new _ _ _ _ hrows (fun k hk => by subst hk; simp) (by simp)).mono ?_
  rintro e w1 ⟨hbl1, hP⟩
  rw [if_pos (by simp)] at hP
  obtain ⟨b, rfl, hlog⟩ := hP
  go_wp2_with fail
  refine (logbytes_ok w1 _ b _ hlog (by simp) (by simp)).mono ?_
  rintro e w2 ⟨Ax, cx, rfl, hx, hbl2⟩
  rw [logB_awake] at hx ⊢
  have HX := Lib.hid (And.intro hx (And.intro hbl1 hbl2))
  clear hx hbl1 hbl2 hlog hrows
  go_wp2_with fail
  have hra : Rd (w2.alloc (.cells #[B8 1, B8 0] 5)) (fun _ => True) (.slice Ax 2 cx) ([1, 0].map B8) := (Rd.of_own (F := fun _ => True) HX.out.1 (fun _ _ => trivial)).below ((Below.refl _ _).alloc (Nat.le_refl _) _)
  refine (law_bytes _ _ _ _ _ [1, 0] hra (rd_two w2 1 0)).mono ?_
  rintro e w3 ⟨rfl, hbl3⟩
  have hbl : Below w.heap.size w w3 := by
    have a1 : Below w.heap.size w w1 := ((Below.refl _ w).alloc (Nat.le_refl _) _).trans (HX.out.2.1.mono (by simp))
    have a2 : Below w.heap.size w w2 := a1.trans (HX.out.2.2.mono a1.size)
    exact (a2.alloc a2.size _).trans (hbl3.mono (by have := a2.size; simp; omega))
  go_wp2_with fail
  go_ret
  exact ⟨rfl, hbl⟩

end Go.Proofs.YtihjcfifakcpgaaGreatDoor
