/- breviaryref10's row of footprints: At, Waits, Ready, Put, Out. -/
import Derived.Test.YtihjcfifakcpgaaLockQ
import Derived.Test.YtihjcfifakcpgaaRefG
namespace Go.Proofs.Ytihjcfifakcpgaa
open Go.RowKit

/-- A number and its claims' slice, as cells. -/
def oc (x : Int × Value) : List Value := [.int .i64 x.1, x.2]
theorem oc_len (xs : List (Int × Value)) : ∀ x ∈ xs.map oc, x.length = 2 := by
  intro x hx
  obtain ⟨y, _, rfl⟩ := List.mem_map.1 hx
  rfl
/-- The parts of a row. -/
structure RowIn (w : World) (F C : Nat → Prop) (b : Nat) (sm : Bool) (la : Int) (l : List Ent) (lv : Value) (xs : List (Int × Value)) : Prop where
  blk : w.heap[b]? = some (.cells #[lv, .int .i64 la, .bool sm] 30 (0, 0))
  own : w.ownsRow 0 74 2 lv l.length (xs.map oc).flatten
  xl : xs.map (·.1) = nums l
  feet : ∀ (i : Nat) (e : Ent) (x : Int × Value), l[i]? = some e → xs[i]? = some x → ∃ A c, x.2 = .slice A e.2.length c ∧ ClRd w C (.slice A e.2.length c) e.2 ∧ e.2.length ≤ 64 ∧ Good e.2
  fb : F b
  fl : ∀ k, lv.ownBlock = some k → F k
  flt : ∀ k, F k → k < w.heap.size
  clt : ∀ k, C k → k < w.heap.size ∧ ¬ F k
  i64 : ∀ e ∈ l, I64 e.1
/-- A row of the reference. -/
def RowAt (w : World) (F C : Nat → Prop) (b : Nat) (sm : Bool) (la : Int) (l : List Ent) : Prop := ∃ lv xs, RowIn w F C b sm la l lv xs
section
variable {w w' : World} {F C S : Nat → Prop} {b : Nat} {sm : Bool} {la : Int} {l : List Ent} {lv : Value} {xs : List (Int × Value)}
theorem RowIn.only (h : RowIn w F C b sm la l lv xs) (ho : Only S w w') (hF : ∀ k, F k → ¬ S k) (hC : ∀ k, C k → ¬ S k) : RowIn w' F C b sm la l lv xs where
  blk := ho.heap h.blk (hF _ h.fb)
  own := own_only h.own ho (fun g hg => hF _ (h.fl g hg))
  xl := h.xl
  feet := fun i e x he hx => let ⟨A, c, h1, h2, h3⟩ := h.feet i e x he hx; ⟨A, c, h1, RdK.only h2 ho hC, h3⟩
  fb := h.fb
  fl := h.fl
  flt := fun k hk => Nat.lt_of_lt_of_le (h.flt k hk) ho.size
  clt := fun k hk => ⟨Nat.lt_of_lt_of_le (h.clt k hk).1 ho.size, (h.clt k hk).2⟩
  i64 := h.i64
theorem RowIn.below (h : RowIn w F C b sm la l lv xs) (hb : Below w.heap.size w w') : RowIn w' F C b sm la l lv xs := h.only (Only.of_below hb (fun _ => False)) (fun _ _ => id) (fun _ _ => id)
theorem RowIn.cells (h : RowIn w F C b sm la l lv xs) : w.cell? ⟨b, 0, none⟩ = some lv ∧ w.cell? ⟨b, 1, none⟩ = some (.int .i64 la) ∧ w.cell? ⟨b, 2, none⟩ = some (.bool sm) := by
  have hb := h.blk
  simp [World.cell?, hb]
theorem RowIn.xlen (h : RowIn w F C b sm la l lv xs) : xs.length = l.length := by
  have := congrArg List.length h.xl
  simpa [nums] using this
theorem RowIn.at_ {A : Option Addr} {m c : Nat} (h : RowIn w F C b sm la l (.slice A m c) xs) {k : Nat} {e : Ent} (he : l[k]? = some e) :
    ∃ g A' c', A = some ⟨g, 0, none⟩ ∧ w.cell? ⟨g, k * 2, none⟩ = some (.int .i64 e.1) ∧ w.cell? ⟨g, k * 2 + 1, none⟩ = some (.slice A' e.2.length c') ∧ ClRd w C (.slice A' e.2.length c') e.2 ∧ e.2.length ≤ 64 ∧ Good e.2 := by
  have hlt := (List.getElem?_eq_some_iff.1 he).1
  have hxl := h.xlen
  obtain ⟨x, hx⟩ : ∃ x, xs[k]? = some x := ⟨_, List.getElem?_eq_getElem (by omega)⟩
  have hx1 : x.1 = e.1 := by
    have h1 : (xs.map (·.1))[k]? = some x.1 := by simp [hx]
    rw [h.xl] at h1
    simp [nums, he] at h1
    exact h1.symm
  obtain ⟨A', c', h1, h2, h3⟩ := h.feet k e x he hx
  obtain ⟨g, cap, hv, hg0, hgl⟩ := h.own.form (by omega)
  injection hv with e1 e2 e3
  subst e1 e2 e3
  have hf := flat_at (oc_len xs) k (oc x) (by simp [hx])
  refine ⟨g, A', c', rfl, ?_, ?_, h2, h3⟩
  · have := hf 0 _ rfl
    have hc := h.own.cellAt (k * 2) (show k * 2 < l.length * 2 by omega)
    rw [hc, ← hx1]
    simpa using this
  · have := hf 1 _ rfl
    have hc := h.own.cellAt (k * 2 + 1) (show k * 2 + 1 < l.length * 2 by omega)
    rw [hc, ← h1]
    simpa using this
end

/-- What At answers. -/
def AtP (l : List Ent) (id : Int) (w : World) (e : Ending) (w' : World) : Prop := w = w' ∧ ((∃ (k : Nat) (f : List Cl), l[k]? = some (id, f) ∧ e = .returned (.int .i64 (k : Int))) ∨ (id ∉ nums l ∧ e = .returned (.int .i64 (-1))))

set_option maxRecDepth 100000 in
theorem rat_ok (w : World) (F C : Nat → Prop) (b : Nat) (sm : Bool) (la : Int) (l : List Ent) (id : Int) (h : RowAt w F C b sm la l) (hl : l.length ≤ 100000) :
    Calls Try.prog 14 #[.pointer (some ⟨b, 0, none⟩), .int .i64 id] w (AtP l id w) := by
  obtain ⟨lv, xs, h⟩ := h
  obtain ⟨A, c, rfl⟩ := ownsRow_slice h.own
  obtain ⟨q0, _, _⟩ := h.cells
  have H := Lib.hid h
  clear h
  go_enter Try.func14, Try.ntmps14
  go_wp2_with fail
  go_loop [5] (fun i => ∃ k : Nat, k ≤ l.length ∧ i = .int .i64 (k : Int) ∧ id ∉ nums (l.take k)) (fun i => l.length - (intOf i).toNat)
  case atStart => exact ⟨0, Nat.zero_le _, rfl, by simp [nums]⟩
  case round =>
    obtain ⟨k, hk, rfl, hal⟩ := hrel
    have HAL := Lib.hid hal
    clear hal
    by_cases hlt : k < l.length
    · obtain ⟨e, he⟩ : ∃ e, l[k]? = some e := ⟨_, List.getElem?_eq_getElem hlt⟩
      obtain ⟨g, A', c', rfl, c0, _, _, _⟩ := H.out.at_ he
      have HE := Lib.hid he
      clear he
      by_cases hid : e.1 = id
      · go_wp2_with fail
        go_ret
        exact ⟨rfl, .inl ⟨k, e.2, by rw [HE.out, ← hid], rfl⟩⟩
      · go_wp2_with fail
        go_round
        case rel =>
          refine ⟨k + 1, by omega, by go_num, ?_⟩
          rw [List.take_add_one, HE.out]
          intro hh
          unfold nums at hh
          rw [List.map_append] at hh
          rcases List.mem_append.1 hh with hh | hh
          · exact HAL.out hh
          · simp at hh; exact hid hh.symm
        case measure => simp [intOf]; omega
    · have hkl : k = l.length := by omega
      subst hkl
      go_wp2_with fail
      go_ret
      exact ⟨rfl, .inr ⟨by have := HAL.out; rw [List.take_length] at this; exact this, rfl⟩⟩

theorem waits_take {l : List Ent} (hr : Rise l) {k : Nat} {e : Ent} (he : l[k]? = some e) : ((nums l).take k).filter (wtB l e.1) = waits l e.1 := by
  unfold waits
  have h1 : nums l = (nums l).take k ++ (nums l).drop k := (List.take_append_drop k _).symm
  have h2 : ((nums l).drop k).filter (wtB l e.1) = [] := by
    rw [List.filter_eq_nil_iff]
    intro j hj hh
    obtain ⟨_, _, _, _, hlt, _⟩ := wtB_true.1 hh
    obtain ⟨i, hi, rfl⟩ := List.getElem_of_mem hj
    rw [List.getElem_drop] at hlt
    have hk := List.getElem?_eq_some_iff.1 he
    simp [nums] at hi hlt
    by_cases h0 : i = 0
    · subst h0
      simp [hk.2] at hlt
    · have := List.pairwise_iff_getElem.1 hr k (k + i) hk.1 (by omega) (by omega)
      rw [hk.2] at this
      omega
  conv => rhs; rw [h1, List.filter_append, h2, List.append_nil]
theorem wt_at {l : List Ent} (hr : Rise l) {i k : Nat} {x e : Ent} (hx : l[i]? = some x) (he : l[k]? = some e) (hik : i < k) : wtB l e.1 x.1 = cfB x.2 e.2 := by
  rw [wtB_eq (ftOf_at hr he) (ftOf_at hr hx)]
  have h1 := List.getElem?_eq_some_iff.1 hx
  have h2 := List.getElem?_eq_some_iff.1 he
  have := List.pairwise_iff_getElem.1 hr i k h1.1 h2.1 hik
  rw [h1.2, h2.2] at this
  simp [this]

set_option maxRecDepth 100000 in
set_option maxHeartbeats 1000000 in
theorem rwaits_ok (w : World) (F C : Nat → Prop) (b : Nat) (sm : Bool) (la : Int) (l : List Ent) (n : Nat) (e : Ent) (h : RowAt w F C b sm la l) (hl : l.length ≤ 100000) (hr : Rise l) (he : l[n]? = some e) :
    Calls Try.prog 16 #[.pointer (some ⟨b, 0, none⟩), .int .i64 (n : Int)] w fun e' w' => ∃ v, e' = .returned v ∧ FreshI (waits l e.1) w v w' := by
  obtain ⟨i0, hi, hz0, hz1, hz2⟩ := info_parts Try.infoInt
  obtain ⟨lv, xs, h⟩ := h
  obtain ⟨A, c, rfl⟩ := ownsRow_slice h.own
  have hnl : n < l.length := (List.getElem?_eq_some_iff.1 he).1
  obtain ⟨g, Ae, ce, rfl, ce0, ce1, hre, hle, hge⟩ := h.at_ he
  obtain ⟨q0, _, _⟩ := h.cells
  have hbb : b < w.heap.size := h.flt b h.fb
  have hgb : g < w.heap.size := World.block_lt_of_cell? _ _ ce0
  have H := Lib.hid (And.intro h (And.intro hr (And.intro he (And.intro hre (And.intro hle hge)))))
  clear h hr he hre hle hge ce0
  go_enter Try.func16, Try.ntmps16
  go_wp2_with fail
  go_loopw [5, 6] (fun v i wr => ∃ k : Nat, k ≤ n ∧ i = .int .i64 (k : Int) ∧ ThoseR w (nums l) (wtB l e.1) k v wr) (fun _ i _ => n - (intOf i).toNat)
  case atStart => exact ⟨0, Nat.zero_le _, rfl, none, 0, rfl, World.ownsRow_nil _ _ _ _, Below.refl _ _⟩
  case round =>
    obtain ⟨k, hk, rfl, A5, c5', rfl, hown, hbl⟩ := hrel
    by_cases hlt : k < n
    · obtain ⟨x, hx⟩ : ∃ x, l[k]? = some x := ⟨_, List.getElem?_eq_getElem (by omega)⟩
      obtain ⟨g', Ax, cx, hAe, cx0, cx1, hrx, hlx, hgx⟩ := H.out.1.at_ hx
      injection hAe with hAe
      injection hAe with hAe
      subst hAe
      have hxn : (nums l)[k]? = some x.1 := by simp [nums, hx]
      have hwt := wt_at H.out.2.1 hx H.out.2.2.1 hlt
      have hlen : (((nums l).take k).filter (wtB l e.1)).length ≤ k := Nat.le_trans (List.length_filter_le _ _) (by simp; omega)
      obtain ⟨r, hr⟩ : ∃ r, ((nums l).take k).filter (wtB l e.1) = r := ⟨_, rfl⟩
      rw [hr] at hown hlen ⊢
      have HX := Lib.hid (And.intro hxn (And.intro hr (And.intro hwt (And.intro hrx (And.intro hlx hgx)))))
      have q0' := (hbl.cell (p := ⟨b, 0, none⟩) hbb).trans q0
      have cx0' := (hbl.cell (p := ⟨g, k * 2, none⟩) hgb).trans cx0
      have cx1' := (hbl.cell (p := ⟨g, k * 2 + 1, none⟩) hgb).trans cx1
      have ce1' := (hbl.cell (p := ⟨g, n * 2 + 1, none⟩) hgb).trans ce1
      have hs := hbl.size
      have hbw : b < wr.heap.size := by omega
      have hgw : g < wr.heap.size := by omega
      have HO := Lib.hid (And.intro hown hbl)
      clear hown hbl hr hx hxn hwt hrx hlx hgx cx0 cx1
      have hkl : k < l.length := by omega
      have HHI := Lib.hid hi
      go_upto_region 5 with fail
      go_still_tail 16, (by kernel_rfl)
      change wpList _ _ _ _ _ wr.drew
      go_wp2_with fail
      refine (refConflict_ok wr.drew C C (.slice Ax x.2.length cx) (.slice Ae e.2.length ce) x.2 e.2 (RdK.below (RdK.below HX.out.2.2.2.1 HO.out.2) (Below.refl _ _).drew) (RdK.below (RdK.below H.out.2.2.2.1 HO.out.2) (Below.refl _ _).drew) (by have := HX.out.2.2.2.2.1; omega) (by have := H.out.2.2.2.2.1; omega) HX.out.2.2.2.2.2 H.out.2.2.2.2.2).mono ?_
      rintro e1 w1 ⟨rr, hrr, rfl, hb1'⟩
      have hb1 := undrew hb1'
      have hbw1 : Below w.heap.size w w1 := HO.out.2.trans (hb1.mono HO.out.2.size)
      have hown1 := own_below HO.out.1 hb1
      have hnews := World.news_of_block (heap_alloc_new w1 (.cells #[.int .i64 x.1] 3))
      have q0'' := (hb1.cell (p := ⟨b, 0, none⟩) hbw).trans q0'
      have cx0'' := (hb1.cell (p := ⟨g, k * 2, none⟩) hgw).trans cx0'
      have HOW := Lib.hid (And.intro hbw1 (And.intro (hown1.alloc (.cells #[.int .i64 x.1] 3)) (And.intro hnews hown1)))
      cases hp : cfB x.2 e.2 with
      | true =>
        obtain rfl : rr = true := hrr.2 (cfB_iff.1 hp)
        have HP := Lib.hid (show wtB l e.1 x.1 = true by rw [HX.out.2.2.1]; exact hp)
        clear hp hrr hb1 hb1' hbw1 hown1 hnews q0' cx0' cx1' ce1'
        go_wp2_with (at_builtin; go_loud (refine wpList_append_lies _ rfl _ _ 43 rfl w.heap.size 3 i0 _ 1 8 Try.underlying43 HHI.out hz0 hz1 hz2 rfl (by decide) (.slice A5 r.length c5') r.length _ rfl HOW.out.2.1 ⟨w1.heap.size, 0, none⟩ 1 1 [.int .i64 x.1] rfl rfl HOW.out.2.2.1 (by simp [Value.oneCell']) (by decide) (by unfold maxLen; omega) (by omega) (by have := HOW.out.1.size; simp; omega) _ rfl ?_); intro g2 cap w2 hown1 hgrow1 hat1 hlt1)
        go_roundw
        case rel =>
          have hrx := filter_take_yes (p := wtB l e.1) HX.out.1 HP.out
          rw [HX.out.2.1] at hrx
          refine ⟨k + 1, by omega, by go_num, some ⟨g2, 0, none⟩, cap, by rw [hrx]; simp, ?_, ?_⟩
          · rw [hrx]
            simpa using hown1
          · have hs1 := HOW.out.1.size
            exact (HOW.out.1.alloc hs1 _).grown hgrow1 (by simp; omega) (fun j hj => (HOW.out.2.2.2.lt j hj).1)
        case measure => simp [intOf]; omega
      | false =>
        obtain rfl : rr = false := Bool.eq_false_iff.2 (fun hh => by rw [cfB_iff.2 (hrr.1 hh)] at hp; cases hp)
        have HP := Lib.hid (show wtB l e.1 x.1 = false by rw [HX.out.2.2.1]; exact hp)
        clear hp hrr hb1 hb1' hbw1 hown1 hnews q0' cx0' cx1' ce1'
        go_wp2_with fail
        go_roundw
        case rel =>
          have hrx := filter_take_no (p := wtB l e.1) HX.out.1 HP.out
          rw [HX.out.2.1] at hrx
          exact ⟨k + 1, by omega, by go_num, A5, c5', by rw [hrx], by rw [hrx]; exact HOW.out.2.2.2, HOW.out.1⟩
        case measure => simp [intOf]; omega
    · have hkl : k = n := by omega
      subst hkl
      have htk := waits_take H.out.2.1 H.out.2.2.1
      rw [htk] at hown ⊢
      clear htk
      go_wp2_with fail
      go_ret
      exact ⟨_, rfl, A5, c5', rfl, hown, hbl⟩

/-- What Put does. -/
def RPutP (F C : Nat → Prop) (b : Nat) (sm : Bool) (la : Int) (l : List Ent) (id : Int) (f : List Cl) (w : World) (e : Ending) (w' : World) : Prop :=
  Only F w w' ∧ ((sm = true ∧ id ≤ la ∧ e = .returned (.int .i64 17) ∧ RowAt w' F C b sm la l) ∨
    ((sm = true → la < id) ∧ e = .returned (.int .i64 0) ∧ RowAt w' (fun k => F k ∨ New w w' k) C b true id (l ++ [(id, f)])))
theorem rput_blk {w w2 : World} {F C : Nat → Prop} {b : Nat} {sm : Bool} {la id : Int} {l : List Ent} {lv : Value} {xs : List (Int × Value)} {o : Obj} (h : RowIn w F C b sm la l lv xs)
    (hgrow : (((w.setCell ⟨b, 2, none⟩ (.bool true)).setCell ⟨b, 1, none⟩ (.int .i64 id)).alloc o).grownBy w2 lv.ownBlock) : w2.heap[b]? = some (.cells #[lv, .int .i64 id, .bool true] 30 (0, 0)) := by
  have hbl : b < w.heap.size := h.flt b h.fb
  have hb1 : (((w.setCell ⟨b, 2, none⟩ (.bool true)).setCell ⟨b, 1, none⟩ (.int .i64 id)).alloc o).heap[b]? = some (.cells #[lv, .int .i64 id, .bool true] 30 (0, 0)) := by
    rw [Below.heap_alloc _ _ _ (by simp [World.setCell]; exact hbl)]
    simp [World.setCell, Array.getElem?_modify, h.blk]
  rw [hgrow.block b (by simp [World.setCell]; omega) (fun e => own_blk_ne h.own h.blk (by decide) e.symm)]
  exact hb1
theorem rput_close {w w2 : World} {F C : Nat → Prop} {b g cap c : Nat} {sm : Bool} {la id : Int} {l : List Ent} {lv : Value} {xs : List (Int × Value)} {A : Option Addr} {f : List Cl} {o : Obj} (h : RowIn w F C b sm la l lv xs)
    (hs : sm = true → la < id) (hid : I64 id) (hf : ClRd w C (.slice A f.length c) f) (hfl : f.length ≤ 64) (hg : Good f)
    (hown : w2.ownsRow 0 74 2 (.slice (some ⟨g, 0, none⟩) (l.length + 1) cap) (l.length + 1) ((xs.map oc).flatten ++ [.int .i64 id, .slice A f.length c]))
    (hgrow : (((w.setCell ⟨b, 2, none⟩ (.bool true)).setCell ⟨b, 1, none⟩ (.int .i64 id)).alloc o).grownBy w2 lv.ownBlock) (hat : lv.ownBlock = some g ∨ g = w.heap.size + 1) :
    RPutP F C b sm la l id f w (.returned (.int .i64 0)) (w2.setCell ⟨b, 0, none⟩ (.slice (some ⟨g, 0, none⟩) (l.length + 1) cap)) := by
  have hbl : b < w.heap.size := h.flt b h.fb
  have hsz : w.heap.size + 1 ≤ w2.heap.size := by have := hgrow.size; simpa [World.setCell] using this
  have h1 : Only F w (((w.setCell ⟨b, 2, none⟩ (.bool true)).setCell ⟨b, 1, none⟩ (.int .i64 id)).alloc o) :=
    (((Only.refl F w).setCell (p := ⟨b, 2, none⟩) (fun _ => h.fb) _).setCell (p := ⟨b, 1, none⟩) (fun _ => h.fb) _).alloc _
  have h2 : Only F w w2 := h1.grown hgrow (fun k hk _ => h.fl k hk)
  have h3 : Only F w (w2.setCell ⟨b, 0, none⟩ (.slice (some ⟨g, 0, none⟩) (l.length + 1) cap)) := h2.setCell (p := ⟨b, 0, none⟩) (fun _ => h.fb) _
  have hb2 := rput_blk h hgrow
  have hgb : g ≠ b := by
    rcases hat with hat | hat
    · intro e; subst e; exact own_blk_ne h.own h.blk (by decide) hat
    · omega
  refine ⟨h3, .inr ⟨hs, rfl, .slice (some ⟨g, 0, none⟩) (l.length + 1) cap, xs ++ [(id, .slice A f.length c)], ?_⟩⟩
  have hlt2 : ∀ j, Value.ownBlock (.slice (some ⟨g, 0, none⟩) (l.length + 1) cap) = some j → j = g := fun j hj => by simpa [Value.ownBlock] using hj.symm
  exact {
    blk := by simp [World.setCell, Array.getElem?_modify, hb2]
    own := by
      have := own_only hown (Only.set1 w2 b 0 (.slice (some ⟨g, 0, none⟩) (l.length + 1) cap)) (fun j hj e => hgb (by rw [← hlt2 j hj]; exact e))
      simpa [oc] using this
    xl := by rw [List.map_append, h.xl, nums_snoc]; rfl
    feet := by
      intro i e x he hx
      have hxl := h.xlen
      by_cases hi : i < l.length
      · rw [List.getElem?_append_left hi] at he
        rw [List.getElem?_append_left (by omega)] at hx
        obtain ⟨A', c', e1, e2, e3⟩ := h.feet i e x he hx
        exact ⟨A', c', e1, RdK.only e2 h3 (fun k hk => (h.clt k hk).2), e3⟩
      · rw [List.getElem?_append_right (by omega)] at he hx
        have hi0 : i - l.length = 0 := by
          have := (List.getElem?_eq_some_iff.1 he).1
          simp at this; omega
        rw [hxl, hi0] at hx
        rw [hi0] at he
        simp at he hx
        subst he hx
        exact ⟨A, c, rfl, RdK.only hf h3 (fun k hk => (h.clt k hk).2), hfl, hg⟩
    fb := .inl h.fb
    fl := by
      intro k hk
      rw [hlt2 k hk]
      rcases hat with hat | hat
      · exact .inl (h.fl g hat)
      · exact .inr ⟨by omega, by have := (hown.lt g (by simp [Value.ownBlock])).2; simpa [World.setCell] using this⟩
    flt := by
      intro k hk
      rcases hk with hk | hk
      · have := h.flt k hk; simp [World.setCell]; omega
      · exact hk.2
    clt := fun k hk => ⟨by have := (h.clt k hk).1; simp [World.setCell]; omega, fun hh => hh.elim (h.clt k hk).2 (fun hn => by have := (h.clt k hk).1; have := hn.1; omega)⟩
    i64 := by
      intro e he
      rcases List.mem_append.1 he with he | he
      · exact h.i64 e he
      · simp at he; subst he; exact hid }

theorem Try.infoOne : (Try.prog.info? 74).map (fun i => (i.zero, i.size, i.bytes)) = some (some (.agg #[.int .i64 0, .slice none 0 0]), 2, 32) := by kernel_rfl

set_option maxRecDepth 100000 in
set_option maxHeartbeats 1000000 in
theorem rput_ok (w : World) (F C : Nat → Prop) (b : Nat) (sm : Bool) (la : Int) (l : List Ent) (id : Int) (A : Option Addr) (c : Nat) (f : List Cl) (h : RowAt w F C b sm la l) (hl : l.length ≤ 100000) (hid : I64 id)
    (hf : ClRd w C (.slice A f.length c) f) (hfl : f.length ≤ 64) (hg : Good f) :
    Calls Try.prog 9 #[.pointer (some ⟨b, 0, none⟩), .int .i64 id, .slice A f.length c] w (RPutP F C b sm la l id f w) := by
  obtain ⟨i0, hi, hz0, hz1, hz2⟩ := info_parts Try.infoOne
  obtain ⟨lv, xs, h⟩ := h
  obtain ⟨A1, c1, rfl⟩ := ownsRow_slice h.own
  obtain ⟨q0, q1, q2⟩ := h.cells
  have hfr : ∀ j, w.frozen? ⟨b, j, none⟩ = false := fun j => by have := h.blk; simp [World.frozen?, this]
  have f2 := hfr 2
  have f1 := hfr 1
  have f0 := hfr 0
  have hbl : b < w.heap.size := h.flt b h.fb
  have HHI := Lib.hid hi
  have HC := Lib.hid (And.intro hf (And.intro hfl (And.intro hg hid)))
  clear hi hfr hf hfl hg hid
  by_cases hbad : sm = true ∧ id ≤ la
  · obtain ⟨rfl, hle⟩ := hbad
    have H := Lib.hid h
    clear h
    go_enter Try.func9, Try.ntmps9
    go_wp2_with fail
    go_ret
    exact ⟨Only.refl _ _, .inl ⟨rfl, hle, rfl, _, _, H.out⟩⟩
  · have hs : sm = true → la < id := fun e => by
      by_cases hle : id ≤ la
      · exact absurd ⟨e, hle⟩ hbad
      · omega
    have hown' : (((w.setCell ⟨b, 2, none⟩ (.bool true)).setCell ⟨b, 1, none⟩ (.int .i64 id)).alloc (.cells #[.int .i64 id, .slice A f.length c] 74)).ownsRow 0 74 2 (.slice A1 l.length c1) l.length (xs.map oc).flatten :=
      (own_only (own_only h.own (Only.set1 w b 2 (.bool true)) (fun j hj e => own_blk_ne h.own h.blk (by decide) (e ▸ hj))) (Only.set1 _ b 1 (.int .i64 id)) (fun j hj e => own_blk_ne h.own h.blk (by decide) (e ▸ hj))).alloc _
    have hsz : ((w.setCell ⟨b, 2, none⟩ (.bool true)).setCell ⟨b, 1, none⟩ (.int .i64 id)).heap.size = w.heap.size := by simp [World.setCell]
    have hnews := World.news_of_block (heap_alloc_new ((w.setCell ⟨b, 2, none⟩ (.bool true)).setCell ⟨b, 1, none⟩ (.int .i64 id)) (.cells #[.int .i64 id, .slice A f.length c] 74))
    rw [hsz] at hnews
    have hsz2 : (((w.setCell ⟨b, 2, none⟩ (.bool true)).setCell ⟨b, 1, none⟩ (.int .i64 id)).alloc (.cells #[.int .i64 id, .slice A f.length c] 74)).heap.size = w.heap.size + 1 := by simp [World.setCell]
    have H := Lib.hid (And.intro h (And.intro hown' (And.intro hnews hsz2)))
    clear h hown' hnews hsz hsz2
    cases sm with
    | true =>
      have hle : la < id := hs rfl
      clear hbad hs
      go_enter Try.func9, Try.ntmps9
      go_wp2_with (at_builtin; go_loud (refine wpList_append_lies _ rfl _ _ 28 rfl 0 74 i0 _ 2 32 Try.underlying28 HHI.out hz0 hz1 hz2 rfl (by decide) (.slice A1 l.length c1) l.length _ rfl H.out.2.1 ⟨w.heap.size, 0, none⟩ 1 1 [.int .i64 id, .slice A f.length c] rfl rfl H.out.2.2.1 (by simp [Value.oneCell']) (by decide) (by unfold maxLen; omega) (by omega) (Nat.zero_le _) (w.heap.size + 1) H.out.2.2.2 ?_))
      intro g2 cap w2 hown1 hgrow1 hat1 hlt1
      have HG := Lib.hid (And.intro hown1 (And.intro hgrow1 hat1))
      clear hown1 hgrow1 hat1
      have hb2 := rput_blk H.out.1 HG.out.2.1
      have hc2 : w2.cell? ⟨b, 0, none⟩ = some (.slice A1 l.length c1) := by simp [World.cell?, hb2]
      have hf2 : w2.frozen? ⟨b, 0, none⟩ = false := by simp [World.frozen?, hb2]
      clear hb2
      go_wp2_with fail
      go_ret
      exact rput_close H.out.1 (fun _ => by omega) HC.out.2.2.2 HC.out.1 HC.out.2.1 HC.out.2.2.1 HG.out.1 HG.out.2.1 HG.out.2.2
    | false =>
      clear hs hbad
      go_enter Try.func9, Try.ntmps9
      go_wp2_with (at_builtin; go_loud (refine wpList_append_lies _ rfl _ _ 28 rfl 0 74 i0 _ 2 32 Try.underlying28 HHI.out hz0 hz1 hz2 rfl (by decide) (.slice A1 l.length c1) l.length _ rfl H.out.2.1 ⟨w.heap.size, 0, none⟩ 1 1 [.int .i64 id, .slice A f.length c] rfl rfl H.out.2.2.1 (by simp [Value.oneCell']) (by decide) (by unfold maxLen; omega) (by omega) (Nat.zero_le _) (w.heap.size + 1) H.out.2.2.2 ?_))
      intro g2 cap w2 hown1 hgrow1 hat1 hlt1
      have HG := Lib.hid (And.intro hown1 (And.intro hgrow1 hat1))
      clear hown1 hgrow1 hat1
      have hb2 := rput_blk H.out.1 HG.out.2.1
      have hc2 : w2.cell? ⟨b, 0, none⟩ = some (.slice A1 l.length c1) := by simp [World.cell?, hb2]
      have hf2 : w2.frozen? ⟨b, 0, none⟩ = false := by simp [World.frozen?, hb2]
      clear hb2
      go_wp2_with fail
      go_ret
      exact rput_close H.out.1 (fun h => by cases h) HC.out.2.2.2 HC.out.1 HC.out.2.1 HC.out.2.2.1 HG.out.1 HG.out.2.1 HG.out.2.2

set_option maxRecDepth 100000 in
set_option maxHeartbeats 1000000 in
theorem rready_ok (w : World) (F C : Nat → Prop) (b : Nat) (sm : Bool) (la : Int) (l : List Ent) (h : RowAt w F C b sm la l) (hl : l.length ≤ 100000) (hr : Rise l) :
    Calls Try.prog 18 #[.pointer (some ⟨b, 0, none⟩)] w fun e' w' => ∃ v, e' = .returned v ∧ FreshI (ready l) w v w' := by
  obtain ⟨i0, hi, hz0, hz1, hz2⟩ := info_parts Try.infoInt
  have h0 := h
  obtain ⟨lv, xs, h⟩ := h
  obtain ⟨A, c, rfl⟩ := ownsRow_slice h.own
  obtain ⟨q0, _, _⟩ := h.cells
  have hbb : b < w.heap.size := h.flt b h.fb
  have HHI := Lib.hid hi
  have H := Lib.hid (And.intro h (And.intro hr h0))
  clear h hr h0 hi
  go_enter Try.func18, Try.ntmps18
  go_wp2_with fail
  go_loopw [3, 4] (fun v i wr => ∃ k : Nat, k ≤ l.length ∧ i = .int .i64 (k : Int) ∧ ThoseR w (nums l) (rdyB l) k v wr) (fun _ i _ => l.length - (intOf i).toNat)
  case atStart => exact ⟨0, Nat.zero_le _, rfl, none, 0, rfl, World.ownsRow_nil _ _ _ _, Below.refl _ _⟩
  case round =>
    obtain ⟨k, hk, rfl, A5, c5', rfl, hown, hbl⟩ := hrel
    have q0' := (hbl.cell (p := ⟨b, 0, none⟩) hbb).trans q0
    have hs := hbl.size
    have hbw : b < wr.heap.size := by omega
    by_cases hlt : k < l.length
    · obtain ⟨x, hx⟩ : ∃ x, l[k]? = some x := ⟨_, List.getElem?_eq_getElem hlt⟩
      obtain ⟨g', Ax, cx, rfl, cx0, _, _, _, _⟩ := H.out.1.at_ hx
      have cx0' := (hbl.cell (p := ⟨g', k * 2, none⟩) (World.block_lt_of_cell? _ _ cx0)).trans cx0
      have hgw : g' < wr.heap.size := World.block_lt_of_cell? _ _ cx0'
      have hxn : (nums l)[k]? = some x.1 := by simp [nums, hx]
      have hlen : (((nums l).take k).filter (rdyB l)).length ≤ k := Nat.le_trans (List.length_filter_le _ _) (by simp; omega)
      obtain ⟨r, hr⟩ : ∃ r, ((nums l).take k).filter (rdyB l) = r := ⟨_, rfl⟩
      rw [hr] at hown hlen ⊢
      have hra : RowAt wr F C b sm la l := let ⟨lv, xs, hh⟩ := H.out.2.2; ⟨lv, xs, hh.below hbl⟩
      have HC := rwaits_ok wr F C b sm la l k x hra hl H.out.2.1 hx
      have HX := Lib.hid (And.intro hxn (And.intro hr (And.intro hown hbl)))
      clear hxn hr hown hbl hra hx cx0
      go_wp2_with fail
      refine HC.mono ?_
      clear HC
      rintro e1 w1 ⟨v1, rfl, A7, c7, rfl, hown7, hb7⟩
      have hbw1 : Below w.heap.size w w1 := HX.out.2.2.2.trans (hb7.mono hs)
      have hown1 := own_below HX.out.2.2.1 hb7
      have hnews := World.news_of_block (heap_alloc_new w1 (.cells #[.int .i64 x.1] 3))
      have q0'' := (hb7.cell (p := ⟨b, 0, none⟩) hbw).trans q0'
      have cx0'' := (hb7.cell (p := ⟨g', k * 2, none⟩) hgw).trans cx0'
      have hs1 := hbw1.size
      have HOW := Lib.hid (And.intro hbw1 (And.intro (hown1.alloc (.cells #[.int .i64 x.1] 3)) (And.intro hnews hown1)))
      obtain ⟨n7, hn7⟩ : ∃ n, (waits l x.1).length = n := ⟨_, rfl⟩
      have hp : rdyB l x.1 = (n7 == 0) := by rw [← hn7]; rfl
      rw [hn7]
      have HP := Lib.hid hp
      clear hn7 hown7 hb7 hp hown1 hnews hbw1 q0' cx0'
      by_cases h7 : n7 = 0
      · subst h7
        have HP2 := Lib.hid (show rdyB l x.1 = true from HP.out)
        clear HP
        go_wp2_with (at_builtin; go_loud (refine wpList_append_lies _ rfl _ _ 43 rfl w.heap.size 3 i0 _ 1 8 Try.underlying43 HHI.out hz0 hz1 hz2 rfl (by decide) (.slice A5 r.length c5') r.length _ rfl HOW.out.2.1 ⟨w1.heap.size, 0, none⟩ 1 1 [.int .i64 x.1] rfl rfl HOW.out.2.2.1 (by simp [Value.oneCell']) (by decide) (by unfold maxLen; omega) (by omega) (by simp; omega) _ rfl ?_))
        intro g2 cap w2 hown2 hgrow2 hat2 hlt2
        have HG := Lib.hid (And.intro hown2 hgrow2)
        clear hown2 hgrow2 hat2 hlt2
        go_wp2_with fail
        go_roundw
        case rel =>
          have hrx := filter_take_yes (p := rdyB l) HX.out.1 HP2.out
          rw [HX.out.2.1] at hrx
          refine ⟨k + 1, by omega, by go_num, some ⟨g2, 0, none⟩, cap, by rw [hrx]; simp, ?_, ?_⟩
          · rw [hrx]
            simpa using HG.out.1
          · exact (HOW.out.1.alloc hs1 _).grown HG.out.2 (by simp; omega) (fun j hj => (HOW.out.2.2.2.lt j hj).1)
        case measure => simp [intOf]; omega
      · have h7' : ((n7 : Int) == 0) = false := by simp; omega
        have HP2 := Lib.hid (show rdyB l x.1 = false by rw [HP.out]; simpa using h7)
        clear HP
        go_wp2_with fail
        go_roundw
        case rel =>
          have hrx := filter_take_no (p := rdyB l) HX.out.1 HP2.out
          rw [HX.out.2.1] at hrx
          exact ⟨k + 1, by omega, by go_num, A5, c5', by rw [hrx], by rw [hrx]; exact HOW.out.2.2.2, HOW.out.1⟩
        case measure => simp [intOf]; omega
    · obtain rfl : k = l.length := by omega
      have htk : (nums l).take l.length = nums l := by rw [show l.length = (nums l).length by simp [nums], List.take_length]
      rw [htk] at hown ⊢
      clear htk
      have HO := Lib.hid (And.intro hown hbl)
      clear hown hbl
      go_wp2_with fail
      go_ret
      exact ⟨_, rfl, A5, c5', rfl, HO.out.1, HO.out.2⟩

/-- What Out does. -/
def ROutP (F C : Nat → Prop) (b : Nat) (sm : Bool) (la : Int) (l : List Ent) (id : Int) (w : World) (e : Ending) (w' : World) : Prop :=
  Only F w w' ∧ ((id ∉ nums l ∧ e = .returned (.int .i64 14) ∧ RowAt w' F C b sm la l) ∨ (id ∈ nums l ∧ rdyB l id = false ∧ e = .returned (.int .i64 18) ∧ RowAt w' F C b sm la l) ∨
    (id ∈ nums l ∧ rdyB l id = true ∧ e = .returned (.int .i64 0) ∧ RowAt w' (fun k => F k ∨ New w w' k) C b sm la (outL l id)))
theorem outL_at {l : List Ent} (hr : Rise l) {k : Nat} {e : Ent} (he : l[k]? = some e) : outL l e.1 = l.take k ++ l.drop (k + 1) := by
  have hlt := (List.getElem?_eq_some_iff.1 he).1
  have hel := (List.getElem?_eq_some_iff.1 he).2
  have hd : l = l.take k ++ e :: l.drop (k + 1) := by
    conv => lhs; rw [← List.take_append_drop k l, List.drop_eq_getElem_cons hlt, hel]
  conv => lhs; rw [hd]
  unfold outL
  rw [List.filter_append, List.filter_cons, if_neg (by simp)]
  have hp : (l.take k ++ e :: l.drop (k + 1)).Pairwise (fun a b => a.1 < b.1) := by rw [← hd]; exact hr
  rw [List.pairwise_append] at hp
  obtain ⟨_, h2, h3⟩ := hp
  rw [List.pairwise_cons] at h2
  congr 1
  · rw [List.filter_eq_self]
    intro x hx
    have := h3 x hx e (by simp)
    simp; omega
  · rw [List.filter_eq_self]
    intro x hx
    have := h2.1 x hx
    simp; omega
theorem rdk_take {w : World} {F : Nat → Prop} {q : Nat} {A : Option Addr} {m c : Nat} {l : List (List Value)} (h : RdK q w F (.slice A m c) l) {n : Nat} (hn : n ≤ l.length) : RdK q w F (.slice A n c) (l.take n) := by
  obtain ⟨A', m', c', hv, hl, hc, hm, hx⟩ := h
  injection hv with h1 h2 h3
  subst h1 h2 h3
  refine ⟨A, n, c, rfl, by simp; omega, by omega, hm, fun h0 => ?_⟩
  obtain ⟨b, o, e, hF, hu⟩ := hx (by omega)
  refine ⟨b, o, e, hF, fun i x hi => hu i x ?_⟩
  have hil : i < n := by have := (List.getElem?_eq_some_iff.1 hi).1; simp at this; omega
  rw [List.getElem?_take_of_lt hil] at hi
  exact hi
theorem rdk_drop {w : World} {F : Nat → Prop} {q b o m c : Nat} {l : List (List Value)} (h : RdK q w F (.slice (some ⟨b, o, none⟩) m c) l) {n : Nat} (hn : n ≤ l.length) : RdK q w F (.slice (some ⟨b, o + n * q, none⟩) (m - n) (c - n)) (l.drop n) := by
  obtain ⟨A', m', c', hv, hl, hc, hm, hx⟩ := h
  injection hv with h1 h2 h3
  subst h1 h2 h3
  refine ⟨_, _, _, rfl, by simp; omega, by omega, by omega, fun h0 => ?_⟩
  obtain ⟨b', o', e, hF, hu⟩ := hx (by omega)
  injection e with e
  injection e with e1 e2
  subst e1 e2
  refine ⟨b, o + n * q, rfl, hF, fun i x hi j u hj => ?_⟩
  have := hu (n + i) x (by rw [List.getElem?_drop] at hi; exact hi) j u hj
  rw [← this]
  congr 2
  rw [Nat.add_mul]
  omega
theorem oc_one (xs : List (Int × Value)) (h : ∀ x ∈ xs, ∃ A n c, x.2 = .slice A n c) : ∀ u ∈ (xs.map oc).flatten, u.oneCell' = true := by
  intro u hu
  obtain ⟨y, hy, hu⟩ := List.mem_flatten.1 hu
  obtain ⟨x, hx, rfl⟩ := List.mem_map.1 hy
  obtain ⟨A, n, c, he⟩ := h x hx
  simp [oc, he] at hu
  rcases hu with rfl | rfl <;> rfl
theorem RowIn.forms {w : World} {F C : Nat → Prop} {b : Nat} {sm : Bool} {la : Int} {l : List Ent} {lv : Value} {xs : List (Int × Value)} (h : RowIn w F C b sm la l lv xs) : ∀ x ∈ xs, ∃ A n c, x.2 = .slice A n c := by
  intro x hx
  obtain ⟨i, hi, rfl⟩ := List.getElem_of_mem hx
  have hil : i < l.length := by have := h.xlen; omega
  obtain ⟨A, c, e, _⟩ := h.feet i l[i] xs[i] (List.getElem?_eq_getElem hil) (List.getElem?_eq_getElem hi)
  exact ⟨A, _, c, e⟩
theorem rout_close {w w1 w2 w3 : World} {F C : Nat → Prop} {b k : Nat} {sm : Bool} {la : Int} {l : List Ent} {lv v2 v3 : Value} {xs : List (Int × Value)} {e : Ent} (h : RowIn w F C b sm la l lv xs) (hr : Rise l) (he : l[k]? = some e) (hrdy : rdyB l e.1 = true)
    (hb1 : Below w.heap.size w w1) (hg2 : w1.grownBy w2 none) (hv2 : v2.ownBlock = none ∨ v2.ownBlock = some w1.heap.size) (hg3 : w2.grownBy w3 v2.ownBlock) (hv3 : v3.ownBlock = v2.ownBlock ∨ v3.ownBlock = some w2.heap.size)
    (hown : w3.ownsRow 0 74 2 v3 (l.length - 1) (((xs.take k).map oc).flatten ++ ((xs.drop (k + 1)).map oc).flatten)) :
    ROutP F C b sm la l e.1 w (.returned (.int .i64 0)) (w3.setCell ⟨b, 0, none⟩ v3) := by
  have hbl : b < w.heap.size := h.flt b h.fb
  have hk := (List.getElem?_eq_some_iff.1 he).1
  have hs1 := hb1.size
  have hs2 := hg2.size
  have hs3 := hg3.size
  have hvn : ∀ j, v3.ownBlock = some j → w.heap.size ≤ j ∧ j < w3.heap.size := by
    intro j hj
    refine ⟨?_, (hown.lt j hj).2⟩
    rcases hv3 with h3 | h3
    · rw [h3] at hj
      rcases hv2 with h2 | h2
      · rw [h2] at hj; cases hj
      · rw [h2] at hj; injection hj with hj; omega
    · rw [h3] at hj; injection hj with hj; omega
  have hB2 : Below w.heap.size w w2 := hb1.grown hg2 hs1 (fun j hj => by cases hj)
  have hB3 : Below w.heap.size w w3 := hB2.grown hg3 (by omega) (fun j hj => by
    rcases hv2 with h2 | h2
    · rw [h2] at hj; cases hj
    · rw [h2] at hj; injection hj with hj; omega)
  have hO : Only F w (w3.setCell ⟨b, 0, none⟩ v3) := (Only.of_below hB3 F).setCell (p := ⟨b, 0, none⟩) (fun _ => h.fb) _
  have hblk : w3.heap[b]? = some (.cells #[lv, .int .i64 la, .bool sm] 30 (0, 0)) := (hB3.block b hbl).trans h.blk
  refine ⟨hO, .inr (.inr ⟨mem_nums.2 ⟨e.2, List.mem_of_getElem? he⟩, hrdy, rfl, v3, xs.take k ++ xs.drop (k + 1), ?_⟩)⟩
  have hxl := h.xlen
  rw [outL_at hr he]
  exact {
    blk := by simp [World.setCell, Array.getElem?_modify, hblk]
    own := by
      have h1 := own_only hown (Only.set1 w3 b 0 v3) (fun j hj e => by have := (hvn j hj).1; omega)
      have hl1 : (l.take k ++ l.drop (k + 1)).length = l.length - 1 := by simp; omega
      rw [hl1, List.map_append, List.flatten_append]
      exact h1
    xl := by
      have := h.xl
      unfold nums at this ⊢
      rw [List.map_append, List.map_append, List.map_take, List.map_drop, List.map_take, List.map_drop, this]
    feet := by
      intro i e' x he' hx
      by_cases hi : i < k
      · rw [List.getElem?_append_left (by simp; omega), List.getElem?_take_of_lt hi] at he' hx
        obtain ⟨A', c', e1, e2, e3⟩ := h.feet i e' x he' hx
        exact ⟨A', c', e1, RdK.only e2 hO (fun k hk => (h.clt k hk).2), e3⟩
      · rw [List.getElem?_append_right (by simp; omega), List.getElem?_drop] at he' hx
        have e5 : (l.take k).length = k := by simp; omega
        have e6 : (xs.take k).length = k := by simp; omega
        rw [e5] at he'
        rw [e6] at hx
        obtain ⟨A', c', e1, e2, e3⟩ := h.feet _ e' x he' hx
        exact ⟨A', c', e1, RdK.only e2 hO (fun k hk => (h.clt k hk).2), e3⟩
    fb := .inl h.fb
    fl := fun j hj => .inr ⟨(hvn j hj).1, by have := (hvn j hj).2; simpa [World.setCell] using this⟩
    flt := by
      intro j hj
      rcases hj with hj | hj
      · have := h.flt j hj; simp [World.setCell]; omega
      · exact hj.2
    clt := fun j hj => ⟨by have := (h.clt j hj).1; simp [World.setCell]; omega, fun hh => hh.elim (h.clt j hj).2 (fun hn => by have := (h.clt j hj).1; have := hn.1; omega)⟩
    i64 := fun x hx => h.i64 x ((List.mem_append.1 hx).elim List.mem_of_mem_take List.mem_of_mem_drop) }

set_option maxRecDepth 100000 in
set_option maxHeartbeats 1000000 in
theorem rout_ok (w : World) (F C : Nat → Prop) (b : Nat) (sm : Bool) (la : Int) (l : List Ent) (id : Int) (h : RowAt w F C b sm la l) (hl : l.length ≤ 100000) (hr : Rise l) :
    Calls Try.prog 12 #[.pointer (some ⟨b, 0, none⟩), .int .i64 id] w (ROutP F C b sm la l id w) := by
  obtain ⟨i0, hi, hz0, hz1, hz2⟩ := info_parts Try.infoOne
  have HHI := Lib.hid hi
  have h0 := h
  obtain ⟨lv, xs, h⟩ := h
  obtain ⟨A, c, rfl⟩ := ownsRow_slice h.own
  obtain ⟨q0, _, _⟩ := h.cells
  have hbb : b < w.heap.size := h.flt b h.fb
  have hfr : w.frozen? ⟨b, 0, none⟩ = false := by have := h.blk; simp [World.frozen?, this]
  have H := Lib.hid (And.intro h (And.intro hr h0))
  clear h hr h0 hi
  go_enter Try.func12, Try.ntmps12
  go_wp2_with fail
  refine (rat_ok w F C b sm la l id H.out.2.2 hl).mono ?_
  rintro e w1 ⟨rfl, ⟨k, f, hk, rfl⟩ | ⟨hnot, rfl⟩⟩
  · have hkl := (List.getElem?_eq_some_iff.1 hk).1
    have HW := rwaits_ok w F C b sm la l k (id, f) H.out.2.2 hl H.out.2.1 hk
    have HK := Lib.hid hk
    clear hk
    go_wp2_with fail
    refine HW.mono ?_
    clear HW
    rintro e1 w1 ⟨v1, rfl, A7, c7, rfl, hown7, hb7⟩
    obtain ⟨n7, hn7⟩ : ∃ n, (waits l (id, f).1).length = n := ⟨_, rfl⟩
    have hp : rdyB l id = (n7 == 0) := by rw [← hn7]; rfl
    have hB7 := Lib.hid hb7
    have HP := Lib.hid hp
    have q0' := (hb7.cell (p := ⟨b, 0, none⟩) hbb).trans q0
    have hfr' := (hb7.frozen (p := ⟨b, 0, none⟩) hbb).trans hfr
    rw [hn7]
    clear hn7 hown7 hb7 hp
    by_cases h7 : n7 = 0
    · have HP2 := Lib.hid (show rdyB l id = true by rw [HP.out, h7]; rfl)
      subst h7
      clear HP
      obtain ⟨g, A', c', rfl, _, _, _, _, _⟩ := H.out.1.at_ HK.out
      have hxl := H.out.1.xlen
      have hown1 := own_below H.out.1.own hB7.out
      have hrd1 : RdK 2 w1 (fun _ => True) (.slice (some ⟨g, 0, none⟩) l.length c) (xs.map oc) := RdK.of_own hown1 (oc_len xs) (by decide) (fun _ _ => trivial)
      have hrt : RdK 2 w1 (fun _ => True) (.slice (some ⟨g, 0, none⟩) k c) ((xs.take k).map oc) := by rw [List.map_take]; exact rdk_take hrd1 (by simp; omega)
      have hcap : l.length ≤ c := by obtain ⟨_, n', _, hv, hl', hc', _⟩ := hrd1; injection hv with e1 e2 e3; omega
      have hcm : c ≤ 9223372036854775807 := by obtain ⟨_, n', _, hv, hl', hc', hm', _⟩ := hrd1; injection hv with e1 e2 e3; unfold maxLen at hm'; omega
      have HO1 := Lib.hid (oc_one (xs.take k) (fun x hx => H.out.1.forms x (List.mem_of_mem_take hx)))
      have HO2 := Lib.hid (oc_one (xs.drop (k + 1)) (fun x hx => H.out.1.forms x (List.mem_of_mem_drop hx)))
      have HB1 := Lib.hid ((hB7.out.block b hbb).trans H.out.1.blk)
      have HR := Lib.hid (And.intro hrt hrd1)
      have hxk : (xs.take k).length = k := by simp; omega
      have hxl' : xs.length ≤ 100000 := by omega
      have hxd : (xs.drop (k + 1)).length ≤ 100000 := by simp; omega
      have HXL := Lib.hid (And.intro hxl hxk)
      clear hrt hrd1 hown1 hxl hxk
      go_upto_region 8 with (at_builtin; go_loud (refine wpList_append_rdk _ rfl _ _ 28 rfl 0 74 i0 _ 2 32 Try.underlying28 HHI.out hz0 hz1 hz2 rfl (by decide) (.slice none 0 0) 0 [] rfl (World.ownsRow_nil _ _ _ _) (fun _ => True) (.slice (some ⟨g, 0, none⟩) k c) ((xs.take k).map oc) rfl HR.out.1 (oc_len _) HO1.out (by simp; omega) (by simp [maxLen]; omega) (Nat.zero_le _) ?_))
      intro v2 w2 hown2 hg2 hat2
      have hmk : min k xs.length = k := by have := HXL.out.1; omega
      replace hown2 : w2.ownsRow 0 74 2 v2 k ((xs.take k).map oc).flatten := by simpa [hmk, List.map_take] using hown2
      clear hmk
      obtain ⟨A2, c2, rfl⟩ := ownsRow_slice hown2
      have hg2' : w1.grownBy w2 none := hg2
      have hat2' : (Value.slice A2 k c2).ownBlock = none ∨ (Value.slice A2 k c2).ownBlock = some w1.heap.size := hat2
      have hrd2 := RdK.only HR.out.2 (Only.of_grownBy hg2') (fun k _ hh => by cases hh)
      have HB2 := Lib.hid ((Only.of_grownBy hg2').heap HB1.out (fun hh => by cases hh))
      have hc2 : w2.cell? ⟨b, 0, none⟩ = some (.slice (some ⟨g, 0, none⟩) l.length c) := by have := HB2.out; simp [World.cell?, this]
      have hf2 : w2.frozen? ⟨b, 0, none⟩ = false := by have := HB2.out; simp [World.frozen?, this]
      have H2 := Lib.hid (And.intro hown2 (And.intro hg2' (And.intro trivial (And.intro hat2' hrd2))))
      clear hown2 hg2 hat2 hg2' hat2' hrd2
      by_cases hce : c = k + 1
      · subst hce
        have hll : l.length = k + 1 := by omega
        have hrd3 : RdK 2 w2 (fun _ => True) (.slice (some ⟨g, 0, none⟩) 0 0) ((xs.drop (k + 1)).map oc) := by
          rw [List.drop_of_length_le (by have := HXL.out.1; omega)]
          exact ⟨_, 0, 0, rfl, rfl, Nat.le_refl _, by simp [maxLen], fun hh => absurd hh (by omega)⟩
        have HR3 := Lib.hid hrd3
        have HLL := Lib.hid hll
        rw [hll] at hc2 ⊢
        clear hrd3 hll
        go_wp2_with (at_builtin; go_loud (refine wpList_append_rdk _ rfl _ _ 28 rfl 0 74 i0 _ 2 32 Try.underlying28 HHI.out hz0 hz1 hz2 rfl (by decide) (.slice A2 k c2) k _ rfl H2.out.1 (fun _ => True) (.slice (some ⟨g, 0, none⟩) 0 0) ((xs.drop (k + 1)).map oc) rfl HR3.out (oc_len _) HO2.out (by simp; omega) (by simp [maxLen]; omega) (Nat.zero_le _) ?_))
        intro v3 w3 hown3 hg3 hat3
        replace hown3 : w3.ownsRow 0 74 2 v3 (l.length - 1) (((xs.take k).map oc).flatten ++ ((xs.drop (k + 1)).map oc).flatten) := by
          have e9 : k + (xs.length - (k + 1)) = l.length - 1 := by have := HXL.out.1; omega
          simpa [e9] using hown3
        obtain ⟨A3, c3, rfl⟩ := ownsRow_slice hown3
        have H3 := Lib.hid (And.intro hown3 (And.intro hg3 hat3))
        clear hown3 hg3 hat3
        have hb3 := (Only.of_grownBy H3.out.2.1).heap HB2.out (fun hh => by
          rcases H2.out.2.2.2.1 with h2 | h2
          · have h4 := h2.symm.trans hh; cases h4
          · have h4 := h2.symm.trans hh; injection h4 with h4; have := hB7.out.size; omega)
        have hc3 : w3.cell? ⟨b, 0, none⟩ = some (.slice (some ⟨g, 0, none⟩) l.length (k + 1)) := by simp [World.cell?, hb3]
        have hf3 : w3.frozen? ⟨b, 0, none⟩ = false := by simp [World.frozen?, hb3]
        clear hb3
        go_wp2_with fail
        go_ret
        exact rout_close H.out.1 H.out.2.1 HK.out HP2.out hB7.out H2.out.2.1 H2.out.2.2.2.1 H3.out.2.1 H3.out.2.2 H3.out.1
      · have hrd3 : RdK 2 w2 (fun _ => True) (.slice (some ⟨g, (k + 1) * 2, none⟩) (l.length - (k + 1)) (c - (k + 1))) ((xs.drop (k + 1)).map oc) := by
          rw [List.map_drop]
          have := rdk_drop H2.out.2.2.2.2 (n := k + 1) (by have := HXL.out.1; simp; omega)
          rw [Nat.zero_add] at this
          exact this
        have HR3 := Lib.hid hrd3
        clear hrd3
        have hcl : k + 1 < c := by omega
        go_wp2_with (at_builtin; go_loud (refine wpList_append_rdk _ rfl _ _ 28 rfl 0 74 i0 _ 2 32 Try.underlying28 HHI.out hz0 hz1 hz2 rfl (by decide) (.slice A2 k c2) k _ rfl H2.out.1 (fun _ => True) (.slice (some ⟨g, (k + 1) * 2, none⟩) (l.length - (k + 1)) (c - (k + 1))) ((xs.drop (k + 1)).map oc) rfl HR3.out (oc_len _) HO2.out (by simp; omega) (by simp [maxLen]; omega) (Nat.zero_le _) ?_))
        intro v3 w3 hown3 hg3 hat3
        replace hown3 : w3.ownsRow 0 74 2 v3 (l.length - 1) (((xs.take k).map oc).flatten ++ ((xs.drop (k + 1)).map oc).flatten) := by
          have e9 : k + (xs.length - (k + 1)) = l.length - 1 := by have := HXL.out.1; omega
          simpa [e9] using hown3
        obtain ⟨A3, c3, rfl⟩ := ownsRow_slice hown3
        have H3 := Lib.hid (And.intro hown3 (And.intro hg3 hat3))
        clear hown3 hg3 hat3
        have hb3 := (Only.of_grownBy H3.out.2.1).heap HB2.out (fun hh => by
          rcases H2.out.2.2.2.1 with h2 | h2
          · have h4 := h2.symm.trans hh; cases h4
          · have h4 := h2.symm.trans hh; injection h4 with h4; have := hB7.out.size; omega)
        have hc3 : w3.cell? ⟨b, 0, none⟩ = some (.slice (some ⟨g, 0, none⟩) l.length c) := by simp [World.cell?, hb3]
        have hf3 : w3.frozen? ⟨b, 0, none⟩ = false := by simp [World.frozen?, hb3]
        clear hb3
        go_wp2_with fail
        go_ret
        exact rout_close H.out.1 H.out.2.1 HK.out HP2.out hB7.out H2.out.2.1 H2.out.2.2.2.1 H3.out.2.1 H3.out.2.2 H3.out.1
    · have h7' : (0 : Int) < (n7 : Int) := by omega
      have HP2 := Lib.hid (show rdyB l id = false by rw [HP.out]; simpa using h7)
      clear HP
      go_wp2_with fail
      go_ret
      exact ⟨Only.of_below hB7.out F, .inr (.inl ⟨mem_nums.2 ⟨f, List.mem_of_getElem? HK.out⟩, HP2.out, rfl, let ⟨lv, xs, hh⟩ := H.out.2.2; ⟨lv, xs, hh.below hB7.out⟩⟩)⟩
  · go_wp2_with fail
    go_ret
    exact ⟨Only.refl _ _, .inl ⟨hnot, rfl, H.out.2.2⟩⟩

end Go.Proofs.Ytihjcfifakcpgaa
