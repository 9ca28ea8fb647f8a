/- The document's answer's reader: number, signed. -/
import Derived.Test.YtihjcfifakcpgaaGreatDoorRefT
namespace Go.Proofs.YtihjcfifakcpgaaGreatDoor
set_option maxRecDepth 100000
open Go.RowKit

theorem rdUI_ref (r : List UInt8) : rdUI r = match refRd r with | some (m, k) => if m ≤ 9223372036854775807 then some ((m : Int), r.drop k) else none | none => none := by
  unfold rdUI rdU refRd
  cases hr : rdG 0 0 r with
  | none => rfl
  | some x =>
    obtain ⟨m, q⟩ := x
    obtain ⟨e, hm⟩ := rdG_iff.1 hr
    have hd : r.drop (leb m).length = q := by rw [e]; simp
    simp only [Option.map_some, hd]
    split <;> simp_all
theorem rdI_ref (r : List UInt8) : rdI r = match refRd r with | some (m, k) => some (zag m, r.drop k) | none => none := by
  unfold rdI refRd
  cases hr : rdG 0 0 r with
  | none => rfl
  | some x =>
    obtain ⟨m, q⟩ := x
    obtain ⟨e, hm⟩ := rdG_iff.1 hr
    have hd : r.drop (leb m).length = q := by rw [e]; simp
    simp only [Option.map_some, hd]
theorem refRd_bd {r : List UInt8} {m k : Nat} (h : refRd r = some (m, k)) : 1 ≤ k ∧ k ≤ r.length ∧ m < 18446744073709551616 := by
  unfold refRd at h
  cases hr : rdG 0 0 r with
  | none => rw [hr] at h; cases h
  | some x =>
    obtain ⟨m', q⟩ := x
    rw [hr] at h
    simp at h
    obtain ⟨rfl, rfl⟩ := h
    obtain ⟨e, hm⟩ := rdG_iff.1 hr
    exact ⟨leb_pos _, by rw [e]; simp, hm⟩
/-- A reader in memory; st: what is left, if nothing was not there. -/
def RS (w : World) (F : Nat → Prop) (b : Nat) (A : Option Addr) (c : Nat) (bs : List UInt8) (st : Option (List UInt8)) : Prop :=
  ∃ (at_ : Nat) (bad : Bool), w.heap[b]? = some (.cells #[.slice A bs.length c, .int .i64 (at_ : Int), .bool bad] 99 (0, 0)) ∧ at_ ≤ bs.length ∧ st = (if bad then none else some (bs.drop at_)) ∧ Rd w F (.slice A bs.length c) (bs.map B8) ∧ ¬ F b
section
variable {w w' : World} {F S : Nat → Prop} {b c : Nat} {A : Option Addr} {bs : List UInt8} {st : Option (List UInt8)}
theorem RS.only (h : RS w F b A c bs st) (ho : Only S w w') (h1 : ¬ S b) (h2 : ∀ k, F k → ¬ S k) : RS w' F b A c bs st := by
  obtain ⟨a, d, h3, h4, h5, h6, h7⟩ := h
  exact ⟨a, d, ho.heap h3 h1, h4, h5, h6.only ho h2, h7⟩
theorem RS.below (h : RS w F b A c bs st) (hb : Below w.heap.size w w') : RS w' F b A c bs st := h.only (Only.of_below hb (fun _ => False)) (fun h => h) (fun _ _ h => h)
theorem RS.lt (h : RS w F b A c bs st) : b < w.heap.size := by
  obtain ⟨a, d, h3, _⟩ := h
  exact (Array.getElem?_eq_some_iff.1 h3).1
end
theorem RS.bad {w : World} {F : Nat → Prop} {b c : Nat} {A : Option Addr} {bs : List UInt8} {at_ : Nat} {d : Bool} (h : w.heap[b]? = some (.cells #[.slice A bs.length c, .int .i64 (at_ : Int), .bool d] 99 (0, 0))) (ha : at_ ≤ bs.length) (hr : Rd w F (.slice A bs.length c) (bs.map B8)) (hF : ¬ F b) :
    RS (w.setCell ⟨b, 2, none⟩ (.bool true)) F b A c bs none := by
  refine ⟨at_, true, ?_, ha, rfl, hr.only (Only.set1 w b 2 _) (fun k hk e => by subst e; exact hF hk), hF⟩
  have := heap_setCell_same w b 2 _ _ (.bool true) h
  simpa using this
theorem RS.move {w : World} {F : Nat → Prop} {b c : Nat} {A : Option Addr} {bs : List UInt8} {at_ p : Nat} (h : w.heap[b]? = some (.cells #[.slice A bs.length c, .int .i64 (at_ : Int), .bool false] 99 (0, 0))) (ha : p ≤ bs.length) (hr : Rd w F (.slice A bs.length c) (bs.map B8)) (hF : ¬ F b) :
    RS (w.setCell ⟨b, 1, none⟩ (.int .i64 (p : Int))) F b A c bs (some (bs.drop p)) := by
  refine ⟨p, false, ?_, ha, rfl, hr.only (Only.set1 w b 1 _) (fun k hk e => by subst e; exact hF hk), hF⟩
  have := heap_setCell_same w b 1 _ _ (.int .i64 (p : Int)) h
  simpa using this
def BelowS (w w' : World) : Prop := Below w.heap.size w w'
theorem RS.drewS {w : World} {F : Nat → Prop} {b c : Nat} {A : Option Addr} {bs : List UInt8} {st : Option (List UInt8)} (h : RS w F b A c bs st) : RS w.drew F b A c bs st := h.only ((Only.refl (fun _ => False) w).drew) (fun h => h) (fun _ _ h => h)
/-- One number is read. -/
def stepR {α : Type} (f : List UInt8 → Option (α × List UInt8)) (z : α) : Option (List UInt8) → α × Option (List UInt8)
  | none => (z, none)
  | some r => match f r with | some (n, q) => (n, some q) | none => (z, none)
def NumP (f : List UInt8 → Option (Int × List UInt8)) (F : Nat → Prop) (b : Nat) (A : Option Addr) (c : Nat) (bs : List UInt8) (st : Option (List UInt8)) (w : World) (e : Ending) (w' : World) : Prop :=
  e = .returned (.int .i64 (stepR f 0 st).1) ∧ Only (fun k => k = b) w w' ∧ RS w' F b A c bs (stepR f 0 st).2
theorem numV_shape (x : Option (Nat × Nat)) : ∃ a0 a1 a2 : Int, numV x = .agg #[.int .i64 a0, .int .i64 a1, .int .i64 a2] := by
  cases x with
  | none => exact ⟨_, _, _, rfl⟩
  | some y => exact ⟨_, _, _, rfl⟩

set_option maxRecDepth 100000 in
set_option maxHeartbeats 4000000 in
theorem refNumber_ok (w : World) (F : Nat → Prop) (b : Nat) (A : Option Addr) (c : Nat) (bs : List UInt8) (st : Option (List UInt8)) (h : RS w F b A c bs st) (hlen : bs.length ≤ 1000) :
    Calls Tryz.prog 58 #[.pointer (some ⟨b, 0, none⟩)] w (NumP rdUI F b A c bs st w) := by
  have h0 := h
  obtain ⟨at_, bad, k0, hat, hst, hrd, hnF⟩ := h
  have hbl : b < w.heap.size := (Array.getElem?_eq_some_iff.1 k0).1
  obtain ⟨A', n', c', hv, hl, hc, hm, hxx⟩ := hrd
  have hrd : Rd w F (.slice A bs.length c) (bs.map B8) := ⟨A', n', c', hv, hl, hc, hm, hxx⟩
  injection hv with e1 e2 e3
  subst e1 e2 e3
  simp only [List.length_map] at hl
  unfold maxLen at hm
  have hcut := rd_cut hrd at_ (bs.length - at_) (by omega)
  have hsl := slice_lh (P := Tryz.prog) 31 5 Tryz.underlying31 (fun _ => by kernel_rfl) A bs.length c at_ bs.length (by omega) (by omega)
  have emap : ((bs.map B8).drop at_).take (bs.length - at_) = ((bs.drop at_).map B8) := by rw [← List.map_drop, List.take_of_length_le (by simp)]
  rw [emap, Nat.mul_one] at hcut
  obtain ⟨A2, hA2⟩ : ∃ A2, (if c = at_ then A else A.map (fun x => x.add at_)) = A2 := ⟨_, rfl⟩
  obtain ⟨c2, hc2⟩ : ∃ c2, c - at_ = c2 := ⟨_, rfl⟩
  have hcut : Rd w F (.slice A2 (bs.length - at_) c2) ((bs.drop at_).map B8) := by rw [← hA2, ← hc2]; exact hcut
  obtain ⟨n2, hn2⟩ : ∃ n2, bs.length - at_ = n2 := ⟨_, rfl⟩
  rw [hn2] at hcut
  clear hsl
  obtain ⟨r, hr⟩ : ∃ r, bs.drop at_ = r := ⟨_, rfl⟩
  have hrl : r.length = bs.length - at_ := by rw [← hr]; simp
  rw [hr] at hcut hst
  obtain ⟨a0, a1, a2, hnv⟩ := numV_shape (refRd r)
  have H := Lib.hid (And.intro h0 (And.intro hst (And.intro hrd (And.intro hcut (And.intro hr hnv)))))
  obtain ⟨⟨q0, q1, q2⟩, y0, y1, y2⟩ := blk3 k0
  have hbB := bcell (W := w) (w1 := w) (Below.refl _ _)
  have K0 := Lib.hid k0
  have hrl2 : r.length ≤ 1000 := by omega
  clear h0 hst hrd hcut hxx hr hnv k0 emap
  go_enter Tryz.func58, Tryz.ntmps58
  go_upto_region 1 with fail
  go_cut [3] from 4 to 13 (fun s3 wx => ∃ X, s3 = .pointer (some ⟨X, 0, none⟩) ∧ wx.heap[X]? = some (.cells #[.int .i64 a0, .int .i64 a1, .int .i64 a2] 151 (0, 0)) ∧ w.heap.size ≤ X ∧ Below w.heap.size w wx)
  case first =>
    refine wp_region_held_drew (S := BelowS w) (by kernel_rfl) (Below.refl _ _).drew (fun hHeld => ?_)
    have hHeld : Below w.heap.size w _ := hHeld
    refine take_lit (i := 0) (v := ?_) rfl (by kernel_rfl) (by kernel_rfl) (by kernel_rfl) (fun _ _ _ h => h) (by rfl) (fun wS hSw => ?_) hHeld ?_
    rotate_left
    · go_simp; try with_reducible rfl
    try simp only [Act.put, List.setIfInBounds_toArray, List.set_cons_zero, List.set_cons_succ]
    refine take_lit (i := 1) (v := ?_) rfl (by kernel_rfl) (by kernel_rfl) (by kernel_rfl) (fun _ _ _ h => h) (by rfl) (fun wS hSw => ?_) hHeld ?_
    rotate_left
    · go_simp; try with_reducible rfl
    try simp only [Act.put, List.setIfInBounds_toArray, List.set_cons_zero, List.set_cons_succ]
    refine take_lit (i := 2) (v := ?_) rfl (by kernel_rfl) (by kernel_rfl) (by kernel_rfl) (fun _ _ _ h => h) (by rfl) (fun wS hSw => ?_) hHeld ?_
    rotate_left
    · go_simp; try with_reducible rfl
    try simp only [Act.put, List.setIfInBounds_toArray, List.set_cons_zero, List.set_cons_succ]
    refine take_lit (i := 3) (v := ?_) rfl (by kernel_rfl) (by kernel_rfl) (by kernel_rfl) (fun _ _ _ h => h) (by rfl) (fun wS hSw => ?_) hHeld ?_
    rotate_left
    · have hSw : Below w.heap.size w _ := hSw; have q0s := (hSw.cell (p := ⟨b, 0, none⟩) hbl).trans q0; go_simp; try with_reducible rfl
    try simp only [Act.put, List.setIfInBounds_toArray, List.set_cons_zero, List.set_cons_succ]
    refine take_lit (i := 4) (v := ?_) rfl (by kernel_rfl) (by kernel_rfl) (by kernel_rfl) (fun _ _ _ h => h) (by rfl) (fun wS hSw => ?_) hHeld ?_
    rotate_left
    · go_simp; try with_reducible rfl
    try simp only [Act.put, List.setIfInBounds_toArray, List.set_cons_zero, List.set_cons_succ]
    refine take_lit (i := 5) (v := ?_) rfl (by kernel_rfl) (by kernel_rfl) (by kernel_rfl) (fun _ _ _ h => h) (by rfl) (fun wS hSw => ?_) hHeld ?_
    rotate_left
    · go_simp; try with_reducible rfl
    try simp only [Act.put, List.setIfInBounds_toArray, List.set_cons_zero, List.set_cons_succ]
    refine take_lit (i := 6) (v := ?_) rfl (by kernel_rfl) (by kernel_rfl) (by kernel_rfl) (fun _ _ _ h => h) (by rfl) (fun wS hSw => ?_) hHeld ?_
    rotate_left
    · go_simp; try with_reducible rfl
    try simp only [Act.put, List.setIfInBounds_toArray, List.set_cons_zero, List.set_cons_succ]
    refine take_lit (i := 7) (v := ?_) rfl (by kernel_rfl) (by kernel_rfl) (by kernel_rfl) (fun _ _ _ h => h) (by rfl) (fun wS hSw => ?_) hHeld ?_
    rotate_left
    · have hSw : Below w.heap.size w _ := hSw; have q1s := (hSw.cell (p := ⟨b, 1, none⟩) hbl).trans q1; go_simp; try with_reducible rfl
    try simp only [Act.put, List.setIfInBounds_toArray, List.set_cons_zero, List.set_cons_succ]
    refine take_lit (i := 8) (v := .slice A2 n2 c2) rfl (by kernel_rfl) (by kernel_rfl) (by kernel_rfl) (fun _ _ _ h => h) (by rfl) (fun wS hSw => ?_) hHeld ?_
    · rw [← hA2, ← hn2, ← hc2]; go_simp
    try simp only [Act.put, List.setIfInBounds_toArray, List.set_cons_zero, List.set_cons_succ]
    refine wpAnyH_ready (rs := [9, 10]) (by kernel_rfl) (by simp) (cons_lit (i := 9) rfl (fun K hK => ?_) (cons_lit (i := 10) rfl (fun K hK => ?_) AllReadyH.nil))
    · skip
      go_simp
      refine (refRead_ok _ F _ r (H.out.2.2.2.1.below hHeld) (by omega)).mono ?_
      rintro e wn ⟨rfl, hbn⟩
      rw [H.out.2.2.2.2.2]
      try go_simp
      refine hK.out _ _ (hHeld.trans (hbn.mono hHeld.size)) (fun hHeld2 => ?_)
      have hHeld2 : Below w.heap.size w _ := hHeld2
      clear hK K hHeld hbn
      try simp only [Act.put, List.setIfInBounds_toArray, List.set_cons_zero, List.set_cons_succ]
      refine wpAnyH_ready (rs := [10]) (by kernel_rfl) (by simp) (cons_lit (i := 10) rfl (fun K hK => ?_) AllReadyH.nil)
      go_simp
      refine hK.out _ _ (hHeld2.alloc hHeld2.size _) (fun hHeld3 => ?_)
      have hHeld3 : Below w.heap.size w _ := hHeld3
      clear hK K
      try simp only [Act.put, List.setIfInBounds_toArray, List.set_cons_zero, List.set_cons_succ]
      have kx := heap_alloc_new wn (.cells #[.int .i64 0, .int .i64 0, .int .i64 0] 151)
      have hsz := hHeld2.size
      clear hHeld2
      generalize wn.alloc (.cells #[.int .i64 0, .int .i64 0, .int .i64 0] 151) = w5 at kx hHeld3 ⊢
      generalize wn.heap.size = X at kx hsz ⊢
      obtain ⟨⟨x0, x1, x2⟩, z0, z1, z2⟩ := blk3 kx
      refine wpAnyH_ready (rs := [11]) (by kernel_rfl) (by simp) (cons_lit (i := 11) rfl (fun K hK => ?_) AllReadyH.nil)
      go_simp
      refine hK.out _ _ (below3s hHeld3 hsz _ _ _) (fun hHeld4 => ?_)
      have hHeld4 : Below w.heap.size w _ := hHeld4
      clear hK K
      try simp only [Act.put, List.setIfInBounds_toArray, List.set_cons_zero, List.set_cons_succ]
      refine wpAnyH_done (by kernel_rfl) ?_ _
      have hp := put3 kx (.int .i64 a0) (.int .i64 a1) (.int .i64 a2)
      clear x0 x1 x2 z0 z1 z2 kx hHeld3
      go_wp2_with fail
      go_meet
      exact ⟨X, rfl, hp, hsz, hHeld4⟩
    · skip
      go_simp
      refine hK.out _ _ (hHeld.alloc hHeld.size _) (fun hHeld2 => ?_)
      have hHeld2 : Below w.heap.size w _ := hHeld2
      clear hK K
      try simp only [Act.put, List.setIfInBounds_toArray, List.set_cons_zero, List.set_cons_succ]
      have kx : ((w.alloc (.cells #[.int .i64 0, .int .i64 0, .int .i64 0] 151)).drew).heap[w.heap.size]? = some (.cells #[.int .i64 0, .int .i64 0, .int .i64 0] 151 (0, 0)) := heap_alloc_new w (.cells #[.int .i64 0, .int .i64 0, .int .i64 0] 151)
      have hsz := hHeld.size
      clear hHeld
      generalize (w.alloc (.cells #[.int .i64 0, .int .i64 0, .int .i64 0] 151)).drew = w4 at kx hHeld2 ⊢
      obtain ⟨X, hX⟩ : ∃ X, w.heap.size = X := ⟨_, rfl⟩
      rw [hX] at kx ⊢
      have hsz : w.heap.size ≤ X := Nat.le_of_eq hX
      clear hX
      try simp only [Act.put, List.setIfInBounds_toArray, List.set_cons_zero, List.set_cons_succ]
      have hHeld := hHeld2
      clear hHeld2
      refine wpAnyH_ready (rs := [9]) (by kernel_rfl) (by simp) (cons_lit (i := 9) rfl (fun K hK => ?_) AllReadyH.nil)
      go_simp
      refine (refRead_ok _ F _ r (H.out.2.2.2.1.below hHeld) (by omega)).mono ?_
      rintro e wn ⟨rfl, hbn⟩
      rw [H.out.2.2.2.2.2]
      try go_simp
      refine hK.out _ _ (hHeld.trans (hbn.mono hHeld.size)) (fun hHeld3 => ?_)
      have hHeld3 : Below w.heap.size w _ := hHeld3
      have ky := (Only.of_below hbn (fun _ => False)).heap kx (fun h => h)
      clear hK K hHeld hbn kx
      try simp only [Act.put, List.setIfInBounds_toArray, List.set_cons_zero, List.set_cons_succ]
      obtain ⟨⟨x0, x1, x2⟩, z0, z1, z2⟩ := blk3 ky
      refine wpAnyH_ready (rs := [11]) (by kernel_rfl) (by simp) (cons_lit (i := 11) rfl (fun K hK => ?_) AllReadyH.nil)
      go_simp
      refine hK.out _ _ (below3s hHeld3 hsz _ _ _) (fun hHeld4 => ?_)
      have hHeld4 : Below w.heap.size w _ := hHeld4
      clear hK K
      try simp only [Act.put, List.setIfInBounds_toArray, List.set_cons_zero, List.set_cons_succ]
      refine wpAnyH_done (by kernel_rfl) ?_ _
      have hp := put3 ky (.int .i64 a0) (.int .i64 a1) (.int .i64 a2)
      clear x0 x1 x2 z0 z1 z2 ky hHeld3
      go_wp2_with fail
      go_meet
      exact ⟨X, rfl, hp, hsz, hHeld4⟩
  case rest =>
    obtain ⟨X, rfl, hxb, hxs, hbx⟩ := hcut
    have kb := (Only.of_below hbx (fun _ => False)).heap K0.out (fun h => h)
    have hbX : b ≠ X := by omega
    have HX := Lib.hid (And.intro hxb (And.intro hxs (And.intro hbx (And.intro kb hbX))))
    obtain ⟨⟨x0, x1, x2⟩, _⟩ := blk3 hxb
    clear q0 q1 q2 y0 y1 y2 hbB
    obtain ⟨⟨q0, q1, q2⟩, y0, y1, y2⟩ := blk3 kb
    clear hxb hxs hbx kb
    cases bad with
    | true =>
      have hst : st = none := H.out.2.1
      subst hst
      go_wp2_with fail
      go_ret
      exact ⟨rfl, (Only.of_below HX.out.2.2.1 (fun k => k = b)).setCell (p := ⟨b, 2, none⟩) (fun _ => rfl) _, RS.bad HX.out.2.2.2.1 hat (H.out.2.2.1.below HX.out.2.2.1) hnF⟩
    | false =>
      have hst : st = some r := H.out.2.1
      subst hst
      cases hrf : refRd r with
      | none =>
        have hv := H.out.2.2.2.2.2
        rw [hrf] at hv
        simp only [numV, Value.agg.injEq, Array.mk.injEq, List.cons.injEq, Value.int.injEq, true_and, and_true] at hv
        obtain ⟨rfl, rfl, rfl⟩ := hv
        have HN := Lib.hid (show stepR rdUI 0 (some r) = (0, none) by simp only [stepR, rdUI_ref, hrf])
        clear hrf
        go_wp2_with fail
        go_ret
        refine ⟨by rw [HN.out]; rfl, (Only.of_below HX.out.2.2.1 (fun k => k = b)).setCell (p := ⟨b, 2, none⟩) (fun _ => rfl) _, ?_⟩
        rw [HN.out]
        exact RS.bad HX.out.2.2.2.1 hat (H.out.2.2.1.below HX.out.2.2.1) hnF
      | some y =>
        obtain ⟨m, k⟩ := y
        have hv := H.out.2.2.2.2.2
        rw [hrf] at hv
        simp only [numV, Value.agg.injEq, Array.mk.injEq, List.cons.injEq, Value.int.injEq, true_and, and_true] at hv
        obtain ⟨rfl, rfl, rfl⟩ := hv
        obtain ⟨hk1, hk2, hm64⟩ := refRd_bd hrf
        have hk0 : ((k : Int) == 0) = false := by simp; omega
        have hkat : at_ + k ≤ bs.length := by omega
        by_cases hbig : m ≤ 9223372036854775807
        · have hb1 : ¬ (4611686018427387903 : Int) < ((m / 2 : Nat) : Int) := by omega
          have HN := Lib.hid (show stepR rdUI 0 (some r) = ((m : Int), some (r.drop k)) by simp only [stepR, rdUI_ref, hrf, if_pos hbig])
          clear hrf
          go_wp2_with fail
          have wq : IntKind.i64.wrap ((at_ : Int) + (k : Int)) = ((at_ + k : Nat) : Int) := by rw [IntWalk.i64_in _ (by omega)]; omega
          go_region
          have e5 : ((at_ + k : Nat) : Int) = (at_ : Int) + (k : Int) := by omega
          have hmv := RS.move HX.out.2.2.2.1 hkat (H.out.2.2.1.below HX.out.2.2.1) hnF
          rw [e5] at hmv
          have ho5 : Only (fun k => k = b) w (wc.setCell ⟨b, 1, none⟩ (.int .i64 ((at_ : Int) + (k : Int)))) := (Only.of_below HX.out.2.2.1 (fun k => k = b)).setCell (p := ⟨b, 1, none⟩) (fun _ => rfl) _
          have x0n := (Only.set1 wc b 1 (.int .i64 ((at_ : Int) + (k : Int)))).cell x0 (by show ¬ X = b; omega)
          have x1n := (Only.set1 wc b 1 (.int .i64 ((at_ : Int) + (k : Int)))).cell x1 (by show ¬ X = b; omega)
          generalize wc.setCell ⟨b, 1, none⟩ (.int .i64 ((at_ : Int) + (k : Int))) = w5 at hmv ho5 x0n x1n ⊢
          have HM := Lib.hid (And.intro hmv ho5)
          have HD := Lib.hid (show r.drop k = bs.drop (at_ + k) by rw [← H.out.2.2.2.2.1, List.drop_drop])
          clear hmv ho5 x0 x1 x2 q0 q1 q2 y0 y1 y2 wq e5
          have hval : (2 : Int) * ((m : Int) / 2) + (m : Int) % 2 = (m : Int) := by omega
          go_wp2_with fail
          go_ret
          refine ⟨?_, HM.out.2.drew, ?_⟩
          · rw [HN.out]
            rfl
          · rw [HN.out, HD.out]
            exact HM.out.1.drewS
        · have hb1 : (4611686018427387903 : Int) < ((m / 2 : Nat) : Int) := by omega
          have HN := Lib.hid (show stepR rdUI 0 (some r) = (0, none) by simp only [stepR, rdUI_ref, hrf, if_neg hbig])
          clear hrf
          go_wp2_with fail
          go_ret
          refine ⟨by rw [HN.out]; rfl, (Only.of_below HX.out.2.2.1 (fun k => k = b)).setCell (p := ⟨b, 2, none⟩) (fun _ => rfl) _, ?_⟩
          rw [HN.out]
          exact RS.bad HX.out.2.2.2.1 hat (H.out.2.2.1.below HX.out.2.2.1) hnF

set_option maxRecDepth 100000 in
set_option maxHeartbeats 4000000 in
theorem refSigned_ok (w : World) (F : Nat → Prop) (b : Nat) (A : Option Addr) (c : Nat) (bs : List UInt8) (st : Option (List UInt8)) (h : RS w F b A c bs st) (hlen : bs.length ≤ 1000) :
    Calls Tryz.prog 60 #[.pointer (some ⟨b, 0, none⟩)] w (NumP rdI F b A c bs st w) := by
  have h0 := h
  obtain ⟨at_, bad, k0, hat, hst, hrd, hnF⟩ := h
  have hbl : b < w.heap.size := (Array.getElem?_eq_some_iff.1 k0).1
  obtain ⟨A', n', c', hv, hl, hc, hm, hxx⟩ := hrd
  have hrd : Rd w F (.slice A bs.length c) (bs.map B8) := ⟨A', n', c', hv, hl, hc, hm, hxx⟩
  injection hv with e1 e2 e3
  subst e1 e2 e3
  simp only [List.length_map] at hl
  unfold maxLen at hm
  have hcut := rd_cut hrd at_ (bs.length - at_) (by omega)
  have hsl := slice_lh (P := Tryz.prog) 31 5 Tryz.underlying31 (fun _ => by kernel_rfl) A bs.length c at_ bs.length (by omega) (by omega)
  have emap : ((bs.map B8).drop at_).take (bs.length - at_) = ((bs.drop at_).map B8) := by rw [← List.map_drop, List.take_of_length_le (by simp)]
  rw [emap, Nat.mul_one] at hcut
  obtain ⟨A2, hA2⟩ : ∃ A2, (if c = at_ then A else A.map (fun x => x.add at_)) = A2 := ⟨_, rfl⟩
  obtain ⟨c2, hc2⟩ : ∃ c2, c - at_ = c2 := ⟨_, rfl⟩
  have hcut : Rd w F (.slice A2 (bs.length - at_) c2) ((bs.drop at_).map B8) := by rw [← hA2, ← hc2]; exact hcut
  obtain ⟨n2, hn2⟩ : ∃ n2, bs.length - at_ = n2 := ⟨_, rfl⟩
  rw [hn2] at hcut
  clear hsl
  obtain ⟨r, hr⟩ : ∃ r, bs.drop at_ = r := ⟨_, rfl⟩
  have hrl : r.length = bs.length - at_ := by rw [← hr]; simp
  rw [hr] at hcut hst
  obtain ⟨a0, a1, a2, hnv⟩ := numV_shape (refRd r)
  have H := Lib.hid (And.intro h0 (And.intro hst (And.intro hrd (And.intro hcut (And.intro hr hnv)))))
  obtain ⟨⟨q0, q1, q2⟩, y0, y1, y2⟩ := blk3 k0
  have hbB := bcell (W := w) (w1 := w) (Below.refl _ _)
  have K0 := Lib.hid k0
  have hrl2 : r.length ≤ 1000 := by omega
  clear h0 hst hrd hcut hxx hr hnv k0 emap
  go_enter Tryz.func60, Tryz.ntmps60
  go_upto_region 1 with fail
  go_cut [3] from 4 to 13 (fun s3 wx => ∃ X, s3 = .pointer (some ⟨X, 0, none⟩) ∧ wx.heap[X]? = some (.cells #[.int .i64 a0, .int .i64 a1, .int .i64 a2] 151 (0, 0)) ∧ w.heap.size ≤ X ∧ Below w.heap.size w wx)
  case first =>
    refine wp_region_held_drew (S := BelowS w) (by kernel_rfl) (Below.refl _ _).drew (fun hHeld => ?_)
    have hHeld : Below w.heap.size w _ := hHeld
    refine take_lit (i := 0) (v := ?_) rfl (by kernel_rfl) (by kernel_rfl) (by kernel_rfl) (fun _ _ _ h => h) (by rfl) (fun wS hSw => ?_) hHeld ?_
    rotate_left
    · go_simp; try with_reducible rfl
    try simp only [Act.put, List.setIfInBounds_toArray, List.set_cons_zero, List.set_cons_succ]
    refine take_lit (i := 1) (v := ?_) rfl (by kernel_rfl) (by kernel_rfl) (by kernel_rfl) (fun _ _ _ h => h) (by rfl) (fun wS hSw => ?_) hHeld ?_
    rotate_left
    · go_simp; try with_reducible rfl
    try simp only [Act.put, List.setIfInBounds_toArray, List.set_cons_zero, List.set_cons_succ]
    refine take_lit (i := 2) (v := ?_) rfl (by kernel_rfl) (by kernel_rfl) (by kernel_rfl) (fun _ _ _ h => h) (by rfl) (fun wS hSw => ?_) hHeld ?_
    rotate_left
    · go_simp; try with_reducible rfl
    try simp only [Act.put, List.setIfInBounds_toArray, List.set_cons_zero, List.set_cons_succ]
    refine take_lit (i := 3) (v := ?_) rfl (by kernel_rfl) (by kernel_rfl) (by kernel_rfl) (fun _ _ _ h => h) (by rfl) (fun wS hSw => ?_) hHeld ?_
    rotate_left
    · have hSw : Below w.heap.size w _ := hSw; have q0s := (hSw.cell (p := ⟨b, 0, none⟩) hbl).trans q0; go_simp; try with_reducible rfl
    try simp only [Act.put, List.setIfInBounds_toArray, List.set_cons_zero, List.set_cons_succ]
    refine take_lit (i := 4) (v := ?_) rfl (by kernel_rfl) (by kernel_rfl) (by kernel_rfl) (fun _ _ _ h => h) (by rfl) (fun wS hSw => ?_) hHeld ?_
    rotate_left
    · go_simp; try with_reducible rfl
    try simp only [Act.put, List.setIfInBounds_toArray, List.set_cons_zero, List.set_cons_succ]
    refine take_lit (i := 5) (v := ?_) rfl (by kernel_rfl) (by kernel_rfl) (by kernel_rfl) (fun _ _ _ h => h) (by rfl) (fun wS hSw => ?_) hHeld ?_
    rotate_left
    · go_simp; try with_reducible rfl
    try simp only [Act.put, List.setIfInBounds_toArray, List.set_cons_zero, List.set_cons_succ]
    refine take_lit (i := 6) (v := ?_) rfl (by kernel_rfl) (by kernel_rfl) (by kernel_rfl) (fun _ _ _ h => h) (by rfl) (fun wS hSw => ?_) hHeld ?_
    rotate_left
    · go_simp; try with_reducible rfl
    try simp only [Act.put, List.setIfInBounds_toArray, List.set_cons_zero, List.set_cons_succ]
    refine take_lit (i := 7) (v := ?_) rfl (by kernel_rfl) (by kernel_rfl) (by kernel_rfl) (fun _ _ _ h => h) (by rfl) (fun wS hSw => ?_) hHeld ?_
    rotate_left
    · have hSw : Below w.heap.size w _ := hSw; have q1s := (hSw.cell (p := ⟨b, 1, none⟩) hbl).trans q1; go_simp; try with_reducible rfl
    try simp only [Act.put, List.setIfInBounds_toArray, List.set_cons_zero, List.set_cons_succ]
    refine take_lit (i := 8) (v := .slice A2 n2 c2) rfl (by kernel_rfl) (by kernel_rfl) (by kernel_rfl) (fun _ _ _ h => h) (by rfl) (fun wS hSw => ?_) hHeld ?_
    · rw [← hA2, ← hn2, ← hc2]; go_simp
    try simp only [Act.put, List.setIfInBounds_toArray, List.set_cons_zero, List.set_cons_succ]
    refine wpAnyH_ready (rs := [9, 10]) (by kernel_rfl) (by simp) (cons_lit (i := 9) rfl (fun K hK => ?_) (cons_lit (i := 10) rfl (fun K hK => ?_) AllReadyH.nil))
    · skip
      go_simp
      refine (refRead_ok _ F _ r (H.out.2.2.2.1.below hHeld) (by omega)).mono ?_
      rintro e wn ⟨rfl, hbn⟩
      rw [H.out.2.2.2.2.2]
      try go_simp
      refine hK.out _ _ (hHeld.trans (hbn.mono hHeld.size)) (fun hHeld2 => ?_)
      have hHeld2 : Below w.heap.size w _ := hHeld2
      clear hK K hHeld hbn
      try simp only [Act.put, List.setIfInBounds_toArray, List.set_cons_zero, List.set_cons_succ]
      refine wpAnyH_ready (rs := [10]) (by kernel_rfl) (by simp) (cons_lit (i := 10) rfl (fun K hK => ?_) AllReadyH.nil)
      go_simp
      refine hK.out _ _ (hHeld2.alloc hHeld2.size _) (fun hHeld3 => ?_)
      have hHeld3 : Below w.heap.size w _ := hHeld3
      clear hK K
      try simp only [Act.put, List.setIfInBounds_toArray, List.set_cons_zero, List.set_cons_succ]
      have kx := heap_alloc_new wn (.cells #[.int .i64 0, .int .i64 0, .int .i64 0] 151)
      have hsz := hHeld2.size
      clear hHeld2
      generalize wn.alloc (.cells #[.int .i64 0, .int .i64 0, .int .i64 0] 151) = w5 at kx hHeld3 ⊢
      generalize wn.heap.size = X at kx hsz ⊢
      obtain ⟨⟨x0, x1, x2⟩, z0, z1, z2⟩ := blk3 kx
      refine wpAnyH_ready (rs := [11]) (by kernel_rfl) (by simp) (cons_lit (i := 11) rfl (fun K hK => ?_) AllReadyH.nil)
      go_simp
      refine hK.out _ _ (below3s hHeld3 hsz _ _ _) (fun hHeld4 => ?_)
      have hHeld4 : Below w.heap.size w _ := hHeld4
      clear hK K
      try simp only [Act.put, List.setIfInBounds_toArray, List.set_cons_zero, List.set_cons_succ]
      refine wpAnyH_done (by kernel_rfl) ?_ _
      have hp := put3 kx (.int .i64 a0) (.int .i64 a1) (.int .i64 a2)
      clear x0 x1 x2 z0 z1 z2 kx hHeld3
      go_wp2_with fail
      go_meet
      exact ⟨X, rfl, hp, hsz, hHeld4⟩
    · skip
      go_simp
      refine hK.out _ _ (hHeld.alloc hHeld.size _) (fun hHeld2 => ?_)
      have hHeld2 : Below w.heap.size w _ := hHeld2
      clear hK K
      try simp only [Act.put, List.setIfInBounds_toArray, List.set_cons_zero, List.set_cons_succ]
      have kx : ((w.alloc (.cells #[.int .i64 0, .int .i64 0, .int .i64 0] 151)).drew).heap[w.heap.size]? = some (.cells #[.int .i64 0, .int .i64 0, .int .i64 0] 151 (0, 0)) := heap_alloc_new w (.cells #[.int .i64 0, .int .i64 0, .int .i64 0] 151)
      have hsz := hHeld.size
      clear hHeld
      generalize (w.alloc (.cells #[.int .i64 0, .int .i64 0, .int .i64 0] 151)).drew = w4 at kx hHeld2 ⊢
      obtain ⟨X, hX⟩ : ∃ X, w.heap.size = X := ⟨_, rfl⟩
      rw [hX] at kx ⊢
      have hsz : w.heap.size ≤ X := Nat.le_of_eq hX
      clear hX
      try simp only [Act.put, List.setIfInBounds_toArray, List.set_cons_zero, List.set_cons_succ]
      have hHeld := hHeld2
      clear hHeld2
      refine wpAnyH_ready (rs := [9]) (by kernel_rfl) (by simp) (cons_lit (i := 9) rfl (fun K hK => ?_) AllReadyH.nil)
      go_simp
      refine (refRead_ok _ F _ r (H.out.2.2.2.1.below hHeld) (by omega)).mono ?_
      rintro e wn ⟨rfl, hbn⟩
      rw [H.out.2.2.2.2.2]
      try go_simp
      refine hK.out _ _ (hHeld.trans (hbn.mono hHeld.size)) (fun hHeld3 => ?_)
      have hHeld3 : Below w.heap.size w _ := hHeld3
      have ky := (Only.of_below hbn (fun _ => False)).heap kx (fun h => h)
      clear hK K hHeld hbn kx
      try simp only [Act.put, List.setIfInBounds_toArray, List.set_cons_zero, List.set_cons_succ]
      obtain ⟨⟨x0, x1, x2⟩, z0, z1, z2⟩ := blk3 ky
      refine wpAnyH_ready (rs := [11]) (by kernel_rfl) (by simp) (cons_lit (i := 11) rfl (fun K hK => ?_) AllReadyH.nil)
      go_simp
      refine hK.out _ _ (below3s hHeld3 hsz _ _ _) (fun hHeld4 => ?_)
      have hHeld4 : Below w.heap.size w _ := hHeld4
      clear hK K
      try simp only [Act.put, List.setIfInBounds_toArray, List.set_cons_zero, List.set_cons_succ]
      refine wpAnyH_done (by kernel_rfl) ?_ _
      have hp := put3 ky (.int .i64 a0) (.int .i64 a1) (.int .i64 a2)
      clear x0 x1 x2 z0 z1 z2 ky hHeld3
      go_wp2_with fail
      go_meet
      exact ⟨X, rfl, hp, hsz, hHeld4⟩
  case rest =>
    obtain ⟨X, rfl, hxb, hxs, hbx⟩ := hcut
    have kb := (Only.of_below hbx (fun _ => False)).heap K0.out (fun h => h)
    have hbX : b ≠ X := by omega
    have HX := Lib.hid (And.intro hxb (And.intro hxs (And.intro hbx (And.intro kb hbX))))
    obtain ⟨⟨x0, x1, x2⟩, _⟩ := blk3 hxb
    clear q0 q1 q2 y0 y1 y2 hbB
    obtain ⟨⟨q0, q1, q2⟩, y0, y1, y2⟩ := blk3 kb
    clear hxb hxs hbx kb
    cases bad with
    | true =>
      have hst : st = none := H.out.2.1
      subst hst
      go_wp2_with fail
      go_ret
      exact ⟨rfl, (Only.of_below HX.out.2.2.1 (fun k => k = b)).setCell (p := ⟨b, 2, none⟩) (fun _ => rfl) _, RS.bad HX.out.2.2.2.1 hat (H.out.2.2.1.below HX.out.2.2.1) hnF⟩
    | false =>
      have hst : st = some r := H.out.2.1
      subst hst
      cases hrf : refRd r with
      | none =>
        have hv := H.out.2.2.2.2.2
        rw [hrf] at hv
        simp only [numV, Value.agg.injEq, Array.mk.injEq, List.cons.injEq, Value.int.injEq, true_and, and_true] at hv
        obtain ⟨rfl, rfl, rfl⟩ := hv
        have HN := Lib.hid (show stepR rdI 0 (some r) = (0, none) by simp only [stepR, rdI_ref, hrf])
        clear hrf
        go_wp2_with fail
        go_ret
        refine ⟨by rw [HN.out]; rfl, (Only.of_below HX.out.2.2.1 (fun k => k = b)).setCell (p := ⟨b, 2, none⟩) (fun _ => rfl) _, ?_⟩
        rw [HN.out]
        exact RS.bad HX.out.2.2.2.1 hat (H.out.2.2.1.below HX.out.2.2.1) hnF
      | some y =>
        obtain ⟨m, k⟩ := y
        have hv := H.out.2.2.2.2.2
        rw [hrf] at hv
        simp only [numV, Value.agg.injEq, Array.mk.injEq, List.cons.injEq, Value.int.injEq, true_and, and_true] at hv
        obtain ⟨rfl, rfl, rfl⟩ := hv
        obtain ⟨hk1, hk2, hm64⟩ := refRd_bd hrf
        have hk0 : ((k : Int) == 0) = false := by simp; omega
        have hkat : at_ + k ≤ bs.length := by omega
        have HN := Lib.hid (show stepR rdI 0 (some r) = (zag m, some (r.drop k)) by simp only [stepR, rdI_ref, hrf])
        clear hrf
        go_wp2_with fail
        have wq : IntKind.i64.wrap ((at_ : Int) + (k : Int)) = ((at_ + k : Nat) : Int) := by rw [IntWalk.i64_in _ (by omega)]; omega
        go_region
        have e5 : ((at_ + k : Nat) : Int) = (at_ : Int) + (k : Int) := by omega
        have hmv := RS.move HX.out.2.2.2.1 hkat (H.out.2.2.1.below HX.out.2.2.1) hnF
        rw [e5] at hmv
        have ho5 : Only (fun k => k = b) w (wc.setCell ⟨b, 1, none⟩ (.int .i64 ((at_ : Int) + (k : Int)))) := (Only.of_below HX.out.2.2.1 (fun k => k = b)).setCell (p := ⟨b, 1, none⟩) (fun _ => rfl) _
        have x0n := (Only.set1 wc b 1 (.int .i64 ((at_ : Int) + (k : Int)))).cell x0 (by show ¬ X = b; omega)
        have x1n := (Only.set1 wc b 1 (.int .i64 ((at_ : Int) + (k : Int)))).cell x1 (by show ¬ X = b; omega)
        generalize wc.setCell ⟨b, 1, none⟩ (.int .i64 ((at_ : Int) + (k : Int))) = w5 at hmv ho5 x0n x1n ⊢
        have HM := Lib.hid (And.intro hmv ho5)
        have HD := Lib.hid (show r.drop k = bs.drop (at_ + k) by rw [← H.out.2.2.2.2.1, List.drop_drop])
        clear hmv ho5 x0 x1 x2 q0 q1 q2 y0 y1 y2 wq e5
        by_cases hodd : m % 2 = 1
        · have ho1 : ((m : Int) % 2 == 1) = true := by simp; omega
          have HV := Lib.hid (show zag m = -1 - (m : Int) / 2 by unfold zag; rw [if_pos hodd]; omega)
          clear hodd
          go_wp2_with fail
          go_ret
          refine ⟨?_, HM.out.2.drew, ?_⟩
          · rw [HN.out, HV.out]; rfl
          · rw [HN.out, HD.out]
            exact HM.out.1.drewS
        · have ho1 : ((m : Int) % 2 == 1) = false := by simp; omega
          have HV := Lib.hid (show zag m = (m : Int) / 2 by unfold zag; rw [if_neg hodd]; omega)
          clear hodd
          go_wp2_with fail
          go_ret
          refine ⟨?_, HM.out.2.drew, ?_⟩
          · rw [HN.out, HV.out]; rfl
          · rw [HN.out, HD.out]
            exact HM.out.1.drewS
end Go.Proofs.YtihjcfifakcpgaaGreatDoor
