/- PLAIN: what an entry that is read fits. -/
import Derived.Test.YtihjcfifakcpgaaGreatDoorFrameR
import Derived.Test.YtihjcfifakcpgaaGreatDoorSum
import Derived.Test.YtihjcfifakcpgaaGreatDoorEqs
import Derived.Test.YtihjcfifakcpgaaGreatDoorFtZ
namespace Go.Proofs.YtihjcfifakcpgaaGreatDoor
set_option maxRecDepth 100000
open Go.RowKit

theorem rdUI_fits {bs r : List UInt8} {n : Int} (h : rdUI bs = some (n, r)) : 0 ≤ n ∧ n ≤ 9223372036854775807 := by
  unfold rdUI at h
  cases hu : rdU bs with
  | none => rw [hu] at h; simp at h
  | some x =>
    obtain ⟨m, q⟩ := x
    rw [hu] at h
    simp at h
    have := (rdU_inv hu).2
    omega
theorem zag_fits (u : Nat) (h : u < 18446744073709551616) : -9223372036854775808 ≤ zag u ∧ zag u ≤ 9223372036854775807 := by
  unfold zag
  split <;> omega
theorem rdI_fits {bs r : List UInt8} {n : Int} (h : rdI bs = some (n, r)) : -9223372036854775808 ≤ n ∧ n ≤ 9223372036854775807 := by
  unfold rdI at h
  cases hu : rdG 0 0 bs with
  | none => rw [hu] at h; simp at h
  | some x =>
    obtain ⟨m, q⟩ := x
    rw [hu] at h
    simp at h
    obtain ⟨k, hk, _, hlt, _⟩ := rdG_inv bs 0 0 m q (by omega) hu
    rw [← h.1]
    exact zag_fits m (by simp at hk hlt; omega)
theorem rdNs_all {rd : List UInt8 → Option (Int × List UInt8)} {P : Int → Prop} (hP : ∀ bs n r, rd bs = some (n, r) → P n) : ∀ {k : Nat} {bs : List UInt8} {ns : List Int} {r : List UInt8}, rdNs rd k bs = some (ns, r) → ∀ n ∈ ns, P n
  | 0, bs, ns, r, h => by simp [rdNs] at h; simp [h.1]
  | k + 1, bs, ns, r, h => by
    rw [rdNs] at h
    cases hk : rdNs rd k bs with
    | none => rw [hk] at h; simp at h
    | some x =>
      obtain ⟨ms, q⟩ := x
      rw [hk] at h
      simp only at h
      cases hq : rd q with
      | none => rw [hq] at h; simp at h
      | some y =>
        obtain ⟨m, q'⟩ := y
        rw [hq] at h
        simp at h
        rw [← h.1]
        intro n hn
        rcases List.mem_append.1 hn with hn | hn
        · exact rdNs_all hP hk n hn
        · simp at hn
          rw [hn]
          exact hP _ _ _ hq
theorem rdMany_all {α : Type} {rd : List UInt8 → Option (α × List UInt8)} {P : α → Prop} (hP : ∀ bs n r, rd bs = some (n, r) → P n) : ∀ {k : Nat} {bs : List UInt8} {ns : List α} {r : List UInt8}, rdMany rd k bs = some (ns, r) → (∀ n ∈ ns, P n) ∧ ns.length = k
  | 0, bs, ns, r, h => by simp [rdMany] at h; simp [h.1]
  | k + 1, bs, ns, r, h => by
    rw [rdMany] at h
    cases hk : rdMany rd k bs with
    | none => rw [hk] at h; simp at h
    | some x =>
      obtain ⟨ms, q⟩ := x
      rw [hk] at h
      simp only at h
      cases hq : rd q with
      | none => rw [hq] at h; simp at h
      | some y =>
        obtain ⟨m, q'⟩ := y
        rw [hq] at h
        simp at h
        obtain ⟨h1, h2⟩ := rdMany_all hP hk
        rw [← h.1]
        refine ⟨fun n hn => ?_, by simp [h2]⟩
        rcases List.mem_append.1 hn with hn | hn
        · exact h1 n hn
        · simp at hn
          rw [hn]
          exact hP _ _ _ hq
theorem rdL_all {α : Type} {rd : List UInt8 → Option (α × List UInt8)} {P : α → Prop} (hP : ∀ bs n r, rd bs = some (n, r) → P n) {M : Int} {bs : List UInt8} {ns : List α} {r : List UInt8} (h : rdL rd M bs = some (ns, r)) : (∀ n ∈ ns, P n) ∧ (ns.length : Int) ≤ M := by
  unfold rdL at h
  split at h
  · rename_i mk q hg
    split at h
    · rename_i hM
      obtain ⟨h1, h2⟩ := rdMany_all hP h
      have := (rdNs_all (P := fun n => 0 ≤ n ∧ n ≤ 9223372036854775807) (fun _ _ _ h => rdUI_fits h) hg) mk (by simp)
      exact ⟨h1, by omega⟩
    · simp at h
  · simp at h
theorem rdOp_fits (bs : List UInt8) (o : POp) (r : List UInt8) (h : rdOp bs = some (o, r)) : o.fits := by
  unfold rdOp at h
  split at h
  · rename_i d a b q hg
    split at h
    · rename_i c q2 hg2
      split at h
      · rename_i n q3 hg3
        simp at h
        rw [← h.1]
        have f1 := rdNs_all (P := fun n => 0 ≤ n ∧ n ≤ 9223372036854775807) (fun _ _ _ h => rdUI_fits h) hg
        have f2 := rdNs_all (P := fun n => -9223372036854775808 ≤ n ∧ n ≤ 9223372036854775807) (fun _ _ _ h => rdI_fits h) hg2
        have f3 := rdNs_all (P := fun n => 0 ≤ n ∧ n ≤ 9223372036854775807) (fun _ _ _ h => rdUI_fits h) hg3
        have g1 := f1 d (by simp)
        have g2 := f1 a (by simp)
        have g3 := f1 b (by simp)
        have g4 := f2 c (by simp)
        have g5 := f3 n (by simp)
        have lo : ∀ {x : Int}, 0 ≤ x → -9223372036854775808 ≤ x := fun h => by omega
        exact ⟨⟨lo g1.1, g1.2⟩, ⟨lo g2.1, g2.2⟩, ⟨lo g3.1, g3.2⟩, g4, ⟨lo g5.1, g5.2⟩⟩
      · simp at h
    · simp at h
  · simp at h
theorem rdCl_fits (bs : List UInt8) (c : Cl) (r : List UInt8) (h : rdCl bs = some (c, r)) : c.fits := by
  unfold rdCl at h
  split at h
  · rename_i mk q hg
    split at h
    · split at h
      · rename_i col q2 hg2
        split at h
        · rename_i key q3 hg3
          split at h
          · rename_i lo hi q4 hg4
            simp at h
            rw [← h.1]
            have f2 := rdNs_all (P := fun n => -9223372036854775808 ≤ n ∧ n ≤ 9223372036854775807) (fun _ _ _ h => rdI_fits h) hg2
            have f4 := rdNs_all (P := fun n => -9223372036854775808 ≤ n ∧ n ≤ 9223372036854775807) (fun _ _ _ h => rdI_fits h) hg4
            exact ⟨f2 col (by simp), f4 lo (by simp), f4 hi (by simp), Nat.le_trans (rdT_inv hg3).2 (by simp [maxLen])⟩
          · simp at h
        · simp at h
      · simp at h
    · simp at h
  · simp at h
theorem rdEnt_fits {bs : List UInt8} {e : FE} (h : rdEnt bs = some e) : e.fits ∧ e.ops.length ≤ 64 ∧ e.args.length ≤ 8 ∧ e.cls.length ≤ 64 := by
  unfold rdEnt at h
  split at h
  · rename_i eid q hg
    split at h
    · rename_i ops q2 hg2
      split at h
      · rename_i args q3 hg3
        split at h
        · rename_i cls q4 hg4
          split at h
          · simp at h
            subst h
            obtain ⟨a1, b1⟩ := rdL_all rdOp_fits hg2
            obtain ⟨a2, b2⟩ := rdL_all (P := fun n => -9223372036854775808 ≤ n ∧ n ≤ 9223372036854775807) (fun _ _ _ h => rdI_fits h) hg3
            obtain ⟨a3, b3⟩ := rdL_all rdCl_fits hg4
            have g1 := (rdNs_all (P := fun n => 0 ≤ n ∧ n ≤ 9223372036854775807) (fun _ _ _ h => rdUI_fits h) hg) eid (by simp)
            exact ⟨⟨⟨by have := g1.1; simp only; omega, g1.2⟩, a1, a2, a3⟩, by simp only; omega, by simp only; omega, by simp only; omega⟩
          · simp at h
        · simp at h
      · simp at h
    · simp at h
  · simp at h
end Go.Proofs.YtihjcfifakcpgaaGreatDoor

/- frame.Decode. -/
namespace Go.Proofs.YtihjcfifakcpgaaGreatDoor
set_option maxRecDepth 100000
open Go.RowKit

def zeroE : Value := .agg #[.int .i64 0, .slice none 0 0, .slice none 0 0, .slice none 0 0]
/-- What decoding comes to. -/
def DecP (xs : List UInt8) (w : World) (e : Ending) (w' : World) : Prop :=
  Below w.heap.size w w' ∧
    ((∃ ys x vo va vc, xs = sealB ys ∧ rdEnt ys = some x ∧ entE x = 0 ∧ e = .returned (.tuple #[entV x vo va vc, .int .i64 0]) ∧ EntRd w' (fun k => w.heap.size ≤ k) x vo va vc) ∨
     (∃ ys x, xs = sealB ys ∧ rdEnt ys = some x ∧ entE x ≠ 0 ∧ e = .returned (.tuple #[zeroE, .int .i64 (entE x)])) ∨
     (∃ ys, xs = sealB ys ∧ rdEnt ys = none ∧ e = .returned (.tuple #[zeroE, .int .i64 11])) ∨
     ((∀ ys, xs ≠ sealB ys) ∧ e = .returned (.tuple #[zeroE, .int .i64 (if xs.length < 4 then 11 else 12)])))

theorem below4 {w w0 : World} {N B : Nat} (h : Below N w0 w) (hB : N ≤ B) (v0 v1 v2 v3 : Value) :
    Below N w0 ((((w.setCell ⟨B, 0, none⟩ v0).setCell ⟨B, 1, none⟩ v1).setCell ⟨B, 2, none⟩ v2).setCell ⟨B, 3, none⟩ v3) :=
  (((h.setCell hB v0).setCell hB v1).setCell hB v2).setCell hB v3
theorem EntRd.only {w w' : World} {G S : Nat → Prop} {e : FE} {vo va vc : Value} (h : EntRd w G e vo va vc) (ho : Only S w w') (hd : ∀ k, G k → ¬ S k) : EntRd w' G e vo va vc := ⟨RdK.only h.1 ho hd, Rd.only h.2.1 ho hd, RdK.only h.2.2.1 ho hd, h.2.2.2⟩

set_option maxRecDepth 100000 in
set_option maxHeartbeats 8000000 in
theorem decode_ok (w : World) (F : Nat → Prop) (v : Value) (xs : List UInt8) (ht : NibTab w) (hs : ShTab w) (hx : Rd w F v (xs.map B8)) (hl : xs.length ≤ 1000000) :
    Calls Tryz.prog 19 #[v] w (DecP xs w) := by
  obtain ⟨A, n, c, rfl, _⟩ := id hx
  have hb0 := one_box w (.cells #[.int .i64 0, .slice none 0 0, .slice none 0 0, .slice none 0 0] 26)
  have k2 := heap_alloc_new w (.cells #[.int .i64 0, .slice none 0 0, .slice none 0 0, .slice none 0 0] 26)
  have ho := open_ok _ F _ xs (ht.below hb0) (hx.below hb0) hl
  have HT := Lib.hid (And.intro hs hl)
  have HB := Lib.hid hb0
  have HOP := Lib.hid ho
  clear ht hs hx hb0 ho
  go_enter Tryz.func19, Tryz.ntmps19
  go_wp2_with fail
  generalize w.alloc (.cells #[.int .i64 0, .slice none 0 0, .slice none 0 0, .slice none 0 0] 26) = w1 at HB HOP k2 ⊢
  obtain ⟨B2, hB2⟩ : ∃ x, w.heap.size = x := ⟨_, rfl⟩
  rw [hB2] at k2 ⊢
  have HB2 := Lib.hid hB2
  clear hB2
  have hB2l : B2 < w1.heap.size := (Array.getElem?_eq_some_iff.1 k2).1
  refine HOP.out.mono ?_
  rintro e w2 ⟨hb2, hop⟩
  have k22 := (Only.of_below hb2 (fun _ => False)).heap k2 (fun h => h)
  have HB3 := Lib.hid (HB.out.trans (hb2.mono HB.out.size))
  have HS2 := Lib.hid hb2.size
  clear HOP
  rcases hop with ⟨ys, A2, c2, hxs, rfl, hown⟩ | ⟨hno, rfl⟩
  · have hyl : ys.length ≤ 1000000 := by
      have h1 := congrArg List.length hxs
      have h2 : ys.length ≤ (sealB ys).length := by simp [sealB]
      have := HT.out.2
      omega
    have HR := Lib.hid (read_ok w2 (fun _ => True) _ ys (Rd.of_own hown (fun _ _ => trivial)) (by omega))
    have HX := Lib.hid hxs
    clear hxs hown k2 hb2
    go_wp2_with fail
    refine HR.out.mono ?_
    rintro e w3 ⟨b, rfl, hb3, hrd⟩
    have hbge : w2.heap.size ≤ b := by obtain ⟨_, _, h, _⟩ := hrd; exact h
    have HQ := Lib.hid (read_entry _ b ys 0 w3 hrd.bound (fun k hk => hk.2))
    have k23 := (Only.of_below hb3 (fun _ => False)).heap k22 (fun h => h)
    have HB4 := Lib.hid (HB3.out.trans (hb3.mono (by have := HB3.out.size; omega)))
    have HS3 := Lib.hid hb3.size
    have HG := Lib.hid hbge
    clear hrd hb3 k22 HR hbge
    go_wp2_with fail
    refine HQ.out.mono ?_
    rintro e w4 ⟨ho4, hm4⟩
    rw [List.drop_zero] at hm4
    have hne : B2 ≠ b := by have := HG.out; have := HS2.out; omega
    have k24 := ho4.heap k23 hne
    have HB5 := Lib.hid (HB4.out.trans (ho4.belowN (N := w.heap.size) (by have := HB4.out.size; omega) (fun k hk e => by have := HG.out; have := HS2.out; have := HB3.out.size; omega)))
    clear HQ ho4 k23
    have hB24 : B2 < w4.heap.size := (Array.getElem?_eq_some_iff.1 k24).1
    have hW4 : w.heap.size ≤ w4.heap.size := HB5.out.size
    cases hg : rdEnt ys with
    | none =>
      rw [hg] at hm4
      obtain rfl := hm4
      have HNO := Lib.hid hg
      clear hg hne
      go_upto_region 5 with fail
      have hq5 := one_box w4 (.cells #[.int .i64 0, .slice none 0 0, .slice none 0 0, .slice none 0 0] 26)
      have k25 := (Only.of_below hq5 (fun _ => False)).heap k24 (fun h => h)
      have HB6 := Lib.hid (HB5.out.trans (hq5.mono hW4))
      clear hq5 k24
      generalize w4.alloc (.cells #[.int .i64 0, .slice none 0 0, .slice none 0 0, .slice none 0 0] 26) = w5 at k25 HB6 ⊢
      obtain ⟨⟨z0, z1, z2, z3⟩, y0, y1, y2, y3⟩ := blk4 k25
      go_wp2_with fail
      refine bodyPost_ret (results_cell_row2 rfl _ _ _ _ _ _ _ rfl (put4 k25 _ _ _ _) Tryz.underlying26 rfl (by kernel_rfl)) rfl ⟨below4 HB6.out (by have := HB2.out; omega) _ _ _ _, .inr (.inr (.inl ⟨ys, HX.out, HNO.out, ?_⟩))⟩
      exact rfl
    | some x =>
      rw [hg] at hm4
      obtain ⟨vo, va, vc, rfl, q1, q2, q3⟩ := hm4
      obtain ⟨hfit, _, _, hcl⟩ := rdEnt_fits hg
      have hent : EntRd w4 (fun k => w3.heap.size ≤ k) x vo va vc := ⟨q1, q2, q3, hfit⟩
      obtain ⟨A3, c3, rfl, _, _⟩ := hent.1.slice
      obtain ⟨A4, c4, rfl, _, _⟩ := ivs_slice hent.2.1
      obtain ⟨A5, c5, rfl, _, _⟩ := hent.2.2.1.slice
      have HXE := Lib.hid hg
      clear hg q1 q2 q3 hne hfit
      unfold entV
      obtain ⟨xid, hxid⟩ : ∃ y, x.id = y := ⟨_, rfl⟩
      rw [hxid]
      go_upto_region 5 with fail
      have hq5 := one_box w4 (.cells #[.int .i64 xid, .slice A3 x.ops.length c3, .slice A4 x.args.length c4, .slice A5 x.cls.length c5] 26)
      have k6 := heap_alloc_new w4 (.cells #[.int .i64 xid, .slice A3 x.ops.length c3, .slice A4 x.args.length c4, .slice A5 x.cls.length c5] 26)
      have k25 := (Only.of_below hq5 (fun _ => False)).heap k24 (fun h => h)
      have hb6 := HB5.out.trans (hq5.mono hW4)
      have hen5 := hent.below hq5
      have HFC := Lib.hid (fcheck_ok _ _ x _ _ _ hen5 (HT.out.1.below hb6) (by omega))
      have HB6 := Lib.hid hb6
      have HEN := Lib.hid hen5
      clear hq5 k24 hb6 hen5 hent
      unfold entV at HFC
      rw [hxid] at HFC
      generalize w4.alloc (.cells #[.int .i64 xid, .slice A3 x.ops.length c3, .slice A4 x.args.length c4, .slice A5 x.cls.length c5] 26) = w5 at k25 k6 HB6 HEN HFC ⊢
      generalize w4.heap.size = B6 at k6 hB24 hW4 ⊢
      obtain ⟨⟨x0, x1, x2, x3⟩, _, _, _, _⟩ := blk4 k6
      go_wp2_with fail
      refine HFC.out.mono ?_
      rintro e w6 ⟨rfl, hb7⟩
      have k26 := (Only.of_below hb7 (fun _ => False)).heap k25 (fun h => h)
      have k66 := (Only.of_below hb7 (fun _ => False)).heap k6 (fun h => h)
      have HB7 := Lib.hid (HB6.out.trans (hb7.mono HB6.out.size))
      have HEN6 := Lib.hid (HEN.out.below hb7)
      clear HFC hb7 k25 k6 HEN x0 x1 x2 x3
      obtain ⟨⟨z0, z1, z2, z3⟩, y0, y1, y2, y3⟩ := blk4 k26
      obtain ⟨⟨x0, x1, x2, x3⟩, _, _, _, _⟩ := blk4 k66
      obtain ⟨cd, hcd⟩ : ∃ c, entE x = c := ⟨_, rfl⟩
      rw [hcd]
      have HCD := Lib.hid hcd
      clear hcd
      by_cases hz : cd = 0
      · subst hz
        go_wp2_with fail
        refine bodyPost_ret (results_cell_row2 rfl _ _ _ _ _ _ _ rfl (put4 k26 _ _ _ _) Tryz.underlying26 rfl (by kernel_rfl)) rfl ⟨below4 HB7.out (by have := HB2.out; omega) _ _ _ _, .inl ⟨ys, x, _, _, _, HX.out, HXE.out, HCD.out, ?_, HEN6.out.only (only4b w6 B2 _ _ _ _) (fun k hk e => by have := HS2.out; have := HS3.out; omega) |>.mono (fun k hk => by have := HB4.out.size; omega)⟩⟩
        rw [entV, hxid]
        rfl
      · have hne : (cd != 0) = true := by simpa using hz
        go_wp2_with fail
        refine bodyPost_ret (results_cell_row2 rfl _ _ _ _ _ _ _ rfl (put4 k26 _ _ _ _) Tryz.underlying26 rfl (by kernel_rfl)) rfl ⟨below4 HB7.out (by have := HB2.out; omega) _ _ _ _, .inr (.inl ⟨ys, x, HX.out, HXE.out, by rw [HCD.out]; exact hz, ?_⟩)⟩
        rw [HCD.out]
        rfl
  · have hne : ((if xs.length < 4 then (11 : Int) else 12) != 0) = true := by split <;> rfl
    have HNO := Lib.hid hno
    clear hno hb2 k2
    generalize hcd : (if xs.length < 4 then (11 : Int) else 12) = cd at hne ⊢
    have HCD := Lib.hid hcd
    clear hcd
    obtain ⟨⟨z0, z1, z2, z3⟩, y0, y1, y2, y3⟩ := blk4 k22
    go_wp2_with fail
    refine bodyPost_ret (results_cell_row2 rfl _ _ _ _ _ _ _ rfl (put4 k22 _ _ _ _) Tryz.underlying26 rfl (by kernel_rfl)) rfl ⟨below4 HB3.out (by have := HB2.out; omega) _ _ _ _, .inr (.inr (.inr ⟨HNO.out, ?_⟩))⟩
    rw [HCD.out]
    exact rfl
end Go.Proofs.YtihjcfifakcpgaaGreatDoor

/- frame.Same. -/
namespace Go.Proofs.YtihjcfifakcpgaaGreatDoor
set_option maxRecDepth 100000
open Go.RowKit

theorem FE.eq_iff (a b : FE) : a = b ↔ a.id = b.id ∧ a.ops = b.ops ∧ a.args = b.args ∧ a.cls = b.cls := by
  obtain ⟨a1, a2, a3, a4⟩ := a
  obtain ⟨b1, b2, b3, b4⟩ := b
  simp

set_option maxRecDepth 100000 in
set_option maxHeartbeats 4000000 in
theorem same_entry (w : World) (F G : Nat → Prop) (a b : FE) (vo va vc uo ua uc : Value) (ha : EntRd w F a vo va vc) (hb : EntRd w G b uo ua uc) (hl : a.ops.length ≤ 1000000 ∧ a.cls.length ≤ 1000000) :
    Calls Tryz.prog 23 #[entV a vo va vc, entV b uo ua uc] w (BoolP (a = b) w) := by
  obtain ⟨A1, c1, rfl, _, _⟩ := ha.1.slice
  obtain ⟨A2, c2, rfl, _, _⟩ := ivs_slice ha.2.1
  obtain ⟨A3, c3, rfl, _, _⟩ := ha.2.2.1.slice
  obtain ⟨D1, d1, rfl, _, _⟩ := hb.1.slice
  obtain ⟨D2, d2, rfl, _, _⟩ := ivs_slice hb.2.1
  obtain ⟨D3, d3, rfl, _, _⟩ := hb.2.2.1.slice
  unfold entV
  obtain ⟨ia, hia⟩ : ∃ y, a.id = y := ⟨_, rfl⟩
  obtain ⟨ib, hib⟩ : ∃ y, b.id = y := ⟨_, rfl⟩
  rw [hia, hib]
  have hbx : Below w.heap.size w ((w.alloc (.cells #[.int .i64 ia, .slice A1 a.ops.length c1, .slice A2 a.args.length c2, .slice A3 a.cls.length c3] 26)).alloc (.cells #[.int .i64 ib, .slice D1 b.ops.length d1, .slice D2 b.args.length d2, .slice D3 b.cls.length d3] 26)) := ((Below.refl _ _).alloc (Nat.le_refl _) _).alloc (by simp) _
  have k1 : ((w.alloc (.cells #[.int .i64 ia, .slice A1 a.ops.length c1, .slice A2 a.args.length c2, .slice A3 a.cls.length c3] 26)).alloc (.cells #[.int .i64 ib, .slice D1 b.ops.length d1, .slice D2 b.args.length d2, .slice D3 b.cls.length d3] 26)).heap[w.heap.size]? = some (.cells #[.int .i64 ia, .slice A1 a.ops.length c1, .slice A2 a.args.length c2, .slice A3 a.cls.length c3] 26) := (Only.of_below (one_box _ _) (fun _ => False)).heap (heap_alloc_new _ _) (fun h => h)
  have k2 : ((w.alloc (.cells #[.int .i64 ia, .slice A1 a.ops.length c1, .slice A2 a.args.length c2, .slice A3 a.cls.length c3] 26)).alloc (.cells #[.int .i64 ib, .slice D1 b.ops.length d1, .slice D2 b.args.length d2, .slice D3 b.cls.length d3] 26)).heap[w.heap.size + 1]? = some (.cells #[.int .i64 ib, .slice D1 b.ops.length d1, .slice D2 b.args.length d2, .slice D3 b.cls.length d3] 26) := by
    have := heap_alloc_new (w.alloc (.cells #[.int .i64 ia, .slice A1 a.ops.length c1, .slice A2 a.args.length c2, .slice A3 a.cls.length c3] 26)) (.cells #[.int .i64 ib, .slice D1 b.ops.length d1, .slice D2 b.args.length d2, .slice D3 b.cls.length d3] 26)
    simpa using this
  have HI := Lib.hid (And.intro hia hib)
  have HL := Lib.hid hl
  have HEA := Lib.hid (ha.below hbx)
  have HEB := Lib.hid (hb.below hbx)
  clear hia hib hl ha hb
  go_enter Tryz.func23, Tryz.ntmps23
  go_upto_region 1 with fail
  generalize (w.alloc (.cells #[.int .i64 ia, .slice A1 a.ops.length c1, .slice A2 a.args.length c2, .slice A3 a.cls.length c3] 26)).alloc (.cells #[.int .i64 ib, .slice D1 b.ops.length d1, .slice D2 b.args.length d2, .slice D3 b.cls.length d3] 26) = w1 at hbx k1 k2 HEA HEB ⊢
  have HB1 := Lib.hid hbx
  clear hbx
  generalize w.heap.size + 1 = Q2 at k2 ⊢
  obtain ⟨Q1, hQ1⟩ : ∃ y, w.heap.size = y := ⟨_, rfl⟩
  have hq1 := k1
  rw [hQ1] at hq1 ⊢
  clear k1
  obtain ⟨⟨x0, x1, x2, x3⟩, _, _, _, _⟩ := blk4 hq1
  obtain ⟨⟨z0, z1, z2, z3⟩, _, _, _, _⟩ := blk4 k2
  clear hQ1
  by_cases hi : ia = ib
  · subst hi
    go_wp2_with fail
    refine (equalO_ok w1 _ _ _ _ _ _ HEA.out.1 HEB.out.1 HL.out.1).mono ?_
    rintro e w2 ⟨t1, ht1, rfl, hb2⟩
    have hq2 := (Only.of_below hb2 (fun _ => False)).heap hq1 (fun h => h)
    have k22 := (Only.of_below hb2 (fun _ => False)).heap k2 (fun h => h)
    have HB2 := Lib.hid (HB1.out.trans (hb2.mono HB1.out.size))
    have HEA2 := Lib.hid (HEA.out.below hb2)
    have HEB2 := Lib.hid (HEB.out.below hb2)
    have HT1 := Lib.hid (show Tells t1 (a.ops = b.ops) from ht1)
    clear hb2 hq1 k2 x0 x1 x2 x3 z0 z1 z2 z3 ht1
    obtain ⟨⟨x0, x1, x2, x3⟩, _, _, _, _⟩ := blk4 hq2
    obtain ⟨⟨z0, z1, z2, z3⟩, _, _, _, _⟩ := blk4 k22
    cases t1 with
    | false =>
      go_wp2_with fail
      go_ret
      exact BoolP.no (fun e => HT1.out.neg ((FE.eq_iff a b).1 e).2.1) HB2.out
    | true =>
      go_wp2_with fail
      refine (equalI_ok w2 _ _ _ _ _ _ HEA2.out.2.1 HEB2.out.2.1).mono ?_
      rintro e w3 ⟨t2, ht2, rfl, hb3⟩
      have hq3 := (Only.of_below hb3 (fun _ => False)).heap hq2 (fun h => h)
      have k23 := (Only.of_below hb3 (fun _ => False)).heap k22 (fun h => h)
      have HB3 := Lib.hid (HB2.out.trans (hb3.mono HB2.out.size))
      have HEA3 := Lib.hid (HEA2.out.below hb3)
      have HEB3 := Lib.hid (HEB2.out.below hb3)
      have HT2 := Lib.hid (show Tells t2 (a.args = b.args) from ht2)
      clear hb3 hq2 k22 x0 x1 x2 x3 z0 z1 z2 z3 ht2
      obtain ⟨⟨x0, x1, x2, x3⟩, _, _, _, _⟩ := blk4 hq3
      obtain ⟨⟨z0, z1, z2, z3⟩, _, _, _, _⟩ := blk4 k23
      cases t2 with
      | false =>
        go_wp2_with fail
        go_ret
        exact BoolP.no (fun e => HT2.out.neg ((FE.eq_iff a b).1 e).2.2.1) HB3.out
      | true =>
        go_wp2_with fail
        refine (equal_ok w3 _ _ _ _ _ _ HEA3.out.2.2.1 HEB3.out.2.2.1 HL.out.2).mono ?_
        rintro e w4 ⟨t3, ht3, rfl, hb4⟩
        have HB4 := Lib.hid (HB3.out.trans (hb4.mono HB3.out.size))
        have HT3 := Lib.hid (show Tells t3 (a.cls = b.cls) from ht3)
        clear hb4 hq3 k23 ht3
        cases t3 with
        | false =>
          go_wp2_with fail
          go_ret
          exact BoolP.no (fun e => HT3.out.neg ((FE.eq_iff a b).1 e).2.2.2) HB4.out
        | true =>
          go_wp2_with fail
          go_ret
          exact BoolP.yes ((FE.eq_iff a b).2 ⟨HI.out.1.trans HI.out.2.symm, HT1.out.pos, HT2.out.pos, HT3.out.pos⟩) HB4.out
  · have hne : (ia == ib) = false := by simpa using hi
    have HNE := Lib.hid hi
    clear hi
    go_wp2_with fail
    go_ret
    exact BoolP.no (fun e => HNE.out (by rw [← HI.out.1, ← HI.out.2, e])) HB1.out
end Go.Proofs.YtihjcfifakcpgaaGreatDoor
