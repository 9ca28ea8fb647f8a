/- exec over a log of one empty piece: Acts, admit, Step, Outcomes. -/
import Derived.Test.YtiacbhnkcllpjaaGreatDoorExecD
namespace Go.Proofs.YtiacbhnkcllpjaaGreatDoor
set_option maxRecDepth 100000
open Go.RowKit Go.Maps Go.WideShapes

set_option maxRecDepth 100000 in
set_option maxHeartbeats 1000000 in
theorem exActs1_ok (w : World) (F : Nat → Prop) (R m2 : Nat) (cnt : Nat) (g : Value → Option Value) (h : RepG w F R m2 0 cnt g) : Calls Tryz.prog 19 #[.pointer (some ⟨R, 0, none⟩)] w (OneAct w) := by
  obtain ⟨L, f, T, Kl, B, m1, n, h0, h1, -, -, h3, h4, h5, -⟩ := h
  have HX := Lib.hid (And.intro h0 (And.intro h1 (And.intro h3 (And.intro h4 h5))))
  clear h0 h1 h3 h4 h5
  go_enter Tryz.func19, Tryz.ntmps19
  go_wp2_with fail
  refine wp_region_held_drew (S := (fun w' => Below w.heap.size w w' ∧ w'.heap[R]? = some (repG L f T Kl B m1 m2 0))) (by kernel_rfl) ⟨(Below.refl _ _).drew, HX.out.1⟩ (fun hHeld => ?_)
  refine takeS (i := 0) (v := ?_) rfl (by kernel_rfl) (by kernel_rfl) (by kernel_rfl) (fun _ _ _ h => h) (by rfl) (fun wS hSw => ?_) hHeld ?_
  rotate_left
  · obtain ⟨s0, s1⟩ := hSw; go_simp; try with_reducible rfl
  try simp only [Act.put, List.setIfInBounds_toArray, List.set_cons_zero, List.set_cons_succ]
  refine takeS (i := 1) (v := ?_) rfl (by kernel_rfl) (by kernel_rfl) (by kernel_rfl) (fun _ _ _ h => h) (by rfl) (fun wS hSw => ?_) hHeld ?_
  rotate_left
  · obtain ⟨s0, s1⟩ := hSw; go_simp; try with_reducible rfl
  try simp only [Act.put, List.setIfInBounds_toArray, List.set_cons_zero, List.set_cons_succ]
  refine takeS (i := 2) (v := ?_) rfl (by kernel_rfl) (by kernel_rfl) (by kernel_rfl) (fun _ _ _ h => h) (by rfl) (fun wS hSw => ?_) hHeld ?_
  rotate_left
  · obtain ⟨s0, s1⟩ := hSw; go_simp; try with_reducible rfl
  try simp only [Act.put, List.setIfInBounds_toArray, List.set_cons_zero, List.set_cons_succ]
  refine takeS (i := 3) (v := ?_) rfl (by kernel_rfl) (by kernel_rfl) (by kernel_rfl) (fun _ _ _ h => h) (by rfl) (fun wS hSw => ?_) hHeld ?_
  rotate_left
  · obtain ⟨s0, s1⟩ := hSw; obtain ⟨⟨r0, r3, r4, r6, r7⟩, -⟩ := repG_cells s1; go_simp; try with_reducible rfl
  try simp only [Act.put, List.setIfInBounds_toArray, List.set_cons_zero, List.set_cons_succ]
  refine takeS (i := 4) (v := ?_) rfl (by kernel_rfl) (by kernel_rfl) (by kernel_rfl) (fun _ _ _ h => h) (by rfl) (fun wS hSw => ?_) hHeld ?_
  rotate_left
  · obtain ⟨s0, s1⟩ := hSw; go_simp; try with_reducible rfl
  try simp only [Act.put, List.setIfInBounds_toArray, List.set_cons_zero, List.set_cons_succ]
  refine takeS (i := 5) (v := ?_) rfl (by kernel_rfl) (by kernel_rfl) (by kernel_rfl) (fun _ _ _ h => h) (by rfl) (fun wS hSw => ?_) hHeld ?_
  rotate_left
  · obtain ⟨s0, s1⟩ := hSw; go_simp; try with_reducible rfl
  try simp only [Act.put, List.setIfInBounds_toArray, List.set_cons_zero, List.set_cons_succ]
  refine takeS (i := 6) (v := ?_) rfl (by kernel_rfl) (by kernel_rfl) (by kernel_rfl) (fun _ _ _ h => h) (by rfl) (fun wS hSw => ?_) hHeld ?_
  rotate_left
  · obtain ⟨s0, s1⟩ := hSw; go_simp; try with_reducible rfl
  try simp only [Act.put, List.setIfInBounds_toArray, List.set_cons_zero, List.set_cons_succ]
  refine takeS (i := 7) (v := ?_) rfl (by kernel_rfl) (by kernel_rfl) (by kernel_rfl) (fun _ _ _ h => h) (by rfl) (fun wS hSw => ?_) hHeld ?_
  rotate_left
  · obtain ⟨s0, s1⟩ := hSw; obtain ⟨⟨r0, r3, r4, r6, r7⟩, -⟩ := repG_cells s1; go_simp; try with_reducible rfl
  try simp only [Act.put, List.setIfInBounds_toArray, List.set_cons_zero, List.set_cons_succ]
  refine takeS (i := 8) (v := ?_) rfl (by kernel_rfl) (by kernel_rfl) (by kernel_rfl) (fun _ _ _ h => h) (by rfl) (fun wS hSw => ?_) hHeld ?_
  rotate_left
  · obtain ⟨s0, s1⟩ := hSw; go_simp; try with_reducible rfl
  try simp only [Act.put, List.setIfInBounds_toArray, List.set_cons_zero, List.set_cons_succ]
  refine takeS (i := 9) (v := ?_) rfl (by kernel_rfl) (by kernel_rfl) (by kernel_rfl) (fun _ _ _ h => h) (by rfl) (fun wS hSw => ?_) hHeld ?_
  rotate_left
  · obtain ⟨s0, s1⟩ := hSw; go_simp; try with_reducible rfl
  try simp only [Act.put, List.setIfInBounds_toArray, List.set_cons_zero, List.set_cons_succ]
  refine takeS (i := 10) (v := ?_) rfl (by kernel_rfl) (by kernel_rfl) (by kernel_rfl) (fun _ _ _ h => h) (by rfl) (fun wS hSw => ?_) hHeld ?_
  rotate_left
  · obtain ⟨s0, s1⟩ := hSw; go_simp; try with_reducible rfl
  try simp only [Act.put, List.setIfInBounds_toArray, List.set_cons_zero, List.set_cons_succ]
  refine takeS (i := 11) (v := ?_) rfl (by kernel_rfl) (by kernel_rfl) (by kernel_rfl) (fun _ _ _ h => h) (by rfl) (fun wS hSw => ?_) hHeld ?_
  rotate_left
  · obtain ⟨s0, s1⟩ := hSw; obtain ⟨⟨r0, r3, r4, r6, r7⟩, -⟩ := repG_cells s1; go_simp; try with_reducible rfl
  try simp only [Act.put, List.setIfInBounds_toArray, List.set_cons_zero, List.set_cons_succ]
  refine takeS (i := 14) (v := ?_) rfl (by kernel_rfl) (by kernel_rfl) (by kernel_rfl) (fun _ _ _ h => h) (by rfl) (fun wS hSw => ?_) hHeld ?_
  rotate_left
  · obtain ⟨s0, s1⟩ := hSw; go_simp; try with_reducible rfl
  try simp only [Act.put, List.setIfInBounds_toArray, List.set_cons_zero, List.set_cons_succ]
  refine takeS (i := 15) (v := ?_) rfl (by kernel_rfl) (by kernel_rfl) (by kernel_rfl) (fun _ _ _ h => h) (by rfl) (fun wS hSw => ?_) hHeld ?_
  rotate_left
  · obtain ⟨s0, s1⟩ := hSw; go_simp; try with_reducible rfl
  try simp only [Act.put, List.setIfInBounds_toArray, List.set_cons_zero, List.set_cons_succ]
  refine takeS (i := 16) (v := ?_) rfl (by kernel_rfl) (by kernel_rfl) (by kernel_rfl) (fun _ _ _ h => h) (by rfl) (fun wS hSw => ?_) hHeld ?_
  rotate_left
  · obtain ⟨s0, s1⟩ := hSw; go_simp; try with_reducible rfl
  try simp only [Act.put, List.setIfInBounds_toArray, List.set_cons_zero, List.set_cons_succ]
  refine takeS (i := 17) (v := ?_) rfl (by kernel_rfl) (by kernel_rfl) (by kernel_rfl) (fun _ _ _ h => h) (by rfl) (fun wS hSw => ?_) hHeld ?_
  rotate_left
  · obtain ⟨s0, s1⟩ := hSw; obtain ⟨⟨r0, r3, r4, r6, r7⟩, -⟩ := repG_cells s1; go_simp; try with_reducible rfl
  try simp only [Act.put, List.setIfInBounds_toArray, List.set_cons_zero, List.set_cons_succ]
  refine wpAnyH_ready (rs := [12]) (by kernel_rfl) (by simp) (consS (i := 12) rfl (fun K hK => ?_) AllReadyH.nil)
  go_simp
  refine (loglen_ok _ F L [[]] (HX.out.2.1.below hHeld.1)).mono ?_
  rintro e wn ⟨rfl, rfl⟩
  try go_simp
  refine hK.out _ _ (hHeld) (fun hHeld2 => ?_)
  clear hK K hHeld 
  have hHeld := hHeld2
  clear hHeld2
  try simp only [Act.put, List.setIfInBounds_toArray, List.set_cons_zero, List.set_cons_succ]
  refine takeS (i := 13) (v := ?_) rfl (by kernel_rfl) (by kernel_rfl) (by kernel_rfl) (fun _ _ _ h => h) (by rfl) (fun wS hSw => ?_) hHeld ?_
  rotate_left
  · obtain ⟨s0, s1⟩ := hSw; go_simp; try with_reducible rfl
  try simp only [Act.put, List.setIfInBounds_toArray, List.set_cons_zero, List.set_cons_succ]
  refine wpAnyH_ready (rs := [18]) (by kernel_rfl) (by simp) (consS (i := 18) rfl (fun K hK => ?_) AllReadyH.nil)
  go_simp
  refine (lkReady0_ok _ Kl (HX.out.2.2.1.below hHeld.1)).mono ?_
  rintro e wn ⟨rfl, hbn⟩
  try go_simp
  refine hK.out _ _ (heldB1 hHeld hbn) (fun hHeld2 => ?_)
  clear hK K hHeld hbn
  have hHeld := hHeld2
  clear hHeld2
  try simp only [Act.put, List.setIfInBounds_toArray, List.set_cons_zero, List.set_cons_succ]
  refine wpAnyH_ready (rs := [19]) (by kernel_rfl) (by simp) (consS (i := 19) rfl (fun K hK => ?_) AllReadyH.nil)
  go_simp
  refine (bacts1_ok _ B n HX.out.2.2.2.1 (HX.out.2.2.2.2.below hHeld.1)).mono ?_
  rintro e wn ⟨G, o, cG, rfl, hbn, hGl, q0, q1, q2⟩
  have HQ := Lib.hid (And.intro q0 (And.intro q1 (And.intro q2 (Nat.le_trans hHeld.1.size hGl))))
  clear q0 q1 q2 hGl
  try go_simp
  refine hK.out _ _ (heldB1 hHeld hbn) (fun hHeld2 => ?_)
  clear hK K hHeld hbn
  have hHeld := hHeld2
  clear hHeld2
  try simp only [Act.put, List.setIfInBounds_toArray, List.set_cons_zero, List.set_cons_succ]
  refine takeS (i := 20) (v := ?_) rfl (by kernel_rfl) (by kernel_rfl) (by kernel_rfl) (fun _ _ _ h => h) (by rfl) (fun wS hSw => ?_) hHeld ?_
  rotate_left
  · obtain ⟨s0, s1⟩ := hSw; go_simp; try with_reducible rfl
  try simp only [Act.put, List.setIfInBounds_toArray, List.set_cons_zero, List.set_cons_succ]
  refine wpAnyH_done (by kernel_rfl) ?_ _
  have HZ := Lib.hid hHeld.1
  clear hHeld
  go_wp2_with fail
  go_ret
  exact ⟨G, o, cG, rfl, HZ.out, HQ.out.2.2.2, HQ.out.1, HQ.out.2.1, HQ.out.2.2.1⟩
/-- An object that is none of a Locks', a board's. -/
def Unlike (ob : Obj) : Prop := (∀ cs, ob ≠ .cells cs 227 (0, 0)) ∧ (∀ cs, ob ≠ .cells cs 141 (0, 0)) ∧ (∀ cs, ob ≠ .cells cs 142 (0, 0)) ∧ ∀ s r, ob ≠ .chan 1 #[] false s r false
theorem only_other {w w' : World} {b k : Nat} {ob o : Obj} (ho : Only (fun k => k = b) w w') (hb : w.heap[b]? = some ob) (hk : w.heap[k]? = some o) (hne : ob ≠ o) : w'.heap[k]? = some o := ho.heap hk (by
  rintro rfl
  rw [hb] at hk
  injection hk with e
  exact hne e)
theorem LkE.other {w w' : World} {b K : Nat} {ob : Obj} (h : LkE w K) (ho : Only (fun k => k = b) w w') (hb : w.heap[b]? = some ob) (hu : Unlike ob) : LkE w' K := by
  obtain ⟨m1, m2, m3, h⟩ := h
  exact ⟨m1, m2, m3, only_other ho hb h (hu.1 _)⟩
theorem BoardE.other {w w' : World} {b B n : Nat} {ob : Obj} (h : BoardE w B n) (ho : Only (fun k => k = b) w w') (hb : w.heap[b]? = some ob) (hu : Unlike ob) : BoardE w' B n := by
  obtain ⟨S, h1, cs, h2, h3, h4⟩ := h
  refine ⟨S, only_other ho hb h1 (hu.2.1 _), cs, only_other ho hb h2 (hu.2.2.1 _), h3, fun i hi => ?_⟩
  obtain ⟨c, e, s, r, hc⟩ := h4 i hi
  exact ⟨c, e, s, r, only_other ho hb hc (hu.2.2.2 _ _)⟩
theorem unlike_map (es : _) (cl : Nat) : Unlike (.map es cl) := ⟨(fun _ e => by cases e), (fun _ e => by cases e), (fun _ e => by cases e), (fun _ _ e => by cases e)⟩
theorem unlike_rep (L : Nat) (f : Int) (T K B m1 m2 : Nat) (adm : Int) : Unlike (repG L f T K B m1 m2 adm) := by
  unfold repG
  refine ⟨fun cs e => ?_, fun cs e => ?_, fun cs e => ?_, fun s r e => by cases e⟩ <;> (injection e with _ e; exact absurd e (by decide))
/-- Outcomes of which the first one is there: malformed. -/
noncomputable def outG : Value → Option Value := updM (fun _ => none) (.int .i64 0) (some (.agg #[.int .i64 7, .int .i64 0, .int .i64 0]))
set_option maxRecDepth 100000 in
set_option maxHeartbeats 2000000 in
theorem admit1_ok (w : World) (F : Nat → Prop) (R m2 : Nat) (hRm : R ≠ m2) (h : RepG w F R m2 0 0 (fun _ => none)) : Calls Tryz.prog 104 #[.pointer (some ⟨R, 0, none⟩), .agg #[.int .i64 1, .int .i64 0, .int .i64 0]] w fun e w' =>
    e = .returned (.int .i64 0) ∧ RepG w' F R m2 1 1 outG ∧ Only (fun k => k = R ∨ k = m2) w w' := by
  have hb := new_box w (.cells #[.int .i64 1, .int .i64 0, .int .i64 0] 37)
  have h1 := h.below hb
  obtain ⟨L, f, T, Kl, B, m1, n, k0, hL, hFR, hFm, hK, hn, hB, hM⟩ := h1
  go_enter Tryz.func104, Tryz.ntmps104
  go_upto_region 1 with fail
  generalize w.alloc (.cells #[.int .i64 1, .int .i64 0, .int .i64 0] 37) = w1 at hb k0 hL hK hB hM ⊢
  obtain ⟨⟨r0, r3, r4, r6, r7⟩, -⟩ := repG_cells k0
  have HX := Lib.hid (And.intro hb (And.intro k0 (And.intro hL (And.intro hK (And.intro hB (And.intro hM (And.intro hFR (And.intro hFm hn))))))))
  have HE := Lib.hid (entry0_ok w1 F L hL)
  clear hb k0 hL hK hB hM h hFR hFm hn
  go_wp2_with fail
  refine HE.out.mono ?_
  rintro e w2 ⟨rfl, hb2⟩
  unfold zeroEn
  have hx := new_box w2 (.cells #[.int .i64 0, .slice none 0 0, .slice none 0 0, .slice none 0 0] 76)
  have h13 := hb2.trans (hx.mono hb2.size)
  have k3 := (Only.of_below h13 (fun _ => False)).heap HX.out.2.1 (fun h => h)
  have HM3 := Lib.hid (HX.out.2.2.2.2.2.1.below h13)
  have HB3 := Lib.hid h13
  clear r0 r3 r4 r6 r7 HE hb2
  go_upto_region 3 with fail
  generalize w2.alloc (.cells #[.int .i64 0, .slice none 0 0, .slice none 0 0, .slice none 0 0] 76) = w3 at k3 HM3 HB3 hx h13 ⊢
  obtain ⟨⟨r0, r3, r4, r6, r7⟩, rf⟩ := repG_cells k3
  clear hx h13
  go_upto_region 5 with (at_mapUpdate; go_loud (refine wpList_store _ rfl _ _ _ 136 rfl lawI Tryz.underlying136 rfl HM3.out (by unfold maxLen; omega) rfl rfl keyI0 ?_); intro w4 hm4 ho4)
  have k4 := ho4.heap k3 hRm
  obtain ⟨⟨s0, s3, s4, s6, s7⟩, sf⟩ := repG_cells k4
  have HM4 := Lib.hid (And.intro hm4 (And.intro ho4 k4))
  clear hm4 ho4 k4 k3 r0 r3 r4 r6 r7 rf
  go_wp2_with fail
  go_ret
  have hs := Only.set1 w4 R 7 (.int .i64 1)
  have hof : ∀ k, F k → ¬ (k = m2) := fun k hk e => HX.out.2.2.2.2.2.2.2.1 (e ▸ hk)
  have hoR : ∀ k, F k → ¬ (k = R) := fun k hk e => HX.out.2.2.2.2.2.2.1 (e ▸ hk)
  obtain ⟨hm4, ho4, k4⟩ := HM4.out
  have hmm : ∃ es cl, w3.heap[m2]? = some (.map es cl) := by
    obtain ⟨D, ⟨es, cl, q, _⟩, _⟩ := HM3.out
    exact ⟨es, cl, q⟩
  obtain ⟨es, cl, hmm⟩ := hmm
  have hK4 := (HX.out.2.2.2.1.below HB3.out).other ho4 hmm (unlike_map es cl)
  have hB4 := (HX.out.2.2.2.2.1.below HB3.out).other ho4 hmm (unlike_map es cl)
  refine ⟨rfl, ⟨L, f, T, Kl, B, m1, n, ?_, ((HX.out.2.2.1.below HB3.out).only ho4 hof).only hs hoR, HX.out.2.2.2.2.2.2.1, HX.out.2.2.2.2.2.2.2.1, hK4.other hs k4 (unlike_rep _ _ _ _ _ _ _ _), HX.out.2.2.2.2.2.2.2.2, hB4.other hs k4 (unlike_rep _ _ _ _ _ _ _ _), ?_⟩, ?_⟩
  · have := heap_setCell_same w4 R 7 _ _ (.int .i64 1) k4
    simpa [repG] using this
  · exact MapAt.only hm4 hs (Ne.symm hRm)
  · exact ((Only.of_below (HX.out.1.trans (HB3.out.mono HX.out.1.size)) _).trans ho4 (fun k _ h => .inr h)).trans hs (fun k _ h => .inl h)
theorem out3 {w : World} {B : Nat} {a b c : Value} {t : TypeId} (h : w.heap[B]? = some (.cells #[a, b, c] t (0, 0))) : w.cell? ⟨B, 0, none⟩ = some a ∧ w.cell? ⟨B, 1, none⟩ = some b ∧ w.cell? ⟨B, 2, none⟩ = some c := by
  refine ⟨?_, ?_, ?_⟩ <;> simp [World.cell?, h]
theorem only_set3 (w : World) (C : Nat) (a b c : Value) : Only (fun k => k = C) w (((w.setCell ⟨C, 0, none⟩ a).setCell ⟨C, 1, none⟩ b).setCell ⟨C, 2, none⟩ c) :=
  ((Only.set1 w C 0 a).trans (Only.set1 _ C 1 b) (fun _ _ h => h)).trans (Only.set1 _ C 2 c) (fun _ _ h => h)
theorem unlike_act (cs : Array Value) : Unlike (.cells cs 37 (0, 0)) := by
  refine ⟨fun cs e => ?_, fun cs e => ?_, fun cs e => ?_, fun s r e => by cases e⟩ <;> (injection e with _ e; exact absurd e (by decide))
theorem RepG.other {w w' : World} {F : Nat → Prop} {R m2 : Nat} {adm : Int} {cnt : Nat} {g : Value → Option Value} {C : Nat} {ob : Obj} (h : RepG w F R m2 adm cnt g) (ho : Only (fun k => k = C) w w') (hC : w.heap[C]? = some ob) (hu : Unlike ob) (h1 : C ≠ R) (h2 : C ≠ m2) (h3 : ¬ F C) : RepG w' F R m2 adm cnt g := by
  obtain ⟨L, f, T, K, B, m1, n, k0, hL, hFR, hFm, hK, hn, hB, hM⟩ := h
  exact ⟨L, f, T, K, B, m1, n, ho.heap k0 (Ne.symm h1), hL.only ho (fun k hk e => h3 (e ▸ hk)), hFR, hFm, hK.other ho hC hu, hn, hB.other ho hC hu, hM.only ho (Ne.symm h2)⟩
theorem Tryz.idx4 (a b c d : Value) (hb : b = .func (.func 104) #[] #[]) (hc : c = .func (.func 105) #[] #[]) (hd : d = .func (.func 106) #[] #[]) (ha : a = .nilFunc) (W : World) : (Instr.index 145 (.agg #[a, b, c, d]) (.int .i64 1)).run Tryz.prog W = .ok b W := by subst ha hb hc hd; kernel_rfl
set_option maxRecDepth 100000 in
set_option maxHeartbeats 2000000 in
theorem step1_ok (w : World) (F : Nat → Prop) (hF : ∀ k, F k → k < w.heap.size) (R m2 : Nat) (hRm : R ≠ m2) (h : RepG w F R m2 0 0 (fun _ => none)) : Calls Tryz.prog 15 #[.pointer (some ⟨R, 0, none⟩), .int .i64 0] w fun e w' =>
    e = .returned (.tuple #[.agg #[.int .i64 1, .int .i64 0, .int .i64 0], .int .i64 0]) ∧ RepG w' F R m2 1 1 outG ∧ Only (fun k => k = R ∨ k = m2) w w' := by
  have hR0 : R < w.heap.size := by obtain ⟨L, f, T, Kl, B, m1, n, k0, _⟩ := h; exact (Array.getElem?_eq_some_iff.1 k0).1
  have hm0 : m2 < w.heap.size := by obtain ⟨L, f, T, Kl, B, m1, n, _, _, _, _, _, _, _, q⟩ := h; exact q.lt
  have hb := new_box w (.cells #[.int .i64 0, .int .i64 0, .int .i64 0] 37)
  have k0 := heap_alloc_new w (.cells #[.int .i64 0, .int .i64 0, .int .i64 0] 37)
  have h1 := h.below hb
  go_enter Tryz.func15, Tryz.ntmps15
  go_upto_region 1 with fail
  generalize w.alloc (.cells #[.int .i64 0, .int .i64 0, .int .i64 0] 37) = w1 at hb k0 h1 ⊢
  obtain ⟨C, hC⟩ : ∃ x, w.heap.size = x := ⟨_, rfl⟩
  rw [hC] at k0 ⊢
  have HC := Lib.hid (And.intro (show C ≠ R by omega) (And.intro (show C ≠ m2 by omega) (And.intro (show w.heap.size ≤ C by omega) (show ¬ F C from fun hk => absurd (hF _ hk) (by omega)))))
  have HB := Lib.hid (And.intro hb (And.intro k0 h1))
  have HA := Lib.hid (exActs1_ok w1 F R m2 0 _ h1)
  clear hb k0 hC h h1 hR0 hm0
  go_wp2_with fail
  refine HA.out.mono ?_
  rintro e w2 ⟨G, o, cG, rfl, hb2, -, q0, q1, q2⟩
  have HB2 := Lib.hid (And.intro (HB.out.1.trans (hb2.mono HB.out.1.size)) (And.intro ((Only.of_below hb2 (fun _ => False)).heap HB.out.2.1 (fun h => h)) (HB.out.2.2.below hb2)))
  have HP := Lib.hid (pick1_ok w2 G o cG q0 q1 q2)
  clear hb2 q0 q1 q2 HA
  go_wp2_with fail
  refine HP.out.mono ?_
  rintro e w3 ⟨rfl, hb3⟩
  have hx := new_box w3 (.cells #[.int .i64 1, .int .i64 0, .int .i64 0] 37)
  have k6 := heap_alloc_new w3 (.cells #[.int .i64 1, .int .i64 0, .int .i64 0] 37)
  have h24 := hb3.trans (hx.mono hb3.size)
  have HB4 := Lib.hid (And.intro (HB2.out.1.trans (h24.mono HB2.out.1.size)) (And.intro ((Only.of_below h24 (fun _ => False)).heap HB2.out.2.1 (fun h => h)) (HB2.out.2.2.below h24)))
  have hR3 : R < w3.heap.size := by obtain ⟨L, f, T, Kl, B, m1, n, k0, _⟩ := HB2.out.2.2.below hb3; exact (Array.getElem?_eq_some_iff.1 k0).1
  have hm3 : m2 < w3.heap.size := by obtain ⟨L, f, T, Kl, B, m1, n, _, _, _, _, _, _, _, q⟩ := HB2.out.2.2.below hb3; exact q.lt
  go_upto_region 4 with fail
  generalize w3.alloc (.cells #[.int .i64 1, .int .i64 0, .int .i64 0] 37) = w4 at hx k6 HB4 h24 ⊢
  generalize w3.heap.size = D at k6 hR3 hm3 ⊢
  have HD := Lib.hid (And.intro k6 (And.intro (show D ≠ R by omega) (show D ≠ m2 by omega)))
  clear hb3 hx k6 h24 hR3 hm3 HP
  go_wp2_with fail
  have hix := fun W => Tryz.idx4 .nilFunc _ _ _ rfl rfl rfl rfl W
  refine wp_region_held_drew (S := (fun w' => Only (fun k => k = R ∨ k = m2) w4 w')) (by kernel_rfl) ((Only.refl _ _).drew) (fun hHeld => ?_)
  refine takeS (i := 1) (v := ?_) rfl (by kernel_rfl) (by kernel_rfl) (by kernel_rfl) (fun _ _ _ h => h) (by rfl) (fun wS hSw => ?_) hHeld ?_
  rotate_left
  · go_simp; try with_reducible rfl
  try simp only [Act.put, List.setIfInBounds_toArray, List.set_cons_zero, List.set_cons_succ]
  refine takeS (i := 2) (v := ?_) rfl (by kernel_rfl) (by kernel_rfl) (by kernel_rfl) (fun _ _ _ h => h) (by rfl) (fun wS hSw => ?_) hHeld ?_
  rotate_left
  · have kD := hSw.heap HD.out.1 (by rintro (h | h); exact HD.out.2.1 h; exact HD.out.2.2 h); have d0 := (out3 kD).1; have d1 := (out3 kD).2.1; have d2 := (out3 kD).2.2; go_simp; try with_reducible rfl
  try simp only [Act.put, List.setIfInBounds_toArray, List.set_cons_zero, List.set_cons_succ]
  refine takeS (i := 4) (v := ?_) rfl (by kernel_rfl) (by kernel_rfl) (by kernel_rfl) (fun _ _ _ h => h) (by rfl) (fun wS hSw => ?_) hHeld ?_
  rotate_left
  · go_simp; try with_reducible rfl
  try simp only [Act.put, List.setIfInBounds_toArray, List.set_cons_zero, List.set_cons_succ]
  refine takeS (i := 5) (v := ?_) rfl (by kernel_rfl) (by kernel_rfl) (by kernel_rfl) (fun _ _ _ h => h) (by rfl) (fun wS hSw => ?_) hHeld ?_
  rotate_left
  · have kD := hSw.heap HD.out.1 (by rintro (h | h); exact HD.out.2.1 h; exact HD.out.2.2 h); have d0 := (out3 kD).1; have d1 := (out3 kD).2.1; have d2 := (out3 kD).2.2; go_simp; try with_reducible rfl
  try simp only [Act.put, List.setIfInBounds_toArray, List.set_cons_zero, List.set_cons_succ]
  refine wpAnyH_ready (rs := [0]) (by kernel_rfl) (by simp) (consS (i := 0) rfl (fun K hK => ?_) AllReadyH.nil)
  go_simp
  refine (deeds_ok _).mono ?_
  rintro e wn ⟨rfl, hbn⟩
  have HRn := Lib.hid ((HB4.out.2.2.below (Below.refl _ _).drew).below hbn)
  try go_simp
  refine hK.out _ _ (hHeld.trans (Only.of_below hbn _) (fun _ _ h => h)) (fun hHeld2 => ?_)
  clear hK K hHeld hbn
  have hHeld := hHeld2
  clear hHeld2
  try simp only [Act.put, List.setIfInBounds_toArray, List.set_cons_zero, List.set_cons_succ]
  refine takeS (i := 3) (v := ?_) rfl (by kernel_rfl) (by kernel_rfl) (by kernel_rfl) (fun _ _ _ h => h) (by rfl) (fun wS hSw => ?_) hHeld ?_
  rotate_left
  · go_simp; try with_reducible rfl
  try simp only [Act.put, List.setIfInBounds_toArray, List.set_cons_zero, List.set_cons_succ]
  refine wpAnyH_ready (rs := [6]) (by kernel_rfl) (by simp) (consS (i := 6) rfl (fun K hK => ?_) AllReadyH.nil)
  go_simp
  refine (admit1_ok _ F R m2 hRm HRn.out).mono ?_
  rintro e wn ⟨rfl, hG, hon⟩
  have HG := Lib.hid (And.intro hG hon)
  clear hG
  try go_simp
  refine hK.out _ _ (hHeld.trans hon (fun _ _ h => h)) (fun hHeld2 => ?_)
  clear hK K hHeld hon
  have hHeld := hHeld2
  clear hHeld2
  try simp only [Act.put, List.setIfInBounds_toArray, List.set_cons_zero, List.set_cons_succ]
  refine takeS (i := 7) (v := ?_) rfl (by kernel_rfl) (by kernel_rfl) (by kernel_rfl) (fun _ _ _ h => h) (by rfl) (fun wS hSw => ?_) hHeld ?_
  rotate_left
  · go_simp; try with_reducible rfl
  try simp only [Act.put, List.setIfInBounds_toArray, List.set_cons_zero, List.set_cons_succ]
  refine wpAnyH_done (by kernel_rfl) ?_ _
  have HZ := Lib.hid hHeld
  have kD := hHeld.heap HD.out.1 (by rintro (h | h); exact HD.out.2.1 h; exact HD.out.2.2 h)
  have kC := hHeld.heap HB4.out.2.1 (by rintro (h | h); exact HC.out.1 h; exact HC.out.2.1 h)
  have HKC := Lib.hid kC
  have z0 : wn.cell? ⟨C, 0, none⟩ = some (.int .i64 0) := by simp [World.cell?, kC]
  have z1 : wn.cell? ⟨C, 1, none⟩ = some (.int .i64 0) := by simp [World.cell?, kC]
  have z2 : wn.cell? ⟨C, 2, none⟩ = some (.int .i64 0) := by simp [World.cell?, kC]
  have y0 : wn.frozen? ⟨C, 0, none⟩ = false := by simp [World.frozen?, kC]
  have y1 : wn.frozen? ⟨C, 1, none⟩ = false := by simp [World.frozen?, kC]
  have y2 : wn.frozen? ⟨C, 2, none⟩ = false := by simp [World.frozen?, kC]
  have d0 : wn.cell? ⟨D, 0, none⟩ = some (.int .i64 1) := by simp [World.cell?, kD]
  have d1 : wn.cell? ⟨D, 1, none⟩ = some (.int .i64 0) := by simp [World.cell?, kD]
  have d2 : wn.cell? ⟨D, 2, none⟩ = some (.int .i64 0) := by simp [World.cell?, kD]
  clear kD kC hHeld hix
  go_wp2_with fail
  have hp := put3r (v0 := .int .i64 1) (v1 := .int .i64 0) (v2 := .int .i64 0) HKC.out
  refine bodyPost_ret (results_cell_row2 rfl _ _ _ _ _ _ _ rfl hp Tryz.underlying37 rfl (by kernel_rfl)) rfl ⟨rfl, HG.out.1.other (only_set3 _ _ _ _ _) HKC.out (unlike_act _) HC.out.1 HC.out.2.1 HC.out.2.2.2, ?_⟩
  exact ((Only.of_below HB4.out.1 _).trans HZ.out (fun _ _ h => h)).trans (only_set3 _ _ _ _ _) (fun k hk e => by have := HC.out.2.2.1; omega)
end Go.Proofs.YtiacbhnkcllpjaaGreatDoor
