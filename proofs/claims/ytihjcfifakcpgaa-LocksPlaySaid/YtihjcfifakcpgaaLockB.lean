/- Locks that are only read: New, ready, on, those, Ready, Waits, Len. -/
import Derived.Test.YtihjcfifakcpgaaLockA
namespace Go.Proofs.Ytihjcfifakcpgaa
open Go.RowKit Go.Maps Go.WideShapes

/-- What stands while on looks. -/
def OnS (B b m3 n : Nat) (i : Int) (g3 : Value → Option Value) (w : World) : Prop :=
  w.cell? ⟨B, 0, none⟩ = some (.pointer (some ⟨b, 0, none⟩)) ∧ w.cell? ⟨B, 1, none⟩ = some (.int .i64 i) ∧ w.cell? ⟨b, 5, none⟩ = some (.map (some m3)) ∧ MapAt Try.prog w 72 m3 n g3
theorem OnS.below {B b m3 n : Nat} {i : Int} {g3 : Value → Option Value} {w w' : World} (h : OnS B b m3 n i g3 w) (hb : Below w.heap.size w w') : OnS B b m3 n i g3 w' :=
  ⟨(hb.cell (p := ⟨B, 0, none⟩) (World.block_lt_of_cell? _ _ h.1)).trans h.1, (hb.cell (p := ⟨B, 1, none⟩) (World.block_lt_of_cell? _ _ h.2.1)).trans h.2.1, (hb.cell (p := ⟨b, 5, none⟩) (World.block_lt_of_cell? _ _ h.2.2.1)).trans h.2.2.1, h.2.2.2.below hb⟩

set_option maxRecDepth 100000 in
theorem on_ok (w : World) (b m3 n : Nat) (g3 : Value → Option Value) (i j : Int) (q : Bool) (hc : w.cell? ⟨b, 5, none⟩ = some (.map (some m3))) (hm : MapAt Try.prog w 72 m3 n g3) (hi : I64 i) (hj : I64 j) (hq : (g3 (.agg #[.int .i64 i, .int .i64 j])).isSome = q) (hg : ∀ u, g3 (.agg #[.int .i64 i, .int .i64 j]) = some u → u = .agg #[]) :
    Calls Try.prog 30 #[.agg #[.pointer (some ⟨b, 0, none⟩), .int .i64 i], .int .i64 j] w fun e w' => e = .returned (.bool q) ∧ Below w.heap.size w w' := by
  have hu : (g3 (.agg #[.int .i64 i, .int .i64 j])).getD (.agg #[]) = .agg #[] := by
    cases h : g3 (.agg #[.int .i64 i, .int .i64 j]) with
    | none => rfl
    | some u => exact hg u h
  have HQ := Lib.hid (And.intro hu hq)
  have HI := Lib.hid (And.intro hi hj)
  have HB := Lib.hid (box1 w (.cells #[.pointer (some ⟨b, 0, none⟩), .int .i64 i] 80))
  have hS : OnS w.heap.size b m3 n i g3 (w.alloc (.cells #[.pointer (some ⟨b, 0, none⟩), .int .i64 i] 80)) := ⟨by simp, by simp, (HB.out.cell (p := ⟨b, 5, none⟩) (World.block_lt_of_cell? _ _ hc)).trans hc, hm.below HB.out⟩
  have HS := Lib.hid hS
  clear hu hq hg hi hj hS hm hc
  go_enter Try.func30, Try.ntmps30
  go_upto_region 1 with fail
  generalize w.alloc (.cells #[.pointer (some ⟨b, 0, none⟩), .int .i64 i] 80) = wb at HB HS ⊢
  refine wp_region_held_drew (S := OnS w.heap.size b m3 n i g3) (by kernel_rfl) (HS.out.below (Below.refl _ _).drew) (fun hHeld => ?_)
  refine takeL (i := 0) (v := ?_) rfl (by kernel_rfl) (by kernel_rfl) (by kernel_rfl) (fun _ _ _ h => h) (by rfl) (fun w hSw => ?_) hHeld ?_
  rotate_left
  · obtain ⟨s0, s1, s2, s3⟩ := hSw; go_simp; try with_reducible rfl
  try simp only [Act.put, List.setIfInBounds_toArray, List.set_cons_zero, List.set_cons_succ]
  refine takeL (i := 1) (v := ?_) rfl (by kernel_rfl) (by kernel_rfl) (by kernel_rfl) (fun _ _ _ h => h) (by rfl) (fun w hSw => ?_) hHeld ?_
  rotate_left
  · obtain ⟨s0, s1, s2, s3⟩ := hSw; go_simp; try with_reducible rfl
  try simp only [Act.put, List.setIfInBounds_toArray, List.set_cons_zero, List.set_cons_succ]
  refine takeL (i := 2) (v := ?_) rfl (by kernel_rfl) (by kernel_rfl) (by kernel_rfl) (fun _ _ _ h => h) (by rfl) (fun w hSw => ?_) hHeld ?_
  rotate_left
  · obtain ⟨s0, s1, s2, s3⟩ := hSw; go_simp; try with_reducible rfl
  try simp only [Act.put, List.setIfInBounds_toArray, List.set_cons_zero, List.set_cons_succ]
  refine takeL (i := 3) (v := ?_) rfl (by kernel_rfl) (by kernel_rfl) (by kernel_rfl) (fun _ _ _ h => h) (by rfl) (fun w hSw => ?_) hHeld ?_
  rotate_left
  · obtain ⟨s0, s1, s2, s3⟩ := hSw; go_simp; try with_reducible rfl
  try simp only [Act.put, List.setIfInBounds_toArray, List.set_cons_zero, List.set_cons_succ]
  refine takeL (i := 4) (v := ?_) rfl (by kernel_rfl) (by kernel_rfl) (by kernel_rfl) (fun _ _ _ h => h) (by rfl) (fun w hSw => ?_) hHeld ?_
  rotate_left
  · obtain ⟨s0, s1, s2, s3⟩ := hSw; go_simp; try with_reducible rfl
  try simp only [Act.put, List.setIfInBounds_toArray, List.set_cons_zero, List.set_cons_succ]
  refine takeL (i := 5) (v := ?_) rfl (by kernel_rfl) (by kernel_rfl) (by kernel_rfl) (fun _ _ _ h => h) (by rfl) (fun w hSw => ?_) hHeld ?_
  rotate_left
  · obtain ⟨s0, s1, s2, s3⟩ := hSw; go_simp; try with_reducible rfl
  try simp only [Act.put, List.setIfInBounds_toArray, List.set_cons_zero, List.set_cons_succ]
  refine takeL (i := 6) (v := ?_) rfl (by kernel_rfl) (by kernel_rfl) (by kernel_rfl) (fun _ _ _ h => h) (by rfl) (fun w hSw => ?_) hHeld ?_
  rotate_left
  · obtain ⟨s0, s1, s2, s3⟩ := hSw; go_simp; try with_reducible rfl
  try simp only [Act.put, List.setIfInBounds_toArray, List.set_cons_zero, List.set_cons_succ]
  refine takeL (i := 7) (v := ?_) rfl (by kernel_rfl) (by kernel_rfl) (by kernel_rfl) (fun _ _ _ h => h) (by rfl) (fun w hSw => ?_) hHeld ?_
  rotate_left
  · obtain ⟨s0, s1, s2, s3⟩ := hSw; go_simp; try with_reducible rfl
  try simp only [Act.put, List.setIfInBounds_toArray, List.set_cons_zero, List.set_cons_succ]
  refine takeL (i := 8) (v := ?_) rfl (by kernel_rfl) (by kernel_rfl) (by kernel_rfl) (fun _ _ _ h => h) (by rfl) (fun w hSw => ?_) hHeld ?_
  rotate_left
  · obtain ⟨s0, s1, s2, s3⟩ := hSw; go_simp; try with_reducible rfl
  try simp only [Act.put, List.setIfInBounds_toArray, List.set_cons_zero, List.set_cons_succ]
  refine takeL (i := 9) (v := ?_) rfl (by kernel_rfl) (by kernel_rfl) (by kernel_rfl) (fun _ _ _ h => h) (by rfl) (fun w hSw => ?_) hHeld ?_
  rotate_left
  · obtain ⟨s0, s1, s2, s3⟩ := hSw; have hlk := s3.look_ok lawP Try.underlying55 (Try.zeroUnit _) (keyP HI.out.1 HI.out.2); rw [HQ.out.1, HQ.out.2] at hlk; go_simp; try with_reducible rfl
  try simp only [Act.put, List.setIfInBounds_toArray, List.set_cons_zero, List.set_cons_succ]
  refine takeL (i := 10) (v := ?_) rfl (by kernel_rfl) (by kernel_rfl) (by kernel_rfl) (fun _ _ _ h => h) (by rfl) (fun w hSw => ?_) hHeld ?_
  rotate_left
  · obtain ⟨s0, s1, s2, s3⟩ := hSw; go_simp; try with_reducible rfl
  try simp only [Act.put, List.setIfInBounds_toArray, List.set_cons_zero, List.set_cons_succ]
  refine takeL (i := 11) (v := ?_) rfl (by kernel_rfl) (by kernel_rfl) (by kernel_rfl) (fun _ _ _ h => h) (by rfl) (fun w hSw => ?_) hHeld ?_
  rotate_left
  · obtain ⟨s0, s1, s2, s3⟩ := hSw; go_simp; try with_reducible rfl
  try simp only [Act.put, List.setIfInBounds_toArray, List.set_cons_zero, List.set_cons_succ]
  refine takeL (i := 12) (v := ?_) rfl (by kernel_rfl) (by kernel_rfl) (by kernel_rfl) (fun _ _ _ h => h) (by rfl) (fun w hSw => ?_) hHeld ?_
  rotate_left
  · obtain ⟨s0, s1, s2, s3⟩ := hSw; go_simp; try with_reducible rfl
  try simp only [Act.put, List.setIfInBounds_toArray, List.set_cons_zero, List.set_cons_succ]
  refine wpAnyH_ready (rs := [13]) (by kernel_rfl) (by simp) (consL (i := 13) rfl (fun K hK => ?_) AllReadyH.nil)
  go_simp
  refine hK.out _ _ (hHeld.below (box1 _ _)) (fun hHeld2 => ?_)
  clear hK K hHeld
  have hHeld := hHeld2
  clear hHeld2
  try simp only [Act.put, List.setIfInBounds_toArray, List.set_cons_zero, List.set_cons_succ]
  refine wpAnyH_ready (rs := [14]) (by kernel_rfl) (by simp) (consL (i := 14) rfl (fun K hK => ?_) AllReadyH.nil)
  go_simp
  refine hK.out _ _ (hHeld) (fun hHeld2 => ?_)
  clear hK K hHeld
  have hHeld := hHeld2
  clear hHeld2
  try simp only [Act.put, List.setIfInBounds_toArray, List.set_cons_zero, List.set_cons_succ]
  refine takeL (i := 15) (v := ?_) rfl (by kernel_rfl) (by kernel_rfl) (by kernel_rfl) (fun _ _ _ h => h) (by rfl) (fun w hSw => ?_) hHeld ?_
  rotate_left
  · obtain ⟨s0, s1, s2, s3⟩ := hSw; go_simp; try with_reducible rfl
  try simp only [Act.put, List.setIfInBounds_toArray, List.set_cons_zero, List.set_cons_succ]
  refine wpAnyH_done (by kernel_rfl) ?_ _
  go_wp2_with fail
  go_ret
  exact ⟨rfl, (HB.out.alloc HB.out.size _).drew⟩

/-- What New hands back. -/
def LkNew (w : World) (e : Ending) (w' : World) : Prop := ∃ b, e = .returned (.pointer (some ⟨b, 0, none⟩)) ∧ Below w.heap.size w w' ∧ LkAt w' (New w w') (fun _ => False) b false 0 [] 0
theorem lkNew_at (w : World) : Below w.heap.size w ((((w.alloc (.map #[] 0)).alloc (.map #[] 0)).alloc (.map #[] 0)).alloc (.cells #[.bool false, .int .i64 0, .slice none 0 0, .map (some w.heap.size), .map (some (w.heap.size + 1)), .map (some (w.heap.size + 1 + 1))] 57)) ∧
    LkAt ((((w.alloc (.map #[] 0)).alloc (.map #[] 0)).alloc (.map #[] 0)).alloc (.cells #[.bool false, .int .i64 0, .slice none 0 0, .map (some w.heap.size), .map (some (w.heap.size + 1)), .map (some (w.heap.size + 1 + 1))] 57)) (fun k => w.heap.size ≤ k ∧ k < w.heap.size + 4) (fun _ => False) (w.heap.size + 3) false 0 [] 0 := by
  have s1 : (w.alloc (.map #[] 0)).heap.size = w.heap.size + 1 := by simp
  have s2 : ((w.alloc (.map #[] 0)).alloc (.map #[] 0)).heap.size = w.heap.size + 1 + 1 := by simp
  have s3 : (((w.alloc (.map #[] 0)).alloc (.map #[] 0)).alloc (.map #[] 0)).heap.size = w.heap.size + 3 := by simp
  have h1 := MapAt.made Try.prog w 3
  have h2 := MapAt.made Try.prog (w.alloc (.map #[] 0)) 3
  have h3 := MapAt.made Try.prog ((w.alloc (.map #[] 0)).alloc (.map #[] 0)) 72
  rw [s1] at h2
  rw [s2] at h3
  have b1 := box1 w (.map #[] 0)
  have b2 := box1 (w.alloc (.map #[] 0)) (.map #[] 0)
  have b3 := box1 ((w.alloc (.map #[] 0)).alloc (.map #[] 0)) (.map #[] 0)
  have b4 := box1 (((w.alloc (.map #[] 0)).alloc (.map #[] 0)).alloc (.map #[] 0)) (.cells #[.bool false, .int .i64 0, .slice none 0 0, .map (some w.heap.size), .map (some (w.heap.size + 1)), .map (some (w.heap.size + 1 + 1))] 57)
  refine ⟨b1.trans ((b2.trans ((b3.trans (b4.mono (by simp))).mono (by simp))).mono (by simp)), w.heap.size, w.heap.size + 1, w.heap.size + 1 + 1, .slice none 0 0, fun _ => none, fun _ => none, fun _ => none, ?_, fun i => ?_, ⟨fun i j => ?_, fun k u hu => by cases hu⟩⟩
  · refine { blk := ?_, own := World.ownsRow_nil _ _ _ _, mp1 := ((h1.below b2).below b3).below b4, mp2 := (h2.below b3).below b4, mp3 := h3.below b4, d12 := by omega, d13 := by omega, d23 := by omega, fb := ?_, f1 := ?_, f2 := ?_, f3 := ?_, fl := ?_, flt := ?_, clt := fun _ h => h.elim, line := ⟨Rise.nil, (fun e he => by cases he), (fun e he => by cases he)⟩, feet := ⟨fun _ _ => rfl, (fun e he => by cases he)⟩ }
    · rw [← s3]; exact heap_alloc_new _ _
    · show w.heap.size ≤ w.heap.size + 3 ∧ w.heap.size + 3 < w.heap.size + 4
      omega
    · show w.heap.size ≤ w.heap.size ∧ w.heap.size < w.heap.size + 4
      omega
    · show w.heap.size ≤ w.heap.size + 1 ∧ w.heap.size + 1 < w.heap.size + 4
      omega
    · show w.heap.size ≤ w.heap.size + 1 + 1 ∧ w.heap.size + 1 + 1 < w.heap.size + 4
      omega
    · intro k hk; simp [Value.ownBlock] at hk
    · intro k hk
      simp
      omega
  · show Value.int .i64 0 = _
    rw [opn_not (by simp [nums])]
    rfl
  · show false = _
    rw [wtB_not_l (by simp [nums])]
theorem lnew_ok (w : World) : Calls Try.prog 6 #[] w (LkNew w) := by
  have hmm := @run_makeMap Try.prog
  go_enter Try.func6, Try.ntmps6
  go_wp2_with fail
  go_ret
  have h := lkNew_at w
  refine ⟨w.heap.size + 3, by simp, h.1, ?_⟩
  have hs : ((((w.alloc (.map #[] 0)).alloc (.map #[] 0)).alloc (.map #[] 0)).alloc (.cells #[.bool false, .int .i64 0, .slice none 0 0, .map (some w.heap.size), .map (some (w.heap.size + 1)), .map (some (w.heap.size + 1 + 1))] 57)).heap.size = w.heap.size + 4 := by simp
  refine h.2.moreF (fun k hk => ?_) (fun k hk => hk.2) (fun _ h => h.elim)
  exact ⟨hk.1, by rw [hs]; exact hk.2⟩

/-! ### the cells of a Locks -/
theorem LkIn.cells {w : World} {F C : Nat → Prop} {b n m1 m2 m3 : Nat} {sm : Bool} {la : Int} {l : List Ent} {lv : Value} {g1 g2 g3 : Value → Option Value} (h : LkIn w F C b sm la l n m1 m2 m3 lv g1 g2 g3) :
    w.cell? ⟨b, 0, none⟩ = some (.bool sm) ∧ w.cell? ⟨b, 1, none⟩ = some (.int .i64 la) ∧ w.cell? ⟨b, 2, none⟩ = some lv ∧ w.cell? ⟨b, 3, none⟩ = some (.map (some m1)) ∧ w.cell? ⟨b, 4, none⟩ = some (.map (some m2)) ∧ w.cell? ⟨b, 5, none⟩ = some (.map (some m3)) := by
  have hb := h.blk
  simp [World.cell?, hb]
theorem LkIn.frozen {w : World} {F C : Nat → Prop} {b n m1 m2 m3 : Nat} {sm : Bool} {la : Int} {l : List Ent} {lv : Value} {g1 g2 g3 : Value → Option Value} (h : LkIn w F C b sm la l n m1 m2 m3 lv g1 g2 g3) (j : Nat) :
    w.frozen? ⟨b, j, none⟩ = false := by
  have hb := h.blk
  simp [World.frozen?, hb]

/-! ### ready -/
theorem lready_ok (w : World) (b m2 n : Nat) (g2 : Value → Option Value) (i : Int) (k : Nat) (hc : w.cell? ⟨b, 4, none⟩ = some (.map (some m2))) (hm : MapAt Try.prog w 3 m2 n g2) (hi : I64 i) (hk : (g2 (.int .i64 i)).getD (.int .i64 0) = .int .i64 (k : Int)) :
    Calls Try.prog 27 #[.pointer (some ⟨b, 0, none⟩), .int .i64 i] w fun e w' => e = .returned (.bool (k == 0)) ∧ w = w' := by
  have H := Lib.hid (And.intro hm (And.intro hi hk))
  clear hm hi hk
  go_enter Try.func27, Try.ntmps27
  go_wp2_with (at_lookup; go_loud (refine wpList_look _ rfl _ _ 54 rfl lawI Try.underlying54 (Try.zeroInt _) rfl H.out.1 rfl (keyI H.out.2.1) (.int .i64 (k : Int)) H.out.2.2 ?_))
  go_ret
  refine ⟨?_, rfl⟩
  by_cases h0 : k = 0
  · subst h0; rfl
  · have h1 : ((k : Int) == 0) = false := by simp; omega
    have h2 : (k == 0) = false := by simp [h0]
    rw [h1, h2]
    rfl

theorem lready_bl (w : World) (b m2 n : Nat) (g2 : Value → Option Value) (i : Int) (k : Nat) (hc : w.cell? ⟨b, 4, none⟩ = some (.map (some m2))) (hm : MapAt Try.prog w 3 m2 n g2) (hi : I64 i) (hk : (g2 (.int .i64 i)).getD (.int .i64 0) = .int .i64 (k : Int)) :
    Calls Try.prog 27 #[.pointer (some ⟨b, 0, none⟩), .int .i64 i] w fun e w' => e = .returned (.bool (k == 0)) ∧ Below w.heap.size w w' :=
  (lready_ok w b m2 n g2 i k hc hm hi hk).mono fun _ _ hh => ⟨hh.1, hh.2 ▸ Below.refl _ _⟩
theorem Try.infoInt : (Try.prog.info? 3).map (fun i => (i.zero, i.size, i.bytes)) = some (some (.int .i64 0), 1, 8) := by kernel_rfl
/-- While those goes round. -/
def ThoseR (w : World) (xs : List Int) (p : Int → Bool) (k : Nat) (v : Value) (w' : World) : Prop :=
  ∃ A c, v = .slice A ((xs.take k).filter p).length c ∧ w'.ownsRow w.heap.size 3 1 v ((xs.take k).filter p).length (((xs.take k).filter p).map (Value.int .i64)) ∧ Below w.heap.size w w'
theorem filter_take_yes {xs : List Int} {p : Int → Bool} {k : Nat} {x : Int} (hx : xs[k]? = some x) (hp : p x = true) : (xs.take (k + 1)).filter p = (xs.take k).filter p ++ [x] := by
  rw [List.take_add_one, hx]
  simp [hp]
theorem filter_take_no {xs : List Int} {p : Int → Bool} {k : Nat} {x : Int} (hx : xs[k]? = some x) (hp : p x = false) : (xs.take (k + 1)).filter p = (xs.take k).filter p := by
  rw [List.take_add_one, hx]
  simp [hp]

set_option maxRecDepth 100000 in
theorem those_ready (w : World) (F C : Nat → Prop) (b n m1 m2 m3 : Nat) (sm : Bool) (la : Int) (l : List Ent) (lv : Value) (g1 g2 g3 : Value → Option Value) (h : LkIn w F C b sm la l n m1 m2 m3 lv g1 g2 g3) (hl : l.length ≤ 100000) (f : Int → Nat) (ho : OpenM f g2) :
    Calls Try.prog 31 #[.pointer (some ⟨b, 0, none⟩), .func (.func 27) #[.pointer (some ⟨b, 0, none⟩)] #[]] w fun e w' => ∃ v, e = .returned v ∧ FreshI ((nums l).filter (fun i => f i == 0)) w v w' := by
  obtain ⟨i0, hi, hz0, hz1, hz2⟩ := info_parts Try.infoInt
  obtain ⟨_, _, c2, _, c4, c5⟩ := h.cells
  have hnl : (nums l).length = l.length := by simp [nums]
  obtain ⟨A, c, rfl⟩ := ownsRow_slice h.own
  have hrd := Rd.of_own (F := fun _ => True) h.own (fun _ _ => trivial)
  have hI : ∀ x ∈ nums l, I64 x := fun x hx => by obtain ⟨f, hf⟩ := mem_nums.1 hx; exact h.line.2.2 _ hf
  have H := Lib.hid h
  have HL := Lib.hid (And.intro hnl (And.intro hI hrd))
  have HF := Lib.hid ho
  clear ho
  clear h hnl hI hrd
  go_enter Try.func31, Try.ntmps31
  go_wp2_with fail
  go_step3
  go_wp2_with fail
  go_step3
  go_wp2_with fail
  go_loopw [5, 13] (fun v i wr => ∃ k, k ≤ l.length ∧ i = .int .i64 (k : Int) ∧ ThoseR w (nums l) (fun i => f i == 0) k v wr) (fun _ i _ => l.length - (intOf i).toNat)
  case atStart => exact ⟨0, Nat.zero_le _, rfl, none, 0, rfl, World.ownsRow_nil _ _ _ _, Below.refl _ _⟩
  case round =>
    obtain ⟨k, hk, rfl, A5, c5', rfl, hown, hbl⟩ := hrel
    by_cases hlt : k < l.length
    · obtain ⟨x, hx⟩ : ∃ x, (nums l)[k]? = some x := ⟨_, List.getElem?_eq_getElem (by rw [HL.out.1]; exact hlt)⟩
      have hxm : x ∈ nums l := List.mem_of_getElem? hx
      have hlen : (((nums l).take k).filter (fun i => f i == 0)).length ≤ k := Nat.le_trans (List.length_filter_le _ _) (by simp; omega)
      obtain ⟨r, hr⟩ : ∃ r, ((nums l).take k).filter (fun i => f i == 0) = r := ⟨_, rfl⟩
      rw [hr] at hown hlen ⊢
      have HX := Lib.hid (And.intro hx (And.intro hxm hr))
      have hrd := HL.out.2.2
      obtain ⟨A', n', c', hv, _, _, _, hcc⟩ := hrd
      injection hv with e1 e2 e3
      subst e1 e2 e3
      obtain ⟨bl, ol, rfl, _, hcd⟩ := hcc (by omega)
      have hcx := hcd k (.int .i64 x) (by simp [hx])
      have hbl0 : bl < w.heap.size := World.block_lt_of_cell? w _ hcx
      have hcx' := (hbl.cell (p := ⟨bl, ol + k, none⟩) hbl0).trans hcx
      have hs := hbl.size
      have HO := Lib.hid (And.intro hown hbl)
      clear hcx hcc hcd hown hbl hr hx hxm
      go_wp2_with fail
      refine (lready_bl _ b m2 n g2 x (f x) ((HO.out.2.cell (p := ⟨b, 4, none⟩) (World.block_lt_of_cell? _ _ c4)).trans c4) (H.out.mp2.below HO.out.2) (HL.out.2.1 x HX.out.2.1) (HF.out x)).mono ?_
      rintro e w1 ⟨rfl, hb1⟩
      have hbw : Below w.heap.size w w1 := HO.out.2.trans (Below.mono hb1 HO.out.2.size)
      have hown1 := own_below HO.out.1 hb1
      have hnews := World.news_of_block (heap_alloc_new w1 (.cells #[.int .i64 x] 3))
      have HOW := Lib.hid (And.intro hbw (And.intro (hown1.alloc (.cells #[.int .i64 x] 3)) (And.intro hnews hown1)))
      have HHI := Lib.hid hi
      clear hb1 hown1 hnews hbw
      cases hp : (f x == 0) with
      | true =>
        have HP := Lib.hid hp
        clear hp
        go_wp2_with (at_builtin; go_loud (refine wpList_append_lies _ rfl _ _ 43 rfl w.heap.size 3 i0 _ 1 8 Try.underlying43 HHI.out hz0 hz1 hz2 rfl (by decide) (.slice A5 r.length c5') r.length _ rfl HOW.out.2.1 ⟨w1.heap.size, 0, none⟩ 1 1 [.int .i64 x] rfl rfl HOW.out.2.2.1 (by simp [Value.oneCell']) (by decide) (by unfold maxLen; omega) (by omega) (by have := HOW.out.1.size; simp; omega) _ rfl ?_); intro g cap w2 hown1 hgrow1 hat1 hlt1)
        go_roundw
        case rel =>
          have hrx := filter_take_yes (p := fun i => f i == 0) HX.out.1 HP.out
          rw [HX.out.2.2] at hrx
          refine ⟨k + 1, by omega, by go_num, some ⟨g, 0, none⟩, cap, by rw [hrx]; simp, ?_, ?_⟩
          · rw [hrx]
            simpa using hown1
          · have hs1 := HOW.out.1.size
            exact (HOW.out.1.alloc hs1 _).grown hgrow1 (by simp; omega) (fun j hj => (HOW.out.2.2.2.lt j hj).1)
        case measure => simp [intOf]; omega
      | false =>
        have HP := Lib.hid hp
        clear hp
        go_wp2_with fail
        go_roundw
        case rel =>
          have hrx := filter_take_no (p := fun i => f i == 0) HX.out.1 HP.out
          rw [HX.out.2.2] at hrx
          exact ⟨k + 1, by omega, by go_num, _, _, by rw [hrx], by rw [hrx]; exact HOW.out.2.2.2, HOW.out.1⟩
        case measure => simp [intOf]; omega
    · have hkl : k = l.length := by omega
      subst hkl
      have htk : (nums l).take l.length = nums l := List.take_of_length_le (by rw [HL.out.1]; exact Nat.le_refl _)
      rw [htk] at hown ⊢
      clear htk
      go_wp2_with fail
      rw [Exit.noGoto_ret]
      go_ret
      exact ⟨_, rfl, A5, c5', rfl, hown, hbl⟩

set_option maxRecDepth 100000 in
theorem those_on (w : World) (F C : Nat → Prop) (b n m1 m2 m3 : Nat) (sm : Bool) (la : Int) (l : List Ent) (lv : Value) (g1 g2 g3 : Value → Option Value) (h : LkIn w F C b sm la l n m1 m2 m3 lv g1 g2 g3) (hl : l.length ≤ 100000) (i : Int) (hi0 : I64 i) (f : Int → Bool) (ho : ∀ j, (g3 (.agg #[.int .i64 i, .int .i64 j])).isSome = f j) (hg : ∀ k u, g3 k = some u → u = .agg #[]) :
    Calls Try.prog 31 #[.pointer (some ⟨b, 0, none⟩), .func (.func 30) #[.agg #[.pointer (some ⟨b, 0, none⟩), .int .i64 i]] #[]] w fun e w' => ∃ v, e = .returned v ∧ FreshI ((nums l).filter (f)) w v w' := by
  obtain ⟨i0, hi, hz0, hz1, hz2⟩ := info_parts Try.infoInt
  obtain ⟨_, _, c2, _, c4, c5⟩ := h.cells
  have hnl : (nums l).length = l.length := by simp [nums]
  obtain ⟨A, c, rfl⟩ := ownsRow_slice h.own
  have hrd := Rd.of_own (F := fun _ => True) h.own (fun _ _ => trivial)
  have hI : ∀ x ∈ nums l, I64 x := fun x hx => by obtain ⟨f, hf⟩ := mem_nums.1 hx; exact h.line.2.2 _ hf
  have H := Lib.hid h
  have HL := Lib.hid (And.intro hnl (And.intro hI hrd))
  have HF := Lib.hid (And.intro ho (And.intro hg hi0))
  clear ho hg hi0
  clear h hnl hI hrd
  go_enter Try.func31, Try.ntmps31
  go_wp2_with fail
  go_step3
  go_wp2_with fail
  go_step3
  go_wp2_with fail
  go_loopw [5, 13] (fun v i wr => ∃ k, k ≤ l.length ∧ i = .int .i64 (k : Int) ∧ ThoseR w (nums l) (f) k v wr) (fun _ i _ => l.length - (intOf i).toNat)
  case atStart => exact ⟨0, Nat.zero_le _, rfl, none, 0, rfl, World.ownsRow_nil _ _ _ _, Below.refl _ _⟩
  case round =>
    obtain ⟨k, hk, rfl, A5, c5', rfl, hown, hbl⟩ := hrel
    by_cases hlt : k < l.length
    · obtain ⟨x, hx⟩ : ∃ x, (nums l)[k]? = some x := ⟨_, List.getElem?_eq_getElem (by rw [HL.out.1]; exact hlt)⟩
      have hxm : x ∈ nums l := List.mem_of_getElem? hx
      have hlen : (((nums l).take k).filter (f)).length ≤ k := Nat.le_trans (List.length_filter_le _ _) (by simp; omega)
      obtain ⟨r, hr⟩ : ∃ r, ((nums l).take k).filter (f) = r := ⟨_, rfl⟩
      rw [hr] at hown hlen ⊢
      have HX := Lib.hid (And.intro hx (And.intro hxm hr))
      have hrd := HL.out.2.2
      obtain ⟨A', n', c', hv, _, _, _, hcc⟩ := hrd
      injection hv with e1 e2 e3
      subst e1 e2 e3
      obtain ⟨bl, ol, rfl, _, hcd⟩ := hcc (by omega)
      have hcx := hcd k (.int .i64 x) (by simp [hx])
      have hbl0 : bl < w.heap.size := World.block_lt_of_cell? w _ hcx
      have hcx' := (hbl.cell (p := ⟨bl, ol + k, none⟩) hbl0).trans hcx
      have hs := hbl.size
      have HO := Lib.hid (And.intro hown hbl)
      clear hcx hcc hcd hown hbl hr hx hxm
      go_wp2_with fail
      refine (on_ok _ b m3 n g3 i x (f x) ((HO.out.2.cell (p := ⟨b, 5, none⟩) (World.block_lt_of_cell? _ _ c5)).trans c5) (H.out.mp3.below HO.out.2) HF.out.2.2 (HL.out.2.1 x HX.out.2.1) (HF.out.1 x) (HF.out.2.1 _)).mono ?_
      rintro e w1 ⟨rfl, hb1⟩
      have hbw : Below w.heap.size w w1 := HO.out.2.trans (Below.mono hb1 HO.out.2.size)
      have hown1 := own_below HO.out.1 hb1
      have hnews := World.news_of_block (heap_alloc_new w1 (.cells #[.int .i64 x] 3))
      have HOW := Lib.hid (And.intro hbw (And.intro (hown1.alloc (.cells #[.int .i64 x] 3)) (And.intro hnews hown1)))
      have HHI := Lib.hid hi
      clear hb1 hown1 hnews hbw
      cases hp : (f x) with
      | true =>
        have HP := Lib.hid hp
        clear hp
        go_wp2_with (at_builtin; go_loud (refine wpList_append_lies _ rfl _ _ 43 rfl w.heap.size 3 i0 _ 1 8 Try.underlying43 HHI.out hz0 hz1 hz2 rfl (by decide) (.slice A5 r.length c5') r.length _ rfl HOW.out.2.1 ⟨w1.heap.size, 0, none⟩ 1 1 [.int .i64 x] rfl rfl HOW.out.2.2.1 (by simp [Value.oneCell']) (by decide) (by unfold maxLen; omega) (by omega) (by have := HOW.out.1.size; simp; omega) _ rfl ?_); intro g cap w2 hown1 hgrow1 hat1 hlt1)
        go_roundw
        case rel =>
          have hrx := filter_take_yes (p := f) HX.out.1 HP.out
          rw [HX.out.2.2] at hrx
          refine ⟨k + 1, by omega, by go_num, some ⟨g, 0, none⟩, cap, by rw [hrx]; simp, ?_, ?_⟩
          · rw [hrx]
            simpa using hown1
          · have hs1 := HOW.out.1.size
            exact (HOW.out.1.alloc hs1 _).grown hgrow1 (by simp; omega) (fun j hj => (HOW.out.2.2.2.lt j hj).1)
        case measure => simp [intOf]; omega
      | false =>
        have HP := Lib.hid hp
        clear hp
        go_wp2_with fail
        go_roundw
        case rel =>
          have hrx := filter_take_no (p := f) HX.out.1 HP.out
          rw [HX.out.2.2] at hrx
          exact ⟨k + 1, by omega, by go_num, _, _, by rw [hrx], by rw [hrx]; exact HOW.out.2.2.2, HOW.out.1⟩
        case measure => simp [intOf]; omega
    · have hkl : k = l.length := by omega
      subst hkl
      have htk : (nums l).take l.length = nums l := List.take_of_length_le (by rw [HL.out.1]; exact Nat.le_refl _)
      rw [htk] at hown ⊢
      clear htk
      go_wp2_with fail
      rw [Exit.noGoto_ret]
      go_ret
      exact ⟨_, rfl, A5, c5', rfl, hown, hbl⟩

/-! ### Ready, Waits, Len -/
theorem lkReady_ok (w : World) (F C : Nat → Prop) (b n : Nat) (sm : Bool) (la : Int) (l : List Ent) (h : LkAt w F C b sm la l n) (hl : l.length ≤ 100000) :
    Calls Try.prog 17 #[.pointer (some ⟨b, 0, none⟩)] w fun e w' => ∃ v, e = .returned v ∧ FreshI (ready l) w v w' := by
  obtain ⟨m1, m2, m3, lv, g1, g2, g3, h, ho, hw⟩ := h
  have H := Lib.hid (And.intro h ho)
  clear h ho hw
  go_enter Try.func17, Try.ntmps17
  go_wp2_with fail
  refine (those_ready w F C b n m1 m2 m3 sm la l lv g1 g2 g3 H.out.1 hl (opn l) H.out.2).mono ?_
  rintro e w1 ⟨v, rfl, hf⟩
  have HF := Lib.hid hf
  clear hf
  go_wp2_with fail
  go_ret
  exact ⟨v, rfl, HF.out⟩
theorem lkLen_ok (w : World) (F C : Nat → Prop) (b n : Nat) (sm : Bool) (la : Int) (l : List Ent) (h : LkAt w F C b sm la l n) :
    Calls Try.prog 19 #[.pointer (some ⟨b, 0, none⟩)] w fun e w' => e = .returned (.int .i64 (l.length : Int)) ∧ w = w' := by
  obtain ⟨m1, m2, m3, lv, g1, g2, g3, h, _⟩ := h
  obtain ⟨A, c, rfl⟩ := ownsRow_slice h.own
  obtain ⟨_, _, c2, _, _, _⟩ := h.cells
  clear h
  go_enter Try.func19, Try.ntmps19
  go_wp2_with fail
  go_ret
  exact ⟨rfl, rfl⟩
/-- What Waits hands back. -/
def WaitsP (l : List Ent) (id : Int) (w : World) (e : Ending) (w' : World) : Prop :=
  Below w.heap.size w w' ∧ ((id ∉ nums l ∧ e = .returned (.tuple #[.slice none 0 0, .int .i64 14])) ∨ (id ∈ nums l ∧ ∃ v, e = .returned (.tuple #[v, .int .i64 0]) ∧ FreshI (waits l id) w v w'))
theorem FreshI.below {l : List Int} {w w' : World} {v : Value} (h : FreshI l w v w') : Below w.heap.size w w' := by
  obtain ⟨A, c, rfl, h1, h2⟩ := h
  exact h2
theorem FreshI.from_ {l : List Int} {w0 w w' : World} {v : Value} (h : FreshI l w v w') (hb : Below w0.heap.size w0 w) : FreshI l w0 v w' := by
  obtain ⟨A, c, rfl, h1, h2⟩ := h
  exact ⟨A, c, rfl, own_base h1 (fun g hg => Nat.le_trans hb.size (h1.lt g hg).1), hb.trans (h2.mono hb.size)⟩
set_option maxRecDepth 100000 in
theorem lkWaits_ok (w : World) (F C : Nat → Prop) (b n : Nat) (sm : Bool) (la : Int) (l : List Ent) (id : Int) (h : LkAt w F C b sm la l n) (hl : l.length ≤ 100000) (hid : I64 id) :
    Calls Try.prog 13 #[.pointer (some ⟨b, 0, none⟩), .int .i64 id] w (WaitsP l id w) := by
  obtain ⟨m1, m2, m3, lv, g1, g2, g3, h, ho, hw⟩ := h
  obtain ⟨_, _, _, c3, _, _⟩ := h.cells
  have HH := Lib.hid (And.intro h (And.intro hid hw))
  clear ho hw hid
  by_cases hm : id ∈ nums l
  · obtain ⟨f, hf⟩ := mem_nums.1 hm
    obtain ⟨v, hv, hrd, _⟩ := h.feet.2 _ hf
    obtain ⟨A1, c1, rfl, _, _⟩ := hrd.slice
    clear hrd
    have e1 : (g1 (.int .i64 id)).getD (.agg #[.slice none 0 0]) = .agg #[.slice A1 f.length c1] := by rw [hv]; rfl
    have e2 : (g1 (.int .i64 id)).isSome = true := by rw [hv]; rfl
    have HE := Lib.hid (And.intro e1 (And.intro e2 hm))
    clear e1 e2 hv hf hm h
    go_enter Try.func13, Try.ntmps13
    go_wp2_with (at_lookup; go_loud (refine wpList_look_ok _ rfl _ _ 53 rfl lawI Try.underlying53 (Try.zeroFoot _) rfl HH.out.1.mp1 rfl (keyI HH.out.2.1) _ true HE.out.1 HE.out.2.1 ?_))
    refine (those_on _ F C b n m1 m2 m3 sm la l lv g1 g2 g3 (HH.out.1.below (box1 _ _)) hl id HH.out.2.1 (wtB l id) (HH.out.2.2.1 id) HH.out.2.2.2).mono ?_
    rintro e w1 ⟨v1, rfl, hf⟩
    have HF := Lib.hid hf
    clear hf
    go_wp2_with fail
    go_ret2
    exact ⟨unbox1 HF.out.below, .inr ⟨HE.out.2.2, v1, rfl, HF.out.from_ (box1 _ _)⟩⟩
  · have hv := h.feet.1 id hm
    have e1 : (g1 (.int .i64 id)).getD (.agg #[.slice none 0 0]) = .agg #[.slice none 0 0] := by rw [hv]; rfl
    have e2 : (g1 (.int .i64 id)).isSome = false := by rw [hv]; rfl
    have HE := Lib.hid (And.intro e1 (And.intro e2 hm))
    clear e1 e2 hv hm h
    go_enter Try.func13, Try.ntmps13
    go_wp2_with (at_lookup; go_loud (refine wpList_look_ok _ rfl _ _ 53 rfl lawI Try.underlying53 (Try.zeroFoot _) rfl HH.out.1.mp1 rfl (keyI HH.out.2.1) _ false HE.out.1 HE.out.2.1 ?_))
    go_ret2
    exact ⟨box1 _ _, .inl ⟨HE.out.2.2, rfl⟩⟩

end Go.Proofs.Ytihjcfifakcpgaa
