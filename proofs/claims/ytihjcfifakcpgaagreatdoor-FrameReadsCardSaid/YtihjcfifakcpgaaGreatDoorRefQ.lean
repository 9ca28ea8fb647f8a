/- An entry as the document's answer has it: law11.Plain, law13.Plain, ref13.Check. -/
import Derived.Test.YtihjcfifakcpgaaGreatDoorRefP
import Derived.Test.YtihjcfifakcpgaaGreatDoorFrQ
namespace Go.Proofs.YtihjcfifakcpgaaGreatDoor
set_option maxRecDepth 100000
open Go.RowKit

theorem Tryz.infoRop : (Tryz.prog.info? 49).map (fun i => (i.zero, i.size, i.bytes)) = some (some (.agg #[.int .i64 0, .int .i64 0, .int .i64 0, .int .i64 0, .int .i64 0]), 5, 40) := by kernel_rfl
theorem pops_len (l : List POp) : ∀ x ∈ l.map POp.cells, x.length = 5 := by intro x hx; simp at hx; obtain ⟨y, _, rfl⟩ := hx; rfl
theorem pops_one (l : List POp) : ∀ x ∈ l.map POp.cells, ∀ u ∈ x, u.oneCell' = true := by
  intro x hx
  simp at hx
  obtain ⟨y, _, rfl⟩ := hx
  intro u hu
  simp [POp.cells] at hu
  rcases hu with rfl | rfl | rfl | rfl | rfl <;> rfl
theorem op_snoc {l : List POp} {k : Nat} {x : POp} (h : l[k]? = some x) : ((l.take (k + 1)).map POp.cells).flatten = ((l.take k).map POp.cells).flatten ++ x.cells := by
  rw [List.take_add_one, h]
  simp
set_option maxRecDepth 100000 in
set_option maxHeartbeats 1000000 in
theorem refPlain11_ok (w : World) (G : Nat → Prop) (v : Value) (l : List POp) (h : OpRd w G v l) (hl : l.length ≤ 1000) :
    Calls Tryz.prog 53 #[v] w fun e w' => ∃ A c, e = .returned (.slice A l.length c) ∧ OpRd w' (fun k => w.heap.size ≤ k) (.slice A l.length c) l ∧ Below w.heap.size w w' := by
  obtain ⟨i2, hi, hz0, hz1, hz2⟩ := info_parts Tryz.infoRop
  obtain ⟨A, c, rfl, hlc, hcm⟩ := h.slice
  unfold maxLen at hcm
  have HI := Lib.hid hi
  have H := Lib.hid h
  clear hi h
  go_enter Tryz.func53, Tryz.ntmps53
  go_wp2_with fail
  go_loopw [3, 4] (fun z i wr => ∃ k : Nat, k ≤ l.length ∧ i = .int .i64 (k : Int) ∧ wr.ownsRow w.heap.size 49 5 z k ((l.take k).map POp.cells).flatten ∧ Below w.heap.size w wr) (fun _ i _ => l.length - (intOf i).toNat)
  case atStart => exact ⟨0, Nat.zero_le _, rfl, World.ownsRow_nil _ _ _ _, Below.refl _ _⟩
  case round =>
    obtain ⟨k, hk, rfl, hown, hbl⟩ := hrel
    obtain ⟨Az, cz, rfl⟩ := ownsRow_slice hown
    by_cases hlt : k < l.length
    · obtain ⟨x, hx⟩ : ∃ x, l[k]? = some x := ⟨_, List.getElem?_eq_getElem hlt⟩
      obtain ⟨b, o, rfl, hFb, c0, c1, c2, c3, c4⟩ := H.out.at_ hx
      have hbw := World.block_lt_of_cell? _ _ c0
      have hsn := op_snoc hx
      have i1 : (0 : Int) ≤ (k : Int) := by omega
      have i2' : (k : Int) < (l.length : Int) := by omega
      have hsz := hbl.size
      have hown2 := hown.alloc (.cells #[.int .i64 x.d, .int .i64 x.a, .int .i64 x.b, .int .i64 x.c, .int .i64 x.n] 49)
      have hnews := World.news_of_block (heap_alloc_new wr (.cells #[.int .i64 x.d, .int .i64 x.a, .int .i64 x.b, .int .i64 x.c, .int .i64 x.n] 49))
      have HX := Lib.hid (And.intro hown2 (And.intro hnews (And.intro hbl hsn)))
      clear hown hown2 hnews hsn hx hFb
      go_upto_region 5 with fail
      refine wp_region_held_drew (S := (fun w' => Below w.heap.size w w')) (by kernel_rfl) HX.out.2.2.1.drew (fun hHeld => ?_)
      refine take_lit (i := 0) (v := ?_) rfl (by kernel_rfl) (by kernel_rfl) (by kernel_rfl) (fun _ _ _ h => h) (by rfl) (fun w hSw => ?_) hHeld ?_
      rotate_left
      · go_simp; try with_reducible rfl
      try simp only [Act.put, List.setIfInBounds_toArray, List.set_cons_zero, List.set_cons_succ]
      refine take_lit (i := 1) (v := ?_) rfl (by kernel_rfl) (by kernel_rfl) (by kernel_rfl) (fun _ _ _ h => h) (by rfl) (fun w hSw => ?_) hHeld ?_
      rotate_left
      · go_simp; try with_reducible rfl
      try simp only [Act.put, List.setIfInBounds_toArray, List.set_cons_zero, List.set_cons_succ]
      refine take_lit (i := 2) (v := ?_) rfl (by kernel_rfl) (by kernel_rfl) (by kernel_rfl) (fun _ _ _ h => h) (by rfl) (fun w hSw => ?_) hHeld ?_
      rotate_left
      · go_simp; try with_reducible rfl
      try simp only [Act.put, List.setIfInBounds_toArray, List.set_cons_zero, List.set_cons_succ]
      refine take_lit (i := 3) (v := ?_) rfl (by kernel_rfl) (by kernel_rfl) (by kernel_rfl) (fun _ _ _ h => h) (by rfl) (fun w hSw => ?_) hHeld ?_
      rotate_left
      · go_simp; try with_reducible rfl
      try simp only [Act.put, List.setIfInBounds_toArray, List.set_cons_zero, List.set_cons_succ]
      refine take_lit (i := 4) (v := ?_) rfl (by kernel_rfl) (by kernel_rfl) (by kernel_rfl) (fun _ _ _ h => h) (by rfl) (fun w hSw => ?_) hHeld ?_
      rotate_left
      · go_simp; try with_reducible rfl
      try simp only [Act.put, List.setIfInBounds_toArray, List.set_cons_zero, List.set_cons_succ]
      refine take_lit (i := 5) (v := ?_) rfl (by kernel_rfl) (by kernel_rfl) (by kernel_rfl) (fun _ _ _ h => h) (by rfl) (fun w hSw => ?_) hHeld ?_
      rotate_left
      · have z0 := (hSw.cell (p := ⟨b, o + k * 5, none⟩) hbw).trans c0; go_simp; try with_reducible rfl
      try simp only [Act.put, List.setIfInBounds_toArray, List.set_cons_zero, List.set_cons_succ]
      refine take_lit (i := 6) (v := ?_) rfl (by kernel_rfl) (by kernel_rfl) (by kernel_rfl) (fun _ _ _ h => h) (by rfl) (fun w hSw => ?_) hHeld ?_
      rotate_left
      · go_simp; try with_reducible rfl
      try simp only [Act.put, List.setIfInBounds_toArray, List.set_cons_zero, List.set_cons_succ]
      refine take_lit (i := 7) (v := ?_) rfl (by kernel_rfl) (by kernel_rfl) (by kernel_rfl) (fun _ _ _ h => h) (by rfl) (fun w hSw => ?_) hHeld ?_
      rotate_left
      · go_simp; try with_reducible rfl
      try simp only [Act.put, List.setIfInBounds_toArray, List.set_cons_zero, List.set_cons_succ]
      refine take_lit (i := 8) (v := ?_) rfl (by kernel_rfl) (by kernel_rfl) (by kernel_rfl) (fun _ _ _ h => h) (by rfl) (fun w hSw => ?_) hHeld ?_
      rotate_left
      · go_simp; try with_reducible rfl
      try simp only [Act.put, List.setIfInBounds_toArray, List.set_cons_zero, List.set_cons_succ]
      refine take_lit (i := 9) (v := ?_) rfl (by kernel_rfl) (by kernel_rfl) (by kernel_rfl) (fun _ _ _ h => h) (by rfl) (fun w hSw => ?_) hHeld ?_
      rotate_left
      · go_simp; try with_reducible rfl
      try simp only [Act.put, List.setIfInBounds_toArray, List.set_cons_zero, List.set_cons_succ]
      refine take_lit (i := 10) (v := ?_) rfl (by kernel_rfl) (by kernel_rfl) (by kernel_rfl) (fun _ _ _ h => h) (by rfl) (fun w hSw => ?_) hHeld ?_
      rotate_left
      · have z1 := (hSw.cell (p := ⟨b, o + k * 5 + 1, none⟩) hbw).trans c1; go_simp; try with_reducible rfl
      try simp only [Act.put, List.setIfInBounds_toArray, List.set_cons_zero, List.set_cons_succ]
      refine take_lit (i := 11) (v := ?_) rfl (by kernel_rfl) (by kernel_rfl) (by kernel_rfl) (fun _ _ _ h => h) (by rfl) (fun w hSw => ?_) hHeld ?_
      rotate_left
      · go_simp; try with_reducible rfl
      try simp only [Act.put, List.setIfInBounds_toArray, List.set_cons_zero, List.set_cons_succ]
      refine take_lit (i := 12) (v := ?_) rfl (by kernel_rfl) (by kernel_rfl) (by kernel_rfl) (fun _ _ _ h => h) (by rfl) (fun w hSw => ?_) hHeld ?_
      rotate_left
      · go_simp; try with_reducible rfl
      try simp only [Act.put, List.setIfInBounds_toArray, List.set_cons_zero, List.set_cons_succ]
      refine take_lit (i := 13) (v := ?_) rfl (by kernel_rfl) (by kernel_rfl) (by kernel_rfl) (fun _ _ _ h => h) (by rfl) (fun w hSw => ?_) hHeld ?_
      rotate_left
      · go_simp; try with_reducible rfl
      try simp only [Act.put, List.setIfInBounds_toArray, List.set_cons_zero, List.set_cons_succ]
      refine take_lit (i := 14) (v := ?_) rfl (by kernel_rfl) (by kernel_rfl) (by kernel_rfl) (fun _ _ _ h => h) (by rfl) (fun w hSw => ?_) hHeld ?_
      rotate_left
      · go_simp; try with_reducible rfl
      try simp only [Act.put, List.setIfInBounds_toArray, List.set_cons_zero, List.set_cons_succ]
      refine take_lit (i := 15) (v := ?_) rfl (by kernel_rfl) (by kernel_rfl) (by kernel_rfl) (fun _ _ _ h => h) (by rfl) (fun w hSw => ?_) hHeld ?_
      rotate_left
      · have z2 := (hSw.cell (p := ⟨b, o + k * 5 + 2, none⟩) hbw).trans c2; go_simp; try with_reducible rfl
      try simp only [Act.put, List.setIfInBounds_toArray, List.set_cons_zero, List.set_cons_succ]
      refine take_lit (i := 16) (v := ?_) rfl (by kernel_rfl) (by kernel_rfl) (by kernel_rfl) (fun _ _ _ h => h) (by rfl) (fun w hSw => ?_) hHeld ?_
      rotate_left
      · go_simp; try with_reducible rfl
      try simp only [Act.put, List.setIfInBounds_toArray, List.set_cons_zero, List.set_cons_succ]
      refine take_lit (i := 17) (v := ?_) rfl (by kernel_rfl) (by kernel_rfl) (by kernel_rfl) (fun _ _ _ h => h) (by rfl) (fun w hSw => ?_) hHeld ?_
      rotate_left
      · go_simp; try with_reducible rfl
      try simp only [Act.put, List.setIfInBounds_toArray, List.set_cons_zero, List.set_cons_succ]
      refine take_lit (i := 18) (v := ?_) rfl (by kernel_rfl) (by kernel_rfl) (by kernel_rfl) (fun _ _ _ h => h) (by rfl) (fun w hSw => ?_) hHeld ?_
      rotate_left
      · go_simp; try with_reducible rfl
      try simp only [Act.put, List.setIfInBounds_toArray, List.set_cons_zero, List.set_cons_succ]
      refine take_lit (i := 19) (v := ?_) rfl (by kernel_rfl) (by kernel_rfl) (by kernel_rfl) (fun _ _ _ h => h) (by rfl) (fun w hSw => ?_) hHeld ?_
      rotate_left
      · go_simp; try with_reducible rfl
      try simp only [Act.put, List.setIfInBounds_toArray, List.set_cons_zero, List.set_cons_succ]
      refine take_lit (i := 20) (v := ?_) rfl (by kernel_rfl) (by kernel_rfl) (by kernel_rfl) (fun _ _ _ h => h) (by rfl) (fun w hSw => ?_) hHeld ?_
      rotate_left
      · have z3 := (hSw.cell (p := ⟨b, o + k * 5 + 3, none⟩) hbw).trans c3; go_simp; try with_reducible rfl
      try simp only [Act.put, List.setIfInBounds_toArray, List.set_cons_zero, List.set_cons_succ]
      refine take_lit (i := 21) (v := ?_) rfl (by kernel_rfl) (by kernel_rfl) (by kernel_rfl) (fun _ _ _ h => h) (by rfl) (fun w hSw => ?_) hHeld ?_
      rotate_left
      · go_simp; try with_reducible rfl
      try simp only [Act.put, List.setIfInBounds_toArray, List.set_cons_zero, List.set_cons_succ]
      refine take_lit (i := 22) (v := ?_) rfl (by kernel_rfl) (by kernel_rfl) (by kernel_rfl) (fun _ _ _ h => h) (by rfl) (fun w hSw => ?_) hHeld ?_
      rotate_left
      · go_simp; try with_reducible rfl
      try simp only [Act.put, List.setIfInBounds_toArray, List.set_cons_zero, List.set_cons_succ]
      refine take_lit (i := 23) (v := ?_) rfl (by kernel_rfl) (by kernel_rfl) (by kernel_rfl) (fun _ _ _ h => h) (by rfl) (fun w hSw => ?_) hHeld ?_
      rotate_left
      · go_simp; try with_reducible rfl
      try simp only [Act.put, List.setIfInBounds_toArray, List.set_cons_zero, List.set_cons_succ]
      refine take_lit (i := 24) (v := ?_) rfl (by kernel_rfl) (by kernel_rfl) (by kernel_rfl) (fun _ _ _ h => h) (by rfl) (fun w hSw => ?_) hHeld ?_
      rotate_left
      · go_simp; try with_reducible rfl
      try simp only [Act.put, List.setIfInBounds_toArray, List.set_cons_zero, List.set_cons_succ]
      refine take_lit (i := 25) (v := ?_) rfl (by kernel_rfl) (by kernel_rfl) (by kernel_rfl) (fun _ _ _ h => h) (by rfl) (fun w hSw => ?_) hHeld ?_
      rotate_left
      · have z4 := (hSw.cell (p := ⟨b, o + k * 5 + 4, none⟩) hbw).trans c4; go_simp; try with_reducible rfl
      try simp only [Act.put, List.setIfInBounds_toArray, List.set_cons_zero, List.set_cons_succ]
      refine take_lit (i := 26) (v := ?_) rfl (by kernel_rfl) (by kernel_rfl) (by kernel_rfl) (fun _ _ _ h => h) (by rfl) (fun w hSw => ?_) hHeld ?_
      rotate_left
      · go_simp; try with_reducible rfl
      try simp only [Act.put, List.setIfInBounds_toArray, List.set_cons_zero, List.set_cons_succ]
      refine take_lit (i := 27) (v := ?_) rfl (by kernel_rfl) (by kernel_rfl) (by kernel_rfl) (fun _ _ _ h => h) (by rfl) (fun w hSw => ?_) hHeld ?_
      rotate_left
      · go_simp; try with_reducible rfl
      try simp only [Act.put, List.setIfInBounds_toArray, List.set_cons_zero, List.set_cons_succ]
      refine wpAnyH_ready (rs := [28]) (by kernel_rfl) (by simp) (cons_lit (i := 28) rfl (fun K hK => ?_) AllReadyH.nil)
      go_simp
      refine hK.out _ _ (HX.out.2.2.1.drew.alloc hsz _) (fun hHeld2 => ?_)
      clear hK K hHeld
      have hHeld := hHeld2
      clear hHeld2
      try simp only [Act.put, List.setIfInBounds_toArray, List.set_cons_zero, List.set_cons_succ]
      refine wpAnyH_ready (rs := [29]) (by kernel_rfl) (by simp) (cons_lit (i := 29) rfl (fun K hK => ?_) AllReadyH.nil)
      (refine step_append_lies _ (by rfl) _ _ 37 (by rfl) w.heap.size 49 i2 _ 5 40 Tryz.underlying37 HI.out hz0 hz1 hz2 (by rfl) (by decide) (.slice Az k cz) k _ (by rfl) HX.out.1 ⟨wr.heap.size, 0, none⟩ 1 1 [.int .i64 x.d, .int .i64 x.a, .int .i64 x.b, .int .i64 x.c, .int .i64 x.n] (by rfl) (by rfl) HX.out.2.1 (by simp [Value.oneCell']) (by decide) (by unfold maxLen; omega) (by omega) (by simp; omega) (wr.heap.size + 1) (by simp) ?_)
      intro g3 cap3 wA hown3 hgrow3 hat3 hlt3
      refine hK.out _ _ (((HX.out.2.2.1.alloc hsz _).drew).grown hgrow3 (by simp; omega) (fun j hj => (HX.out.1.lt j hj).1)) (fun hHeld2 => ?_)
      clear hK K hHeld
      have hHeld := hHeld2
      clear hHeld2
      try simp only [Act.put, List.setIfInBounds_toArray, List.set_cons_zero, List.set_cons_succ]
      refine take_lit (i := 30) (v := ?_) rfl (by kernel_rfl) (by kernel_rfl) (by kernel_rfl) (fun _ _ _ h => h) (by rfl) (fun w hSw => ?_) hHeld ?_
      rotate_left
      · go_simp; try with_reducible rfl
      try simp only [Act.put, List.setIfInBounds_toArray, List.set_cons_zero, List.set_cons_succ]
      refine wpAnyH_done (by kernel_rfl) ?_ _
      have HG3 := Lib.hid (And.intro hown3 hHeld)
      clear hown3 hgrow3 hat3 hHeld c0 c1 c2 c3 c4
      go_wp2_with fail
      go_roundw
      case rel =>
        refine ⟨k + 1, by omega, by go_num, ?_, HG3.out.2⟩
        rw [HX.out.2.2.2]
        simpa [POp.cells] using HG3.out.1
      case measure => simp [intOf]; omega
    · obtain rfl : k = l.length := by omega
      rw [List.take_length] at hown
      have HO := Lib.hid (And.intro hown hbl)
      clear hown hbl
      go_wp2_with fail
      go_ret
      exact ⟨Az, cz, rfl, RdK.of_own HO.out.1 (pops_len l) (by decide) (fun g hg => (HO.out.1.lt g hg).1), HO.out.2⟩

/-- An entry in a box, as the document's answer has it. -/
def RBx (w : World) (B : Nat) (e : FE) (A1 : Option Addr) (c1 : Nat) (A2 : Option Addr) (c2 : Nat) (A3 : Option Addr) (c3 : Nat) : Prop :=
  w.heap[B]? = some (.cells #[.int .i64 e.id, .slice A1 e.ops.length c1, .slice A2 e.args.length c2, .slice A3 e.cls.length c3] 39 (0, 0)) ∧
    EntRd w (fun _ => True) e (.slice A1 e.ops.length c1) (.slice A2 e.args.length c2) (.slice A3 e.cls.length c3)
theorem RBx.below {w w' : World} {B : Nat} {e : FE} {A1 A2 A3 : Option Addr} {c1 c2 c3 : Nat} (h : RBx w B e A1 c1 A2 c2 A3 c3) (hb : Below w.heap.size w w') : RBx w' B e A1 c1 A2 c2 A3 c3 :=
  ⟨(Only.of_below hb (fun _ => False)).heap h.1 (fun h => h), h.2.below hb⟩
theorem RBx.cells {w : World} {B : Nat} {e : FE} {A1 A2 A3 : Option Addr} {c1 c2 c3 : Nat} (h : RBx w B e A1 c1 A2 c2 A3 c3) : w.cell? ⟨B, 0, none⟩ = some (.int .i64 e.id) ∧ w.cell? ⟨B, 1, none⟩ = some (.slice A1 e.ops.length c1) ∧ w.cell? ⟨B, 2, none⟩ = some (.slice A2 e.args.length c2) ∧ w.cell? ⟨B, 3, none⟩ = some (.slice A3 e.cls.length c3) := by
  obtain ⟨⟨a, b, c, d⟩, _⟩ := blk4 h.1
  exact ⟨a, b, c, d⟩
/-- A block of four cells, whatever they are. -/
def Four4 (w : World) (R : Nat) : Prop := ∃ a0 a1 a2 a3, w.heap[R]? = some (.cells #[a0, a1, a2, a3] 39 (0, 0))
theorem Four4.below {w w' : World} {R : Nat} (h : Four4 w R) (hb : Below w.heap.size w w') : Four4 w' R := by
  obtain ⟨a0, a1, a2, a3, h⟩ := h
  exact ⟨a0, a1, a2, a3, (Only.of_below hb (fun _ => False)).heap h (fun h => h)⟩
theorem Four4.put {w : World} {R : Nat} (h : Four4 w R) (v0 v1 v2 v3 : Value) : Four4 ((((w.setCell ⟨R, 0, none⟩ v0).setCell ⟨R, 1, none⟩ v1).setCell ⟨R, 2, none⟩ v2).setCell ⟨R, 3, none⟩ v3) R := by
  obtain ⟨a0, a1, a2, a3, h⟩ := h
  exact ⟨_, _, _, _, put4 h v0 v1 v2 v3⟩
end Go.Proofs.YtihjcfifakcpgaaGreatDoor
