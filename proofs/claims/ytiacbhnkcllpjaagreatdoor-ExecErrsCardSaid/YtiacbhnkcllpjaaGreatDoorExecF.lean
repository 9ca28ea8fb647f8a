/- exec over a log of one empty piece: Outcomes; the example of layer 17. -/
import Derived.Test.YtiacbhnkcllpjaaGreatDoorExecE
namespace Go.Proofs.YtiacbhnkcllpjaaGreatDoor
set_option maxRecDepth 100000
open Go.RowKit Go.Maps Go.WideShapes

theorem Tryz.infoOut : (Tryz.prog.info? 43).map (fun i => (i.zero, i.size, i.bytes)) = some (some (.agg #[.int .i64 0, .int .i64 0, .int .i64 0]), 3, 24) := by kernel_rfl
theorem outG0 : (outG (.int .i64 0)).getD (.agg #[.int .i64 0, .int .i64 0, .int .i64 0]) = .agg #[.int .i64 7, .int .i64 0, .int .i64 0] ∧ (outG (.int .i64 0)).isSome = true := by
  unfold outG
  rw [updM_same]
  exact ⟨rfl, rfl⟩
/-- A row of one outcome: malformed. -/
def OneOut (w : World) (e : Ending) (w' : World) : Prop := ∃ G o c, e = .returned (.slice (some ⟨G, o, none⟩) 1 c) ∧ Below w.heap.size w w' ∧ w'.cell? ⟨G, o, none⟩ = some (.int .i64 7) ∧ w'.cell? ⟨G, o + 1, none⟩ = some (.int .i64 0) ∧ w'.cell? ⟨G, o + 2, none⟩ = some (.int .i64 0)
def OutR (w : World) (k : Nat) (v : Value) (wr : World) : Prop := (k = 0 ∧ v = .slice none 0 0 ∧ wr = w) ∨ (k = 1 ∧ wr.ownsRow w.heap.size 43 3 v 1 [.int .i64 7, .int .i64 0, .int .i64 0] ∧ Below w.heap.size w wr)
set_option maxRecDepth 100000 in
set_option maxHeartbeats 2000000 in
theorem exOutcomes1_ok (w : World) (F : Nat → Prop) (R m2 : Nat) (h : RepG w F R m2 1 1 outG) : Calls Tryz.prog 20 #[.pointer (some ⟨R, 0, none⟩)] w (OneOut w) := by
  obtain ⟨i0, hi, hz0, hz1, hz2⟩ := info_parts Tryz.infoOut
  obtain ⟨L, f, T, Kl, B, m1, n, h0, -, -, -, -, -, -, hM⟩ := h
  obtain ⟨⟨r0, r3, r4, r6, r7⟩, -⟩ := repG_cells h0
  have HM := Lib.hid (And.intro hM hi)
  have HK := Lib.hid h0
  clear h0 hM hi
  go_enter Tryz.func20, Tryz.ntmps20
  go_wp2_with fail
  clear r0 r3 r4 r6 r7
  go_loopw [3, 13] (fun v i wr => ∃ k : Nat, k ≤ 1 ∧ i = .int .i64 (k : Int) ∧ OutR w k v wr) (fun _ i _ => 1 - (intOf i).toNat)
  case atStart => exact ⟨0, by decide, rfl, .inl ⟨rfl, rfl, rfl⟩⟩
  case round =>
    obtain ⟨k, -, rfl, ⟨rfl, rfl, rfl⟩ | ⟨rfl, hown, hbl⟩⟩ := hrel
    · obtain ⟨⟨r0, r3, r4, r6, r7⟩, -⟩ := repG_cells HK.out
      have hx := new_box wr (.cells #[.int .i64 7, .int .i64 0, .int .i64 0] 43)
      have k5 := heap_alloc_new wr (.cells #[.int .i64 7, .int .i64 0, .int .i64 0] 43)
      go_upto_region 9 with (at_lookup; go_loud (refine wpList_look_ok _ rfl _ _ 136 rfl lawI Tryz.underlying136 (Tryz.zeroOut _) rfl HM.out.1 rfl keyI0 (.agg #[.int .i64 7, .int .i64 0, .int .i64 0]) true outG0.1 outG0.2 ?_))
      generalize wr.alloc (.cells #[.int .i64 7, .int .i64 0, .int .i64 0] 43) = w8 at hx k5 ⊢
      generalize wr.heap.size = D at k5 ⊢
      obtain ⟨p0, p1, p2⟩ := out3 k5
      have hx9 := new_box w8 (.cells #[.int .i64 7, .int .i64 0, .int .i64 0] 43)
      have hnews := World.news_of_block (heap_alloc_new w8 (.cells #[.int .i64 7, .int .i64 0, .int .i64 0] 43))
      have hown0 : (w8.alloc (.cells #[.int .i64 7, .int .i64 0, .int .i64 0] 43)).ownsRow wr.heap.size 43 3 (.slice none 0 0) 0 [] := World.ownsRow_nil _ _ _ _
      have HA := Lib.hid (And.intro hnews (And.intro hown0 (hx.trans (hx9.mono hx.size))))
      clear r0 r3 r4 r6 r7 hx k5 hx9 hnews hown0
      go_wp2_with (at_builtin; go_loud (refine wpList_append_lies _ rfl _ _ 48 rfl wr.heap.size 43 i0 _ 3 24 Tryz.underlying48 HM.out.2 hz0 hz1 hz2 rfl (by decide) (.slice none 0 0) 0 [] rfl HA.out.2.1 ⟨w8.heap.size, 0, none⟩ 1 1 [.int .i64 7, .int .i64 0, .int .i64 0] rfl rfl HA.out.1 (by simp [Value.oneCell']) (by decide) (by unfold maxLen; omega) (by omega) HA.out.2.2.size _ rfl ?_); intro g cap w9 hown1 hgrow1 hat1 hlt1)
      go_roundw
      case rel => exact ⟨1, by decide, by go_num, .inr ⟨rfl, by simpa using hown1, HA.out.2.2.grown hgrow1 HA.out.2.2.size (fun j hj => by cases hj)⟩⟩
      case measure => simp [intOf]
    · have HO := Lib.hid (And.intro hown hbl)
      obtain ⟨G, o, c', rfl, q0, q1, q2⟩ := own3_cells hown
      clear hown hbl
      go_wp2_with fail
      go_ret
      exact ⟨G, o, c', rfl, HO.out.2, q0, q1, q2⟩
set_option maxRecDepth 100000 in
set_option maxHeartbeats 2000000 in
theorem same15_ok (w : World) (G o c G' o' c' : Nat) (a0 : w.cell? ⟨G, o, none⟩ = some (.int .i64 7)) (a1 : w.cell? ⟨G, o + 1, none⟩ = some (.int .i64 0)) (a2 : w.cell? ⟨G, o + 2, none⟩ = some (.int .i64 0))
    (b0 : w.cell? ⟨G', o', none⟩ = some (.int .i64 7)) (b1 : w.cell? ⟨G', o' + 1, none⟩ = some (.int .i64 0)) (b2 : w.cell? ⟨G', o' + 2, none⟩ = some (.int .i64 0)) :
    Calls Tryz.prog 53 #[.slice (some ⟨G, o, none⟩) 1 c, .slice (some ⟨G', o', none⟩) 1 c'] w fun e w' => e = .returned (.bool true) ∧ Below w.heap.size w w' := by
  have heq := fun w => eqOut 7 0 0 7 0 0 w
  rw [show decide ((7 : Int) = 7 ∧ (0 : Int) = 0 ∧ (0 : Int) = 0) = true from by decide] at heq
  have hgd := Tryz.guardOut
  go_enter Tryz.func53, Tryz.ntmps53
  go_wp2_with fail
  go_loopw [5] (fun i wr => ∃ k : Nat, k ≤ 1 ∧ i = .int .i64 (k : Int) ∧ ∃ d, wr = w.drewN d) (fun i _ => 1 - (intOf i).toNat)
  case atStart => exact ⟨0, by decide, rfl, 0, rfl⟩
  case round =>
    obtain ⟨k, hk, rfl, d, rfl⟩ := hrel
    have hk2 : k = 0 ∨ k = 1 := by omega
    clear hk
    rcases hk2 with rfl | rfl
    · go_wp2_with fail
      go_quiet (fail)
      go_wp2_with fail
      go_roundw
      case rel => exact ⟨1, by decide, by go_num, _, rfl⟩
      case measure => simp [intOf]
    · go_wp2_with fail
      go_ret
      exact ⟨rfl, below_drewN (Below.refl _ _) d⟩
end Go.Proofs.YtiacbhnkcllpjaaGreatDoor
