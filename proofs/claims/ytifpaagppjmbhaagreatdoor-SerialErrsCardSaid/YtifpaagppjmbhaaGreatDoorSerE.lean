/- serial.Fold of a log without pieces. -/
import Derived.Test.YtifpaagppjmbhaaGreatDoorSerD
import Derived.Test.YtifpaagppjmbhaaGreatDoorSerC
namespace Go.Proofs.YtifpaagppjmbhaaGreatDoor
set_option maxRecDepth 100000
open Go.RowKit

attribute [local go_sem] Oper.semAt_some run_store_fnT
/-- What Fold of a log without pieces answers. -/
def FoldE (w : World) (e most n : Int) (x : Ending) (w' : World) : Prop :=
  Below w.heap.size w w' ∧ (e = 0 → ∃ T, x = .returned (.tuple #[.slice none 0 0, .pointer (some ⟨T, 0, none⟩), .int .i64 0]) ∧ TableE w' T most n w.heap.size) ∧
    (e ≠ 0 → x = .returned (.tuple #[.slice none 0 0, .pointer none, .int .i64 e]))
set_option maxRecDepth 100000 in
set_option maxHeartbeats 1000000 in
theorem fold0_ok (w : World) (L : Nat) (most n f : Int) (h : LogE w L) : Calls Tryz.prog 11 #[.pointer (some ⟨L, 0, none⟩), cfgV most n f] w (FoldE w (cfgErr most n f) most n) := by
  unfold cfgV
  have hb0 := new_box w (.cells #[.int .i64 most, .int .i64 n, .int .i64 f] 23)
  have k0 := heap_alloc_new w (.cells #[.int .i64 most, .int .i64 n, .int .i64 f] 23)
  refine calls_marks Tryz.func11 rfl ?_
  simp only [Tryz.ntmps11, List.size_toArray, List.length_cons, List.length_nil, Nat.reduceAdd, Nat.reduceSub, Array.replicate_succ, Array.replicate_zero, List.push_toArray, List.append_toArray, List.nil_append, List.cons_append]
  go_upto_region 1 with fail
  generalize w.alloc (.cells #[.int .i64 most, .int .i64 n, .int .i64 f] 23) = w1 at hb0 k0 ⊢
  obtain ⟨C, hC⟩ : ∃ x, w.heap.size = x := ⟨_, rfl⟩
  rw [hC] at k0 ⊢
  have z0 : w1.cell? ⟨C, 0, none⟩ = some (.int .i64 most) := by simp [World.cell?, k0]
  have z1 : w1.cell? ⟨C, 1, none⟩ = some (.int .i64 n) := by simp [World.cell?, k0]
  have z2 : w1.cell? ⟨C, 2, none⟩ = some (.int .i64 f) := by simp [World.cell?, k0]
  have HB := Lib.hid (And.intro hb0 (And.intro k0 (And.intro hC (h.below hb0))))
  have HC := Lib.hid (serCheck_ok w1 most n f)
  unfold cfgV at HC
  clear hb0 k0 hC h
  go_wp2_with fail
  go_step3
  go_wp2_with fail
  refine HC.out.mono ?_
  rintro e w2 ⟨rfl, hb2⟩
  have k2 := (Only.of_below hb2 (fun _ => False)).heap HB.out.2.1 (fun h => h)
  have z0 : w2.cell? ⟨C, 0, none⟩ = some (.int .i64 most) := by simp [World.cell?, k2]
  have z1 : w2.cell? ⟨C, 1, none⟩ = some (.int .i64 n) := by simp [World.cell?, k2]
  have z2 : w2.cell? ⟨C, 2, none⟩ = some (.int .i64 f) := by simp [World.cell?, k2]
  have HB2 := Lib.hid (And.intro (HB.out.1.trans (hb2.mono HB.out.1.size)) (And.intro k2 (HB.out.2.2.2.below hb2)))
  clear hb2 k2 HC
  by_cases h0 : cfgErr most n f = 0
  · have HE := Lib.hid (serEmpty_ok w2 most n f)
    unfold cfgV at HE
    rw [h0] at HE ⊢
    have H0 := Lib.hid h0
    clear h0
    go_wp2_with fail
    refine HE.out.mono ?_
    rintro e w3 ⟨hb3, h, -⟩
    obtain ⟨T, rfl, hT, hE⟩ := h rfl
    have HB3 := Lib.hid (And.intro (HB2.out.1.trans (hb3.mono HB2.out.1.size)) (And.intro (HB2.out.2.2.below hb3) (hE.le HB2.out.1.size)))
    clear h hb3 hE HE z0 z1 z2
    have hx1 := new_box w3 (.cells #[.pointer (some ⟨T, 0, none⟩)] 24)
    have kx1 := heap_alloc_new w3 (.cells #[.pointer (some ⟨T, 0, none⟩)] 24)
    have hx2 := new_box (w3.alloc (.cells #[.pointer (some ⟨T, 0, none⟩)] 24)) (.cells #[.int .i64 0] 25)
    have kx2 := heap_alloc_new (w3.alloc (.cells #[.pointer (some ⟨T, 0, none⟩)] 24)) (.cells #[.int .i64 0] 25)
    have kx1' := (Only.of_below hx2 (fun _ => False)).heap kx1 (fun h => h)
    have hx := hx1.trans (hx2.mono hx1.size)
    go_upto_region 7 with fail
    generalize (w3.alloc (.cells #[.pointer (some ⟨T, 0, none⟩)] 24)).alloc (.cells #[.int .i64 0] 25) = w4 at hx kx1' kx2 ⊢
    rw [show (w3.alloc (.cells #[.pointer (some ⟨T, 0, none⟩)] 24)).heap.size = w3.heap.size + 1 by simp] at kx2
    generalize w3.heap.size + 1 = E4 at kx2 ⊢
    have HB4 := Lib.hid (And.intro (HB3.out.1.trans (hx.mono HB3.out.1.size)) (And.intro (HB3.out.2.1.below hx) (And.intro (HB3.out.2.2.below hx) (And.intro kx1' kx2))))
    generalize w3.heap.size = T4 at kx1' HB4 ⊢
    have z0 : w4.cell? ⟨E4, 0, none⟩ = some (.int .i64 0) := by simp [World.cell?, kx2]
    clear hx1 kx1 hx2 kx2 kx1' hx
    have hx5 := new_box w4 (.cells #[.slice none 0 0] 31)
    have kx5 := heap_alloc_new w4 (.cells #[.slice none 0 0] 31)
    go_upto_region 10 with fail
    generalize w4.alloc (.cells #[.slice none 0 0] 31) = w5 at hx5 kx5 ⊢
    generalize w4.heap.size = R5 at kx5 ⊢
    go_step3
    have HA := Lib.hid (logAll0_ok w5 L (HB4.out.2.1.below hx5))
    go_wp2_with fail
    refine HA.out.mono ?_
    rintro e w6 ⟨B, A, c, rfl, hb6, kB⟩
    have HS := Lib.hid (logAll0_seq w6 B A c kB)
    have h56 : Below w4.heap.size w4 w6 := hx5.trans (hb6.mono hx5.size)
    have HB6 := Lib.hid (And.intro (HB4.out.1.trans (h56.mono HB4.out.1.size)) (And.intro (HB4.out.2.2.1.below h56) (And.intro ((Only.of_below h56 (fun _ => False)).heap HB4.out.2.2.2.1 (fun h => h)) (And.intro ((Only.of_below h56 (fun _ => False)).heap HB4.out.2.2.2.2 (fun h => h)) (And.intro ((Only.of_below hb6 (fun _ => False)).heap kx5 (fun h => h)) (Array.getElem?_eq_some_iff.1 kB).1)))))
    clear HA hx5 kx5 hb6 kB h56 z0
    go_wp2_with fail
    refine range_none rfl (enters_of Tryz.func91 (by kernel_rfl) rfl) HS.out (fun k hk => by
      rw [hk]
      exact HB6.out.2.2.2.2.2) ?_
    intro D W hD hoD hk
    have p1 := hoD.heap HB6.out.2.2.1 (fun h => h)
    have p2 := hoD.heap HB6.out.2.2.2.1 (fun h => h)
    have p3 := hoD.heap HB6.out.2.2.2.2.1 (fun h => h)
    have y1 : W.cell? ⟨T4, 0, none⟩ = some (.pointer (some ⟨T, 0, none⟩)) := by simp [World.cell?, p1]
    have y2 : W.cell? ⟨E4, 0, none⟩ = some (.int .i64 0) := by simp [World.cell?, p2]
    have y3 : W.cell? ⟨R5, 0, none⟩ = some (.slice none 0 0) := by simp [World.cell?, p3]
    have HD := Lib.hid (And.intro hk (And.intro hoD hD))
    clear p1 p2 p3 hk hoD hD
    go_wp2_with fail
    go_quiet (fail)
    go_wp2_with fail
    have hW : Below w6.heap.size w6 ((W.drewN nq).putObj D (.deferred none)) :=
      (((HD.out.2.1.drewN nq).mono (fun _ _ h => h.elim)).trans (T := fun k => k = D) (Only.putObj _ D (.deferred none)) (fun _ _ h => h) : Only (fun k => k = D) w6 _).belowN (Nat.le_refl _) (fun k hk e => by have := HD.out.2.2; omega)
    rw [Exit.noGoto_ret]
    refine leave_mark (v := .tuple #[.slice none 0 0, .pointer (some ⟨T, 0, none⟩), .int .i64 0]) HD.out.1 (by simp [results, Tryz.results11, go_sem]) ⟨HB6.out.1.trans (hW.mono HB6.out.1.size), fun _ => ⟨T, rfl, HB6.out.2.1.below hW⟩, fun h => absurd H0.out h⟩
  · have H0 := Lib.hid h0
    go_wp2_with fail
    exact ⟨.tuple #[.slice none 0 0, .pointer none, .int .i64 (cfgErr most n f)], by simp [results, Tryz.results11, go_sem], HB2.out.1, fun h => absurd h H0.out, fun _ => rfl⟩
end Go.Proofs.YtifpaagppjmbhaaGreatDoor
