/- The chapter's example of law15 (awake). -/
import Derived.Test.YtifpaagppjmbhaaGreatDoorSerB
namespace Go.Proofs.YtifpaagppjmbhaaGreatDoor
set_option maxRecDepth 100000
open Go.RowKit

theorem cfgErrX : cfgErr 4 2 9 = 0 := by decide
theorem oneKX (a : Addr) : oneK (some a) 9 = 7 := by unfold oneK; rw [if_pos ⟨rfl, by decide⟩]
theorem oneEX (a : Addr) : oneE (some a) 9 = 0 := by unfold oneE; rw [if_neg (by simp)]; decide
set_option maxRecDepth 100000 in
set_option maxHeartbeats 1000000 in
theorem awake15_ok (w : World) : Calls Tryz.prog 15 #[] w fun e w' => e = .returned (.bool true) ∧ Below w.heap.size w w' := by
  have hb0 := new_box w (.cells #[.int .i64 4, .int .i64 2, .int .i64 9] 23)
  have k0 := heap_alloc_new w (.cells #[.int .i64 4, .int .i64 2, .int .i64 9] 23)
  go_enter Tryz.func15, Tryz.ntmps15
  go_upto_region 2 with fail
  generalize w.alloc (.cells #[.int .i64 4, .int .i64 2, .int .i64 9] 23) = w1 at hb0 k0 ⊢
  obtain ⟨C, hC⟩ : ∃ x, w.heap.size = x := ⟨_, rfl⟩
  rw [hC] at k0 ⊢
  have z0 : w1.cell? ⟨C, 0, none⟩ = some (.int .i64 4) := by simp [World.cell?, k0]
  have z1 : w1.cell? ⟨C, 1, none⟩ = some (.int .i64 2) := by simp [World.cell?, k0]
  have z2 : w1.cell? ⟨C, 2, none⟩ = some (.int .i64 9) := by simp [World.cell?, k0]
  have HB := Lib.hid (And.intro hb0 (And.intro k0 hC))
  clear hb0 k0 hC
  have HE := Lib.hid (serEmpty_ok w1 4 2 9)
  unfold cfgV at HE
  rw [cfgErrX] at HE
  go_wp2_with fail
  refine HE.out.mono ?_
  rintro e w2 ⟨hb, h, _⟩
  obtain ⟨T, rfl, -, -⟩ := h rfl
  have k2 := (Only.of_below hb (fun _ => False)).heap HB.out.2.1 (fun h => h)
  have z0 : w2.cell? ⟨C, 0, none⟩ = some (.int .i64 4) := by simp [World.cell?, k2]
  have z1 : w2.cell? ⟨C, 1, none⟩ = some (.int .i64 2) := by simp [World.cell?, k2]
  have z2 : w2.cell? ⟨C, 2, none⟩ = some (.int .i64 9) := by simp [World.cell?, k2]
  have HB2 := Lib.hid (HB.out.1.trans (hb.mono HB.out.1.size))
  clear h hb k2
  have HO := Lib.hid (oneNil_ok w2 (some ⟨T, 0, none⟩) 4 2 9)
  rw [oneKX, oneEX] at HO
  unfold cfgV outV at HO
  go_wp2_with fail
  refine HO.out.mono ?_
  rintro e w3 ⟨hb, rfl⟩
  have hx := new_box w3 (.cells #[.int .i64 7, .int .i64 0, .int .i64 0] 35)
  have k3 := heap_alloc_new w3 (.cells #[.int .i64 7, .int .i64 0, .int .i64 0] 35)
  go_upto_region 4 with fail
  generalize w3.alloc (.cells #[.int .i64 7, .int .i64 0, .int .i64 0] 35) = w4 at hx k3 ⊢
  generalize w3.heap.size = R at k3 ⊢
  have z0 : w4.cell? ⟨R, 0, none⟩ = some (.int .i64 7) := by simp [World.cell?, k3]
  have z1 : w4.cell? ⟨R, 1, none⟩ = some (.int .i64 0) := by simp [World.cell?, k3]
  have z2 : w4.cell? ⟨R, 2, none⟩ = some (.int .i64 0) := by simp [World.cell?, k3]
  have HB3 := Lib.hid (HB2.out.trans ((hb.trans (hx.mono hb.size)).mono HB2.out.size))
  clear hx hb k3
  have heq := eqOut 7 0 0 7 0 0
  rw [show decide ((7 : Int) = 7 ∧ (0 : Int) = 0 ∧ (0 : Int) = 0) = true from by decide] at heq
  have hgd := Tryz.guardOut
  go_wp2_with fail
  go_ret
  exact ⟨rfl, HB3.out⟩
end Go.Proofs.YtifpaagppjmbhaaGreatDoor
