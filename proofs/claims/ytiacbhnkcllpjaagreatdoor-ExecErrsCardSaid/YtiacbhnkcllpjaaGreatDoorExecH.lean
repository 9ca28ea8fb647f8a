/- The example of layer 17. -/
import Derived.Test.YtiacbhnkcllpjaaGreatDoorExecF
namespace Go.Proofs.YtiacbhnkcllpjaaGreatDoor
set_option maxRecDepth 100000
open Go.RowKit Go.Maps Go.WideShapes

theorem one_piece {W : World} {b : Nat} {t : TypeId} (h : W.heap[b]? = some (.cells #[.slice none 0 0] t (0, 0))) : RowsRd W (fun k => k < W.heap.size) (.slice (some ⟨b, 0, none⟩) 1 1) [[]] := by
  refine ⟨[.slice none 0 0], ⟨some ⟨b, 0, none⟩, 1, 1, rfl, rfl, Nat.le_refl _, by simp [maxLen], fun _ => ⟨b, 0, rfl, (Array.getElem?_eq_some_iff.1 h).1, fun i x hi => ?_⟩⟩, rfl, fun i p hp => ?_⟩
  · have h0 : i = 0 := by have := (List.getElem?_eq_some_iff.1 hi).1; simp at this; exact this
    subst h0
    simp at hi
    subst hi
    simp [World.cell?, h]
  · have h0 : i = 0 := by have := (List.getElem?_eq_some_iff.1 hp).1; simp at this; exact this
    subst h0
    simp at hp
    subst hp
    exact ⟨none, 0, rfl, Rd.nil _ _⟩
set_option maxRecDepth 100000 in
set_option maxHeartbeats 4000000 in
theorem awake17_ok (w : World) : Calls Tryz.prog 10 #[] w fun e w' => e = .returned (.bool true) ∧ Below w.heap.size w w' := by
  have hb1 := new_box w (.cells #[.slice none 0 0] 125)
  have k1 := heap_alloc_new w (.cells #[.slice none 0 0] 125)
  have HL := Lib.hid (log_new (w.alloc (.cells #[.slice none 0 0] 125)) _ _ [[]] (one_piece k1) (fun _ h => h) (by simp))
  have HB := Lib.hid hb1
  clear hb1 k1
  go_enter Tryz.func10, Tryz.ntmps10
  go_wp2_with fail
  refine HL.out.mono ?_
  rintro e w2 ⟨hb2, h⟩
  rw [if_pos (by simp)] at h
  obtain ⟨L, rfl, hlog⟩ := h
  have hbd := hlog.bound
  have HB2 := Lib.hid (HB.out.trans (hb2.mono HB.out.size))
  have HE := Lib.hid (exNew1_ok w2 L _ hbd (fun k hk => hk.2))
  clear hb2 hlog hbd HL
  go_wp2_with fail
  refine HE.out.mono ?_
  rintro e w3 ⟨hb3, R, m2, rfl, hR2, hm2, hRm, hG⟩
  have hR3 : R < w3.heap.size := by obtain ⟨L, f, T, Kl, B, m1, n, k0, _⟩ := hG; exact (Array.getElem?_eq_some_iff.1 k0).1
  have hm3 : m2 < w3.heap.size := by obtain ⟨L, f, T, Kl, B, m1, n, _, _, _, _, _, _, _, q⟩ := hG; exact q.lt
  have HB3 := Lib.hid (And.intro (HB2.out.trans (hb3.mono HB2.out.size)) (And.intro hG (And.intro hRm (And.intro hR3 (And.intro hm3 (And.intro (Nat.le_trans HB2.out.size hR2) (And.intro (Nat.le_trans HB2.out.size hm2) hb3.size)))))))
  have HA := Lib.hid (exActs1_ok w3 _ R m2 0 _ hG)
  clear hb3 hR2 hm2 hRm hG hR3 hm3 HE
  go_wp2_with fail
  refine HA.out.mono ?_
  rintro e w4 ⟨G, o, cG, rfl, hb4, hGl, q0, q1, q2⟩
  have hG4 := HB3.out.2.1.below hb4
  have HS := Lib.hid (step1_ok w4 _ (fun k hk => Nat.lt_of_lt_of_le hk.2 (Nat.le_trans HB3.out.2.2.2.2.2.2.2 hb4.size)) R m2 HB3.out.2.2.1 hG4)
  have HB4 := Lib.hid (And.intro (HB3.out.1.trans (hb4.mono HB3.out.1.size)) (And.intro q0 (And.intro (show G ≠ R by have := HB3.out.2.2.2.1; omega) (show G ≠ m2 by have := HB3.out.2.2.2.2.1; omega))))
  clear hb4 hGl q0 q1 q2 hG4 HA
  go_wp2_with fail
  refine HS.out.mono ?_
  rintro e w5 ⟨rfl, hG5, ho5⟩
  have hx := new_box w5 (.cells #[.int .i64 1, .int .i64 0, .int .i64 0] 37)
  have k6 := heap_alloc_new w5 (.cells #[.int .i64 1, .int .i64 0, .int .i64 0] 37)
  have h5 : Below w.heap.size w w5 := HB4.out.1.trans (ho5.belowN HB4.out.1.size (fun k hk e => by
    have a1 := HB3.out.2.2.2.2.2.1
    have a2 := HB3.out.2.2.2.2.2.2.1
    first | (rcases e with h | h <;> omega) | (rcases hk with h | h <;> omega)))
  have q5 : w5.cell? ⟨G, o, none⟩ = some (.int .i64 1) := by
    have hl := World.block_lt_of_cell? _ _ HB4.out.2.1
    rw [World.cell?_of_block (ho5.block G hl (by rintro (h | h); exact HB4.out.2.2.1 h; exact HB4.out.2.2.2 h))]
    exact HB4.out.2.1
  have q6 := (hx.cell (World.block_lt_of_cell? _ _ q5)).trans q5
  have HG6 := Lib.hid (And.intro (hG5.below hx) (h5.trans (hx.mono h5.size)))
  clear hG5 ho5 h5 q5 HS
  go_upto_region 7 with fail
  generalize w5.alloc (.cells #[.int .i64 1, .int .i64 0, .int .i64 0] 37) = w6 at hx k6 q6 HG6 ⊢
  generalize w5.heap.size = D at k6 ⊢
  obtain ⟨d0, -, -⟩ := out3 k6
  have HI := Lib.hid (exIdleN_ok w6 _ R m2 1 outG HG6.out.1)
  clear hx k6
  go_wp2_with fail
  refine HI.out.mono ?_
  rintro e w7 ⟨rfl, hb7⟩
  have HG7 := Lib.hid (And.intro (HG6.out.1.below hb7) (HG6.out.2.trans (hb7.mono HG6.out.2.size)))
  have HO := Lib.hid (exOutcomes1_ok w7 _ R m2 HG7.out.1)
  clear hb7 HI d0 q6
  go_wp2_with fail
  refine HO.out.mono ?_
  rintro e w8 ⟨G', o', c', rfl, hb8, p0, p1, p2⟩
  have hx9 := new_box w8 (.cells #[.int .i64 7, .int .i64 0, .int .i64 0] 43)
  obtain ⟨s0, s1, s2⟩ := out3 (heap_alloc_new w8 (.cells #[.int .i64 7, .int .i64 0, .int .i64 0] 43))
  have on : ∀ {p : Addr} {v : Value}, w8.cell? p = some v → (w8.alloc (.cells #[.int .i64 7, .int .i64 0, .int .i64 0] 43)).cell? p = some v := fun {p v} h => (hx9.cell (World.block_lt_of_cell? _ _ h)).trans h
  have HS9 := Lib.hid (same15_ok _ G' o' c' w8.heap.size 0 1 (on p0) (on p1) (on p2) s0 s1 s2)
  have HB9 := Lib.hid (HG7.out.2.trans ((hb8.trans (hx9.mono hb8.size)).mono HG7.out.2.size))
  clear hb8 p0 p1 p2 hx9 s0 s1 s2 on HO
  go_wp2_with fail
  refine HS9.out.mono ?_
  rintro e w9 ⟨rfl, hb9⟩
  have HZ := Lib.hid (HB9.out.trans (hb9.mono HB9.out.size))
  clear hb9
  go_wp2_with fail
  go_ret
  exact ⟨rfl, HZ.out⟩
end Go.Proofs.YtiacbhnkcllpjaaGreatDoor
