/- The document's answer's ops: ref11.within, Check. -/
import Derived.Test.YtihjcfifakcpgaaGreatDoorRefN
import Derived.Test.YtihjcfifakcpgaaGreatDoorPrc
namespace Go.Proofs.YtihjcfifakcpgaaGreatDoor
set_option maxRecDepth 100000
open Go.RowKit

/-- May an op's fields be, by the document's answer? -/
def WithinO (o : POp) : Prop := 0 ≤ o.a ∧ (o.d = 9 → o.a ≤ 4) ∧ (o.d ≠ 9 → o.a ≤ 7) ∧ 0 ≤ o.b ∧ o.b ≤ 7 ∧ 0 ≤ o.n ∧ (o.d = 1 → -1099511627776 ≤ o.c ∧ o.c ≤ 1099511627776) ∧ (o.d = 8 ∨ o.d = 11 → 0 ≤ o.c ∧ o.c ≤ 3) ∧
  (o.d = 12 → 0 ≤ o.c ∧ o.c ≤ 3 ∧ o.n ≤ 1099511627776) ∧ (o.d = 13 → o.n ≤ 64) ∧ (o.d = 14 → 0 ≤ o.c ∧ o.c ≤ 16 ∧ o.n ≤ 64)
theorem within_ranged {o : POp} (h : formedB o = true) : WithinO o ↔ rangedB o = true := by
  have hd := formed_do h
  obtain ⟨d, a, b, c, n⟩ := o
  simp only at hd
  have : d = 1 ∨ d = 2 ∨ d = 3 ∨ d = 4 ∨ d = 5 ∨ d = 6 ∨ d = 7 ∨ d = 8 ∨ d = 9 ∨ d = 10 ∨ d = 11 ∨ d = 12 ∨ d = 13 ∨ d = 14 ∨ d = 15 := by omega
  rcases this with rfl | rfl | rfl | rfl | rfl | rfl | rfl | rfl | rfl | rfl | rfl | rfl | rfl | rfl | rfl <;>
    simp [formedB, rangedB, hasF, loF, hiF, POp.fld, List.range_succ, WithinO] at h ⊢ <;> omega
set_option maxRecDepth 100000 in
set_option maxHeartbeats 4000000 in
theorem refWithin_ok (w : World) (o : POp) (r : Bool) (hr : r = true ↔ WithinO o) : Calls Tryz.prog 95 #[o.ref] w fun e w' => e = .returned (.bool r) ∧ Below w.heap.size w w' := by
  obtain ⟨D, A, B, C, N⟩ := o
  unfold POp.ref
  unfold WithinO at hr
  simp only at hr ⊢
  by_cases h9 : D = 9
  · subst h9
    by_cases a0 : ¬ A < 0
    · skip
      by_cases a1 : ¬ 4 < A
      · skip
        by_cases b0 : ¬ B < 0
        · skip
          by_cases b1 : ¬ 7 < B
          · skip
            by_cases n0 : ¬ N < 0
            · skip
              obtain rfl : r = true := hr.2 (by omega)
              clear hr
              go_enter Tryz.func95, Tryz.ntmps95
              go_wp2_with fail
              go_ret
              exact ⟨rfl, (Below.refl _ _).alloc (Nat.le_refl _) _⟩
            · skip
              obtain rfl : r = false := Bool.eq_false_iff.2 (fun h => by have := hr.1 h; omega)
              clear hr
              go_enter Tryz.func95, Tryz.ntmps95
              go_wp2_with fail
              go_ret
              exact ⟨rfl, (Below.refl _ _).alloc (Nat.le_refl _) _⟩
          · skip
            obtain rfl : r = false := Bool.eq_false_iff.2 (fun h => by have := hr.1 h; omega)
            clear hr
            go_enter Tryz.func95, Tryz.ntmps95
            go_wp2_with fail
            go_ret
            exact ⟨rfl, (Below.refl _ _).alloc (Nat.le_refl _) _⟩
        · skip
          obtain rfl : r = false := Bool.eq_false_iff.2 (fun h => by have := hr.1 h; omega)
          clear hr
          go_enter Tryz.func95, Tryz.ntmps95
          go_wp2_with fail
          go_ret
          exact ⟨rfl, (Below.refl _ _).alloc (Nat.le_refl _) _⟩
      · skip
        obtain rfl : r = false := Bool.eq_false_iff.2 (fun h => by have := hr.1 h; omega)
        clear hr
        go_enter Tryz.func95, Tryz.ntmps95
        go_wp2_with fail
        go_ret
        exact ⟨rfl, (Below.refl _ _).alloc (Nat.le_refl _) _⟩
    · skip
      obtain rfl : r = false := Bool.eq_false_iff.2 (fun h => by have := hr.1 h; omega)
      clear hr
      go_enter Tryz.func95, Tryz.ntmps95
      go_wp2_with fail
      go_ret
      exact ⟨rfl, (Below.refl _ _).alloc (Nat.le_refl _) _⟩
  · have n9 : (D == 9) = false := by simpa using h9
    by_cases a0 : ¬ A < 0
    · skip
      by_cases a1 : ¬ 7 < A
      · skip
        by_cases b0 : ¬ B < 0
        · skip
          by_cases b1 : ¬ 7 < B
          · skip
            by_cases n0 : ¬ N < 0
            · skip
              by_cases h1 : D = 1
              · subst h1
                by_cases c0 : -1099511627776 ≤ C
                · skip
                  by_cases c1 : C ≤ 1099511627776
                  · skip
                    obtain rfl : r = true := hr.2 (by omega)
                    clear hr
                    go_enter Tryz.func95, Tryz.ntmps95
                    go_wp2_with fail
                    go_ret
                    exact ⟨rfl, (Below.refl _ _).alloc (Nat.le_refl _) _⟩
                  · skip
                    obtain rfl : r = false := Bool.eq_false_iff.2 (fun h => by have := hr.1 h; omega)
                    clear hr
                    go_enter Tryz.func95, Tryz.ntmps95
                    go_wp2_with fail
                    go_ret
                    exact ⟨rfl, (Below.refl _ _).alloc (Nat.le_refl _) _⟩
                · skip
                  obtain rfl : r = false := Bool.eq_false_iff.2 (fun h => by have := hr.1 h; omega)
                  clear hr
                  go_enter Tryz.func95, Tryz.ntmps95
                  go_wp2_with fail
                  go_ret
                  exact ⟨rfl, (Below.refl _ _).alloc (Nat.le_refl _) _⟩
              · have n1 : (D == 1) = false := by simpa using h1
                by_cases h8 : D = 8
                · subst h8
                  by_cases c0 : 0 ≤ C
                  · skip
                    by_cases c1 : C ≤ 3
                    · skip
                      obtain rfl : r = true := hr.2 (by omega)
                      clear hr
                      go_enter Tryz.func95, Tryz.ntmps95
                      go_wp2_with fail
                      go_ret
                      exact ⟨rfl, (Below.refl _ _).alloc (Nat.le_refl _) _⟩
                    · skip
                      obtain rfl : r = false := Bool.eq_false_iff.2 (fun h => by have := hr.1 h; omega)
                      clear hr
                      go_enter Tryz.func95, Tryz.ntmps95
                      go_wp2_with fail
                      go_ret
                      exact ⟨rfl, (Below.refl _ _).alloc (Nat.le_refl _) _⟩
                  · skip
                    obtain rfl : r = false := Bool.eq_false_iff.2 (fun h => by have := hr.1 h; omega)
                    clear hr
                    go_enter Tryz.func95, Tryz.ntmps95
                    go_wp2_with fail
                    go_ret
                    exact ⟨rfl, (Below.refl _ _).alloc (Nat.le_refl _) _⟩
                · have n8 : (D == 8) = false := by simpa using h8
                  by_cases h11 : D = 11
                  · subst h11
                    by_cases c0 : 0 ≤ C
                    · skip
                      by_cases c1 : C ≤ 3
                      · skip
                        obtain rfl : r = true := hr.2 (by omega)
                        clear hr
                        go_enter Tryz.func95, Tryz.ntmps95
                        go_wp2_with fail
                        go_ret
                        exact ⟨rfl, (Below.refl _ _).alloc (Nat.le_refl _) _⟩
                      · skip
                        obtain rfl : r = false := Bool.eq_false_iff.2 (fun h => by have := hr.1 h; omega)
                        clear hr
                        go_enter Tryz.func95, Tryz.ntmps95
                        go_wp2_with fail
                        go_ret
                        exact ⟨rfl, (Below.refl _ _).alloc (Nat.le_refl _) _⟩
                    · skip
                      obtain rfl : r = false := Bool.eq_false_iff.2 (fun h => by have := hr.1 h; omega)
                      clear hr
                      go_enter Tryz.func95, Tryz.ntmps95
                      go_wp2_with fail
                      go_ret
                      exact ⟨rfl, (Below.refl _ _).alloc (Nat.le_refl _) _⟩
                  · have n11 : (D == 11) = false := by simpa using h11
                    by_cases h12 : D = 12
                    · subst h12
                      by_cases c0 : 0 ≤ C
                      · skip
                        by_cases c1 : C ≤ 3
                        · skip
                          by_cases n1 : N ≤ 1099511627776
                          · skip
                            obtain rfl : r = true := hr.2 (by omega)
                            clear hr
                            go_enter Tryz.func95, Tryz.ntmps95
                            go_wp2_with fail
                            go_ret
                            exact ⟨rfl, (Below.refl _ _).alloc (Nat.le_refl _) _⟩
                          · skip
                            obtain rfl : r = false := Bool.eq_false_iff.2 (fun h => by have := hr.1 h; omega)
                            clear hr
                            go_enter Tryz.func95, Tryz.ntmps95
                            go_wp2_with fail
                            go_ret
                            exact ⟨rfl, (Below.refl _ _).alloc (Nat.le_refl _) _⟩
                        · skip
                          obtain rfl : r = false := Bool.eq_false_iff.2 (fun h => by have := hr.1 h; omega)
                          clear hr
                          go_enter Tryz.func95, Tryz.ntmps95
                          go_wp2_with fail
                          go_ret
                          exact ⟨rfl, (Below.refl _ _).alloc (Nat.le_refl _) _⟩
                      · skip
                        obtain rfl : r = false := Bool.eq_false_iff.2 (fun h => by have := hr.1 h; omega)
                        clear hr
                        go_enter Tryz.func95, Tryz.ntmps95
                        go_wp2_with fail
                        go_ret
                        exact ⟨rfl, (Below.refl _ _).alloc (Nat.le_refl _) _⟩
                    · have n12 : (D == 12) = false := by simpa using h12
                      by_cases h13 : D = 13
                      · subst h13
                        by_cases n1 : N ≤ 64
                        · skip
                          obtain rfl : r = true := hr.2 (by omega)
                          clear hr
                          go_enter Tryz.func95, Tryz.ntmps95
                          go_wp2_with fail
                          go_ret
                          exact ⟨rfl, (Below.refl _ _).alloc (Nat.le_refl _) _⟩
                        · skip
                          obtain rfl : r = false := Bool.eq_false_iff.2 (fun h => by have := hr.1 h; omega)
                          clear hr
                          go_enter Tryz.func95, Tryz.ntmps95
                          go_wp2_with fail
                          go_ret
                          exact ⟨rfl, (Below.refl _ _).alloc (Nat.le_refl _) _⟩
                      · have n13 : (D == 13) = false := by simpa using h13
                        by_cases h14 : D = 14
                        · subst h14
                          by_cases c0 : 0 ≤ C
                          · skip
                            by_cases c1 : C ≤ 16
                            · skip
                              by_cases n1 : N ≤ 64
                              · skip
                                obtain rfl : r = true := hr.2 (by omega)
                                clear hr
                                go_enter Tryz.func95, Tryz.ntmps95
                                go_wp2_with fail
                                go_ret
                                exact ⟨rfl, (Below.refl _ _).alloc (Nat.le_refl _) _⟩
                              · skip
                                obtain rfl : r = false := Bool.eq_false_iff.2 (fun h => by have := hr.1 h; omega)
                                clear hr
                                go_enter Tryz.func95, Tryz.ntmps95
                                go_wp2_with fail
                                go_ret
                                exact ⟨rfl, (Below.refl _ _).alloc (Nat.le_refl _) _⟩
                            · skip
                              obtain rfl : r = false := Bool.eq_false_iff.2 (fun h => by have := hr.1 h; omega)
                              clear hr
                              go_enter Tryz.func95, Tryz.ntmps95
                              go_wp2_with fail
                              go_ret
                              exact ⟨rfl, (Below.refl _ _).alloc (Nat.le_refl _) _⟩
                          · skip
                            obtain rfl : r = false := Bool.eq_false_iff.2 (fun h => by have := hr.1 h; omega)
                            clear hr
                            go_enter Tryz.func95, Tryz.ntmps95
                            go_wp2_with fail
                            go_ret
                            exact ⟨rfl, (Below.refl _ _).alloc (Nat.le_refl _) _⟩
                        · have n14 : (D == 14) = false := by simpa using h14
                          obtain rfl : r = true := hr.2 (by omega)
                          clear hr
                          go_enter Tryz.func95, Tryz.ntmps95
                          go_wp2_with fail
                          go_ret
                          exact ⟨rfl, (Below.refl _ _).alloc (Nat.le_refl _) _⟩
            · skip
              obtain rfl : r = false := Bool.eq_false_iff.2 (fun h => by have := hr.1 h; omega)
              clear hr
              go_enter Tryz.func95, Tryz.ntmps95
              go_wp2_with fail
              go_ret
              exact ⟨rfl, (Below.refl _ _).alloc (Nat.le_refl _) _⟩
          · skip
            obtain rfl : r = false := Bool.eq_false_iff.2 (fun h => by have := hr.1 h; omega)
            clear hr
            go_enter Tryz.func95, Tryz.ntmps95
            go_wp2_with fail
            go_ret
            exact ⟨rfl, (Below.refl _ _).alloc (Nat.le_refl _) _⟩
        · skip
          obtain rfl : r = false := Bool.eq_false_iff.2 (fun h => by have := hr.1 h; omega)
          clear hr
          go_enter Tryz.func95, Tryz.ntmps95
          go_wp2_with fail
          go_ret
          exact ⟨rfl, (Below.refl _ _).alloc (Nat.le_refl _) _⟩
      · skip
        obtain rfl : r = false := Bool.eq_false_iff.2 (fun h => by have := hr.1 h; omega)
        clear hr
        go_enter Tryz.func95, Tryz.ntmps95
        go_wp2_with fail
        go_ret
        exact ⟨rfl, (Below.refl _ _).alloc (Nat.le_refl _) _⟩
    · skip
      obtain rfl : r = false := Bool.eq_false_iff.2 (fun h => by have := hr.1 h; omega)
      clear hr
      go_enter Tryz.func95, Tryz.ntmps95
      go_wp2_with fail
      go_ret
      exact ⟨rfl, (Below.refl _ _).alloc (Nat.le_refl _) _⟩

end Go.Proofs.YtihjcfifakcpgaaGreatDoor
