/- Few, and the two inner loops of LogGrows. -/
import Derived.Test.YtihjcfifakcpgaaGreatDoorLogE
import Derived.Test.YtihjcfifakcpgaaGreatDoorLogD
namespace Go.Proofs.YtihjcfifakcpgaaGreatDoor
set_option maxRecDepth 100000
open Go.RowKit

def sumL : List (List UInt8) → Nat
  | [] => 0
  | p :: ps => p.length + sumL ps
theorem sumL_snoc (ps : List (List UInt8)) (p : List UInt8) : sumL (ps ++ [p]) = sumL ps + p.length := by
  induction ps with
  | nil => simp [sumL]
  | cons q ps ih => simp [sumL, ih]; omega
theorem sumL_le (ps : List (List UInt8)) (n : Nat) (h : ∀ p ∈ ps, p.length ≤ n) : sumL ps ≤ n * ps.length := by
  induction ps with
  | nil => simp [sumL]
  | cons q ps ih =>
    have h1 := ih (fun p hp => h p (by simp [hp]))
    have h2 := h q (by simp)
    simp [sumL, Nat.mul_add]; omega
def Few14P (ps : List (List UInt8)) : Prop := (∀ p ∈ ps, p.length ≤ 9000) ∧ ps.length ≤ 40 ∧ sumL ps ≤ 20000

set_option maxHeartbeats 400000 in
theorem few_true (w : World) (F : Nat → Prop) (v : Value) (ps : List (List UInt8)) (hr : RowsRd w F v ps) (hf : Few14P ps) :
    Calls Tryz.prog 24 #[v] w fun e w' => e = .returned (.bool true) ∧ w = w' := by
  obtain ⟨A, c, rfl, hc, hm, hat⟩ := hr.at_
  obtain ⟨hall, h40, hsum⟩ := hf
  have HA := Lib.hid (And.intro hall (And.intro hsum hat))
  clear hall hsum hat hr
  unfold maxLen at hm
  go_enter Tryz.func24, Tryz.ntmps24
  go_wp2
  go_loop [3, 4] (fun n i => ∃ k : Nat, k ≤ ps.length ∧ i = .int .i64 k ∧ n = .int .i64 (sumL (ps.take k))) (fun _ i => ps.length - (intOf i).toNat)
  case atStart => exact ⟨0, Nat.zero_le _, rfl, rfl⟩
  case round =>
    obtain ⟨k, hk, rfl, rfl⟩ := hrel
    have hs := sumL_le (ps.take k) 9000 (fun p hp => HA.out.1 p (List.mem_of_mem_take hp))
    have hs2 : sumL (ps.take k) ≤ 360000 := by
      have : (ps.take k).length ≤ 40 := by simp; omega
      have := Nat.mul_le_mul_left 9000 this
      omega
    clear hs
    by_cases hlt : k < ps.length
    · obtain ⟨p, hp⟩ : ∃ p, ps[k]? = some p := ⟨_, List.getElem?_eq_getElem hlt⟩
      obtain ⟨b, o, A', c', rfl, hcell, hrd⟩ := HA.out.2.2 k p hp
      have hpl := HA.out.1 p (List.mem_of_getElem? hp)
      have htk : sumL (ps.take (k + 1)) = sumL (ps.take k) + p.length := by rw [List.take_add_one, hp]; exact sumL_snoc _ _
      have HTK := Lib.hid htk
      clear hrd hp htk
      generalize sumL (ps.take k) = S at *
      go_wp2
      go_round
      case rel => exact ⟨k + 1, by omega, by go_num, by rw [HTK.out]; go_num⟩
      case measure => simp [intOf]; omega
    · obtain rfl : k = ps.length := by omega
      simp only [List.take_length] at hs2 ⊢
      have hs3 := HA.out.2.1
      generalize sumL ps = S at *
      have hd : decide ((ps.length : Int) ≤ 40) = true := by simp; omega
      go_wp2
      go_ret
      exact ⟨by simp; omega, rfl⟩

set_option maxHeartbeats 400000 in
theorem few_false (w : World) (F : Nat → Prop) (v : Value) (ps : List (List UInt8)) (hr : RowsRd w F v ps) (hf : ¬ Few14P ps) :
    Calls Tryz.prog 24 #[v] w fun e w' => e = .returned (.bool false) ∧ w = w' := by
  obtain ⟨A, c, rfl, hc, hm, hat⟩ := hr.at_
  have HA := Lib.hid (And.intro hf hat)
  have hr2 : ∀ p ∈ ps, p.length ≤ 9223372036854775807 := by
    intro p hp
    obtain ⟨i, hi, rfl⟩ := List.getElem_of_mem hp
    obtain ⟨_, _, _, _, _, _, hrd⟩ := hat i _ (List.getElem?_eq_getElem hi)
    have := hrd.length_le
    simp [maxLen] at this
    omega
  have HR2 := Lib.hid hr2
  clear hat hr hf hr2
  unfold maxLen at hm
  go_enter Tryz.func24, Tryz.ntmps24
  go_wp2
  by_cases h40 : ps.length ≤ 40
  · go_loop [3, 4] (fun n i => ∃ k : Nat, k ≤ ps.length ∧ i = .int .i64 k ∧ n = .int .i64 (sumL (ps.take k)) ∧ ∀ p ∈ ps.take k, p.length ≤ 9000) (fun _ i => ps.length - (intOf i).toNat)
    case atStart => exact ⟨0, Nat.zero_le _, rfl, rfl, by simp⟩
    case round =>
      obtain ⟨k, hk, rfl, rfl, hall⟩ := hrel
      have hs := sumL_le (ps.take k) 9000 hall
      have hs2 : sumL (ps.take k) ≤ 360000 := by
        have : (ps.take k).length ≤ 40 := by simp; omega
        have := Nat.mul_le_mul_left 9000 this
        omega
      have HALL := Lib.hid hall
      clear hs hall
      by_cases hlt : k < ps.length
      · obtain ⟨p, hp⟩ : ∃ p, ps[k]? = some p := ⟨_, List.getElem?_eq_getElem hlt⟩
        obtain ⟨b, o, A', c', rfl, hcell, hrd⟩ := HA.out.2 k p hp
        have hpm := HR2.out p (List.mem_of_getElem? hp)
        have htk : sumL (ps.take (k + 1)) = sumL (ps.take k) + p.length := by rw [List.take_add_one, hp]; exact sumL_snoc _ _
        have hall2 : p.length ≤ 9000 → ∀ q ∈ ps.take (k + 1), q.length ≤ 9000 := by
          intro h9 q hq
          rw [List.take_add_one, hp] at hq
          simp at hq
          rcases hq with hq | rfl
          · exact HALL.out q hq
          · exact h9
        have HTK := Lib.hid (And.intro htk hall2)
        clear hrd hp htk hall2
        generalize sumL (ps.take k) = S at *
        by_cases h9 : p.length ≤ 9000
        · go_wp2
          go_round
          case rel => exact ⟨k + 1, by omega, by go_num, by rw [HTK.out.1]; go_num, HTK.out.2 h9⟩
          case measure => simp [intOf]; omega
        · go_wp2
          go_ret
          exact ⟨rfl, rfl⟩
      · obtain rfl : k = ps.length := by omega
        have HALL2 : Hid (∀ p ∈ ps, p.length ≤ 9000) := by have := HALL.out; rw [List.take_length] at this; exact Lib.hid this
        clear HALL
        have hs3 : ¬ sumL ps ≤ 20000 := fun h => HA.out.1 ⟨HALL2.out, h40, h⟩
        simp only [List.take_length] at hs2 ⊢
        generalize sumL ps = S at *
        have hd : decide ((ps.length : Int) ≤ 40) = true := by simp; omega
        go_wp2
        go_ret
        exact ⟨by simp; omega, rfl⟩
  · go_loop [3, 4] (fun n i => ∃ (k : Nat) (m : Int), k ≤ ps.length ∧ i = .int .i64 k ∧ n = .int .i64 m) (fun _ i => ps.length - (intOf i).toNat)
    case atStart => exact ⟨0, 0, Nat.zero_le _, rfl, rfl⟩
    case round =>
      obtain ⟨k, m, hk, rfl, rfl⟩ := hrel
      by_cases hlt : k < ps.length
      · obtain ⟨p, hp⟩ : ∃ p, ps[k]? = some p := ⟨_, List.getElem?_eq_getElem hlt⟩
        obtain ⟨b, o, A', c', rfl, hcell, hrd⟩ := HA.out.2 k p hp
        have hpm := HR2.out p (List.mem_of_getElem? hp)
        clear hrd hp
        by_cases h9 : p.length ≤ 9000
        · go_wp2
          go_round
          case rel => exact ⟨k + 1, _, by omega, by go_num, rfl⟩
          case measure => simp [intOf]; omega
        · go_wp2
          go_ret
          exact ⟨rfl, rfl⟩
      · obtain rfl : k = ps.length := by omega
        have hd : decide ((ps.length : Int) ≤ 40) = false := by simp; omega
        go_wp2
        go_ret
        exact ⟨rfl, rfl⟩
end Go.Proofs.YtihjcfifakcpgaaGreatDoor
