/- The document's answer's ops: ref11.Word, Has, Holds, form, within. -/
import Derived.Test.YtihjcfifakcpgaaGreatDoorPrc
import Derived.Test.YtihjcfifakcpgaaGreatDoorRfK
namespace Go.Proofs.YtihjcfifakcpgaaGreatDoor
set_option maxRecDepth 100000
open Go.RowKit

def wordL : Nat → List UInt8
  | 0 => []
  | 1 => [115, 101, 116]
  | 2 => [99, 111, 112, 121]
  | 3 => [97, 100, 100]
  | 4 => [115, 117, 98]
  | 5 => [109, 117, 108]
  | 6 => [108, 101, 115, 115]
  | 7 => [104, 97, 115]
  | 8 => [103, 101, 116]
  | 9 => [112, 117, 116]
  | 10 => [100, 101, 108, 101, 116, 101]
  | 11 => [102, 105, 110, 100]
  | 12 => [99, 111, 117, 110, 116]
  | 13 => [105, 102]
  | 14 => [108, 111, 111, 112]
  | 15 => [97, 98, 111, 114, 116]
  | _ => []
/-- A word is told just where there is one. -/
def WordP (s : ByteArray) (d : Int) : Prop := s.toList.isEmpty = true ↔ ¬ (1 ≤ d ∧ d ≤ 15)
set_option maxRecDepth 100000 in
theorem refWord_ok (w : World) (d : Int) : Calls Tryz.prog 115 #[.int .i64 d] w fun e w' => ∃ s : ByteArray, e = .returned (.string s) ∧ WordP s d ∧ Below w.heap.size w w' := by
  by_cases h : 1 ≤ d ∧ d ≤ 15
  · obtain ⟨k, rfl⟩ : ∃ k : Nat, d = (k : Int) := ⟨d.toNat, by omega⟩
    have hk : 1 ≤ k ∧ k ≤ 15 := by omega
    have h1 : ¬ (k : Int) < 1 := by omega
    have h2 : ¬ (15 : Int) < (k : Int) := by omega
    have i1 : (0 : Int) ≤ (k : Int) := by omega
    have i2 : (k : Int) < 16 := by omega
    have hg : (#[.string ⟨#[]⟩, .string ⟨#[115, 101, 116]⟩, .string ⟨#[99, 111, 112, 121]⟩, .string ⟨#[97, 100, 100]⟩, .string ⟨#[115, 117, 98]⟩, .string ⟨#[109, 117, 108]⟩, .string ⟨#[108, 101, 115, 115]⟩, .string ⟨#[104, 97, 115]⟩, .string ⟨#[103, 101, 116]⟩, .string ⟨#[112, 117, 116]⟩, .string ⟨#[100, 101, 108, 101, 116, 101]⟩, .string ⟨#[102, 105, 110, 100]⟩, .string ⟨#[99, 111, 117, 110, 116]⟩, .string ⟨#[105, 102]⟩, .string ⟨#[108, 111, 111, 112]⟩, .string ⟨#[97, 98, 111, 114, 116]⟩] : Array Value)[k]? = some (.string ⟨(wordL k).toArray⟩) := by
      have : k = 1 ∨ k = 2 ∨ k = 3 ∨ k = 4 ∨ k = 5 ∨ k = 6 ∨ k = 7 ∨ k = 8 ∨ k = 9 ∨ k = 10 ∨ k = 11 ∨ k = 12 ∨ k = 13 ∨ k = 14 ∨ k = 15 := by omega
      rcases this with rfl | rfl | rfl | rfl | rfl | rfl | rfl | rfl | rfl | rfl | rfl | rfl | rfl | rfl | rfl <;> rfl
    have hne : WordP ⟨(wordL k).toArray⟩ (k : Int) := by
      have : (⟨(wordL k).toArray⟩ : ByteArray).toList.isEmpty = false := by
        have : k = 1 ∨ k = 2 ∨ k = 3 ∨ k = 4 ∨ k = 5 ∨ k = 6 ∨ k = 7 ∨ k = 8 ∨ k = 9 ∨ k = 10 ∨ k = 11 ∨ k = 12 ∨ k = 13 ∨ k = 14 ∨ k = 15 := by omega
        rcases this with rfl | rfl | rfl | rfl | rfl | rfl | rfl | rfl | rfl | rfl | rfl | rfl | rfl | rfl | rfl <;> decide +kernel
      unfold WordP
      rw [this]
      simp [h]
    have hc : (w.alloc (.cells #[.string ⟨#[]⟩, .string ⟨#[115, 101, 116]⟩, .string ⟨#[99, 111, 112, 121]⟩, .string ⟨#[97, 100, 100]⟩, .string ⟨#[115, 117, 98]⟩, .string ⟨#[109, 117, 108]⟩, .string ⟨#[108, 101, 115, 115]⟩, .string ⟨#[104, 97, 115]⟩, .string ⟨#[103, 101, 116]⟩, .string ⟨#[112, 117, 116]⟩, .string ⟨#[100, 101, 108, 101, 116, 101]⟩, .string ⟨#[102, 105, 110, 100]⟩, .string ⟨#[99, 111, 117, 110, 116]⟩, .string ⟨#[105, 102]⟩, .string ⟨#[108, 111, 111, 112]⟩, .string ⟨#[97, 98, 111, 114, 116]⟩] 9)).cell? ⟨w.heap.size, k, none⟩ = some (.string ⟨(wordL k).toArray⟩) := by
      rw [← hg, World.cell?]
      simp only [heap_alloc_new]
      rfl
    have HN := Lib.hid hne
    clear h hg hne
    go_enter Tryz.func115, Tryz.ntmps115
    go_wp2_with fail
    go_ret
    exact ⟨_, rfl, HN.out, (Below.refl _ _).alloc (Nat.le_refl _) _⟩
  · have HN := Lib.hid h
    by_cases h1 : d < 1
    · clear h
      go_enter Tryz.func115, Tryz.ntmps115
      go_wp2_with fail
      go_ret
      exact ⟨_, rfl, show WordP ⟨#[]⟩ d from ⟨fun _ => HN.out, fun _ => by decide +kernel⟩, (Below.refl _ _).alloc (Nat.le_refl _) _⟩
    · have h2 : 15 < d := by omega
      clear h
      go_enter Tryz.func115, Tryz.ntmps115
      go_wp2_with fail
      go_ret
      exact ⟨_, rfl, show WordP ⟨#[]⟩ d from ⟨fun _ => HN.out, fun _ => by decide +kernel⟩, (Below.refl _ _).alloc (Nat.le_refl _) _⟩

theorem hasF_def (d : Int) (i : Nat) : hasF d i = (if d = 1 then i == 0 || i == 2 else if d = 8 ∨ d = 11 then decide (i < 3) else if d = 10 then i == 1 else if d = 12 then true
  else if d = 13 then i == 0 || i == 3 else if d = 14 then decide (2 ≤ i) else if d = 15 then i == 0 else decide (i < 2)) := rfl
set_option maxRecDepth 100000 in
set_option maxHeartbeats 4000000 in
theorem refHas_ok (w : World) (d : Int) (i : Nat) (hi : i < 4) : Calls Tryz.prog 116 #[.int .i64 d, .int .i64 (i : Int)] w fun e w' => e = .returned (.bool (hasF d i)) ∧ w' = w := by
  have hh := hasF_def d i
  have hi4 : i = 0 ∨ i = 1 ∨ i = 2 ∨ i = 3 := by omega
  by_cases h1 : d = 1
  · subst h1
    simp at hh
    rcases hi4 with rfl | rfl | rfl | rfl
    · have H := Lib.hid hh
      clear hh
      go_enter Tryz.func116, Tryz.ntmps116
      go_wp2_with fail
      go_ret
      exact ⟨by rw [H.out]; rfl, rfl⟩
    · have H := Lib.hid hh
      clear hh
      go_enter Tryz.func116, Tryz.ntmps116
      go_wp2_with fail
      go_ret
      exact ⟨by rw [H.out]; rfl, rfl⟩
    · have H := Lib.hid hh
      clear hh
      go_enter Tryz.func116, Tryz.ntmps116
      go_wp2_with fail
      go_ret
      exact ⟨by rw [H.out]; rfl, rfl⟩
    · have H := Lib.hid hh
      clear hh
      go_enter Tryz.func116, Tryz.ntmps116
      go_wp2_with fail
      go_ret
      exact ⟨by rw [H.out]; rfl, rfl⟩
  · have n1 : (d == 1) = false := by simpa using h1
    by_cases h8 : d = 8
    · subst h8
      simp at hh
      rcases hi4 with rfl | rfl | rfl | rfl
      · have H := Lib.hid hh
        clear hh
        go_enter Tryz.func116, Tryz.ntmps116
        go_wp2_with fail
        go_ret
        exact ⟨by rw [H.out]; rfl, rfl⟩
      · have H := Lib.hid hh
        clear hh
        go_enter Tryz.func116, Tryz.ntmps116
        go_wp2_with fail
        go_ret
        exact ⟨by rw [H.out]; rfl, rfl⟩
      · have H := Lib.hid hh
        clear hh
        go_enter Tryz.func116, Tryz.ntmps116
        go_wp2_with fail
        go_ret
        exact ⟨by rw [H.out]; rfl, rfl⟩
      · have H := Lib.hid hh
        clear hh
        go_enter Tryz.func116, Tryz.ntmps116
        go_wp2_with fail
        go_ret
        exact ⟨by rw [H.out]; rfl, rfl⟩
    · have n8 : (d == 8) = false := by simpa using h8
      by_cases h11 : d = 11
      · subst h11
        simp at hh
        rcases hi4 with rfl | rfl | rfl | rfl
        · have H := Lib.hid hh
          clear hh
          go_enter Tryz.func116, Tryz.ntmps116
          go_wp2_with fail
          go_ret
          exact ⟨by rw [H.out]; rfl, rfl⟩
        · have H := Lib.hid hh
          clear hh
          go_enter Tryz.func116, Tryz.ntmps116
          go_wp2_with fail
          go_ret
          exact ⟨by rw [H.out]; rfl, rfl⟩
        · have H := Lib.hid hh
          clear hh
          go_enter Tryz.func116, Tryz.ntmps116
          go_wp2_with fail
          go_ret
          exact ⟨by rw [H.out]; rfl, rfl⟩
        · have H := Lib.hid hh
          clear hh
          go_enter Tryz.func116, Tryz.ntmps116
          go_wp2_with fail
          go_ret
          exact ⟨by rw [H.out]; rfl, rfl⟩
      · have n11 : (d == 11) = false := by simpa using h11
        by_cases h10 : d = 10
        · subst h10
          simp at hh
          rcases hi4 with rfl | rfl | rfl | rfl
          · have H := Lib.hid hh
            clear hh
            go_enter Tryz.func116, Tryz.ntmps116
            go_wp2_with fail
            go_ret
            exact ⟨by rw [H.out]; rfl, rfl⟩
          · have H := Lib.hid hh
            clear hh
            go_enter Tryz.func116, Tryz.ntmps116
            go_wp2_with fail
            go_ret
            exact ⟨by rw [H.out]; rfl, rfl⟩
          · have H := Lib.hid hh
            clear hh
            go_enter Tryz.func116, Tryz.ntmps116
            go_wp2_with fail
            go_ret
            exact ⟨by rw [H.out]; rfl, rfl⟩
          · have H := Lib.hid hh
            clear hh
            go_enter Tryz.func116, Tryz.ntmps116
            go_wp2_with fail
            go_ret
            exact ⟨by rw [H.out]; rfl, rfl⟩
        · have n10 : (d == 10) = false := by simpa using h10
          by_cases h12 : d = 12
          · subst h12
            simp at hh
            rcases hi4 with rfl | rfl | rfl | rfl
            · have H := Lib.hid hh
              clear hh
              go_enter Tryz.func116, Tryz.ntmps116
              go_wp2_with fail
              go_ret
              exact ⟨by rw [H.out]; rfl, rfl⟩
            · have H := Lib.hid hh
              clear hh
              go_enter Tryz.func116, Tryz.ntmps116
              go_wp2_with fail
              go_ret
              exact ⟨by rw [H.out]; rfl, rfl⟩
            · have H := Lib.hid hh
              clear hh
              go_enter Tryz.func116, Tryz.ntmps116
              go_wp2_with fail
              go_ret
              exact ⟨by rw [H.out]; rfl, rfl⟩
            · have H := Lib.hid hh
              clear hh
              go_enter Tryz.func116, Tryz.ntmps116
              go_wp2_with fail
              go_ret
              exact ⟨by rw [H.out]; rfl, rfl⟩
          · have n12 : (d == 12) = false := by simpa using h12
            by_cases h13 : d = 13
            · subst h13
              simp at hh
              rcases hi4 with rfl | rfl | rfl | rfl
              · have H := Lib.hid hh
                clear hh
                go_enter Tryz.func116, Tryz.ntmps116
                go_wp2_with fail
                go_ret
                exact ⟨by rw [H.out]; rfl, rfl⟩
              · have H := Lib.hid hh
                clear hh
                go_enter Tryz.func116, Tryz.ntmps116
                go_wp2_with fail
                go_ret
                exact ⟨by rw [H.out]; rfl, rfl⟩
              · have H := Lib.hid hh
                clear hh
                go_enter Tryz.func116, Tryz.ntmps116
                go_wp2_with fail
                go_ret
                exact ⟨by rw [H.out]; rfl, rfl⟩
              · have H := Lib.hid hh
                clear hh
                go_enter Tryz.func116, Tryz.ntmps116
                go_wp2_with fail
                go_ret
                exact ⟨by rw [H.out]; rfl, rfl⟩
            · have n13 : (d == 13) = false := by simpa using h13
              by_cases h14 : d = 14
              · subst h14
                simp at hh
                rcases hi4 with rfl | rfl | rfl | rfl
                · have H := Lib.hid hh
                  clear hh
                  go_enter Tryz.func116, Tryz.ntmps116
                  go_wp2_with fail
                  go_ret
                  exact ⟨by rw [H.out]; rfl, rfl⟩
                · have H := Lib.hid hh
                  clear hh
                  go_enter Tryz.func116, Tryz.ntmps116
                  go_wp2_with fail
                  go_ret
                  exact ⟨by rw [H.out]; rfl, rfl⟩
                · have H := Lib.hid hh
                  clear hh
                  go_enter Tryz.func116, Tryz.ntmps116
                  go_wp2_with fail
                  go_ret
                  exact ⟨by rw [H.out]; rfl, rfl⟩
                · have H := Lib.hid hh
                  clear hh
                  go_enter Tryz.func116, Tryz.ntmps116
                  go_wp2_with fail
                  go_ret
                  exact ⟨by rw [H.out]; rfl, rfl⟩
              · have n14 : (d == 14) = false := by simpa using h14
                by_cases h15 : d = 15
                · subst h15
                  simp at hh
                  rcases hi4 with rfl | rfl | rfl | rfl
                  · have H := Lib.hid hh
                    clear hh
                    go_enter Tryz.func116, Tryz.ntmps116
                    go_wp2_with fail
                    go_ret
                    exact ⟨by rw [H.out]; rfl, rfl⟩
                  · have H := Lib.hid hh
                    clear hh
                    go_enter Tryz.func116, Tryz.ntmps116
                    go_wp2_with fail
                    go_ret
                    exact ⟨by rw [H.out]; rfl, rfl⟩
                  · have H := Lib.hid hh
                    clear hh
                    go_enter Tryz.func116, Tryz.ntmps116
                    go_wp2_with fail
                    go_ret
                    exact ⟨by rw [H.out]; rfl, rfl⟩
                  · have H := Lib.hid hh
                    clear hh
                    go_enter Tryz.func116, Tryz.ntmps116
                    go_wp2_with fail
                    go_ret
                    exact ⟨by rw [H.out]; rfl, rfl⟩
                · have n15 : (d == 15) = false := by simpa using h15
                  simp [h1, h8, h11, h10, h12, h13, h14, h15] at hh
                  clear h1 h8 h11 h10 h12 h13 h14 h15
                  rcases hi4 with rfl | rfl | rfl | rfl
                  · have H := Lib.hid hh
                    clear hh
                    go_enter Tryz.func116, Tryz.ntmps116
                    go_wp2_with fail
                    go_ret
                    exact ⟨by rw [H.out]; rfl, rfl⟩
                  · have H := Lib.hid hh
                    clear hh
                    go_enter Tryz.func116, Tryz.ntmps116
                    go_wp2_with fail
                    go_ret
                    exact ⟨by rw [H.out]; rfl, rfl⟩
                  · have H := Lib.hid hh
                    clear hh
                    go_enter Tryz.func116, Tryz.ntmps116
                    go_wp2_with fail
                    go_ret
                    exact ⟨by rw [H.out]; rfl, rfl⟩
                  · have H := Lib.hid hh
                    clear hh
                    go_enter Tryz.func116, Tryz.ntmps116
                    go_wp2_with fail
                    go_ret
                    exact ⟨by rw [H.out]; rfl, rfl⟩

def POp.cells5 (o : POp) : Array Value := #[.int .i64 o.d, .int .i64 o.a, .int .i64 o.b, .int .i64 o.c, .int .i64 o.n]
/-- An op as the document's answer has it. -/
def POp.ref (o : POp) : Value := .agg #[.int .i64 o.d, .int .i64 o.a, .int .i64 o.b, .int .i64 o.c, .int .i64 o.n]
theorem fld_at {w : World} {B : Nat} {o : POp} {t : TypeId} (h : w.heap[B]? = some (.cells #[.int .i64 o.d, .int .i64 o.a, .int .i64 o.b, .int .i64 o.c, .int .i64 o.n] t (0, 0))) (i : Nat) (hi : i < 4) : w.cell? ⟨B, 1 + i, none⟩ = some (.int .i64 (o.fld i)) := by
  have : i = 0 ∨ i = 1 ∨ i = 2 ∨ i = 3 := by omega
  rcases this with rfl | rfl | rfl | rfl <;> simp [World.cell?, h, POp.fld]
theorem formed_word {o : POp} (h : ¬ (1 ≤ o.d ∧ o.d ≤ 15)) : formedB o = false := by unfold formedB; rw [decide_eq_false h]; rfl
theorem formed_bad {o : POp} {i : Nat} (hi : i < 4) (h1 : hasF o.d i = false) (h2 : o.fld i ≠ 0) : formedB o = false := by
  unfold formedB
  rw [Bool.and_eq_false_iff]
  right
  rw [Bool.eq_false_iff]
  intro h
  rw [List.all_eq_true] at h
  have := h i (List.mem_range.2 hi)
  rw [h1] at this
  simp at this
  exact h2 this
theorem formed_yes {o : POp} (h : 1 ≤ o.d ∧ o.d ≤ 15) (h2 : ∀ i, i < 4 → hasF o.d i = false → o.fld i = 0) : formedB o = true := by
  unfold formedB
  rw [decide_eq_true h, Bool.true_and, List.all_eq_true]
  intro i hi
  have hi := List.mem_range.1 hi
  cases hh : hasF o.d i with
  | true => rfl
  | false => simp [h2 i hi hh]
set_option maxRecDepth 100000 in
set_option maxHeartbeats 2000000 in
theorem refForm_ok (w : World) (o : POp) : Calls Tryz.prog 94 #[o.ref] w fun e w' => e = .returned (.bool (formedB o)) ∧ Below w.heap.size w w' := by
  unfold POp.ref
  have hb1 : Below w.heap.size w (w.alloc (.cells #[.int .i64 o.d, .int .i64 o.a, .int .i64 o.b, .int .i64 o.c, .int .i64 o.n] 49)) := (Below.refl _ _).alloc (Nat.le_refl _) _
  have k1 := heap_alloc_new w (.cells #[.int .i64 o.d, .int .i64 o.a, .int .i64 o.b, .int .i64 o.c, .int .i64 o.n] 49)
  have HB1 := Lib.hid hb1
  clear hb1
  go_enter Tryz.func94, Tryz.ntmps94
  go_wp2_with fail
  generalize w.alloc (.cells #[.int .i64 o.d, .int .i64 o.a, .int .i64 o.b, .int .i64 o.c, .int .i64 o.n] 49) = w1 at k1 HB1 ⊢
  obtain ⟨B, hB⟩ : ∃ B, w.heap.size = B := ⟨_, rfl⟩
  rw [hB] at k1 ⊢
  have HBQ := Lib.hid hB
  clear hB
  refine (refWord_ok w1 o.d).mono ?_
  rintro e w2 ⟨s, rfl, hs, hb2⟩
  have k2 := (Only.of_below hb2 (fun _ => False)).heap k1 (fun h => h)
  have HB2 := Lib.hid (HB1.out.trans (hb2.mono HB1.out.size))
  clear hb2 k1
  by_cases hd : 1 ≤ o.d ∧ o.d ≤ 15
  · have hs1 : s.toList.isEmpty = false := by rw [Bool.eq_false_iff]; exact fun h => hs.1 h hd
    clear hs
    have HD := Lib.hid hd
    have c0 : w2.cell? ⟨B, 0, none⟩ = some (.int .i64 o.d) := by simp [World.cell?, k2]
    have K2 := Lib.hid k2
    clear hd k2
    go_wp2_with fail
    go_loopw [3] (fun i wr => ∃ k : Nat, k ≤ 4 ∧ i = .int .i64 (k : Int) ∧ (∀ j, j < k → hasF o.d j = false → o.fld j = 0) ∧ wr = w2) (fun i _ => 4 - (intOf i).toNat)
    case atStart => exact ⟨0, by omega, rfl, fun j h => absurd h (by omega), rfl⟩
    case round =>
      obtain ⟨k, hk, rfl, hal, hwr⟩ := hrel
      subst hwr
      have HA := Lib.hid hal
      clear hal
      by_cases hlt : k < 4
      · have ck := fld_at K2.out k hlt
        have HC := Lib.hid ck
        have hck2 : wr.cell? ⟨B, 1 + k, none⟩ = some (.int .i64 (o.fld k)) := ck
        have i1 : (0 : Int) ≤ (k : Int) := by omega
        have i2 : (k : Int) < 4 := by omega
        clear ck
        go_wp2_with fail
        refine (refHas_ok wr o.d k hlt).mono ?_
        rintro e w3 ⟨rfl, rfl⟩
        obtain ⟨hb, hhb⟩ : ∃ b, hasF o.d k = b := ⟨_, rfl⟩
        rw [hhb]
        have HH := Lib.hid hhb
        clear hhb
        cases hb with
        | true =>
          go_wp2_with fail
          go_roundw
          case rel => exact ⟨k + 1, by omega, by go_num, (fun j hj hh => by
            rcases Nat.lt_or_ge j k with h | h
            · exact HA.out j h hh
            · have : j = k := by omega
              subst this
              rw [HH.out] at hh
              cases hh), trivial⟩
          case measure => simp [intOf]; omega
        | false =>
          by_cases hz : o.fld k = 0
          · have hz' : (o.fld k != 0) = false := by simpa using hz
            have HZ := Lib.hid hz
            clear hz
            go_wp2_with fail
            go_roundw
            case rel => exact ⟨k + 1, by omega, by go_num, (fun j hj hh => by
              rcases Nat.lt_or_ge j k with h | h
              · exact HA.out j h hh
              · have : j = k := by omega
                subst this
                exact HZ.out), trivial⟩
            case measure => simp [intOf]; omega
          · have hz' : (o.fld k != 0) = true := by simpa using hz
            have HZ := Lib.hid (formed_bad hlt HH.out hz)
            clear hz
            go_wp2_with fail
            go_ret
            exact ⟨by rw [HZ.out]; rfl, HB2.out⟩
      · obtain rfl : k = 4 := by omega
        have HY := Lib.hid (formed_yes HD.out HA.out)
        go_wp2_with fail
        go_ret
        exact ⟨by rw [HY.out]; rfl, HB2.out⟩
  · have hs1 : s.toList.isEmpty = true := hs.2 hd
    clear hs
    have HF := Lib.hid (formed_word hd)
    clear hd k2
    go_wp2_with fail
    go_ret
    exact ⟨by rw [HF.out]; rfl, HB2.out⟩
set_option maxRecDepth 100000 in
theorem refHolds_ok (w : World) (o : POp) : Calls Tryz.prog 96 #[o.ref] w fun e w' => e = .returned (.bool o.holds) ∧ Below w.heap.size w w' := by
  unfold POp.ref
  by_cases h : o.d = 13
  · have hh : o.holds = true := by unfold POp.holds; rw [h]; rfl
    have h13 : (o.d == 13) = true := by simpa using h
    have HH := Lib.hid hh
    clear hh h
    go_enter Tryz.func96, Tryz.ntmps96
    go_wp2_with fail
    go_ret
    exact ⟨by rw [HH.out]; rfl, (Below.refl _ _).alloc (Nat.le_refl _) _⟩
  · have h13 : (o.d == 13) = false := by simpa using h
    have hh : o.holds = (o.d == 14) := by unfold POp.holds; rw [h13, Bool.false_or]
    have HH := Lib.hid hh
    clear hh h
    go_enter Tryz.func96, Tryz.ntmps96
    go_wp2_with fail
    go_ret
    exact ⟨by rw [HH.out]; rfl, (Below.refl _ _).alloc (Nat.le_refl _) _⟩
end Go.Proofs.YtihjcfifakcpgaaGreatDoor
