/- sched: a board whose workers do nothing: has, Does, Idle, Acts, New. -/
import Derived.Test.YtiacbhnkcllpjaaGreatDoorSchA
import Derived.Test.YtiacbhnkcllpjaaGreatDoorTree
import Derived.Deep.AppendLies
import Derived.Deep.QuietTactic
import Derived.BigQuiet
namespace Go.Proofs.YtiacbhnkcllpjaaGreatDoor
set_option maxRecDepth 100000
open Go.RowKit

/-- A slot that is empty. -/
def SlotE (w : World) (c : Nat) : Prop := ∃ s r, w.heap[c]? = some (.chan 1 #[] false s r false)
/-- A board of so many workers that do nothing. -/
def BoardE (w : World) (B n : Nat) : Prop := ∃ S : Nat, w.heap[B]? = some (.cells #[.slice (some ⟨S, 0, none⟩) n n] 141 (0, 0)) ∧
  ∃ cs : Array Value, w.heap[S]? = some (.cells cs 142 (0, 0)) ∧ cs.size = n ∧ ∀ i, i < n → ∃ c, cs[i]? = some (.chan (some c)) ∧ SlotE w c
theorem SlotE.below {w w' : World} {c : Nat} (h : SlotE w c) (hb : Below w.heap.size w w') : SlotE w' c := by
  obtain ⟨s, r, h⟩ := h
  exact ⟨s, r, (Only.of_below hb (fun _ => False)).heap h (fun h => h)⟩
theorem BoardE.below {w w' : World} {B n : Nat} (h : BoardE w B n) (hb : Below w.heap.size w w') : BoardE w' B n := by
  obtain ⟨S, h1, cs, h2, h3, h4⟩ := h
  refine ⟨S, (Only.of_below hb (fun _ => False)).heap h1 (fun h => h), cs, (Only.of_below hb (fun _ => False)).heap h2 (fun h => h), h3, fun i hi => ?_⟩
  obtain ⟨c, e, hc⟩ := h4 i hi
  exact ⟨c, e, hc.below hb⟩
set_option maxRecDepth 100000 in
theorem has0_ok (w : World) (B n i : Nat) (h : BoardE w B n) (hi : i < n) : Calls Tryz.prog 163 #[.pointer (some ⟨B, 0, none⟩), .int .i64 (i : Int)] w fun e w' => e = .returned (.bool true) ∧ w' = w := by
  obtain ⟨S, h1, _⟩ := h
  have z0 : w.cell? ⟨B, 0, none⟩ = some (.slice (some ⟨S, 0, none⟩) n n) := by simp [World.cell?, h1]
  have i1 : (0 : Int) ≤ (i : Int) := by omega
  have i2 : (i : Int) < (n : Int) := by omega
  clear h1
  go_enter Tryz.func163, Tryz.ntmps163
  go_wp2_with fail
  go_ret
  exact ⟨rfl, rfl⟩
set_option maxRecDepth 100000 in
theorem does0_ok (w : World) (B n i : Nat) (h : BoardE w B n) (hi : i < n) : Calls Tryz.prog 107 #[.pointer (some ⟨B, 0, none⟩), .int .i64 (i : Int)] w fun e w' => e = .returned (.tuple #[.int .i64 0, .bool false]) ∧ w' = w := by
  have HH := Lib.hid (has0_ok w B n i h hi)
  obtain ⟨S, h1, cs, h2, h3, h4⟩ := h
  obtain ⟨c, hc, s, r, hs⟩ := h4 i hi
  have HL := Lib.hid (lift0_ok w c s r hs)
  have z0 : w.cell? ⟨B, 0, none⟩ = some (.slice (some ⟨S, 0, none⟩) n n) := by simp [World.cell?, h1]
  have z1 : w.cell? ⟨S, i, none⟩ = some (.chan (some c)) := by simp [World.cell?, h2, hc]
  have i1 : (0 : Int) ≤ (i : Int) := by omega
  have i2 : (i : Int) < (n : Int) := by omega
  clear h1 h2 h3 h4 hc hs
  go_enter Tryz.func107, Tryz.ntmps107
  go_wp2_with fail
  refine HH.out.mono ?_
  rintro e w1 ⟨rfl, rfl⟩
  go_wp2_with fail
  refine HL.out.mono ?_
  rintro e w2 ⟨rfl, rfl⟩
  go_wp2_with fail
  go_ret2
  exact ⟨rfl, rfl⟩
theorem Tryz.infoIntS : (Tryz.prog.info? 3).map (fun i => (i.zero, i.size, i.bytes)) = some (some (.int .i64 0), 1, 8) := by kernel_rfl
/-- What those that do nothing are, as far as it counts here. -/
def IdleR (w : World) (k : Nat) (v : Value) (w' : World) : Prop := ∃ A c xs, v = .slice A k c ∧ w'.ownsRow w.heap.size 3 1 v k xs ∧ Below w.heap.size w w'
set_option maxRecDepth 100000 in
theorem idle0_ok (w : World) (B n : Nat) (hn : n ≤ 16) (h : BoardE w B n) : Calls Tryz.prog 108 #[.pointer (some ⟨B, 0, none⟩)] w fun e w' => ∃ v, e = .returned v ∧ IdleR w n v w' := by
  obtain ⟨i0, hi, hz0, hz1, hz2⟩ := info_parts Tryz.infoIntS
  have HH := Lib.hid h
  obtain ⟨S, h1, _⟩ := h
  have z0 : w.cell? ⟨B, 0, none⟩ = some (.slice (some ⟨S, 0, none⟩) n n) := by simp [World.cell?, h1]
  have HHI := Lib.hid hi
  clear h1 hi
  go_enter Tryz.func108, Tryz.ntmps108
  go_wp2_with fail
  clear z0
  go_loopw [3, 14] (fun v i wr => ∃ k : Nat, k ≤ n ∧ i = .int .i64 (k : Int) ∧ IdleR w k v wr) (fun _ i _ => n - (intOf i).toNat)
  case atStart => exact ⟨0, Nat.zero_le _, rfl, none, 0, [], rfl, World.ownsRow_nil _ _ _ _, Below.refl _ _⟩
  case round =>
    obtain ⟨k, hk, rfl, A5, c5, xs, rfl, hown, hbl⟩ := hrel
    by_cases hlt : k < n
    · have HD := Lib.hid (does0_ok wr B n k (HH.out.below hbl) hlt)
      have hnews := World.news_of_block (heap_alloc_new wr (.cells #[.int .i64 (k : Int)] 3))
      have HOW := Lib.hid (And.intro hbl (And.intro (hown.alloc (.cells #[.int .i64 (k : Int)] 3)) (And.intro hnews hown)))
      have i2 : (k : Int) < (n : Int) := by omega
      clear hbl hown hnews
      go_wp2_with fail
      refine HD.out.mono ?_
      rintro e w1 ⟨rfl, rfl⟩
      go_wp2_with (at_builtin; go_loud (refine wpList_append_lies _ rfl _ _ 55 rfl w.heap.size 3 i0 _ 1 8 Tryz.underlying55 HHI.out hz0 hz1 hz2 rfl (by decide) (.slice A5 k c5) k _ rfl HOW.out.2.1 ⟨w1.heap.size, 0, none⟩ 1 1 [.int .i64 (k : Int)] rfl rfl HOW.out.2.2.1 (by simp [Value.oneCell']) (by decide) (by unfold maxLen; omega) (by omega) (by have := HOW.out.1.size; simp; omega) _ rfl ?_); intro g cap w2 hown1 hgrow1 hat1 hlt1)
      go_roundw
      case rel =>
        have hs1 := HOW.out.1.size
        exact ⟨k + 1, by omega, by go_num, _, cap, _, rfl, hown1, (HOW.out.1.alloc hs1 _).grown hgrow1 (by simp; omega) (fun j hj => (HOW.out.2.2.2.lt j hj).1)⟩
      case measure => simp [intOf]; omega
    · obtain rfl : k = n := by omega
      have HR := Lib.hid (And.intro hown hbl)
      clear hown hbl
      go_wp2_with fail
      go_ret
      exact ⟨_, rfl, A5, c5, xs, rfl, HR.out.1, HR.out.2⟩
set_option maxRecDepth 100000 in
set_option maxHeartbeats 2000000 in
/-- Nothing may be done: nothing to admit, nothing ready, nothing to finish. -/
theorem bacts0_ok (w : World) (B n : Nat) (hn : n ≤ 16) (h : BoardE w B n) : Calls Tryz.prog 65 #[.pointer (some ⟨B, 0, none⟩), .bool false, .slice none 0 0] w fun e w' => e = .returned (.slice none 0 0) ∧ Below w.heap.size w w' := by
  have hmm := @run_makeMap Tryz.prog
  have HH := Lib.hid h
  obtain ⟨S, h1, _⟩ := h
  have hb1 := new_box w (.map #[] 0)
  have z0 : w.cell? ⟨B, 0, none⟩ = some (.slice (some ⟨S, 0, none⟩) n n) := by simp [World.cell?, h1]
  have z1 : (w.alloc (.map #[] 0)).cell? ⟨B, 0, none⟩ = some (.slice (some ⟨S, 0, none⟩) n n) := by simp [World.cell?, (Only.of_below hb1 (fun _ => False)).heap h1 (fun h => h)]
  have HB := Lib.hid hb1
  clear h1 hb1
  go_enter Tryz.func65, Tryz.ntmps65
  go_wp2_with fail
  clear z0 z1
  go_loopw [8, 33] (fun e i wr => e = .slice none 0 0 ∧ ∃ k : Nat, k ≤ n ∧ i = .int .i64 (k : Int) ∧ Below w.heap.size w wr) (fun _ i _ => n - (intOf i).toNat)
  case atStart => exact ⟨rfl, 0, Nat.zero_le _, rfl, HB.out⟩
  case round =>
    obtain ⟨rfl, k, hk, rfl, hbl⟩ := hrel
    have HR := Lib.hid hbl
    by_cases hlt : k < n
    · have HD := Lib.hid (does0_ok wr B n k (HH.out.below hbl) hlt)
      have i2 : (k : Int) < (n : Int) := by omega
      clear hbl
      go_wp2_with fail
      refine HD.out.mono ?_
      rintro e w1 ⟨rfl, rfl⟩
      go_wp2_with fail
      go_roundw
      case rel => exact ⟨rfl, k + 1, by omega, by go_num, HR.out⟩
      case measure => simp [intOf]; omega
    · obtain rfl : k = n := by omega
      have HI := Lib.hid (idle0_ok wr B k hn (HH.out.below hbl))
      clear hbl
      go_wp2_with fail
      refine HI.out.mono ?_
      rintro e w2 ⟨v, rfl, A, c, xs, rfl, -, hb2⟩
      have HB2 := Lib.hid (HR.out.trans (hb2.mono HR.out.size))
      clear hb2
      go_wp2_with fail
      go_loopw [7, 57] (fun e i wr => e = .slice none 0 0 ∧ i = .int .i64 0 ∧ wr = w2) (fun _ i _ => 0)
      case atStart => exact ⟨rfl, rfl, rfl⟩
      case round =>
        obtain ⟨rfl, rfl, rfl⟩ := hrel
        go_wp2_with fail
        go_ret
        exact ⟨rfl, HB2.out⟩
end Go.Proofs.YtiacbhnkcllpjaaGreatDoor
