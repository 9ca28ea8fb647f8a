/- exec over a log of one empty piece: what may be done, and doing it. -/
import Derived.Test.YtiacbhnkcllpjaaGreatDoorExecC
namespace Go.Proofs.YtiacbhnkcllpjaaGreatDoor
set_option maxRecDepth 100000
open Go.RowKit Go.Maps Go.WideShapes

theorem run_store_fnD {P : Program} {w : World} {a : Addr} {m : Mode} (f : Fn) (x y : Array Value) : (store a (.func f x y) m).run P w = stored P w a (.func f x y) m := run_store P w a _ m rfl
theorem run_store_nilD {P : Program} {w : World} {a : Addr} {m : Mode} : (store a .nilFunc m).run P w = stored P w a .nilFunc m := run_store P w a _ m rfl
attribute [local go_sem] Oper.semAt_some run_store_fnD run_store_nilD
theorem Tryz.infoAct : (Tryz.prog.info? 37).map (fun i => (i.zero, i.size, i.bytes)) = some (some (.agg #[.int .i64 0, .int .i64 0, .int .i64 0]), 3, 24) := by kernel_rfl
theorem own3_cells {w : World} {base : Nat} {e : TypeId} {v a b c : Value} (h : w.ownsRow base e 3 v 1 [a, b, c]) : ∃ G o c', v = .slice (some ⟨G, o, none⟩) 1 c' ∧ w.cell? ⟨G, o, none⟩ = some a ∧ w.cell? ⟨G, o + 1, none⟩ = some b ∧ w.cell? ⟨G, o + 2, none⟩ = some c := by
  have hr : RdK 3 w (fun _ => True) v [[a, b, c]] := RdK.of_own (xs := [[a, b, c]]) h (fun x hx => by simp at hx; subst hx; rfl) (by decide) (fun _ _ => trivial)
  obtain ⟨A, n, c', rfl, hl, -, -, hx⟩ := hr
  obtain rfl : n = 1 := by simpa using hl.symm
  obtain ⟨b', o, rfl, -, hc⟩ := hx (by decide)
  exact ⟨b', o, c', rfl, by simpa using hc 0 _ rfl 0 _ rfl, by simpa using hc 0 _ rfl 1 _ rfl, by simpa using hc 0 _ rfl 2 _ rfl⟩
/-- One that may be done: admit. -/
def OneAct (w : World) (e : Ending) (w' : World) : Prop := ∃ G o c, e = .returned (.slice (some ⟨G, o, none⟩) 1 c) ∧ Below w.heap.size w w' ∧ w.heap.size ≤ G ∧ w'.cell? ⟨G, o, none⟩ = some (.int .i64 1) ∧ w'.cell? ⟨G, o + 1, none⟩ = some (.int .i64 0) ∧ w'.cell? ⟨G, o + 2, none⟩ = some (.int .i64 0)
set_option maxRecDepth 100000 in
set_option maxHeartbeats 4000000 in
theorem bacts1_ok (w : World) (B n : Nat) (hn : n ≤ 16) (h : BoardE w B n) : Calls Tryz.prog 65 #[.pointer (some ⟨B, 0, none⟩), .bool true, .slice none 0 0] w (OneAct w) := by
  have hmm := @run_makeMap Tryz.prog
  obtain ⟨i0, hi, hz0, hz1, hz2⟩ := info_parts Tryz.infoAct
  have hb1 := new_box w (.cells #[.int .i64 1, .int .i64 0, .int .i64 0] 37)
  have hnews := World.news_of_block (heap_alloc_new w (.cells #[.int .i64 1, .int .i64 0, .int .i64 0] 37))
  have hown0 : (w.alloc (.cells #[.int .i64 1, .int .i64 0, .int .i64 0] 37)).ownsRow w.heap.size 37 3 (.slice none 0 0) 0 [] := World.ownsRow_nil _ _ _ _
  have HA := Lib.hid (And.intro hi (And.intro hnews (And.intro hown0 hb1)))
  have HH := Lib.hid h
  clear hi hnews hown0 hb1 h
  go_enter Tryz.func65, Tryz.ntmps65
  go_upto_region 6 with (at_builtin; go_loud (refine wpList_append_lies _ rfl _ _ 46 rfl w.heap.size 37 i0 _ 3 24 Tryz.underlying46 HA.out.1 hz0 hz1 hz2 rfl (by decide) (.slice none 0 0) 0 [] rfl HA.out.2.2.1 ⟨w.heap.size, 0, none⟩ 1 1 [.int .i64 1, .int .i64 0, .int .i64 0] rfl rfl HA.out.2.1 (by simp [Value.oneCell']) (by decide) (by unfold maxLen; omega) (by omega) (by simp) _ rfl ?_); intro G cap w2 hown1 hgrow1 hat1 hlt1)
  simp only [Nat.zero_add, List.nil_append] at hown1 ⊢
  have hb2 : Below w.heap.size w w2 := HA.out.2.2.2.grown hgrow1 (by simp) (fun j hj => by cases hj)
  have HO := Lib.hid (And.intro hown1 hb2)
  have hB2 := HH.out.below hb2
  obtain ⟨S, h1, _⟩ := hB2
  have hx3 := new_box w2 (.map #[] 0)
  have z0 : w2.cell? ⟨B, 0, none⟩ = some (.slice (some ⟨S, 0, none⟩) n n) := by simp [World.cell?, h1]
  have z1 : (w2.alloc (.map #[] 0)).cell? ⟨B, 0, none⟩ = some (.slice (some ⟨S, 0, none⟩) n n) := by simp [World.cell?, (Only.of_below hx3 (fun _ => False)).heap h1 (fun h => h)]
  have HX3 := Lib.hid hx3
  clear hown1 hgrow1 hat1 hlt1 hb2 h1 hx3
  go_wp2_with fail
  clear z0 z1
  go_loopw [8, 33] (fun e i wr => e = .slice none 0 0 ∧ ∃ k : Nat, k ≤ n ∧ i = .int .i64 (k : Int) ∧ Below w2.heap.size w2 wr) (fun _ i _ => n - (intOf i).toNat)
  case atStart => exact ⟨rfl, 0, Nat.zero_le _, rfl, HX3.out⟩
  case round =>
    obtain ⟨rfl, k, hk, rfl, hbl⟩ := hrel
    have HR := Lib.hid hbl
    by_cases hlt : k < n
    · have HD := Lib.hid (does0_ok wr B n k (HH.out.below (HO.out.2.trans (hbl.mono HO.out.2.size))) hlt)
      have i2 : (k : Int) < (n : Int) := by omega
      clear hbl
      go_wp2_with fail
      refine HD.out.mono ?_
      rintro e w1 ⟨rfl, rfl⟩
      go_wp2_with fail
      go_roundw
      case rel => exact ⟨rfl, k + 1, by omega, by go_num, HR.out⟩
      case measure => simp [intOf]; omega
    · obtain rfl : k = n := by omega
      have HI := Lib.hid (idle0_ok wr B k hn (HH.out.below (HO.out.2.trans (hbl.mono HO.out.2.size))))
      clear hbl
      go_wp2_with fail
      refine HI.out.mono ?_
      rintro e w4 ⟨v, rfl, A, c, xs, rfl, -, hb4⟩
      have HB4 := Lib.hid (HR.out.trans (hb4.mono HR.out.size))
      clear hb4
      go_wp2_with fail
      go_loopw [7, 57] (fun e i wr => e = .slice (some ⟨G, 0, none⟩) 1 cap ∧ i = .int .i64 0 ∧ wr = w4) (fun _ i _ => 0)
      case atStart => exact ⟨rfl, rfl, rfl⟩
      case round =>
        obtain ⟨rfl, rfl, rfl⟩ := hrel
        have HOR := Lib.hid (own_below HO.out.1 HB4.out)
        have HBR := Lib.hid (HO.out.2.trans (HB4.out.mono HO.out.2.size))
        go_wp2_with (at_builtin; go_loud (refine wpList_append_rdk _ rfl _ _ 46 rfl w.heap.size 37 i0 _ 3 24 Tryz.underlying46 HA.out.1 hz0 hz1 hz2 rfl (by decide) (.slice (some ⟨G, 0, none⟩) 1 cap) 1 [.int .i64 1, .int .i64 0, .int .i64 0] rfl HOR.out (fun _ => True) (.slice none 0 0) [] rfl (RdK.nil _ _ _) (by simp) (by simp) (by simp) (by simp [maxLen]) HBR.out.size ?_); intro v9 w9 hown9 hgrow9 hat9)
        simp only [List.length_nil, Nat.add_zero, List.flatten_nil, List.append_nil] at hown9
        have hb9 : Below w.heap.size w w9 := HBR.out.grown hgrow9 HBR.out.size (fun j hj => (HOR.out.lt j hj).1)
        go_ret
        obtain ⟨G', o', c', rfl, q0, q1, q2⟩ := own3_cells hown9
        exact ⟨G', o', c', rfl, hb9, (hown9.lt G' rfl).1, q0, q1, q2⟩
set_option maxRecDepth 100000 in
theorem pick1_ok (w : World) (G o c : Nat) (h0 : w.cell? ⟨G, o, none⟩ = some (.int .i64 1)) (h1 : w.cell? ⟨G, o + 1, none⟩ = some (.int .i64 0)) (h2 : w.cell? ⟨G, o + 2, none⟩ = some (.int .i64 0)) : Calls Tryz.prog 63 #[.int .i64 0, .slice (some ⟨G, o, none⟩) 1 c] w fun e w' => e = .returned (.tuple #[.agg #[.int .i64 1, .int .i64 0, .int .i64 0], .int .i64 0]) ∧ Below w.heap.size w w' := by
  have hb := new_box w (.cells #[.int .i64 0, .int .i64 0, .int .i64 0] 37)
  have k0 := heap_alloc_new w (.cells #[.int .i64 0, .int .i64 0, .int .i64 0] 37)
  have h0 := (hb.cell (World.block_lt_of_cell? _ _ h0)).trans h0
  have h1 := (hb.cell (World.block_lt_of_cell? _ _ h1)).trans h1
  have h2 := (hb.cell (World.block_lt_of_cell? _ _ h2)).trans h2
  go_enter Tryz.func63, Tryz.ntmps63
  go_upto_region 1 with fail
  generalize w.alloc (.cells #[.int .i64 0, .int .i64 0, .int .i64 0] 37) = w1 at hb k0 h0 h1 h2 ⊢
  obtain ⟨C, hC⟩ : ∃ x, w.heap.size = x := ⟨_, rfl⟩
  rw [hC] at k0 ⊢
  have z0 : w1.cell? ⟨C, 0, none⟩ = some (.int .i64 0) := by simp [World.cell?, k0]
  have z1 : w1.cell? ⟨C, 1, none⟩ = some (.int .i64 0) := by simp [World.cell?, k0]
  have z2 : w1.cell? ⟨C, 2, none⟩ = some (.int .i64 0) := by simp [World.cell?, k0]
  have y0 : w1.frozen? ⟨C, 0, none⟩ = false := by simp [World.frozen?, k0]
  have y1 : w1.frozen? ⟨C, 1, none⟩ = false := by simp [World.frozen?, k0]
  have y2 : w1.frozen? ⟨C, 2, none⟩ = false := by simp [World.frozen?, k0]
  have HB := Lib.hid (And.intro hb (And.intro k0 hC))
  clear hb k0 hC
  go_wp2_with fail
  have hp := put3r (v0 := .int .i64 1) (v1 := .int .i64 0) (v2 := .int .i64 0) HB.out.2.1
  exact bodyPost_ret (results_cell_row2 rfl _ _ _ _ _ _ _ rfl hp Tryz.underlying37 rfl (by kernel_rfl)) rfl ⟨rfl, ((HB.out.1.setCell (p := ⟨C, 0, none⟩) (Nat.le_of_eq HB.out.2.2) _).setCell (p := ⟨C, 1, none⟩) (Nat.le_of_eq HB.out.2.2) _).setCell (p := ⟨C, 2, none⟩) (Nat.le_of_eq HB.out.2.2) _⟩
set_option maxRecDepth 100000 in
theorem deeds_ok (w : World) : Calls Tryz.prog 64 #[] w fun e w' => e = .returned (.agg #[.nilFunc, .func (.func 104) #[] #[], .func (.func 105) #[] #[], .func (.func 106) #[] #[]]) ∧ Below w.heap.size w w' := by
  go_enter Tryz.func64, Tryz.ntmps64
  go_wp2_with fail
  exact bodyPost_ret (results_cell_row rfl _ _ _ _ _ _ _ rfl (heap_alloc_new _ _) Tryz.underlying145 rfl (by kernel_rfl)) rfl ⟨rfl, new_box _ _⟩
end Go.Proofs.YtiacbhnkcllpjaaGreatDoor
