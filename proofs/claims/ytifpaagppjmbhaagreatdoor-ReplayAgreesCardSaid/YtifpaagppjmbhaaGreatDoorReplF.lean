/- ReplayAgrees: the document's Agree; the law, walked. -/
import Derived.Test.YtifpaagppjmbhaaGreatDoorReplD
import Derived.Test.YtifpaagppjmbhaaGreatDoorEq3
import Derived.Deep.AppendLies
namespace Go.Proofs.YtifpaagppjmbhaaGreatDoor
set_option maxRecDepth 100000
open Go.RowKit

/-- What was seen, in the document's words. -/
def SF.cells4 (x : SF) : List Value := [.int .i64 x.place, .int .i64 x.kind, .int .i64 x.id, .int .i64 x.val]
theorem Tryz.info94 : (Tryz.prog.info? 94).map (fun i => (i.zero, i.size, i.bytes)) = some (some (.agg #[.int .i64 0, .int .i64 0, .int .i64 0, .int .i64 0]), 4, 32) := by kernel_rfl
theorem Tryz.info92 : (Tryz.prog.info? 92).map (fun i => (i.zero, i.size, i.bytes)) = some (some (.agg #[.int .i64 0, .int .i64 0, .int .i64 0]), 3, 24) := by kernel_rfl
theorem seen_snoc {l : List SF} {k : Nat} {x : SF} (h : l[k]? = some x) : ((l.take (k + 1)).map SF.cells4).flatten = ((l.take k).map SF.cells4).flatten ++ x.cells4 := by
  rw [List.take_add_one, h]
  simp
theorem out_snoc {l : List OF} {k : Nat} {x : OF} (h : l[k]? = some x) : ((l.take (k + 1)).map OF.cells).flatten = ((l.take k).map OF.cells).flatten ++ x.cells := by
  rw [List.take_add_one, h]
  simp
set_option maxRecDepth 100000 in
set_option maxHeartbeats 4000000 in
theorem refAgree_ok (w : World) (F G : Nat → Prop) (sv ov : Value) (s : List SF) (o : List OF) (hs : RdK 4 w F sv (s.map SF.cells4)) (ho : RdK 3 w G ov (o.map OF.cells)) :
    Calls Tryz.prog 44 #[sv, ov] w (AgQ (agP s o) w) := by
  obtain ⟨A, n, c, rfl, hl, hnc, hcm, hx⟩ := hs
  obtain ⟨A', n', c', rfl, hl', hnc', hcm', hx'⟩ := ho
  have HL := Lib.hid (show s.length = n by simpa using hl)
  have HL' := Lib.hid (show o.length = n' by simpa using hl')
  unfold maxLen at hcm hcm'
  have HX := Lib.hid (And.intro hx hx')
  have hn63 : (n : Int) ≤ 9223372036854775807 := by omega
  clear hx hx' hl hl' hnc hnc' hcm hcm'
  go_enter Tryz.func44, Tryz.ntmps44
  go_wp2_with fail
  go_loopw [5] (fun i wr => ∃ k : Nat, k ≤ n ∧ i = .int .i64 (k : Int) ∧ (∀ y ∈ s.take k, goodS o y) ∧ Below w.heap.size w wr) (fun i _ => n - (intOf i).toNat)
  case atStart => exact ⟨0, Nat.zero_le _, rfl, by simp, Below.refl _ _⟩
  case round =>
    obtain ⟨k, hk, rfl, hok, hbr⟩ := hrel
    by_cases hlt : k < n
    · obtain ⟨x, hxk⟩ : ∃ x, s[k]? = some x := ⟨_, List.getElem?_eq_getElem (by rw [HL.out]; exact hlt)⟩
      obtain ⟨b, u, rfl, -, hc⟩ := HX.out.1 (by omega)
      have hcx := hc k x.cells4 (by simp [hxk])
      obtain ⟨lf, pl, kd, id, vl⟩ := x
      have on : ∀ {p : Addr} {v : Value}, w.cell? p = some v → wr.cell? p = some v := fun {p v} h => (hbr.cell (World.block_lt_of_cell? _ _ h)).trans h
      have c1 : wr.cell? ⟨b, u + k * 4, none⟩ = some (.int .i64 pl) := on (by simpa using hcx 0 _ rfl)
      have c2 : wr.cell? ⟨b, u + k * 4 + 1, none⟩ = some (.int .i64 kd) := on (by simpa [Nat.add_assoc] using hcx 1 _ rfl)
      have c3 : wr.cell? ⟨b, u + k * 4 + 2, none⟩ = some (.int .i64 id) := on (by simpa [Nat.add_assoc] using hcx 2 _ rfl)
      have c4 : wr.cell? ⟨b, u + k * 4 + 3, none⟩ = some (.int .i64 vl) := on (by simpa [Nat.add_assoc] using hcx 3 _ rfl)
      have i1 : (0 : Int) ≤ (k : Int) := by omega
      have i2 : (k : Int) < (n : Int) := by omega
      have HR := Lib.hid (And.intro hxk (And.intro hok hbr))
      clear hc hcx on hxk hok hbr
      by_cases p0 : pl < 0
      · have HG := Lib.hid (show ¬ agP s o from fun h => absurd (h _ (List.mem_of_getElem? HR.out.1)).1 (by show ¬ 0 ≤ pl; omega))
        go_wp2_with fail
        refine wp_region_held_drew (S := (fun w' => Below wr.heap.size wr w')) (by kernel_rfl) (Below.refl _ _).drew (fun hHeld => ?_)
        refine takeS (i := 0) (v := ?_) rfl (by kernel_rfl) (by kernel_rfl) (by kernel_rfl) (fun _ _ _ h => h) (by rfl) (fun wS hSw => ?_) hHeld ?_
        rotate_left
        · go_simp; try with_reducible rfl
        try simp only [Act.put, List.setIfInBounds_toArray, List.set_cons_zero, List.set_cons_succ]
        refine takeS (i := 1) (v := .bool true) rfl (by kernel_rfl) (by kernel_rfl) (by kernel_rfl) (fun _ _ _ h => h) (by rfl) (fun wS hSw => ?_) hHeld ?_
        · first | (go_simp; done) | (go_simp; omega) | (go_simp; simp; omega)
        try simp only [Act.put, List.setIfInBounds_toArray, List.set_cons_zero, List.set_cons_succ]
        refine takeS (i := 2) (v := ?_) rfl (by kernel_rfl) (by kernel_rfl) (by kernel_rfl) (fun _ _ _ h => h) (by rfl) (fun wS hSw => ?_) hHeld ?_
        rotate_left
        · go_simp; try with_reducible rfl
        try simp only [Act.put, List.setIfInBounds_toArray, List.set_cons_zero, List.set_cons_succ]
        refine notS (i := 3) rfl (by kernel_rfl) (by kernel_rfl) (by kernel_rfl) (fun _ _ _ h => h) (by rfl) hHeld ?_
        try simp only [Act.put, List.setIfInBounds_toArray, List.set_cons_zero, List.set_cons_succ]
        refine notS (i := 4) rfl (by kernel_rfl) (by kernel_rfl) (by kernel_rfl) (fun _ _ _ h => h) (by rfl) hHeld ?_
        try simp only [Act.put, List.setIfInBounds_toArray, List.set_cons_zero, List.set_cons_succ]
        refine notS (i := 5) rfl (by kernel_rfl) (by kernel_rfl) (by kernel_rfl) (fun _ _ _ h => h) (by rfl) hHeld ?_
        try simp only [Act.put, List.setIfInBounds_toArray, List.set_cons_zero, List.set_cons_succ]
        refine notS (i := 6) rfl (by kernel_rfl) (by kernel_rfl) (by kernel_rfl) (fun _ _ _ h => h) (by rfl) hHeld ?_
        try simp only [Act.put, List.setIfInBounds_toArray, List.set_cons_zero, List.set_cons_succ]
        refine takeS (i := 7) (v := ?_) rfl (by kernel_rfl) (by kernel_rfl) (by kernel_rfl) (fun _ _ _ h => h) (by rfl) (fun wS hSw => ?_) hHeld ?_
        rotate_left
        · go_simp; try with_reducible rfl
        try simp only [Act.put, List.setIfInBounds_toArray, List.set_cons_zero, List.set_cons_succ]
        refine takeS (i := 8) (v := ?_) rfl (by kernel_rfl) (by kernel_rfl) (by kernel_rfl) (fun _ _ _ h => h) (by rfl) (fun wS hSw => ?_) hHeld ?_
        rotate_left
        · go_simp; try with_reducible rfl
        try simp only [Act.put, List.setIfInBounds_toArray, List.set_cons_zero, List.set_cons_succ]
        refine notS (i := 9) rfl (by kernel_rfl) (by kernel_rfl) (by kernel_rfl) (fun _ _ _ h => h) (by rfl) hHeld ?_
        try simp only [Act.put, List.setIfInBounds_toArray, List.set_cons_zero, List.set_cons_succ]
        refine notS (i := 10) rfl (by kernel_rfl) (by kernel_rfl) (by kernel_rfl) (fun _ _ _ h => h) (by rfl) hHeld ?_
        try simp only [Act.put, List.setIfInBounds_toArray, List.set_cons_zero, List.set_cons_succ]
        refine notS (i := 11) rfl (by kernel_rfl) (by kernel_rfl) (by kernel_rfl) (fun _ _ _ h => h) (by rfl) hHeld ?_
        try simp only [Act.put, List.setIfInBounds_toArray, List.set_cons_zero, List.set_cons_succ]
        refine notS (i := 12) rfl (by kernel_rfl) (by kernel_rfl) (by kernel_rfl) (fun _ _ _ h => h) (by rfl) hHeld ?_
        try simp only [Act.put, List.setIfInBounds_toArray, List.set_cons_zero, List.set_cons_succ]
        refine notS (i := 13) rfl (by kernel_rfl) (by kernel_rfl) (by kernel_rfl) (fun _ _ _ h => h) (by rfl) hHeld ?_
        try simp only [Act.put, List.setIfInBounds_toArray, List.set_cons_zero, List.set_cons_succ]
        refine notS (i := 14) rfl (by kernel_rfl) (by kernel_rfl) (by kernel_rfl) (fun _ _ _ h => h) (by rfl) hHeld ?_
        try simp only [Act.put, List.setIfInBounds_toArray, List.set_cons_zero, List.set_cons_succ]
        refine notS (i := 15) rfl (by kernel_rfl) (by kernel_rfl) (by kernel_rfl) (fun _ _ _ h => h) (by rfl) hHeld ?_
        try simp only [Act.put, List.setIfInBounds_toArray, List.set_cons_zero, List.set_cons_succ]
        refine notS (i := 16) rfl (by kernel_rfl) (by kernel_rfl) (by kernel_rfl) (fun _ _ _ h => h) (by rfl) hHeld ?_
        try simp only [Act.put, List.setIfInBounds_toArray, List.set_cons_zero, List.set_cons_succ]
        refine notS (i := 17) rfl (by kernel_rfl) (by kernel_rfl) (by kernel_rfl) (fun _ _ _ h => h) (by rfl) hHeld ?_
        try simp only [Act.put, List.setIfInBounds_toArray, List.set_cons_zero, List.set_cons_succ]
        refine notS (i := 18) rfl (by kernel_rfl) (by kernel_rfl) (by kernel_rfl) (fun _ _ _ h => h) (by rfl) hHeld ?_
        try simp only [Act.put, List.setIfInBounds_toArray, List.set_cons_zero, List.set_cons_succ]
        refine takeS (i := 19) (v := ?_) rfl (by kernel_rfl) (by kernel_rfl) (by kernel_rfl) (fun _ _ _ h => h) (by rfl) (fun wS hSw => ?_) hHeld ?_
        rotate_left
        · go_simp; try with_reducible rfl
        try simp only [Act.put, List.setIfInBounds_toArray, List.set_cons_zero, List.set_cons_succ]
        refine wpAnyH_done (by kernel_rfl) ?_ _
        have HH := Lib.hid hHeld
        clear hHeld
        go_wp2_with fail
        go_ret
        exact AgQ.no HG.out (HR.out.2.2.trans (HH.out.mono HR.out.2.2.size))
      · obtain ⟨q, rfl⟩ : ∃ q : Nat, pl = (q : Int) := ⟨pl.toNat, by omega⟩
        by_cases p1 : (n' : Int) ≤ (q : Int)
        · have HG := Lib.hid (show ¬ agP s o from fun h => by
            have := (h _ (List.mem_of_getElem? HR.out.1)).2
            rw [List.getElem?_eq_none (by have := HL'.out; show o.length ≤ ((q : Int)).toNat; omega)] at this
            cases this)
          go_wp2_with fail
          refine wp_region_held_drew (S := (fun w' => Below wr.heap.size wr w')) (by kernel_rfl) (Below.refl _ _).drew (fun hHeld => ?_)
          refine takeS (i := 0) (v := ?_) rfl (by kernel_rfl) (by kernel_rfl) (by kernel_rfl) (fun _ _ _ h => h) (by rfl) (fun wS hSw => ?_) hHeld ?_
          rotate_left
          · go_simp; try with_reducible rfl
          try simp only [Act.put, List.setIfInBounds_toArray, List.set_cons_zero, List.set_cons_succ]
          refine takeS (i := 1) (v := .bool false) rfl (by kernel_rfl) (by kernel_rfl) (by kernel_rfl) (fun _ _ _ h => h) (by rfl) (fun wS hSw => ?_) hHeld ?_
          · first | (go_simp; done) | (go_simp; omega) | (go_simp; simp; omega)
          try simp only [Act.put, List.setIfInBounds_toArray, List.set_cons_zero, List.set_cons_succ]
          refine takeS (i := 2) (v := ?_) rfl (by kernel_rfl) (by kernel_rfl) (by kernel_rfl) (fun _ _ _ h => h) (by rfl) (fun wS hSw => ?_) hHeld ?_
          rotate_left
          · go_simp; try with_reducible rfl
          try simp only [Act.put, List.setIfInBounds_toArray, List.set_cons_zero, List.set_cons_succ]
          refine takeS (i := 3) (v := ?_) rfl (by kernel_rfl) (by kernel_rfl) (by kernel_rfl) (fun _ _ _ h => h) (by rfl) (fun wS hSw => ?_) hHeld ?_
          rotate_left
          · go_simp; try with_reducible rfl
          try simp only [Act.put, List.setIfInBounds_toArray, List.set_cons_zero, List.set_cons_succ]
          refine takeS (i := 4) (v := ?_) rfl (by kernel_rfl) (by kernel_rfl) (by kernel_rfl) (fun _ _ _ h => h) (by rfl) (fun wS hSw => ?_) hHeld ?_
          rotate_left
          · go_simp; try with_reducible rfl
          try simp only [Act.put, List.setIfInBounds_toArray, List.set_cons_zero, List.set_cons_succ]
          refine takeS (i := 5) (v := ?_) rfl (by kernel_rfl) (by kernel_rfl) (by kernel_rfl) (fun _ _ _ h => h) (by rfl) (fun wS hSw => ?_) hHeld ?_
          rotate_left
          · go_simp; try with_reducible rfl
          try simp only [Act.put, List.setIfInBounds_toArray, List.set_cons_zero, List.set_cons_succ]
          refine takeS (i := 6) (v := .bool true) rfl (by kernel_rfl) (by kernel_rfl) (by kernel_rfl) (fun _ _ _ h => h) (by rfl) (fun wS hSw => ?_) hHeld ?_
          · first | (go_simp; done) | (go_simp; omega) | (go_simp; simp; omega)
          try simp only [Act.put, List.setIfInBounds_toArray, List.set_cons_zero, List.set_cons_succ]
          refine takeS (i := 7) (v := ?_) rfl (by kernel_rfl) (by kernel_rfl) (by kernel_rfl) (fun _ _ _ h => h) (by rfl) (fun wS hSw => ?_) hHeld ?_
          rotate_left
          · go_simp; try with_reducible rfl
          try simp only [Act.put, List.setIfInBounds_toArray, List.set_cons_zero, List.set_cons_succ]
          refine takeS (i := 8) (v := ?_) rfl (by kernel_rfl) (by kernel_rfl) (by kernel_rfl) (fun _ _ _ h => h) (by rfl) (fun wS hSw => ?_) hHeld ?_
          rotate_left
          · go_simp; try with_reducible rfl
          try simp only [Act.put, List.setIfInBounds_toArray, List.set_cons_zero, List.set_cons_succ]
          refine notS (i := 9) rfl (by kernel_rfl) (by kernel_rfl) (by kernel_rfl) (fun _ _ _ h => h) (by rfl) hHeld ?_
          try simp only [Act.put, List.setIfInBounds_toArray, List.set_cons_zero, List.set_cons_succ]
          refine notS (i := 10) rfl (by kernel_rfl) (by kernel_rfl) (by kernel_rfl) (fun _ _ _ h => h) (by rfl) hHeld ?_
          try simp only [Act.put, List.setIfInBounds_toArray, List.set_cons_zero, List.set_cons_succ]
          refine notS (i := 11) rfl (by kernel_rfl) (by kernel_rfl) (by kernel_rfl) (fun _ _ _ h => h) (by rfl) hHeld ?_
          try simp only [Act.put, List.setIfInBounds_toArray, List.set_cons_zero, List.set_cons_succ]
          refine notS (i := 12) rfl (by kernel_rfl) (by kernel_rfl) (by kernel_rfl) (fun _ _ _ h => h) (by rfl) hHeld ?_
          try simp only [Act.put, List.setIfInBounds_toArray, List.set_cons_zero, List.set_cons_succ]
          refine notS (i := 13) rfl (by kernel_rfl) (by kernel_rfl) (by kernel_rfl) (fun _ _ _ h => h) (by rfl) hHeld ?_
          try simp only [Act.put, List.setIfInBounds_toArray, List.set_cons_zero, List.set_cons_succ]
          refine notS (i := 14) rfl (by kernel_rfl) (by kernel_rfl) (by kernel_rfl) (fun _ _ _ h => h) (by rfl) hHeld ?_
          try simp only [Act.put, List.setIfInBounds_toArray, List.set_cons_zero, List.set_cons_succ]
          refine notS (i := 15) rfl (by kernel_rfl) (by kernel_rfl) (by kernel_rfl) (fun _ _ _ h => h) (by rfl) hHeld ?_
          try simp only [Act.put, List.setIfInBounds_toArray, List.set_cons_zero, List.set_cons_succ]
          refine notS (i := 16) rfl (by kernel_rfl) (by kernel_rfl) (by kernel_rfl) (fun _ _ _ h => h) (by rfl) hHeld ?_
          try simp only [Act.put, List.setIfInBounds_toArray, List.set_cons_zero, List.set_cons_succ]
          refine notS (i := 17) rfl (by kernel_rfl) (by kernel_rfl) (by kernel_rfl) (fun _ _ _ h => h) (by rfl) hHeld ?_
          try simp only [Act.put, List.setIfInBounds_toArray, List.set_cons_zero, List.set_cons_succ]
          refine notS (i := 18) rfl (by kernel_rfl) (by kernel_rfl) (by kernel_rfl) (fun _ _ _ h => h) (by rfl) hHeld ?_
          try simp only [Act.put, List.setIfInBounds_toArray, List.set_cons_zero, List.set_cons_succ]
          refine takeS (i := 19) (v := ?_) rfl (by kernel_rfl) (by kernel_rfl) (by kernel_rfl) (fun _ _ _ h => h) (by rfl) (fun wS hSw => ?_) hHeld ?_
          rotate_left
          · go_simp; try with_reducible rfl
          try simp only [Act.put, List.setIfInBounds_toArray, List.set_cons_zero, List.set_cons_succ]
          refine wpAnyH_done (by kernel_rfl) ?_ _
          have HH := Lib.hid hHeld
          clear hHeld
          go_wp2_with fail
          go_ret
          exact AgQ.no HG.out (HR.out.2.2.trans (HH.out.mono HR.out.2.2.size))
        · obtain ⟨y, hy⟩ : ∃ y, o[q]? = some y := ⟨_, List.getElem?_eq_getElem (by rw [HL'.out]; omega)⟩
          obtain ⟨b', u', rfl, -, hc'⟩ := HX.out.2 (by omega)
          have hcy := hc' q y.cells (by simp [hy])
          obtain ⟨kd', id', vl'⟩ := y
          have hbr := HR.out.2.2
          have on : ∀ {p : Addr} {v : Value}, w.cell? p = some v → wr.cell? p = some v := fun {p v} h => (hbr.cell (World.block_lt_of_cell? _ _ h)).trans h
          have d0 : wr.cell? ⟨b', u' + q * 3, none⟩ = some (.int .i64 kd') := on (by simpa using hcy 0 _ rfl)
          have d1 : wr.cell? ⟨b', u' + q * 3 + 1, none⟩ = some (.int .i64 id') := on (by simpa [Nat.add_assoc] using hcy 1 _ rfl)
          have d2 : wr.cell? ⟨b', u' + q * 3 + 2, none⟩ = some (.int .i64 vl') := on (by simpa [Nat.add_assoc] using hcy 2 _ rfl)
          have j1 : (0 : Int) ≤ (q : Int) := by omega
          have j2 : (q : Int) < (n' : Int) := by omega
          have heq := fun w => eq3 w kd' id' vl' kd id vl
          have hgd := Tryz.guard3
          have HY := Lib.hid hy
          clear hc' hcy hbr on hy
          by_cases p2 : kd' = kd ∧ id' = id ∧ vl' = vl
          · rw [show decide (kd' = kd ∧ id' = id ∧ vl' = vl) = true from decide_eq_true p2] at heq
            have HG := Lib.hid (show goodS o ⟨lf, q, kd, id, vl⟩ from ⟨j1, by rw [show ((q : Int)).toNat = q by omega]; rw [← p2.1, ← p2.2.1, ← p2.2.2]; exact HY.out⟩)
            clear p2
            go_wp2_with fail
            refine wp_region_held_drew (S := (fun w' => Below wr.heap.size wr w')) (by kernel_rfl) (Below.refl _ _).drew (fun hHeld => ?_)
            refine takeS (i := 0) (v := ?_) rfl (by kernel_rfl) (by kernel_rfl) (by kernel_rfl) (fun _ _ _ h => h) (by rfl) (fun wS hSw => ?_) hHeld ?_
            rotate_left
            · go_simp; try with_reducible rfl
            try simp only [Act.put, List.setIfInBounds_toArray, List.set_cons_zero, List.set_cons_succ]
            refine takeS (i := 1) (v := .bool false) rfl (by kernel_rfl) (by kernel_rfl) (by kernel_rfl) (fun _ _ _ h => h) (by rfl) (fun wS hSw => ?_) hHeld ?_
            · first | (go_simp; done) | (go_simp; omega) | (go_simp; simp; omega)
            try simp only [Act.put, List.setIfInBounds_toArray, List.set_cons_zero, List.set_cons_succ]
            refine takeS (i := 2) (v := ?_) rfl (by kernel_rfl) (by kernel_rfl) (by kernel_rfl) (fun _ _ _ h => h) (by rfl) (fun wS hSw => ?_) hHeld ?_
            rotate_left
            · go_simp; try with_reducible rfl
            try simp only [Act.put, List.setIfInBounds_toArray, List.set_cons_zero, List.set_cons_succ]
            refine takeS (i := 3) (v := ?_) rfl (by kernel_rfl) (by kernel_rfl) (by kernel_rfl) (fun _ _ _ h => h) (by rfl) (fun wS hSw => ?_) hHeld ?_
            rotate_left
            · go_simp; try with_reducible rfl
            try simp only [Act.put, List.setIfInBounds_toArray, List.set_cons_zero, List.set_cons_succ]
            refine takeS (i := 4) (v := ?_) rfl (by kernel_rfl) (by kernel_rfl) (by kernel_rfl) (fun _ _ _ h => h) (by rfl) (fun wS hSw => ?_) hHeld ?_
            rotate_left
            · go_simp; try with_reducible rfl
            try simp only [Act.put, List.setIfInBounds_toArray, List.set_cons_zero, List.set_cons_succ]
            refine takeS (i := 5) (v := ?_) rfl (by kernel_rfl) (by kernel_rfl) (by kernel_rfl) (fun _ _ _ h => h) (by rfl) (fun wS hSw => ?_) hHeld ?_
            rotate_left
            · go_simp; try with_reducible rfl
            try simp only [Act.put, List.setIfInBounds_toArray, List.set_cons_zero, List.set_cons_succ]
            refine takeS (i := 6) (v := .bool false) rfl (by kernel_rfl) (by kernel_rfl) (by kernel_rfl) (fun _ _ _ h => h) (by rfl) (fun wS hSw => ?_) hHeld ?_
            · first | (go_simp; done) | (go_simp; omega) | (go_simp; simp; omega)
            try simp only [Act.put, List.setIfInBounds_toArray, List.set_cons_zero, List.set_cons_succ]
            refine takeS (i := 7) (v := ?_) rfl (by kernel_rfl) (by kernel_rfl) (by kernel_rfl) (fun _ _ _ h => h) (by rfl) (fun wS hSw => ?_) hHeld ?_
            rotate_left
            · go_simp; try with_reducible rfl
            try simp only [Act.put, List.setIfInBounds_toArray, List.set_cons_zero, List.set_cons_succ]
            refine takeS (i := 8) (v := ?_) rfl (by kernel_rfl) (by kernel_rfl) (by kernel_rfl) (fun _ _ _ h => h) (by rfl) (fun wS hSw => ?_) hHeld ?_
            rotate_left
            · go_simp; try with_reducible rfl
            try simp only [Act.put, List.setIfInBounds_toArray, List.set_cons_zero, List.set_cons_succ]
            refine takeS (i := 9) (v := ?_) rfl (by kernel_rfl) (by kernel_rfl) (by kernel_rfl) (fun _ _ _ h => h) (by rfl) (fun wS hSw => ?_) hHeld ?_
            rotate_left
            · go_simp; try with_reducible rfl
            try simp only [Act.put, List.setIfInBounds_toArray, List.set_cons_zero, List.set_cons_succ]
            refine takeS (i := 10) (v := ?_) rfl (by kernel_rfl) (by kernel_rfl) (by kernel_rfl) (fun _ _ _ h => h) (by rfl) (fun wS hSw => ?_) hHeld ?_
            rotate_left
            · go_simp; try with_reducible rfl
            try simp only [Act.put, List.setIfInBounds_toArray, List.set_cons_zero, List.set_cons_succ]
            refine takeS (i := 11) (v := ?_) rfl (by kernel_rfl) (by kernel_rfl) (by kernel_rfl) (fun _ _ _ h => h) (by rfl) (fun wS hSw => ?_) hHeld ?_
            rotate_left
            · go_simp; try with_reducible rfl
            try simp only [Act.put, List.setIfInBounds_toArray, List.set_cons_zero, List.set_cons_succ]
            refine takeS (i := 12) (v := ?_) rfl (by kernel_rfl) (by kernel_rfl) (by kernel_rfl) (fun _ _ _ h => h) (by rfl) (fun wS hSw => ?_) hHeld ?_
            rotate_left
            · have y0 := (hSw.cell (World.block_lt_of_cell? _ _ d0)).trans d0; have y1 := (hSw.cell (World.block_lt_of_cell? _ _ d1)).trans d1; have y2 := (hSw.cell (World.block_lt_of_cell? _ _ d2)).trans d2; go_simp; try with_reducible rfl
            try simp only [Act.put, List.setIfInBounds_toArray, List.set_cons_zero, List.set_cons_succ]
            refine takeS (i := 13) (v := ?_) rfl (by kernel_rfl) (by kernel_rfl) (by kernel_rfl) (fun _ _ _ h => h) (by rfl) (fun wS hSw => ?_) hHeld ?_
            rotate_left
            · go_simp; try with_reducible rfl
            try simp only [Act.put, List.setIfInBounds_toArray, List.set_cons_zero, List.set_cons_succ]
            refine takeS (i := 14) (v := ?_) rfl (by kernel_rfl) (by kernel_rfl) (by kernel_rfl) (fun _ _ _ h => h) (by rfl) (fun wS hSw => ?_) hHeld ?_
            rotate_left
            · go_simp; try with_reducible rfl
            try simp only [Act.put, List.setIfInBounds_toArray, List.set_cons_zero, List.set_cons_succ]
            refine takeS (i := 15) (v := ?_) rfl (by kernel_rfl) (by kernel_rfl) (by kernel_rfl) (fun _ _ _ h => h) (by rfl) (fun wS hSw => ?_) hHeld ?_
            rotate_left
            · go_simp; try with_reducible rfl
            try simp only [Act.put, List.setIfInBounds_toArray, List.set_cons_zero, List.set_cons_succ]
            refine takeS (i := 16) (v := ?_) rfl (by kernel_rfl) (by kernel_rfl) (by kernel_rfl) (fun _ _ _ h => h) (by rfl) (fun wS hSw => ?_) hHeld ?_
            rotate_left
            · go_simp; try with_reducible rfl
            try simp only [Act.put, List.setIfInBounds_toArray, List.set_cons_zero, List.set_cons_succ]
            refine takeS (i := 17) (v := ?_) rfl (by kernel_rfl) (by kernel_rfl) (by kernel_rfl) (fun _ _ _ h => h) (by rfl) (fun wS hSw => ?_) hHeld ?_
            rotate_left
            · have y2 := (hSw.cell (World.block_lt_of_cell? _ _ c2)).trans c2; have y3 := (hSw.cell (World.block_lt_of_cell? _ _ c3)).trans c3; have y4 := (hSw.cell (World.block_lt_of_cell? _ _ c4)).trans c4; go_simp; try with_reducible rfl
            try simp only [Act.put, List.setIfInBounds_toArray, List.set_cons_zero, List.set_cons_succ]
            refine wpAnyH_ready (rs := [18]) (by kernel_rfl) (by simp) (consS (i := 18) rfl (fun K hK => ?_) AllReadyH.nil)
            have heqw := heq
            go_simp
            refine hK.out _ _ (hHeld) (fun hHeld2 => ?_)
            clear hK K hHeld heqw
            have hHeld := hHeld2
            clear hHeld2
            try simp only [Act.put, List.setIfInBounds_toArray, List.set_cons_zero, List.set_cons_succ]
            refine takeS (i := 19) (v := ?_) rfl (by kernel_rfl) (by kernel_rfl) (by kernel_rfl) (fun _ _ _ h => h) (by rfl) (fun wS hSw => ?_) hHeld ?_
            rotate_left
            · go_simp; try with_reducible rfl
            try simp only [Act.put, List.setIfInBounds_toArray, List.set_cons_zero, List.set_cons_succ]
            refine wpAnyH_done (by kernel_rfl) ?_ _
            have HH := Lib.hid hHeld
            clear hHeld
            go_wp2_with fail
            go_roundw
            case rel => exact ⟨k + 1, by omega, by go_num, takeS_all HR.out.2.1 HR.out.1 HG.out, HR.out.2.2.trans (HH.out.mono HR.out.2.2.size)⟩
            case measure => simp [intOf]; omega
          · rw [show decide (kd' = kd ∧ id' = id ∧ vl' = vl) = false from decide_eq_false p2] at heq
            have HG := Lib.hid (show ¬ agP s o from fun h => p2 (by
              have := (h _ (List.mem_of_getElem? HR.out.1)).2
              rw [show (SF.mk lf q kd id vl).place.toNat = q by show ((q : Int)).toNat = q; omega, HY.out] at this
              injection this with this
              injection this with e1 e2 e3
              exact ⟨e1, e2, e3⟩))
            clear p2
            go_wp2_with fail
            refine wp_region_held_drew (S := (fun w' => Below wr.heap.size wr w')) (by kernel_rfl) (Below.refl _ _).drew (fun hHeld => ?_)
            refine takeS (i := 0) (v := ?_) rfl (by kernel_rfl) (by kernel_rfl) (by kernel_rfl) (fun _ _ _ h => h) (by rfl) (fun wS hSw => ?_) hHeld ?_
            rotate_left
            · go_simp; try with_reducible rfl
            try simp only [Act.put, List.setIfInBounds_toArray, List.set_cons_zero, List.set_cons_succ]
            refine takeS (i := 1) (v := .bool false) rfl (by kernel_rfl) (by kernel_rfl) (by kernel_rfl) (fun _ _ _ h => h) (by rfl) (fun wS hSw => ?_) hHeld ?_
            · first | (go_simp; done) | (go_simp; omega) | (go_simp; simp; omega)
            try simp only [Act.put, List.setIfInBounds_toArray, List.set_cons_zero, List.set_cons_succ]
            refine takeS (i := 2) (v := ?_) rfl (by kernel_rfl) (by kernel_rfl) (by kernel_rfl) (fun _ _ _ h => h) (by rfl) (fun wS hSw => ?_) hHeld ?_
            rotate_left
            · go_simp; try with_reducible rfl
            try simp only [Act.put, List.setIfInBounds_toArray, List.set_cons_zero, List.set_cons_succ]
            refine takeS (i := 3) (v := ?_) rfl (by kernel_rfl) (by kernel_rfl) (by kernel_rfl) (fun _ _ _ h => h) (by rfl) (fun wS hSw => ?_) hHeld ?_
            rotate_left
            · go_simp; try with_reducible rfl
            try simp only [Act.put, List.setIfInBounds_toArray, List.set_cons_zero, List.set_cons_succ]
            refine takeS (i := 4) (v := ?_) rfl (by kernel_rfl) (by kernel_rfl) (by kernel_rfl) (fun _ _ _ h => h) (by rfl) (fun wS hSw => ?_) hHeld ?_
            rotate_left
            · go_simp; try with_reducible rfl
            try simp only [Act.put, List.setIfInBounds_toArray, List.set_cons_zero, List.set_cons_succ]
            refine takeS (i := 5) (v := ?_) rfl (by kernel_rfl) (by kernel_rfl) (by kernel_rfl) (fun _ _ _ h => h) (by rfl) (fun wS hSw => ?_) hHeld ?_
            rotate_left
            · go_simp; try with_reducible rfl
            try simp only [Act.put, List.setIfInBounds_toArray, List.set_cons_zero, List.set_cons_succ]
            refine takeS (i := 6) (v := .bool false) rfl (by kernel_rfl) (by kernel_rfl) (by kernel_rfl) (fun _ _ _ h => h) (by rfl) (fun wS hSw => ?_) hHeld ?_
            · first | (go_simp; done) | (go_simp; omega) | (go_simp; simp; omega)
            try simp only [Act.put, List.setIfInBounds_toArray, List.set_cons_zero, List.set_cons_succ]
            refine takeS (i := 7) (v := ?_) rfl (by kernel_rfl) (by kernel_rfl) (by kernel_rfl) (fun _ _ _ h => h) (by rfl) (fun wS hSw => ?_) hHeld ?_
            rotate_left
            · go_simp; try with_reducible rfl
            try simp only [Act.put, List.setIfInBounds_toArray, List.set_cons_zero, List.set_cons_succ]
            refine takeS (i := 8) (v := ?_) rfl (by kernel_rfl) (by kernel_rfl) (by kernel_rfl) (fun _ _ _ h => h) (by rfl) (fun wS hSw => ?_) hHeld ?_
            rotate_left
            · go_simp; try with_reducible rfl
            try simp only [Act.put, List.setIfInBounds_toArray, List.set_cons_zero, List.set_cons_succ]
            refine takeS (i := 9) (v := ?_) rfl (by kernel_rfl) (by kernel_rfl) (by kernel_rfl) (fun _ _ _ h => h) (by rfl) (fun wS hSw => ?_) hHeld ?_
            rotate_left
            · go_simp; try with_reducible rfl
            try simp only [Act.put, List.setIfInBounds_toArray, List.set_cons_zero, List.set_cons_succ]
            refine takeS (i := 10) (v := ?_) rfl (by kernel_rfl) (by kernel_rfl) (by kernel_rfl) (fun _ _ _ h => h) (by rfl) (fun wS hSw => ?_) hHeld ?_
            rotate_left
            · go_simp; try with_reducible rfl
            try simp only [Act.put, List.setIfInBounds_toArray, List.set_cons_zero, List.set_cons_succ]
            refine takeS (i := 11) (v := ?_) rfl (by kernel_rfl) (by kernel_rfl) (by kernel_rfl) (fun _ _ _ h => h) (by rfl) (fun wS hSw => ?_) hHeld ?_
            rotate_left
            · go_simp; try with_reducible rfl
            try simp only [Act.put, List.setIfInBounds_toArray, List.set_cons_zero, List.set_cons_succ]
            refine takeS (i := 12) (v := ?_) rfl (by kernel_rfl) (by kernel_rfl) (by kernel_rfl) (fun _ _ _ h => h) (by rfl) (fun wS hSw => ?_) hHeld ?_
            rotate_left
            · have y0 := (hSw.cell (World.block_lt_of_cell? _ _ d0)).trans d0; have y1 := (hSw.cell (World.block_lt_of_cell? _ _ d1)).trans d1; have y2 := (hSw.cell (World.block_lt_of_cell? _ _ d2)).trans d2; go_simp; try with_reducible rfl
            try simp only [Act.put, List.setIfInBounds_toArray, List.set_cons_zero, List.set_cons_succ]
            refine takeS (i := 13) (v := ?_) rfl (by kernel_rfl) (by kernel_rfl) (by kernel_rfl) (fun _ _ _ h => h) (by rfl) (fun wS hSw => ?_) hHeld ?_
            rotate_left
            · go_simp; try with_reducible rfl
            try simp only [Act.put, List.setIfInBounds_toArray, List.set_cons_zero, List.set_cons_succ]
            refine takeS (i := 14) (v := ?_) rfl (by kernel_rfl) (by kernel_rfl) (by kernel_rfl) (fun _ _ _ h => h) (by rfl) (fun wS hSw => ?_) hHeld ?_
            rotate_left
            · go_simp; try with_reducible rfl
            try simp only [Act.put, List.setIfInBounds_toArray, List.set_cons_zero, List.set_cons_succ]
            refine takeS (i := 15) (v := ?_) rfl (by kernel_rfl) (by kernel_rfl) (by kernel_rfl) (fun _ _ _ h => h) (by rfl) (fun wS hSw => ?_) hHeld ?_
            rotate_left
            · go_simp; try with_reducible rfl
            try simp only [Act.put, List.setIfInBounds_toArray, List.set_cons_zero, List.set_cons_succ]
            refine takeS (i := 16) (v := ?_) rfl (by kernel_rfl) (by kernel_rfl) (by kernel_rfl) (fun _ _ _ h => h) (by rfl) (fun wS hSw => ?_) hHeld ?_
            rotate_left
            · go_simp; try with_reducible rfl
            try simp only [Act.put, List.setIfInBounds_toArray, List.set_cons_zero, List.set_cons_succ]
            refine takeS (i := 17) (v := ?_) rfl (by kernel_rfl) (by kernel_rfl) (by kernel_rfl) (fun _ _ _ h => h) (by rfl) (fun wS hSw => ?_) hHeld ?_
            rotate_left
            · have y2 := (hSw.cell (World.block_lt_of_cell? _ _ c2)).trans c2; have y3 := (hSw.cell (World.block_lt_of_cell? _ _ c3)).trans c3; have y4 := (hSw.cell (World.block_lt_of_cell? _ _ c4)).trans c4; go_simp; try with_reducible rfl
            try simp only [Act.put, List.setIfInBounds_toArray, List.set_cons_zero, List.set_cons_succ]
            refine wpAnyH_ready (rs := [18]) (by kernel_rfl) (by simp) (consS (i := 18) rfl (fun K hK => ?_) AllReadyH.nil)
            have heqw := heq
            go_simp
            refine hK.out _ _ (hHeld) (fun hHeld2 => ?_)
            clear hK K hHeld heqw
            have hHeld := hHeld2
            clear hHeld2
            try simp only [Act.put, List.setIfInBounds_toArray, List.set_cons_zero, List.set_cons_succ]
            refine takeS (i := 19) (v := ?_) rfl (by kernel_rfl) (by kernel_rfl) (by kernel_rfl) (fun _ _ _ h => h) (by rfl) (fun wS hSw => ?_) hHeld ?_
            rotate_left
            · go_simp; try with_reducible rfl
            try simp only [Act.put, List.setIfInBounds_toArray, List.set_cons_zero, List.set_cons_succ]
            refine wpAnyH_done (by kernel_rfl) ?_ _
            have HH := Lib.hid hHeld
            clear hHeld
            go_wp2_with fail
            go_ret
            exact AgQ.no HG.out (HR.out.2.2.trans (HH.out.mono HR.out.2.2.size))
    · obtain rfl : k = n := by omega
      have HR := Lib.hid (And.intro hok hbr)
      clear hok hbr
      go_wp2_with fail
      go_ret
      exact AgQ.yes (by have := HR.out.1; rw [← HL.out, List.take_length] at this; exact this) HR.out.2

set_option maxRecDepth 100000 in
set_option maxHeartbeats 8000000 in
theorem ragree_law (w : World) (sv ov : Value) (s : List SF) (o : List OF) (hs : RdK 5 w (fun _ => True) sv (s.map SF.cells)) (ho : RdK 3 w (fun _ => True) ov (o.map OF.cells)) :
    Calls Tryz.prog 6 #[sv, ov] w fun e w' => e = .returned (.bool true) ∧ Below w.heap.size w w' := by
  have hs' := hs
  have ho' := ho
  obtain ⟨A, n, c, rfl, hl, hnc, hcm, hx⟩ := hs'
  obtain ⟨A', n', c', rfl, hl', hnc', hcm', hx'⟩ := ho'
  have HL := Lib.hid (show s.length = n by simpa using hl)
  have HL' := Lib.hid (show o.length = n' by simpa using hl')
  have HX := Lib.hid (And.intro hx hx')
  have HR0 := Lib.hid (And.intro hs ho)
  obtain ⟨i4, hi4, ha0, ha1, ha2⟩ := info_parts Tryz.info94
  obtain ⟨i3, hi3, hb0, hb1, hb2⟩ := info_parts Tryz.info92
  have HI := Lib.hid (And.intro hi4 hi3)
  clear hx hx' hl hl' hnc hnc' hcm hcm' hs ho hi4 hi3
  go_enter Tryz.func6, Tryz.ntmps6
  by_cases g1 : (30 : Int) < (n : Int)
  · skip
    go_wp2_with fail
    refine (awake20_ok w).mono ?_
    rintro e wz ⟨rfl, hbz⟩
    have HZ := Lib.hid (((Below.refl w.heap.size w)).trans (hbz.mono ((Below.refl w.heap.size w)).size))
    clear hbz
    go_wp2_with fail
    go_ret
    exact ⟨rfl, HZ.out⟩
  by_cases g2 : (30 : Int) < (n' : Int)
  · skip
    go_wp2_with fail
    refine (awake20_ok w).mono ?_
    rintro e wz ⟨rfl, hbz⟩
    have HZ := Lib.hid (((Below.refl w.heap.size w)).trans (hbz.mono ((Below.refl w.heap.size w)).size))
    clear hbz
    go_wp2_with fail
    go_ret
    exact ⟨rfl, HZ.out⟩
  have n30 : n ≤ 30 := by omega
  have n30' : n' ≤ 30 := by omega
  go_wp2_with fail
  clear g1 g2
  go_loopw [5, 7] (fun z i wr => ∃ k : Nat, k ≤ n ∧ i = .int .i64 (k : Int) ∧ wr.ownsRow w.heap.size 94 4 z k ((s.take k).map SF.cells4).flatten ∧ Below w.heap.size w wr) (fun _ i _ => n - (intOf i).toNat)
  case atStart => exact ⟨0, Nat.zero_le _, rfl, World.ownsRow_nil _ _ _ _, Below.refl _ _⟩
  case round =>
    obtain ⟨k, hk, rfl, hown, hbl⟩ := hrel
    obtain ⟨Az, cz, rfl⟩ := ownsRow_slice hown
    by_cases hlt : k < n
    · obtain ⟨x, hxk⟩ : ∃ x, s[k]? = some x := ⟨_, List.getElem?_eq_getElem (by rw [HL.out]; exact hlt)⟩
      obtain ⟨b, u, rfl, -, hc⟩ := HX.out.1 (by omega)
      have hcx := hc k x.cells (by simp [hxk])
      obtain ⟨lf, pl, kd, id, vl⟩ := x
      have on : ∀ {p : Addr} {v : Value}, w.cell? p = some v → wr.cell? p = some v := fun {p v} h => (hbl.cell (World.block_lt_of_cell? _ _ h)).trans h
      have c1 : wr.cell? ⟨b, u + k * 5 + 1, none⟩ = some (.int .i64 pl) := on (by simpa [Nat.add_assoc] using hcx 1 _ rfl)
      have c2 : wr.cell? ⟨b, u + k * 5 + 2, none⟩ = some (.int .i64 kd) := on (by simpa [Nat.add_assoc] using hcx 2 _ rfl)
      have c3 : wr.cell? ⟨b, u + k * 5 + 3, none⟩ = some (.int .i64 id) := on (by simpa [Nat.add_assoc] using hcx 3 _ rfl)
      have c4 : wr.cell? ⟨b, u + k * 5 + 4, none⟩ = some (.int .i64 vl) := on (by simpa [Nat.add_assoc] using hcx 4 _ rfl)
      have i1 : (0 : Int) ≤ (k : Int) := by omega
      have i2 : (k : Int) < (n : Int) := by omega
      have hx8 := new_box wr (.cells #[.int .i64 kd, .int .i64 id, .int .i64 vl] 35)
      have k8 := heap_alloc_new wr (.cells #[.int .i64 kd, .int .i64 id, .int .i64 vl] 35)
      have hown8 := hown.alloc (.cells #[.int .i64 kd, .int .i64 id, .int .i64 vl] 35)
      have cw1 : w.cell? ⟨b, u + k * 5 + 1, none⟩ = some (.int .i64 pl) := by simpa [Nat.add_assoc] using hcx 1 _ rfl
      have hnD : ∀ j, (Value.slice Az k cz).ownBlock = some j → j < wr.heap.size := fun j hj => (hown.lt j hj).2
      have hb8 := hbl.trans (hx8.mono hbl.size)
      have hsn := seen_snoc hxk
      clear hc hcx on hxk hown hbl
      go_upto_region 9 with fail
      generalize wr.alloc (.cells #[.int .i64 kd, .int .i64 id, .int .i64 vl] 35) = w8 at hx8 k8 hown8 hb8 ⊢
      generalize wr.heap.size = D at k8 hnD ⊢
      have hsz := hb8.size
      have hown9 := hown8.alloc (.cells #[.int .i64 pl, .int .i64 kd, .int .i64 id, .int .i64 vl] 94)
      have hnews := World.news_of_block (heap_alloc_new w8 (.cells #[.int .i64 pl, .int .i64 kd, .int .i64 id, .int .i64 vl] 94))
      have HX9 := Lib.hid (And.intro hown9 (And.intro hnews (And.intro hb8 hsn)))
      have HC := Lib.hid (And.intro cw1 (And.intro k8 hnD))
      clear hx8 k8 hown8 hown9 hnews c1 c2 c3 c4 cw1 hnD hsn hb8
      refine wp_region_held_drew (S := (fun w' => Below w.heap.size w w' ∧ w'.heap[D]? = some (.cells #[.int .i64 kd, .int .i64 id, .int .i64 vl] 35 (0, 0)))) (by kernel_rfl) ⟨HX9.out.2.2.1.drew, HC.out.2.1⟩ (fun hHeld => ?_)
      refine takeS (i := 0) (v := ?_) rfl (by kernel_rfl) (by kernel_rfl) (by kernel_rfl) (fun _ _ _ h => h) (by rfl) (fun w hSw => ?_) hHeld ?_
      rotate_left
      · obtain ⟨s0, s1⟩ := hSw; go_simp; try with_reducible rfl
      try simp only [Act.put, List.setIfInBounds_toArray, List.set_cons_zero, List.set_cons_succ]
      refine takeS (i := 1) (v := ?_) rfl (by kernel_rfl) (by kernel_rfl) (by kernel_rfl) (fun _ _ _ h => h) (by rfl) (fun w hSw => ?_) hHeld ?_
      rotate_left
      · obtain ⟨s0, s1⟩ := hSw; go_simp; try with_reducible rfl
      try simp only [Act.put, List.setIfInBounds_toArray, List.set_cons_zero, List.set_cons_succ]
      refine takeS (i := 2) (v := ?_) rfl (by kernel_rfl) (by kernel_rfl) (by kernel_rfl) (fun _ _ _ h => h) (by rfl) (fun w hSw => ?_) hHeld ?_
      rotate_left
      · obtain ⟨s0, s1⟩ := hSw; go_simp; try with_reducible rfl
      try simp only [Act.put, List.setIfInBounds_toArray, List.set_cons_zero, List.set_cons_succ]
      refine takeS (i := 3) (v := ?_) rfl (by kernel_rfl) (by kernel_rfl) (by kernel_rfl) (fun _ _ _ h => h) (by rfl) (fun w hSw => ?_) hHeld ?_
      rotate_left
      · obtain ⟨s0, s1⟩ := hSw; go_simp; try with_reducible rfl
      try simp only [Act.put, List.setIfInBounds_toArray, List.set_cons_zero, List.set_cons_succ]
      refine takeS (i := 4) (v := ?_) rfl (by kernel_rfl) (by kernel_rfl) (by kernel_rfl) (fun _ _ _ h => h) (by rfl) (fun w hSw => ?_) hHeld ?_
      rotate_left
      · obtain ⟨s0, s1⟩ := hSw; go_simp; try with_reducible rfl
      try simp only [Act.put, List.setIfInBounds_toArray, List.set_cons_zero, List.set_cons_succ]
      refine takeS (i := 5) (v := ?_) rfl (by kernel_rfl) (by kernel_rfl) (by kernel_rfl) (fun _ _ _ h => h) (by rfl) (fun w hSw => ?_) hHeld ?_
      rotate_left
      · obtain ⟨s0, s1⟩ := hSw; have z9 := (s0.cell (World.block_lt_of_cell? _ _ HC.out.1)).trans HC.out.1; go_simp; try with_reducible rfl
      try simp only [Act.put, List.setIfInBounds_toArray, List.set_cons_zero, List.set_cons_succ]
      refine takeS (i := 6) (v := ?_) rfl (by kernel_rfl) (by kernel_rfl) (by kernel_rfl) (fun _ _ _ h => h) (by rfl) (fun w hSw => ?_) hHeld ?_
      rotate_left
      · obtain ⟨s0, s1⟩ := hSw; go_simp; try with_reducible rfl
      try simp only [Act.put, List.setIfInBounds_toArray, List.set_cons_zero, List.set_cons_succ]
      refine takeS (i := 7) (v := ?_) rfl (by kernel_rfl) (by kernel_rfl) (by kernel_rfl) (fun _ _ _ h => h) (by rfl) (fun w hSw => ?_) hHeld ?_
      rotate_left
      · obtain ⟨s0, s1⟩ := hSw; obtain ⟨q0, q1, q2⟩ := treO_cells s1; go_simp; try with_reducible rfl
      try simp only [Act.put, List.setIfInBounds_toArray, List.set_cons_zero, List.set_cons_succ]
      refine takeS (i := 8) (v := ?_) rfl (by kernel_rfl) (by kernel_rfl) (by kernel_rfl) (fun _ _ _ h => h) (by rfl) (fun w hSw => ?_) hHeld ?_
      rotate_left
      · obtain ⟨s0, s1⟩ := hSw; go_simp; try with_reducible rfl
      try simp only [Act.put, List.setIfInBounds_toArray, List.set_cons_zero, List.set_cons_succ]
      refine takeS (i := 9) (v := ?_) rfl (by kernel_rfl) (by kernel_rfl) (by kernel_rfl) (fun _ _ _ h => h) (by rfl) (fun w hSw => ?_) hHeld ?_
      rotate_left
      · obtain ⟨s0, s1⟩ := hSw; obtain ⟨q0, q1, q2⟩ := treO_cells s1; go_simp; try with_reducible rfl
      try simp only [Act.put, List.setIfInBounds_toArray, List.set_cons_zero, List.set_cons_succ]
      refine takeS (i := 10) (v := ?_) rfl (by kernel_rfl) (by kernel_rfl) (by kernel_rfl) (fun _ _ _ h => h) (by rfl) (fun w hSw => ?_) hHeld ?_
      rotate_left
      · obtain ⟨s0, s1⟩ := hSw; go_simp; try with_reducible rfl
      try simp only [Act.put, List.setIfInBounds_toArray, List.set_cons_zero, List.set_cons_succ]
      refine takeS (i := 11) (v := ?_) rfl (by kernel_rfl) (by kernel_rfl) (by kernel_rfl) (fun _ _ _ h => h) (by rfl) (fun w hSw => ?_) hHeld ?_
      rotate_left
      · obtain ⟨s0, s1⟩ := hSw; obtain ⟨q0, q1, q2⟩ := treO_cells s1; go_simp; try with_reducible rfl
      try simp only [Act.put, List.setIfInBounds_toArray, List.set_cons_zero, List.set_cons_succ]
      refine takeS (i := 12) (v := ?_) rfl (by kernel_rfl) (by kernel_rfl) (by kernel_rfl) (fun _ _ _ h => h) (by rfl) (fun w hSw => ?_) hHeld ?_
      rotate_left
      · obtain ⟨s0, s1⟩ := hSw; go_simp; try with_reducible rfl
      try simp only [Act.put, List.setIfInBounds_toArray, List.set_cons_zero, List.set_cons_succ]
      refine takeS (i := 13) (v := ?_) rfl (by kernel_rfl) (by kernel_rfl) (by kernel_rfl) (fun _ _ _ h => h) (by rfl) (fun w hSw => ?_) hHeld ?_
      rotate_left
      · obtain ⟨s0, s1⟩ := hSw; go_simp; try with_reducible rfl
      try simp only [Act.put, List.setIfInBounds_toArray, List.set_cons_zero, List.set_cons_succ]
      refine wpAnyH_ready (rs := [14]) (by kernel_rfl) (by simp) (consS (i := 14) rfl (fun K hK => ?_) AllReadyH.nil)
      go_simp
      refine hK.out _ _ (⟨HX9.out.2.2.1.drew.alloc hsz _, (Only.of_below (new_box _ _) (fun _ => False)).heap hHeld.2 (fun h => h)⟩) (fun hHeld2 => ?_)
      clear hK K hHeld
      have hHeld := hHeld2
      clear hHeld2
      try simp only [Act.put, List.setIfInBounds_toArray, List.set_cons_zero, List.set_cons_succ]
      refine wpAnyH_ready (rs := [15]) (by kernel_rfl) (by simp) (consS (i := 15) rfl (fun K hK => ?_) AllReadyH.nil)
      (refine step_append_lies _ (by rfl) _ _ 88 (by rfl) w.heap.size 94 i4 _ 4 32 Tryz.underlying88 HI.out.1 ha0 ha1 ha2 (by rfl) (by decide) (.slice Az k cz) k _ (by rfl) HX9.out.1 ⟨w8.heap.size, 0, none⟩ 1 1 [.int .i64 pl, .int .i64 kd, .int .i64 id, .int .i64 vl] (by rfl) (by rfl) HX9.out.2.1 (by simp [Value.oneCell']) (by decide) (by unfold maxLen; omega) (by omega) (by simp; omega) (w8.heap.size + 1) (by simp) ?_)
      intro g3 cap3 wA hown3 hgrow3 hat3 hlt3
      refine hK.out _ _ (⟨((HX9.out.2.2.1.alloc hsz _).drew).grown hgrow3 (by simp; omega) (fun j hj => (HX9.out.1.lt j hj).1), (hgrow3.block D (Array.getElem?_eq_some_iff.1 hHeld.2).1 (fun e => absurd (HC.out.2.2 D e.symm) (Nat.lt_irrefl _))).trans hHeld.2⟩) (fun hHeld2 => ?_)
      clear hK K hHeld
      have hHeld := hHeld2
      clear hHeld2
      try simp only [Act.put, List.setIfInBounds_toArray, List.set_cons_zero, List.set_cons_succ]
      refine takeS (i := 16) (v := ?_) rfl (by kernel_rfl) (by kernel_rfl) (by kernel_rfl) (fun _ _ _ h => h) (by rfl) (fun w hSw => ?_) hHeld ?_
      rotate_left
      · obtain ⟨s0, s1⟩ := hSw; go_simp; try with_reducible rfl
      try simp only [Act.put, List.setIfInBounds_toArray, List.set_cons_zero, List.set_cons_succ]
      refine wpAnyH_done (by kernel_rfl) ?_ _
      have HG := Lib.hid (And.intro hown3 hHeld)
      clear hown3 hgrow3 hat3 hHeld
      go_wp2_with fail
      go_roundw
      case rel => exact ⟨k + 1, by omega, by go_num, by rw [HX9.out.2.2.2]; exact HG.out.1, HG.out.2.1⟩
      case measure => simp [intOf]; omega
    · obtain rfl : k = n := by omega
      have hrd : RdK 4 wr (fun _ => True) (.slice Az k cz) (s.map SF.cells4) := by
        have h1 := hown
        rw [← HL.out, List.take_length] at h1
        have := RdK.of_own (F := fun _ => True) (v := .slice Az s.length cz) (xs := s.map SF.cells4) h1 (fun x hx => by simp at hx; obtain ⟨y, _, rfl⟩ := hx; rfl) (by decide) (fun _ _ => trivial)
        rw [HL.out] at this
        exact this
      have HS := Lib.hid (And.intro hrd hbl)
      clear hown hbl hrd
      go_wp2_with fail
      rename World => w2
      go_loopw [6, 9] (fun z i wr => ∃ j : Nat, j ≤ n' ∧ i = .int .i64 (j : Int) ∧ wr.ownsRow w2.heap.size 92 3 z j ((o.take j).map OF.cells).flatten ∧ Below w2.heap.size w2 wr) (fun _ i _ => n' - (intOf i).toNat)
      case atStart => exact ⟨0, Nat.zero_le _, rfl, World.ownsRow_nil _ _ _ _, Below.refl _ _⟩
      case round =>
        obtain ⟨j, hj, rfl, hown, hbl⟩ := hrel
        obtain ⟨Ay, cy, rfl⟩ := ownsRow_slice hown
        by_cases hlt : j < n'
        · obtain ⟨y, hy⟩ : ∃ y, o[j]? = some y := ⟨_, List.getElem?_eq_getElem (by rw [HL'.out]; exact hlt)⟩
          obtain ⟨b', u', rfl, -, hc'⟩ := HX.out.2 (by omega)
          have hcy := hc' j y.cells (by simp [hy])
          obtain ⟨kd, id, vl⟩ := y
          have hbw := HS.out.2.trans (hbl.mono HS.out.2.size)
          have on : ∀ {p : Addr} {v : Value}, w.cell? p = some v → wr.cell? p = some v := fun {p v} h => (hbw.cell (World.block_lt_of_cell? _ _ h)).trans h
          have c0 : wr.cell? ⟨b', u' + j * 3, none⟩ = some (.int .i64 kd) := on (by simpa using hcy 0 _ rfl)
          have c1 : wr.cell? ⟨b', u' + j * 3 + 1, none⟩ = some (.int .i64 id) := on (by simpa [Nat.add_assoc] using hcy 1 _ rfl)
          have c2 : wr.cell? ⟨b', u' + j * 3 + 2, none⟩ = some (.int .i64 vl) := on (by simpa [Nat.add_assoc] using hcy 2 _ rfl)
          have e0 : w.cell? ⟨b', u' + j * 3, none⟩ = some (.int .i64 kd) := by simpa using hcy 0 _ rfl
          have e1 : w.cell? ⟨b', u' + j * 3 + 1, none⟩ = some (.int .i64 id) := by simpa [Nat.add_assoc] using hcy 1 _ rfl
          have e2 : w.cell? ⟨b', u' + j * 3 + 2, none⟩ = some (.int .i64 vl) := by simpa [Nat.add_assoc] using hcy 2 _ rfl
          have i1 : (0 : Int) ≤ (j : Int) := by omega
          have i2 : (j : Int) < (n' : Int) := by omega
          have hsz := hbl.size
          have hown9 := hown.alloc (.cells #[.int .i64 kd, .int .i64 id, .int .i64 vl] 92)
          have hnews := World.news_of_block (heap_alloc_new wr (.cells #[.int .i64 kd, .int .i64 id, .int .i64 vl] 92))
          have hsn := out_snoc hy
          have HX9 := Lib.hid (And.intro hown9 (And.intro hnews (And.intro hbl hsn)))
          have HC := Lib.hid (And.intro e0 (And.intro e1 e2))
          clear hc' hcy on hy hown hbl hown9 hnews c0 c1 c2 e0 e1 e2 hsn hbw
          go_upto_region 13 with fail
          refine wp_region_held_drew (S := (fun w' => Below w2.heap.size w2 w')) (by kernel_rfl) HX9.out.2.2.1.drew (fun hHeld => ?_)
          refine takeS (i := 0) (v := ?_) rfl (by kernel_rfl) (by kernel_rfl) (by kernel_rfl) (fun _ _ _ h => h) (by rfl) (fun w hSw => ?_) hHeld ?_
          rotate_left
          · go_simp; try with_reducible rfl
          try simp only [Act.put, List.setIfInBounds_toArray, List.set_cons_zero, List.set_cons_succ]
          refine takeS (i := 1) (v := ?_) rfl (by kernel_rfl) (by kernel_rfl) (by kernel_rfl) (fun _ _ _ h => h) (by rfl) (fun w hSw => ?_) hHeld ?_
          rotate_left
          · go_simp; try with_reducible rfl
          try simp only [Act.put, List.setIfInBounds_toArray, List.set_cons_zero, List.set_cons_succ]
          refine takeS (i := 2) (v := ?_) rfl (by kernel_rfl) (by kernel_rfl) (by kernel_rfl) (fun _ _ _ h => h) (by rfl) (fun w hSw => ?_) hHeld ?_
          rotate_left
          · go_simp; try with_reducible rfl
          try simp only [Act.put, List.setIfInBounds_toArray, List.set_cons_zero, List.set_cons_succ]
          refine takeS (i := 3) (v := ?_) rfl (by kernel_rfl) (by kernel_rfl) (by kernel_rfl) (fun _ _ _ h => h) (by rfl) (fun w hSw => ?_) hHeld ?_
          rotate_left
          · go_simp; try with_reducible rfl
          try simp only [Act.put, List.setIfInBounds_toArray, List.set_cons_zero, List.set_cons_succ]
          refine takeS (i := 4) (v := ?_) rfl (by kernel_rfl) (by kernel_rfl) (by kernel_rfl) (fun _ _ _ h => h) (by rfl) (fun w hSw => ?_) hHeld ?_
          rotate_left
          · go_simp; try with_reducible rfl
          try simp only [Act.put, List.setIfInBounds_toArray, List.set_cons_zero, List.set_cons_succ]
          refine takeS (i := 5) (v := ?_) rfl (by kernel_rfl) (by kernel_rfl) (by kernel_rfl) (fun _ _ _ h => h) (by rfl) (fun w hSw => ?_) hHeld ?_
          rotate_left
          · have z9 := ((HS.out.2.trans (hSw.mono HS.out.2.size)).cell (World.block_lt_of_cell? _ _ (HC.out.1))).trans (HC.out.1); go_simp; try with_reducible rfl
          try simp only [Act.put, List.setIfInBounds_toArray, List.set_cons_zero, List.set_cons_succ]
          refine takeS (i := 6) (v := ?_) rfl (by kernel_rfl) (by kernel_rfl) (by kernel_rfl) (fun _ _ _ h => h) (by rfl) (fun w hSw => ?_) hHeld ?_
          rotate_left
          · go_simp; try with_reducible rfl
          try simp only [Act.put, List.setIfInBounds_toArray, List.set_cons_zero, List.set_cons_succ]
          refine takeS (i := 7) (v := ?_) rfl (by kernel_rfl) (by kernel_rfl) (by kernel_rfl) (fun _ _ _ h => h) (by rfl) (fun w hSw => ?_) hHeld ?_
          rotate_left
          · go_simp; try with_reducible rfl
          try simp only [Act.put, List.setIfInBounds_toArray, List.set_cons_zero, List.set_cons_succ]
          refine takeS (i := 8) (v := ?_) rfl (by kernel_rfl) (by kernel_rfl) (by kernel_rfl) (fun _ _ _ h => h) (by rfl) (fun w hSw => ?_) hHeld ?_
          rotate_left
          · go_simp; try with_reducible rfl
          try simp only [Act.put, List.setIfInBounds_toArray, List.set_cons_zero, List.set_cons_succ]
          refine takeS (i := 9) (v := ?_) rfl (by kernel_rfl) (by kernel_rfl) (by kernel_rfl) (fun _ _ _ h => h) (by rfl) (fun w hSw => ?_) hHeld ?_
          rotate_left
          · go_simp; try with_reducible rfl
          try simp only [Act.put, List.setIfInBounds_toArray, List.set_cons_zero, List.set_cons_succ]
          refine takeS (i := 10) (v := ?_) rfl (by kernel_rfl) (by kernel_rfl) (by kernel_rfl) (fun _ _ _ h => h) (by rfl) (fun w hSw => ?_) hHeld ?_
          rotate_left
          · have z9 := ((HS.out.2.trans (hSw.mono HS.out.2.size)).cell (World.block_lt_of_cell? _ _ (HC.out.2.1))).trans (HC.out.2.1); go_simp; try with_reducible rfl
          try simp only [Act.put, List.setIfInBounds_toArray, List.set_cons_zero, List.set_cons_succ]
          refine takeS (i := 11) (v := ?_) rfl (by kernel_rfl) (by kernel_rfl) (by kernel_rfl) (fun _ _ _ h => h) (by rfl) (fun w hSw => ?_) hHeld ?_
          rotate_left
          · go_simp; try with_reducible rfl
          try simp only [Act.put, List.setIfInBounds_toArray, List.set_cons_zero, List.set_cons_succ]
          refine takeS (i := 12) (v := ?_) rfl (by kernel_rfl) (by kernel_rfl) (by kernel_rfl) (fun _ _ _ h => h) (by rfl) (fun w hSw => ?_) hHeld ?_
          rotate_left
          · go_simp; try with_reducible rfl
          try simp only [Act.put, List.setIfInBounds_toArray, List.set_cons_zero, List.set_cons_succ]
          refine takeS (i := 13) (v := ?_) rfl (by kernel_rfl) (by kernel_rfl) (by kernel_rfl) (fun _ _ _ h => h) (by rfl) (fun w hSw => ?_) hHeld ?_
          rotate_left
          · go_simp; try with_reducible rfl
          try simp only [Act.put, List.setIfInBounds_toArray, List.set_cons_zero, List.set_cons_succ]
          refine takeS (i := 14) (v := ?_) rfl (by kernel_rfl) (by kernel_rfl) (by kernel_rfl) (fun _ _ _ h => h) (by rfl) (fun w hSw => ?_) hHeld ?_
          rotate_left
          · go_simp; try with_reducible rfl
          try simp only [Act.put, List.setIfInBounds_toArray, List.set_cons_zero, List.set_cons_succ]
          refine takeS (i := 15) (v := ?_) rfl (by kernel_rfl) (by kernel_rfl) (by kernel_rfl) (fun _ _ _ h => h) (by rfl) (fun w hSw => ?_) hHeld ?_
          rotate_left
          · have z9 := ((HS.out.2.trans (hSw.mono HS.out.2.size)).cell (World.block_lt_of_cell? _ _ (HC.out.2.2))).trans (HC.out.2.2); go_simp; try with_reducible rfl
          try simp only [Act.put, List.setIfInBounds_toArray, List.set_cons_zero, List.set_cons_succ]
          refine takeS (i := 16) (v := ?_) rfl (by kernel_rfl) (by kernel_rfl) (by kernel_rfl) (fun _ _ _ h => h) (by rfl) (fun w hSw => ?_) hHeld ?_
          rotate_left
          · go_simp; try with_reducible rfl
          try simp only [Act.put, List.setIfInBounds_toArray, List.set_cons_zero, List.set_cons_succ]
          refine wpAnyH_ready (rs := [17]) (by kernel_rfl) (by simp) (consS (i := 17) rfl (fun K hK => ?_) AllReadyH.nil)
          go_simp
          refine hK.out _ _ (HX9.out.2.2.1.drew.alloc hsz _) (fun hHeld2 => ?_)
          clear hK K hHeld
          have hHeld := hHeld2
          clear hHeld2
          try simp only [Act.put, List.setIfInBounds_toArray, List.set_cons_zero, List.set_cons_succ]
          refine wpAnyH_ready (rs := [18]) (by kernel_rfl) (by simp) (consS (i := 18) rfl (fun K hK => ?_) AllReadyH.nil)
          (refine step_append_lies _ (by rfl) _ _ 89 (by rfl) w2.heap.size 92 i3 _ 3 24 Tryz.underlying89 HI.out.2 hb0 hb1 hb2 (by rfl) (by decide) (.slice Ay j cy) j _ (by rfl) HX9.out.1 ⟨wr.heap.size, 0, none⟩ 1 1 [.int .i64 kd, .int .i64 id, .int .i64 vl] (by rfl) (by rfl) HX9.out.2.1 (by simp [Value.oneCell']) (by decide) (by unfold maxLen; omega) (by omega) (by simp; omega) (wr.heap.size + 1) (by simp) ?_)
          intro g3 cap3 wA hown3 hgrow3 hat3 hlt3
          refine hK.out _ _ (((HX9.out.2.2.1.alloc hsz _).drew).grown hgrow3 (by simp; omega) (fun j hj => (HX9.out.1.lt j hj).1)) (fun hHeld2 => ?_)
          clear hK K hHeld
          have hHeld := hHeld2
          clear hHeld2
          try simp only [Act.put, List.setIfInBounds_toArray, List.set_cons_zero, List.set_cons_succ]
          refine takeS (i := 19) (v := ?_) rfl (by kernel_rfl) (by kernel_rfl) (by kernel_rfl) (fun _ _ _ h => h) (by rfl) (fun w hSw => ?_) hHeld ?_
          rotate_left
          · go_simp; try with_reducible rfl
          try simp only [Act.put, List.setIfInBounds_toArray, List.set_cons_zero, List.set_cons_succ]
          refine wpAnyH_done (by kernel_rfl) ?_ _
          have HG := Lib.hid (And.intro hown3 hHeld)
          clear hown3 hgrow3 hat3 hHeld
          go_wp2_with fail
          go_roundw
          case rel => exact ⟨j + 1, by omega, by go_num, by rw [HX9.out.2.2.2]; exact HG.out.1, HG.out.2⟩
          case measure => simp [intOf]; omega
        · obtain rfl : j = n' := by omega
          have hrd : RdK 3 wr (fun _ => True) (.slice Ay j cy) (o.map OF.cells) := by
            have h1 := hown
            rw [← HL'.out, List.take_length] at h1
            have := RdK.of_own (F := fun _ => True) (v := .slice Ay o.length cy) (xs := o.map OF.cells) h1 (fun x hx => by simp at hx; obtain ⟨y, _, rfl⟩ := hx; rfl) (by decide) (fun _ _ => trivial)
            rw [HL'.out] at this
            exact this
          have hbw := HS.out.2.trans (hbl.mono HS.out.2.size)
          have HT := Lib.hid (And.intro hrd (And.intro (RdK.below HS.out.1 hbl) hbw))
          have HA := Lib.hid (agree_ok wr _ _ s o 0 0 none (RdK.below HR0.out.1 hbw) (RdK.below HR0.out.2 hbw))
          clear hown hbl hrd hbw
          go_wp2_with fail
          refine HA.out.mono ?_
          rintro e w4 ⟨r1, hr1, rfl, hb4⟩
          have HB := Lib.hid (refAgree_ok w4 _ _ _ _ s o (RdK.below HT.out.2.1 hb4) (RdK.below HT.out.1 hb4))
          have HB4 := Lib.hid (HT.out.2.2.trans (hb4.mono HT.out.2.2.size))
          clear hb4 HA
          go_wp2_with fail
          refine HB.out.mono ?_
          rintro e w5 ⟨r2, hr2, rfl, hb5⟩
          have HB5 := Lib.hid (HB4.out.trans (hb5.mono HB4.out.size))
          obtain rfl : r1 = r2 := by
            cases r1 with
            | true => exact (hr2.2 (hr1.1 rfl)).symm
            | false =>
              cases r2 with
              | true => exact absurd (hr1.2 (hr2.1 rfl)) (by decide)
              | false => rfl
          clear hb5 hr1 hr2 HB
          cases r1 with
          | true =>
            go_wp2_with fail
            refine (awake20_ok _).mono ?_
            rintro e wz ⟨rfl, hbz⟩
            have HZ := Lib.hid ((HB5.out).trans (hbz.mono (HB5.out).size))
            clear hbz
            go_wp2_with fail
            go_ret
            exact ⟨rfl, HZ.out⟩
          | false =>
            go_wp2_with fail
            refine (awake20_ok _).mono ?_
            rintro e wz ⟨rfl, hbz⟩
            have HZ := Lib.hid ((HB5.out).trans (hbz.mono (HB5.out).size))
            clear hbz
            go_wp2_with fail
            go_ret
            exact ⟨rfl, HZ.out⟩
end Go.Proofs.YtifpaagppjmbhaaGreatDoor
