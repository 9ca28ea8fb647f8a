/- replay.Agree. -/
import Derived.Test.YtifpaagppjmbhaaGreatDoorSerB
import Derived.Test.YtifpaagppjmbhaaGreatDoorFoot
import Derived.Deep.QuietTactic
import Derived.BigQuiet
namespace Go.Proofs.YtifpaagppjmbhaaGreatDoor
set_option maxRecDepth 100000
open Go.RowKit

/-- What was seen: a life, a place, an outcome. -/
structure SF where
  life : Int
  place : Int
  kind : Int
  id : Int
  val : Int
def SF.cells (x : SF) : List Value := [.int .i64 x.life, .int .i64 x.place, .int .i64 x.kind, .int .i64 x.id, .int .i64 x.val]
/-- An outcome. -/
structure OF where
  kind : Int
  id : Int
  val : Int
def OF.cells (x : OF) : List Value := [.int .i64 x.kind, .int .i64 x.id, .int .i64 x.val]
/-- What was seen is what is there. -/
def goodS (o : List OF) (x : SF) : Prop := 0 ≤ x.place ∧ o[x.place.toNat]? = some ⟨x.kind, x.id, x.val⟩
def agP (s : List SF) (o : List OF) : Prop := ∀ x ∈ s, goodS o x
def AgQ (p : Prop) (w : World) (e : Ending) (w' : World) : Prop := ∃ r : Bool, (r = true ↔ p) ∧ e = .returned (.bool r) ∧ Below w.heap.size w w'
theorem AgQ.yes {p : Prop} {w w' : World} (h : p) (hb : Below w.heap.size w w') : AgQ p w (.returned (.bool true)) w' := ⟨true, ⟨fun _ => h, fun _ => rfl⟩, rfl, hb⟩
theorem AgQ.no {p : Prop} {w w' : World} (h : ¬ p) (hb : Below w.heap.size w w') : AgQ p w (.returned (.bool false)) w' := ⟨false, ⟨(fun e => by cases e), fun e => absurd e h⟩, rfl, hb⟩
theorem seen_cells {w : World} {B : Nat} {a0 a1 a2 a3 a4 : Value} {t : TypeId} (h : w.heap[B]? = some (.cells #[a0, a1, a2, a3, a4] t (0, 0))) :
    w.cell? ⟨B, 0, none⟩ = some a0 ∧ w.cell? ⟨B, 1, none⟩ = some a1 ∧ w.cell? ⟨B, 2, none⟩ = some a2 ∧ w.cell? ⟨B, 3, none⟩ = some a3 ∧ w.cell? ⟨B, 4, none⟩ = some a4 := by
  refine ⟨?_, ?_, ?_, ?_, ?_⟩ <;> simp [World.cell?, h]
theorem takeS_all {α : Type} {l : List α} {k : Nat} {x : α} {p : α → Prop} (h : ∀ y ∈ l.take k, p y) (hx : l[k]? = some x) (hp : p x) : ∀ y ∈ l.take (k + 1), p y := by
  intro y hy
  rw [List.take_add_one, hx] at hy
  rcases List.mem_append.1 hy with hy | hy
  · exact h y hy
  · simp at hy; subst hy; exact hp
set_option maxRecDepth 100000 in
set_option maxHeartbeats 4000000 in
theorem agree_ok (w : World) (sv ov : Value) (s : List SF) (o : List OF) (lv st : Int) (tb : Option Addr) (hs : RdK 5 w (fun _ => True) sv (s.map SF.cells)) (ho : RdK 3 w (fun _ => True) ov (o.map OF.cells)) :
    Calls Tryz.prog 43 #[.agg #[sv, .int .i64 lv, .int .i64 st, ov, .pointer tb]] w (AgQ (agP s o) w) := by
  obtain ⟨A, n, c, rfl, hl, hnc, hcm, hx⟩ := hs
  obtain ⟨A', n', c', rfl, hl', hnc', hcm', hx'⟩ := ho
  have HL := Lib.hid (show s.length = n by simpa using hl)
  have HL' := Lib.hid (show o.length = n' by simpa using hl')
  have hb := new_box w (.cells #[.slice A n c, .int .i64 lv, .int .i64 st, .slice A' n' c', .pointer tb] 97)
  have k0 := heap_alloc_new w (.cells #[.slice A n c, .int .i64 lv, .int .i64 st, .slice A' n' c', .pointer tb] 97)
  unfold maxLen at hcm hcm'
  have HX := Lib.hid (And.intro hx hx')
  have hn63 : (n : Int) ≤ 9223372036854775807 := by omega
  clear hx hx' hl hl' hnc hnc' hcm hcm'
  go_enter Tryz.func43, Tryz.ntmps43
  go_upto_region 1 with fail
  generalize w.alloc (.cells #[.slice A n c, .int .i64 lv, .int .i64 st, .slice A' n' c', .pointer tb] 97) = w1 at hb k0 ⊢
  obtain ⟨B, hB⟩ : ∃ x, w.heap.size = x := ⟨_, rfl⟩
  rw [hB] at k0 ⊢
  clear hB
  obtain ⟨z0, -, -, z3, -⟩ := seen_cells k0
  have HB := Lib.hid (And.intro hb k0)
  clear hb k0
  go_wp2_with fail
  go_step3
  go_wp2_with fail
  go_step3
  go_wp2_with fail
  clear z0 z3
  go_loopw [3, 9] (fun q i wr => q = .bool true ∧ ∃ k : Nat, k ≤ n ∧ i = .int .i64 (k : Int) ∧ (∀ y ∈ s.take k, goodS o y) ∧ Below w1.heap.size w1 wr) (fun _ i _ => n - (intOf i).toNat)
  case atStart => exact ⟨rfl, 0, Nat.zero_le _, rfl, by simp, Below.refl _ _⟩
  case round =>
    obtain ⟨rfl, k, hk, rfl, hok, hbr⟩ := hrel
    by_cases hlt : k < n
    · obtain ⟨x, hxk⟩ : ∃ x, s[k]? = some x := ⟨_, List.getElem?_eq_getElem (by rw [HL.out]; exact hlt)⟩
      obtain ⟨b, u, rfl, -, hc⟩ := HX.out.1 (by omega)
      have hcx := hc k x.cells (by simp [hxk])
      obtain ⟨lf, pl, kd, id, vl⟩ := x
      have hbw := HB.out.1.trans (hbr.mono HB.out.1.size)
      have on : ∀ {p : Addr} {v : Value}, w.cell? p = some v → wr.cell? p = some v := fun {p v} h => (hbw.cell (World.block_lt_of_cell? _ _ h)).trans h
      have c0 : wr.cell? ⟨b, u + k * 5, none⟩ = some (.int .i64 lf) := on (by simpa using hcx 0 _ rfl)
      have c1 : wr.cell? ⟨b, u + k * 5 + 1, none⟩ = some (.int .i64 pl) := on (by simpa [Nat.add_assoc] using hcx 1 _ rfl)
      have c2 : wr.cell? ⟨b, u + k * 5 + 2, none⟩ = some (.int .i64 kd) := on (by simpa [Nat.add_assoc] using hcx 2 _ rfl)
      have c3 : wr.cell? ⟨b, u + k * 5 + 3, none⟩ = some (.int .i64 id) := on (by simpa [Nat.add_assoc] using hcx 3 _ rfl)
      have c4 : wr.cell? ⟨b, u + k * 5 + 4, none⟩ = some (.int .i64 vl) := on (by simpa [Nat.add_assoc] using hcx 4 _ rfl)
      have hx5 := new_box wr (.cells #[.int .i64 lf, .int .i64 pl, .int .i64 kd, .int .i64 id, .int .i64 vl] 91)
      have k5 := heap_alloc_new wr (.cells #[.int .i64 lf, .int .i64 pl, .int .i64 kd, .int .i64 id, .int .i64 vl] 91)
      have i1 : (0 : Int) ≤ (k : Int) := by omega
      have i2 : (k : Int) < (n : Int) := by omega
      have HR := Lib.hid (And.intro hxk (And.intro hok hbr))
      clear hc hcx hbw on hxk hok hbr
      go_upto_region 5 with fail
      generalize wr.alloc (.cells #[.int .i64 lf, .int .i64 pl, .int .i64 kd, .int .i64 id, .int .i64 vl] 91) = w5 at hx5 k5 ⊢
      generalize wr.heap.size = D at k5 ⊢
      obtain ⟨d0, d1, d2, d3, d4⟩ := seen_cells k5
      have hb15 := HR.out.2.2.trans (hx5.mono HR.out.2.2.size)
      obtain ⟨-, -, -, e3, -⟩ := seen_cells ((Only.of_below hb15 (fun _ => False)).heap HB.out.2 (fun h => h))
      have HB5 := Lib.hid hb15
      clear hx5 k5 c0 c1 c2 c3 c4 hb15
      by_cases p0 : pl < 0
      · have HG := Lib.hid (show ¬ agP s o from fun h => absurd (h _ (List.mem_of_getElem? HR.out.1)).1 (by show ¬ 0 ≤ pl; omega))
        go_quiet (fail)
        go_wp2_with fail
        try rw [Exit.noGoto_ret]
        go_ret
        exact AgQ.no HG.out (HB.out.1.trans ((below_drewN HB5.out nq).mono HB.out.1.size))
      · obtain ⟨q, rfl⟩ : ∃ q : Nat, pl = (q : Int) := ⟨pl.toNat, by omega⟩
        by_cases p1 : (n' : Int) ≤ (q : Int)
        · have HG := Lib.hid (show ¬ agP s o from fun h => by
            have := (h _ (List.mem_of_getElem? HR.out.1)).2
            rw [List.getElem?_eq_none (by have := HL'.out; show o.length ≤ ((q : Int)).toNat; omega)] at this
            cases this)
          go_quiet (fail)
          go_wp2_with fail
          try rw [Exit.noGoto_ret]
          go_ret
          exact AgQ.no HG.out (HB.out.1.trans ((below_drewN HB5.out nq).mono HB.out.1.size))
        · obtain ⟨y, hy⟩ : ∃ y, o[q]? = some y := ⟨_, List.getElem?_eq_getElem (by rw [HL'.out]; omega)⟩
          obtain ⟨b', u', rfl, -, hc'⟩ := HX.out.2 (by omega)
          have hcy := hc' q y.cells (by simp [hy])
          obtain ⟨kd', id', vl'⟩ := y
          have hbw := HB.out.1.trans (HB5.out.mono HB.out.1.size)
          have on : ∀ {p : Addr} {v : Value}, w.cell? p = some v → w5.cell? p = some v := fun {p v} h => (hbw.cell (World.block_lt_of_cell? _ _ h)).trans h
          have c0 : w5.cell? ⟨b', u' + q * 3, none⟩ = some (.int .i64 kd') := on (by simpa using hcy 0 _ rfl)
          have c1 : w5.cell? ⟨b', u' + q * 3 + 1, none⟩ = some (.int .i64 id') := on (by simpa [Nat.add_assoc] using hcy 1 _ rfl)
          have c2 : w5.cell? ⟨b', u' + q * 3 + 2, none⟩ = some (.int .i64 vl') := on (by simpa [Nat.add_assoc] using hcy 2 _ rfl)
          have j1 : (0 : Int) ≤ (q : Int) := by omega
          have j2 : (q : Int) < (n' : Int) := by omega
          have heq := eqOut kd id vl kd' id' vl'
          have hgd := Tryz.guardOut
          have HY := Lib.hid hy
          clear hc' hcy hbw on hy
          by_cases p2 : kd = kd' ∧ id = id' ∧ vl = vl'
          · rw [show decide (kd = kd' ∧ id = id' ∧ vl = vl') = true from decide_eq_true p2] at heq
            have HG := Lib.hid (show goodS o ⟨lf, q, kd, id, vl⟩ from ⟨j1, by rw [show ((q : Int)).toNat = q by omega]; rw [p2.1, p2.2.1, p2.2.2]; exact HY.out⟩)
            clear p2
            go_quiet (fail)
            go_wp2_with fail
            go_roundw
            case rel => exact ⟨rfl, k + 1, by omega, by go_num, takeS_all HR.out.2.1 HR.out.1 HG.out, below_drewN HB5.out nq⟩
            case measure => simp [intOf]; omega
          · rw [show decide (kd = kd' ∧ id = id' ∧ vl = vl') = false from decide_eq_false p2] at heq
            have HG := Lib.hid (show ¬ agP s o from fun h => p2 (by
              have := (h _ (List.mem_of_getElem? HR.out.1)).2
              rw [show (SF.mk lf q kd id vl).place.toNat = q by show ((q : Int)).toNat = q; omega, HY.out] at this
              injection this with this
              injection this with e1 e2 e3
              exact ⟨e1.symm, e2.symm, e3.symm⟩))
            clear p2
            go_quiet (fail)
            go_wp2_with fail
            try rw [Exit.noGoto_ret]
            go_ret
            exact AgQ.no HG.out (HB.out.1.trans ((below_drewN HB5.out nq).mono HB.out.1.size))
    · obtain rfl : k = n := by omega
      have HR := Lib.hid (And.intro hok hbr)
      clear hok hbr
      go_wp2_with fail
      try rw [Exit.noGoto_ret]
      go_ret
      exact AgQ.yes (by have := HR.out.1; rw [← HL.out, List.take_length] at this; exact this) (HB.out.1.trans (HR.out.2.mono HB.out.1.size))
end Go.Proofs.YtifpaagppjmbhaaGreatDoor
