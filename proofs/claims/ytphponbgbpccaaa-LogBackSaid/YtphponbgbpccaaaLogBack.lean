/- Proved: LogBack returns true for every input: Parse of Bytes is the log, Bytes of Parse the bytes; no condition. -/
import Derived.Test.YtphponbgbpccaaaLogF
import Derived.Test.YtphponbgbpccaaaParse
import Derived.Test.YtphponbgbpccaaaOpen
namespace Go.Proofs.Ytphponbgbpccaaa
open Go.ChangeShapes Go.WideShapes Go.ChangeAt Go.RowKit

set_option maxRecDepth 100000 in
set_option maxHeartbeats 2000000 in
theorem back_true (w : World) (F G : Nat → Prop) (v vb : Value) (ps : List (List UInt8)) (bs : List UInt8) (hr : RowsRd w F v ps) (hf : FewP ps) (hb : Rd w G vb (bs.map B8)) (hbl : bs.length ≤ 3000) :
    Calls Try.prog 4 #[v, vb] w fun e w' => e = .returned (.bool true) ∧ Below w.heap.size w w' := by
  have HR := Lib.hid hr.bound
  have HB := Lib.hid hb.bound
  obtain ⟨A, c, rfl, hc, hm, _⟩ := hr.at_
  obtain ⟨A1, n1, c1, rfl, hl1, hc1, hm1, _⟩ := hb
  simp only [List.length_map] at hl1
  subst hl1
  have HF := Lib.hid hf
  have h40 : ps.length ≤ 40 := hf.2.1
  clear hr hf
  unfold maxLen at hm hm1
  go_enter Try.func4, Try.ntmps4
  go_wp2_with fail
  refine (few_true w _ _ ps HR.out HF.out).mono ?_
  rintro e w' ⟨rfl, rfl⟩
  go_wp2_with fail
  refine (log_new w _ _ ps HR.out (fun k hk => hk.2) (by omega)).mono ?_
  rintro e w1 ⟨hbl1, hP⟩
  by_cases hall : ∀ p ∈ ps, p.length ≤ 8192
  · rw [if_pos hall] at hP
    obtain ⟨b, rfl, hlog1⟩ := hP
    have HALL := Lib.hid hall
    clear hall
    go_wp2_with fail
    refine (logbytes_ok w1 _ b ps hlog1 (by omega) HALL.out).mono ?_
    rintro e w2 ⟨Ax, cx, rfl, hx, hbl2⟩
    rw [List.length_map] at hx ⊢
    have hlenB : (logB ps).length ≤ 140737488355328 := by
      have h1 := textsB_length ps HALL.out
      have h2 := leb_length ps.length
      simp [logB]
      omega
    have hx2 : Rd w2 (fun _ => True) (.slice Ax (logB ps).length cx) ((logB ps).map B8) := Rd.of_own hx (fun _ _ => trivial)
    have HX := Lib.hid hx2
    clear hx hx2
    have hblW2 : Below w.heap.size w w2 := hbl1.trans (hbl2.mono hbl1.size)
    go_wp2_with fail
    refine (parse_ok w2 _ _ (logB ps) HX.out hlenB).mono ?_
    rintro e w3 ⟨hbl3, hP3⟩
    rw [parse_back ps HALL.out (by omega)] at hP3
    obtain ⟨b3, rfl, hlog3⟩ := hP3
    have hblW3 : Below w.heap.size w w3 := hblW2.trans (hbl3.mono hblW2.size)
    have hr3 := HR.out.only hblW3.onlyGe (fun k hk e => by omega)
    have H3 := Lib.hid (And.intro hlog3 hr3)
    clear hlog3 hr3
    go_wp2_with fail
    refine (holds_ok w3 _ _ b3 ps _ H3.out.1 H3.out.2 (by omega) HALL.out).mono ?_
    rintro e w4 ⟨rfl, hbl4⟩
    have hblW4 : Below w.heap.size w w4 := hblW3.trans (hbl4.mono hblW3.size)
    clear hbl2 hbl3 hbl4 hblW2 hblW3 hlenB
    have hbb := HB.out.only hblW4.onlyGe (fun k hk e => by omega)
    go_wp2_with fail
    refine (parse_ok w4 _ _ bs hbb (by omega)).mono ?_
    rintro e wy ⟨hbly, hP⟩
    have hblY : Below w.heap.size w wy := hblW4.trans (hbly.mono hblW4.size)
    cases hq : parseL bs with
    | none =>
      rw [hq] at hP
      obtain ⟨ec, hec, rfl⟩ := hP
      clear hq
      go_wp2_with fail
      refine (awake_ok wy).mono ?_
      rintro e wz ⟨rfl, hblz⟩
      go_wp2_with fail
      go_ret
      exact ⟨rfl, hblY.trans (hblz.mono hblY.size)⟩
    | some qs =>
      rw [hq] at hP
      obtain ⟨bq, rfl, hlq⟩ := hP
      obtain ⟨q1, q2, q3⟩ := parse_inv hq
      clear hq
      have HQ := Lib.hid (And.intro q1 (And.intro q2 hlq))
      clear q1 q2 hlq
      go_wp2_with fail
      refine (logbytes_ok wy _ bq qs HQ.out.2.2 q3 HQ.out.2.1).mono ?_
      rintro e wz ⟨Ax, cx, rfl, hx, hblz⟩
      rw [HQ.out.1] at hx ⊢
      rw [List.length_map] at hx ⊢
      have hblZ : Below w.heap.size w wz := hblY.trans (hblz.mono hblY.size)
      have hbz := HB.out.only hblZ.onlyGe (fun k hk e => by omega)
      have HZ := Lib.hid (And.intro hx hbz)
      clear hx hbz
      go_wp2_with fail
      refine (law_bytes wz _ _ _ _ bs (Rd.of_own (F := fun _ => True) HZ.out.1 (fun _ _ => trivial)) HZ.out.2).mono ?_
      rintro e wa ⟨rfl, hbla⟩
      have hblA : Below w.heap.size w wa := hblZ.trans (hbla.mono hblZ.size)
      go_wp2_with fail
      refine (awake_ok wa).mono ?_
      rintro e wb ⟨rfl, hblb⟩
      go_wp2_with fail
      go_ret
      exact ⟨rfl, hblA.trans (hblb.mono hblA.size)⟩

  · rw [if_neg hall] at hP
    subst hP
    clear hall
    have hbb := HB.out.only hbl1.onlyGe (fun k hk e => by omega)
    go_wp2_with fail
    refine (parse_ok w1 _ _ bs hbb (by omega)).mono ?_
    rintro e wy ⟨hbly, hP⟩
    have hblY : Below w.heap.size w wy := hbl1.trans (hbly.mono hbl1.size)
    cases hq : parseL bs with
    | none =>
      rw [hq] at hP
      obtain ⟨ec, hec, rfl⟩ := hP
      clear hq
      go_wp2_with fail
      refine (awake_ok wy).mono ?_
      rintro e wz ⟨rfl, hblz⟩
      go_wp2_with fail
      go_ret
      exact ⟨rfl, hblY.trans (hblz.mono hblY.size)⟩
    | some qs =>
      rw [hq] at hP
      obtain ⟨bq, rfl, hlq⟩ := hP
      obtain ⟨q1, q2, q3⟩ := parse_inv hq
      clear hq
      have HQ := Lib.hid (And.intro q1 (And.intro q2 hlq))
      clear q1 q2 hlq
      go_wp2_with fail
      refine (logbytes_ok wy _ bq qs HQ.out.2.2 q3 HQ.out.2.1).mono ?_
      rintro e wz ⟨Ax, cx, rfl, hx, hblz⟩
      rw [HQ.out.1] at hx ⊢
      rw [List.length_map] at hx ⊢
      have hblZ : Below w.heap.size w wz := hblY.trans (hblz.mono hblY.size)
      have hbz := HB.out.only hblZ.onlyGe (fun k hk e => by omega)
      have HZ := Lib.hid (And.intro hx hbz)
      clear hx hbz
      go_wp2_with fail
      refine (law_bytes wz _ _ _ _ bs (Rd.of_own (F := fun _ => True) HZ.out.1 (fun _ _ => trivial)) HZ.out.2).mono ?_
      rintro e wa ⟨rfl, hbla⟩
      have hblA : Below w.heap.size w wa := hblZ.trans (hbla.mono hblZ.size)
      go_wp2_with fail
      refine (awake_ok wa).mono ?_
      rintro e wb ⟨rfl, hblb⟩
      go_wp2_with fail
      go_ret
      exact ⟨rfl, hblA.trans (hblb.mono hblA.size)⟩

set_option maxRecDepth 100000 in
theorem back_few (w : World) (F G : Nat → Prop) (v vb : Value) (ps : List (List UInt8)) (bs : List UInt8) (hr : RowsRd w F v ps) (hb : Rd w G vb (bs.map B8)) (hno : ¬ FewP ps ∨ 3000 < bs.length) :
    Calls Try.prog 4 #[v, vb] w fun e w' => e = .returned (.bool true) ∧ Below w.heap.size w w' := by
  have HR := Lib.hid hr
  obtain ⟨A, c, rfl, hc, hm, _⟩ := hr.at_
  obtain ⟨A1, n1, c1, rfl, hl1, hc1, hm1, _⟩ := hb
  simp only [List.length_map] at hl1
  subst hl1
  unfold maxLen at hm hm1
  clear hr
  by_cases hf : FewP ps
  · have h3 : 3000 < bs.length := hno.resolve_left (fun h => h hf)
    have HF := Lib.hid hf
    clear hno hf
    go_enter Try.func4, Try.ntmps4
    go_wp2_with fail
    refine (few_true w _ _ ps HR.out HF.out).mono ?_
    rintro e w' ⟨rfl, rfl⟩
    go_wp2_with fail
    refine (awake_ok w).mono ?_
    rintro e w5 ⟨rfl, hbl5⟩
    go_wp2_with fail
    go_ret
    exact ⟨rfl, hbl5⟩
  · have HF := Lib.hid hf
    clear hno hf
    go_enter Try.func4, Try.ntmps4
    go_wp2_with fail
    refine (few_false w _ _ ps HR.out HF.out).mono ?_
    rintro e w' ⟨rfl, rfl⟩
    go_wp2_with fail
    refine (awake_ok w).mono ?_
    rintro e w5 ⟨rfl, hbl5⟩
    go_wp2_with fail
    go_ret
    exact ⟨rfl, hbl5⟩

set_option maxRecDepth 100000 in
theorem logBack_lifted (os : Os) (started : os.Started) (H : Type) (enc : TypeId × Value → H) :
    ReturnsInHanded {} Try.checked os 4 .any (Rows.logBackSpec.pre6 enc Try.prog Try.f4 Rows.logBackRow.domain false) (Rows.logBackSpec.post enc Try.prog Try.f4 false true false false) := by
  refine law_lifted os started H enc 4 Try.f4 Rows.logBackSpec (by kernel_rfl) Try.func4 rfl (by kernel_rfl) ?_ ?_
    (ChangeSpec.witness6 (enc := enc) (C := Try.checked) false ⟨#[], #[.slice none 0 0, .slice none 0 0], []⟩ 8 (by kernel_rfl) (by kernel_rfl) (by kernel_rfl) (by kernel_rfl)) ?_
  · rw [Try.params4]
    intro t ht
    simp at ht
    rcases ht with rfl | rfl
    · exact ⟨by kernel_rfl, of_decide_eq_true (by kernel_rfl)⟩
    · exact ⟨by kernel_rfl, of_decide_eq_true (by kernel_rfl)⟩
  · intro ds hl
    rw [Try.params4] at hl
    match ds, hl with
    | [d1, d2], _ => exact ⟨rfl, rfl, rfl⟩
  · intro W base args ds p hval hA
    rw [Try.params4] at hA hval
    obtain ⟨v0, v1, d0, d1, p0, p1, hargs, rfl, rfl, h0, h1⟩ := trodAll_two hA
    subst hargs
    obtain ⟨ps, hr⟩ := rows_of_trod (hval 0 22 v0 rfl rfl) h0
    obtain ⟨bs, hb⟩ := bytes_of_trod (hval 1 29 v1 rfl rfl) h1
    by_cases hf : FewP ps ∧ bs.length ≤ 3000
    · exact back_true W _ _ v0 v1 ps bs hr hf.1 hb hf.2
    · refine back_few W _ _ v0 v1 ps bs hr hb ?_
      by_cases h : FewP ps
      · exact .inr (Nat.lt_of_not_le (fun h2 => hf ⟨h, h2⟩))
      · exact .inl h

theorem logBack_holds : Rows.LogBackSaid :=
  OpenClaim.holds_of_wide 4 Try.f4 rfl rfl rfl rfl rfl rfl rfl ⟨rfl, rfl, rfl, rfl, rfl⟩ rfl rfl rfl rfl rfl (by kernel_rfl) Try.func4 (by kernel_rfl)
    (of_decide_eq_true (by kernel_rfl)) (by unfold Func.isWrapper; rw [if_neg (of_decide_eq_false (by kernel_rfl))]; exact ⟨rfl, rfl⟩)
    (fun os started H enc _ => logBack_lifted os started H enc)

#print axioms logBack_holds
end Go.Proofs.Ytphponbgbpccaaa
