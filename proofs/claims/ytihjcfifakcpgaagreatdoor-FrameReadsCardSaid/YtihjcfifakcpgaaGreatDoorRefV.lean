/- The document's answer's reader: count, text. -/
import Derived.Test.YtihjcfifakcpgaaGreatDoorRefU
namespace Go.Proofs.YtihjcfifakcpgaaGreatDoor
set_option maxRecDepth 100000
open Go.RowKit

/-- How many things follow, no more than told. -/
def cntF (M : Int) (r : List UInt8) : Option (Int × List UInt8) := match rdUI r with | some (n, q) => if n ≤ M then some (n, q) else none | none => none
theorem RS.open_ {w : World} {F : Nat → Prop} {b c : Nat} {A : Option Addr} {bs : List UInt8} {st : Option (List UInt8)} (h : RS w F b A c bs st) :
    ∃ (at_ : Nat) (bad : Bool), w.heap[b]? = some (.cells #[.slice A bs.length c, .int .i64 (at_ : Int), .bool bad] 99 (0, 0)) ∧ at_ ≤ bs.length ∧ (st = none → bad = true) ∧ (∀ q, st = some q → bad = false ∧ q = bs.drop at_) ∧ Rd w F (.slice A bs.length c) (bs.map B8) ∧ ¬ F b := by
  obtain ⟨a, d, h1, h2, h3, h4, h5⟩ := h
  refine ⟨a, d, h1, h2, fun e => ?_, fun q e => ?_, h4, h5⟩
  · subst e
    cases d with
    | true => rfl
    | false => simp at h3
  · subst e
    cases d with
    | true => simp at h3
    | false => simp at h3; exact ⟨rfl, h3⟩
theorem stepR_ways {α : Type} (f : List UInt8 → Option (α × List UInt8)) (z : α) (st : Option (List UInt8)) : (stepR f z st = (z, none) ∧ ∀ r, st = some r → f r = none) ∨ ∃ r n q, st = some r ∧ f r = some (n, q) ∧ stepR f z st = (n, some q) := by
  cases st with
  | none => exact .inl ⟨rfl, fun r h => by cases h⟩
  | some r =>
    cases hf : f r with
    | none => exact .inl ⟨by simp [stepR, hf], fun r' h => by injection h with h; subst h; exact hf⟩
    | some x =>
      obtain ⟨n, q⟩ := x
      exact .inr ⟨r, n, q, rfl, hf, by simp [stepR, hf]⟩
theorem stepR_no {α : Type} {f : List UInt8 → Option (α × List UInt8)} {z : α} {st : Option (List UInt8)} (h : ∀ r, st = some r → f r = none) : stepR f z st = (z, none) := by
  cases st with
  | none => rfl
  | some r => simp [stepR, h r rfl]
set_option maxRecDepth 100000 in
set_option maxHeartbeats 2000000 in
theorem refCount_ok (w : World) (F : Nat → Prop) (b : Nat) (A : Option Addr) (c : Nat) (bs : List UInt8) (st : Option (List UInt8)) (M : Int) (hM : 0 ≤ M) (h : RS w F b A c bs st) (hlen : bs.length ≤ 1000) :
    Calls Tryz.prog 59 #[.pointer (some ⟨b, 0, none⟩), .int .i64 M] w (NumP (cntF M) F b A c bs st w) := by
  have HC := Lib.hid (refNumber_ok w F b A c bs st h hlen)
  clear h
  go_enter Tryz.func59, Tryz.ntmps59
  go_wp2_with fail
  refine HC.out.mono ?_
  rintro en w1 ⟨rfl, ho, hrs⟩
  obtain ⟨at_, bad, k1, hat, hn, hs, hrd, hnF⟩ := hrs.open_
  obtain ⟨⟨q0, q1, q2⟩, y0, y1, y2⟩ := blk3 k1
  have H := Lib.hid (And.intro k1 (And.intro hrd (And.intro ho hrs)))
  clear hrd ho hrs k1 HC
  rcases stepR_ways rdUI 0 st with ⟨he, hno⟩ | ⟨r, n, q, hst, hf, he⟩
  · rw [he] at H hn hs ⊢
    obtain rfl := hn rfl
    have hM' : ¬ M < 0 := by omega
    have HN := Lib.hid (show stepR (cntF M) 0 st = (0, none) from stepR_no (fun r hr => by unfold cntF; rw [hno r hr]))
    clear hn hs hno he
    go_wp2_with fail
    go_ret
    exact ⟨by rw [HN.out]; rfl, H.out.2.2.1, by rw [HN.out]; exact H.out.2.2.2⟩
  · rw [he] at H hn hs ⊢
    obtain ⟨rfl, hq⟩ := hs q rfl
    subst hst
    by_cases hnM : M < n
    · have HN := Lib.hid (show stepR (cntF M) 0 (some r) = (0, none) from stepR_no (fun r' hr => by injection hr with hr; subst hr; unfold cntF; rw [hf]; simp only; rw [if_neg (by omega)]))
      clear hn hs hf he hq
      go_wp2_with fail
      go_ret
      refine ⟨by rw [HN.out]; rfl, H.out.2.2.1.setCell (p := ⟨b, 2, none⟩) (fun _ => rfl) _, ?_⟩
      rw [HN.out]
      exact RS.bad H.out.1 hat H.out.2.1 hnF
    · have HN := Lib.hid (show stepR (cntF M) 0 (some r) = (n, some q) by simp only [stepR, cntF, hf]; rw [if_pos (by omega)])
      clear hn hs hf he hq
      go_wp2_with fail
      go_ret
      exact ⟨by rw [HN.out]; rfl, H.out.2.2.1, by rw [HN.out]; exact H.out.2.2.2⟩
def TxtP (F : Nat → Prop) (b : Nat) (A : Option Addr) (c : Nat) (bs : List UInt8) (st : Option (List UInt8)) (w : World) (e : Ending) (w' : World) : Prop :=
  e = .returned (.string ⟨(stepR (rdT 16) [] st).1.toArray⟩) ∧ Only (fun k => k = b) w w' ∧ RS w' F b A c bs (stepR (rdT 16) [] st).2
set_option maxRecDepth 100000 in
set_option maxHeartbeats 4000000 in
theorem refTextR_ok (w : World) (F : Nat → Prop) (b : Nat) (A : Option Addr) (c : Nat) (bs : List UInt8) (st : Option (List UInt8)) (h : RS w F b A c bs st) (hlen : bs.length ≤ 1000) :
    Calls Tryz.prog 61 #[.pointer (some ⟨b, 0, none⟩)] w (TxtP F b A c bs st w) := by
  have HC := Lib.hid (refNumber_ok w F b A c bs st h hlen)
  clear h
  go_enter Tryz.func61, Tryz.ntmps61
  go_wp2_with fail
  refine HC.out.mono ?_
  rintro en w1 ⟨rfl, ho, hrs⟩
  obtain ⟨at_, bad, k1, hat, hn, hs, hrd, hnF⟩ := hrs.open_
  obtain ⟨⟨q0, q1, q2⟩, y0, y1, y2⟩ := blk3 k1
  have H := Lib.hid (And.intro k1 (And.intro hrd (And.intro ho hrs)))
  clear hrd ho hrs k1 HC
  rcases stepR_ways rdUI 0 st with ⟨he, hno⟩ | ⟨r, n, q, hst, hf, he⟩
  · rw [he] at H hn hs ⊢
    obtain rfl := hn rfl
    have HN := Lib.hid (show stepR (rdT 16) [] st = ([], none) from stepR_no (fun r hr => by
      have := hno r hr
      unfold rdUI at this
      cases hu : rdU r with
      | none => simp [rdT, hu]
      | some x => rw [hu] at this; simp at this))
    clear hn hs hno he
    go_wp2_with fail
    go_quiet (fail)
    obtain ⟨w2, hw2⟩ : ∃ w2, w1.drewN nq = w2 := ⟨_, rfl⟩
    rw [hw2]
    have hq3 := drewN_only2 hw2
    have k2 := hq3.heap H.out.1 (fun h => h)
    have HQ := Lib.hid (And.intro k2 (And.intro (H.out.2.1.only hq3 (fun _ _ h => h)) (H.out.2.2.1.trans hq3 (fun _ _ h => h.elim))))
    clear hw2 hq3 q0 q1 q2 y0 y1 y2
    obtain ⟨⟨q0, q1, q2⟩, y0, y1, y2⟩ := blk3 k2
    clear k2
    go_wp2_with fail
    go_ret
    refine ⟨by rw [HN.out]; rfl, HQ.out.2.2.setCell (p := ⟨b, 2, none⟩) (fun _ => rfl) _, ?_⟩
    rw [HN.out]
    exact RS.bad HQ.out.1 hat HQ.out.2.1 hnF
  · rw [he] at H hn hs ⊢
    obtain ⟨rfl, hq⟩ := hs q rfl
    subst hst
    obtain ⟨m, rfl⟩ : ∃ m : Nat, n = (m : Int) := by
      unfold rdUI at hf
      cases hu : rdU r with
      | none => rw [hu] at hf; simp at hf
      | some x => rw [hu] at hf; simp at hf; exact ⟨x.1, hf.1.symm⟩
    have hu : rdU r = some (m, q) := by
      unfold rdUI at hf
      cases hu : rdU r with
      | none => rw [hu] at hf; simp at hf
      | some x => rw [hu] at hf; simp at hf; obtain ⟨h1, h2⟩ := hf; rw [← h2]; congr 1; ext <;> simp; omega
    have hql : q.length = bs.length - at_ := by rw [hq]; simp
    by_cases hm16 : 16 < m
    · have hm16' : (16 : Int) < (m : Int) := by omega
      have HN := Lib.hid (show stepR (rdT 16) [] (some r) = ([], none) from stepR_no (fun r' hr => by injection hr with hr; subst hr; unfold rdT; rw [hu]; simp only; rw [if_neg (by omega)]))
      clear hn hs hf he hu hq
      go_wp2_with fail
      go_quiet (fail)
      obtain ⟨w2, hw2⟩ : ∃ w2, w1.drewN nq = w2 := ⟨_, rfl⟩
      rw [hw2]
      have hq3 := drewN_only2 hw2
      have k2 := hq3.heap H.out.1 (fun h => h)
      have HQ := Lib.hid (And.intro k2 (And.intro (H.out.2.1.only hq3 (fun _ _ h => h)) (H.out.2.2.1.trans hq3 (fun _ _ h => h.elim))))
      clear hw2 hq3 q0 q1 q2 y0 y1 y2
      obtain ⟨⟨q0, q1, q2⟩, y0, y1, y2⟩ := blk3 k2
      clear k2
      go_wp2_with fail
      go_ret
      refine ⟨by rw [HN.out]; rfl, HQ.out.2.2.setCell (p := ⟨b, 2, none⟩) (fun _ => rfl) _, ?_⟩
      rw [HN.out]
      exact RS.bad HQ.out.1 hat HQ.out.2.1 hnF
    · have hm16' : ¬ (16 : Int) < (m : Int) := by omega
      have wq : IntKind.i64.wrap ((bs.length : Int) - (at_ : Int)) = (bs.length : Int) - (at_ : Int) := IntWalk.i64_in _ (by omega)
      have wq2 : IntKind.i64.wrap ((at_ : Int) + (m : Int)) = (at_ : Int) + (m : Int) := IntWalk.i64_in _ (by omega)
      by_cases hlong : bs.length - at_ < m
      · have hlong' : (bs.length : Int) - (at_ : Int) < (m : Int) := by omega
        have HN := Lib.hid (show stepR (rdT 16) [] (some r) = ([], none) from stepR_no (fun r' hr => by injection hr with hr; subst hr; unfold rdT; rw [hu]; simp only; rw [if_neg (by omega)]))
        clear hn hs hf he hu hq
        go_wp2_with fail
        go_quiet (fail)
        obtain ⟨w2, hw2⟩ : ∃ w2, w1.drewN nq = w2 := ⟨_, rfl⟩
        rw [hw2]
        have hq3 := drewN_only2 hw2
        have k2 := hq3.heap H.out.1 (fun h => h)
        have HQ := Lib.hid (And.intro k2 (And.intro (H.out.2.1.only hq3 (fun _ _ h => h)) (H.out.2.2.1.trans hq3 (fun _ _ h => h.elim))))
        clear hw2 hq3 q0 q1 q2 y0 y1 y2
        obtain ⟨⟨q0, q1, q2⟩, y0, y1, y2⟩ := blk3 k2
        clear k2
        go_wp2_with fail
        go_ret
        refine ⟨by rw [HN.out]; rfl, HQ.out.2.2.setCell (p := ⟨b, 2, none⟩) (fun _ => rfl) _, ?_⟩
        rw [HN.out]
        exact RS.bad HQ.out.1 hat HQ.out.2.1 hnF
      · have hlong' : ¬ (bs.length : Int) - (at_ : Int) < (m : Int) := by omega
        have HN := Lib.hid (show stepR (rdT 16) [] (some r) = (q.take m, some (q.drop m)) by simp only [stepR, rdT, hu]; rw [if_pos (by omega)])
        have HQQ := Lib.hid hq
        clear hn hs hf he hu hq
        go_wp2_with fail
        go_quiet (fail)
        obtain ⟨w2, hw2⟩ : ∃ w2, w1.drewN nq = w2 := ⟨_, rfl⟩
        rw [hw2]
        have hq3 := drewN_only2 hw2
        have k2 := hq3.heap H.out.1 (fun h => h)
        have HQ := Lib.hid (And.intro k2 (And.intro (H.out.2.1.only hq3 (fun _ _ h => h)) (H.out.2.2.1.trans hq3 (fun _ _ h => h.elim))))
        clear hw2 hq3 q0 q1 q2 y0 y1 y2
        obtain ⟨⟨q0, q1, q2⟩, y0, y1, y2⟩ := blk3 k2
        clear k2
        obtain ⟨A', n', c', hv, hl, hc, hcm, _⟩ := id HQ.out.2.1
        injection hv with e1 e2 e3
        subst e1 e2 e3
        unfold maxLen at hcm
        have hcut := rd_cut HQ.out.2.1 at_ m (by omega)
        have hsl := slice_lh (P := Tryz.prog) 31 5 Tryz.underlying31 (fun _ => by kernel_rfl) A bs.length c at_ (at_ + m) (by omega) (by omega)
        rw [show at_ + m - at_ = m by omega] at hsl
        have emap : ((bs.map B8).drop at_).take m = ((bs.drop at_).take m).map B8 := by rw [← List.map_drop, ← List.map_take]
        rw [emap] at hcut
        generalize (if c = at_ then A else A.map (·.add (at_ * 1))) = A2 at hcut hsl
        generalize c - at_ = c2 at hcut hsl
        have hcv : ∀ k, (convert 31 9 (.slice A2 m c2)).run Tryz.prog (w2.drewN k) = .ok (.string ⟨((bs.drop at_).take m).toArray⟩) (w2.drewN k) := fun k =>
          conv_rd 31 9 5 Tryz.underlying31 Tryz.underlying5 Tryz.underlying9 (hcut.drewN k)
        have ecast : ((at_ + m : Nat) : Int) = (at_ : Int) + (m : Int) := by omega
        rw [ecast] at hsl
        have HT := Lib.hid (show q.take m = (bs.drop at_).take m by rw [HQQ.out])
        generalize (bs.drop at_).take m = tt at hcv HT
        clear hcut emap hl
        go_wp2_with fail
        go_quiet (fail)
        obtain ⟨w3, hw3⟩ : ∃ w3, w2.drewN nq = w3 := ⟨_, rfl⟩
        rw [hw3]
        have hq3 := drewN_only2 hw3
        have k3 := hq3.heap HQ.out.1 (fun h => h)
        have hmv := RS.move (p := at_ + m) k3 (by omega) (HQ.out.2.1.only hq3 (fun _ _ h => h)) hnF
        have ho3 : Only (fun k => k = b) w (w3.setCell ⟨b, 1, none⟩ (.int .i64 ((at_ + m : Nat) : Int))) := (HQ.out.2.2.trans hq3 (fun _ _ h => h.elim)).setCell (p := ⟨b, 1, none⟩) (fun _ => rfl) _
        rw [ecast] at hmv ho3
        have H3 := Lib.hid (And.intro hmv ho3)
        clear hw3 hq3 q0 q1 q2 y0 y1 y2 hcv hsl hmv ho3
        obtain ⟨⟨q0, q1, q2⟩, y0, y1, y2⟩ := blk3 k3
        clear k3
        go_wp2_with fail
        go_ret
        refine ⟨?_, H3.out.2, ?_⟩
        · rw [HN.out, HT.out]; rfl
        · rw [HN.out, HQQ.out, List.drop_drop]
          exact H3.out.1
end Go.Proofs.YtihjcfifakcpgaaGreatDoor
