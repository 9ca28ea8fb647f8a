/- PLAIN: what is read one behind the other. -/
import Derived.Test.YtihjcfifakcpgaaGreatDoorRefV
namespace Go.Proofs.YtihjcfifakcpgaaGreatDoor
set_option maxRecDepth 100000

/-- Out of what is left (s) x was read by f, and s' is left; or something was not there. -/
def Got {α : Type} (f : List UInt8 → Option (α × List UInt8)) (s : Option (List UInt8)) (x : α) (s' : Option (List UInt8)) : Prop :=
  (∃ r q, s = some r ∧ f r = some (x, q) ∧ s' = some q) ∨ (s' = none ∧ ∀ r, s = some r → f r = none)
section
variable {α β : Type} {f : List UInt8 → Option (α × List UInt8)} {s s1 s2 : Option (List UInt8)} {x : α} {y : β}
theorem got_step (f : List UInt8 → Option (α × List UInt8)) (z : α) (s : Option (List UInt8)) : Got f s (stepR f z s).1 (stepR f z s).2 := by
  rcases stepR_ways f z s with ⟨he, hn⟩ | ⟨r, n, q, h1, h2, he⟩
  · rw [he]; exact .inr ⟨rfl, hn⟩
  · rw [he]; exact .inl ⟨r, q, h1, h2, rfl⟩
/-- One reading behind the other. -/
def bindR (f : List UInt8 → Option (α × List UInt8)) (g : α → List UInt8 → Option (β × List UInt8)) (r : List UInt8) : Option (β × List UInt8) :=
  match f r with
  | some (x, q) => g x q
  | none => none
theorem bindR_some {g : α → List UInt8 → Option (β × List UInt8)} {r q : List UInt8} (h : f r = some (x, q)) : bindR f g r = g x q := by
  unfold bindR
  rw [h]
theorem bindR_none {g : α → List UInt8 → Option (β × List UInt8)} {r : List UInt8} (h : f r = none) : bindR f g r = none := by
  unfold bindR
  rw [h]
theorem Got.bind {g : α → List UInt8 → Option (β × List UInt8)} (h1 : Got f s x s1) (h2 : Got (g x) s1 y s2) : Got (bindR f g) s y s2 := by
  rcases h1 with ⟨r, q, rfl, hf, rfl⟩ | ⟨rfl, hn⟩
  · rcases h2 with ⟨r', q', e, hg, rfl⟩ | ⟨rfl, hg⟩
    · injection e with e
      subst e
      exact .inl ⟨r, q', rfl, (bindR_some hf).trans hg, rfl⟩
    · exact .inr ⟨rfl, fun r' e => by injection e with e; subst e; exact (bindR_some hf).trans (hg q rfl)⟩
  · rcases h2 with ⟨r', q', e, _⟩ | ⟨rfl, _⟩
    · cases e
    · exact .inr ⟨rfl, fun r e => bindR_none (hn r e)⟩
theorem Got.pure (x : α) (s : Option (List UInt8)) : Got (fun r => some (x, r)) s x s := by
  cases s with
  | none => exact .inr ⟨rfl, fun r e => by cases e⟩
  | some r => exact .inl ⟨r, r, rfl, rfl, rfl⟩
theorem Got.congr {g : List UInt8 → Option (α × List UInt8)} (h : Got f s x s1) (e : ∀ r, f r = g r) : Got g s x s1 := by
  rcases h with ⟨r, q, h1, h2, h3⟩ | ⟨h1, h2⟩
  · exact .inl ⟨r, q, h1, (e r).symm.trans h2, h3⟩
  · exact .inr ⟨h1, fun r hr => (e r).symm.trans (h2 r hr)⟩
theorem Got.start (r : List UInt8) : Got (rdMany f 0) (some r) [] (some r) := .inl ⟨r, r, rfl, rfl, rfl⟩
theorem Got.startN : Got (rdMany f 0) s [] s := by
  cases s with
  | none => exact .inr ⟨rfl, fun r e => by cases e⟩
  | some r => exact Got.start r
theorem Got.more {k : Nat} {xs : List α} (h : Got (rdMany f k) s xs s1) (h2 : Got f s1 x s2) : Got (rdMany f (k + 1)) s (xs ++ [x]) s2 := by
  have := Got.bind (g := fun xs => bindR f fun x r => some (xs ++ [x], r)) h (Got.bind (g := fun x r => some (xs ++ [x], r)) h2 (Got.pure _ _))
  refine this.congr (fun r => ?_)
  rw [rdMany]
  cases h : rdMany f k r with
  | none => exact bindR_none h
  | some z =>
    obtain ⟨xs, q⟩ := z
    refine (bindR_some h).trans ?_
    simp only
    cases h' : f q with
    | none => exact bindR_none h'
    | some z => exact bindR_some h'
theorem Got.stop {k n : Nat} {xs : List α} (h : Got (rdMany f k) s xs none) (hk : k ≤ n) : Got (rdMany f n) s xs none := by
  rcases h with ⟨r, q, _, _, e⟩ | ⟨_, h⟩
  · cases e
  · refine .inr ⟨rfl, fun r hr => ?_⟩
    have := rdMany_none (h r hr) (n - k)
    rwa [Nat.add_sub_cancel' hk] at this
end
theorem rdNs1 (rd : List UInt8 → Option (Int × List UInt8)) (r : List UInt8) : rdNs rd 1 r = match rd r with | some (n, q) => some ([n], q) | none => none := by
  simp only [rdNs]
  rfl
theorem Got.list {α : Type} {f : List UInt8 → Option (α × List UInt8)} {s s1 s2 : Option (List UInt8)} {M n : Int} {xs : List α} (h : Got (cntF M) s n s1) (h2 : Got (rdMany f n.toNat) s1 xs s2) : Got (rdL f M) s xs s2 := by
  refine (Got.bind (g := fun n q => rdMany f n.toNat q) h h2).congr (fun r => ?_)
  unfold bindR cntF rdL
  rw [rdNs1]
  cases rdUI r with
  | none => rfl
  | some z =>
    obtain ⟨m, q⟩ := z
    simp only
    by_cases hm : m ≤ M
    · rw [if_pos hm, if_pos hm]
    · rw [if_neg hm, if_neg hm]
theorem rdOp_eq (r : List UInt8) : rdOp r = bindR rdUI (fun d => bindR rdUI fun a => bindR rdUI fun b => bindR rdI fun c => bindR rdUI fun n q => some ((⟨d, a, b, c, n⟩ : POp), q)) r := by
  unfold rdOp
  simp only [rdNs]
  cases h1 : rdUI r with
  | none => exact (bindR_none h1).symm
  | some x1 =>
    obtain ⟨d, q⟩ := x1
    refine Eq.trans ?_ (bindR_some h1).symm
    simp only
    cases h2 : rdUI q with
    | none => exact (bindR_none h2).symm
    | some x2 =>
      obtain ⟨a, q2⟩ := x2
      refine Eq.trans ?_ (bindR_some h2).symm
      simp only
      cases h3 : rdUI q2 with
      | none => exact (bindR_none h3).symm
      | some x3 =>
        obtain ⟨b, q3⟩ := x3
        refine Eq.trans ?_ (bindR_some h3).symm
        simp only [List.nil_append, List.cons_append]
        cases h4 : rdI q3 with
        | none => exact (bindR_none h4).symm
        | some x4 =>
          obtain ⟨c, q4⟩ := x4
          refine Eq.trans ?_ (bindR_some h4).symm
          simp only
          cases h5 : rdUI q4 with
          | none => exact (bindR_none h5).symm
          | some x5 =>
            obtain ⟨n, q5⟩ := x5
            exact (bindR_some (g := fun n q => some ((⟨d, a, b, c, n⟩ : POp), q)) h5).symm
theorem Got.op {s s1 s2 s3 s4 s5 : Option (List UInt8)} {d a b c n : Int} (h1 : Got rdUI s d s1) (h2 : Got rdUI s1 a s2) (h3 : Got rdUI s2 b s3) (h4 : Got rdI s3 c s4) (h5 : Got rdUI s4 n s5) : Got rdOp s ⟨d, a, b, c, n⟩ s5 :=
  (Got.bind (g := fun d => bindR rdUI fun a => bindR rdUI fun b => bindR rdI fun c => bindR rdUI fun n q => some ((⟨d, a, b, c, n⟩ : POp), q)) h1
    (Got.bind (g := fun a => bindR rdUI fun b => bindR rdI fun c => bindR rdUI fun n q => some ((⟨d, a, b, c, n⟩ : POp), q)) h2
      (Got.bind (g := fun b => bindR rdI fun c => bindR rdUI fun n q => some ((⟨d, a, b, c, n⟩ : POp), q)) h3
        (Got.bind (g := fun c => bindR rdUI fun n q => some ((⟨d, a, b, c, n⟩ : POp), q)) h4
          (Got.bind (g := fun n q => some ((⟨d, a, b, c, n⟩ : POp), q)) h5 (Got.pure _ _)))))).congr (fun r => (rdOp_eq r).symm)
theorem rdCl_eq (r : List UInt8) : rdCl r = bindR (cntF 1) (fun mk => bindR rdI fun col => bindR (rdT 16) fun key => bindR rdI fun lo => bindR rdI fun hi q => some ((⟨decide (mk = 1), col, key, lo, hi⟩ : Cl), q)) r := by
  unfold rdCl
  simp only [rdNs]
  cases h1 : rdUI r with
  | none => exact (bindR_none (by unfold cntF; rw [h1])).symm
  | some x1 =>
    obtain ⟨mk, q⟩ := x1
    simp only [List.nil_append]
    by_cases hm : mk ≤ 1
    · rw [if_pos hm]
      refine Eq.trans ?_ (bindR_some (f := cntF 1) (x := mk) (q := q) (by unfold cntF; rw [h1]; exact if_pos hm)).symm
      cases h2 : rdI q with
      | none => exact (bindR_none h2).symm
      | some x2 =>
        obtain ⟨col, q2⟩ := x2
        refine Eq.trans ?_ (bindR_some h2).symm
        simp only
        cases h3 : rdT 16 q2 with
        | none => exact (bindR_none h3).symm
        | some x3 =>
          obtain ⟨key, q3⟩ := x3
          refine Eq.trans ?_ (bindR_some h3).symm
          simp only
          cases h4 : rdI q3 with
          | none => exact (bindR_none h4).symm
          | some x4 =>
            obtain ⟨lo, q4⟩ := x4
            refine Eq.trans ?_ (bindR_some h4).symm
            simp only [List.cons_append, List.nil_append]
            cases h5 : rdI q4 with
            | none => exact (bindR_none h5).symm
            | some x5 =>
              obtain ⟨hi, q5⟩ := x5
              exact (bindR_some (g := fun hi q => some ((⟨decide (mk = 1), col, key, lo, hi⟩ : Cl), q)) h5).symm
    · rw [if_neg hm]
      exact (bindR_none (f := cntF 1) (by unfold cntF; rw [h1]; exact if_neg hm)).symm
theorem Got.cl {s s1 s2 s3 s4 s5 : Option (List UInt8)} {mk col lo hi : Int} {key : List UInt8} (h1 : Got (cntF 1) s mk s1) (h2 : Got rdI s1 col s2) (h3 : Got (rdT 16) s2 key s3) (h4 : Got rdI s3 lo s4) (h5 : Got rdI s4 hi s5) : Got rdCl s ⟨decide (mk = 1), col, key, lo, hi⟩ s5 :=
  (Got.bind (g := fun mk => bindR rdI fun col => bindR (rdT 16) fun key => bindR rdI fun lo => bindR rdI fun hi q => some ((⟨decide (mk = 1), col, key, lo, hi⟩ : Cl), q)) h1
    (Got.bind (g := fun col => bindR (rdT 16) fun key => bindR rdI fun lo => bindR rdI fun hi q => some ((⟨decide (mk = 1), col, key, lo, hi⟩ : Cl), q)) h2
      (Got.bind (g := fun key => bindR rdI fun lo => bindR rdI fun hi q => some ((⟨decide (mk = 1), col, key, lo, hi⟩ : Cl), q)) h3
        (Got.bind (g := fun lo => bindR rdI fun hi q => some ((⟨decide (mk = 1), col, key, lo, hi⟩ : Cl), q)) h4
          (Got.bind (g := fun hi q => some ((⟨decide (mk = 1), col, key, lo, hi⟩ : Cl), q)) h5 (Got.pure _ _)))))).congr (fun r => (rdCl_eq r).symm)
/-- All of an entry. -/
theorem Got.ent {bs : List UInt8} {s1 s2 s3 s4 : Option (List UInt8)} {id : Int} {lo : List POp} {la : List Int} {lc : List Cl} (h1 : Got rdUI (some bs) id s1) (h2 : Got (rdL rdOp 64) s1 lo s2) (h3 : Got (rdL rdI 8) s2 la s3) (h4 : Got (rdL rdCl 64) s3 lc s4) :
    (s4 = some [] ∧ rdEnt bs = some ⟨id, lo, la, lc⟩) ∨ (s4 ≠ some [] ∧ rdEnt bs = none) := by
  have e : rdEnt bs = match rdUI bs with
      | some (id, r) => (match rdL rdOp 64 r with
        | some (ops, r2) => (match rdL rdI 8 r2 with
          | some (args, r3) => (match rdL rdCl 64 r3 with
            | some (cls, r4) => if r4 = [] then some ⟨id, ops, args, cls⟩ else none
            | none => none)
          | none => none)
        | none => none)
      | none => none := by
    unfold rdEnt
    rw [rdNs1]
    cases rdUI bs with
    | none => rfl
    | some x => rfl
  rcases h1 with ⟨r, q, e1, hf, rfl⟩ | ⟨rfl, hn⟩
  · injection e1 with e1
    subst e1
    rw [e, hf]
    simp only
    rcases h2 with ⟨r, q2, e2, hf2, rfl⟩ | ⟨rfl, hn⟩
    · injection e2 with e2
      subst e2
      rw [hf2]
      simp only
      rcases h3 with ⟨r, q3, e3, hf3, rfl⟩ | ⟨rfl, hn⟩
      · injection e3 with e3
        subst e3
        rw [hf3]
        simp only
        rcases h4 with ⟨r, q4, e4, hf4, rfl⟩ | ⟨rfl, hn⟩
        · injection e4 with e4
          subst e4
          rw [hf4]
          simp only
          by_cases hq : q4 = []
          · rw [if_pos hq, hq]; exact .inl ⟨rfl, rfl⟩
          · rw [if_neg hq]; exact .inr ⟨fun h => hq (by injection h), rfl⟩
        · rw [hn _ rfl]
          exact .inr ⟨by simp, rfl⟩
      · have h4n : s4 = none := by
          rcases h4 with ⟨_, _, e, _⟩ | ⟨h, _⟩
          · cases e
          · exact h
        rw [hn _ rfl, h4n]
        exact .inr ⟨by simp, rfl⟩
    · have h3n : s3 = none := by
        rcases h3 with ⟨_, _, e, _⟩ | ⟨h, _⟩
        · cases e
        · exact h
      subst h3n
      have h4n : s4 = none := by
        rcases h4 with ⟨_, _, e, _⟩ | ⟨h, _⟩
        · cases e
        · exact h
      rw [hn _ rfl, h4n]
      exact .inr ⟨by simp, rfl⟩
  · have h2n : s2 = none := by
      rcases h2 with ⟨_, _, e, _⟩ | ⟨h, _⟩
      · cases e
      · exact h
    subst h2n
    have h3n : s3 = none := by
      rcases h3 with ⟨_, _, e, _⟩ | ⟨h, _⟩
      · cases e
      · exact h
    subst h3n
    have h4n : s4 = none := by
      rcases h4 with ⟨_, _, e, _⟩ | ⟨h, _⟩
      · cases e
      · exact h
    rw [e, hn bs rfl, h4n]
    exact .inr ⟨by simp, rfl⟩
end Go.Proofs.YtihjcfifakcpgaaGreatDoor
