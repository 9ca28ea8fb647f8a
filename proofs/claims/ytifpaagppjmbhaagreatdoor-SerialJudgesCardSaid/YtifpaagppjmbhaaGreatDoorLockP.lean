/- Plain laws for Locks: footprints in line, who waits for whom, who is ready. No program in sight. -/
import Derived.Test.YtifpaagppjmbhaaGreatDoorFootU
namespace Go.Proofs.YtifpaagppjmbhaaGreatDoor
set_option maxRecDepth 100000

/-- Whether two conflict, as a bool. -/
noncomputable def cfB (a b : List Cl) : Bool := @decide (ConflP a b) (Classical.propDecidable _)
theorem cfB_iff {a b : List Cl} : cfB a b = true ↔ ConflP a b := by
  unfold cfB
  exact @decide_eq_true_iff _ (Classical.propDecidable _)
theorem confl_turn {f g : List Cl} (h : ConflP f g) : ConflP g f := by
  obtain ⟨c, hc, d, hd, h1, h2, h3, h4, h5⟩ := h
  exact ⟨d, hd, c, hc, h1.symm, h2.symm, h3.symm, h5, h4⟩
theorem cfB_symm (a b : List Cl) : cfB a b = cfB b a := by
  rw [Bool.eq_iff_iff, cfB_iff, cfB_iff]
  exact ⟨confl_turn, confl_turn⟩

/-- A number in line, and its claims. -/
abbrev Ent := Int × List Cl
/-- Numbers rise. -/
def Rise (l : List Ent) : Prop := l.Pairwise (fun a b => a.1 < b.1)
def nums (l : List Ent) : List Int := l.map (·.1)
/-- The claims of a number. -/
def ftOf (l : List Ent) (i : Int) : Option (List Cl) := (l.find? (fun e => e.1 == i)).map (·.2)
/-- Whether one number waits for another. -/
noncomputable def wtB (l : List Ent) (i j : Int) : Bool :=
  match ftOf l i, ftOf l j with
  | some f, some g => decide (j < i) && cfB g f
  | _, _ => false
noncomputable def waits (l : List Ent) (i : Int) : List Int := (nums l).filter (wtB l i)
noncomputable def opn (l : List Ent) (i : Int) : Nat := (waits l i).length
noncomputable def rdyB (l : List Ent) (i : Int) : Bool := opn l i == 0
noncomputable def ready (l : List Ent) : List Int := (nums l).filter (rdyB l)
def outL (l : List Ent) (id : Int) : List Ent := l.filter (fun e => !(e.1 == id))

theorem Rise.nil : Rise [] := List.Pairwise.nil
theorem Rise.snoc {l : List Ent} (h : Rise l) {id : Int} {f : List Cl} (hid : ∀ e ∈ l, e.1 < id) : Rise (l ++ [(id, f)]) := by
  unfold Rise
  rw [List.pairwise_append]
  exact ⟨h, List.pairwise_singleton _ _, fun a ha b hb => by simp at hb; subst hb; exact hid a ha⟩
theorem Rise.out {l : List Ent} (h : Rise l) (id : Int) : Rise (outL l id) := List.Pairwise.filter _ h
theorem Rise.nums {l : List Ent} (h : Rise l) : (nums l).Pairwise (· < ·) := by
  unfold Go.Proofs.YtifpaagppjmbhaaGreatDoor.nums
  rw [List.pairwise_map]
  exact h
theorem Rise.nodup {l : List Ent} (h : Rise l) : (Go.Proofs.YtifpaagppjmbhaaGreatDoor.nums l).Nodup := h.nums.imp (fun hh => by omega)
theorem mem_nums {l : List Ent} {i : Int} : i ∈ nums l ↔ ∃ f, (i, f) ∈ l := by
  unfold nums
  simp
theorem ftOf_nil (i : Int) : ftOf [] i = none := rfl
theorem ftOf_cons (e : Ent) (l : List Ent) (i : Int) : ftOf (e :: l) i = if e.1 = i then some e.2 else ftOf l i := by
  unfold ftOf
  rw [List.find?_cons]
  by_cases h : e.1 = i
  · simp [h]
  · have : (e.1 == i) = false := by simpa using h
    simp [this, h]
theorem ftOf_append (l m : List Ent) (i : Int) : ftOf (l ++ m) i = (ftOf l i).or (ftOf m i) := by
  induction l with
  | nil => simp [ftOf_nil]
  | cons e l ih =>
    rw [List.cons_append, ftOf_cons, ftOf_cons, ih]
    split <;> simp
theorem ftOf_none {l : List Ent} {i : Int} : ftOf l i = none ↔ i ∉ nums l := by
  induction l with
  | nil => simp [ftOf_nil, nums]
  | cons e l ih =>
    rw [ftOf_cons]
    unfold nums at *
    by_cases h : e.1 = i
    · simp [h]
    · rw [if_neg h, ih]
      simp [Ne.symm h]
theorem ftOf_isSome {l : List Ent} {i : Int} : (ftOf l i).isSome = true ↔ i ∈ nums l := by
  have := ftOf_none (l := l) (i := i)
  cases h : ftOf l i with
  | none => simp [this.1 h]
  | some f =>
    simp
    exact Classical.byContradiction fun hh => by rw [this.2 hh] at h; cases h
theorem ftOf_mem {l : List Ent} {i : Int} {f : List Cl} (h : ftOf l i = some f) : (i, f) ∈ l := by
  induction l with
  | nil => cases h
  | cons e l ih =>
    rw [ftOf_cons] at h
    split at h
    · rename_i he
      injection h with h
      subst he h
      exact List.mem_cons_self
    · exact List.mem_cons_of_mem _ (ih h)
theorem ftOf_of_mem {l : List Ent} (hr : Rise l) {i : Int} {f : List Cl} (h : (i, f) ∈ l) : ftOf l i = some f := by
  induction l with
  | nil => cases h
  | cons e l ih =>
    rw [ftOf_cons]
    rcases List.mem_cons.1 h with h | h
    · subst h
      simp
    · have h1 := (List.pairwise_cons.1 hr).1 _ h
      rw [if_neg (by simp only at h1; omega)]
      exact ih (List.pairwise_cons.1 hr).2 h
theorem ftOf_at {l : List Ent} (hr : Rise l) {k : Nat} {e : Ent} (h : l[k]? = some e) : ftOf l e.1 = some e.2 := ftOf_of_mem hr (List.mem_of_getElem? h)
theorem ftOf_snoc {l : List Ent} {id : Int} (hid : ∀ e ∈ l, e.1 < id) (f : List Cl) (i : Int) : ftOf (l ++ [(id, f)]) i = if i = id then some f else ftOf l i := by
  rw [ftOf_append, ftOf_cons, ftOf_nil]
  by_cases h : i = id
  · subst h
    have : ftOf l i = none := ftOf_none.2 (fun hh => by obtain ⟨g, hg⟩ := mem_nums.1 hh; have := hid _ hg; simp at this)
    rw [this]
    simp
  · rw [if_neg (fun e => h e.symm), if_neg h]
    simp
theorem nums_outL (l : List Ent) (id : Int) : nums (outL l id) = (nums l).filter (fun j => !(j == id)) := by
  unfold nums outL
  rw [List.filter_map]
  rfl
theorem ftOf_out (l : List Ent) (id i : Int) : ftOf (outL l id) i = if i = id then none else ftOf l i := by
  induction l with
  | nil => simp [outL, ftOf_nil]
  | cons e l ih =>
    unfold outL at *
    rw [List.filter_cons]
    by_cases h : e.1 = id
    · have h1 : ¬ ((!(e.1 == id)) = true) := by simp [h]
      rw [if_neg h1, ih, ftOf_cons]
      by_cases h2 : i = id
      · simp [h2]
      · rw [if_neg h2, if_neg h2, if_neg (by omega)]
    · have h1 : (!(e.1 == id)) = true := by simpa using h
      rw [if_pos h1, ftOf_cons, ih, ftOf_cons]
      by_cases h2 : i = id
      · rw [if_pos h2, if_pos h2, if_neg (by omega)]
      · rw [if_neg h2, if_neg h2]

theorem wtB_eq {l : List Ent} {i j : Int} {f g : List Cl} (hf : ftOf l i = some f) (hg : ftOf l j = some g) : wtB l i j = (decide (j < i) && cfB g f) := by
  unfold wtB
  rw [hf, hg]
theorem wtB_true {l : List Ent} {i j : Int} : wtB l i j = true ↔ ∃ f g, ftOf l i = some f ∧ ftOf l j = some g ∧ j < i ∧ ConflP g f := by
  unfold wtB
  constructor
  · intro h
    split at h
    · rename_i f g hf hg
      simp [cfB_iff] at h
      exact ⟨f, g, hf, hg, h.1, h.2⟩
    · cases h
  · rintro ⟨f, g, hf, hg, h1, h2⟩
    rw [hf, hg]
    simp [h1, cfB_iff.2 h2]
theorem wtB_not_l {l : List Ent} {i j : Int} (h : i ∉ nums l) : wtB l i j = false := by
  unfold wtB
  rw [ftOf_none.2 h]
theorem wtB_not_r {l : List Ent} {i j : Int} (h : j ∉ nums l) : wtB l i j = false := by
  unfold wtB
  rw [ftOf_none.2 h]
  cases ftOf l i <;> rfl
theorem wtB_snoc {l : List Ent} (hr : Rise l) {id : Int} (hid : ∀ e ∈ l, e.1 < id) (f : List Cl) (i j : Int) :
    wtB (l ++ [(id, f)]) i j = (wtB l i j || ((i == id) && l.any (fun e => (e.1 == j) && cfB e.2 f))) := by
  rw [Bool.eq_iff_iff]
  simp only [Bool.or_eq_true, Bool.and_eq_true, wtB_true, ftOf_snoc hid, List.any_eq_true, beq_iff_eq, cfB_iff]
  constructor
  · rintro ⟨f', g', h1, h2, h3, h4⟩
    split at h1
    · rename_i hi
      injection h1 with h1
      subst h1
      rw [if_neg (by omega)] at h2
      exact .inr ⟨hi, (j, g'), ftOf_mem h2, rfl, h4⟩
    · split at h2
      · rename_i hi hj
        have := hid _ (ftOf_mem h1)
        simp only at this
        omega
      · exact .inl ⟨f', g', h1, h2, h3, h4⟩
  · rintro (⟨f', g', h1, h2, h3, h4⟩ | ⟨rfl, e, he, rfl, h⟩)
    · have b1 := hid _ (ftOf_mem h1)
      have b2 := hid _ (ftOf_mem h2)
      simp only at b1 b2
      exact ⟨f', g', by rw [if_neg (by omega)]; exact h1, by rw [if_neg (by omega)]; exact h2, h3, h4⟩
    · have b := hid _ he
      exact ⟨f, e.2, by simp, by rw [if_neg (by omega)]; exact ftOf_of_mem hr he, b, h⟩
theorem wtB_out (l : List Ent) (id i j : Int) : wtB (outL l id) i j = (wtB l i j && !(i == id) && !(j == id)) := by
  rw [Bool.eq_iff_iff]
  simp only [Bool.and_eq_true, wtB_true, ftOf_out, Bool.not_eq_true', beq_eq_false_iff_ne]
  constructor
  · rintro ⟨f, g, h1, h2, h3, h4⟩
    split at h1
    · cases h1
    · split at h2
      · cases h2
      · rename_i hi hj
        exact ⟨⟨⟨f, g, h1, h2, h3, h4⟩, hi⟩, hj⟩
  · rintro ⟨⟨⟨f, g, h1, h2, h3, h4⟩, hi⟩, hj⟩
    exact ⟨f, g, by rw [if_neg hi]; exact h1, by rw [if_neg hj]; exact h2, h3, h4⟩

theorem nums_snoc (l : List Ent) (id : Int) (f : List Cl) : nums (l ++ [(id, f)]) = nums l ++ [id] := by simp [nums]
theorem opn_not {l : List Ent} {i : Int} (h : i ∉ nums l) : opn l i = 0 := by
  unfold opn waits
  rw [List.length_eq_zero_iff, List.filter_eq_nil_iff]
  intro j _
  rw [wtB_not_l h]
  simp
/-- How many of a list conflict with a footprint. -/
noncomputable def cfN (l : List Ent) (f : List Cl) : Nat := (l.filter (fun e => cfB e.2 f)).length
theorem new_not {l : List Ent} {id : Int} (hid : ∀ e ∈ l, e.1 < id) : id ∉ nums l := fun hh => by
  obtain ⟨g, hg⟩ := mem_nums.1 hh
  have := hid _ hg
  simp at this
theorem waits_snoc_old {l : List Ent} (hr : Rise l) {id : Int} (hid : ∀ e ∈ l, e.1 < id) (f : List Cl) {i : Int} (hi : i ≠ id) : waits (l ++ [(id, f)]) i = waits l i := by
  unfold waits
  rw [nums_snoc, List.filter_append]
  have h1 : ∀ j, wtB (l ++ [(id, f)]) i j = wtB l i j := fun j => by
    rw [wtB_snoc hr hid]
    have : (i == id) = false := by simpa using hi
    simp [this]
  have h2 : wtB l i id = false := wtB_not_r (new_not hid)
  have h3 : (fun j => wtB (l ++ [(id, f)]) i j) = wtB l i := funext h1
  show (nums l).filter (fun j => wtB (l ++ [(id, f)]) i j) ++ [id].filter (fun j => wtB (l ++ [(id, f)]) i j) = _
  rw [h3]
  simp [h2]
theorem any_key {l : List Ent} (hr : Rise l) (f : List Cl) {e : Ent} (he : e ∈ l) : l.any (fun x => (x.1 == e.1) && cfB x.2 f) = cfB e.2 f := by
  rw [Bool.eq_iff_iff, List.any_eq_true]
  simp only [Bool.and_eq_true, beq_iff_eq]
  constructor
  · rintro ⟨x, hx, h1, h2⟩
    have a := ftOf_of_mem hr (show (x.1, x.2) ∈ l from hx)
    have b := ftOf_of_mem hr (show (e.1, e.2) ∈ l from he)
    rw [h1, b] at a
    injection a with a
    rw [a]
    exact h2
  · intro h
    exact ⟨e, he, rfl, h⟩
theorem waits_snoc_new {l : List Ent} (hr : Rise l) {id : Int} (hid : ∀ e ∈ l, e.1 < id) (f : List Cl) : waits (l ++ [(id, f)]) id = nums (l.filter (fun e => cfB e.2 f)) := by
  unfold waits
  rw [nums_snoc, List.filter_append]
  have h2 : [id].filter (wtB (l ++ [(id, f)]) id) = [] := by
    rw [List.filter_eq_nil_iff]
    intro j hj
    simp at hj
    subst hj
    intro hh
    obtain ⟨_, _, _, _, h, _⟩ := wtB_true.1 hh
    omega
  rw [h2, List.append_nil]
  unfold nums
  rw [List.filter_map]
  congr 1
  refine List.filter_congr fun e he => ?_
  show wtB (l ++ [(id, f)]) id e.1 = _
  rw [wtB_snoc hr hid, wtB_not_l (new_not hid)]
  simp [any_key hr f he]
theorem opn_snoc {l : List Ent} (hr : Rise l) {id : Int} (hid : ∀ e ∈ l, e.1 < id) (f : List Cl) (i : Int) : opn (l ++ [(id, f)]) i = if i = id then cfN l f else opn l i := by
  unfold opn
  split
  · rename_i h
    subst h
    rw [waits_snoc_new hr hid]
    simp [cfN, nums]
  · rename_i h
    rw [waits_snoc_old hr hid f h]
theorem waits_out {l : List Ent} {id i : Int} (hi : i ≠ id) : waits (outL l id) i = (waits l i).filter (fun j => !(j == id)) := by
  unfold waits
  rw [nums_outL, List.filter_filter, List.filter_filter]
  refine List.filter_congr fun j _ => ?_
  rw [wtB_out]
  have : (i == id) = false := by simpa using hi
  rw [this]
  simp [Bool.and_comm]
theorem filter_ne_len {l : List Int} (h : l.Nodup) (x : Int) : (l.filter (fun j => !(j == x))).length + (if x ∈ l then 1 else 0) = l.length := by
  induction l with
  | nil => simp
  | cons a l ih =>
    have hn := List.nodup_cons.1 h
    have := ih hn.2
    rw [List.filter_cons]
    by_cases hx : a = x
    · subst hx
      simp [hn.1] at this ⊢
      exact this
    · have h1 : (!(a == x)) = true := by simpa using hx
      rw [if_pos h1]
      have h2 : x ∈ a :: l ↔ x ∈ l := by simp [Ne.symm hx]
      simp only [h2, List.length_cons]
      omega
theorem mem_waits {l : List Ent} {i j : Int} : j ∈ waits l i ↔ wtB l i j = true := by
  unfold waits
  rw [List.mem_filter]
  constructor
  · exact fun h => h.2
  · intro h
    refine ⟨?_, h⟩
    exact Classical.byContradiction fun hh => by rw [wtB_not_r hh] at h; cases h
theorem opn_out {l : List Ent} (hr : Rise l) {id i : Int} (hi : i ≠ id) : opn (outL l id) i + (if wtB l i id = true then 1 else 0) = opn l i := by
  unfold opn
  rw [waits_out hi]
  have h := filter_ne_len (l := waits l i) (hr.nodup.filter _) id
  rw [← h]
  congr 1
  simp only [mem_waits]
theorem rdyB_iff {l : List Ent} {i : Int} : rdyB l i = true ↔ ∀ j, wtB l i j = false := by
  unfold rdyB opn
  rw [beq_iff_eq, List.length_eq_zero_iff, List.eq_nil_iff_forall_not_mem]
  refine forall_congr' fun j => ?_
  rw [mem_waits]
  simp
theorem mem_ready {l : List Ent} {i : Int} : i ∈ ready l ↔ i ∈ nums l ∧ rdyB l i = true := by
  unfold ready
  rw [List.mem_filter]
theorem out_not {l : List Ent} (id : Int) : id ∉ nums (outL l id) := by
  rw [nums_outL]
  simp
theorem mem_nums_out {l : List Ent} {id i : Int} : i ∈ nums (outL l id) ↔ i ∈ nums l ∧ i ≠ id := by
  rw [nums_outL]
  simp
/-- What is ready stays ready. -/
theorem rdyB_out {l : List Ent} {id i : Int} (h : rdyB l i = true) : rdyB (outL l id) i = true := by
  rw [rdyB_iff] at *
  intro j
  rw [wtB_out, h j]
  rfl
theorem ready_out {l : List Ent} {id i : Int} (h : i ∈ ready l) (hi : i ≠ id) : i ∈ ready (outL l id) := by
  rw [mem_ready] at *
  exact ⟨mem_nums_out.2 ⟨h.1, hi⟩, rdyB_out h.2⟩
/-- The first one is ready. -/
theorem first_ready {e : Ent} {l : List Ent} (hr : Rise (e :: l)) : rdyB (e :: l) e.1 = true := by
  rw [rdyB_iff]
  intro j
  rw [Bool.eq_false_iff]
  intro hh
  obtain ⟨f, g, h1, h2, h3, _⟩ := wtB_true.1 hh
  have hm := ftOf_mem h2
  rcases List.mem_cons.1 hm with hm | hm
  · rw [← hm] at h3
    simp at h3
  · have := (List.pairwise_cons.1 hr).1 _ hm
    simp only at this
    omega
theorem ready_ne {l : List Ent} (hr : Rise l) (hl : l ≠ []) : ready l ≠ [] := by
  cases l with
  | nil => exact absurd rfl hl
  | cons e l =>
    intro h
    have : e.1 ∈ ready (e :: l) := mem_ready.2 ⟨by simp [nums], first_ready hr⟩
    rw [h] at this
    cases this
/-- Two that are ready do not conflict. -/
theorem ready_apart {l : List Ent} {i j : Int} {f g : List Cl} (hi : i ∈ ready l) (hj : j ∈ ready l) (hne : i ≠ j) (hf : ftOf l i = some f) (hg : ftOf l j = some g) : ¬ ConflP f g := by
  intro hc
  rw [mem_ready, rdyB_iff] at hi hj
  rcases Int.lt_or_gt_of_ne hne with h | h
  · have := hj.2 i
    rw [wtB_true.2 ⟨g, f, hg, hf, h, hc⟩] at this
    cases this
  · have := hi.2 j
    rw [wtB_true.2 ⟨f, g, hf, hg, h, confl_turn hc⟩] at this
    cases this
theorem ready_rise {l : List Ent} (hr : Rise l) : (ready l).Pairwise (· < ·) := hr.nums.filter _
theorem outL_comm (l : List Ent) (a b : Int) : outL (outL l a) b = outL (outL l b) a := by
  unfold outL
  rw [List.filter_filter, List.filter_filter]
  refine List.filter_congr fun e _ => ?_
  exact Bool.and_comm _ _
theorem outL_len {l : List Ent} (hr : Rise l) {id : Int} (h : id ∈ nums l) : (outL l id).length + 1 = l.length := by
  have h1 := filter_ne_len (l := nums l) hr.nodup id
  rw [if_pos h] at h1
  have h2 := nums_outL l id
  have h3 : (nums (outL l id)).length = (outL l id).length := by simp [nums]
  have h4 : (nums l).length = l.length := by simp [nums]
  rw [h2] at h3
  omega
theorem outL_le (l : List Ent) (id : Int) : (outL l id).length ≤ l.length := List.length_filter_le _ _
theorem mem_out {l : List Ent} {id : Int} {e : Ent} : e ∈ outL l id ↔ e ∈ l ∧ e.1 ≠ id := by
  unfold outL
  simp

end Go.Proofs.YtifpaagppjmbhaaGreatDoor
