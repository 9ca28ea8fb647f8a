/- Plain laws for LocksReads: numbers that only read, and one that writes. -/
import Derived.Test.YtdmpdlpfanfjoaaLockQ
import Derived.Test.YtdmpdlpfanfjoaaFootZ
namespace Go.Proofs.Ytdmpdlpfanfjoaa

/-- A claim that reads, or writes. -/
def setW (b : Bool) (c : Cl) : Cl := ⟨b, c.col, c.key, c.lo, c.hi⟩
/-- All but the number 50 have R; 50 has W. -/
def RWl (R W : List Cl) (l : List Ent) : Prop := ∀ e ∈ l, (e.1 ≠ 50 ∧ e.2 = R) ∨ (e.1 = 50 ∧ e.2 = W)
structure CfRW (R W : List Cl) : Prop where
  rr : ¬ ConflP R R
  rw : ConflP R W
  wr : ConflP W R
theorem RWl.out {R W : List Cl} {l : List Ent} (h : RWl R W l) (id : Int) : RWl R W (outL l id) := fun e he => h e (mem_out.1 he).1
theorem RWl.nil (R W : List Cl) : RWl R W [] := fun e he => by cases he
theorem RWl.snocR {R W : List Cl} {l : List Ent} (h : RWl R W l) {i : Int} (hi : i ≠ 50) : RWl R W (l ++ [(i, R)]) := fun e he => by
  rcases List.mem_append.1 he with he | he
  · exact h e he
  · simp at he; subst he; exact .inl ⟨hi, rfl⟩
theorem RWl.snocW {R W : List Cl} {l : List Ent} (h : RWl R W l) : RWl R W (l ++ [(50, W)]) := fun e he => by
  rcases List.mem_append.1 he with he | he
  · exact h e he
  · simp at he; subst he; exact .inr ⟨rfl, rfl⟩
theorem wt_RW {R W : List Cl} {l : List Ent} (h : RWl R W l) (c : CfRW R W) (hr : Rise l) (i j : Int) : wtB l i j = true ↔ i ∈ nums l ∧ j ∈ nums l ∧ j < i ∧ (i = 50 ∨ j = 50) := by
  rw [wtB_true]
  constructor
  · rintro ⟨f, g, h1, h2, h3, h4⟩
    have m1 := ftOf_mem h1
    have m2 := ftOf_mem h2
    refine ⟨mem_nums.2 ⟨f, m1⟩, mem_nums.2 ⟨g, m2⟩, h3, ?_⟩
    rcases h _ m1 with ⟨a1, a2⟩ | ⟨a1, _⟩
    · rcases h _ m2 with ⟨b1, b2⟩ | ⟨b1, _⟩
      · simp only at a2 b2
        rw [a2, b2] at h4
        exact absurd h4 c.rr
      · exact .inr b1
    · exact .inl a1
  · rintro ⟨m1, m2, h3, h4⟩
    obtain ⟨f, hf⟩ := mem_nums.1 m1
    obtain ⟨g, hg⟩ := mem_nums.1 m2
    refine ⟨f, g, ftOf_of_mem hr hf, ftOf_of_mem hr hg, h3, ?_⟩
    rcases h _ hf with ⟨a1, a2⟩ | ⟨a1, a2⟩
    · rcases h _ hg with ⟨b1, b2⟩ | ⟨b1, b2⟩
      · simp only at a1 b1
        rcases h4 with h4 | h4
        · exact absurd h4 a1
        · exact absurd h4 b1
      · simp only at a2 b2
        rw [a2, b2]
        exact c.wr
    · rcases h _ hg with ⟨b1, b2⟩ | ⟨b1, b2⟩
      · simp only at a2 b2
        rw [a2, b2]
        exact c.rw
      · simp only at a1 b1
        omega
theorem filter_one {l : List Int} (h : l.Nodup) {x : Int} (hx : x ∈ l) : l.filter (fun j => j == x) = [x] := by
  induction l with
  | nil => cases hx
  | cons a l ih =>
    have hn := List.nodup_cons.1 h
    rw [List.filter_cons]
    by_cases ha : a = x
    · subst ha
      have : l.filter (fun j => j == a) = [] := List.filter_eq_nil_iff.2 (fun j hj e => hn.1 (by simp at e; rw [← e]; exact hj))
      simp [this]
    · have h1 : (a == x) = false := by simpa using ha
      rw [h1]
      rcases List.mem_cons.1 hx with hx | hx
      · exact absurd hx.symm ha
      · simpa using ih hn.2 hx
section
variable {R W : List Cl} {l : List Ent}
theorem ready_reads (h : RWl R W l) (c : CfRW R W) (hr : Rise l) (h50 : (50 : Int) ∉ nums l) : ready l = nums l := by
  unfold ready
  rw [List.filter_eq_self]
  intro i hi
  rw [rdyB_iff]
  intro j
  rw [Bool.eq_false_iff]
  intro hh
  obtain ⟨a, b, _, h5⟩ := (wt_RW h c hr i j).1 hh
  rcases h5 with rfl | rfl
  · exact h50 a
  · exact h50 b
theorem waits_50 (h : RWl R W l) (c : CfRW R W) (hr : Rise l) (h50 : (50 : Int) ∈ nums l) : waits l 50 = (nums l).filter (fun j => decide (j < 50)) := by
  unfold waits
  refine List.filter_congr fun j hj => ?_
  rw [Bool.eq_iff_iff, wt_RW h c hr, decide_eq_true_iff]
  exact ⟨fun hh => hh.2.2.1, fun hh => ⟨h50, hj, hh, .inl rfl⟩⟩
theorem waits_late (h : RWl R W l) (c : CfRW R W) (hr : Rise l) (h50 : (50 : Int) ∈ nums l) {i : Int} (hi : i ∈ nums l) (hi5 : 50 < i) : waits l i = [50] := by
  rw [← filter_one hr.nodup h50]
  unfold waits
  refine List.filter_congr fun j hj => ?_
  rw [Bool.eq_iff_iff, wt_RW h c hr, beq_iff_eq]
  constructor
  · rintro ⟨_, _, _, h5 | h5⟩
    · omega
    · exact h5
  · rintro rfl
    exact ⟨hi, h50, hi5, .inr rfl⟩
theorem rdy_early (h : RWl R W l) (c : CfRW R W) (hr : Rise l) {i : Int} (hi : i < 50) : rdyB l i = true := by
  rw [rdyB_iff]
  intro j
  rw [Bool.eq_false_iff]
  intro hh
  obtain ⟨_, _, h3, h5⟩ := (wt_RW h c hr i j).1 hh
  omega
theorem rdy_late (h : RWl R W l) (c : CfRW R W) (hr : Rise l) (h50 : (50 : Int) ∈ nums l) {i : Int} (hi : i ∈ nums l) (hi5 : 50 < i) : rdyB l i = false := by
  rw [Bool.eq_false_iff]
  intro hh
  rw [rdyB_waits, waits_late h c hr h50 hi hi5] at hh
  cases hh
theorem ready_50 (h : RWl R W l) (c : CfRW R W) (hr : Rise l) (h50 : (50 : Int) ∈ nums l) (hge : ∀ i ∈ nums l, 50 ≤ i) : ready l = [50] := by
  rw [← filter_one hr.nodup h50]
  unfold ready
  refine List.filter_congr fun i hi => ?_
  by_cases e : i = 50
  · subst e
    have : rdyB l 50 = true := by
      rw [rdyB_iff]
      intro j
      rw [Bool.eq_false_iff]
      intro hh
      obtain ⟨_, b, h3, _⟩ := (wt_RW h c hr 50 j).1 hh
      have := hge j b
      omega
    rw [this]
    rfl
  · have := hge i hi
    rw [rdy_late h c hr h50 hi (by omega)]
    simp [e]
end
theorem Good.setW {l : List Cl} (h : ∀ c ∈ l, c.fits) {b : Bool} (ho : ∀ c ∈ l.map (setW b), Ok c) : Good (l.map (Go.Proofs.Ytdmpdlpfanfjoaa.setW b)) := fun c hc => by
  refine ⟨ho c hc, ?_⟩
  obtain ⟨d, hd, rfl⟩ := List.mem_map.1 hc
  exact h d hd
theorem cf_forms {l R W : List Cl} (hne : l ≠ []) (hg : Good (l.map (setW false))) (hg' : Good (l.map (setW true))) (hR : IsForm (l.map (setW false)) R) (hW : IsForm (l.map (setW true)) W) : CfRW R W := by
  have gR := form_good hR hg
  have gW := form_good hW hg'
  have h1 : ∀ t, lev R t ≠ 2 := fun t h2 => by
    rw [hR.2] at h2
    obtain ⟨c, hc, _, hw⟩ := lev_two.1 h2
    obtain ⟨d, _, rfl⟩ := List.mem_map.1 hc
    cases hw
  have hrw : ConflP R W := by
    rw [confl_lev gR gW]
    cases l with
    | nil => exact absurd rfl hne
    | cons c l =>
      have hp : c.lo ≤ c.hi := (hg (setW false c) (by simp)).1.proper
      refine ⟨(c.col, c.key, c.lo), ?_, ?_, .inr ?_⟩
      · rw [hR.2]
        exact lev_pos.2 ⟨setW false c, by simp, rfl, rfl, Int.le_refl _, hp⟩
      · rw [hW.2]
        exact lev_pos.2 ⟨setW true c, by simp, rfl, rfl, Int.le_refl _, hp⟩
      · rw [hW.2]
        exact lev_two.2 ⟨setW true c, by simp, ⟨rfl, rfl, Int.le_refl _, hp⟩, rfl⟩
  refine ⟨fun hc => ?_, hrw, confl_turn hrw⟩
  rw [confl_lev gR gR] at hc
  obtain ⟨t, _, _, h3 | h3⟩ := hc
  · exact h1 t h3
  · exact h1 t h3

end Go.Proofs.Ytdmpdlpfanfjoaa
