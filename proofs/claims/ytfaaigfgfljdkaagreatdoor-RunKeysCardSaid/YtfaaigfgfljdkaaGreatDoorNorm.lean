/- PLAIN: the normal form of claims as a function ('normF'), and that it is the one. -/
import Derived.Test.YtfaaigfgfljdkaaGreatDoorFootX
namespace Go.Proofs.YtfaaigfgfljdkaaGreatDoor
set_option maxRecDepth 100000

def dedupK : List (List UInt8) → List (List UInt8)
  | [] => []
  | k :: l => if k ∈ l then dedupK l else k :: dedupK l
theorem mem_dedupK {k : List UInt8} : ∀ {l : List (List UInt8)}, k ∈ dedupK l ↔ k ∈ l
  | [] => Iff.rfl
  | a :: l => by
    unfold dedupK
    split
    · rename_i h
      rw [mem_dedupK, List.mem_cons]
      constructor
      · exact .inr
      · rintro (rfl | h')
        · exact h
        · exact h'
    · rw [List.mem_cons, List.mem_cons, mem_dedupK]
theorem dedupK_nodup : ∀ (l : List (List UInt8)), (dedupK l).Nodup
  | [] => List.nodup_nil
  | a :: l => by
    unfold dedupK
    split
    · exact dedupK_nodup l
    · rename_i h
      exact List.nodup_cons.2 ⟨fun h' => h (mem_dedupK.1 h'), dedupK_nodup l⟩
def rowKeys (l : List Cl) : List (List UInt8) := dedupK ((l.filter fun c => c.col == -1).map Cl.key)
def sortLo (s : List (Int × Int)) : List (Int × Int) := s.mergeSort fun a b => decide (a.1 ≤ b.1)
theorem sortLo_perm (s : List (Int × Int)) : (sortLo s).Perm s := List.mergeSort_perm _ _
theorem sortLo_sorted (s : List (Int × Int)) : LoSorted (sortLo s) := by
  have := List.pairwise_mergeSort (le := fun a b : Int × Int => decide (a.1 ≤ b.1)) (fun a b c h h' => by simp at h h' ⊢; omega) (fun a b => by simp; omega) s
  exact this.imp (fun h => by simpa using h)
def normW (l : List Cl) (i : Int) : List (Int × Int) := joinS (sortLo (spansOf l i true))
def normR (l : List Cl) (i : Int) : List (Int × Int) := withoutS (joinS (sortLo (spansOf l i false))) (normW l i)
/-- Claims in their normal form. -/
def normF (l : List Cl) : List Cl := ((rowKeys l).mergeSort fun x y => decide (x ≤ y)).map (rowCl fun key => lev l (-1, key, 0)) ++ cols (normW l) (normR l) 4
theorem normF_is {l : List Cl} (hl : ∀ c ∈ l, Ok c) : IsForm l (normF l) := by
  refine isForm_of hl (dedupK_nodup _) (fun k => ?_) rfl (fun i _ => colOk_of hl (sortLo_perm _) (sortLo_perm _) (sortLo_sorted _) (sortLo_sorted _))
  rw [mem_dedupK, List.mem_map]
  have hb := lev_bd l (-1, k, 0)
  constructor
  · rintro ⟨c, hc, rfl⟩
    simp only [List.mem_filter, beq_iff_eq] at hc
    have h1 := (hl c hc.1).parts
    have : 1 ≤ lev l (-1, c.key, 0) := lev_pos.2 ⟨c, hc.1, hc.2, rfl, by show c.lo ≤ 0; omega, by show 0 ≤ c.hi; omega⟩
    omega
  · intro h
    obtain ⟨c, hc, h1, h2, h3, h4⟩ := lev_pos.1 (show 1 ≤ lev l (-1, k, 0) by omega)
    exact ⟨c, by simp only [List.mem_filter, beq_iff_eq]; exact ⟨hc, h1⟩, h2⟩
theorem normF_unique {l out : List Cl} (hl : ∀ c ∈ l, Ok c) (h : IsForm l out) : out = normF l := h.unique (normF_is hl)
theorem normF_good {l : List Cl} (hl : Good l) : Good (normF l) := form_good (normF_is hl.ok) hl
theorem normF_lev {l : List Cl} (hl : ∀ c ∈ l, Ok c) (t : Thing) : lev (normF l) t = lev l t := (normF_is hl).2 t
theorem normF_congr {a b : List Cl} (ha : ∀ c ∈ a, Ok c) (hb : ∀ c ∈ b, Ok c) (h : ∀ t, lev a t = lev b t) : normF a = normF b :=
  normF_unique hb ((normF_is ha).congr (fun t => (h t).symm))
theorem normF_nil : normF [] = [] := (normF_unique (fun c hc => by simp at hc) isForm_nil).symm
theorem normF_more {a b : List Cl} (ha : ∀ c ∈ a, Ok c) (hb : ∀ c ∈ b, Ok c) : IsForm (normF a ++ b) (normF (a ++ b)) :=
  (normF_is (fun c hc => (List.mem_append.1 hc).elim (ha c) (hb c))).congr (fun t => by rw [lev_append, lev_append, normF_lev ha])
theorem normF_again {a b : List Cl} (hg : Good a) (hb : ∀ c ∈ b, Ok c) : normF (normF a ++ b) = normF (a ++ b) := by
  have ha := hg.ok
  have hn : ∀ c ∈ normF a, Ok c := (normF_good hg).ok
  refine normF_congr (fun c hc => (List.mem_append.1 hc).elim (hn c) (hb c)) (fun c hc => (List.mem_append.1 hc).elim (ha c) (hb c)) (fun t => ?_)
  rw [lev_append, lev_append, normF_lev ha]
theorem normF_within {a b : List Cl} (ha : ∀ c ∈ a, Ok c) (hb : ∀ c ∈ b, Ok c) (h : WithinP (normF b) (normF a)) : normF (a ++ b) = normF a := by
  refine normF_congr (fun c hc => (List.mem_append.1 hc).elim (ha c) (hb c)) ha (fun t => ?_)
  have := within_lev.1 h t
  rw [normF_lev ha, normF_lev hb] at this
  rw [lev_append]
  omega
theorem NewV.norm {l : List Cl} {w w' : World} {v : Value} {n : Int} (h : NewV l w v n w') (ho : ∀ c ∈ l, Ok c) :
    (64 < (normF l).length ∧ v = .slice none 0 0 ∧ n = 23) ∨ ((normF l).length ≤ 64 ∧ n = 0 ∧ ∃ A c, v = .slice A (normF l).length c ∧ w'.ownsRow w.heap.size 62 5 (.slice A (normF l).length c) (normF l).length ((normF l).map Cl.cells).flatten) := by
  rcases h.2 with ⟨h1, _⟩ | ⟨_, out, h2, h3⟩
  · exact absurd (errOf_ok ho) h1
  · obtain rfl := normF_unique ho h2
    exact h3
theorem normS_nil' : NormS [] := ⟨fun x hx => by simp at hx, List.Pairwise.nil⟩
theorem normS_one' {x : Int × Int} (h : x.1 ≤ x.2) : NormS [x] := ⟨fun y hy => by rw [List.mem_singleton] at hy; subst hy; exact h, List.pairwise_singleton _ _⟩
theorem form_one {c : Cl} (h : Ok c) : IsForm [c] [c] := by
  refine ⟨?_, fun _ => rfl⟩
  obtain ⟨wr, col, key, lo, hi⟩ := c
  rcases h.parts with ⟨rfl, rfl, rfl, _⟩ | ⟨h0, h4, rfl, hle⟩
  · exact ⟨[(wr, key)], fun _ => [], fun _ => [], rfl, List.pairwise_singleton _ _, fun i _ _ => ⟨normS_nil', normS_nil', fun n hn => absurd hn (inS_nil n)⟩⟩
  · simp only at h0 h4 hle
    cases wr
    · refine ⟨[], fun _ => [], fun i => if i = col then [(lo, hi)] else [], ?_, List.Pairwise.nil, fun i _ _ => ⟨normS_nil', ?_, fun n hn => absurd hn (inS_nil n)⟩⟩
      · have : col = 0 ∨ col = 1 ∨ col = 2 ∨ col = 3 := by omega
        rcases this with rfl | rfl | rfl | rfl <;> rfl
      · by_cases e : i = col
        · simp only [e, if_true]; exact normS_one' hle
        · simp only [e, if_false]; exact normS_nil'
    · refine ⟨[], fun i => if i = col then [(lo, hi)] else [], fun _ => [], ?_, List.Pairwise.nil, fun i _ _ => ⟨?_, normS_nil', fun n _ hn => absurd hn (inS_nil n)⟩⟩
      · have : col = 0 ∨ col = 1 ∨ col = 2 ∨ col = 3 := by omega
        rcases this with rfl | rfl | rfl | rfl <;> rfl
      · by_cases e : i = col
        · simp only [e, if_true]; exact normS_one' hle
        · simp only [e, if_false]; exact normS_nil'
theorem normF_one {c : Cl} (h : Ok c) : normF [c] = [c] := (normF_unique (fun x hx => by rw [List.mem_singleton] at hx; subst hx; exact h) (form_one h)).symm
end Go.Proofs.YtfaaigfgfljdkaaGreatDoor
