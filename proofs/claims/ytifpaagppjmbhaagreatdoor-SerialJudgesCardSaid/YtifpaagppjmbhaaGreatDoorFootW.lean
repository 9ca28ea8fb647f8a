/- The chapter's example; Few. -/
import Derived.Test.YtifpaagppjmbhaaGreatDoorFootV
namespace Go.Proofs.YtifpaagppjmbhaaGreatDoor
set_option maxRecDepth 100000
open Go.RowKit

def l5 : List Cl := [⟨false, -1, [97], 0, 0⟩, ⟨true, -1, [97], 0, 0⟩, ⟨false, 0, [], 1, 3⟩, ⟨false, 0, [], 4, 9⟩, ⟨true, 0, [], 5, 6⟩]
def ex5 : List Cl := [⟨true, -1, [97], 0, 0⟩, ⟨true, 0, [], 5, 6⟩, ⟨false, 0, [], 1, 4⟩, ⟨false, 0, [], 7, 9⟩]
theorem ok5 : ∀ c ∈ l5, Ok c := by
  intro c hc
  simp [l5] at hc
  rcases hc with rfl | rfl | rfl | rfl | rfl <;> exact Ok.of (by simp)
theorem inS1 {x : Int × Int} {n : Int} : inS [x] n ↔ x.1 ≤ n ∧ n ≤ x.2 := by rw [inS_cons]; exact ⟨fun h => h.resolve_right (inS_nil n), .inl⟩
theorem normS_nil : NormS [] := ⟨fun x hx => by simp at hx, List.Pairwise.nil⟩
theorem normS_one {x : Int × Int} (h : x.1 ≤ x.2) : NormS [x] := NormS.cons h normS_nil (fun y hy => by simp at hy)
theorem form5 : IsForm l5 ex5 := by
  have e : ex5 = formOf [(true, [97])] (fun i => if i = 0 then [(5, 6)] else []) (fun i => if i = 0 then [(1, 4), (7, 9)] else []) := rfl
  rw [e]
  refine form_is ok5 ?_ ?_ ?_ ?_ ?_
  · simp
  · intro k
    rw [lev_pos]
    constructor
    · rintro ⟨b, hb⟩
      simp at hb
      obtain ⟨rfl, rfl⟩ := hb
      exact ⟨⟨true, -1, [97], 0, 0⟩, by simp [l5], by simp [Cl.has]⟩
    · rintro ⟨c, hc, h⟩
      simp [l5] at hc
      rcases hc with rfl | rfl | rfl | rfl | rfl <;> simp [Cl.has] at h <;> exact ⟨true, by simp [h]⟩
  · intro k
    rw [lev_two]
    constructor
    · intro hb
      simp at hb
      subst hb
      exact ⟨⟨true, -1, [97], 0, 0⟩, by simp [l5], by simp [Cl.has], rfl⟩
    · rintro ⟨c, hc, h, hw⟩
      simp [l5] at hc
      rcases hc with rfl | rfl | rfl | rfl | rfl <;> simp [Cl.has] at h hw <;> simp [h]
  · intro i h0 h4
    have : i = 0 ∨ i = 1 ∨ i = 2 ∨ i = 3 := by omega
    rcases this with rfl | rfl | rfl | rfl
    · exact ⟨normS_one (by decide), fun n => Iff.rfl⟩
    · exact ⟨normS_nil, fun n => Iff.rfl⟩
    · exact ⟨normS_nil, fun n => Iff.rfl⟩
    · exact ⟨normS_nil, fun n => Iff.rfl⟩
  · intro i h0 h4
    have : i = 0 ∨ i = 1 ∨ i = 2 ∨ i = 3 := by omega
    rcases this with rfl | rfl | rfl | rfl
    · refine ⟨NormS.cons (by decide) (normS_one (by decide)) (fun y hy => by simp at hy; subst hy; decide), fun n => ?_⟩
      show inS [(1, 4), (7, 9)] n ↔ inS [(1, 3), (4, 9)] n ∧ ¬ inS [(5, 6)] n
      rw [inS_cons, inS1, inS_cons, inS1, inS1]
      simp only
      omega
    · exact ⟨normS_nil, fun n => ⟨fun h => absurd h (inS_nil n), fun h => absurd h.1 (inS_nil n)⟩⟩
    · exact ⟨normS_nil, fun n => ⟨fun h => absurd h (inS_nil n), fun h => absurd h.1 (inS_nil n)⟩⟩
    · exact ⟨normS_nil, fun n => ⟨fun h => absurd h (inS_nil n), fun h => absurd h.1 (inS_nil n)⟩⟩

/-- What New hands back for claims that may be, whose form is known. -/
theorem NewV.known {l out : List Cl} {w w' : World} {v : Value} {n : Int} (h : NewV l w v n w') (ho : ∀ c ∈ l, Ok c) (hf : IsForm l out) (hl : out.length ≤ 64) :
    n = 0 ∧ ∃ A c, v = .slice A out.length c ∧ w'.ownsRow w.heap.size 119 5 (.slice A out.length c) out.length (out.map Cl.cells).flatten := by
  rcases h.2 with ⟨h1, _⟩ | ⟨_, out', h2, h3⟩
  · exact absurd (errOf_ok ho) h1
  · have e : out' = out := form_unique h2.1 hf.1 (fun t => (h2.2 t).trans (hf.2 t).symm)
    subst e
    rcases h3 with ⟨h3, _⟩ | ⟨_, rfl, h4⟩
    · omega
    · exact ⟨rfl, h4⟩

theorem fits5 : ∀ c ∈ l5, c.fits := by
  intro c hc
  simp [l5] at hc
  rcases hc with rfl | rfl | rfl | rfl | rfl <;> simp [Cl.fits, I64, maxLen]

def FewP (l : List Cl) : Prop := l.length ≤ 100 ∧ ∀ c ∈ l, c.key.length ≤ 100

end Go.Proofs.YtifpaagppjmbhaaGreatDoor
