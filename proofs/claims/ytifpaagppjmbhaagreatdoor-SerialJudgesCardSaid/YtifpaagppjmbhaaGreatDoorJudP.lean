/- PLAIN: what serial.Judge goes by: within, claim by claim; kinds of ends. -/
import Derived.Test.YtifpaagppjmbhaaGreatDoorCovP
namespace Go.Proofs.YtifpaagppjmbhaaGreatDoor
set_option maxRecDepth 100000

theorem covP_form {l out : List Cl} (h : IsForm l out) (c : Cl) : CovP c out ↔ CovP c l := by
  rw [covP_lev, covP_lev]
  exact ⟨fun q n a b => by rw [← h.2]; exact q n a b, fun q n a b => by rw [h.2]; exact q n a b⟩
theorem within_told {l out g : List Cl} (h : IsForm l out) : WithinP g out ↔ ∀ c ∈ g, CovP c l :=
  ⟨fun q c hc => (covP_form h c).1 (q c hc), fun q c hc => (covP_form h c).2 (q c hc)⟩
/-- Which kind the end of a run has, by the map; by the document. -/
def endK (e : Int) : Int := if e = 0 then 1 else if e = 19 then 2 else if e = 21 then 3 else if e = 20 then 4 else if e = 16 then 5 else if e = 23 then 6 else 0
def refK (e : Int) : Int := if e = 0 then 1 else if e = 19 then 2 else if e = 20 then 4 else if e = 16 then 5 else if e = 23 then 6 else 3
def known (e : Int) : Prop := e = 0 ∨ e = 19 ∨ e = 20 ∨ e = 16 ∨ e = 23 ∨ e = 21
theorem endK_ref {e : Int} (h : known e) : endK e = refK e := by
  rcases h with rfl | rfl | rfl | rfl | rfl | rfl <;> rfl
def judK (q : Bool) (e : Int) : Int := match q with | true => endK e | false => 3
def wantK (q : Bool) (e : Int) : Int := match q with | true => refK e | false => 3
def judV (k v : Int) : Int := if k = 1 ∨ k = 2 then v else 0
theorem judK_want {q : Bool} {e : Int} (h : known e) : judK q e = wantK q e := by
  cases q with
  | true => exact endK_ref h
  | false => rfl
theorem all_take {l : List Cl} {p : Cl → Prop} {k : Nat} {x : Cl} (hx : l[k]? = some x) : (∀ c ∈ l.take (k + 1), p c) ↔ (∀ c ∈ l.take k, p c) ∧ p x := by
  rw [List.take_add_one, hx]
  constructor
  · intro h
    exact ⟨fun c hc => h c (List.mem_append.2 (.inl hc)), h x (by simp)⟩
  · rintro ⟨h1, h2⟩ c hc
    rcases List.mem_append.1 hc with hc | hc
    · exact h1 c hc
    · simp at hc; subst hc; exact h2
end Go.Proofs.YtifpaagppjmbhaaGreatDoor
