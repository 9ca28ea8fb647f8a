import Derived.Test.YtagemonojdgbdaaGreatDoorC15
import Derived.Test.YtagemonojdgbdaaGreatDoorC24
namespace Go.Proofs.YtagemonojdgbdaaGreatDoor
set_option maxRecDepth 100000
open Go.RowKit
def ivs (l : List Int) : List Value := l.map (Value.int .i64)
theorem ivs_at {w : World} {F : Nat → Prop} {A : Option Addr} {n c : Nat} {xs : List Int} (h : Rd w F (.slice A n c) (ivs xs)) : xs.length = n ∧ n ≤ c ∧ c ≤ maxLen ∧ ∀ j x, xs[j]? = some x → ∃ b o, A = some ⟨b, o, none⟩ ∧ F b ∧ w.cell? ⟨b, o + j, none⟩ = some (.int .i64 x) := by
 obtain ⟨A', n', c', hv, hl, h1, h2, h3⟩ := h
 injection hv with e1 e2 e3
 subst e1 e2 e3
 simp [ivs] at hl
 refine ⟨hl, h1, h2, fun j x hj => ?_⟩
 have hlt := (List.getElem?_eq_some_iff.1 hj).1
 obtain ⟨b, o, e, hF, hu⟩ := h3 (by omega)
 exact ⟨b, o, e, hF, hu j (.int .i64 x) (by simp [ivs, hj])⟩
theorem ivs_slice {w : World} {F : Nat → Prop} {v : Value} {xs : List Int} (h : Rd w F v (ivs xs)) : ∃ A c, v = .slice A xs.length c ∧ xs.length ≤ c ∧ c ≤ maxLen := by
 obtain ⟨A', n', c', hv, hl, h1, h2, _⟩ := h
 simp [ivs] at hl
 exact ⟨A', c', by rw [hl]; exact hv, by omega, h2⟩
end Go.Proofs.YtagemonojdgbdaaGreatDoor
