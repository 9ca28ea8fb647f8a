/- A range over a function that gives nothing. No program in sight. -/
import Derived.Test.YtiacbhnkcllpjaaGreatDoorRange
namespace Go.Proofs.YtiacbhnkcllpjaaGreatDoor
set_option maxRecDepth 100000
open Go.RowKit

/-- An iterator that gives nothing. -/
def SeqE (P : Program) (g : Nat) (lb : Array Value) (Fp : Nat → Prop) (w : World) : Prop :=
  ∀ (l : Nat) (W : World), (∀ k o, Fp k → w.heap[k]? = some o → W.heap[k]? = some o) →
    Calls P g (#[.func (.yield l) #[] #[]] ++ lb) W fun e W' => (∃ v, e = .returned v) ∧ Only (fun _ => False) W W'
theorem SeqE.seqG {P : Program} {g : Nat} {lb : Array Value} {Fp : Nat → Prop} {w : World} (h : SeqE P g lb Fp w) :
    SeqG (α := Unit) P g lb (fun _ _ _ _ _ => False) Fp (fun xs => xs = []) (fun _ => False) w := by
  intro l J Jx W U0 hJ hJx hag hdis h0 hY
  refine (callsIn_wide.2 (h l W hag)).mono ?_
  rintro e W' ⟨hv, ho⟩
  exact ⟨hv, .inl ⟨[], U0, rfl, hJ.2 _ _ _ _ _ h0 ho (fun _ h => h.elim), ho.mono (fun _ _ h => h.elim), Grow.refl _ _⟩⟩
/-- A range over it. -/
theorem range_none {P : Program} {g : Operand} {ps : Array Tmp} {assign body : Code} {Q : Exit → Act → World → Prop} {a : Act} {w : World}
    {gf : Nat} {lb : Array Value} (hg : a.eval g = .func (.func gf) #[] lb) (eg : ∀ args w, (callFunc gf args).run P w = .ok (.enter gf args) w)
    {Fp : Nat → Prop} (hseq : SeqE P gf lb Fp w) (hFp : ∀ k, Fp k → k < w.heap.size)
    (hdone : ∀ (D : Nat) (W : World), w.heap.size ≤ D → Only (fun _ => False) w W → W.heap[D]? = some (.deferred (some [])) → Q .normal { a with defers := { target := .collected D, args := #[] } :: a.defers } W) :
    (Code.rangeFunc g ps assign body).wp P Q a w := by
  refine (wpIn_wide (n := 10)).1 (range_law hg eg hseq.seqG hFp ?_ (fun _ U W => U = (fun _ => False) ∧ Only (fun _ => False) w W) (fun _ _ _ _ => False) ⟨?_, ?_⟩ (fun _ => Stable.none _) (fun _ => False) ⟨rfl, Only.refl _ _⟩ (fun _ _ h => h)
    (fun _ _ _ _ _ _ => False) ?_ ?_ ?_ ?_ ?_)
  · rintro pre x args U W h; exact h.elim
  · rintro pre U A ⟨rfl, _⟩ k hk; exact hk.elim
  · rintro pre U A B S' ⟨rfl, ho⟩ hS hd
    exact ⟨rfl, ⟨hS.os.trans ho.os, hS.tape.trans ho.tape, hS.output.trans ho.output, Nat.le_trans ho.size hS.size, fun k hk _ => (hS.block k (Nat.lt_of_lt_of_le hk ho.size) (fun hs => by have := (hd k hs).1; omega)).trans (ho.block k hk (fun h => h))⟩⟩
  · rintro pre x args a₁ U V A B h; exact h.elim
  · rintro l pre x args U V W K _ _ h; exact h.elim
  · rintro l pre x args a₁ U W _ h; exact h.elim
  · rintro D xs U W hD _ _ ⟨_, ho⟩ _ _ hk
    exact hdone D W hD ho hk
  · rintro D c pre U W _ _ h; exact h.elim
end Go.Proofs.YtiacbhnkcllpjaaGreatDoor
