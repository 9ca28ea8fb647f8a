/- LocksPlay's argument, opened: calls of Locks. -/
import Derived.Test.YtihjcfifakcpgaaLockR
import Derived.Test.YtihjcfifakcpgaaTrod
namespace Go.Proofs.Ytihjcfifakcpgaa
open Go.ChangeShapes Go.WideShapes Go.ChangeAt Go.RowKit Go.Deep

/-- A call: what is asked, of which number, with which claims. -/
structure LOp where
  ask : Int
  id : Int
  v : Value
  l : List Cl
def LOp.cells (o : LOp) : List Value := [.int .i64 o.ask, .int .i64 o.id, o.v]
/-- A call's claims are read. -/
def LOp.ok (W : World) (o : LOp) : Prop := I64 o.ask ∧ I64 o.id ∧ ClRd W (fun _ => True) o.v o.l ∧ ∀ c ∈ o.l, c.fits
def OpsRd (w : World) (v : Value) (l : List LOp) : Prop := RdK 3 w (fun _ => True) v (l.map LOp.cells) ∧ ∀ o ∈ l, o.ok w
theorem Try.cellsOp : Try.prog.cellsOf 33 = 3 := by kernel_rfl
theorem Try.cellsClsL : Try.prog.cellsOf 31 = 1 := by kernel_rfl
set_option maxRecDepth 100000 in
theorem lop_of_trod {H : Type} {enc : TypeId × Value → H} {W : World} {fuel : Nat} {cs : List Value} {x : DataW H × List MemPlace} (h : DataW.trod enc Try.prog W 0 (fun _ => true) true fuel 33 cs = some x) :
    ∃ o : LOp, cs = o.cells ∧ o.ok W := by
  obtain ⟨xs, n, _, _, hlen, hxl, hf⟩ := DataW.trod_struct Try.underlying33 h
  rw [Try.cellsOp] at hlen
  match cs, hlen with
  | [v0, v1, v2], _ =>
    have hx : ∀ i, i < 3 → ∃ y, xs[i]? = some y := fun i hi => ⟨_, List.getElem?_eq_getElem (by rw [hxl]; exact hi)⟩
    obtain ⟨y0, e0⟩ := hx 0 (by decide)
    obtain ⟨y1, e1⟩ := hx 1 (by decide)
    obtain ⟨y2, e2⟩ := hx 2 (by decide)
    have f0 := hf 0 _ rfl
    rw [e0] at f0
    change DataW.trod enc Try.prog W 0 (fun _ => true) true n 3 (List.take (Try.prog.cellsOf 3) (List.drop 0 [v0, v1, v2])) = _ at f0
    rw [Try.cellsI] at f0
    have f1 := hf 1 _ rfl
    rw [e1] at f1
    change DataW.trod enc Try.prog W 0 (fun _ => true) true n 3 (List.take (Try.prog.cellsOf 3) (List.drop 1 [v0, v1, v2])) = _ at f1
    rw [Try.cellsI] at f1
    have f2 := hf 2 _ rfl
    rw [e2] at f2
    change DataW.trod enc Try.prog W 0 (fun _ => true) true n 31 (List.take (Try.prog.cellsOf 31) (List.drop 2 [v0, v1, v2])) = _ at f2
    rw [Try.cellsClsL] at f2
    obtain ⟨n0, h0, _, w0⟩ := DataW.trod_int Try.underlying3 f0
    obtain ⟨n1, h1, _, w1⟩ := DataW.trod_int Try.underlying3 f1
    obtain ⟨v, l, h2, h3, h4⟩ := slice_of_trod 31 52 Try.underlying31 5 (by decide) Try.cellsCl Cl.cells (fun _ => rfl) Cl.fits ⟨false, 0, [], 0, 0⟩ (fun _ _ _ hh => claim_of_trod hh) f2
    simp at h0 h1 h2
    subst h0 h1 h2
    exact ⟨⟨n0, n1, v2, l⟩, rfl, bounds_i64 w0, bounds_i64 w1, h3, h4⟩
set_option maxRecDepth 100000 in
theorem open_ops {H : Type} {enc : TypeId × Value → H} {W : World} {v : Value} {d : DataW H} {p : List MemPlace} {base : Nat} (hval : Value.okWide Try.prog W .any base 22 v)
    (h : DataW.Trod enc Try.prog W 0 (fun _ => true) true 22 v d p) : ∃ l : List LOp, OpsRd W v l := by
  obtain ⟨a0, len0, cap0, rfl⟩ := okWide_slice Try.underlying22 hval
  obtain ⟨fuel, hf⟩ := h
  obtain ⟨v, l, h2, h3, h4⟩ := slice_of_trod 22 33 Try.underlying22 3 (by decide) Try.cellsOp LOp.cells (fun _ => rfl) (LOp.ok W) ⟨0, 0, .slice none 0 0, []⟩ (fun _ _ _ hh => lop_of_trod hh) hf
  have h5 : v = .slice a0 len0 cap0 := by
    simp [Value.cells] at h2
    exact h2.symm
  subst h5
  exact ⟨l, h3, h4⟩
end Go.Proofs.Ytihjcfifakcpgaa
