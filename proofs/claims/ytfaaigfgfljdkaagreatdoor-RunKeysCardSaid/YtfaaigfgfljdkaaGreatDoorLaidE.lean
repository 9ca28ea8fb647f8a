/- The errors of strconv, out of the row's laid variables. -/
import Derived.Test.YtfaaigfgfljdkaaGreatDoorLaidT
import Derived.Test.YtfaaigfgfljdkaaGreatDoorNum
namespace Go.Proofs.YtfaaigfgfljdkaaGreatDoor
set_option maxRecDepth 100000
open Go.ChangeShapes Go.WideShapes Go.ChangeAt Go.RowKit Go.Deep

theorem Tryz.tSyn : (Tryz.prog.globals[1]?).map (·.type) = some 162 := by kernel_rfl
theorem Tryz.tRng : (Tryz.prog.globals[2]?).map (·.type) = some 162 := by kernel_rfl
/-- A variable of the type error that reads as an error holds one. -/
theorem err_of_trod {w : World} {f : Nat} {cs : List Value} {d : DataW Unit} {name : String} {p : List MemPlace} (h : DataW.trod (fun _ => ()) Tryz.prog w 0 (fun _ => true) false f 162 cs = some (.iface name d, p)) : ∃ t v, cs = [.iface t v] := by
  cases f with
  | zero => simp [DataW.trod] at h
  | succ f =>
    unfold DataW.trod at h
    rw [Tryz.underlying162] at h
    match cs, h with
    | [.nilIface], h => simp at h
    | [.iface t v], _ => exact ⟨t, v, rfl⟩
theorem errs_of_laid {w : World} {l : List (String × DataW Unit)} (h : laidMetH Tryz.prog l w) (hp : (l.all fun x => x.2.handleName?.isNone) = true) (hm1 : ("strconv.ErrSyntax", Rows.laid_strconv_ErrSyntax) ∈ l) (hm2 : ("strconv.ErrRange", Rows.laid_strconv_ErrRange) ∈ l) : Errs w := by
  constructor
  · obtain ⟨g, t, cs, f, p, hg, ht, hv, hd⟩ := laid_mem h hp _ hm1
    obtain rfl := Option.some.inj (Tryz.gSyn.symm.trans hg)
    obtain rfl := Option.some.inj (Tryz.tSyn.symm.trans ht)
    obtain ⟨t, v, hc⟩ := err_of_trod hd
    exact ⟨t, v, by rw [hv]; congr 1; apply Array.ext'; simpa using hc⟩
  · obtain ⟨g, t, cs, f, p, hg, ht, hv, hd⟩ := laid_mem h hp _ hm2
    obtain rfl := Option.some.inj (Tryz.gRng.symm.trans hg)
    obtain rfl := Option.some.inj (Tryz.tRng.symm.trans ht)
    obtain ⟨t, v, hc⟩ := err_of_trod hd
    exact ⟨t, v, by rw [hv]; congr 1; apply Array.ext'; simpa using hc⟩
end Go.Proofs.YtfaaigfgfljdkaaGreatDoor
