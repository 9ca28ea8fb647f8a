/- The table of powers of ten, out of the row's laid variables. -/
import Derived.Test.YtfaaigfgfljdkaaGreatDoorLaid
import Derived.Test.YtfaaigfgfljdkaaGreatDoorRunD
import Derived.Lib.LaidTab
namespace Go.Proofs.YtfaaigfgfljdkaaGreatDoor
set_option maxRecDepth 100000
open Go.ChangeShapes Go.WideShapes Go.ChangeAt Go.RowKit Go.Deep

theorem Tryz.t10 : (Tryz.prog.globals[3]?).map (·.type) = some 475 := by kernel_rfl
theorem Tryz.cellsU64 : Tryz.prog.cellsOf 356 = 1 := by kernel_rfl
theorem Tryz.cells20 : Tryz.prog.cellsOf 475 = 20 := by kernel_rfl
theorem pow10_datum : Rows.laid_internal_strconv_uint64pow10 (H := Unit) = Lib.tabData .u64 Lib.pow10Tab := by
  rfl
theorem tab10_of_laid {w : World} {l : List (String × DataW Unit)} (h : laidMetH Tryz.prog l w) (hp : (l.all fun x => x.2.handleName?.isNone) = true) (hm : ("internal/strconv.uint64pow10", Rows.laid_internal_strconv_uint64pow10) ∈ l) : Tab10 w := by
  obtain ⟨g, t, cs, f, p, hg, ht, hv, hd⟩ := laid_mem h hp _ hm
  obtain rfl := Option.some.inj (Tryz.g10.symm.trans hg)
  obtain rfl := Option.some.inj (Tryz.t10.symm.trans ht)
  rw [show (("internal/strconv.uint64pow10", Rows.laid_internal_strconv_uint64pow10) : String × DataW Unit).2 = Lib.tabData .u64 Lib.pow10Tab from pow10_datum] at hd
  have hc := Lib.cells_of_tab Tryz.underlying475 Tryz.underlying356 Tryz.cellsU64 Tryz.cells20 hd
  unfold Tab10 Lib.TabIs
  rw [hv, ← hc]
end Go.Proofs.YtfaaigfgfljdkaaGreatDoor
