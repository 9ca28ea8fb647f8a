import Derived.Test.YtagemonojdgbdaaGreatDoorQ42
import Derived.Test.YtagemonojdgbdaaGreatDoorQ48
import Derived.Lib.LaidTab
namespace Go.Proofs.YtagemonojdgbdaaGreatDoor
set_option maxRecDepth 100000
open Go.RowKit
section
open Go.ChangeShapes Go.WideShapes Go.ChangeAt Go.RowKit Go.Deep
theorem Tryz.t10 : (Tryz.prog.globals[5]?).map (·.type) = some 379 := by kernel_rfl
theorem Tryz.Gi : Tryz.prog.cellsOf 232 = 1 := by kernel_rfl
theorem Tryz.IW : Tryz.prog.cellsOf 379 = 20 := by kernel_rfl
theorem yF : Rows.laid_internal_strconv_uint64pow10 (H := Unit) = Lib.tabData .u64 Lib.pow10Tab := by
 rfl
theorem sS {w : World} {l : List (String × DataW Unit)} (h : laidMetH Tryz.prog l w) (hp : (l.all fun x => x.2.handleName?.isNone) = true) (hm : ("internal/strconv.uint64pow10", Rows.laid_internal_strconv_uint64pow10) ∈ l) : fR w := by
 obtain ⟨g, t, cs, f, p, hg, ht, hv, hd⟩ := yn h hp _ hm
 obtain rfl := Option.some.inj (Tryz.g10.symm.trans hg)
 obtain rfl := Option.some.inj (Tryz.t10.symm.trans ht)
 rw [show (("internal/strconv.uint64pow10", Rows.laid_internal_strconv_uint64pow10) : String × DataW Unit).2 = Lib.tabData .u64 Lib.pow10Tab from yF] at hd
 have hc := Lib.cells_of_tab Tryz.underlying379 Tryz.underlying232 Tryz.Gi Tryz.IW hd
 unfold fR Lib.TabIs
 rw [hv, <- hc]
end
end Go.Proofs.YtagemonojdgbdaaGreatDoor
