/-
  DERIVED: THE SHELF's CONTRACTS AT THIS DUMP, IN PLAIN WORDS (tools/lay-plain.mjs out of 'TryzShelfP.lean', which tools/lay-shelf.mjs wrote): THE SAME DECLARATIONS UNDER THE SAME NAMES: 'import', 'namespace', 'open', 'def', 'theorem' AND NOTHING ELSE: no command of the shelf's: FOR A HAND-IN. Each laying: the table of numbers ('.._ren') and one theorem, a field a fact of the dump's own or the kernel's comparison; each contract: ONE APPLICATION.
-/
import Derived.Shelf.Strings.Runes
import Derived.Ground.NamesProg
import Derived.Test.YtfaaigfgfljdkaaGreatDoorProg
namespace Go.Proofs.YtfaaigfgfljdkaaGreatDoor
open Go.Shelf
def Tryz.lays151_ren : Go.Shelf.Ren := ⟨fun | 151 => 208 | 152 => 285 | 137 => 335 | 119 => 336 | 224 => 337 | 225 => 338 | 217 => 365 | 266 => 383 | n => n, fun | 9 => 9 | 21 => 21 | 4 => 4 | 3 => 3 | 5 => 5 | 0 => 0 | 46 => 335 | n => n, fun | n => n⟩
theorem Tryz.lays151 : Go.Proofs.Lays.n151 Tryz.prog Tryz.lays151_ren := {
  mixed := by kernel_rfl
  f119 := Tryz.func336.trans (congrArg some (by kernel_rfl))
  f137 := Tryz.func335.trans (congrArg some (by kernel_rfl))
  f151 := Tryz.func208.trans (congrArg some (by kernel_rfl))
  f152 := Tryz.func285.trans (congrArg some (by kernel_rfl))
  f217 := Tryz.func365.trans (congrArg some (by kernel_rfl))
  f224 := Tryz.func337.trans (congrArg some (by kernel_rfl))
  f225 := Tryz.func338.trans (congrArg some (by kernel_rfl))
  f266 := Tryz.func383.trans (congrArg some (by kernel_rfl))
  t0 := Tryz.underlying0
  a0 := Tryz.isAgg0
  z0 := Tryz.sizeOf0
  v0 := Tryz.zeroValue0
  t3 := Tryz.underlying3
  a3 := Tryz.isAgg3
  z3 := Tryz.sizeOf3
  v3 := Tryz.zeroValue3
  t4 := Tryz.underlying4
  a4 := Tryz.isAgg4
  z4 := Tryz.sizeOf4
  v4 := Tryz.zeroValue4
  t5 := Tryz.underlying5
  a5 := Tryz.isAgg5
  z5 := Tryz.sizeOf5
  v5 := Tryz.zeroValue5
  t9 := Tryz.underlying9
  a9 := Tryz.isAgg9
  z9 := Tryz.sizeOf9
  v9 := Tryz.zeroValue9
  t21 := Tryz.underlying21
  a21 := Tryz.isAgg21
  z21 := Tryz.sizeOf21
  v21 := Tryz.zeroValue21
  t46 := Tryz.underlying335
  a46 := Tryz.isAgg335
  z46 := Tryz.sizeOf335
  v46 := Tryz.zeroValue335 }
end Go.Proofs.YtfaaigfgfljdkaaGreatDoor
