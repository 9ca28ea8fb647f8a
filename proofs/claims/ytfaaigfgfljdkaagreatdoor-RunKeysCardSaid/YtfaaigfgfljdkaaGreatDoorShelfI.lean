/-
  DERIVED: THE SHELF's CONTRACTS AT THIS DUMP, IN PLAIN WORDS (tools/lay-plain.mjs out of 'TryzShelfI.lean', which tools/lay-shelf.mjs wrote): THE SAME DECLARATIONS UNDER THE SAME NAMES: 'import', 'namespace', 'open', 'def', 'theorem' AND NOTHING ELSE: no command of the shelf's: FOR A HAND-IN. Each laying: the table of numbers ('.._ren') and one theorem, a field a fact of the dump's own or the kernel's comparison; each contract: ONE APPLICATION.
-/
import Derived.Shelf.LaysM
import Derived.Shelf.Strconv.Itoa3
import Derived.Ground.NamesProg
import Derived.Test.YtfaaigfgfljdkaaGreatDoorProg
namespace Go.Proofs.YtfaaigfgfljdkaaGreatDoor
open Go.Shelf
def Tryz.laysM171_ren : Go.Shelf.Ren := ⟨fun | 171 => 75 | 243 => 121 | 246 => 190 | 283 => 251 | 284 => 252 | 285 => 253 | 286 => 254 | 129 => 265 | 317 => 312 | 318 => 313 | 319 => 314 | 320 => 315 | 337 => 356 | 338 => 357 | n => n, fun | 3 => 3 | 9 => 9 | 2 => 2 | 4 => 4 | 171 => 415 | 0 => 0 | 53 => 356 | 37 => 191 | 5 => 5 | 173 => 418 | 212 => 475 | 51 => 428 | 20 => 20 | 213 => 476 | 46 => 335 | 232 => 534 | 233 => 535 | n => n, fun | 17 => 3 | 18 => 6 | 19 => 7 | n => n⟩
theorem Tryz.laysM171 : Go.Proofs.LaysM.n171 Tryz.prog Tryz.laysM171_ren := {
  mixed := by kernel_rfl
  f129 := Tryz.func265.trans (congrArg some (by kernel_rfl))
  f171 := Tryz.func75.trans (congrArg some (by kernel_rfl))
  f243 := Tryz.func121.trans (congrArg some (by kernel_rfl))
  f246 := Tryz.func190.trans (congrArg some (by kernel_rfl))
  f283 := Tryz.func251.trans (congrArg some (by kernel_rfl))
  f284 := Tryz.func252.trans (congrArg some (by kernel_rfl))
  f285 := Tryz.func253.trans (congrArg some (by kernel_rfl))
  f286 := Tryz.func254.trans (congrArg some (by kernel_rfl))
  f317 := Tryz.func312.trans (congrArg some (by kernel_rfl))
  f318 := Tryz.func313.trans (congrArg some (by kernel_rfl))
  f319 := Tryz.func314.trans (congrArg some (by kernel_rfl))
  f320 := Tryz.func315.trans (congrArg some (by kernel_rfl))
  f337 := Tryz.func356.trans (congrArg some (by kernel_rfl))
  f338 := Tryz.func357.trans (congrArg some (by kernel_rfl))
  t0 := Tryz.underlying0
  a0 := Tryz.isAgg0
  z0 := Tryz.sizeOf0
  v0 := Tryz.zeroValue0
  t2 := Tryz.underlying2
  a2 := Tryz.isAgg2
  z2 := Tryz.sizeOf2
  v2 := Tryz.zeroValue2
  t3 := Tryz.underlying3
  a3 := Tryz.isAgg3
  z3 := Tryz.sizeOf3
  v3 := Tryz.zeroValue3
  t4 := Tryz.underlying4
  a4 := Tryz.isAgg4
  z4 := Tryz.sizeOf4
  v4 := Tryz.zeroValue4
  t5 := Tryz.underlying5
  a5 := Tryz.isAgg5
  z5 := Tryz.sizeOf5
  v5 := Tryz.zeroValue5
  t9 := Tryz.underlying9
  a9 := Tryz.isAgg9
  z9 := Tryz.sizeOf9
  v9 := Tryz.zeroValue9
  t20 := Tryz.underlying20
  a20 := Tryz.isAgg20
  z20 := Tryz.sizeOf20
  v20 := Tryz.zeroValue20
  t37 := Tryz.underlying191
  a37 := Tryz.isAgg191
  z37 := Tryz.sizeOf191
  v37 := Tryz.zeroValue191
  t46 := Tryz.underlying335
  a46 := Tryz.isAgg335
  z46 := Tryz.sizeOf335
  v46 := Tryz.zeroValue335
  t51 := Tryz.underlying428
  a51 := Tryz.isAgg428
  z51 := Tryz.sizeOf428
  v51 := Tryz.zeroValue428
  t53 := Tryz.underlying356
  a53 := Tryz.isAgg356
  z53 := Tryz.sizeOf356
  v53 := Tryz.zeroValue356
  t171 := Tryz.underlying415
  a171 := Tryz.isAgg415
  z171 := Tryz.sizeOf415
  v171 := Tryz.zeroValue415
  t173 := Tryz.underlying418
  a173 := Tryz.isAgg418
  z173 := Tryz.sizeOf418
  v173 := Tryz.zeroValue418
  t212 := Tryz.underlying475
  a212 := Tryz.isAgg475
  z212 := Tryz.sizeOf475
  v212 := Tryz.zeroValue475
  t213 := Tryz.underlying476
  a213 := Tryz.isAgg476
  z213 := Tryz.sizeOf476
  t232 := Tryz.underlying534
  a232 := Tryz.isAgg534
  z232 := Tryz.sizeOf534
  v232 := Tryz.zeroValue534
  t233 := Tryz.underlying535
  a233 := Tryz.isAgg535
  z233 := Tryz.sizeOf535
  v233 := Tryz.zeroValue535
  g17 := by kernel_rfl
  g18 := by kernel_rfl
  g19 := by kernel_rfl
  i0 := by kernel_rfl
  i2 := by kernel_rfl
  i3 := by kernel_rfl
  i4 := by kernel_rfl
  i5 := by kernel_rfl
  i9 := by kernel_rfl
  i20 := by kernel_rfl
  i37 := by kernel_rfl
  i46 := by kernel_rfl
  i51 := by kernel_rfl
  i53 := by kernel_rfl
  i171 := by kernel_rfl
  i173 := by kernel_rfl
  i212 := by kernel_rfl
  i232 := by kernel_rfl
  i233 := by kernel_rfl
  m17 := by kernel_rfl
  m18 := by kernel_rfl
  m19 := by kernel_rfl }
end Go.Proofs.YtfaaigfgfljdkaaGreatDoor
