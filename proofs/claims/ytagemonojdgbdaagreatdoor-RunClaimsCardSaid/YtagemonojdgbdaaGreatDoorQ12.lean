import Derived.Shelf.LaysM
import Derived.Shelf.Strconv.Itoa3
import Derived.Ground.NamesProg
import Derived.Test.YtagemonojdgbdaaGreatDoorProg
namespace Go.Proofs.YtagemonojdgbdaaGreatDoor
set_option maxRecDepth 100000
open Go.RowKit
section
open Go.Shelf
/-
 DERIVED: THE SHELF's CONTRACTS AT THIS DUMP, IN PLAIN WORDS (tools/lay-plain.mjs out of 'J6.DY, which tools/lay-shelf.mjs wrote): THE SAME jV UNDER THE SAME NAMES: 'uy, 'mL, 'open', 'JN, 'qA AND NOTHING ELSE: no command of the shelf's: FOR A HAND-IN. Each laying: the table of numbers ('..DZ) and one theorem, a field a fact of the dump's own or the kernel's comparison; each contract: ONE lj.
-/
def Tryz.uF : Go.Shelf.Ren := ⟨fun | 171 => 176 | 243 => 214 | 246 => 236 | 283 => 257 | 284 => 258 | 285 => 259 | 286 => 260 | 129 => 194 | 317 => 269 | 318 => 270 | 319 => 271 | 320 => 272 | 337 => 276 | 338 => 277 | n => n, fun | 3 => 3 | 9 => 9 | 2 => 2 | 4 => 4 | 171 => 366 | 0 => 0 | 53 => 232 | 37 => 118 | 5 => 5 | 173 => 368 | 212 => 379 | 51 => 270 | 20 => 20 | 213 => 380 | 46 => 234 | 232 => 387 | 233 => 388 | n => n, fun | 17 => 5 | 18 => 6 | 19 => 7 | n => n⟩
theorem Tryz.Et : Go.Proofs.LaysM.n171 Tryz.prog Tryz.uF := {
 mixed := by kernel_rfl
 f129 := Tryz.func194.trans (congrArg some (by kernel_rfl))
 f171 := Tryz.func176.trans (congrArg some (by kernel_rfl))
 f243 := Tryz.func214.trans (congrArg some (by kernel_rfl))
 f246 := Tryz.func236.trans (congrArg some (by kernel_rfl))
 f283 := Tryz.func257.trans (congrArg some (by kernel_rfl))
 f284 := Tryz.func258.trans (congrArg some (by kernel_rfl))
 f285 := Tryz.func259.trans (congrArg some (by kernel_rfl))
 f286 := Tryz.func260.trans (congrArg some (by kernel_rfl))
 f317 := Tryz.func269.trans (congrArg some (by kernel_rfl))
 f318 := Tryz.func270.trans (congrArg some (by kernel_rfl))
 f319 := Tryz.func271.trans (congrArg some (by kernel_rfl))
 f320 := Tryz.func272.trans (congrArg some (by kernel_rfl))
 f337 := Tryz.func276.trans (congrArg some (by kernel_rfl))
 f338 := Tryz.func277.trans (congrArg some (by kernel_rfl))
 t0 := Tryz.underlying0
 a0 := Tryz.isAgg0
 z0 := Tryz.sizeOf0
 v0 := Tryz.zeroValue0
 t2 := Tryz.underlying2
 a2 := Tryz.isAgg2
 z2 := Tryz.sizeOf2
 v2 := Tryz.zeroValue2
 t3 := Tryz.underlying3
 a3 := Tryz.isAgg3
 z3 := Tryz.sizeOf3
 v3 := Tryz.zeroValue3
 t4 := Tryz.underlying4
 a4 := Tryz.isAgg4
 z4 := Tryz.sizeOf4
 v4 := Tryz.zeroValue4
 t5 := Tryz.underlying5
 a5 := Tryz.isAgg5
 z5 := Tryz.sizeOf5
 v5 := Tryz.zeroValue5
 t9 := Tryz.underlying9
 a9 := Tryz.isAgg9
 z9 := Tryz.sizeOf9
 v9 := Tryz.zeroValue9
 t20 := Tryz.underlying20
 a20 := Tryz.isAgg20
 z20 := Tryz.sizeOf20
 v20 := Tryz.zeroValue20
 t37 := Tryz.underlying118
 a37 := Tryz.isAgg118
 z37 := Tryz.sizeOf118
 v37 := Tryz.zeroValue118
 t46 := Tryz.underlying234
 a46 := Tryz.isAgg234
 z46 := Tryz.sizeOf234
 v46 := Tryz.zeroValue234
 t51 := Tryz.underlying270
 a51 := Tryz.isAgg270
 z51 := Tryz.sizeOf270
 v51 := Tryz.zeroValue270
 t53 := Tryz.underlying232
 a53 := Tryz.isAgg232
 z53 := Tryz.sizeOf232
 v53 := Tryz.zeroValue232
 t171 := Tryz.underlying366
 a171 := Tryz.isAgg366
 z171 := Tryz.sizeOf366
 v171 := Tryz.zeroValue366
 t173 := Tryz.underlying368
 a173 := Tryz.isAgg368
 z173 := Tryz.sizeOf368
 v173 := Tryz.zeroValue368
 t212 := Tryz.underlying379
 a212 := Tryz.isAgg379
 z212 := Tryz.sizeOf379
 v212 := Tryz.zeroValue379
 t213 := Tryz.underlying380
 a213 := Tryz.isAgg380
 z213 := Tryz.sizeOf380
 t232 := Tryz.underlying387
 a232 := Tryz.isAgg387
 z232 := Tryz.sizeOf387
 v232 := Tryz.zeroValue387
 t233 := Tryz.underlying388
 a233 := Tryz.isAgg388
 z233 := Tryz.sizeOf388
 v233 := Tryz.zeroValue388
 g17 := by kernel_rfl
 g18 := by kernel_rfl
 g19 := by kernel_rfl
 i0 := by kernel_rfl
 i2 := by kernel_rfl
 i3 := by kernel_rfl
 i4 := by kernel_rfl
 i5 := by kernel_rfl
 i9 := by kernel_rfl
 i20 := by kernel_rfl
 i37 := by kernel_rfl
 i46 := by kernel_rfl
 i51 := by kernel_rfl
 i53 := by kernel_rfl
 i171 := by kernel_rfl
 i173 := by kernel_rfl
 i212 := by kernel_rfl
 i232 := by kernel_rfl
 i233 := by kernel_rfl
 m17 := by kernel_rfl
 m18 := by kernel_rfl
 m19 := by kernel_rfl }
end
end Go.Proofs.YtagemonojdgbdaaGreatDoor
