import Derived.Shelf.Strings.Runes
import Derived.Ground.NamesProg
import Derived.Test.YtagemonojdgbdaaGreatDoorProg
import Derived.Shelf.LaysC
import Derived.Shelf.Strconv.AtoiAll
import Derived.Shelf.Strconv.ErrVarAll
import Derived.Test.YtagemonojdgbdaaGreatDoorRows
import Derived.JoinedOf
import Derived.KernelRfl
import Derived.SevenTiedAt
namespace Go.Proofs.YtagemonojdgbdaaGreatDoor
set_option maxRecDepth 100000
open Go.RowKit
section
open Go.Shelf
/-
 DERIVED: THE SHELF's CONTRACTS AT THIS DUMP, IN PLAIN WORDS (tools/lay-plain.mjs out of 'KT.DY, which tools/lay-shelf.mjs wrote): THE SAME jV UNDER THE SAME NAMES: 'uy, 'mL, 'open', 'JN, 'qA AND NOTHING ELSE: no command of the shelf's: FOR A HAND-IN. Each laying: the table of numbers ('..DZ) and one theorem, a field a fact of the dump's own or the kernel's comparison; each contract: ONE lj.
-/
def Tryz.yo : Go.Shelf.Ren := ⟨fun | 151 => 126 | 152 => 159 | 137 => 203 | 119 => 204 | 224 => 205 | 225 => 206 | 217 => 232 | 266 => 256 | n => n, fun | 9 => 9 | 21 => 21 | 4 => 4 | 3 => 3 | 5 => 5 | 0 => 0 | 46 => 234 | n => n, fun | n => n⟩
theorem Tryz.IA : Go.Proofs.Lays.n151 Tryz.prog Tryz.yo := {
 mixed := by kernel_rfl
 f119 := Tryz.func204.trans (congrArg some (by kernel_rfl))
 f137 := Tryz.func203.trans (congrArg some (by kernel_rfl))
 f151 := Tryz.func126.trans (congrArg some (by kernel_rfl))
 f152 := Tryz.func159.trans (congrArg some (by kernel_rfl))
 f217 := Tryz.func232.trans (congrArg some (by kernel_rfl))
 f224 := Tryz.func205.trans (congrArg some (by kernel_rfl))
 f225 := Tryz.func206.trans (congrArg some (by kernel_rfl))
 f266 := Tryz.func256.trans (congrArg some (by kernel_rfl))
 t0 := Tryz.underlying0
 a0 := Tryz.isAgg0
 z0 := Tryz.sizeOf0
 v0 := Tryz.zeroValue0
 t3 := Tryz.underlying3
 a3 := Tryz.isAgg3
 z3 := Tryz.sizeOf3
 v3 := Tryz.zeroValue3
 t4 := Tryz.underlying4
 a4 := Tryz.isAgg4
 z4 := Tryz.sizeOf4
 v4 := Tryz.zeroValue4
 t5 := Tryz.underlying5
 a5 := Tryz.isAgg5
 z5 := Tryz.sizeOf5
 v5 := Tryz.zeroValue5
 t9 := Tryz.underlying9
 a9 := Tryz.isAgg9
 z9 := Tryz.sizeOf9
 v9 := Tryz.zeroValue9
 t21 := Tryz.underlying21
 a21 := Tryz.isAgg21
 z21 := Tryz.sizeOf21
 v21 := Tryz.zeroValue21
 t46 := Tryz.underlying234
 a46 := Tryz.isAgg234
 z46 := Tryz.sizeOf234
 v46 := Tryz.zeroValue234 }
end
section
open Go.Shelf
/-
 DERIVED: THE SHELF's CONTRACTS AT THIS DUMP, IN PLAIN WORDS (tools/lay-plain.mjs out of 'KU.DY, which tools/lay-shelf.mjs wrote): THE SAME jV UNDER THE SAME NAMES: 'uy, 'mL, 'open', 'JN, 'qA AND NOTHING ELSE: no command of the shelf's: FOR A HAND-IN. Each laying: the table of numbers ('..DZ) and one theorem, a field a fact of the dump's own or the kernel's comparison; each contract: ONE lj.
-/
end
theorem Om : laidOutB Tryz.prog = true := by kernel_rfl
theorem Oo : mapsRowed Tryz.prog = true := by kernel_rfl
theorem Oq : true = Tryz.pinned.checked.prog.looks [] := by kernel_rfl
theorem Ot : Tryz.pinned.checked.prog.mainIs = some ((true, "7d19ad741bc7d54457f58fc14b5207be680021deb8a91240a65f9c6b3e66a265").1, (true, "7d19ad741bc7d54457f58fc14b5207be680021deb8a91240a65f9c6b3e66a265").2.toList) := by kernel_rfl
theorem vA : (Rows.runClaimsRow.inPlace == Tryz.prog.inPlace 3) = true := by kernel_rfl
theorem vB : (Rows.runClaimsRow.unfollowed == Tryz.prog.unfollowed 3) = true := by kernel_rfl
theorem vC : (Rows.runClaimsRow.recurses == Tryz.prog.recurses 3) = true := by kernel_rfl
theorem vD : (Rows.runClaimsRow.named == Tryz.prog.varsNamed 3) = true := by kernel_rfl
theorem oQ : joinedFacts Tryz.prog 3 Tryz.f3 Rows.runClaimsSpec Rows.runClaimsRow = true := by
 unfold joinedFacts
 simp only [Bool.and_eq_true]
 repeat' apply And.intro
 all_goals first | with_reducible exact Om | with_reducible exact Oo | with_reducible exact vA | with_reducible exact vB | with_reducible exact vC | with_reducible exact vD | kernel_rfl
theorem vE : Rows.runClaimsRow.wfByText (OpenSpec.ofChange Rows.runClaimsSpec) = true := by kernel_rfl
theorem vF : false = Rows.runClaimsRow.goesBy Tryz.pinned.checked.prog := by kernel_rfl
end Go.Proofs.YtagemonojdgbdaaGreatDoor
