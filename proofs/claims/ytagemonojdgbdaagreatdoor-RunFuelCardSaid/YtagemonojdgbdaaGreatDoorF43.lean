import Derived.Shelf.LaysM
import Derived.Shelf.Strconv.Clone
import Derived.Shelf.Bits.Mul64
import Derived.Ground.NamesProg
import Derived.Test.YtagemonojdgbdaaGreatDoorProg
import Derived.Test.YtagemonojdgbdaaGreatDoorRows
import Derived.JoinedOf
import Derived.KernelRfl
import Derived.SevenTiedAt
namespace Go.Proofs.YtagemonojdgbdaaGreatDoor
set_option maxRecDepth 100000
section
open Go.Shelf
/-
 DERIVED:THE SHELF's CONTRACTS AT THIS DUMP,IN PLAIN WORDS (tools/lay-plain.mjs out of 'Ta.BI,which tools/lay-shelf.mjs wrote):THE SAME gy UNDER THE SAME NAMES:'p6,'jI,'open','Kq,'mX AND NOTHING ELSE:no command of the shelf's:FOR A HAND-IN. Each laying:the table of numbers ('..BJ) and one theorem,a field a fact of the dump's own or the kernel's comparison;each contract:ONE iJ.
-/
def Tryz.Aq:Go.Shelf.Ren:=⟨fun|316=>267|n=>n,fun|9=>9|3=>3|4=>4|37=>118|0=>0|127=>383|5=>5|n=>n,fun|n=>n⟩
theorem Tryz.MR:Go.Proofs.LaysM.n316 Tryz.prog Tryz.Aq:={
 mixed:=by kernel_rfl
 f316:=Tryz.func267.trans (congrArg some (by kernel_rfl))
 t0:=Tryz.underlying0
 a0:=Tryz.isAgg0
 z0:=Tryz.sizeOf0
 v0:=Tryz.zeroValue0
 t3:=Tryz.underlying3
 a3:=Tryz.isAgg3
 z3:=Tryz.sizeOf3
 v3:=Tryz.zeroValue3
 t4:=Tryz.underlying4
 a4:=Tryz.isAgg4
 z4:=Tryz.sizeOf4
 v4:=Tryz.zeroValue4
 t9:=Tryz.underlying9
 a9:=Tryz.isAgg9
 z9:=Tryz.sizeOf9
 v9:=Tryz.zeroValue9
 t37:=Tryz.underlying118
 a37:=Tryz.isAgg118
 z37:=Tryz.sizeOf118
 v37:=Tryz.zeroValue118
 t127:=Tryz.underlying383
 a127:=Tryz.isAgg383
 z127:=Tryz.sizeOf383
 v127:=Tryz.zeroValue383
 t5:=Tryz.underlying5
 a5:=Tryz.isAgg5
 z5:=Tryz.sizeOf5
 v5:=Tryz.zeroValue5
 i0:=by kernel_rfl
 i3:=by kernel_rfl
 i4:=by kernel_rfl
 i5:=by kernel_rfl
 i9:=by kernel_rfl
 i37:=by kernel_rfl
 i127:=by kernel_rfl}
def Tryz.De:Go.Shelf.Ren:=⟨fun|264=>174|n=>n,fun|53=>232|46=>234|n=>n,fun|n=>n⟩
theorem Tryz.PM:Go.Proofs.Lays.n264 Tryz.prog Tryz.De:={
 mixed:=by kernel_rfl
 f264:=Tryz.func174.trans (congrArg some (by kernel_rfl))
 t46:=Tryz.underlying234
 a46:=Tryz.isAgg234
 z46:=Tryz.sizeOf234
 v46:=Tryz.zeroValue234
 t53:=Tryz.underlying232
 a53:=Tryz.isAgg232
 z53:=Tryz.sizeOf232
 v53:=Tryz.zeroValue232}
end
theorem WW:laidOutB Tryz.prog=true:=by kernel_rfl
theorem WX:mapsRowed Tryz.prog=true:=by kernel_rfl
theorem WY:true=Tryz.pinned.checked.prog.looks []:=by kernel_rfl
theorem WZ:Tryz.pinned.checked.prog.mainIs=some ((true, "7d19ad741bc7d54457f58fc14b5207be680021deb8a91240a65f9c6b3e66a265").1,(true, "7d19ad741bc7d54457f58fc14b5207be680021deb8a91240a65f9c6b3e66a265").2.toList):=by kernel_rfl
theorem Fh:(Rows.runFuelRow.inPlace==Tryz.prog.inPlace 5)=true:=by kernel_rfl
theorem Fj:(Rows.runFuelRow.unfollowed==Tryz.prog.unfollowed 5)=true:=by kernel_rfl
theorem Fk:(Rows.runFuelRow.recurses==Tryz.prog.recurses 5)=true:=by kernel_rfl
theorem Fl:(Rows.runFuelRow.named==Tryz.prog.varsNamed 5)=true:=by kernel_rfl
theorem vG:joinedFacts Tryz.prog 5 Tryz.f5 Rows.runFuelSpec Rows.runFuelRow=true:=by
 unfold joinedFacts;simp only[Bool.and_eq_true]
 repeat' apply And.intro
 all_goals first|with_reducible exact WW|with_reducible exact WX|with_reducible exact Fh|with_reducible exact Fj|with_reducible exact Fk|with_reducible exact Fl|kernel_rfl
theorem Fm:Rows.runFuelRow.wfByText (OpenSpec.ofChange Rows.runFuelSpec)=true:=by kernel_rfl
theorem Fq:false=Rows.runFuelRow.goesBy Tryz.pinned.checked.prog:=by kernel_rfl
end Go.Proofs.YtagemonojdgbdaaGreatDoor
