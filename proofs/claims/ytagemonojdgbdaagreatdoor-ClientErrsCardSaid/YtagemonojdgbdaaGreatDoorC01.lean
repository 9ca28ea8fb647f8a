import Derived.Shelf.Sort.Plain
import Derived.Shelf.Slices.In.SortNone
import Derived.Ground.SlgcProg
import Derived.Shelf.SlicesG.Cmp
import Derived.Shelf.SlSortCmp.WholeK
import Derived.Shelf.SlSortCmp.NoneTotal
import Derived.Ground.SlsfProg
import Derived.Ground.NamesProg
import Derived.Test.YtagemonojdgbdaaGreatDoorProg
namespace Go.Proofs.YtagemonojdgbdaaGreatDoor
set_option maxRecDepth 100000
section
open Go.Shelf
/-
 DERIVED: THE SHELF's CONTRACTS AT THIS DUMP, IN PLAIN WORDS (tools/lay-plain.mjs out of 'TryzShelf.lean', which tools/lay-shelf.mjs wrote): THE SAME DECLARATIONS UNDER THE SAME NAMES: 'import', 'namespace', 'open', 'def', 'theorem' AND NOTHING ELSE: no command of the shelf's: FOR A HAND-IN. Each laying: the table of numbers ('.._ren') and one theorem, a field a fact of the dump's own or the kernel's comparison; each contract: ONE APPLICATION.
-/
def Tryz.lays190_ren : Go.Shelf.Ren := ⟨fun | 190 => 115 | 125 => 154 | 258 => 153 | 128 => 193 | 129 => 194 | 302 => 184 | 303 => 185 | 304 => 186 | 305 => 187 | 306 => 188 | 307 => 189 | 308 => 190 | 309 => 191 | 310 => 192 | 333 => 223 | 329 => 224 | 330 => 225 | 334 => 226 | 335 => 227 | 336 => 228 | 344 => 254 | n => n, fun | 31 => 223 | 9 => 9 | 3 => 3 | 46 => 234 | 0 => 0 | 51 => 270 | 53 => 232 | 4 => 4 | 183 => 300 | 182 => 299 | 131 => 137 | 5 => 5 | 218 => 333 | 222 => 242 | 228 => 363 | 229 => 243 | n => n, fun | n => n⟩
theorem Tryz.lays190 : Go.Proofs.Lays.n190 Tryz.prog Tryz.lays190_ren := {
 mixed := by kernel_rfl
 f125 := Tryz.func154.trans (congrArg some (by kernel_rfl))
 f128 := Tryz.func193.trans (congrArg some (by kernel_rfl))
 f129 := Tryz.func194.trans (congrArg some (by kernel_rfl))
 f190 := Tryz.func115.trans (congrArg some (by kernel_rfl))
 f258 := Tryz.func153.trans (congrArg some (by kernel_rfl))
 f302 := Tryz.func184.trans (congrArg some (by kernel_rfl))
 f303 := Tryz.func185.trans (congrArg some (by kernel_rfl))
 f304 := Tryz.func186.trans (congrArg some (by kernel_rfl))
 f305 := Tryz.func187.trans (congrArg some (by kernel_rfl))
 f306 := Tryz.func188.trans (congrArg some (by kernel_rfl))
 f307 := Tryz.func189.trans (congrArg some (by kernel_rfl))
 f308 := Tryz.func190.trans (congrArg some (by kernel_rfl))
 f309 := Tryz.func191.trans (congrArg some (by kernel_rfl))
 f310 := Tryz.func192.trans (congrArg some (by kernel_rfl))
 f329 := Tryz.func224.trans (congrArg some (by kernel_rfl))
 f330 := Tryz.func225.trans (congrArg some (by kernel_rfl))
 f333 := Tryz.func223.trans (congrArg some (by kernel_rfl))
 f334 := Tryz.func226.trans (congrArg some (by kernel_rfl))
 f335 := Tryz.func227.trans (congrArg some (by kernel_rfl))
 f336 := Tryz.func228.trans (congrArg some (by kernel_rfl))
 f344 := Tryz.func254.trans (congrArg some (by kernel_rfl))
 t0 := Tryz.underlying0
 a0 := Tryz.isAgg0
 z0 := Tryz.sizeOf0
 v0 := Tryz.zeroValue0
 t3 := Tryz.underlying3
 a3 := Tryz.isAgg3
 z3 := Tryz.sizeOf3
 v3 := Tryz.zeroValue3
 t4 := Tryz.underlying4
 a4 := Tryz.isAgg4
 z4 := Tryz.sizeOf4
 v4 := Tryz.zeroValue4
 t5 := Tryz.underlying5
 a5 := Tryz.isAgg5
 z5 := Tryz.sizeOf5
 v5 := Tryz.zeroValue5
 t9 := Tryz.underlying9
 a9 := Tryz.isAgg9
 z9 := Tryz.sizeOf9
 v9 := Tryz.zeroValue9
 t31 := Tryz.underlying223
 a31 := Tryz.isAgg223
 z31 := Tryz.sizeOf223
 v31 := Tryz.zeroValue223
 t46 := Tryz.underlying234
 a46 := Tryz.isAgg234
 z46 := Tryz.sizeOf234
 v46 := Tryz.zeroValue234
 t51 := Tryz.underlying270
 a51 := Tryz.isAgg270
 z51 := Tryz.sizeOf270
 v51 := Tryz.zeroValue270
 t53 := Tryz.underlying232
 a53 := Tryz.isAgg232
 z53 := Tryz.sizeOf232
 v53 := Tryz.zeroValue232
 t131 := Tryz.underlying137
 a131 := Tryz.isAgg137
 z131 := Tryz.sizeOf137
 v131 := Tryz.zeroValue137
 t182 := Tryz.underlying299
 a182 := Tryz.isAgg299
 z182 := Tryz.sizeOf299
 v182 := Tryz.zeroValue299
 t183 := Tryz.underlying300
 a183 := Tryz.isAgg300
 z183 := Tryz.sizeOf300
 v183 := Tryz.zeroValue300
 t218 := Tryz.underlying333
 a218 := Tryz.isAgg333
 z218 := Tryz.sizeOf333
 v218 := Tryz.zeroValue333
 t222 := Tryz.underlying242
 a222 := Tryz.isAgg242
 z222 := Tryz.sizeOf242
 v222 := Tryz.zeroValue242
 t228 := Tryz.underlying363
 a228 := Tryz.isAgg363
 z228 := Tryz.sizeOf363
 v228 := Tryz.zeroValue363
 t229 := Tryz.underlying243
 a229 := Tryz.isAgg243
 z229 := Tryz.sizeOf243
 v229 := Tryz.zeroValue243 }
def Tryz.cmpInt_ren : Go.Shelf.Ren := ⟨fun | 5 => 118 | 7 => 156 | n => n, fun | 22 => 3 | 3 => 3 | 4 => 4 | n => n, fun | n => n⟩
theorem Tryz.cmpInt : Go.Proofs.SlLaysC2.n5 Tryz.prog Tryz.cmpInt_ren := {
 mixed := by kernel_rfl
 f5 := ⟨Tryz.f118.name, by decide, Tryz.func118.trans (congrArg some (by kernel_rfl))⟩
 f7 := ⟨Tryz.f156.name, by decide, Tryz.func156.trans (congrArg some (by kernel_rfl))⟩
 t3 := Tryz.underlying3
 a3 := Tryz.isAgg3
 z3 := Tryz.sizeOf3
 v3 := Tryz.zeroValue3
 t4 := Tryz.underlying4
 a4 := Tryz.isAgg4
 z4 := Tryz.sizeOf4
 v4 := Tryz.zeroValue4
 t22 := Tryz.underlying3
 a22 := Tryz.isAgg3
 z22 := Tryz.sizeOf3
 v22 := Tryz.zeroValue3 }
def Tryz.sortSp_ren : Go.Shelf.Ren := ⟨fun | 6 => 116 | 15 => 154 | 14 => 155 | 28 => 193 | 29 => 194 | 20 => 195 | 21 => 196 | 22 => 197 | 23 => 198 | 24 => 199 | 25 => 200 | 26 => 201 | 27 => 202 | 46 => 229 | 47 => 224 | 48 => 225 | 49 => 230 | 50 => 231 | 57 => 255 | n => n, fun | 22 => 172 | 24 => 178 | 25 => 227 | 3 => 3 | 39 => 234 | 0 => 0 | 53 => 270 | 55 => 232 | 4 => 4 | 46 => 300 | 45 => 299 | 50 => 137 | 5 => 5 | 9 => 9 | 66 => 333 | 70 => 242 | 76 => 363 | 77 => 243 | n => n, fun | n => n⟩
theorem Tryz.sortSp : Go.Proofs.SlLaysF0.n6 Tryz.prog Tryz.sortSp_ren := {
 mixed := by kernel_rfl
 f6 := ⟨Tryz.f116.name, by decide, Tryz.func116.trans (congrArg some (by kernel_rfl))⟩
 f14 := ⟨Tryz.f155.name, by decide, Tryz.func155.trans (congrArg some (by kernel_rfl))⟩
 f15 := Tryz.func154.trans (congrArg some (by kernel_rfl))
 f20 := ⟨Tryz.f195.name, by decide, Tryz.func195.trans (congrArg some (by kernel_rfl))⟩
 f21 := ⟨Tryz.f196.name, by decide, Tryz.func196.trans (congrArg some (by kernel_rfl))⟩
 f22 := ⟨Tryz.f197.name, by decide, Tryz.func197.trans (congrArg some (by kernel_rfl))⟩
 f23 := ⟨Tryz.f198.name, by decide, Tryz.func198.trans (congrArg some (by kernel_rfl))⟩
 f24 := ⟨Tryz.f199.name, by decide, Tryz.func199.trans (congrArg some (by kernel_rfl))⟩
 f25 := ⟨Tryz.f200.name, by decide, Tryz.func200.trans (congrArg some (by kernel_rfl))⟩
 f26 := ⟨Tryz.f201.name, by decide, Tryz.func201.trans (congrArg some (by kernel_rfl))⟩
 f27 := ⟨Tryz.f202.name, by decide, Tryz.func202.trans (congrArg some (by kernel_rfl))⟩
 f28 := Tryz.func193.trans (congrArg some (by kernel_rfl))
 f29 := Tryz.func194.trans (congrArg some (by kernel_rfl))
 f46 := ⟨Tryz.f229.name, by decide, Tryz.func229.trans (congrArg some (by kernel_rfl))⟩
 f47 := Tryz.func224.trans (congrArg some (by kernel_rfl))
 f48 := Tryz.func225.trans (congrArg some (by kernel_rfl))
 f49 := ⟨Tryz.f230.name, by decide, Tryz.func230.trans (congrArg some (by kernel_rfl))⟩
 f50 := ⟨Tryz.f231.name, by decide, Tryz.func231.trans (congrArg some (by kernel_rfl))⟩
 f57 := ⟨Tryz.f255.name, by decide, Tryz.func255.trans (congrArg some (by kernel_rfl))⟩
 t0 := Tryz.underlying0
 a0 := Tryz.isAgg0
 z0 := Tryz.sizeOf0
 v0 := Tryz.zeroValue0
 t3 := Tryz.underlying3
 a3 := Tryz.isAgg3
 z3 := Tryz.sizeOf3
 v3 := Tryz.zeroValue3
 t4 := Tryz.underlying4
 a4 := Tryz.isAgg4
 z4 := Tryz.sizeOf4
 v4 := Tryz.zeroValue4
 t5 := Tryz.underlying5
 a5 := Tryz.isAgg5
 z5 := Tryz.sizeOf5
 v5 := Tryz.zeroValue5
 t9 := Tryz.underlying9
 a9 := Tryz.isAgg9
 z9 := Tryz.sizeOf9
 v9 := Tryz.zeroValue9
 t22 := Tryz.underlying172
 a22 := Tryz.isAgg172
 z22 := Tryz.sizeOf172
 v22 := Tryz.zeroValue172
 t25 := Tryz.underlying227
 a25 := Tryz.isAgg227
 z25 := Tryz.sizeOf227
 v25 := Tryz.zeroValue227
 t39 := Tryz.underlying234
 a39 := Tryz.isAgg234
 z39 := Tryz.sizeOf234
 v39 := Tryz.zeroValue234
 t45 := Tryz.underlying299
 a45 := Tryz.isAgg299
 z45 := Tryz.sizeOf299
 v45 := Tryz.zeroValue299
 t46 := Tryz.underlying300
 a46 := Tryz.isAgg300
 z46 := Tryz.sizeOf300
 v46 := Tryz.zeroValue300
 t50 := Tryz.underlying137
 a50 := Tryz.isAgg137
 z50 := Tryz.sizeOf137
 v50 := Tryz.zeroValue137
 t53 := Tryz.underlying270
 a53 := Tryz.isAgg270
 z53 := Tryz.sizeOf270
 v53 := Tryz.zeroValue270
 t55 := Tryz.underlying232
 a55 := Tryz.isAgg232
 z55 := Tryz.sizeOf232
 v55 := Tryz.zeroValue232
 t66 := Tryz.underlying333
 a66 := Tryz.isAgg333
 z66 := Tryz.sizeOf333
 v66 := Tryz.zeroValue333
 t70 := Tryz.underlying242
 a70 := Tryz.isAgg242
 z70 := Tryz.sizeOf242
 v70 := Tryz.zeroValue242
 t76 := Tryz.underlying363
 a76 := Tryz.isAgg363
 z76 := Tryz.sizeOf363
 v76 := Tryz.zeroValue363
 t77 := Tryz.underlying243
 a77 := Tryz.isAgg243
 z77 := Tryz.sizeOf243
 v77 := Tryz.zeroValue243 }
end
end Go.Proofs.YtagemonojdgbdaaGreatDoor
