import Derived.Shelf.LaysM
import Derived.Shelf.Strconv.Clone
import Derived.Shelf.Bits.Mul64
import Derived.Ground.NamesProg
import Derived.Test.YtehccbdajiiaaaaGreatDoorProg
import Derived.Shelf.LaysC
import Derived.Shelf.Strconv.AtoiAll
import Derived.Shelf.Strconv.ErrVarAll
import Derived.Test.YtehccbdajiiaaaaGreatDoorRows
import Derived.JoinedOf
import Derived.KernelRfl
import Derived.SevenTiedAt
namespace Go.Proofs.YtehccbdajiiaaaaGreatDoor
open Go.Proofs.Tryz
set_option maxRecDepth 100000
section
open Go.Shelf
/-
 DERIVED:THE SHELF's CONTRACTS AT THIS DUMP,IN PLAIN WORDS (tools/lay-plain.mjs out of 'TryzShelfR.zR,which tools/lay-shelf.mjs wrote):THE SAME fT UNDER THE SAME NAMES:'import','namespace','open','def','theorem' AND NOTHING ELSE:no command of the shelf's:FOR A HAND-IN. Each laying:the table of numbers ('..zS) and one theorem,a field a fact of the dump's own or the kernel's comparison;each contract:ONE gV.
-/
def Tryz.CU:Go.Shelf.Ren:=⟨fun|316=>284|n=>n,fun|9=>9|3=>3|4=>4|37=>53|0=>0|127=>392|5=>5|n=>n,fun|n=>n⟩
theorem Tryz.Qj:Go.Proofs.LaysM.n316 prog Tryz.CU:={
 mixed:=by kernel_rfl
 f316:=func284.trans (congrArg some (by kernel_rfl))
 t0:=underlying0
 a0:=isAgg0
 z0:=sizeOf0
 v0:=zeroValue0
 t3:=underlying3
 a3:=isAgg3
 z3:=sizeOf3
 v3:=zeroValue3
 t4:=underlying4
 a4:=isAgg4
 z4:=sizeOf4
 v4:=zeroValue4
 t9:=underlying9
 a9:=isAgg9
 z9:=sizeOf9
 v9:=zeroValue9
 t37:=underlying53
 a37:=isAgg53
 z37:=sizeOf53
 v37:=zeroValue53
 t127:=underlying392
 a127:=isAgg392
 z127:=sizeOf392
 v127:=zeroValue392
 t5:=underlying5
 a5:=isAgg5
 z5:=sizeOf5
 v5:=zeroValue5
 i0:=by kernel_rfl
 i3:=by kernel_rfl
 i4:=by kernel_rfl
 i5:=by kernel_rfl
 i9:=by kernel_rfl
 i37:=by kernel_rfl
 i127:=by kernel_rfl}
def Tryz.Fv:Go.Shelf.Ren:=⟨fun|264=>197|n=>n,fun|53=>233|46=>178|n=>n,fun|n=>n⟩
theorem Tryz.TR:Go.Proofs.Lays.n264 prog Tryz.Fv:={
 mixed:=by kernel_rfl
 f264:=func197.trans (congrArg some (by kernel_rfl))
 t46:=underlying178
 a46:=isAgg178
 z46:=sizeOf178
 v46:=zeroValue178
 t53:=underlying233
 a53:=isAgg233
 z53:=sizeOf233
 v53:=zeroValue233}
end
section
open Go.Shelf
/-
 DERIVED:THE SHELF's CONTRACTS AT THIS DUMP,IN PLAIN WORDS (tools/lay-plain.mjs out of 'TryzShelfA.zR,which tools/lay-shelf.mjs wrote):THE SAME fT UNDER THE SAME NAMES:'import','namespace','open','def','theorem' AND NOTHING ELSE:no command of the shelf's:FOR A HAND-IN. Each laying:the table of numbers ('..zS) and one theorem,a field a fact of the dump's own or the kernel's comparison;each contract:ONE gV.
-/
def Tryz.CV:Go.Shelf.Ren:=⟨fun|172=>204|244=>236|245=>237|247=>264|279=>265|280=>266|281=>267|282=>268|287=>283|316=>284|171=>200|205=>285|321=>293|322=>294|243=>229|246=>252|283=>274|284=>275|285=>276|286=>277|129=>138|317=>288|318=>289|319=>290|320=>291|337=>295|338=>296|n=>n,fun|9=>9|3=>3|75=>309|76=>310|4=>4|5=>5|167=>365|37=>53|0=>0|85=>366|2=>2|168=>368|53=>233|175=>381|46=>178|210=>384|127=>392|145=>395|143=>393|21=>21|171=>373|173=>375|212=>388|51=>231|20=>20|213=>389|232=>396|233=>397|80=>398|n=>n,fun|15=>3|16=>4|17=>5|18=>6|19=>7|n=>n⟩
theorem Tryz.yi:Go.Proofs.LaysC.n172 prog Tryz.CV:={
 mixed:=by kernel_rfl
 f129:=func138.trans (congrArg some (by kernel_rfl))
 f171:=func200.trans (congrArg some (by kernel_rfl))
 f172:=func204.trans (congrArg some (by kernel_rfl))
 f205:=func285.trans (congrArg some (by kernel_rfl))
 f243:=func229.trans (congrArg some (by kernel_rfl))
 f244:=func236.trans (congrArg some (by kernel_rfl))
 f245:=func237.trans (congrArg some (by kernel_rfl))
 f246:=func252.trans (congrArg some (by kernel_rfl))
 f247:=func264.trans (congrArg some (by kernel_rfl))
 f279:=func265.trans (congrArg some (by kernel_rfl))
 f280:=func266.trans (congrArg some (by kernel_rfl))
 f281:=func267.trans (congrArg some (by kernel_rfl))
 f282:=func268.trans (congrArg some (by kernel_rfl))
 f283:=func274.trans (congrArg some (by kernel_rfl))
 f284:=func275.trans (congrArg some (by kernel_rfl))
 f285:=func276.trans (congrArg some (by kernel_rfl))
 f286:=func277.trans (congrArg some (by kernel_rfl))
 f287:=func283.trans (congrArg some (by kernel_rfl))
 f316:=func284.trans (congrArg some (by kernel_rfl))
 f317:=func288.trans (congrArg some (by kernel_rfl))
 f318:=func289.trans (congrArg some (by kernel_rfl))
 f319:=func290.trans (congrArg some (by kernel_rfl))
 f320:=func291.trans (congrArg some (by kernel_rfl))
 f321:=func293.trans (congrArg some (by kernel_rfl))
 f322:=func294.trans (congrArg some (by kernel_rfl))
 f337:=func295.trans (congrArg some (by kernel_rfl))
 f338:=func296.trans (congrArg some (by kernel_rfl))
 t0:=underlying0
 a0:=isAgg0
 z0:=sizeOf0
 v0:=zeroValue0
 t2:=underlying2
 a2:=isAgg2
 z2:=sizeOf2
 v2:=zeroValue2
 t3:=underlying3
 a3:=isAgg3
 z3:=sizeOf3
 v3:=zeroValue3
 t4:=underlying4
 a4:=isAgg4
 z4:=sizeOf4
 v4:=zeroValue4
 t5:=underlying5
 a5:=isAgg5
 z5:=sizeOf5
 v5:=zeroValue5
 t9:=underlying9
 a9:=isAgg9
 z9:=sizeOf9
 v9:=zeroValue9
 t20:=underlying20
 a20:=isAgg20
 z20:=sizeOf20
 v20:=zeroValue20
 t21:=underlying21
 a21:=isAgg21
 z21:=sizeOf21
 v21:=zeroValue21
 t37:=underlying53
 a37:=isAgg53
 z37:=sizeOf53
 v37:=zeroValue53
 t46:=underlying178
 a46:=isAgg178
 z46:=sizeOf178
 v46:=zeroValue178
 t51:=underlying231
 a51:=isAgg231
 z51:=sizeOf231
 v51:=zeroValue231
 t53:=underlying233
 a53:=isAgg233
 z53:=sizeOf233
 v53:=zeroValue233
 t75:=underlying309
 a75:=isAgg309
 z75:=sizeOf309
 v75:=zeroValue309
 t76:=underlying310
 a76:=isAgg310
 z76:=sizeOf310
 v76:=zeroValue310
 t85:=underlying366
 a85:=isAgg366
 z85:=sizeOf366
 v85:=zeroValue366
 t127:=underlying392
 a127:=isAgg392
 z127:=sizeOf392
 v127:=zeroValue392
 t143:=underlying393
 a143:=isAgg393
 z143:=sizeOf393
 v143:=zeroValue393
 t145:=underlying395
 a145:=isAgg395
 z145:=sizeOf395
 v145:=zeroValue395
 t167:=underlying365
 a167:=isAgg365
 z167:=sizeOf365
 v167:=zeroValue365
 t168:=underlying368
 a168:=isAgg368
 z168:=sizeOf368
 v168:=zeroValue368
 t171:=underlying373
 a171:=isAgg373
 z171:=sizeOf373
 v171:=zeroValue373
 t173:=underlying375
 a173:=isAgg375
 z173:=sizeOf375
 v173:=zeroValue375
 t175:=underlying381
 a175:=isAgg381
 z175:=sizeOf381
 v175:=zeroValue381
 t210:=underlying384
 a210:=isAgg384
 z210:=sizeOf384
 v210:=zeroValue384
 t212:=underlying388
 a212:=isAgg388
 z212:=sizeOf388
 v212:=zeroValue388
 t213:=underlying389
 a213:=isAgg389
 z213:=sizeOf389
 t232:=underlying396
 a232:=isAgg396
 z232:=sizeOf396
 v232:=zeroValue396
 t233:=underlying397
 a233:=isAgg397
 z233:=sizeOf397
 v233:=zeroValue397
 g15:=by kernel_rfl
 g16:=by kernel_rfl
 g17:=by kernel_rfl
 g18:=by kernel_rfl
 g19:=by kernel_rfl
 t80:=underlying398
 a80:=isAgg398
 z80:=sizeOf398
 v80:=zeroValue398
 i0:=by kernel_rfl
 i2:=by kernel_rfl
 i3:=by kernel_rfl
 i4:=by kernel_rfl
 i5:=by kernel_rfl
 i9:=by kernel_rfl
 i20:=by kernel_rfl
 i21:=by kernel_rfl
 i37:=by kernel_rfl
 i46:=by kernel_rfl
 i51:=by kernel_rfl
 i53:=by kernel_rfl
 i75:=by kernel_rfl
 i76:=by kernel_rfl
 i80:=by kernel_rfl
 i85:=by kernel_rfl
 i127:=by kernel_rfl
 i143:=by kernel_rfl
 i145:=by kernel_rfl
 i167:=by kernel_rfl
 i168:=by kernel_rfl
 i171:=by kernel_rfl
 i173:=by kernel_rfl
 i175:=by kernel_rfl
 i210:=by kernel_rfl
 i212:=by kernel_rfl
 i232:=by kernel_rfl
 i233:=by kernel_rfl
 m15:=by kernel_rfl
 m16:=by kernel_rfl
 m17:=by kernel_rfl
 m18:=by kernel_rfl
 m19:=by kernel_rfl
 c0:=by kernel_rfl
 c2:=by kernel_rfl
 c3:=by kernel_rfl
 c4:=by kernel_rfl
 c5:=by kernel_rfl
 c9:=by kernel_rfl
 c20:=by kernel_rfl
 c21:=by kernel_rfl
 c37:=by kernel_rfl
 c46:=by kernel_rfl
 c51:=by kernel_rfl
 c53:=by kernel_rfl
 c75:=by kernel_rfl
 c76:=by kernel_rfl
 c80:=by kernel_rfl
 c85:=by kernel_rfl
 c127:=by kernel_rfl
 c143:=by kernel_rfl
 c145:=by kernel_rfl
 c167:=by kernel_rfl
 c168:=by kernel_rfl
 c171:=by kernel_rfl
 c173:=by kernel_rfl
 c175:=by kernel_rfl
 c210:=by kernel_rfl
 c212:=by kernel_rfl
 c213:=by kernel_rfl
 c232:=by kernel_rfl
 c233:=by kernel_rfl}
end
theorem abl:laidOutB prog=true:=by kernel_rfl
theorem abm:mapsRowed prog=true:=by kernel_rfl
theorem abn:true=Tryz.pinned.checked.prog.looks []:=by kernel_rfl
theorem abo:Tryz.pinned.checked.prog.mainIs=some ((true, "736017e47a8315814ff50c4025c3bab5fa46e72e13938186e07c5768f6aaa04c").1,(true, "736017e47a8315814ff50c4025c3bab5fa46e72e13938186e07c5768f6aaa04c").2.toList):=by kernel_rfl
theorem zq:(Rows.reconPartsRow.inPlace==prog.inPlace 3)=true:=by kernel_rfl
theorem zr:(Rows.reconPartsRow.unfollowed==prog.unfollowed 3)=true:=by kernel_rfl
theorem zt:(Rows.reconPartsRow.recurses==prog.recurses 3)=true:=by kernel_rfl
theorem zu:(Rows.reconPartsRow.named==prog.varsNamed 3)=true:=by kernel_rfl
theorem rW:joinedFacts prog 3 Tryz.f3 Rows.reconPartsSpec Rows.reconPartsRow=true:=by
 unfold joinedFacts;simp only[Bool.and_eq_true]
 repeat' apply And.intro
 all_goals first|with_reducible exact abl|with_reducible exact abm|with_reducible exact zq|with_reducible exact zr|with_reducible exact zt|with_reducible exact zu|kernel_rfl
theorem zw:Rows.reconPartsRow.wfByText (OpenSpec.ofChange Rows.reconPartsSpec)=true:=by kernel_rfl
theorem zx:false=Rows.reconPartsRow.goesBy Tryz.pinned.checked.prog:=by kernel_rfl
end Go.Proofs.YtehccbdajiiaaaaGreatDoor
