import Derived.Shelf.Strings.Runes
import Derived.Ground.NamesProg
import Derived.Test.YtehccbdajiiaaaaGreatDoorProg
import Derived.Shelf.LaysM
import Derived.Shelf.Strconv.Itoa3
import Derived.Lib.ItoaNum
import Derived.Lib.AtoiAllCases
namespace Go.Proofs.YtehccbdajiiaaaaGreatDoor
open Go.Proofs.Tryz
set_option maxRecDepth 100000
section
open Go.Shelf
/-
 DERIVED:THE SHELF's CONTRACTS AT THIS DUMP,IN PLAIN WORDS (tools/lay-plain.mjs out of 'TryzShelfP.zR,which tools/lay-shelf.mjs wrote):THE SAME fT UNDER THE SAME NAMES:'import','namespace','open','def','theorem' AND NOTHING ELSE:no command of the shelf's:FOR A HAND-IN. Each laying:the table of numbers ('..zS) and one theorem,a field a fact of the dump's own or the kernel's comparison;each contract:ONE gV.
-/
def Tryz.D8:Go.Shelf.Ren:=⟨fun|151=>155|152=>196|137=>225|119=>226|224=>227|225=>228|217=>251|266=>273|n=>n,fun|9=>9|21=>21|4=>4|3=>3|5=>5|0=>0|46=>178|n=>n,fun|n=>n⟩
theorem Tryz.Sa:Go.Proofs.Lays.n151 prog Tryz.D8:={
 mixed:=by kernel_rfl
 f119:=func226.trans (congrArg some (by kernel_rfl))
 f137:=func225.trans (congrArg some (by kernel_rfl))
 f151:=func155.trans (congrArg some (by kernel_rfl))
 f152:=func196.trans (congrArg some (by kernel_rfl))
 f217:=func251.trans (congrArg some (by kernel_rfl))
 f224:=func227.trans (congrArg some (by kernel_rfl))
 f225:=func228.trans (congrArg some (by kernel_rfl))
 f266:=func273.trans (congrArg some (by kernel_rfl))
 t0:=underlying0
 a0:=isAgg0
 z0:=sizeOf0
 v0:=zeroValue0
 t3:=underlying3
 a3:=isAgg3
 z3:=sizeOf3
 v3:=zeroValue3
 t4:=underlying4
 a4:=isAgg4
 z4:=sizeOf4
 v4:=zeroValue4
 t5:=underlying5
 a5:=isAgg5
 z5:=sizeOf5
 v5:=zeroValue5
 t9:=underlying9
 a9:=isAgg9
 z9:=sizeOf9
 v9:=zeroValue9
 t21:=underlying21
 a21:=isAgg21
 z21:=sizeOf21
 v21:=zeroValue21
 t46:=underlying178
 a46:=isAgg178
 z46:=sizeOf178
 v46:=zeroValue178}
end
section
open Go.Shelf
/-
 DERIVED:THE SHELF's CONTRACTS AT THIS DUMP,IN PLAIN WORDS (tools/lay-plain.mjs out of 'TryzShelfI.zR,which tools/lay-shelf.mjs wrote):THE SAME fT UNDER THE SAME NAMES:'import','namespace','open','def','theorem' AND NOTHING ELSE:no command of the shelf's:FOR A HAND-IN. Each laying:the table of numbers ('..zS) and one theorem,a field a fact of the dump's own or the kernel's comparison;each contract:ONE gV.
-/
def Tryz.Cb:Go.Shelf.Ren:=⟨fun|171=>200|243=>229|246=>252|283=>274|284=>275|285=>276|286=>277|129=>138|317=>288|318=>289|319=>290|320=>291|337=>295|338=>296|n=>n,fun|3=>3|9=>9|2=>2|4=>4|171=>373|0=>0|53=>233|37=>53|5=>5|173=>375|212=>388|51=>231|20=>20|213=>389|46=>178|232=>396|233=>397|n=>n,fun|17=>5|18=>6|19=>7|n=>n⟩
theorem Tryz.NP:Go.Proofs.LaysM.n171 prog Tryz.Cb:={
 mixed:=by kernel_rfl
 f129:=func138.trans (congrArg some (by kernel_rfl))
 f171:=func200.trans (congrArg some (by kernel_rfl))
 f243:=func229.trans (congrArg some (by kernel_rfl))
 f246:=func252.trans (congrArg some (by kernel_rfl))
 f283:=func274.trans (congrArg some (by kernel_rfl))
 f284:=func275.trans (congrArg some (by kernel_rfl))
 f285:=func276.trans (congrArg some (by kernel_rfl))
 f286:=func277.trans (congrArg some (by kernel_rfl))
 f317:=func288.trans (congrArg some (by kernel_rfl))
 f318:=func289.trans (congrArg some (by kernel_rfl))
 f319:=func290.trans (congrArg some (by kernel_rfl))
 f320:=func291.trans (congrArg some (by kernel_rfl))
 f337:=func295.trans (congrArg some (by kernel_rfl))
 f338:=func296.trans (congrArg some (by kernel_rfl))
 t0:=underlying0
 a0:=isAgg0
 z0:=sizeOf0
 v0:=zeroValue0
 t2:=underlying2
 a2:=isAgg2
 z2:=sizeOf2
 v2:=zeroValue2
 t3:=underlying3
 a3:=isAgg3
 z3:=sizeOf3
 v3:=zeroValue3
 t4:=underlying4
 a4:=isAgg4
 z4:=sizeOf4
 v4:=zeroValue4
 t5:=underlying5
 a5:=isAgg5
 z5:=sizeOf5
 v5:=zeroValue5
 t9:=underlying9
 a9:=isAgg9
 z9:=sizeOf9
 v9:=zeroValue9
 t20:=underlying20
 a20:=isAgg20
 z20:=sizeOf20
 v20:=zeroValue20
 t37:=underlying53
 a37:=isAgg53
 z37:=sizeOf53
 v37:=zeroValue53
 t46:=underlying178
 a46:=isAgg178
 z46:=sizeOf178
 v46:=zeroValue178
 t51:=underlying231
 a51:=isAgg231
 z51:=sizeOf231
 v51:=zeroValue231
 t53:=underlying233
 a53:=isAgg233
 z53:=sizeOf233
 v53:=zeroValue233
 t171:=underlying373
 a171:=isAgg373
 z171:=sizeOf373
 v171:=zeroValue373
 t173:=underlying375
 a173:=isAgg375
 z173:=sizeOf375
 v173:=zeroValue375
 t212:=underlying388
 a212:=isAgg388
 z212:=sizeOf388
 v212:=zeroValue388
 t213:=underlying389
 a213:=isAgg389
 z213:=sizeOf389
 t232:=underlying396
 a232:=isAgg396
 z232:=sizeOf396
 v232:=zeroValue396
 t233:=underlying397
 a233:=isAgg397
 z233:=sizeOf397
 v233:=zeroValue397
 g17:=by kernel_rfl
 g18:=by kernel_rfl
 g19:=by kernel_rfl
 i0:=by kernel_rfl
 i2:=by kernel_rfl
 i3:=by kernel_rfl
 i4:=by kernel_rfl
 i5:=by kernel_rfl
 i9:=by kernel_rfl
 i20:=by kernel_rfl
 i37:=by kernel_rfl
 i46:=by kernel_rfl
 i51:=by kernel_rfl
 i53:=by kernel_rfl
 i171:=by kernel_rfl
 i173:=by kernel_rfl
 i212:=by kernel_rfl
 i232:=by kernel_rfl
 i233:=by kernel_rfl
 m17:=by kernel_rfl
 m18:=by kernel_rfl
 m19:=by kernel_rfl}
end
section
open Go.Lib
def ZN(l:List UInt8):Prop:= ∀b∈l,48<=b.toNat/\b.toNat<=57
def KZ(l:List UInt8):Nat:=l.foldl (fun a b=>a*10+(b.toNat-48)) 0
theorem K1(l:List UInt8)(b:UInt8):KZ (l++[b])=KZ l*10+(b.toNat-48):=by simp[KZ]
theorem sI{d:Nat}(h:d<10):(UInt8.ofNat (48+d)).toNat=48+d:=by simp;omega
theorem NQ(m:Nat):decDigits m≠[]:=by rw[decDigits];split<;>simp
theorem Jw: ∀m:Nat,ZN (decDigits m)/\KZ (decDigits m)=m:=by
 intro m
 induction m using Nat.strongRecOn with
 |_ m c=>
  rw[decDigits];by_cases h:m<10
  ·rw[dif_pos h];refine⟨fun e a=>?_,?_⟩
   ·rw[List.mem_singleton]at a;subst a;have:=sI h;omega
   ·simp only[KZ,List.foldl];rw[sI h];omega
  ·rw[dif_neg h];obtain⟨d,b⟩:=c (m/10) (by omega);have c:=sI (show m%10<10 by omega);refine⟨fun e a=>?_,?_⟩
   ·rcases List.mem_append.1 a with a|a
    ·exact d e a
    ·rw[List.mem_singleton]at a;subst a;omega
   ·rw[K1,b,c];omega
def tQ(a:Nat)(b:UInt8):Nat:=a*10+(b.toNat-48)
theorem Ak(l:List UInt8):l.foldl tQ 0=KZ l:=rfl
theorem Jy: ∀(l:List UInt8) (a:Nat),a<=l.foldl tQ a
 |[],_=>Nat.le_refl _
 |b::r,a=>by have:=Jy r (tQ a b);simp only[List.foldl];unfold tQ at this⊢;omega
theorem ZN.tail{b:UInt8}{r:List UInt8}(h:ZN (b::r)):ZN r:=fun x a=>h x (List.mem_cons_of_mem _ a)
theorem Am: ∀(l:List UInt8) (a:Nat),ZN l->l.foldl tQ a<18446744073709551616->parseUint10 a l=.ok (l.foldl tQ a)
 |[],_,_,_=>rfl
 |b::r,a,hd,h=>by have d:=hd b (by simp);have e:=Jy r (tQ a b);simp only[List.foldl]at h⊢;have c:tQ a b=a*10+(b.toNat-48):=rfl;rw[parseUint10,if_pos d,if_neg (by omega),if_neg (by omega),<-c];exact Am r _ hd.tail h
theorem Aq{m:Nat}(h:m<18446744073709551616):parseMag (decDigits m)=.ok m:=by obtain⟨b,a⟩:=Jw m;unfold parseMag;rw[if_neg (NQ m),Am _ _ b (by rw[Ak,a];exact h),Ak,a]
theorem NR(m:Nat): ∃b r,decDigits m=b::r/\48<=b.toNat/\b.toNat<=57:=by
 cases h:decDigits m with
 |nil=>exact absurd h (NQ m)
 |cons b r=>exact⟨b,r,rfl,(Jw m).1 b (by rw[h];simp)⟩
def Gv(n:Int):Prop:= -9223372036854775808<=n/\n<=9223372036854775807
theorem K2{n:Int}(h:Gv n):atoiAll (itoa n)=.ok n:=by
 obtain⟨f,e⟩:=h;unfold itoa;by_cases b:n<0
 ·rw[if_pos b,atoiAll_minus,Aq (by omega)];simp only[signed];rw[if_neg (by omega)];congr 1;omega
 ·rw[if_neg b];obtain⟨g,r,a,c,d⟩:=NR n.toNat;rw[a,atoiAll_plain g r (by omega) (by omega),<-a,Aq (by omega)];simp only[signless];rw[if_neg (by omega)];congr 1;omega
def jc(key:List UInt8):Option Int:=match atoiAll key with
 | .ok v=>if itoa v=key then some v else none
 |_=>none
theorem Gx{key:List UInt8}{v:Int}:jc key=some v↔key=itoa v/\Gv v:=by
 unfold jc;constructor
 ·intro h
  cases ha:atoiAll key with
  |ok u=>
   rw[ha]at h;simp only at h;split at h
   ·rename_i a;injection h with h;subst h;exact⟨a.symm,atoiAll_bounds ha⟩
   ·cases h
  |_=>rw[ha]at h;cases h
 ·rintro⟨rfl,h⟩;rw[K2 h];simp
end
end Go.Proofs.YtehccbdajiiaaaaGreatDoor
