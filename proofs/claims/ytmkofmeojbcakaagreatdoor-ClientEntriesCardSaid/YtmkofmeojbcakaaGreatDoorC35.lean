import Derived.Lib.ItoaNum
import Derived.Lib.AtoiAllCases
import Derived.Shelf.LaysM
import Derived.Shelf.Strconv.Clone
import Derived.Shelf.Bits.Mul64
import Derived.Ground.NamesProg
import Derived.Test.YtmkofmeojbcakaaGreatDoorProg
import Derived.Test.YtmkofmeojbcakaaGreatDoorRows
import Derived.JoinedOf
import Derived.KernelRfl
import Derived.SevenTiedAt
namespace Go.Proofs.YtmkofmeojbcakaaGreatDoor
open Go.Proofs.Tryz
set_option maxRecDepth 100000
section
open Go.Lib
def Dgs(l:List UInt8):Prop:= ∀b∈l,48<=b.toNat/\b.toNat<=57
def LI(l:List UInt8):Nat:=l.foldl (fun a b=>a*10+(b.toNat-48)) 0
theorem LJ(l:List UInt8)(b:UInt8):LI (l++[b])=LI l*10+(b.toNat-48):=by simp[LI]
theorem tY{d:Nat}(h:d<10):(UInt8.ofNat (48+d)).toNat=48+d:=by simp;omega
theorem Pf(m:Nat):decDigits m≠[]:=by rw[decDigits];split<;>simp
theorem JJ: ∀m:Nat,Dgs (decDigits m)/\LI (decDigits m)=m:=by
 intro m
 induction m using Nat.strongRecOn with
 |_ m ih=>
  rw[decDigits];by_cases h:m<10
  ·rw[dif_pos h];refine⟨fun b hb=>?_,?_⟩
   ·rw[List.mem_singleton]at hb;subst hb;have:=tY h;omega
   ·simp only[LI,List.foldl];rw[tY h];omega
  ·rw[dif_neg h];obtain⟨h1,h2⟩:=ih (m/10) (by omega);have hd:=tY (show m%10<10 by omega);refine⟨fun b hb=>?_,?_⟩
   ·rcases List.mem_append.1 hb with hb|hb
    ·exact h1 b hb
    ·rw[List.mem_singleton]at hb;subst hb;omega
   ·rw[LJ,h2,hd];omega
def uP(a:Nat)(b:UInt8):Nat:=a*10+(b.toNat-48)
theorem Bb(l:List UInt8):l.foldl uP 0=LI l:=rfl
theorem JK: ∀(l:List UInt8) (a:Nat),a<=l.foldl uP a
 |[],_=>Nat.le_refl _
 |b::r,a=>by have:=JK r (uP a b);simp only[List.foldl];unfold uP at this⊢;omega
theorem Dgs.tail{b:UInt8}{r:List UInt8}(h:Dgs (b::r)):Dgs r:=fun x hx=>h x (List.mem_cons_of_mem _ hx)
theorem Bc: ∀(l:List UInt8) (a:Nat),Dgs l->l.foldl uP a<18446744073709551616->parseUint10 a l=.ok (l.foldl uP a)
 |[],_,_,_=>rfl
 |b::r,a,hd,h=>by have hb:=hd b (by simp);have hg:=JK r (uP a b);simp only[List.foldl]at h⊢;have hs:uP a b=a*10+(b.toNat-48):=rfl;rw[parseUint10,if_pos hb,if_neg (by omega),if_neg (by omega),<-hs];exact Bc r _ hd.tail h
theorem Bd{m:Nat}(h:m<18446744073709551616):parseMag (decDigits m)=.ok m:=by obtain⟨h1,h2⟩:=JJ m;unfold parseMag;rw[if_neg (Pf m),Bc _ _ h1 (by rw[Bb,h2];exact h),Bb,h2]
theorem Pg(m:Nat): ∃b r,decDigits m=b::r/\48<=b.toNat/\b.toNat<=57:=by
 cases h:decDigits m with
 |nil=>exact absurd h (Pf m)
 |cons b r=>exact⟨b,r,rfl,(JJ m).1 b (by rw[h];simp)⟩
def Hs(n:Int):Prop:= -9223372036854775808<=n/\n<=9223372036854775807
theorem LK{n:Int}(h:Hs n):atoiAll (itoa n)=.ok n:=by
 obtain⟨h1,h2⟩:=h;unfold itoa;by_cases hn:n<0
 ·rw[if_pos hn,atoiAll_minus,Bd (by omega)];simp only[signed];rw[if_neg (by omega)];congr 1;omega
 ·rw[if_neg hn];obtain⟨b,r,hb,h48,h57⟩:=Pg n.toNat;rw[hb,atoiAll_plain b r (by omega) (by omega),<-hb,Bd (by omega)];simp only[signless];rw[if_neg (by omega)];congr 1;omega
def iW(key:List UInt8):Option Int:=match atoiAll key with
 | .ok v=>if itoa v=key then some v else none
 |_=>none
theorem Ht{key:List UInt8}{v:Int}:iW key=some v↔key=itoa v/\Hs v:=by
 unfold iW;constructor
 ·intro h
  cases ha:atoiAll key with
  |ok u=>
   rw[ha]at h;simp only at h;split at h
   ·rename_i he;injection h with h;subst h;exact⟨he.symm,atoiAll_bounds ha⟩
   ·cases h
  |_=>rw[ha]at h;cases h
 ·rintro⟨rfl,h⟩;rw[LK h];simp
theorem sF(m:Nat):(m:Int).tdiv 10=((m/10:Nat):Int):=by rfl
theorem sG(m:Nat):(m:Int).tmod 10=((m%10:Nat):Int):=by rfl
theorem tdiv_neg(m:Nat):(-(m:Int)).tdiv 10= -((m/10:Nat):Int):=by rw[Int.neg_tdiv,sF]
theorem tmod_neg(m:Nat):(-(m:Int)).tmod 10= -((m%10:Nat):Int):=by rw[Int.neg_tmod,sG]
theorem gz{n:Int}(h0:0<=n)(h:n<10):itoa n=[UInt8.ofNat (48+n.toNat)]:=by unfold itoa;rw[if_neg (by omega),decDigits_one (by omega)]
theorem LL{n:Int}(h:10<=n):itoa n=itoa (n.tdiv 10)++[UInt8.ofNat (48+(n.tmod 10).toNat)]:=by obtain⟨m,rfl⟩: ∃m:Nat,n=(m:Int):=⟨n.toNat,by omega⟩;rw[sF,sG];unfold itoa;rw[if_neg (by omega),if_neg (by omega),show((m:Int)).toNat=m by omega,show(((m/10:Nat):Int)).toNat=m/10 by omega,show(((m%10:Nat):Int)).toNat=m%10 by omega,decDigits,dif_neg (by omega)]
theorem dG{n:Int}(h0:n<0)(h:n.tdiv 10=0):itoa n=[45,UInt8.ofNat (48+(-n).toNat)]:=by obtain⟨m,rfl⟩: ∃m:Nat,n= -(m:Int):=⟨n.natAbs,by omega⟩;rw[tdiv_neg]at h;unfold itoa;rw[if_pos h0,show(-(m:Int)).natAbs=m by omega,decDigits_one (by omega),show(- -(m:Int)).toNat=m by omega]
theorem zr{n:Int}(h0:n<0)(h:n.tdiv 10≠0):itoa n=itoa (n.tdiv 10)++[UInt8.ofNat (48+(-(n.tmod 10)).toNat)]:=by obtain⟨m,rfl⟩: ∃m:Nat,n= -(m:Int):=⟨n.natAbs,by omega⟩;rw[tdiv_neg]at h;rw[tdiv_neg,tmod_neg];unfold itoa;rw[if_pos h0,if_pos (by omega),show(-(m:Int)).natAbs=m by omega,show(-((m/10:Nat):Int)).natAbs=m/10 by omega,show(- -((m%10:Nat):Int)).toNat=m%10 by omega];rw[show decDigits m=decDigits (m/10)++[UInt8.ofNat (48+m%10)] by rw[decDigits,dif_neg (by omega)]];rfl
end
section
open Go.Shelf
/-
 DERIVED:THE SHELF's CONTRACTS AT THIS DUMP,IN PLAIN WORDS (tools/lay-plain.mjs out of 'TryzShelfR.Dt,which tools/lay-shelf.mjs wrote):THE SAME gX UNDER THE SAME NAMES:'import','namespace','open','def','theorem' AND NOTHING ELSE:no command of the shelf's:FOR A HAND-IN. Each laying:the table of numbers ('..Du) and one theorem,a field a fact of the dump's own or the kernel's comparison;each contract:ONE jg.
-/
def Tryz.Cx:Go.Shelf.Ren:=⟨fun|316=>253|n=>n,fun|9=>9|3=>3|4=>4|37=>41|0=>0|127=>368|5=>5|n=>n,fun|n=>n⟩
theorem Tryz.Ph:Go.Proofs.LaysM.n316 prog Tryz.Cx:={
 mixed:=by kernel_rfl
 f316:=func253.trans (congrArg some (by kernel_rfl))
 t0:=underlying0
 a0:=isAgg0
 z0:=sizeOf0
 v0:=zeroValue0
 t3:=underlying3
 a3:=isAgg3
 z3:=sizeOf3
 v3:=zeroValue3
 t4:=underlying4
 a4:=isAgg4
 z4:=sizeOf4
 v4:=zeroValue4
 t9:=underlying9
 a9:=isAgg9
 z9:=sizeOf9
 v9:=zeroValue9
 t37:=underlying41
 a37:=isAgg41
 z37:=sizeOf41
 v37:=zeroValue41
 t127:=underlying368
 a127:=isAgg368
 z127:=sizeOf368
 v127:=zeroValue368
 t5:=underlying5
 a5:=isAgg5
 z5:=sizeOf5
 v5:=zeroValue5
 i0:=by kernel_rfl
 i3:=by kernel_rfl
 i4:=by kernel_rfl
 i5:=by kernel_rfl
 i9:=by kernel_rfl
 i37:=by kernel_rfl
 i127:=by kernel_rfl}
def Tryz.EJ:Go.Shelf.Ren:=⟨fun|264=>179|n=>n,fun|53=>134|46=>136|n=>n,fun|n=>n⟩
theorem Tryz.SY:Go.Proofs.Lays.n264 prog Tryz.EJ:={
 mixed:=by kernel_rfl
 f264:=func179.trans (congrArg some (by kernel_rfl))
 t46:=underlying136
 a46:=isAgg136
 z46:=sizeOf136
 v46:=zeroValue136
 t53:=underlying134
 a53:=isAgg134
 z53:=sizeOf134
 v53:=zeroValue134}
end
theorem aaj:laidOutB prog=true:=by kernel_rfl
theorem aak:mapsRowed prog=true:=by kernel_rfl
theorem aal:true=Tryz.pinned.checked.prog.looks []:=by kernel_rfl
theorem aam:Tryz.pinned.checked.prog.mainIs=some ((true, "08f27aba274c3905e0d50fd8bd3d68305e82a4d8492a394c5debc9d4689abc1f").1,(true, "08f27aba274c3905e0d50fd8bd3d68305e82a4d8492a394c5debc9d4689abc1f").2.toList):=by kernel_rfl
theorem tZ:(Rows.clientEntriesRow.inPlace==prog.inPlace 3)=true:=by kernel_rfl
theorem ua:(Rows.clientEntriesRow.unfollowed==prog.unfollowed 3)=true:=by kernel_rfl
theorem ub:(Rows.clientEntriesRow.recurses==prog.recurses 3)=true:=by kernel_rfl
theorem uf:(Rows.clientEntriesRow.named==prog.varsNamed 3)=true:=by kernel_rfl
theorem pA:joinedFacts prog 3 Tryz.f3 Rows.clientEntriesSpec Rows.clientEntriesRow=true:=by
 unfold joinedFacts;simp only[Bool.and_eq_true]
 repeat' apply And.intro
 all_goals first|with_reducible exact aaj|with_reducible exact aak|with_reducible exact tZ|with_reducible exact ua|with_reducible exact ub|with_reducible exact uf|kernel_rfl
theorem ug:Rows.clientEntriesRow.wfByText (OpenSpec.ofChange Rows.clientEntriesSpec)=true:=by kernel_rfl
theorem uh:false=Rows.clientEntriesRow.goesBy Tryz.pinned.checked.prog:=by kernel_rfl
end Go.Proofs.YtmkofmeojbcakaaGreatDoor
