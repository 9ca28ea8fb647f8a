import Derived.Lib.ItoaNum
import Derived.Lib.AtoiAllCases
import Derived.Test.YtehccbdajiiaaaaGreatDoorRows
import Derived.JoinedOf
import Derived.KernelRfl
import Derived.SevenTiedAt
namespace Go.Proofs.YtehccbdajiiaaaaGreatDoor
open Go.Proofs.Tryz
set_option maxRecDepth 100000
section
open Go.Lib
def Dgs(l:List UInt8):Prop:= ∀b∈l,48<=b.toNat/\b.toNat<=57
def Ny(l:List UInt8):Nat:=l.foldl (fun a b=>a*10+(b.toNat-48)) 0
theorem Nz(l:List UInt8)(b:UInt8):Ny (l++[b])=Ny l*10+(b.toNat-48):=by simp[Ny]
theorem uk{d:Nat}(h:d<10):(UInt8.ofNat (48+d)).toNat=48+d:=by simp;omega
theorem RD(m:Nat):decDigits m≠[]:=by rw[decDigits];split<;>simp
theorem Lr: ∀m:Nat,Dgs (decDigits m)/\Ny (decDigits m)=m:=by
 intro m
 induction m using Nat.strongRecOn with
 |_ m b=>
  rw[decDigits];by_cases h:m<10
  ·rw[dif_pos h];refine⟨fun e a=>?_,?_⟩
   ·rw[List.mem_singleton]at a;subst a;have:=uk h;omega
   ·simp only[Ny,List.foldl];rw[uk h];omega
  ·rw[dif_neg h];obtain⟨c,d⟩:=b (m/10) (by omega);have b:=uk (show m%10<10 by omega);refine⟨fun e a=>?_,?_⟩
   ·rcases List.mem_append.1 a with a|a
    ·exact c e a
    ·rw[List.mem_singleton]at a;subst a;omega
   ·rw[Nz,d,b];omega
def uV(a:Nat)(b:UInt8):Nat:=a*10+(b.toNat-48)
theorem Ca(l:List UInt8):l.foldl uV 0=Ny l:=rfl
theorem Ls: ∀(l:List UInt8) (a:Nat),a<=l.foldl uV a
 |[],_=>Nat.le_refl _
 |b::r,a=>by have:=Ls r (uV a b);simp only[List.foldl];unfold uV at this⊢;omega
theorem Dgs.tail{b:UInt8}{r:List UInt8}(h:Dgs (b::r)):Dgs r:=fun x a=>h x (List.mem_cons_of_mem _ a)
theorem Cb: ∀(l:List UInt8) (a:Nat),Dgs l->l.foldl uV a<18446744073709551616->parseUint10 a l=.ok (l.foldl uV a)
 |[],_,_,_=>rfl
 |b::r,a,hd,h=>by have d:=hd b (by simp);have c:=Ls r (uV a b);simp only[List.foldl]at h⊢;have c:uV a b=a*10+(b.toNat-48):=rfl;rw[parseUint10,if_pos d,if_neg (by omega),if_neg (by omega),<-c];exact Cb r _ hd.tail h
theorem Cc{m:Nat}(h:m<18446744073709551616):parseMag (decDigits m)=.ok m:=by obtain⟨b,a⟩:=Lr m;unfold parseMag;rw[if_neg (RD m),Cb _ _ b (by rw[Ca,a];exact h),Ca,a]
theorem RF(m:Nat): ∃b r,decDigits m=b::r/\48<=b.toNat/\b.toNat<=57:=by
 cases h:decDigits m with
 |nil=>exact absurd h (RD m)
 |cons b r=>exact⟨b,r,rfl,(Lr m).1 b (by rw[h];simp)⟩
def JH(n:Int):Prop:= -9223372036854775808<=n/\n<=9223372036854775807
theorem NA{n:Int}(h:JH n):atoiAll (itoa n)=.ok n:=by
 obtain⟨a,b⟩:=h;unfold itoa;by_cases a:n<0
 ·rw[if_pos a,atoiAll_minus,Cc (by omega)];simp only[signed];rw[if_neg (by omega)];congr 1;omega
 ·rw[if_neg a];obtain⟨d,r,a,c,b⟩:=RF n.toNat;rw[a,atoiAll_plain d r (by omega) (by omega),<-a,Cc (by omega)];simp only[signless];rw[if_neg (by omega)];congr 1;omega
def jm(key:List UInt8):Option Int:=match atoiAll key with
 | .ok v=>if itoa v=key then some v else none
 |_=>none
theorem JI{key:List UInt8}{v:Int}:jm key=some v↔key=itoa v/\JH v:=by
 unfold jm;constructor
 ·intro h
  cases ha:atoiAll key with
  |ok u=>
   rw[ha]at h;simp only at h;split at h
   ·rename_i a;injection h with h;subst h;exact⟨a.symm,atoiAll_bounds ha⟩
   ·cases h
  |_=>rw[ha]at h;cases h
 ·rintro⟨rfl,h⟩;rw[NA h];simp
end
theorem WG:laidOutB prog=true:=by kernel_rfl
theorem WH:mapsRowed prog=true:=by kernel_rfl
theorem WI:true=Tryz.pinned.checked.prog.looks []:=by kernel_rfl
theorem WJ:Tryz.pinned.checked.prog.mainIs=some ((true, "736017e47a8315814ff50c4025c3bab5fa46e72e13938186e07c5768f6aaa04c").1,(true, "736017e47a8315814ff50c4025c3bab5fa46e72e13938186e07c5768f6aaa04c").2.toList):=by kernel_rfl
theorem yY:(Rows.serialPartsRow.inPlace==prog.inPlace 4)=true:=by kernel_rfl
theorem yZ:(Rows.serialPartsRow.unfollowed==prog.unfollowed 4)=true:=by kernel_rfl
theorem y8:(Rows.serialPartsRow.recurses==prog.recurses 4)=true:=by kernel_rfl
theorem za:(Rows.serialPartsRow.named==prog.varsNamed 4)=true:=by kernel_rfl
theorem rD:joinedFacts prog 4 Tryz.f4 Rows.serialPartsSpec Rows.serialPartsRow=true:=by
 unfold joinedFacts;simp only[Bool.and_eq_true]
 repeat' apply And.intro
 all_goals first|with_reducible exact WG|with_reducible exact WH|with_reducible exact yY|with_reducible exact yZ|with_reducible exact y8|with_reducible exact za|kernel_rfl
theorem zb:Rows.serialPartsRow.wfByText (OpenSpec.ofChange Rows.serialPartsSpec)=true:=by kernel_rfl
theorem ze:false=Rows.serialPartsRow.goesBy Tryz.pinned.checked.prog:=by kernel_rfl
theorem Gs:(Rows.reconAtsRow.inPlace==prog.inPlace 5)=true:=by kernel_rfl
theorem Gt:(Rows.reconAtsRow.unfollowed==prog.unfollowed 5)=true:=by kernel_rfl
theorem Gu:(Rows.reconAtsRow.recurses==prog.recurses 5)=true:=by kernel_rfl
theorem Gv:(Rows.reconAtsRow.named==prog.varsNamed 5)=true:=by kernel_rfl
theorem vD:joinedFacts prog 5 Tryz.f5 Rows.reconAtsSpec Rows.reconAtsRow=true:=by
 unfold joinedFacts;simp only[Bool.and_eq_true]
 repeat' apply And.intro
 all_goals first|with_reducible exact WG|with_reducible exact WH|with_reducible exact Gs|with_reducible exact Gt|with_reducible exact Gu|with_reducible exact Gv|kernel_rfl
theorem Gx:Rows.reconAtsRow.wfByText (OpenSpec.ofChange Rows.reconAtsSpec)=true:=by kernel_rfl
theorem Gy:false=Rows.reconAtsRow.goesBy Tryz.pinned.checked.prog:=by kernel_rfl
end Go.Proofs.YtehccbdajiiaaaaGreatDoor
