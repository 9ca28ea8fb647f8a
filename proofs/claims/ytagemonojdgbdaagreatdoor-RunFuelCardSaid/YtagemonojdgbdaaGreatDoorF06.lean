import Derived.Lib.ItoaNum
import Derived.Lib.AtoiAllCases
namespace Go.Proofs.YtagemonojdgbdaaGreatDoor
set_option maxRecDepth 100000
section
open Go.Lib
def Uy(l:List UInt8):Prop:= ∀b∈l,48<=b.toNat/\b.toNat<=57
def Hu(l:List UInt8):Nat:=l.foldl (fun a b=>a*10+(b.toNat-48)) 0
theorem Hv(l:List UInt8)(b:UInt8):Hu (l++[b])=Hu l*10+(b.toNat-48):=by simp[Hu]
theorem qX{d:Nat}(h:d<10):(UInt8.ofNat (48+d)).toNat=48+d:=by simp;omega
theorem Ko(m:Nat):decDigits m≠[]:=by rw[decDigits];split<;>simp
theorem F5: ∀m:Nat,Uy (decDigits m)/\Hu (decDigits m)=m:=by
 intro m
 induction m using Nat.strongRecOn with
 |_ m ih=>
  rw[decDigits];by_cases h:m<10
  ·rw[dif_pos h];refine⟨fun b hb=>?_,?_⟩
   ·rw[List.mem_singleton]at hb;subst hb;have:=qX h;omega
   ·simp only[Hu,List.foldl];rw[qX h];omega
  ·rw[dif_neg h];obtain⟨h1,h2⟩:=ih (m/10) (by omega);have hd:=qX (show m%10<10 by omega);refine⟨fun b hb=>?_,?_⟩
   ·rcases List.mem_append.1 hb with hb|hb
    ·exact h1 b hb
    ·rw[List.mem_singleton]at hb;subst hb;omega
   ·rw[Hv,h2,hd];omega
def rS(a:Nat)(b:UInt8):Nat:=a*10+(b.toNat-48)
theorem xK(l:List UInt8):l.foldl rS 0=Hu l:=rfl
theorem F6: ∀(l:List UInt8) (a:Nat),a<=l.foldl rS a
 |[],_=>Nat.le_refl _
 |b::r,a=>by have:=F6 r (rS a b);simp only[List.foldl];unfold rS at this⊢;omega
theorem Uy.tail{b:UInt8}{r:List UInt8}(h:Uy (b::r)):Uy r:=fun x hx=>h x (List.mem_cons_of_mem _ hx)
theorem xL: ∀(l:List UInt8) (a:Nat),Uy l->l.foldl rS a<18446744073709551616->parseUint10 a l=.ok (l.foldl rS a)
 |[],_,_,_=>rfl
 |b::r,a,hd,h=>by have hb:=hd b (by simp);have hg:=F6 r (rS a b);simp only[List.foldl]at h⊢;have hs:rS a b=a*10+(b.toNat-48):=rfl;rw[parseUint10,if_pos hb,if_neg (by omega),if_neg (by omega),<-hs];exact xL r _ hd.tail h
theorem xM{m:Nat}(h:m<18446744073709551616):parseMag (decDigits m)=.ok m:=by obtain⟨h1,h2⟩:=F5 m;unfold parseMag;rw[if_neg (Ko m),xL _ _ h1 (by rw[xK,h2];exact h),xK,h2]
theorem Kp(m:Nat): ∃b r,decDigits m=b::r/\48<=b.toNat/\b.toNat<=57:=by
 cases h:decDigits m with
 |nil=>exact absurd h (Ko m)
 |cons b r=>exact⟨b,r,rfl,(F5 m).1 b (by rw[h];simp)⟩
def DG(n:Int):Prop:= -9223372036854775808<=n/\n<=9223372036854775807
theorem Hw{n:Int}(h:DG n):atoiAll (itoa n)=.ok n:=by
 obtain⟨h1,h2⟩:=h;unfold itoa;by_cases hn:n<0
 ·rw[if_pos hn,atoiAll_minus,xM (by omega)];simp only[signed];rw[if_neg (by omega)];congr 1;omega
 ·rw[if_neg hn];obtain⟨b,r,hb,h48,h57⟩:=Kp n.toNat;rw[hb,atoiAll_plain b r (by omega) (by omega),<-hb,xM (by omega)];simp only[signless];rw[if_neg (by omega)];congr 1;omega
def ib(key:List UInt8):Option Int:=match atoiAll key with
 | .ok v=>if itoa v=key then some v else none
 |_=>none
theorem DI{key:List UInt8}{v:Int}:ib key=some v↔key=itoa v/\DG v:=by
 unfold ib;constructor
 ·intro h
  cases ha:atoiAll key with
  |ok u=>
   rw[ha]at h;simp only at h;split at h
   ·rename_i he;injection h with h;subst h;exact⟨he.symm,atoiAll_bounds ha⟩
   ·cases h
  |_=>rw[ha]at h;cases h
 ·rintro⟨rfl,h⟩;rw[Hw h];simp
theorem pY(m:Nat):(m:Int).tdiv 10=((m/10:Nat):Int):=by rfl
theorem pZ(m:Nat):(m:Int).tmod 10=((m%10:Nat):Int):=by rfl
theorem tdiv_neg(m:Nat):(-(m:Int)).tdiv 10= -((m/10:Nat):Int):=by rw[Int.neg_tdiv,pY]
theorem tmod_neg(m:Nat):(-(m:Int)).tmod 10= -((m%10:Nat):Int):=by rw[Int.neg_tmod,pZ]
theorem fP{n:Int}(h0:0<=n)(h:n<10):itoa n=[UInt8.ofNat (48+n.toNat)]:=by unfold itoa;rw[if_neg (by omega),decDigits_one (by omega)]
theorem Hy{n:Int}(h:10<=n):itoa n=itoa (n.tdiv 10)++[UInt8.ofNat (48+(n.tmod 10).toNat)]:=by obtain⟨m,rfl⟩: ∃m:Nat,n=(m:Int):=⟨n.toNat,by omega⟩;rw[pY,pZ];unfold itoa;rw[if_neg (by omega),if_neg (by omega),show((m:Int)).toNat=m by omega,show(((m/10:Nat):Int)).toNat=m/10 by omega,show(((m%10:Nat):Int)).toNat=m%10 by omega,decDigits,dif_neg (by omega)]
theorem dh{n:Int}(h0:n<0)(h:n.tdiv 10=0):itoa n=[45,UInt8.ofNat (48+(-n).toNat)]:=by obtain⟨m,rfl⟩: ∃m:Nat,n= -(m:Int):=⟨n.natAbs,by omega⟩;rw[tdiv_neg]at h;unfold itoa;rw[if_pos h0,show(-(m:Int)).natAbs=m by omega,decDigits_one (by omega),show(- -(m:Int)).toNat=m by omega]
theorem wm{n:Int}(h0:n<0)(h:n.tdiv 10≠0):itoa n=itoa (n.tdiv 10)++[UInt8.ofNat (48+(-(n.tmod 10)).toNat)]:=by obtain⟨m,rfl⟩: ∃m:Nat,n= -(m:Int):=⟨n.natAbs,by omega⟩;rw[tdiv_neg]at h;rw[tdiv_neg,tmod_neg];unfold itoa;rw[if_pos h0,if_pos (by omega),show(-(m:Int)).natAbs=m by omega,show(-((m/10:Nat):Int)).natAbs=m/10 by omega,show(- -((m%10:Nat):Int)).toNat=m%10 by omega];rw[show decDigits m=decDigits (m/10)++[UInt8.ofNat (48+m%10)] by rw[decDigits,dif_neg (by omega)]];rfl
end
end Go.Proofs.YtagemonojdgbdaaGreatDoor
