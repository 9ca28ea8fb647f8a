import Derived.Test.YtmkofmeojbcakaaGreatDoorC09
import Derived.Test.YtmkofmeojbcakaaGreatDoorC13
import Derived.Test.YtmkofmeojbcakaaGreatDoorC14
namespace Go.Proofs.YtmkofmeojbcakaaGreatDoor
open Go.Proofs.Tryz
set_option maxRecDepth 100000
set_option maxHeartbeats 16000000
open Go.RowKit
def jc(l:List Int):List Value:=l.map (Value.int .i64)
theorem G5{w:World}{F:Nat->Prop}{A:Option Addr}{n c:Nat}{xs:List Int}(h:Rd w F (.slice A n c) (jc xs)):xs.length=n/\n<=c/\c<=maxLen/\ ∀j x,xs[j]?=some x-> ∃b o,A=some ⟨b,o,none⟩/\F b/\w.cell? ⟨b,o+j,none⟩=some (.int .i64 x):=by obtain⟨A',n',c',hv,hl,h1,h2,h3⟩:=h;injection hv with e1 e2 e3;subst e1 e2 e3;simp[jc]at hl;refine⟨hl,h1,h2,fun j x hj=>?_⟩;have hlt:=(b8.1 hj).1;obtain⟨b,o,e,hF,hu⟩:=h3 (by omega);exact⟨b,o,e,hF,hu j (.int .i64 x) (by simp[jc,hj])⟩
theorem tP{w:World}{F:Nat->Prop}{v:Value}{xs:List Int}(h:Rd w F v (jc xs)): ∃A c,v=.slice A xs.length c/\xs.length<=c/\c<=maxLen:=by obtain⟨A',n',c',hv,hl,h1,h2,_⟩:=h;simp[jc]at hl;exact⟨A',c',by rw[hl];exact hv,by omega,h2⟩
def jB(ns:List Int):List UInt8:=ns.flatMap fun n=>lQ n.toNat
def encI(ns:List Int):List UInt8:=ns.flatMap fun n=>lQ (oY n)
theorem eD(ns:List Int):(jB ns).length<=10*ns.length:=by
 induction ns with
 |nil=>simp[jB]
 |cons n ns ih=>have:=dv n.toNat;unfold jB at ih⊢;rw[List.flatMap_cons,fb,fm];omega
theorem fN(ns:List Int):(encI ns).length<=10*ns.length:=by
 induction ns with
 |nil=>simp[encI]
 |cons n ns ih=>have:=dv (oY n);unfold encI at ih⊢;rw[List.flatMap_cons,fb,fm];omega
theorem Lj{ns:List Int}{k:Nat}{n:Int}(h:ns[k]?=some n):jB (ns.take (k+1))=jB (ns.take k)++lQ n.toNat:=by rw[iv,h];simp[jB]
theorem Ll{ns:List Int}{k:Nat}{n:Int}(h:ns[k]?=some n):encI (ns.take (k+1))=encI (ns.take k)++lQ (oY n):=by rw[iv,h];simp[encI]
def Mt(w:World)(F:Nat->Prop)(b:Nat)(bs:List UInt8)(w':World):Prop:=Only F w w'/\ ∃F',nM w' F' b bs/\ ∀k,F' k->F k\/w.heap.size<=k
theorem Mt.next{w w1 w2:World}{F F1:Nat->Prop}{b:Nat}{bs:List UInt8}(h1:Only F w w1)(hF: ∀k,F1 k->F k\/w.heap.size<=k)(h2:Mt w1 F1 b bs w2):Mt w F b bs w2:=by
 obtain⟨ho,F2,hw,hF2⟩:=h2;refine⟨h1.x ho (fun k hk h=>(hF k h).resolve_right (by omega)),F2,hw,fun k hk=>?_⟩;rcases hF2 k hk with h|h
 ·exact hF k h
 ·exact .inr (da h1.size h)
theorem Lm(w:World)(F G:Nat->Prop)(b X:Nat)(bs:List UInt8)(A:Option Addr)(n c:Nat)(ns:List Int)(h:nM w F b bs)(hX:w.cell? ⟨X,0,none⟩=some (.func (.func 30) #[.pointer (some ⟨b,0,none⟩)] #[]))(Uy: ¬F X)
  (hv:Rd w G (.slice A n c) (jc ns)) (hG: ∀k,G k-> ¬F k) (hn: ∀n∈ns,0<=n/\n<=9223372036854775807) (hlen:bs.length+10*ns.length<=1000000000):
  Calls prog 50 #[.slice A n c,.pointer (some ⟨X,0,none⟩)] w fun e w'=>e=.returned (.tuple #[])/\Mt w F b (bs++jB ns) w':=by
 obtain⟨DA,hnc,hcm,hx⟩:=G5 hv;subst DA;unfold maxLen at hcm;have HX:=al (ab hx (ab hn (ab hG Uy)));have HS:=al (show Mt w F b (bs++jB (ns.take 0)) w from⟨ox _ _,F,by simpa[jB]using h,fun k hk=>.inl hk⟩);have XK:=aq _ _ hX;have HXC:=al hX;clear hx hn hG Uy h hv hX;go_enter func50,ntmps50;go_wp2_with fail
 go_loopw [7] (fun i wr=> ∃k:Nat,k<=ns.length/\i=.int .i64 (k:Int)/\Mt w F b (bs++jB (ns.take k)) wr) (fun i _=>ns.length-(intOf i).toNat)
 case atStart=>exact⟨0,dq _,rfl,HS.o⟩
 case round=>
  obtain⟨k,hk,rfl,hwr⟩:=hrel;by_cases hlt:k<ns.length
  ·obtain⟨x,hx⟩: ∃x,ns[k]?=some x:=⟨_,ao hlt⟩;obtain⟨ba,oa,rfl,Z7,cx⟩:=HX.o.1 k x hx;obtain⟨ho,F1,hw1,DI⟩:=hwr;have dx:=ho.cell (p:=⟨ba,oa+k,none⟩) cx (HX.o.d.1 _ Z7);have dX:=ho.cell (p:=⟨X,0,none⟩) HXC.o HX.o.t;have hnx:=HX.o.2.1 x (de hx);obtain⟨m,hm⟩: ∃m:Nat,x=(m:Int):=⟨x.toNat,by omega⟩;subst hm;have hel:=eD (ns.take k);have htl:(ns.take k).length<=ns.length:=by simp;omega
   have hu:=Rv wr F1 b (bs++jB (ns.take k)) hw1 m (by omega) (by rw[fb];omega);have HU:=al (ab hu (ab ho (ab DI (Lj hx))));clear hu ho DI hw1 hx cx hnx hel htl Z7;go_wp2_with fail;refine HU.o.1.m ?_;rintro e w2 ⟨rfl,dY,F2,hw2,hF2⟩;have HN:=al (Mt.next HU.o.2.1 HU.o.d.1 ⟨dY,F2,hw2,hF2⟩);clear dY hw2 hF2;go_wp2_with fail;go_roundw
   case rel=>refine⟨k+1,by omega,by go_num,?_⟩;rw[HU.o.t,<-kt];exact HN.o
   case measure=>simp[intOf];omega
  ·obtain rfl:k=ns.length:=by omega
   rw[gd]at hwr;have HN:=al hwr;clear hwr;go_wp2_with fail
   go_end0
   exact⟨rfl,HN.o⟩
theorem Ez(w:World)(F G:Nat->Prop)(b X:Nat)(bs:List UInt8)(A:Option Addr)(n c:Nat)(ns:List Int)(h:nM w F b bs)(hX:w.cell? ⟨X,0,none⟩=some (.func (.func 31) #[.pointer (some ⟨b,0,none⟩)] #[]))(Uy: ¬F X)
  (hv:Rd w G (.slice A n c) (jc ns)) (hG: ∀k,G k-> ¬F k) (hn: ∀n∈ns,-9223372036854775808<=n/\n<=9223372036854775807) (hlen:bs.length+10*ns.length<=1000000000):
  Calls prog 50 #[.slice A n c,.pointer (some ⟨X,0,none⟩)] w fun e w'=>e=.returned (.tuple #[])/\Mt w F b (bs++encI ns) w':=by
 obtain⟨DA,hnc,hcm,hx⟩:=G5 hv;subst DA;unfold maxLen at hcm;have HX:=al (ab hx (ab hn (ab hG Uy)));have HS:=al (show Mt w F b (bs++encI (ns.take 0)) w from⟨ox _ _,F,by simpa[encI]using h,fun k hk=>.inl hk⟩);have XK:=aq _ _ hX;have HXC:=al hX;clear hx hn hG Uy h hv hX;go_enter func50,ntmps50;go_wp2_with fail
 go_loopw [7] (fun i wr=> ∃k:Nat,k<=ns.length/\i=.int .i64 (k:Int)/\Mt w F b (bs++encI (ns.take k)) wr) (fun i _=>ns.length-(intOf i).toNat)
 case atStart=>exact⟨0,dq _,rfl,HS.o⟩
 case round=>
  obtain⟨k,hk,rfl,hwr⟩:=hrel;by_cases hlt:k<ns.length
  ·obtain⟨x,hx⟩: ∃x,ns[k]?=some x:=⟨_,ao hlt⟩;obtain⟨ba,oa,rfl,Z7,cx⟩:=HX.o.1 k x hx;obtain⟨ho,F1,hw1,DI⟩:=hwr;have dx:=ho.cell (p:=⟨ba,oa+k,none⟩) cx (HX.o.d.1 _ Z7);have dX:=ho.cell (p:=⟨X,0,none⟩) HXC.o HX.o.t;have hnx:=HX.o.2.1 x (de hx);have hel:=fN (ns.take k);have htl:(ns.take k).length<=ns.length:=by simp;omega
   have hu:=Ns wr F1 b (bs++encI (ns.take k)) hw1 x hnx.1 hnx.2 (by rw[fb];omega);have HU:=al (ab hu (ab ho (ab DI (Ll hx))));clear hu ho DI hw1 hx cx hnx hel htl Z7;go_wp2_with fail;refine HU.o.1.m ?_;rintro e w2 ⟨rfl,dY,F2,hw2,hF2⟩;have HN:=al (Mt.next HU.o.2.1 HU.o.d.1 ⟨dY,F2,hw2,hF2⟩);clear dY hw2 hF2;go_wp2_with fail;go_roundw
   case rel=>refine⟨k+1,by omega,by go_num,?_⟩;rw[HU.o.t,<-kt];exact HN.o
   case measure=>simp[intOf];omega
  ·obtain rfl:k=ns.length:=by omega
   rw[gd]at hwr;have HN:=al hwr;clear hwr;go_wp2_with fail
   go_end0
   exact⟨rfl,HN.o⟩
end Go.Proofs.YtmkofmeojbcakaaGreatDoor
