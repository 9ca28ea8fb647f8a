import Derived.Test.YtehccbdajiiaaaaGreatDoorS12
import Derived.Test.YtehccbdajiiaaaaGreatDoorS28
namespace Go.Proofs.YtehccbdajiiaaaaGreatDoor
open Go.Proofs.Tryz
set_option maxRecDepth 100000
set_option maxHeartbeats 16000000
open Go.RowKit
section
open Go.RowKit Go.Maps Go.WideShapes
attribute [local go_sem] Oper.semAt_some
def Yu(g:Value->Option Value)(N:Nat)(a:List (List UInt8))(k:List UInt8)(v0 v1:Value)(_:Nat->Prop)(_:World):Prop:=v0=r7 k/\g (r7 k)=some v1/\a.length<N
theorem Jh(w:World)(m:Nat):Calls prog 117 #[.map (some m)] w fun e a=>
  e=.returned (.func (.func 168) #[] #[rv w.heap.size])/\a=w.alloc (.cells #[.map (some m)] 138):=by
 go_enter func117,ntmps117;go_wp2_with fail;go_ret
 exact⟨rfl,rfl⟩
def Yv(J:List (List UInt8)->(Nat->Prop)->World->Prop)(W:World)(b:Nat->Prop)(m r n:Nat)(g:Value->Option Value)(ks:List (List UInt8))(a:World):Prop:=
 ∃c d U,oH a m r n g d/\(c++d).Perm ks/\J c U a/\Only b W a/\Grow W b U/\ ¬U r/\r<a.heap.size
theorem FX(w:World)(m n C:Nat)(g:Value->Option Value)(ks:List (List UInt8))(hC:w.heap[C]?=some (.cells #[.map (some m)] 138 (0,0)))(hm:bX Tryz.prog w 9 m n g)
  (hks: ∀k:List UInt8,k.length<=maxLen->((g (.string ⟨k.toArray⟩)).isSome=true↔k∈ks)) (hnd:ks.Nodup) (hlen: ∀k∈ks,k.length<=maxLen):
  Aj Tryz.prog 168 #[.pointer (some ⟨C,0,none⟩)] (fun pre x args U W=> ∃v0 v1,args= #[v0,v1]/\Yu g ks.length pre x v0 v1 U W) (fun k=>k=C\/k=m) (fun xs=>xs.Perm ks) (fun _=>True) w:=by
 intro l J Jx W U0 hJ qH hag mA h0 hY;have XZ:=hag C _ (.inl rfl) hC;have kg:bX Tryz.prog W 9 m n g:=hm.same (by have h1:=fl hm.lt;rw[h1];exact hag m _ (.inr rfl) h1);have z0:W.cell? ⟨C,0,none⟩=some (.map (some m)):=by simp[World.cell?,XZ]
 have HH:=al (ab hJ (ab qH (ab mA (ab h0 (ab hY (ab kg (ab hks (ab hnd hlen))))))));clear hJ qH hag mA h0 hY hm hC XZ kg hks hnd hlen;refine callsIn_wide.2 ?_;show Calls _ _ #[.func (.yield l) #[] #[],.pointer (some ⟨C,0,none⟩)] _ _;go_enter Tryz.func168,Tryz.ntmps168;go_wp2_with (at_range;go_loud (refine lC _ rfl _ 138 rfl Tryz.underlying138 rfl HH.out.2.2.2.2.2.1 ks HH.out.2.2.2.2.2.2.1 HH.out.2.2.2.2.2.2.2.1 HH.out.2.2.2.2.2.2.2.2 ?_);intro w1 hrg hb1;have H1:=al (show Yv J W U0 m W.heap.size n g ks w1 from⟨[],ks,U0,hrg,List.Perm.refl _,HH.out.1.2 _ _ _ _ _ HH.out.2.2.2.1 (qS hb1) (fun _ h=>h.elim),oB hb1 _,Grow.refl _ _,fun h=>by have:=HH.out.1.1 _ _ _ HH.out.2.2.2.1 _ h;omega,by obtain⟨_,_,_,h,_⟩:=hrg;obtain⟨_,_,_,_,_,_,_,_,_,h,_⟩:=h;exact aM h⟩);clear hrg hb1)
 try go_frame
 refine(wpIn_wide (n:=10)).1 ?_
 gi_loopw [7] (fun _ wr=>Yv J W U0 m W.heap.size n g ks wr) (fun _ wr=>wr.rangeLeft m W.heap.size)
 case atStart=>exact H1.out
 case round=>
  obtain⟨dn,kl,U,hrg,hp,hj,ho,hg,hur,hrl⟩:=hrel
  rename World=>wr
  have HR:=al (ab hp (ab hj (ab ho (ab hg (ab hur hrl)))));clear hp hj ho hg hur hrl
  gi_wp2_with (gi_at_next;refine vt _ rfl _ rfl rfl hrg ?_ ?_)
  ·intro dN;subst dN
   gi_wp2
   go_end0
   exact⟨⟨_,rfl⟩,.inl ⟨dn,U,by simpa using HR.out.1,HR.out.2.1,HR.out.2.2.1,HR.out.2.2.2.1⟩⟩
  ·intro l1 l2 k v w2 uf DR hrg2 hlt cj Ah hen;have hur:=HR.out.2.2.2.2.1
   have hum: ¬U m:=fun hu=>by
    rcases HR.out.2.2.2.1 _ hu with h|h
    ·exact HH.out.2.2.1 m (.inr rfl) h
    ·have:=HH.out.2.2.2.2.2.1.lt;omega
   have hj2:=HH.out.1.2 _ _ _ _ _ HR.out.2.1 cj (fun j e=>by subst e;exact⟨b8 _,hur⟩);obtain⟨fn,tmps,assign,body,hy,hR⟩:=HH.out.2.2.2.2.1 dn k #[.string ⟨k.toArray⟩,v] U w2 hj2 ⟨_,_,rfl,rfl,DR,by have:=HR.out.1.length_eq;rw[uf]at this;simp at this;omega⟩;have HC:=al (ab uf (ab hrg2 (ab hlt (ab cj (ab hur hum)))));clear uf DR hrg2 hlt cj hur hum hrg hj2
   gi_wp2
   refine hR.mono ?_
   have hp2:(dn++[k]++(l1++l2)).Perm ks:=by refine List.Perm.trans ?_ HR.out.1;rw[HC.out.1,kh];exact List.Perm.append_left _ (show(k::(l1++l2)).Perm _ from List.perm_middle.symm)
   rintro e W3 (⟨rfl,U',hJ3,eo,hg3⟩|⟨rfl,U',ql,eo,hg3⟩)
   ·have lX:Only U0 W W3:=(HR.out.2.2.1.trans (T:=fun j=>j=W.heap.size) HC.out.2.2.2.1 (fun i hi e=>by omega)).trans eo (fun i hi h=>(HR.out.2.2.2.1 i h).elim id (fun h=>by omega));have hsz:=HC.out.2.2.2.1.size;have hrl:=HR.out.2.2.2.2.2
    have HX:=al (show Yv J W U0 m W.heap.size n g ks W3/\W3.rangeLeft m W.heap.size<wr.rangeLeft m W.heap.size from
     ⟨⟨dn++[k],l1++l2,U',HC.out.2.1.only eo HC.out.2.2.2.2.2 HC.out.2.2.2.2.1,hp2,hJ3,lX,HR.out.2.2.2.1.trans hg3 (by have:=HR.out.2.2.1.size;omega),fun h=>(hg3 _ h).elim HC.out.2.2.2.2.1 (fun h=>by omega),by have:=eo.size;omega⟩,
      by rw[HC.out.2.1.left eo HC.out.2.2.2.2.2 HC.out.2.2.2.2.1];exact HC.out.2.2.1⟩)
    clear hJ3 eo hg3 lX
    gi_wp2
    go_roundw
    case rel=>exact HX.out.1
    case measure=>exact HX.out.2
   ·have lX:Only U0 W W3:=(HR.out.2.2.1.trans (T:=fun j=>j=W.heap.size) HC.out.2.2.2.1 (fun i hi e=>by omega)).trans eo (fun i hi h=>(HR.out.2.2.2.1 i h).elim id (fun h=>by omega));have HX:=al (ab ql (ab lX (HR.out.2.2.2.1.trans hg3 (by have:=HR.out.2.2.1.size;have:=HC.out.2.2.2.1.size;omega))));clear ql eo hg3 lX
    gi_wp2
    refine dj (du rfl _ _ _) rfl ⟨⟨_,rfl⟩,.inr ⟨_,U',trivial,HX.out.1,HX.out.2.1,HX.out.2.2⟩⟩
end
end Go.Proofs.YtehccbdajiiaaaaGreatDoor
