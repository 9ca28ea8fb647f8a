import Derived.Test.YtagemonojdgbdaaGreatDoorF19
import Derived.Test.YtagemonojdgbdaaGreatDoorF41
namespace Go.Proofs.YtagemonojdgbdaaGreatDoor
set_option maxRecDepth 100000
set_option maxHeartbeats 16000000
open Go.RowKit
def Ff(p:Prop)(w:World)(e:Ending)(w':World):Prop:= ∃b:Bool,e=.returned (.bool b)/\(b=true->p)/\Below w.heap.size w w'
theorem Ff.no{p:Prop}{w w':World}(hb:Below w.heap.size w w'):Ff p w (.returned (.bool false)) w':=⟨false,rfl,fun h=>(by cases h),hb⟩
theorem Ff.yes{p:Prop}{w w':World}(h:p)(hb:Below w.heap.size w w'):Ff p w (.returned (.bool true)) w':=⟨true,rfl,fun _=>h,hb⟩
theorem MP(w:World)(G:Nat->Prop)(v:Value)(l:List aH)(h:gP w G v l):
  Calls Tryz.prog 53 #[v] w (Ff (opsE l=0) w):=by
 obtain⟨A,c,rfl,hlc,hcm⟩:=h.slice;have H:=al h;clear h;by_cases hl:l.length<=64
 ·have HL:=al hl;have hl':(l.length:Int)<=64:=by omega
  clear hl;go_enter Tryz.func53,Tryz.ntmps53;go_wp2_with fail;refine(wO w G _ l H.out (by have:=HL.out;omega)).mono ?_;rintro e w1 ⟨A1,c1,rfl,h1,hb1⟩;have H1:=al (ab h1 hb1);clear h1 hb1;go_wp2_with fail;refine(wN w1 _ _ l H1.out.1).mono ?_;rintro e w2 ⟨rfl,hb2⟩;have HB:=al (H1.out.2.trans (hb2.mono H1.out.2.size));clear hb2;by_cases he:opsE l=0
  ·have HE:=al he;rw[he];clear he;go_wp2_with fail;go_ret
   exact Ff.yes HE.out HB.out
  ·obtain⟨n,hn⟩: ∃n,opsE l=n:=⟨_,rfl⟩;rw[hn]at he⊢;have g1:(n==0)=false:=by simpa using he
   clear hn;go_wp2_with fail;go_ret
   exact Ff.no HB.out
 ·have hl': ¬(l.length:Int)<=64:=by omega
  clear hl;go_enter Tryz.func53,Tryz.ntmps53;go_wp2_with fail;go_ret
  exact Ff.no (aw _ _)
theorem MQ{w:World}{F:Nat->Prop}{A:Option Addr}{m c:Nat}{xs:List Int}(h:Rd w F (.slice A m c) (xs.map (Value.int .i64))):xs.length=m/\ ∀k x,xs[k]?=some x-> ∃b o,A=some ⟨b,o,none⟩/\w.cell? ⟨b,o+k,none⟩=some (.int .i64 x):=by obtain⟨A',n',c',hv,hl,_,_,hx⟩:=h;injection hv with h1 h2 h3;subst h1 h2 h3;simp at hl;refine⟨hl,fun k x hk=>?_⟩;have hlt:=(b8.1 hk).1;obtain⟨b,o,rfl,_,hu⟩:=hx (by omega);exact⟨b,o,rfl,hu k _ (by simp[hk])⟩
theorem sy{w:World}{F:Nat->Prop}{v:Value}{xs:List Int}(h:Rd w F v (xs.map (Value.int .i64))): ∃A c,v=.slice A xs.length c/\xs.length<=maxLen:=by obtain⟨A',n',c',hv,hl,h1,h2,_⟩:=h;simp at hl;subst hl;exact⟨A',c',hv,by omega⟩
def WV(l:List aH)(xs:List Int)(fuel:Int):Prop:=(∀x∈xs,aI x)/\opsE l=0/\xs.length<=8/\0<=fuel/\fuel<=10000
def okN(xs:List Int)(j:Nat):Prop:= ∀k,k<j-> ∀x,xs[k]?=some x->aI x
theorem PL{xs:List Int}(h:okN xs xs.length): ∀x∈xs,aI x:=by intro x hx;obtain⟨k,hk,e⟩:=List.getElem_of_mem hx;exact h k hk x (by rw[List.getElem?_eq_getElem hk,e])
theorem Fg{n:Int}(h:aR n=n):aI n:=by have:=jB n;rw[h]at this;exact this
theorem S9(w:World)(F G:Nat->Prop)(v u:Value)(l:List aH)(xs:List Int)(fuel:Int)(h:gP w G v l)(hu:Rd w F u (xs.map (Value.int .i64))):
  Calls Tryz.prog 28 #[v,.agg #[u,.int .i64 fuel]] w (Ff (WV l xs fuel) w):=by
 obtain⟨A,c,rfl,Ma⟩:=sy hu;unfold maxLen at Ma;have hb0:=af w (.cells #[.slice A xs.length c,.int .i64 fuel] 84);have k0:=an w (.cells #[.slice A xs.length c,.int .i64 fuel] 84);obtain⟨N,hN⟩: ∃N,xs.length=N:=⟨_,rfl⟩;have HU:=al (ab hu h);rw[hN]at HU Ma hb0 k0⊢;have HL:=al hN;clear hN hu h;go_enter Tryz.func28,Tryz.ntmps28;go_upto_region 1 with fail;generalize w.alloc (.cells #[.slice A N c,.int .i64 fuel] 84)=w1 at hb0 k0⊢;obtain⟨X,hX⟩: ∃x,w.heap.size=x:=⟨_,rfl⟩;rw[hX]at k0⊢;have x0:w1.cell? ⟨X,0,none⟩=some (.slice A N c):=by simp[World.cell?,k0]
 have x1:w1.cell? ⟨X,1,none⟩=some (.int .i64 fuel):=by simp[World.cell?,k0]
 have H1:=al (ab hb0 (ab x0 (ab x1 (ab (HU.out.1.below hb0) (cd.below HU.out.2 hb0)))));clear hb0 k0 hX x0 x1;go_wp2_with fail
 go_loopw [5] (fun i wr=> ∃j:Nat,j<=N/\i=.int .i64 (j:Int)/\okN xs j/\Below w1.heap.size w1 wr) (fun i _=>N-(intOf i).toNat)
 case atStart=>exact⟨0,by omega,rfl,fun k hk=>by omega,aw _ _⟩
 case round=>
  obtain⟨j,hj,rfl,hok,hb⟩:=hrel;have x0:=ag hb H1.out.2.1;by_cases hlt:j<N
  ·obtain⟨x,hx⟩: ∃x,xs[j]?=some x:=⟨_,ao (by rw[HL.out];exact hlt)⟩;obtain⟨b,o,rfl,d0⟩:=(MQ H1.out.2.2.2.1).2 j x hx;have e0:=ag hb d0;have i1:(0:Int)<=(j:Int):=by omega
   have i2:(j:Int)<(N:Int):=by omega
   have HW:=al (ab hok (ab hb hx));have HC:=al (fun W=>iz W x);clear hok hb hx d0;go_upto_region 4 with fail;have HZ:=al (ab x0 e0);clear x0 e0;refine pb (S:=(fun W=>Below wr.heap.size wr W)) (by kernel_rfl) (aw _ _).drew (fun pt=>?_);refine fJ 0 (v:=?_) (fun wS hSw=>?_) pt ?_;rotate_left
   ·go_simp;try with_reducible rfl
   try simp only[ai,aj,ak,ar]
   refine fJ 1 (v:=?_) (fun wS hSw=>?_) pt ?_;rotate_left
   ·have x0:=ag hSw HZ.out.1;have e0:=ag hSw HZ.out.2;go_simp;try with_reducible rfl
   try simp only[ai,aj,ak,ar]
   refine aM [2,3] ?_
   iterate 2 (refine bX (v:=?_) (fun wS hSw=>?_) pt ?_;rotate_left;(go_simp;try with_reducible rfl);try simp only[ai,aj,ak,ar])
   refine aN ?_;refine fJ 4 (v:=?_) (fun wS hSw=>?_) pt ?_;rotate_left
   ·have x0:=ag hSw HZ.out.1;have e0:=ag hSw HZ.out.2;go_simp;try with_reducible rfl
   try simp only[ai,aj,ak,ar]
   refine fJ 6 (v:=?_) (fun wS hSw=>?_) pt ?_;rotate_left
   ·go_simp;try with_reducible rfl
   try simp only[ai,aj,ak,ar]
   refine fJ 7 (v:=?_) (fun wS hSw=>?_) pt ?_;rotate_left
   ·have x0:=ag hSw HZ.out.1;have e0:=ag hSw HZ.out.2;go_simp;try with_reducible rfl
   try simp only[ai,aj,ak,ar]
   refine aM [8,9] ?_
   iterate 2 (refine bX (v:=?_) (fun wS hSw=>?_) pt ?_;rotate_left;(go_simp;try with_reducible rfl);try simp only[ai,aj,ak,ar])
   refine aN ?_;refine fJ 10 (v:=?_) (fun wS hSw=>?_) pt ?_;rotate_left
   ·have x0:=ag hSw HZ.out.1;have e0:=ag hSw HZ.out.2;go_simp;try with_reducible rfl
   try simp only[ai,aj,ak,ar]
   refine aW 5 (fun K hK=>?_);go_simp;refine(HC.out _).mono ?_;rintro e wn ⟨rfl,rfl⟩
   try go_simp
   refine hK.out _ _ (pt) ?_;clear hK K pt;intro pt
   try simp only[ai,aj,ak,ar]
   refine fJ 11 (v:=?_) (fun wS hSw=>?_) pt ?_;rotate_left
   ·go_simp;try with_reducible rfl
   try simp only[ai,aj,ak,ar]
   refine pf (by kernel_rfl) ?_ _;have HD:=al pt;clear pt;generalize wr.drew=wd at HD⊢;by_cases hc:aR x=x
   ·have Q8:=al (Fg hc);rw[hc];clear hc;go_wp2_with fail;go_roundw
    case rel=>
     refine⟨j+1,by omega,by go_num,fun k hk y hy=>?_,HW.out.2.1.trans (HD.out.mono HW.out.2.1.size)⟩;rcases Nat.lt_or_eq_of_le (Nat.le_of_lt_succ hk)with h|h
     ·exact HW.out.1 k h y hy
     ·subst h;rw[HW.out.2.2]at hy;injection hy with hy;rw[<-hy];exact Q8.out
    case measure=>simp[intOf];omega
   ·go_wp2_with fail;go_ret
    exact Ff.no (H1.out.1.trans ((HW.out.2.1.trans (HD.out.mono HW.out.2.1.size)).mono H1.out.1.size))
  ·obtain rfl:j=N:=by omega
   have HW:=al (ab hok hb);clear hok;go_wp2_with fail;refine(MP wr G _ l (cd.below H1.out.2.2.2.2 hb)).mono ?_;rintro e w2 ⟨bb,rfl,hbb,hb2⟩;have x0:=ag hb2 (ag hb H1.out.2.1);have x1:=ag hb2 (ag hb H1.out.2.2.1);have HB:=al (ab hbb (show Below w.heap.size w w2 from H1.out.1.trans ((hb.trans (hb2.mono hb.size)).mono H1.out.1.size)));clear hb hb2 hbb
   cases bb with
   |false=>
    go_wp2_with fail;go_ret
    exact Ff.no HB.out.2
   |true=>
    have HE:=al (HB.out.1 rfl);by_cases c1:j<=8
    ·have c1':(j:Int)<=8:=by omega
     by_cases c2:0<=fuel
     ·by_cases c3:fuel<=10000
      ·have HQ:=al (show WV l xs fuel from⟨PL (by rw[HL.out];exact HW.out.1),HE.out,by rw[HL.out];exact c1,c2,c3⟩);clear c1;go_wp2_with fail;go_ret
       exact Ff.yes HQ.out HB.out.2
      ·have g3:decide (fuel<=10000)=false:=decide_eq_false c3;clear c1;go_wp2_with fail;go_ret
       exact Ff.no HB.out.2
     ·clear c1;go_wp2_with fail;go_ret
      exact Ff.no HB.out.2
    ·have c1': ¬(j:Int)<=8:=by omega
     clear c1;go_wp2_with fail;go_ret
     exact Ff.no HB.out.2
end Go.Proofs.YtagemonojdgbdaaGreatDoor
