import Derived.Test.YtagemonojdgbdaaGreatDoorF21
import Derived.Deep.DeepCutAuto
namespace Go.Proofs.YtagemonojdgbdaaGreatDoor
set_option maxRecDepth 100000
set_option maxHeartbeats 16000000
open Go.RowKit
def se(lo:Int):List (Int×Int)->Bool
 |[]=>false
 |o::_=>decide (o.2<lo)
theorem Cx{lo:Int}{os:List (Int×Int)}(h:se lo os=false):cF lo os=os:=by
 cases os with
 |nil=>rfl
 |cons o os=>unfold se at h;unfold cF;rw[List.dropWhile_cons,ff (by simpa using h)]
theorem Cy{lo:Int}{o:Int×Int}{os:List (Int×Int)}(h:se lo (o::os)=true):cF lo (o::os)=cF lo os:=by unfold se at h;unfold cF;rw[List.dropWhile_cons,fi h]
def Vz:Value->Nat
 | .slice _ n _=>n
 |_=>0
theorem uL(w:World)(n:Nat):Only (fun _=>False) w (w.drewN n):=(oB (fun _=>False) w).drewN n
theorem lD.tail{w:World}{F:Nat->Prop}{b o n c:Nat}{x:Int×Int}{r:List (Int×Int)}(h:lD w F (.slice (some ⟨b,o,none⟩) n c) (x::r)):
  lD w F (.slice (if c=1 then some ⟨b,o,none⟩else some ⟨b,o+2,none⟩) r.length (c-1)) r:=by
 obtain⟨A,n',c',hv,hl,hnc,hcm,hx⟩:=h;injection hv with h1 h2 h3;subst h1 h2 h3;simp at hl;refine⟨_,_,_,rfl,by simp,by omega,by omega,fun hn=>?_⟩;obtain⟨b',o',VA,hF,hc⟩:=hx (by omega);injection VA with VA;injection VA with h1 h2;subst h1 h2;rw[ff (by omega)];refine⟨b,o+2,rfl,hF,fun i y hi j u hj=>?_⟩;have:=hc (i+1) y (by simpa using hi) j u hj;rw[<-this];congr 2;omega
theorem uM{w3 w4:World}{X Y:Obj}{row:Option Nat}{B:Nat}{o:Obj}(cK:w3.heap[B]?=some o)(hg:((w3.alloc X).alloc Y).grownBy w4 row)(hr:row≠some B)(hr2:row≠some w3.heap.size):
  w4.heap[B]?=some o/\w4.heap[w3.heap.size]?=some X:=by
 have hB:B<w3.heap.size:=(da.1 cK).1;constructor
 ·rw[hg.block B (by simp;omega) (fun e=>hr e.symm),Below.heap_alloc _ _ _ (by simp;omega),Below.heap_alloc _ _ _ hB];exact cK
 ·rw[hg.block w3.heap.size (by simp;omega) (fun e=>hr2 e.symm),Below.heap_alloc _ _ _ (by simp)];exact an _ _
def InR(w:World)(B:Nat)(x:Int×Int)(acc os:List (Int×Int))(j:Nat)(v5:Value)(w':World):Prop:=
 ∃(s1:Int) (acc':List (Int×Int)),w'.heap[B]?=some (.cells #[.int .i64 s1,.int .i64 x.2] 178)/\jN s1/\
  w'.ownsRow w.heap.size 178 2 v5 acc'.length (acc'.map kX).flatten/\(∀g,v5.ownBlock=some g->g≠B)/\acc'.length<=acc.length+j/\Below w.heap.size w w'/\
  acc'++ej (s1,x.2) (os.drop j)=acc++ej x os
def VC(w:World)(F:Nat->Prop)(l others:List (Int×Int))(k:Nat)(v1 v5:Value)(w':World):Prop:=
 ∃os acc,lD w F v1 os/\gF os/\os.length<=1000/\w'.ownsRow w.heap.size 178 2 v5 acc.length (acc.map kX).flatten/\acc.length<=k*1001/\Below w.heap.size w w'/\acc++bJ (l.drop k) os=bJ l others
theorem qu{w w':World}{F:Nat->Prop}{l others os os2 acc acc2:List (Int×Int)}{k:Nat}{x:Int×Int}{v1 v5:Value}
  (hd:l.drop k=x::l.drop (k+1)) (heq:acc++bJ (l.drop k) os=bJ l others) (hal:acc.length<=k*1001) (h2:cF x.1 os2=cF x.1 os) (oM:se x.1 os2=false)
  (hr:lD w F v1 os2) (hf:gF os2) (hl:os2.length<=1000) (hown:w'.ownsRow w.heap.size 178 2 v5 acc2.length (acc2.map kX).flatten) (hb:Below w.heap.size w w')
  (hacc:acc2=acc++ej x os2) (hlen:acc2.length<=acc.length+1001):VC w F l others (k+1) v1 v5 w':=by
 refine⟨os2,acc2,hr,hf,hl,hown,by omega,hb,?_⟩;rw[<-heq,hd,bJ,<-h2,Cx oM,hacc,lk]
theorem Ex(w:World)(F:Nat->Prop)(v v1:Value)(l others:List (Int×Int))(h:lD w F v l)(h1:lD w F v1 others)(hl:l.length<=1000)(ho:others.length<=1000)(hfit:gF l)(hfo:gF others):
  Calls Tryz.prog 71 #[v,v1] w (LF (bJ l others) w):=by
 obtain⟨i0,hi,hz0,hz1,hz2⟩:=eC Tryz.DX;obtain⟨A,c,rfl,hnc,hcm⟩:=h.slice;have H:=al h;have H1:=al h1;clear h h1;go_enter Tryz.func71,Tryz.ntmps71;go_wp2_with fail
 go_step3
 go_wp2_with fail
 go_step3
 go_wp2_with fail
 go_loopw [1,5,12] (fun v1 v5 i wr=> ∃k,k<=l.length/\i=.int .i64 (k:Int)/\VC w F l others k v1 v5 wr) (fun _ _ i _=>l.length-(intOf i).toNat)
 case atStart=>exact⟨0,dj _,rfl,others,[],H1.out,hfo,ho,ee _ _ _ _,by simp,aw _ _,by simp⟩
 case round=>
  obtain⟨k,hk,rfl,os,acc,hos,Zb,Zc,hown,hal,hbl,heq⟩:=hrel;by_cases hlt:k<l.length
  ·obtain⟨x,hx⟩: ∃x,l[k]?=some x:=⟨_,ao hlt⟩;obtain⟨b,o,rfl,qL,c0,c1⟩:=H.out.at_ hx;have hb:b<w.heap.size:=aE w _ c0;have c0':=(hbl.cell (p:=⟨b,o+k*2,none⟩) hb).trans c0;have c1':=(hbl.cell (p:=⟨b,o+k*2+1,none⟩) hb).trans c1;have zI:=hfit x (dd hx);have hdr:l.drop k=x::l.drop (k+1):=List.drop_eq_getElem?_toList_append .. |>.trans (by rw[hx];rfl);have HD:=al (ab hdr (ab heq (ab hown (ab hal hbl))));have hs:=hbl.size;clear hx c0 c1 hdr heq hown hal hbl;obtain⟨wo,rfl⟩: ∃wo:World,wo=wr:=⟨_,rfl⟩;go_wp2_with fail;obtain⟨wa,JS⟩: ∃wa,wo.alloc (.cells #[.int .i64 x.1,.int .i64 x.2] 178)=wa:=⟨_,rfl⟩;obtain⟨B,hB⟩: ∃B,wo.heap.size=B:=⟨_,rfl⟩;have TR:Below B wo wa:=by rw[<-JS,<-hB];exact(aw _ _).alloc (aq _) _
   have hsa:wa.heap.size=B+1:=by rw[<-JS,<-hB];simp
   have cK:wa.heap[B]?=some (.cells #[.int .i64 x.1,.int .i64 x.2] 178):=by rw[<-JS,<-hB];exact an _ _
   have XL:w.heap.size<=B:=by omega
   rw[JS,hB];have HW:=al (ab TR (ab hsa cK));have HWO:=al (ab JS hB);clear JS hB TR hsa cK c0' c1'
   go_loopw [1] (fun v1 w2=> ∃os2,lD w F v1 os2/\gF os2/\os2.length<=1000/\cF x.1 os2=cF x.1 os/\Below wa.heap.size wa w2) (fun v1 _=>Vz v1)
   case atStart=>exact⟨os,hos,Zb,Zc,rfl,aw _ _⟩
   case round=>
    obtain⟨os2,hr2,hf2,hl2,hd2,hb2⟩:=hrel;obtain⟨A1,c1,rfl,hc1,hc2⟩:=hr2.slice
    rename World=>w2
    have HX:=al (ab hr2 (ab hf2 (ab hl2 (ab hd2 hb2))));clear hr2 hf2 hl2 hd2 hb2;have hq: ∃nq:Nat,w2.drewN nq=w2.drewN nq:=⟨0,rfl⟩;clear hq;obtain⟨q0,q1,_,_⟩:=eW (by rw[HX.out.2.2.2.2.block B (by rw[HW.out.2.1];omega)];exact HW.out.2.2:w2.heap[B]?=some (.cells #[.int .i64 x.1,.int .i64 x.2] 178));go_upto_region 5 with fail
    go_cut [27]from 16 to 29 (fun s27 wx=>s27=.bool (se x.1 os2)/\Only (fun _=>False) w2 wx)
    case first=>
     cases os2 with
     |nil=>
      go_wp2_with fail;go_quiet(fail);go_wp2_with fail
      go_meet
      exact⟨rfl,uL _ _⟩
     |cons o2 r2=>
      obtain⟨b1,o1,rfl,Lf,e0,e1⟩:=HX.out.1.at_ (k:=0) rfl;simp only[Nat.zero_mul,mu]at e0 e1;have hb1:=aE w _ e0;have hbb:Below w.heap.size w w2:=HD.out.2.2.2.2.trans ((HW.out.1.mono XL).trans (HX.out.2.2.2.2.mono (by rw[HW.out.2.1];omega)));have NB:=(hbb.cell (p:=⟨b1,o1,none⟩) hb1).trans e0;have YE:=(hbb.cell (p:=⟨b1,o1+1,none⟩) hb1).trans e1;clear e0 e1 hbb;have hz1:(0:Int)<(r2.length:Int)+1:=by omega
      go_wp2_with fail;go_quiet(fail);go_wp2_with fail
      go_meet
      exact⟨rfl,uL _ _⟩
    case rest=>
     obtain⟨rfl,IM⟩:=hcut;have hbc:Below wa.heap.size wa wc:=HX.out.2.2.2.2.trans (IM.aG HX.out.2.2.2.2.size (fun _ _ h=>h));have XM:=al hbc;clear IM hbc q0 q1
     cases oM:se x.1 os2 with
     |true=>
      cases os2 with
      |nil=>exact absurd oM (by simp[se])
      |cons o2 r2=>obtain⟨b1,o1,rfl,Lf,_,_⟩:=HX.out.1.at_ (k:=0) rfl;have HL:=al oM;clear oM;go_wp2_with fail;refine⟨⟨r2,HX.out.1.tail,fun y hy=>HX.out.2.1 y (by simp[hy]),by have:=HX.out.2.2.1;simp at this;omega,by rw[<-HX.out.2.2.2.1,Cy HL.out],XM.out⟩,by simp[Vz]⟩
     |false=>
      have HL:=al oM;clear oM;go_wp2_with fail
      go_loopw [5,32] (fun v5 i w3=> ∃j,j<=os2.length/\i=.int .i64 (j:Int)/\InR w B x acc os2 j v5 w3) (fun _ i _=>os2.length-(intOf i).toNat)
      case atStart=>
       have Ro:=HWO.out.2;refine⟨0,dj _,rfl,x.1,acc,?_,zI.1,?_,?_,by omega,?_,rfl⟩
       ·rw[XM.out.block B (by rw[HW.out.2.1];omega)];exact HW.out.2.2
       ·have h1:=aX HD.out.2.2.1 (w':=wa) (by rw[Ro];exact HW.out.1);exact aX h1 XM.out
       ·intro g hg h;have:=(HD.out.2.2.1.lt g hg).2;omega
       ·exact HD.out.2.2.2.2.trans ((HW.out.1.mono XL).trans (XM.out.mono (by rw[HW.out.2.1];omega)))
      case round=>
       obtain⟨j,hj,rfl,s1,acc',cK,hs1,hown,hne,hlen,hbl,VD⟩:=hrel
       rename World=>w3
       have hs:=hbl.size;have hBl:B<w3.heap.size:=(da.1 cK).1;obtain⟨q0,q1,f0,f1⟩:=eW cK;obtain⟨A5,c5,rfl⟩:=ah hown;have HR:=al (ab cK (ab hown (ab hne (ab hlen (ab hbl VD)))));have hl5:acc'.length<=10000000:=by have:=HD.out.2.2.2.1;have:=HX.out.2.2.1;omega
       clear cK hown hne hlen hbl VD;have hl2:=HX.out.2.2.1;by_cases hjl:j<os2.length
       ·obtain⟨o2,eo⟩: ∃o2,os2[j]?=some o2:=⟨_,ao hjl⟩;obtain⟨b1,o1,rfl,Lf,e0,e1⟩:=HX.out.1.at_ eo;have hb1:=aE w _ e0;have NB:=(HR.out.2.2.2.2.1.cell (p:=⟨b1,o1+j*2,none⟩) hb1).trans e0;have YE:=(HR.out.2.2.2.2.1.cell (p:=⟨b1,o1+j*2+1,none⟩) hb1).trans e1;have hof:=HX.out.2.1 o2 (dd eo);have VE:os2.drop j=o2::os2.drop (j+1):=List.drop_eq_getElem?_toList_append .. |>.trans (by rw[eo];rfl);have VF:=al VE;clear e0 e1 eo VE;by_cases g1:x.2<o2.1
        ·have hlast:acc'++[(s1,x.2)]=acc++ej x os2:=by rw[<-HR.out.2.2.2.2.2,VF.out,ej,fi g1]
         have hown':=(HR.out.2.1.alloc (.cells #[.int .i64 o2.1,.int .i64 o2.2] 178)).alloc (.cells #[.int .i64 s1,.int .i64 (x.2)] 178);have hnews:=ef (an (w3.alloc (.cells #[.int .i64 o2.1,.int .i64 o2.2] 178)) (.cells #[.int .i64 s1,.int .i64 (x.2)] 178));rw[show(w3.alloc (.cells #[.int .i64 o2.1,.int .i64 o2.2] 178)).heap.size=w3.heap.size+1 by simp]at hnews;have HOWN:=al (ab hown' (ab hnews hlast));have wC:=al hi;clear hown' hnews hlast;go_wp2_with (at_builtin;go_loud (refine ew _ rfl _ _ 172 rfl w.heap.size 178 i0 _ 2 16 Tryz.underlying172 wC.out hz0 hz1 hz2 rfl (by decide) (.slice A5 acc'.length c5) acc'.length _ rfl HOWN.out.1 ⟨w3.heap.size+1,0,none⟩ 1 1 [.int .i64 s1,.int .i64 (x.2)] rfl rfl HOWN.out.2.1 (by simp[Value.oneCell']) (by decide) (by unfold maxLen;omega) (by omega) (by simp;omega) _ rfl ?_);intro Zd cap w4 hown1 hgrow1 iV p9);go_roundw
         case rel=>
          refine⟨k+1,by omega,by go_num,qu (acc2:=acc'++[(s1,x.2)]) HD.out.1 HD.out.2.1 HD.out.2.2.2.1 HX.out.2.2.2.1 HL.out HX.out.1 HX.out.2.1 HX.out.2.2.1 ?_ ?_ HOWN.out.2.2 ?_⟩
          ·simpa[kX]using hown1
          ·exact((HR.out.2.2.2.2.1.alloc hs _).alloc (by simp;omega) _).grown hgrow1 (by simp;omega) (fun j hj=>(HR.out.2.1.lt j hj).1)
          ·have:=HR.out.2.2.2.1;have:=HX.out.2.2.1;simp;omega
         case measure=>simp[intOf];omega
        ·have aaB:=hs1.1;have aaC:=hs1.2;have aaD:=hof.1.1;have Ix:=hof.1.2;have aaE:=hof.2.1;have aaF:=hof.2.2;have aaG:=zI.2.1;have aaH:=zI.2.2;by_cases g2:s1<o2.1
         ·have hown':=(HR.out.2.1.alloc (.cells #[.int .i64 o2.1,.int .i64 o2.2] 178)).alloc (.cells #[.int .i64 s1,.int .i64 (o2.1-1)] 178);have hnews:=ef (an (w3.alloc (.cells #[.int .i64 o2.1,.int .i64 o2.2] 178)) (.cells #[.int .i64 s1,.int .i64 (o2.1-1)] 178));rw[show(w3.alloc (.cells #[.int .i64 o2.1,.int .i64 o2.2] 178)).heap.size=w3.heap.size+1 by simp]at hnews;have VG:(Value.slice A5 acc'.length c5).ownBlock≠some B:=fun h=>HR.out.2.2.1 B h rfl;have VH:(Value.slice A5 acc'.length c5).ownBlock≠some w3.heap.size:=fun h=>by have:=(HR.out.2.1.lt _ h).2;omega
          have HOWN:=al (ab hown' (ab hnews (ab VG VH)));have wC:=al hi;clear hown' hnews VG VH;by_cases g3:x.2<=o2.2
          ·have hlast:acc'++[(s1,o2.1-1)]=acc++ej x os2:=by rw[<-HR.out.2.2.2.2.2,VF.out,ej,ff g1,fi g2,fi g3,gd]
           have uN:=al hlast;clear hlast;go_wp2_with (at_builtin;go_loud (refine ew _ rfl _ _ 172 rfl w.heap.size 178 i0 _ 2 16 Tryz.underlying172 wC.out hz0 hz1 hz2 rfl (by decide) (.slice A5 acc'.length c5) acc'.length _ rfl HOWN.out.1 ⟨w3.heap.size+1,0,none⟩ 1 1 [.int .i64 s1,.int .i64 (o2.1-1)] rfl rfl HOWN.out.2.1 (by simp[Value.oneCell']) (by decide) (by unfold maxLen;omega) (by omega) (by simp;omega) _ rfl ?_);intro Zd cap w4 hown1 hgrow1 iV p9;have Ey:=al (uM HR.out.1 hgrow1 HOWN.out.2.2.1 HOWN.out.2.2.2);obtain⟨p0,p1,pf0,pf1⟩:=eW Ey.out.1;obtain⟨r0,r1,_,_⟩:=eW Ey.out.2);go_roundw
           case rel=>
            refine⟨k+1,by omega,by go_num,qu (acc2:=acc'++[(s1,o2.1-1)]) HD.out.1 HD.out.2.1 HD.out.2.2.2.1 HX.out.2.2.2.1 HL.out HX.out.1 HX.out.2.1 HX.out.2.2.1 ?_ ?_ uN.out ?_⟩
            ·simpa[kX]using hown1
            ·exact((HR.out.2.2.2.2.1.alloc hs _).alloc (by simp;omega) _).grown hgrow1 (by simp;omega) (fun j hj=>(HR.out.2.1.lt j hj).1)
            ·have:=HR.out.2.2.2.1;have:=HX.out.2.2.1;simp;omega
           case measure=>simp[intOf];omega
          ·have hlast:(acc'++[(s1,o2.1-1)])++ej (o2.2+1,x.2) (os2.drop (j+1))=acc++ej x os2:=by
            rw[<-HR.out.2.2.2.2.2,VF.out,ej.eq_2 (s1,x.2),ff g1,fi g2,ff g3,lk]
           have uN:=al hlast;clear hlast;go_wp2_with (at_builtin;go_loud (refine ew _ rfl _ _ 172 rfl w.heap.size 178 i0 _ 2 16 Tryz.underlying172 wC.out hz0 hz1 hz2 rfl (by decide) (.slice A5 acc'.length c5) acc'.length _ rfl HOWN.out.1 ⟨w3.heap.size+1,0,none⟩ 1 1 [.int .i64 s1,.int .i64 (o2.1-1)] rfl rfl HOWN.out.2.1 (by simp[Value.oneCell']) (by decide) (by unfold maxLen;omega) (by omega) (by simp;omega) _ rfl ?_);intro Zd cap w4 hown1 hgrow1 iV p9;have Ey:=al (uM HR.out.1 hgrow1 HOWN.out.2.2.1 HOWN.out.2.2.2);obtain⟨p0,p1,pf0,pf1⟩:=eW Ey.out.1;obtain⟨r0,r1,_,_⟩:=eW Ey.out.2);go_roundw
           case rel=>
            have LL:=((HR.out.2.2.2.2.1.alloc hs (.cells #[.int .i64 o2.1,.int .i64 o2.2] 178)).alloc (by simp;omega) (.cells #[.int .i64 s1,.int .i64 (o2.1-1)] 178)).grown hgrow1 (by simp;omega) (fun j hj=>(HR.out.2.1.lt j hj).1)
            have QH:Zd≠B:=by
             rcases iV with h|h
             ·intro e;subst e;exact HOWN.out.2.2.1 h
             ·simp at h;omega
            refine⟨j+1,by omega,by go_num,o2.2+1,acc'++[(s1,o2.1-1)],?_,?_,?_,?_,?_,?_,uN.out⟩
            ·have:=dr _ B 0 _ _ (.int .i64 (o2.2+1)) Ey.out.1;simpa using this
            ·unfold jN;omega
            ·have h5:=bu hown1 (S:=fun k=>k=B) (Only.bp w4 B 0 (.int .i64 (o2.2+1))) (fun g hg e=>QH (by simp[Value.ownBlock]at hg;omega));simpa[kX]using h5
            ·intro g hg;simp[Value.ownBlock]at hg;omega
            ·have:=HR.out.2.2.2.1;simp;omega
            ·exact LL.setCell (p:=⟨B,0,none⟩) XL _
           case measure=>simp[intOf];omega
         ·by_cases g3:x.2<=o2.2
          ·have hlast:acc'=acc++ej x os2:=by rw[<-HR.out.2.2.2.2.2,VF.out,ej,ff g1,ff g2,fi g3];simp
           have uN:=al hlast;clear hlast;go_wp2_with fail;go_roundw
           case rel=>refine⟨k+1,by omega,by go_num,qu (acc2:=acc') HD.out.1 HD.out.2.1 HD.out.2.2.2.1 HX.out.2.2.2.1 HL.out HX.out.1 HX.out.2.1 HX.out.2.2.1 (HR.out.2.1.alloc _) (HR.out.2.2.2.2.1.alloc hs _) uN.out ?_⟩;have:=HR.out.2.2.2.1;have:=HX.out.2.2.1;omega
           case measure=>simp[intOf];omega
          ·have hlast:acc'++ej (o2.2+1,x.2) (os2.drop (j+1))=acc++ej x os2:=by
            rw[<-HR.out.2.2.2.2.2,VF.out,ej.eq_2 (s1,x.2),ff g1,ff g2,ff g3,fs]
           have uN:=al hlast;clear hlast;go_wp2_with fail;go_roundw
           case rel=>
            refine⟨j+1,by omega,by go_num,o2.2+1,acc',?_,?_,?_,HR.out.2.2.1,?_,?_,uN.out⟩
            ·have:=dr _ B 0 _ _ (.int .i64 (o2.2+1)) HR.out.1;rw[Below.heap_alloc _ _ _ (by simpa using hBl)];simpa using this
            ·unfold jN;omega
            ·exact(bu HR.out.2.1 (S:=fun k=>k=B) (Only.bp w3 B 0 (.int .i64 (o2.2+1))) (fun g hg e=>HR.out.2.2.1 g hg e)).alloc _
            ·have:=HR.out.2.2.2.1;omega
            ·exact(HR.out.2.2.2.2.1.setCell (p:=⟨B,0,none⟩) XL _).alloc (by simpa using hs) _
           case measure=>simp[intOf];omega
       ·have hlast:acc'++[(s1,x.2)]=acc++ej x os2:=by rw[<-HR.out.2.2.2.2.2,List.drop_eq_nil_of_le (by omega)];rfl
        have hown':=HR.out.2.1.alloc (.cells #[.int .i64 s1,.int .i64 x.2] 178);have hnews:=ef (an w3 (.cells #[.int .i64 s1,.int .i64 x.2] 178));have HOWN:=al (ab hown' (ab hnews hlast));have wC:=al hi;clear hown' hnews hlast;go_wp2_with (at_builtin;go_loud (refine ew _ rfl _ _ 172 rfl w.heap.size 178 i0 _ 2 16 Tryz.underlying172 wC.out hz0 hz1 hz2 rfl (by decide) (.slice A5 acc'.length c5) acc'.length _ rfl HOWN.out.1 ⟨w3.heap.size,0,none⟩ 1 1 [.int .i64 s1,.int .i64 x.2] rfl rfl HOWN.out.2.1 (by simp[Value.oneCell']) (by decide) (by unfold maxLen;omega) (by omega) (by simp;omega) _ rfl ?_);intro g2 cap w4 hown1 hgrow1 iV p9);go_roundw
        case rel=>
         refine⟨k+1,by omega,by go_num,qu (acc2:=acc'++[(s1,x.2)]) HD.out.1 HD.out.2.1 HD.out.2.2.2.1 HX.out.2.2.2.1 HL.out HX.out.1 HX.out.2.1 HX.out.2.2.1 ?_ ?_ HOWN.out.2.2 ?_⟩
         ·simpa[kX]using hown1
         ·exact(HR.out.2.2.2.2.1.alloc hs _).grown hgrow1 (by simp;omega) (fun j hj=>(HR.out.2.1.lt j hj).1)
         ·have:=HR.out.2.2.2.1;have:=HX.out.2.2.1;simp;omega
        case measure=>simp[intOf];omega
  ·have hkl:k=l.length:=by omega
   subst hkl;go_wp2_with fail
   try rw[lp]
   go_ret
   rw[List.drop_length,bJ,gd]at heq;obtain⟨A',c',rfl⟩:=ah hown;exact heq▸⟨A',c',rfl,hown,hbl⟩
end Go.Proofs.YtagemonojdgbdaaGreatDoor
