import Derived.Test.YtagemonojdgbdaaGreatDoorF11
import Derived.Laws.OwnMore
import Derived.Deep.RegionLaw
namespace Go.Proofs.YtagemonojdgbdaaGreatDoor
set_option maxRecDepth 100000
set_option maxHeartbeats 16000000
open Go.RowKit
def zE:Value:=.agg #[.int .i64 0,.int .i64 0,.int .i64 0,.int .i64 0]
theorem zF(w:World)(T L:Nat)(most n:Int)(s:ByteArray)(hs1:1<=s.size)(hs2:s.size<=16)(h:l8 w T most n L):Calls Tryz.prog 73 #[.pointer (some ⟨T,0,none⟩),.string s] w fun e w'=>e=.returned (.tuple #[zE,.int .i64 14])/\Below w.heap.size w w':=by
 have hb0:=af w (.cells #[.int .i64 0,.int .i64 0,.int .i64 0,.int .i64 0] 26);have k0:=an w (.cells #[.int .i64 0,.int .i64 0,.int .i64 0,.int .i64 0] 26);have h1:=h.below hb0;go_enter Tryz.func73,Tryz.ntmps73;go_upto_region 1 with fail;generalize w.alloc (.cells #[.int .i64 0,.int .i64 0,.int .i64 0,.int .i64 0] 26)=w1 at hb0 k0 h1⊢;obtain⟨R,hR⟩: ∃x,w.heap.size=x:=⟨_,rfl⟩;rw[hR]at k0⊢;have HR:=al (ab hR (ab hb0 k0));have HC:=al (ab (wD w1 T s hs1 hs2) (KJ w1 T L most n s hs1 (by omega) h1));clear h h1 hb0 k0 hR hs1 hs2;go_wp2_with fail;refine HC.out.1.mono ?_;rintro e w2 ⟨rfl,rfl⟩;go_wp2_with fail;refine HC.out.2.mono ?_;rintro e w3 ⟨rfl,hb⟩;have k3:=pw hb HR.out.2.2;have HB:=al (ab hb k3);have z0:w3.cell? ⟨R,0,none⟩=some (.int .i64 0):=by simp[World.cell?,k3]
 have z1:w3.cell? ⟨R,1,none⟩=some (.int .i64 0):=by simp[World.cell?,k3]
 have z2:w3.cell? ⟨R,2,none⟩=some (.int .i64 0):=by simp[World.cell?,k3]
 have z3:w3.cell? ⟨R,3,none⟩=some (.int .i64 0):=by simp[World.cell?,k3]
 have y0:w3.frozen? ⟨R,0,none⟩=false:=by simp[World.frozen?,k3]
 have y1:w3.frozen? ⟨R,1,none⟩=false:=by simp[World.frozen?,k3]
 have y2:w3.frozen? ⟨R,2,none⟩=false:=by simp[World.frozen?,k3]
 have y3:w3.frozen? ⟨R,3,none⟩=false:=by simp[World.frozen?,k3]
 clear hb k3;go_wp2_with fail;have hp:=rU (v0:=.int .i64 0) (v1:=.int .i64 0) (v2:=.int .i64 0) (v3:=.int .i64 0) HB.out.2;have dU:Below w.heap.size w w3:=HR.out.2.1.trans (HB.out.1.mono HR.out.2.1.size);have vV:w.heap.size<=R:=Nat.le_of_eq HR.out.1;exact dq (aC rfl _ _ _ _ _ _ _ rfl hp Tryz.underlying26 rfl (by kernel_rfl)) rfl ⟨rfl,(((dU.setCell (p:=⟨R,0,none⟩) vV _).setCell (p:=⟨R,1,none⟩) vV _).setCell (p:=⟨R,2,none⟩) vV _).setCell (p:=⟨R,3,none⟩) vV _⟩
def aY(out:List (Int×Int))(x:Int×Int):List (Int×Int):=
 match out.getLast? with
 |none=>out++[x]
 |some a=>match ui a x with
  |none=>out++[x]
  |some y=>out.dropLast++[y]
def cw(l:List (Int×Int)):List (Int×Int):=l.foldl aY []
def gF(l:List (Int×Int)):Prop:= ∀x∈l,jN x.1/\jN x.2
theorem IH{a b y:Int×Int}(h:ui a b=some y)(ha:jN a.1/\jN a.2)(hb:jN b.1/\jN b.2):jN y.1/\jN y.2:=by
 unfold ui at h;split at h
 ·cases h
 ·injection h with h;subst h;refine⟨ha.1,?_⟩;unfold jN at *;simp only;omega
theorem zG{out:List (Int×Int)}{x:Int×Int}(ho:gF out)(hx:jN x.1/\jN x.2):gF (aY out x):=by
 unfold aY;split
 ·intro y hy;rcases dy.1 hy with h|h
  ·exact ho y h
  ·simp at h;subst h;exact hx
 ·rename_i a ha;have hal:a∈out:=List.mem_of_getLast? ha;split
  ·intro y hy;rcases dy.1 hy with h|h
   ·exact ho y h
   ·simp at h;subst h;exact hx
  ·rename_i y hy;intro z hz;rcases dy.1 hz with h|h
   ·exact ho z (List.dropLast_subset _ h)
   ·simp at h;subst h;exact IH hy (ho a hal) hx
theorem zH(out:List (Int×Int))(x:Int×Int):(aY out x).length<=out.length+1:=by
 unfold aY;split
 ·simp
 ·split
  ·simp
  ·simp
theorem yg{l:List (Int×Int)}: ∀{out},gF out->gF l->gF (l.foldl aY out):=by
 induction l with
 |nil=>intro out h _;exact h
 |cons x l ih=>intro out ho hl;exact ih (zG ho (hl x (by simp))) (fun y hy=>hl y (by simp[hy]))
theorem yh{l:List (Int×Int)}: ∀{out:List (Int×Int)},(l.foldl aY out).length<=out.length+l.length:=by
 induction l with
 |nil=>intro out;simp
 |cons x l ih=>intro out;have:=ih (out:=aY out x);have:=zH out x;simp;omega
theorem O0(l:List (Int×Int))(y:Int×Int)(hl:l≠[]):
  (((l.map kX).flatten.set ((l.length-1)*2) (.int .i64 y.1)).set ((l.length-1)*2+1) (.int .i64 y.2))=((l.dropLast++[y]).map kX).flatten:=by
 obtain⟨m,z,rfl⟩: ∃m z,l=m++[z]:=⟨l.dropLast,l.getLast hl,(List.dropLast_concat_getLast hl).symm⟩;have hlen:(m.map kX).flatten.length=m.length*2:=by rw[p8 (kG m)];simp
 simp only[im,lF,gk,List.length_singleton,nw,List.dropLast_concat];rw[List.set_append_right _ _ (by omega),List.set_append_right _ _ (by omega),hlen];simp[kX]
theorem yi{W w1:World}{n:Nat}(hn:W.heap.size=n)(hb:Below W.drew.heap.size W.drew w1)(Y:Obj):n<=w1.heap.size/\(w1.alloc Y).heap[w1.heap.size]?=some Y/\Below n W (w1.alloc Y):=by subst hn;have h:=mQ hb;have hs:W.heap.size<=w1.heap.size:=h.size;exact⟨hs,an _ _,h.alloc hs _⟩
theorem uG{W w1:World}{n:Nat}{t:TypeId}{z0 z1:Value}(hn:W.heap.size=n)(hb:Below (W.alloc (.cells #[z0,z1] t)).drew.heap.size (W.alloc (.cells #[z0,z1] t)).drew w1)(a b:Value):
  n<=n/\((w1.setCell ⟨n,0,none⟩ a).setCell ⟨n,1,none⟩ b).heap[n]?=some (.cells #[a,b] t)/\Below n W ((w1.setCell ⟨n,0,none⟩ a).setCell ⟨n,1,none⟩ b):=by
 subst hn;have h:=mQ hb
 have h1:w1.heap[W.heap.size]?=some (.cells #[z0,z1] t):=by rw[h.block W.heap.size (by show W.heap.size<(W.alloc (.cells #[z0,z1] t)).heap.size;simp)];exact an _ _
 refine⟨aq _,?_,?_⟩
 ·have h2:=dr w1 W.heap.size 0 _ t a h1;have h3:=dr _ W.heap.size 1 _ t b h2;simpa using h3
 ·have h2:Below W.heap.size W w1:=((aw _ _).alloc (aq _) _).trans (h.mono (by show W.heap.size<=(W.alloc (.cells #[z0,z1] t)).heap.size;simp));exact(h2.setCell (aq _) _).setCell (aq _) _
theorem eW{w:World}{b:Nat}{u v:Value}{t:TypeId}(h:w.heap[b]?=some (.cells #[u,v] t (0,0))):w.cell? ⟨b,0,none⟩=some u/\w.cell? ⟨b,1,none⟩=some v/\w.frozen? ⟨b,0,none⟩=false/\w.frozen? ⟨b,1,none⟩=false:=by simp[World.cell?,World.frozen?,h]
def LF(l:List (Int×Int))(w:World)(e:Ending)(w':World):Prop:=
 ∃A c,e=.returned (.slice A l.length c)/\w'.ownsRow w.heap.size 178 2 (.slice A l.length c) l.length (l.map kX).flatten/\Below w.heap.size w w'
def Vv(w:World)(l:List (Int×Int))(k:Nat)(v:Value)(w':World):Prop:=
 w'.ownsRow w.heap.size 178 2 v (((l.take k).foldl aY [])).length ((((l.take k).foldl aY [])).map kX).flatten/\Below w.heap.size w w'
theorem yj(w:World)(F:Nat->Prop)(v:Value)(l:List (Int×Int))(h:lD w F v l)(hl:l.length<=1000)(hfit:gF l):
  Calls Tryz.prog 119 #[v,.func (.func 120) #[] #[]] w (LF (cw l) w):=by
 obtain⟨i0,hi,hz0,hz1,hz2⟩:=eC Tryz.DX;obtain⟨A,c,rfl,hnc,hcm⟩:=h.slice;have H:=al h;clear h;go_enter Tryz.func119,Tryz.ntmps119;go_wp2_with fail
 go_loopw [5,13] (fun v i wr=> ∃k,k<=l.length/\i=.int .i64 (k:Int)/\Vv w l k v wr) (fun _ i _=>l.length-(intOf i).toNat)
 case atStart=>exact⟨0,dj _,rfl,ee _ _ _ _,aw _ _⟩
 case round=>
  obtain⟨k,hk,rfl,hown,hbl⟩:=hrel;by_cases hlt:k<l.length
  ·obtain⟨x,hx⟩: ∃x,l[k]?=some x:=⟨_,ao hlt⟩;obtain⟨b,o,rfl,hF,c0,c1⟩:=H.out.at_ hx;have hb:b<w.heap.size:=aE w _ c0;have c0':=(hbl.cell (p:=⟨b,o+k*2,none⟩) hb).trans c0;have c1':=(hbl.cell (p:=⟨b,o+k*2+1,none⟩) hb).trans c1
   have htk:(l.take (k+1)).foldl aY []=aY ((l.take k).foldl aY []) x:=by rw[kt,hx];simp
   have zI:=hfit x (dd hx);have hfo:gF ((l.take k).foldl aY []):=yg (fun _ h=>by simp at h) (fun y hy=>hfit y (List.mem_of_mem_take hy))
   have II:((l.take k).foldl aY []).length<=k:=by have:=yh (l:=l.take k) (out:=[]);simp at this;omega
   obtain⟨out,hout⟩: ∃out,(l.take k).foldl aY []=out:=⟨_,rfl⟩;rw[hout]at htk hfo II hown;have HB:=al htk;clear hx c0 c1 hout htk;obtain⟨n,hn⟩: ∃n,out.length=n:=⟨_,rfl⟩;rw[hn]at hown II;obtain⟨A5,c5,rfl⟩:=ah hown;have hs:=hbl.size;obtain⟨wa,JS⟩: ∃wa,wr.alloc (.cells #[.int .i64 x.1,.int .i64 x.2] 178)=wa:=⟨_,rfl⟩;have TR:Below wr.heap.size wr wa:=by rw[<-JS];exact(aw _ _).alloc (aq _) _
   have hsa:wa.heap.size=wr.heap.size+1:=by rw[<-JS];simp
   have cK:wa.heap[wr.heap.size]?=some (.cells #[.int .i64 x.1,.int .i64 x.2] 178):=by rw[<-JS];exact an _ _
   have Vw:=hbl.trans (TR.mono hs)
   cases hgl:out.getLast? with
   |none=>
    have:out=[]:=by simpa using hgl
    subst this;simp at hn;subst hn;have hown':=(hown.alloc (.cells #[.int .i64 x.1,.int .i64 x.2] 178)).alloc (.cells #[.int .i64 x.1,.int .i64 x.2] 178);have hnews:=ef (an (wr.alloc (.cells #[.int .i64 x.1,.int .i64 x.2] 178)) (.cells #[.int .i64 x.1,.int .i64 x.2] 178));rw[show(wr.alloc (.cells #[.int .i64 x.1,.int .i64 x.2] 178)).heap.size=wr.heap.size+1 by simp]at hnews;have HOWN:=al (ab hown' (ab hnews hown));have Oy:=al hbl;have wC:=al hi;clear hown hown' hnews hbl TR hsa cK Vw JS hgl hfo;go_wp2_with (at_builtin;go_loud (refine ew _ rfl _ _ 172 rfl w.heap.size 178 i0 _ 2 16 Tryz.underlying172 wC.out hz0 hz1 hz2 rfl (by decide) (.slice A5 0 c5) 0 _ rfl HOWN.out.1 ⟨wr.heap.size+1,0,none⟩ 1 1 [.int .i64 x.1,.int .i64 x.2] rfl rfl HOWN.out.2.1 (by simp[Value.oneCell']) (by decide) (by unfold maxLen;omega) (by omega) (by have:=Oy.out.size;simp;omega) _ rfl ?_);intro g cap w1 hown1 hgrow1 iV p9);go_roundw
    case rel=>
     refine⟨k+1,by omega,by go_num,?_,?_⟩
     ·rw[HB.out];simpa[aY,kX]using hown1
     ·exact((Oy.out.alloc (by omega) _).alloc (by simp;omega) _).grown hgrow1 (by simp;omega) (fun j hj=>(HOWN.out.2.2.lt j hj).1)
    case measure=>simp[intOf];omega
   |some a=>
    obtain⟨m,hm⟩: ∃m,n=m+1:=⟨out.length-1,by have:out≠[]:=(fun h=>by subst h;simp at hgl);have:=List.length_pos_iff.2 this;omega⟩;subst hm;have hm:=hn;have XG:out[m]?=some a:=by rw[List.getLast?_eq_getElem?,hm]at hgl;simpa using hgl
    have haf:=hfo a (dd XG);have Gv: ∀j u,(kX a)[j]?=some u->(out.map kX).flatten[m*2+j]?=some u:=jl (kG out) m (kX a) (by simp[XG]);have hn0:out.length*2=m*2+2:=by omega
    obtain⟨g,cap,hv,hg0,Y5⟩:=hown.form (by omega);injection hv with hv1 _ hv3;subst hv1 hv3;have d0:=(hown.cellAt (m*2) (by omega)).trans (Gv 0 _ rfl);have d1:=(hown.cellAt (m*2+1) (by omega)).trans (Gv 1 _ rfl);have aaA:g≠wr.heap.size:=by omega
    have d0':=cH d0 (.cells #[.int .i64 x.1,.int .i64 x.2] 178);have d1':=cH d1 (.cells #[.int .i64 x.1,.int .i64 x.2] 178);have HO:=al (ab hown (ab hgl (ab haf (ab Gv (ab XG hm)))));have wC:=al hi;have Oy:=al hbl;clear hown hgl haf Gv XG hm hi hn0 hbl TR hsa cK Vw JS hn;have hg1:g<wr.heap.size+1:=by omega
    have hg2:g<wr.heap.size+1+1:=by omega
    have Qk:(m:Int)<(m:Int)+1:=by omega
    have f0:=HO.out.1.frozenAt (m*2);have f1:=HO.out.1.frozenAt (m*2+1)
    cases XH:ui a x with
    |none=>
     have HM:=al XH;clear XH;go_upto_region 7 with fail
     go_cut [9,10,13]from 13 to 41 (fun s9 Y6 Y7 wx=>Y7=.int .i64 (k:Int)/\ ∃B,s9=.pointer (some ⟨B,0,none⟩)/\Y6=.bool false/\wr.heap.size+1<=B/\wx.heap[B]?=some (.cells #[.int .i64 0,.int .i64 0] 178)/\Below (wr.heap.size+1) (wr.alloc (.cells #[.int .i64 x.1,.int .i64 x.2] 178)) wx)
     case first=>
      go_region_law ((go_simp;go_at_call 120;go_loud (refine(F8 _ a x HO.out.2.2.1.2 zI.1).mono ?_);rintro e w1 ⟨Ev,hmm⟩;rw[HM.out]at hmm;simp only at hmm;subst hmm;have LG:=al Ev;obtain⟨bc,bf⟩:=Qj Ev;clear Ev))
      all_goals
       go_wp2_with fail
       go_meet
       first
        |exact⟨rfl,_,rfl,rfl,yi (by simp) LG.out _⟩
        |exact⟨rfl,_,rfl,rfl,uG (by simp) LG.out _ _⟩
     case rest=>
      obtain⟨rfl,B,rfl,rfl,Ro,dU,hcb⟩:=hcut;have cK:wc.heap[wr.heap.size]?=some (.cells #[.int .i64 x.1,.int .i64 x.2] 178):=by rw[hcb.block _ (by omega)];exact an _ _
      obtain⟨x0,x1,_,_⟩:=eW cK;have oW:=aX (HO.out.1.alloc (.cells #[.int .i64 x.1,.int .i64 x.2] 178)) (w':=wc) (by simpa using hcb);have IJ:Below w.heap.size w wc:=(Oy.out.alloc (by omega) _).trans (hcb.mono (by omega));have hs2:=IJ.size;have hown':=oW.alloc (.cells #[.int .i64 x.1,.int .i64 x.2] 178);have hnews:=ef (an wc (.cells #[.int .i64 x.1,.int .i64 x.2] 178));have HOWN:=al (ab hown' (ab hnews (ab oW IJ)));clear hown' hnews oW IJ cK hcb dU;go_wp2_with (at_builtin;go_loud (refine ew _ rfl _ _ 172 rfl w.heap.size 178 i0 _ 2 16 Tryz.underlying172 wC.out hz0 hz1 hz2 rfl (by decide) (.slice (some ⟨g,0,none⟩) (m+1) c5) (m+1) _ rfl HOWN.out.1 ⟨wc.heap.size,0,none⟩ 1 1 [.int .i64 x.1,.int .i64 x.2] rfl rfl HOWN.out.2.1 (by simp[Value.oneCell']) (by decide) (by unfold maxLen;omega) (by omega) (by simp;omega) _ rfl ?_);intro g2 cap w1 hown1 hgrow1 iV p9);go_roundw
      case rel=>
       refine⟨k+1,by omega,by go_num,?_,?_⟩
       ·have hj:aY out x=out++[x]:=by unfold aY;rw[HO.out.2.1];simp only;rw[HM.out]
        rw[HB.out,hj];have hl2:=HO.out.2.2.2.2.2;simpa[kX,hl2]using hown1
       ·exact(HOWN.out.2.2.2.alloc (by omega) _).grown hgrow1 (by simp;omega) (fun j hj=>(HOWN.out.2.2.1.lt j hj).1)
      case measure=>simp[intOf];omega
    |some y=>
     have HM:=al XH;clear XH;go_upto_region 7 with fail
     go_cut [9,10,13]from 13 to 41 (fun s9 Y6 Y7 wx=>Y7=.int .i64 (k:Int)/\ ∃B,s9=.pointer (some ⟨B,0,none⟩)/\Y6=.bool true/\wr.heap.size+1<=B/\wx.heap[B]?=some (.cells #[.int .i64 y.1,.int .i64 y.2] 178)/\Below (wr.heap.size+1) (wr.alloc (.cells #[.int .i64 x.1,.int .i64 x.2] 178)) wx)
     case first=>
      go_region_law ((go_simp;go_at_call 120;go_loud (refine(F8 _ a x HO.out.2.2.1.2 zI.1).mono ?_);rintro e w1 ⟨Ev,hmm⟩;rw[HM.out]at hmm;simp only at hmm;subst hmm;have LG:=al Ev;obtain⟨bc,bf⟩:=Qj Ev;clear Ev))
      all_goals
       go_wp2_with fail
       go_meet
       first
        |exact⟨rfl,_,rfl,rfl,yi (by simp) LG.out _⟩
        |exact⟨rfl,_,rfl,rfl,uG (by simp) LG.out _ _⟩
     case rest=>
      obtain⟨rfl,B,rfl,rfl,Ro,dU,hcb⟩:=hcut;have cK:wc.heap[wr.heap.size]?=some (.cells #[.int .i64 x.1,.int .i64 x.2] 178):=by rw[hcb.block _ (by omega)];exact an _ _
      obtain⟨x0,x1,_,_⟩:=eW cK;have oW:=aX (HO.out.1.alloc (.cells #[.int .i64 x.1,.int .i64 x.2] 178)) (w':=wc) (by simpa using hcb);have IJ:Below w.heap.size w wc:=(Oy.out.alloc (by omega) _).trans (hcb.mono (by omega));obtain⟨y0,y1,_,_⟩:=eW dU;have e0:=(oW.cellAt (m*2) (by omega)).trans (HO.out.2.2.2.1 0 _ rfl);have e1:=(oW.cellAt (m*2+1) (by omega)).trans (HO.out.2.2.2.1 1 _ rfl);have k0:=oW.frozenAt (m*2);have k1:=oW.frozenAt (m*2+1);have HOWN:=al (ab oW IJ);clear oW IJ cK hcb dU;go_wp2_with fail;go_roundw
      case rel=>
       refine⟨k+1,by omega,by go_num,?_,?_⟩
       ·have hj:aY out x=out.dropLast++[y]:=by unfold aY;rw[HO.out.2.1];simp only;rw[HM.out]
        have hl2:=HO.out.2.2.2.2.2;have hne:out≠[]:=fun h=>by subst h;simp at hl2
        rw[HB.out,hj,<-O0 out y hne,hl2];have Y8:(out.dropLast++[y]).length=m+1:=by simp[hl2]
        rw[Y8];exact((HOWN.out.1.stored (m*2) _).1.stored (m*2+1) _).1
       ·exact(HOWN.out.2.setCell hg0 _).setCell hg0 _
      case measure=>simp[intOf];omega
  ·have hkl:k=l.length:=by omega
   subst hkl;go_wp2_with fail;go_ret
   rw[ie]at hown;obtain⟨A',c',rfl⟩:=ah hown;exact⟨A',c',rfl,hown,hbl⟩
def ej(s:Int×Int):List (Int×Int)->List (Int×Int)
 |[]=>[s]
 |o::os=>if s.2<o.1 then[s]else
   (if s.1<o.1 then[(s.1,o.1-1)]else[])++(if s.2<=o.2 then[]else ej (o.2+1,s.2) os)
def cF(lo:Int)(os:List (Int×Int)):List (Int×Int):=os.dropWhile fun o=>decide (o.2<lo)
def bJ:List (Int×Int)->List (Int×Int)->List (Int×Int)
 |[],_=>[]
 |s::l,os=>ej s (cF s.1 os)++bJ l (cF s.1 os)
def ki(l:List (Int×Int))(n:Int):Prop:= ∃x∈l,x.1<=n/\n<=x.2
def rA(l:List (Int×Int)):Prop:= ∀x∈l,x.1<=x.2
def cy(l:List (Int×Int)):Prop:=rA l/\l.Pairwise fun a b=>a.2+1<b.1
theorem dK(n:Int): ¬ki [] n:=by rintro⟨x,hx,_⟩;simp at hx
theorem aZ{x:Int×Int}{l:List (Int×Int)}{n:Int}:ki (x::l) n↔(x.1<=n/\n<=x.2)\/ki l n:=by unfold ki;simp
theorem mg{a b:List (Int×Int)}{n:Int}:ki (a++b) n↔ki a n\/ki b n:=by
 unfold ki;constructor
 ·rintro⟨x,hx,h⟩;rcases dy.1 hx with hx|hx
  ·exact .inl ⟨x,hx,h⟩
  ·exact .inr ⟨x,hx,h⟩
 ·rintro(⟨x,hx,h⟩|⟨x,hx,h⟩)
  ·exact⟨x,dy.2 (.inl hx),h⟩
  ·exact⟨x,dy.2 (.inr hx),h⟩
theorem Cq{a b:List (Int×Int)}(h:a.Perm b)(n:Int):ki a n↔ki b n:=
 ⟨fun⟨x,hx,h1⟩=>⟨x,h.mem_iff.1 hx,h1⟩,fun⟨x,hx,h1⟩=>⟨x,h.mem_iff.2 hx,h1⟩⟩
theorem cy.tail{x:Int×Int}{l:List (Int×Int)}(h:cy (x::l)):cy l:=⟨fun y hy=>h.1 y (by simp[hy]),(eR.1 h.2).2⟩
theorem cy.head{x:Int×Int}{l:List (Int×Int)}(h:cy (x::l)):x.1<=x.2/\ ∀n,ki l n->x.2+1<n:=by refine⟨h.1 x (by simp),?_⟩;rintro n ⟨y,hy,h1,_⟩;have:=(eR.1 h.2).1 y hy;omega
theorem cy.cons{x:Int×Int}{l:List (Int×Int)}(hx:x.1<=x.2)(hl:cy l)(h: ∀y∈l,x.2+1<y.1):cy (x::l):=by
 refine⟨fun y hy=>?_,eR.2 ⟨h,hl.2⟩⟩;rcases fa.1 hy with rfl|hy
 ·exact hx
 ·exact hl.1 y hy
theorem nj: ∀{a b:List (Int×Int)},cy a->cy b->(∀n,ki a n↔ki b n)->a=b
 |[],[],_,_,_=>rfl
 |[],y::b,_,hb,h=>absurd ((h y.1).2 (aZ.2 (.inl ⟨eE _,(hb.head).1⟩))) (dK _)
 |x::a,[],ha,_,h=>absurd ((h x.1).1 (aZ.2 (.inl ⟨eE _,(ha.head).1⟩))) (dK _)
 |x::a,y::b,ha,hb,h=>by
  obtain⟨hx,jA⟩:=ha.head;obtain⟨hy,XI⟩:=hb.head
  have e1:x.1=y.1:=by
   have p:=(h x.1).1 (aZ.2 (.inl ⟨eE _,hx⟩));have q:=(h y.1).2 (aZ.2 (.inl ⟨eE _,hy⟩));rcases aZ.1 p with p|p<;>rcases aZ.1 q with q|q
   ·omega
   ·have:=jA _ q;omega
   ·have:=XI _ p;omega
   ·have:=jA _ q;have:=XI _ p;omega
  have e2:x.2=y.2:=by
   rcases Int.lt_trichotomy x.2 y.2 with hlt|he|hgt
   ·have p:=(h (x.2+1)).2 (aZ.2 (.inl ⟨by omega,by omega⟩));rcases aZ.1 p with p|p
    ·omega
    ·have:=jA _ p;omega
   ·exact he
   ·have p:=(h (y.2+1)).1 (aZ.2 (.inl ⟨by omega,by omega⟩));rcases aZ.1 p with p|p
    ·omega
    ·have:=XI _ p;omega
  have e:x=y:=Prod.ext e1 e2;subst e;rw[nj ha.tail hb.tail (fun n=>?_)];have:=h n;rw[aZ,aZ]at this;constructor
  ·intro p;have h1:=jA n p;rcases this.1 (.inr p)with q|q
   ·omega
   ·exact q
  ·intro p;have h1:=XI n p;rcases this.2 (.inr p)with q|q
   ·omega
   ·exact q
theorem wP{out:List (Int×Int)}{x:Int×Int}(ho:cy out)(hx:x.1<=x.2)(hlo: ∀y∈out,y.1<=x.1):
  cy (aY out x)/\(∀n,ki (aY out x) n↔ki out n\/(x.1<=n/\n<=x.2))/\ ∀y∈aY out x,y.1<=x.1:=by
 rcases List.eq_nil_or_concat out with rfl|⟨m,a,rfl⟩
 ·simp only[aY,List.getLast?_nil,fs];refine⟨cy.cons hx ⟨fun y hy=>by simp at hy,eh⟩ (fun y hy=>by simp at hy),fun n=>?_,fun y hy=>by simp at hy;subst hy;exact eE _⟩;rw[aZ];constructor
  ·rintro(h|h)
   ·exact .inr h
   ·exact absurd h (dK n)
  ·rintro(h|h)
   ·exact absurd h (dK n)
   ·exact .inl h
 ·rw[List.concat_eq_append]at ho hlo⊢;have hal:=hlo a (by simp);have hap:=ho.1 a (by simp);have hm: ∀y∈m,y.2+1<a.1:=fun y hy=>(List.pairwise_append.1 ho.2).2.2 y hy a (fl.2 rfl);have RX:cy m:=⟨fun y hy=>ho.1 y (by simp[hy]),(List.pairwise_append.1 ho.2).1⟩
  have snoc: ∀{m:List (Int×Int)} {z:Int×Int},cy m->z.1<=z.2->(∀y∈m,y.2+1<z.1)->cy (m++[z]):=by
   intro m z h1 h2 h3;refine⟨fun y hy=>?_,List.pairwise_append.2 ⟨h1.2,by simp,fun y hy u hu=>?_⟩⟩
   ·rcases dy.1 hy with hy|hy
    ·exact h1.1 y hy
    ·simp at hy;subst hy;exact h2
   ·simp at hu;subst hu;exact h3 y hy
  unfold aY;simp only[List.getLast?_append,List.getLast?_singleton,Option.some_or,ui];by_cases hg:a.2<x.1/\a.2+1<x.1
  ·rw[fi hg];simp only;refine⟨snoc ho hx ?_,fun n=>?_,?_⟩
   ·intro y hy;rcases dy.1 hy with hy|hy
    ·have:=hm y hy;omega
    ·simp at hy;subst hy;exact hg.2
   ·rw[mg,aZ];constructor
    ·rintro(h|h|h)
     ·exact .inl h
     ·exact .inr h
     ·exact absurd h (dK n)
    ·rintro(h|h)
     ·exact .inl h
     ·exact .inr (.inl h)
   ·intro y hy;rcases dy.1 hy with hy|hy
    ·exact hlo y hy
    ·simp at hy;subst hy;exact eE _
  ·rw[ff hg];simp only[List.dropLast_concat];refine⟨snoc RX (by simp only;omega) hm,fun n=>?_,?_⟩
   ·rw[mg,mg,aZ,aZ];simp only;have h0:=dK n;constructor
    ·rintro(h|h|h)
     ·exact .inl (.inl h)
     ·by_cases h1:n<=a.2
      ·exact .inl (.inr (.inl ⟨h.1,h1⟩))
      ·exact .inr (by omega)
     ·exact absurd h h0
    ·rintro((h|h|h)|h)
     ·exact .inl h
     ·exact .inr (.inl (by omega))
     ·exact absurd h h0
     ·exact .inr (.inl (by omega))
   ·intro y hy;rcases dy.1 hy with hy|hy
    ·exact hlo y (by simp[hy])
    ·simp at hy;subst hy;exact hal
theorem uH: ∀{s out:List (Int×Int)},cy out->rA s->(s.Pairwise fun a b=>a.1<=b.1)->(∀y∈out,∀x∈s,y.1<=x.1)->
  cy (s.foldl aY out)/\ ∀n,ki (s.foldl aY out) n↔ki out n\/ki s n
 |[],out,ho,_,_,_=>⟨ho,fun n=>⟨.inl,fun h=>h.resolve_right (dK n)⟩⟩
 |x::s,out,ho,hp,hs,hlo=>by
  obtain⟨h1,h2,h3⟩:=wP ho (hp x (by simp)) (fun y hy=>hlo y hy x (by simp));obtain⟨hs1,hs2⟩:=eR.1 hs;obtain⟨h4,h5⟩:=uH (s:=s) h1 (fun y hy=>hp y (by simp[hy])) hs2 (fun y hy z hz=>Int.le_trans (h3 y hy) (hs1 z hz));refine⟨h4,fun n=>?_⟩;rw[List.foldl_cons,h5,h2,aZ];constructor
  ·rintro((h|h)|h)
   ·exact .inl h
   ·exact .inr (.inl h)
   ·exact .inr (.inr h)
  ·rintro(h|h|h)
   ·exact .inl (.inl h)
   ·exact .inl (.inr h)
   ·exact .inr h
theorem uI{s:List (Int×Int)}(hp:rA s)(hs:s.Pairwise fun a b=>a.1<=b.1):cy (cw s)/\ ∀n,ki (cw s) n↔ki s n:=by obtain⟨h1,h2⟩:=uH (out:=[]) ⟨fun y hy=>by simp at hy,eh⟩ hp hs (fun y hy=>by simp at hy);exact⟨h1,fun n=>(h2 n).trans ⟨fun h=>h.resolve_left (dK n),.inr⟩⟩
theorem uJ: ∀{os:List (Int×Int)} {s:Int×Int},s.1<=s.2->cy os->(∀o∈os,s.1<=o.2)->
  cy (ej s os)/\(∀n,ki (ej s os) n↔(s.1<=n/\n<=s.2)/\ ¬ki os n)/\ ∀y∈ej s os,s.1<=y.1/\y.2<=s.2
 |[],s,hs,_,_=>by
  refine⟨cy.cons hs ⟨fun y hy=>by simp at hy,eh⟩ (fun y hy=>by simp at hy),fun n=>?_,fun y hy=>by simp[ej]at hy;subst hy;exact⟨eE _,eE _⟩⟩;simp only[ej,aZ];have h0:=dK n;constructor
  ·rintro(h|h)
   ·exact⟨h,h0⟩
   ·exact absurd h h0
  ·rintro⟨h,_⟩;exact .inl h
 |o::os,s,hs,hos,oM=>by
  obtain⟨ho,DT⟩:=hos.head;have hol:=oM o (by simp);have hoy: ∀y∈os,o.2+1<y.1:=(eR.1 hos.2).1;unfold ej;by_cases h1:s.2<o.1
  ·rw[fi h1];refine⟨cy.cons hs ⟨fun y hy=>by simp at hy,eh⟩ (fun y hy=>by simp at hy),fun n=>?_,fun y hy=>by simp at hy;subst hy;exact⟨eE _,eE _⟩⟩;rw[aZ,aZ];have h0:=dK n;constructor
   ·rintro(h|h)
    ·refine⟨h,?_⟩;rintro(h2|h2)
     ·omega
     ·have:=DT n h2;omega
    ·exact absurd h h0
   ·rintro⟨h,_⟩;exact .inl h
  ·rw[ff h1];by_cases h2:s.2<=o.2
   ·rw[fi h2,gd];by_cases h3:s.1<o.1
    ·rw[fi h3];refine⟨cy.cons (by simp only;omega) ⟨fun y hy=>by simp at hy,eh⟩ (fun y hy=>by simp at hy),fun n=>?_,fun y hy=>by simp at hy;subst hy;simp only;omega⟩;rw[aZ,aZ];have h0:=dK n;simp only;constructor
     ·rintro(h|h)
      ·refine⟨by omega,?_⟩;rintro(h4|h4)
       ·omega
       ·have:=DT n h4;omega
      ·exact absurd h h0
     ·rintro⟨h,h4⟩;have: ¬(o.1<=n/\n<=o.2):=fun h5=>h4 (.inl h5);exact .inl (by omega)
    ·rw[ff h3];refine⟨⟨fun y hy=>by simp at hy,eh⟩,fun n=>?_,fun y hy=>by simp at hy⟩;rw[aZ];have h0:=dK n;constructor
     ·intro h;exact absurd h h0
     ·rintro⟨h,h4⟩;exact absurd (.inl (by omega)) h4
   ·rw[ff h2];obtain⟨r1,r2,r3⟩:=uJ (os:=os) (s:=(o.2+1,s.2)) (by simp only;omega) hos.tail (fun y hy=>by have:=hoy y hy;have:=hos.1 y (by simp[hy]);simp only;omega);simp only at r2 r3;by_cases h3:s.1<o.1
    ·rw[fi h3];refine⟨?_,fun n=>?_,?_⟩
     ·refine cy.cons (by simp only;omega) r1 (fun y hy=>?_);have:=(r3 y hy).1;simp only;omega
     ·rw[List.singleton_append,aZ,r2,aZ];simp only;constructor
      ·rintro(h|⟨h,h5⟩)
       ·refine⟨by omega,?_⟩;rintro(h4|h4)
        ·omega
        ·have:=DT n h4;omega
       ·refine⟨by omega,?_⟩;rintro(h4|h4)
        ·omega
        ·exact h5 h4
      ·rintro⟨h,h4⟩;have h6: ¬(o.1<=n/\n<=o.2):=fun h5=>h4 (.inl h5);by_cases h7:n<o.1
       ·exact .inl (by omega)
       ·exact .inr ⟨by omega,fun h8=>h4 (.inr h8)⟩
     ·intro y hy;rcases dy.1 hy with hy|hy
      ·simp at hy;subst hy;simp only;omega
      ·have:=r3 y hy;omega
    ·rw[ff h3,fs];refine⟨r1,fun n=>?_,fun y hy=>by have:=r3 y hy;omega⟩;rw[r2,aZ];constructor
     ·rintro⟨h,h5⟩;refine⟨by omega,?_⟩;rintro(h4|h4)
      ·omega
      ·exact h5 h4
     ·rintro⟨h,h4⟩;have h6: ¬(o.1<=n/\n<=o.2):=fun h5=>h4 (.inl h5);exact⟨by omega,fun h8=>h4 (.inr h8)⟩
theorem qp: ∀{os:List (Int×Int)} (lo:Int),cy os->cy (cF lo os)/\(∀o∈cF lo os,lo<=o.2)/\ ∀n,lo<=n->(ki (cF lo os) n↔ki os n)
 |[],lo,h=>⟨h,fun o ho=>by simp[cF]at ho,fun n _=>Iff.rfl⟩
 |o::os,lo,h=>by
  unfold cF;rw[List.dropWhile_cons];by_cases h1:o.2<lo
  ·rw[fi (by simpa using h1)];obtain⟨a,b,c⟩:=qp lo h.tail;refine⟨a,b,fun n hn=>(c n hn).trans ?_⟩;rw[aZ];exact⟨.inr,fun h2=>h2.resolve_left (by omega)⟩
  ·rw[ff (by simpa using h1)];refine⟨h,fun y hy=>?_,fun n _=>Iff.rfl⟩;rcases fa.1 hy with rfl|hy
   ·omega
   ·have:=(eR.1 h.2).1 y hy;have:=h.1 y (by simp[hy]);have:=h.1 o (by simp);omega
theorem oX: ∀{l os:List (Int×Int)},cy l->cy os->cy (bJ l os)/\(∀n,ki (bJ l os) n↔ki l n/\ ¬ki os n)/\ ∀y∈bJ l os,∃x∈l,x.1<=y.1/\y.2<=x.2
 |[],os,h,_=>⟨h,fun n=>⟨fun h=>absurd h (dK n),fun h=>h.1⟩,fun y hy=>by simp[bJ]at hy⟩
 |s::l,os,h,hos=>by
  obtain⟨hs,hsl⟩:=h.head;obtain⟨d1,d2,d3⟩:=qp s.1 hos;obtain⟨c1,c2,c3⟩:=uJ hs d1 d2;obtain⟨w1,w2,w3⟩:=oX (l:=l) h.tail d1;have hsy: ∀y∈l,s.2+1<y.1:=(eR.1 h.2).1;unfold bJ;refine⟨⟨fun y hy=>?_,List.pairwise_append.2 ⟨c1.2,w1.2,fun y hy z hz=>?_⟩⟩,fun n=>?_,fun y hy=>?_⟩
  ·rcases dy.1 hy with hy|hy
   ·exact c1.1 y hy
   ·exact w1.1 y hy
  ·obtain⟨x,hx,h1,_⟩:=w3 z hz;have:=hsy x hx;have:=c3 y hy;omega
  ·rw[mg,c2,w2,aZ];constructor
   ·rintro(⟨h1,h2⟩|⟨h1,h2⟩)
    ·exact⟨.inl h1,fun h3=>h2 ((d3 n h1.1).2 h3)⟩
    ·have:=hsl n h1;exact⟨.inr h1,fun h3=>h2 ((d3 n (by omega)).2 h3)⟩
   ·rintro⟨h1|h1,h2⟩
    ·exact .inl ⟨h1,fun h3=>h2 ((d3 n h1.1).1 h3)⟩
    ·have:=hsl n h1;exact .inr ⟨h1,fun h3=>h2 ((d3 n (by omega)).1 h3)⟩
  ·rcases dy.1 hy with hy|hy
   ·exact⟨s,by simp,c3 y hy⟩
   ·obtain⟨x,hx,h1⟩:=w3 y hy;exact⟨x,by simp[hx],h1⟩
theorem dH{α:Type}{l:List α}{k:Nat}{x:α}(h:l[k]?=some x):l.take (k+1)=l.take k++[x]:=by rw[kt,h];rfl
abbrev kM:=Int×List UInt8×Int
def Cl.has(c:Cl)(t:kM):Prop:=c.aK=t.1/\c.key=t.2.1/\c.lo<=t.2.2/\t.2.2<=c.hi
instance (c:Cl) (t:kM):Decidable (c.has t):=by unfold Cl.has;infer_instance
def eJ(l:List Cl)(t:kM):Int:=
 if ∃c∈l,c.has t/\c.wr=true then 2 else if ∃c∈l,c.has t then 1 else 0
theorem gg{l:List Cl}{t:kM}:eJ l t=2↔ ∃c∈l,c.has t/\c.wr=true:=by
 unfold eJ;split
 ·simp_all
 ·split<;>simp_all
theorem cC{l:List Cl}{t:kM}:1<=eJ l t↔ ∃c∈l,c.has t:=by
 unfold eJ;split
 ·rename_i h;obtain⟨c,h1,h2,_⟩:=h;exact⟨fun _=>⟨c,h1,h2⟩,fun _=>by decide⟩
 ·split
  ·rename_i h;exact⟨fun _=>h,fun _=>by decide⟩
  ·rename_i h;exact⟨fun h0=>absurd h0 (by decide),fun h0=>absurd h0 h⟩
theorem ij(l:List Cl)(t:kM):0<=eJ l t/\eJ l t<=2:=by
 unfold eJ;split
 ·omega
 ·split<;>omega
theorem LH{a b:List Cl}{t:kM}(h2:(∃c∈a,c.has t/\c.wr=true)-> ∃c∈b,c.has t/\c.wr=true)(h1:(∃c∈a,c.has t)-> ∃c∈b,c.has t):eJ a t<=eJ b t:=by have e2:eJ a t=2->eJ b t=2:=fun h=>gg.2 (h2 (gg.1 h));have e1:1<=eJ a t->1<=eJ b t:=fun h=>cC.2 (h1 (cC.1 h));have:=ij a t;have:=ij b t;omega
theorem zJ{a b:List Cl}(h: ∀c,c∈a->c∈b)(t:kM):eJ a t<=eJ b t:=
 LH (fun⟨c,x,y⟩=>⟨c,h c x,y⟩) (fun⟨c,x,y⟩=>⟨c,h c x,y⟩)
theorem O1(t:kM):eJ [] t=0:=by simp[eJ]
theorem mh(a b:List Cl)(t:kM):eJ (a++b) t=max (eJ a t) (eJ b t):=by
 have h1:=zJ (a:=a) (b:=a++b) (fun c h=>dy.2 (.inl h)) t;have h2:=zJ (a:=b) (b:=a++b) (fun c h=>dy.2 (.inr h)) t
 have h3:eJ (a++b) t=2->eJ a t=2\/eJ b t=2:=by
  intro h;obtain⟨c,hc,h⟩:=gg.1 h;rcases dy.1 hc with hc|hc
  ·exact .inl (gg.2 ⟨c,hc,h⟩)
  ·exact .inr (gg.2 ⟨c,hc,h⟩)
 have h4:1<=eJ (a++b) t->1<=eJ a t\/1<=eJ b t:=by
  intro h;obtain⟨c,hc,h⟩:=cC.1 h;rcases dy.1 hc with hc|hc
  ·exact .inl (cC.2 ⟨c,hc,h⟩)
  ·exact .inr (cC.2 ⟨c,hc,h⟩)
 have:=ij a t;have:=ij b t;have:=ij (a++b) t;omega
theorem Cr(a:List Cl)(c:Cl)(t:kM):eJ (a++[c]) t=if c.has t then(if c.wr=true then 2 else max (eJ a t) 1)else eJ a t:=by
 rw[mh];have hb:=ij a t
 have h1:eJ [c] t=if c.has t then(if c.wr=true then 2 else 1)else 0:=by unfold eJ;by_cases h:c.has t<;>by_cases hw:c.wr=true<;>simp[h,hw]
 rw[h1];by_cases h:c.has t
 ·by_cases hw:c.wr=true
  ·simp only[h,hw,if_true];omega
  ·simp only[h,hw,if_true];simp
 ·simp only[h,if_false];omega
theorem oY{α:Type}{r:α->α->Prop}(Y9: ∀a,¬r a a)(asy: ∀a b,r a b->r b a->False): ∀{a b:List α},a.Pairwise r->b.Pairwise r->(∀x,x∈a↔x∈b)->a=b
 |[],[],_,_,_=>rfl
 |[],y::b,_,_,h=>absurd ((h y).2 (by simp)) (by simp)
 |x::a,[],_,_,h=>absurd ((h x).1 (by simp)) (by simp)
 |x::a,y::b,ha,hb,h=>by
  have ha':=eR.1 ha;have hb':=eR.1 hb
  have hxy:x=y:=by
   rcases fa.1 ((h x).1 (by simp))with e|e
   ·exact e
   ·rcases fa.1 ((h y).2 (by simp))with e'|e'
    ·exact e'.symm
    ·exact(asy _ _ (ha'.1 _ e') (hb'.1 _ e)).elim
  subst hxy;congr 1;refine oY Y9 asy ha'.2 hb'.2 fun z=>?_;constructor
  ·intro hz;rcases fa.1 ((h z).1 (by simp[hz]))with e|e
   ·subst e;exact absurd (ha'.1 _ hz) (Y9 _)
   ·exact e
  ·intro hz;rcases fa.1 ((h z).2 (by simp[hz]))with e|e
   ·subst e;exact absurd (hb'.1 _ hz) (Y9 _)
   ·exact e
def wQ(x:Bool×List UInt8):Cl:=⟨x.1,-1,x.2,0,0⟩
def sG(W R:Int->List (Int×Int))(i:Int):List Cl:=(W i).map (qZ i true)++(R i).map (qZ i false)
def eZ(ks:List (Bool×List UInt8))(W R:Int->List (Int×Int)):List Cl:=
 ks.map wQ++sG W R 0++sG W R 1++sG W R 2++sG W R 3
def Gx(l:List Cl):Prop:= ∃ks W R,l=eZ ks W R/\(ks.Pairwise fun a b=>a.2<b.2)/\ ∀i:Int,0<=i->i<4->cy (W i)/\cy (R i)/\ ∀n,ki (W i) n-> ¬ki (R i) n
theorem fS{W R:Int->List (Int×Int)}{i:Int}{c:Cl}:c∈sG W R i↔(∃x∈W i,qZ i true x=c)\/ ∃x∈R i,qZ i false x=c:=by unfold sG;rw[List.mem_append,List.mem_map,List.mem_map]
theorem cU{ks:List (Bool×List UInt8)}{W R:Int->List (Int×Int)}{c:Cl}:c∈eZ ks W R↔(∃x∈ks,wQ x=c)\/ ∃i:Int,0<=i/\i<4/\c∈sG W R i:=by
 unfold eZ;simp only[List.mem_append,List.mem_map];constructor
 ·rintro((((h|h)|h)|h)|h)
  ·exact .inl h
  ·exact .inr ⟨0,by decide,by decide,h⟩
  ·exact .inr ⟨1,by decide,by decide,h⟩
  ·exact .inr ⟨2,by decide,by decide,h⟩
  ·exact .inr ⟨3,by decide,by decide,h⟩
 ·rintro(h|⟨i,h1,h2,h⟩)
  ·exact .inl (.inl (.inl (.inl h)))
  ·have:i=0\/i=1\/i=2\/i=3:=by omega
   rcases this with rfl|rfl|rfl|rfl
   ·exact .inl (.inl (.inl (.inr h)))
   ·exact .inl (.inl (.inr h))
   ·exact .inl (.inr h)
   ·exact .inr h
theorem gG{x:Bool×List UInt8}{t:kM}:(wQ x).has t↔t=(-1,x.2,0):=by
 obtain⟨a,b,n⟩:=t;unfold Cl.has wQ;simp only[lP];constructor
 ·rintro⟨h1,h2,h3,h4⟩;exact⟨h1.symm,h2.symm,by omega⟩
 ·rintro⟨h1,h2,h3⟩;exact⟨h1.symm,h2.symm,by omega,by omega⟩
theorem dL{i:Int}{b:Bool}{x:Int×Int}{t:kM}:(qZ i b x).has t↔t.1=i/\t.2.1=[]/\x.1<=t.2.2/\t.2.2<=x.2:=by
 unfold Cl.has qZ;simp only;constructor
 ·rintro⟨h1,h2,h3⟩;exact⟨h1.symm,h2.symm,h3⟩
 ·rintro⟨h1,h2,h3⟩;exact⟨h1.symm,h2.symm,h3⟩
section
variable{ks:List (Bool×List UInt8)}{W R:Int->List (Int×Int)}
theorem mj{k:List UInt8}:1<=eJ (eZ ks W R) (-1,k,0)↔ ∃b,(b,k)∈ks:=by
 rw[cC];constructor
 ·rintro⟨c,hc,h⟩;rcases cU.1 hc with⟨x,hx,rfl⟩|⟨i,h1,h2,hi⟩
  ·have:=gG.1 h;simp at this;exact⟨x.1,by rw[this];exact hx⟩
  ·rcases fS.1 hi with⟨x,_,rfl⟩|⟨x,_,rfl⟩
   ·have:=(dL.1 h).1;simp only at this;omega
   ·have:=(dL.1 h).1;simp only at this;omega
 ·rintro⟨b,hb⟩;exact⟨_,cU.2 (.inl ⟨_,hb,rfl⟩),gG.2 rfl⟩
theorem ml{k:List UInt8}:eJ (eZ ks W R) (-1,k,0)=2↔(true,k)∈ks:=by
 rw[gg];constructor
 ·rintro⟨c,hc,h,hw⟩;rcases cU.1 hc with⟨x,hx,rfl⟩|⟨i,h1,h2,hi⟩
  ·have:=gG.1 h;simp at this;unfold wQ at hw;simp only at hw;obtain⟨x1,x2⟩:=x
   simp_all
  ·rcases fS.1 hi with⟨x,_,rfl⟩|⟨x,_,rfl⟩
   ·have:=(dL.1 h).1;simp only at this;omega
   ·have:=(dL.1 h).1;simp only at this;omega
 ·rintro hb;exact⟨_,cU.2 (.inl ⟨_,hb,rfl⟩),gG.2 rfl,rfl⟩
theorem mn{i n:Int}(h0:0<=i)(h4:i<4):eJ (eZ ks W R) (i,[],n)=2↔ki (W i) n:=by
 rw[gg];constructor
 ·rintro⟨c,hc,h,hw⟩;rcases cU.1 hc with⟨x,hx,rfl⟩|⟨j,h1,h2,hi⟩
  ·have:=gG.1 h;simp at this;omega
  ·rcases fS.1 hi with⟨x,hx,rfl⟩|⟨x,_,rfl⟩
   ·have h':=dL.1 h;simp only at h';obtain⟨rfl,_,h3⟩:=h';exact⟨x,hx,h3⟩
   ·cases hw
 ·rintro⟨x,hx,h⟩;exact⟨_,cU.2 (.inr ⟨i,h0,h4,fS.2 (.inl ⟨x,hx,rfl⟩)⟩),dL.2 ⟨rfl,rfl,h⟩,rfl⟩
theorem mo{i n:Int}(h0:0<=i)(h4:i<4):1<=eJ (eZ ks W R) (i,[],n)↔ki (W i) n\/ki (R i) n:=by
 rw[cC];constructor
 ·rintro⟨c,hc,h⟩;rcases cU.1 hc with⟨x,hx,rfl⟩|⟨j,h1,h2,hi⟩
  ·have:=gG.1 h;simp at this;omega
  ·rcases fS.1 hi with⟨x,hx,rfl⟩|⟨x,hx,rfl⟩
   ·have h':=dL.1 h;simp only at h';obtain⟨rfl,_,h3⟩:=h';exact .inl ⟨x,hx,h3⟩
   ·have h':=dL.1 h;simp only at h';obtain⟨rfl,_,h3⟩:=h';exact .inr ⟨x,hx,h3⟩
 ·rintro(⟨x,hx,h⟩|⟨x,hx,h⟩)
  ·exact⟨_,cU.2 (.inr ⟨i,h0,h4,fS.2 (.inl ⟨x,hx,rfl⟩)⟩),dL.2 ⟨rfl,rfl,h⟩⟩
  ·exact⟨_,cU.2 (.inr ⟨i,h0,h4,fS.2 (.inr ⟨x,hx,rfl⟩)⟩),dL.2 ⟨rfl,rfl,h⟩⟩
end
theorem zK(a:List UInt8): ¬a<a:=List.lt_irrefl a
theorem O2{a b:List UInt8}(h:a<b)(h':b<a):False:=List.lt_irrefl a (List.lt_trans h h')
theorem Cs{a b:List Cl}(ha:Gx a)(hb:Gx b)(h: ∀t,eJ a t=eJ b t):a=b:=by
 obtain⟨ks,W,R,rfl,hk,hn⟩:=ha;obtain⟨ks',W',R',rfl,hk',hn'⟩:=hb
 have hp: ∀{ks:List (Bool×List UInt8)},(ks.Pairwise fun a b=>a.2<b.2)-> ∀x∈ks,∀y∈ks,x.2=y.2->x=y:=by
  intro ks hk x hx y hy e;by_cases hne:x=y
  ·exact hne
  ·obtain⟨i,hi,rfl⟩:=List.mem_iff_getElem.1 hx;obtain⟨j,hj,rfl⟩:=List.mem_iff_getElem.1 hy;rcases Nat.lt_trichotomy i j with hij|hij|hij
   ·have:=List.pairwise_iff_getElem.1 hk i j hi hj hij;rw[e]at this;exact(zK _ this).elim
   ·subst hij;rfl
   ·have:=List.pairwise_iff_getElem.1 hk j i hj hi hij;rw[e]at this;exact(zK _ this).elim
 have hks:ks=ks':=by
  refine oY (r:=fun a b=>a.2<b.2) (fun a=>zK a.2) (fun a b=>O2) hk hk' ?_
  have side: ∀{ks ks':List (Bool×List UInt8)} {W R W' R':Int->List (Int×Int)},(ks.Pairwise fun a b=>a.2<b.2)->(ks'.Pairwise fun a b=>a.2<b.2)->(∀t,eJ (eZ ks W R) t=eJ (eZ ks' W' R') t)-> ∀x,x∈ks->x∈ks':=by
   intro ks ks' W R W' R' hk hk' h x hx;obtain⟨b,k⟩:=x;have h1:=(mj (ks:=ks) (W:=W) (R:=R)).2 ⟨b,hx⟩;rw[h]at h1;obtain⟨b',hb'⟩:=mj.1 h1
   have h2:((true,k)∈ks)↔((true,k)∈ks'):=by rw[<-ml (ks:=ks) (W:=W) (R:=R),<-ml (ks:=ks') (W:=W') (R:=R'),h]
   cases b with
   |true=>exact h2.1 hx
   |false=>
    cases b' with
    |false=>exact hb'
    |true=>have:=hp hk _ (h2.2 hb') _ hx rfl;cases this
  exact fun x=>⟨side hk hk' h x,side hk' hk (fun t=>(h t).symm) x⟩
 subst hks
 have hW: ∀i:Int,0<=i->i<4->W i=W' i:=fun i h0 h4=>nj (hn i h0 h4).1 (hn' i h0 h4).1 fun n=>by rw[<-mn (ks:=ks) (R:=R) h0 h4,<-mn (ks:=ks) (R:=R') h0 h4,h]
 have hR: ∀i:Int,0<=i->i<4->R i=R' i:=fun i h0 h4=>nj (hn i h0 h4).2.1 (hn' i h0 h4).2.1 fun n=>by
  have e1:=mo (ks:=ks) (W:=W) (R:=R) (n:=n) h0 h4;have e2:=mo (ks:=ks) (W:=W') (R:=R') (n:=n) h0 h4;have e3:=(hn i h0 h4).2.2 n;have e4:=(hn' i h0 h4).2.2 n;rw[h,e2,hW i h0 h4]at e1;rw[hW i h0 h4]at e3;constructor
  ·intro hr;rcases e1.2 (.inr hr)with h'|h'
   ·exact absurd hr (e3 h')
   ·exact h'
  ·intro hr;rcases e1.1 (.inr hr)with h'|h'
   ·exact absurd hr (e4 h')
   ·exact h'
 unfold eZ sG;rw[hW 0 (by decide) (by decide),hW 1 (by decide) (by decide),hW 2 (by decide) (by decide),hW 3 (by decide) (by decide),hR 0 (by decide) (by decide),hR 1 (by decide) (by decide),hR 2 (by decide) (by decide),hR 3 (by decide) (by decide)]
def Ok(c:Cl):Prop:=BS c=0
theorem Ok.parts{c:Cl}(h:Ok c):(c.aK= -1/\c.lo=0/\c.hi=0/\1<=c.key.length/\c.key.length<=16)\/(0<=c.aK/\c.aK<4/\c.key=[]/\c.lo<=c.hi):=by
 unfold Ok BS at h;split at h
 ·cases h
 ·split at h
  ·split at h
   ·cases h
   ·rename_i h1 h2 h3;refine .inr ⟨h2,by omega,?_,?_⟩
    ·exact Classical.byContradiction fun hk=>h3 (.inl hk)
    ·exact Int.not_lt.1 fun hk=>h3 (.inr hk)
  ·split at h
   ·cases h
   ·unfold cQ at h;split at h
    ·cases h
    ·omega
theorem Ok.of{c:Cl}(h:(c.aK= -1/\c.lo=0/\c.hi=0/\1<=c.key.length/\c.key.length<=16)\/(0<=c.aK/\c.aK<4/\c.key=[]/\c.lo<=c.hi)):Ok c:=by
 unfold Ok BS cQ;rcases h with⟨h1,h2,h3,h4,h5⟩|⟨h1,h2,h3,h4⟩
 ·rw[ff (by omega),ff (by omega),ff (by omega),ff (by omega)]
 ·rw[ff (by omega),fi h1,ff (by simp[h3];omega)]
theorem Ok.proper{c:Cl}(h:Ok c):c.lo<=c.hi:=by rcases h.parts with h|h<;>omega
def cG(l:List Cl)(i:Int)(b:Bool):List (Int×Int):=(l.filter fun c=>c.aK==i&&c.wr==b).map fun c=>(c.lo,c.hi)
theorem kO{l:List Cl}{i:Int}{b:Bool}{x:Int×Int}:x∈cG l i b↔ ∃c∈l,c.aK=i/\c.wr=b/\(c.lo,c.hi)=x:=by
 unfold cG;simp only[List.mem_map,List.mem_filter,mT,beq_iff_eq];constructor
 ·rintro⟨c,⟨h1,h2,h3⟩,h4⟩;exact⟨c,h1,h2,h3,h4⟩
 ·rintro⟨c,h1,h2,h3,h4⟩;exact⟨c,⟨h1,h2,h3⟩,h4⟩
theorem nt{l:List Cl}(hl: ∀c∈l,Ok c){i n:Int}{b:Bool}(h0:0<=i):ki (cG l i b) n↔ ∃c∈l,c.has (i,[],n)/\c.wr=b:=by
 unfold ki;constructor
 ·rintro⟨x,hx,h⟩;obtain⟨c,h1,h2,h3,rfl⟩:=kO.1 hx;have:=(hl c h1).parts;refine⟨c,h1,⟨h2,?_,h⟩,h3⟩;rcases this with this|this
  ·omega
  ·exact this.2.2.1
 ·rintro⟨c,h1,⟨h2,h3,h4⟩,h5⟩;exact⟨_,kO.2 ⟨c,h1,h2,h5,rfl⟩,h4⟩
theorem nu{l:List Cl}(hl: ∀c∈l,Ok c)(i:Int)(b:Bool):rA (cG l i b):=by intro x hx;obtain⟨c,h1,h2,h3,rfl⟩:=kO.1 hx;exact(hl c h1).proper
theorem O3{l:List Cl}(hl: ∀c∈l,Ok c){ks:List (Bool×List UInt8)}{W R:Int->List (Int×Int)}(hk:ks.Pairwise fun a b=>a.2<b.2)
  (h1: ∀k,(∃b,(b,k)∈ks)↔1<=eJ l (-1,k,0)) (h2: ∀k,(true,k)∈ks↔eJ l (-1,k,0)=2)
  (hW: ∀i:Int,0<=i->i<4->cy (W i)/\ ∀n,ki (W i) n↔ki (cG l i true) n)
  (hR: ∀i:Int,0<=i->i<4->cy (R i)/\ ∀n,ki (R i) n↔ki (cG l i false) n/\ ¬ki (W i) n):
  Gx (eZ ks W R)/\ ∀t,eJ (eZ ks W R) t=eJ l t:=by
 refine⟨⟨ks,W,R,rfl,hk,fun i a b=>⟨(hW i a b).1,(hR i a b).1,fun n h h'=>((((hR i a b).2 n).1 h').2 h)⟩⟩,?_⟩;rintro⟨i,k,n⟩;have bd1:=ij (eZ ks W R) (i,k,n);have bd2:=ij l (i,k,n);by_cases hi:0<=i/\i<4
 ·obtain⟨a,b⟩:=hi;by_cases hkn:k=[]
  ·subst hkn;have e1:=(mn (ks:=ks) (W:=W) (R:=R) (n:=n) a b);have e2:=(mo (ks:=ks) (W:=W) (R:=R) (n:=n) a b);rw[(hW i a b).2 n,nt hl a,<-gg]at e1
   have e3:(ki (W i) n\/ki (R i) n)↔1<=eJ l (i,[],n):=by
    rw[(hR i a b).2 n,(hW i a b).2 n,nt hl a,nt hl a,cC];constructor
    ·rintro(⟨c,x,y,_⟩|⟨⟨c,x,y,_⟩,_⟩)
     ·exact⟨c,x,y⟩
     ·exact⟨c,x,y⟩
    ·rintro⟨c,x,y⟩;cases hw:c.wr
     ·by_cases hh: ∃c∈l,c.has (i,[],n)/\c.wr=true
      ·exact .inl hh
      ·exact .inr ⟨⟨c,x,y,hw⟩,hh⟩
     ·exact .inl ⟨c,x,y,hw⟩
   rw[e3]at e2;omega
  ·have e1: ¬1<=eJ (eZ ks W R) (i,k,n):=by
    rw[cC];rintro⟨c,hc,h⟩;rcases cU.1 hc with⟨x,hx,rfl⟩|⟨j,_,_,hi⟩
    ·have:=gG.1 h;simp at this;omega
    ·rcases fS.1 hi with⟨x,hx,rfl⟩|⟨x,hx,rfl⟩
     ·exact hkn (dL.1 h).2.1
     ·exact hkn (dL.1 h).2.1
   have e2: ¬1<=eJ l (i,k,n):=by
    rw[cC];rintro⟨c,hc,g1,g2,g3⟩;simp only at g1 g2;rcases(hl c hc).parts with h|h
    ·omega
    ·exact hkn (g2.symm.trans h.2.2.1)
   omega
 ·by_cases hr:i= -1/\n=0
  ·obtain⟨rfl,rfl⟩:=hr;have e1:=(mj (ks:=ks) (W:=W) (R:=R) (k:=k)).trans (h1 k);have e2:=(ml (ks:=ks) (W:=W) (R:=R) (k:=k)).trans (h2 k);omega
  ·have e1: ¬1<=eJ (eZ ks W R) (i,k,n):=by
    rw[cC];rintro⟨c,hc,h⟩;rcases cU.1 hc with⟨x,hx,rfl⟩|⟨j,_,_,hi⟩
    ·have:=gG.1 h;simp at this;omega
    ·rcases fS.1 hi with⟨x,hx,rfl⟩|⟨x,hx,rfl⟩
     ·have:=(dL.1 h).1;simp only at this;omega
     ·have:=(dL.1 h).1;simp only at this;omega
   have e2: ¬1<=eJ l (i,k,n):=by
    rw[cC];rintro⟨c,hc,g1,g2,g3,g4⟩;simp only at g1 g2 g3 g4;rcases(hl c hc).parts with h|h
    ·omega
    ·omega
   omega
end Go.Proofs.YtagemonojdgbdaaGreatDoor
