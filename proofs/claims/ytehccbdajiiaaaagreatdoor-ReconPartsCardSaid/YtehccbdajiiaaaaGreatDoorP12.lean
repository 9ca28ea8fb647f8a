import Derived.Test.YtehccbdajiiaaaaGreatDoorP10
import Derived.Deep.CutRange
import Derived.Laws.OwnMore
import Derived.Deep.RegionLaw
import Derived.Deep.DeepCutAuto
namespace Go.Proofs.YtehccbdajiiaaaaGreatDoor
open Go.Proofs.Tryz
set_option maxRecDepth 100000
set_option maxHeartbeats 16000000
open Go.RowKit
theorem af(w:World)(o:Obj):Below w.heap.size w (w.alloc o):=(aw _ _).alloc (b8 _) _
theorem nj(w:World)(T:Nat)(s:ByteArray)(c:1<=s.size)(d:s.size<=64):Calls prog 171 #[r7 T,.string s] w fun e a=>e=.returned (rv 0)/\a=w:=by
 have a: ¬(s.size:Int)<1:=by omega
 have b: ¬(64:Int)<(s.size:Int):=by omega
 go_enter func171,ntmps171;go_wp2_with fail;go_ret
 exact⟨rfl,rfl⟩
def JE(e:TypeId)(xs:List Value)(w:World)(a:Ending)(w':World):Prop:=
 ∃A c,a=.returned (.slice A xs.length c)/\w'.ownsRow w.heap.size e 1 (.slice A xs.length c) xs.length xs/\Below w.heap.size w w'
theorem Tryz.N3:(prog.info? 5).map (fun i=>(i.zero,i.size,i.bytes))=some (some (.int .u8 0),1,1):=by kernel_rfl
theorem Tryz.N4:(prog.info? 53).map (fun i=>(i.zero,i.size,i.bytes))=some (some (.slice none 0 0),1,24):=by kernel_rfl
theorem jr(v:Value)(xs:List Value)(F:Nat->Prop)(w:World)(d:Rd w F v xs)(n: ∀u∈xs,u.oneCell'=true)(y:xs.length<=140737488355328):
  Calls prog 46 #[v] w (JE 5 xs w):=by
 obtain⟨l,q,g,j,i⟩:=ef Tryz.N3;have f:=d;obtain⟨A,r,s,rfl,b,u,x,a⟩:=f;have t:=fun w=>Lib.run_eql_slice_nil (P:=prog) w 53 5 A r s 0 0 underlying53;have p:=al a;have k:=al b;clear a b;rcases A with _|z
 ·go_enter func46,ntmps46
  go_wp2
  go_ret
  have:xs=[]:=by
   rcases Nat.eq_zero_or_pos r with a|a
   ·exact de (by rw[k.o,a])
   ·obtain⟨_,_,h,_⟩:=p.o a;cases h
  subst this;exact⟨none,0,rfl,ea _ _ _ _,aw _ _⟩
 ·have h:Rd (w.alloc (.cells #[] 5)) F (.slice (some z) r s) xs:=d.below ((aw _ _).alloc (b8 _) _);have e:=World.ownsRow_made (e:=5) (base:=w.heap.size) (size:=1) w #[] 0 (b8 _) (by simp[maxLen]) rfl;have a:(0+xs.length)*1<=140737488355328:=by omega
  have c:0+xs.length<=maxLen:=by simp only[maxLen];omega
  have b:w.heap.size<=(w.alloc (.cells #[] 5)).heap.size:=by simp
  have C:=AM a c b;clear a c b;go_enter func46,ntmps46;go_wp2_with (at_builtin;go_loud (refine iY _ rfl _ _ 53 rfl w.heap.size 5 l (.int .u8 0) 1 underlying53 q g j i rfl _ 0 [] rfl e F _ xs rfl h n C.o.1 C.o.2.1 C.o.d ?_);intro m c a b _);go_ret
  simp only[gR,fm]at a;obtain⟨m,c,o⟩:=ar a;rw[o]at a⊢;exact⟨m,c,rfl,a,((aw _ _).alloc (b8 _) _).grown b (by simp) (fun B b=>by have a:some w.heap.size=some B:=b;injection a with a;omega)⟩
theorem GJ(v:Value)(xs:List Value)(F:Nat->Prop)(w:World)(d:Rd w F v xs)(n: ∀u∈xs,u.oneCell'=true)(y:xs.length*24<=140737488355328):
  Calls prog 54 #[v] w (JE 53 xs w):=by
 obtain⟨l,q,g,j,i⟩:=ef Tryz.N4;have f:=d;obtain⟨A,r,s,rfl,b,u,x,a⟩:=f;have t:=fun w=>Lib.run_eql_slice_nil (P:=prog) w 22 53 A r s 0 0 underlying22;have p:=al a;have k:=al b;clear a b;rcases A with _|z
 ·go_enter func54,ntmps54
  go_wp2
  go_ret
  have:xs=[]:=by
   rcases Nat.eq_zero_or_pos r with a|a
   ·exact de (by rw[k.o,a])
   ·obtain⟨_,_,h,_⟩:=p.o a;cases h
  subst this;exact⟨none,0,rfl,ea _ _ _ _,aw _ _⟩
 ·have h:Rd (w.alloc (.cells #[] 53)) F (.slice (some z) r s) xs:=d.below ((aw _ _).alloc (b8 _) _);have e:=World.ownsRow_made (e:=53) (base:=w.heap.size) (size:=1) w #[] 0 (b8 _) (by simp[maxLen]) rfl;have a:(0+xs.length)*24<=140737488355328:=by omega
  have c:0+xs.length<=maxLen:=by simp only[maxLen];omega
  have b:w.heap.size<=(w.alloc (.cells #[] 53)).heap.size:=by simp
  have C:=AM a c b;clear a c b;go_enter func54,ntmps54;go_wp2_with (at_builtin;go_loud (refine iY _ rfl _ _ 22 rfl w.heap.size 53 l (.slice none 0 0) 24 underlying22 q g j i rfl _ 0 [] rfl e F _ xs rfl h n C.o.1 C.o.2.1 C.o.d ?_);intro m c a b _);go_ret
  simp only[gR,fm]at a;obtain⟨m,c,o⟩:=ar a;rw[o]at a⊢;exact⟨m,c,rfl,a,((aw _ _).alloc (b8 _) _).grown b (by simp) (fun B b=>by have a:some w.heap.size=some B:=b;injection a with a;omega)⟩
def bu(out:List (Int×Int))(x:Int×Int):List (Int×Int):=
 match out.getLast? with
 |none=>out++[x]
 |some a=>match wO a x with
  |none=>out++[x]
  |some y=>out.dropLast++[y]
def cE(l:List (Int×Int)):List (Int×Int):=l.foldl bu []
def ij(l:List (Int×Int)):Prop:= ∀x∈l,kK x.1/\kK x.2
theorem Li{a b y:Int×Int}(h:wO a b=some y)(c:kK a.1/\kK a.2)(d:kK b.1/\kK b.2):kK y.1/\kK y.2:=by
 unfold wO at h;split at h
 ·cases h
 ·injection h with h;subst h;refine⟨c.1,?_⟩;unfold kK at *;simp only;omega
theorem Cf{out:List (Int×Int)}{x:Int×Int}(b:ij out)(c:kK x.1/\kK x.2):ij (bu out x):=by
 unfold bu;split
 ·intro y a;rcases dr.1 a with h|h
  ·exact b y h
  ·simp at h;subst h;exact c
 ·rename_i g e;have d:g∈out:=List.mem_of_getLast? e;split
  ·intro y a;rcases dr.1 a with h|h
   ·exact b y h
   ·simp at h;subst h;exact c
  ·rename_i y a;intro z f;rcases dr.1 f with h|h
   ·exact b z (List.dropLast_subset _ h)
   ·simp at h;subst h;exact Li a (b g d) c
theorem Cg(out:List (Int×Int))(x:Int×Int):(bu out x).length<=out.length+1:=by
 unfold bu;split
 ·simp
 ·split
  ·simp
  ·simp
theorem AA{l:List (Int×Int)}: ∀{a},ij a->ij l->ij (l.foldl bu a):=by
 induction l with
 |nil=>intro a h _;exact h
 |cons x l c=>intro a d b;exact c (Cf d (b x (by simp))) (fun y c=>b y (by simp[c]))
theorem AB{l:List (Int×Int)}: ∀{out:List (Int×Int)},(l.foldl bu out).length<=out.length+l.length:=by
 induction l with
 |nil=>intro out;simp
 |cons x l a=>intro out;have:=a (out:=bu out x);have:=Cg out x;simp;omega
theorem Si(l:List (Int×Int))(y:Int×Int)(a:l≠[]):
  (((l.map mh).flatten.set ((l.length-1)*2) (rv y.1)).set ((l.length-1)*2+1) (rv y.2))=((l.dropLast++[y]).map mh).flatten:=by
 obtain⟨m,z,rfl⟩: ∃m z,l=m++[z]:=⟨l.dropLast,l.getLast a,(List.dropLast_concat_getLast a).symm⟩;have b:(m.map mh).flatten.length=m.length*2:=by rw[rB (lU m)];simp
 simp only[ix,lE,gk,List.length_singleton,oE,List.dropLast_concat];rw[List.set_append_right _ _ (by omega),List.set_append_right _ _ (by omega),b];simp[mh]
theorem AE{W w1:World}{n:Nat}(a:W.heap.size=n)(b:Below W.drew.heap.size W.drew w1)(Y:Obj):n<=w1.heap.size/\(w1.alloc Y).heap[w1.heap.size]?=some Y/\Below n W (w1.alloc Y):=by subst a;have h:=fI b;have a:W.heap.size<=w1.heap.size:=h.size;exact⟨a,an _ _,h.alloc a _⟩
theorem wT{W w1:World}{n:Nat}{t:TypeId}{d c:Value}(e:W.heap.size=n)(h:Below (W.alloc (.cells #[d,c] t)).drew.heap.size (W.alloc (.cells #[d,c] t)).drew w1)(a b:Value):
  n<=n/\((w1.setCell ⟨n,0,none⟩ a).setCell ⟨n,1,none⟩ b).heap[n]?=some (.cells #[a,b] t)/\Below n W ((w1.setCell ⟨n,0,none⟩ a).setCell ⟨n,1,none⟩ b):=by
 subst e;have i:=fI h
 have g:w1.heap[W.heap.size]?=some (.cells #[d,c] t):=by rw[i.block W.heap.size (by show W.heap.size<(W.alloc (.cells #[d,c] t)).heap.size;simp)];exact an _ _
 refine⟨b8 _,?_,?_⟩
 ·have e:=dd w1 W.heap.size 0 _ t a g;have f:=dd _ W.heap.size 1 _ t b e;simpa using f
 ·have e:Below W.heap.size W w1:=((aw _ _).alloc (b8 _) _).x (i.m (by show W.heap.size<=(W.alloc (.cells #[d,c] t)).heap.size;simp));exact(e.setCell (b8 _) _).setCell (b8 _) _
theorem ft{w:World}{b:Nat}{u v:Value}{t:TypeId}(h:w.heap[b]?=some (.cells #[u,v] t (0,0))):w.cell? ⟨b,0,none⟩=some u/\w.cell? ⟨b,1,none⟩=some v/\w.frozen? ⟨b,0,none⟩=false/\w.frozen? ⟨b,1,none⟩=false:=by simp[World.cell?,World.frozen?,h]
def N5(l:List (Int×Int))(w:World)(e:Ending)(w':World):Prop:=
 ∃A c,e=.returned (.slice A l.length c)/\w'.ownsRow w.heap.size 80 2 (.slice A l.length c) l.length (l.map mh).flatten/\Below w.heap.size w w'
def ZQ(w:World)(l:List (Int×Int))(k:Nat)(v:Value)(w':World):Prop:=
 w'.ownsRow w.heap.size 80 2 v (((l.take k).foldl bu [])).length ((((l.take k).foldl bu [])).map mh).flatten/\Below w.heap.size w w'
theorem AG(w:World)(F:Nat->Prop)(v:Value)(l:List (Int×Int))(h:mK w F v l)(hl:l.length<=1000)(hfit:ij l):
  Calls prog 52 #[v,.func (.func 53) #[] #[]] w (N5 (cE l) w):=by
 obtain⟨i0,hi,hz0,hz1,hz2⟩:=ef Tryz.Gz;obtain⟨A,c,rfl,hnc,hcm⟩:=h.slice;have H:=al h;clear h;go_enter func52,ntmps52;go_wp2
 go_loopw [5,13] (fun v i wr=> ∃k,k<=l.length/\i=rv (k:Int)/\ZQ w l k v wr) (fun _ i _=>l.length-(intOf i).toNat)
 case atStart=>exact⟨0,dq _,rfl,ea _ _ _ _,aw _ _⟩
 case round=>
  obtain⟨k,hk,rfl,hown,hbl⟩:=hrel;by_cases hlt:k<l.length
  ·obtain⟨x,hx⟩: ∃x,l[k]?=some x:=⟨_,ao hlt⟩;obtain⟨b,o,rfl,hF,c0,c1⟩:=H.o.at_ hx;have hb:b<w.heap.size:=aq w _ c0;have c0':=(hbl.cell (p:=⟨b,o+k*2,none⟩) hb).x c0;have c1':=(hbl.cell (p:=⟨b,o+k*2+1,none⟩) hb).x c1
   have htk:(l.take (k+1)).foldl bu []=bu ((l.take k).foldl bu []) x:=by rw[ir,hx];simp
   have yC:=hfit x (db hx);have hfo:ij ((l.take k).foldl bu []):=AA (fun _ h=>by simp at h) (fun y hy=>hfit y (List.mem_of_mem_take hy))
   have Sj:((l.take k).foldl bu []).length<=k:=by have:=AB (l:=l.take k) (out:=[]);simp at this;omega
   obtain⟨out,hout⟩:=rl ((l.take k).foldl bu []);rw[hout]at htk hfo Sj hown;have HB:=al htk;clear hx c0 c1 hout htk;obtain⟨n,hn⟩:=rl (out.length);rw[hn]at hown Sj;obtain⟨A5,c5,rfl⟩:=ar hown;have hs:=hbl.size;obtain⟨wa,MV⟩:=rl (wr.alloc (sn x.1 x.2));have YP:Below wr.heap.size wr wa:=by rw[<-MV];exact(aw _ _).alloc (b8 _) _
   have hsa:wa.heap.size=wr.heap.size+1:=by rw[<-MV];simp
   have bG:wa.heap[wr.heap.size]?=some (sn x.1 x.2):=by rw[<-MV];exact an _ _
   have ZR:=hbl.x (YP.m hs)
   cases hgl:out.getLast? with
   |none=>
    have:out=[]:=by simpa using hgl
    subst this;simp at hn;subst hn;have hown':=(hown.alloc (sn x.1 x.2)).alloc (sn x.1 x.2);have hnews:=eb (an (wr.alloc (sn x.1 x.2)) (sn x.1 x.2));rw[show(wr.alloc (sn x.1 x.2)).heap.size=wr.heap.size+1 by simp]at hnews;have HOWN:=AM hown' hnews hown;have Sb:=al hbl;have yP:=al hi;clear hown hown' hnews hbl YP hsa bG ZR MV hgl hfo;go_wp2_with (at_builtin;go_loud (refine ep _ rfl _ _ 74 rfl w.heap.size 80 i0 _ 2 16 underlying74 yP.o hz0 hz1 hz2 rfl (by decide) (.slice A5 0 c5) 0 _ rfl HOWN.o.1 ⟨wr.heap.size+1,0,none⟩ 1 1 [rv x.1,rv x.2] rfl rfl HOWN.o.2.1 (by simp[Value.oneCell']) (by decide) (by unfold maxLen;omega) (by omega) (by have:=Sb.o.size;simp;omega) _ rfl ?_);intro g cap w1 hown1 hgrow1 jA pU);go_roundw
    case rel=>
     refine⟨k+1,by omega,by go_num,?_,?_⟩
     ·rw[HB.o];simpa[bu,mh]using hown1
     ·exact((Sb.o.alloc (by omega) _).alloc (by simp;omega) _).grown hgrow1 (by simp;omega) (fun j hj=>(HOWN.o.d.lt j hj).1)
    case measure=>simp[intOf];omega
   |some a=>
    obtain⟨m,hm⟩: ∃m,n=m+1:=⟨out.length-1,by have:out≠[]:=(fun h=>by subst h;simp at hgl);have:=List.length_pos_iff.2 this;omega⟩;subst hm;have hm:=hn;have ham:out[m]?=some a:=by rw[List.getLast?_eq_getElem?,hm]at hgl;simpa using hgl
    have haf:=hfo a (db ham);have JF: ∀j u,(mh a)[j]?=some u->(out.map mh).flatten[m*2+j]?=some u:=jP (lU out) m (mh a) (by simp[ham]);have hn0:out.length*2=m*2+2:=by omega
    obtain⟨g,cap,hv,hg0,ab7⟩:=hown.form (by omega);injection hv with hv1 _ hv3;subst hv1 hv3;have d0:=(hown.cellAt (m*2) (by omega)).x (JF 0 _ rfl);have d1:=(hown.cellAt (m*2+1) (by omega)).x (JF 1 _ rfl);have Ci:g≠wr.heap.size:=by omega
    have UH:=aJ d0 (sn x.1 x.2);have d1':=aJ d1 (sn x.1 x.2);have HO:=By hown hgl haf JF ham hm;have yP:=al hi;have Sb:=al hbl;clear hown hgl haf JF ham hm hi hn0 hbl YP hsa bG ZR MV hn;have hg1:g<wr.heap.size+1:=by omega
    have hg2:g<wr.heap.size+1+1:=by omega
    have Uz:(m:Int)<(m:Int)+1:=by omega
    have f0:=HO.o.1.frozenAt (m*2);have f1:=HO.o.1.frozenAt (m*2+1)
    cases Rc:wO a x with
    |none=>
     have HM:=al Rc;clear Rc;go_upto_region 7 with fail
     go_cut [9,10,13]from 13 to 41 (fun s9 s10 s13 wx=>s13=rv (k:Int)/\ ∃B,s9=r7 B/\s10=.bool false/\wr.heap.size+1<=B/\wx.heap[B]?=some (sn 0 0)/\Below (wr.heap.size+1) (wr.alloc (sn x.1 x.2)) wx)
     case first=>
      go_region_law ((go_simp;go_at_call 53;go_loud (refine(Jz _ a x HO.o.d.1.2 yC.1).m ?_);rintro e w1 ⟨lL,hmm⟩;rw[HM.o]at hmm;simp only at hmm;subst hmm;have N8:=al lL;obtain⟨bc,bf⟩:=Uy lL;clear lL))
      all_goals
       go_wp2
       go_meet
       first
        |exact⟨rfl,_,rfl,rfl,AE (by simp) N8.o _⟩
        |exact⟨rfl,_,rfl,rfl,wT (by simp) N8.o _ _⟩
     case rest=>
      obtain⟨rfl,B,rfl,rfl,BR,dM,hcb⟩:=hcut;have bG:wc.heap[wr.heap.size]?=some (sn x.1 x.2):=by rw[hcb.block _ (by omega)];exact an _ _
      obtain⟨x0,x1,_,_⟩:=ft bG;have qb:=bD (HO.o.1.alloc (sn x.1 x.2)) (w':=wc) (by simpa using hcb);have Lj:Below w.heap.size w wc:=(Sb.o.alloc (by omega) _).x (hcb.m (by omega));have hs2:=Lj.size;have hown':=qb.alloc (sn x.1 x.2);have hnews:=eb (an wc (sn x.1 x.2));have HOWN:=AN hown' hnews qb Lj;clear hown' hnews qb Lj bG hcb dM;go_wp2_with (at_builtin;go_loud (refine ep _ rfl _ _ 74 rfl w.heap.size 80 i0 _ 2 16 underlying74 yP.o hz0 hz1 hz2 rfl (by decide) (.slice (some ⟨g,0,none⟩) (m+1) c5) (m+1) _ rfl HOWN.o.1 ⟨wc.heap.size,0,none⟩ 1 1 [rv x.1,rv x.2] rfl rfl HOWN.o.2.1 (by simp[Value.oneCell']) (by decide) (by unfold maxLen;omega) (by omega) (by simp;omega) _ rfl ?_);intro g2 cap w1 hown1 hgrow1 jA pU);go_roundw
      case rel=>
       refine⟨k+1,by omega,by go_num,?_,?_⟩
       ·have hj:bu out x=out++[x]:=by unfold bu;rw[HO.o.2.1];simp only;rw[HM.o]
        rw[HB.o,hj];have hl2:=HO.o.q.2;simpa[mh,hl2]using hown1
       ·exact(HOWN.o.t.alloc (by omega) _).grown hgrow1 (by simp;omega) (fun j hj=>(HOWN.o.d.1.lt j hj).1)
      case measure=>simp[intOf];omega
    |some y=>
     have HM:=al Rc;clear Rc;go_upto_region 7 with fail
     go_cut [9,10,13]from 13 to 41 (fun s9 s10 s13 wx=>s13=rv (k:Int)/\ ∃B,s9=r7 B/\s10=.bool true/\wr.heap.size+1<=B/\wx.heap[B]?=some (sn y.1 y.2)/\Below (wr.heap.size+1) (wr.alloc (sn x.1 x.2)) wx)
     case first=>
      go_region_law ((go_simp;go_at_call 53;go_loud (refine(Jz _ a x HO.o.d.1.2 yC.1).m ?_);rintro e w1 ⟨lL,hmm⟩;rw[HM.o]at hmm;simp only at hmm;subst hmm;have N8:=al lL;obtain⟨bc,bf⟩:=Uy lL;clear lL))
      all_goals
       go_wp2
       go_meet
       first
        |exact⟨rfl,_,rfl,rfl,AE (by simp) N8.o _⟩
        |exact⟨rfl,_,rfl,rfl,wT (by simp) N8.o _ _⟩
     case rest=>
      obtain⟨rfl,B,rfl,rfl,BR,dM,hcb⟩:=hcut;have bG:wc.heap[wr.heap.size]?=some (sn x.1 x.2):=by rw[hcb.block _ (by omega)];exact an _ _
      obtain⟨x0,x1,_,_⟩:=ft bG;have qb:=bD (HO.o.1.alloc (sn x.1 x.2)) (w':=wc) (by simpa using hcb);have Lj:Below w.heap.size w wc:=(Sb.o.alloc (by omega) _).x (hcb.m (by omega));obtain⟨y0,y1,_,_⟩:=ft dM;have e0:=(qb.cellAt (m*2) (by omega)).x (HO.o.t.1 0 _ rfl);have e1:=(qb.cellAt (m*2+1) (by omega)).x (HO.o.t.1 1 _ rfl);have k0:=qb.frozenAt (m*2);have k1:=qb.frozenAt (m*2+1);have HOWN:=AI qb Lj;clear qb Lj bG hcb dM;go_wp2;go_roundw
      case rel=>
       refine⟨k+1,by omega,by go_num,?_,?_⟩
       ·have hj:bu out x=out.dropLast++[y]:=by unfold bu;rw[HO.o.2.1];simp only;rw[HM.o]
        have hl2:=HO.o.q.2;have hne:out≠[]:=fun h=>by subst h;simp at hl2
        rw[HB.o,hj,<-Si out y hne,hl2];have hl3:(out.dropLast++[y]).length=m+1:=by simp[hl2]
        rw[hl3];exact((HOWN.o.1.stored (m*2) _).1.stored (m*2+1) _).1
       ·exact(HOWN.o.2.setCell hg0 _).setCell hg0 _
      case measure=>simp[intOf];omega
  ·have hkl:k=l.length:=by omega
   subst hkl;go_wp2;go_ret
   rw[gn]at hown;obtain⟨A',c',rfl⟩:=ar hown;exact⟨A',c',rfl,hown,hbl⟩
def eN(s:Int×Int):List (Int×Int)->List (Int×Int)
 |[]=>[s]
 |o::os=>if s.2<o.1 then[s]else
   (if s.1<o.1 then[(s.1,o.1-1)]else[])++(if s.2<=o.2 then[]else eN (o.2+1,s.2) os)
def cL(lo:Int)(os:List (Int×Int)):List (Int×Int):=os.dropWhile fun o=>decide (o.2<lo)
def bU:List (Int×Int)->List (Int×Int)->List (Int×Int)
 |[],_=>[]
 |s::l,os=>eN s (cL s.1 os)++bU l (cL s.1 os)
def lI(l:List (Int×Int))(n:Int):Prop:= ∃x∈l,x.1<=n/\n<=x.2
def sM(l:List (Int×Int)):Prop:= ∀x∈l,x.1<=x.2
def cF(l:List (Int×Int)):Prop:=sM l/\l.Pairwise fun a b=>a.2+1<b.1
theorem dV(n:Int): ¬lI [] n:=by rintro⟨x,a,_⟩;simp at a
theorem bw{x:Int×Int}{l:List (Int×Int)}{n:Int}:lI (x::l) n↔(x.1<=n/\n<=x.2)\/lI l n:=by unfold lI;simp
theorem nt{a b:List (Int×Int)}{n:Int}:lI (a++b) n↔lI a n\/lI b n:=by
 unfold lI;constructor
 ·rintro⟨x,c,h⟩;rcases dr.1 c with c|c
  ·exact .inl ⟨x,c,h⟩
  ·exact .inr ⟨x,c,h⟩
 ·rintro(⟨x,c,h⟩|⟨x,c,h⟩)
  ·exact⟨x,dr.2 (.inl c),h⟩
  ·exact⟨x,dr.2 (.inr c),h⟩
theorem Ec{a b:List (Int×Int)}(h:a.Perm b)(n:Int):lI a n↔lI b n:=
 ⟨fun⟨x,c,d⟩=>⟨x,h.mem_iff.1 c,d⟩,fun⟨x,c,d⟩=>⟨x,h.mem_iff.2 c,d⟩⟩
theorem cF.tail{x:Int×Int}{l:List (Int×Int)}(h:cF (x::l)):cF l:=⟨fun y a=>h.1 y (by simp[a]),(eL.1 h.2).2⟩
theorem cF.head{x:Int×Int}{l:List (Int×Int)}(h:cF (x::l)):x.1<=x.2/\ ∀n,lI l n->x.2+1<n:=by refine⟨h.1 x (by simp),?_⟩;rintro n ⟨y,a,b,_⟩;have:=(eL.1 h.2).1 y a;omega
theorem cF.cons{x:Int×Int}{l:List (Int×Int)}(c:x.1<=x.2)(b:cF l)(h: ∀y∈l,x.2+1<y.1):cF (x::l):=by
 refine⟨fun y a=>?_,eL.2 ⟨h,b.2⟩⟩;rcases eR.1 a with rfl|a
 ·exact c
 ·exact b.1 y a
theorem oH: ∀{a b:List (Int×Int)},cF a->cF b->(∀n,lI a n↔lI b n)->a=b
 |[],[],_,_,_=>rfl
 |[],y::b,_,hb,h=>absurd ((h y.1).2 (bw.2 (.inl ⟨eE _,(hb.head).1⟩))) (dV _)
 |x::a,[],ha,_,h=>absurd ((h x.1).1 (bw.2 (.inl ⟨eE _,(ha.head).1⟩))) (dV _)
 |x::a,y::b,ha,hb,h=>by
  obtain⟨g,d⟩:=ha.head;obtain⟨j,c⟩:=hb.head
  have i:x.1=y.1:=by
   have p:=(h x.1).1 (bw.2 (.inl ⟨eE _,g⟩));have q:=(h y.1).2 (bw.2 (.inl ⟨eE _,j⟩));rcases bw.1 p with p|p<;>rcases bw.1 q with q|q
   ·omega
   ·have:=d _ q;omega
   ·have:=c _ p;omega
   ·have:=d _ q;have:=c _ p;omega
  have e:x.2=y.2:=by
   rcases Int.lt_trichotomy x.2 y.2 with k|f|l
   ·have p:=(h (x.2+1)).2 (bw.2 (.inl ⟨by omega,by omega⟩));rcases bw.1 p with p|p
    ·omega
    ·have:=d _ p;omega
   ·exact f
   ·have p:=(h (y.2+1)).1 (bw.2 (.inl ⟨by omega,by omega⟩));rcases bw.1 p with p|p
    ·omega
    ·have:=c _ p;omega
  have f:x=y:=Prod.ext i e;subst f;rw[oH ha.tail hb.tail (fun n=>?_)];have:=h n;rw[bw,bw]at this;constructor
  ·intro p;have f:=d n p;rcases this.1 (.inr p)with q|q
   ·omega
   ·exact q
  ·intro p;have f:=c n p;rcases this.2 (.inr p)with q|q
   ·omega
   ·exact q
theorem yR{out:List (Int×Int)}{x:Int×Int}(b:cF out)(j:x.1<=x.2)(c: ∀y∈out,y.1<=x.1):
  cF (bu out x)/\(∀n,lI (bu out x) n↔lI out n\/(x.1<=n/\n<=x.2))/\ ∀y∈bu out x,y.1<=x.1:=by
 rcases List.eq_nil_or_concat out with rfl|⟨m,f,rfl⟩
 ·simp only[bu,List.getLast?_nil,fm];refine⟨cF.cons j ⟨fun y a=>by simp at a,ee⟩ (fun y a=>by simp at a),fun n=>?_,fun y a=>by simp at a;subst a;exact eE _⟩;rw[bw];constructor
  ·rintro(h|h)
   ·exact .inr h
   ·exact absurd h (dV n)
  ·rintro(h|h)
   ·exact absurd h (dV n)
   ·exact .inl h
 ·rw[List.concat_eq_append]at b c⊢;have l:=c f (by simp);have q:=b.1 f (by simp);have i: ∀y∈m,y.2+1<f.1:=fun y a=>(List.pairwise_append.1 b.2).2.2 y a f (fl.2 rfl);have o:cF m:=⟨fun y a=>b.1 y (by simp[a]),(List.pairwise_append.1 b.2).1⟩
  have g: ∀{m:List (Int×Int)} {z:Int×Int},cF m->z.1<=z.2->(∀y∈m,y.2+1<z.1)->cF (m++[z]):=by
   intro m z d k p;refine⟨fun y a=>?_,List.pairwise_append.2 ⟨d.2,by simp,fun y a u e=>?_⟩⟩
   ·rcases dr.1 a with a|a
    ·exact d.1 y a
    ·simp at a;subst a;exact k
   ·simp at e;subst e;exact p y a
  unfold bu;simp only[List.getLast?_append,List.getLast?_singleton,Option.some_or,wO];by_cases e:f.2<x.1/\f.2+1<x.1
  ·rw[fi e];simp only;refine⟨g b j ?_,fun n=>?_,?_⟩
   ·intro y a;rcases dr.1 a with a|a
    ·have:=i y a;omega
    ·simp at a;subst a;exact e.2
   ·rw[nt,bw];constructor
    ·rintro(h|h|h)
     ·exact .inl h
     ·exact .inr h
     ·exact absurd h (dV n)
    ·rintro(h|h)
     ·exact .inl h
     ·exact .inr (.inl h)
   ·intro y a;rcases dr.1 a with a|a
    ·exact c y a
    ·simp at a;subst a;exact eE _
  ·rw[ff e];simp only[List.dropLast_concat];refine⟨g o (by simp only;omega) i,fun n=>?_,?_⟩
   ·rw[nt,nt,bw,bw];simp only;have k:=dV n;constructor
    ·rintro(h|h|h)
     ·exact .inl (.inl h)
     ·by_cases d:n<=f.2
      ·exact .inl (.inr (.inl ⟨h.1,d⟩))
      ·exact .inr (by omega)
     ·exact absurd h k
    ·rintro((h|h|h)|h)
     ·exact .inl h
     ·exact .inr (.inl (by omega))
     ·exact absurd h k
     ·exact .inr (.inl (by omega))
   ·intro y a;rcases dr.1 a with a|a
    ·exact c y (by simp[a])
    ·simp at a;subst a;exact l
theorem wU: ∀{s out:List (Int×Int)},cF out->sM s->(s.Pairwise fun a b=>a.1<=b.1)->(∀y∈out,∀x∈s,y.1<=x.1)->
  cF (s.foldl bu out)/\ ∀n,lI (s.foldl bu out) n↔lI out n\/lI s n
 |[],out,ho,_,_,_=>⟨ho,fun n=>⟨.inl,fun h=>h.resolve_right (dV n)⟩⟩
 |x::s,out,ho,hp,hs,hlo=>by
  obtain⟨d,e,i⟩:=yR ho (hp x (by simp)) (fun y a=>hlo y a x (by simp));obtain⟨c,b⟩:=eL.1 hs;obtain⟨j,g⟩:=wU (s:=s) d (fun y a=>hp y (by simp[a])) b (fun y a z f=>Int.le_trans (i y a) (c z f));refine⟨j,fun n=>?_⟩;rw[List.foldl_cons,g,e,bw];constructor
  ·rintro((h|h)|h)
   ·exact .inl h
   ·exact .inr (.inl h)
   ·exact .inr (.inr h)
  ·rintro(h|h|h)
   ·exact .inl (.inl h)
   ·exact .inl (.inr h)
   ·exact .inr h
theorem wV{s:List (Int×Int)}(b:sM s)(e:s.Pairwise fun a c=>a.1<=c.1):cF (cE s)/\ ∀n,lI (cE s) n↔lI s n:=by obtain⟨c,d⟩:=wU (out:=[]) ⟨fun y a=>by simp at a,ee⟩ b e (fun y a=>by simp at a);exact⟨c,fun n=>(d n).x ⟨fun h=>h.resolve_left (dV n),.inr⟩⟩
theorem wW: ∀{os:List (Int×Int)} {s:Int×Int},s.1<=s.2->cF os->(∀o∈os,s.1<=o.2)->
  cF (eN s os)/\(∀n,lI (eN s os) n↔(s.1<=n/\n<=s.2)/\ ¬lI os n)/\ ∀y∈eN s os,s.1<=y.1/\y.2<=s.2
 |[],s,hs,_,_=>by
  refine⟨cF.cons hs ⟨fun y a=>by simp at a,ee⟩ (fun y a=>by simp at a),fun n=>?_,fun y a=>by simp[eN]at a;subst a;exact⟨eE _,eE _⟩⟩;simp only[eN,bw];have d:=dV n;constructor
  ·rintro(h|h)
   ·exact⟨h,d⟩
   ·exact absurd h d
  ·rintro⟨h,_⟩;exact .inl h
 |o::os,s,hs,hos,jd=>by
  obtain⟨r,g⟩:=hos.head;have q:=jd o (by simp);have m: ∀y∈os,o.2+1<y.1:=(eL.1 hos.2).1;unfold eN;by_cases l:s.2<o.1
  ·rw[fi l];refine⟨cF.cons hs ⟨fun y a=>by simp at a,ee⟩ (fun y a=>by simp at a),fun n=>?_,fun y a=>by simp at a;subst a;exact⟨eE _,eE _⟩⟩;rw[bw,bw];have d:=dV n;constructor
   ·rintro(h|h)
    ·refine⟨h,?_⟩;rintro(e|e)
     ·omega
     ·have:=g n e;omega
    ·exact absurd h d
   ·rintro⟨h,_⟩;exact .inl h
  ·rw[ff l];by_cases e:s.2<=o.2
   ·rw[fi e,gr];by_cases f:s.1<o.1
    ·rw[fi f];refine⟨cF.cons (by simp only;omega) ⟨fun y a=>by simp at a,ee⟩ (fun y a=>by simp at a),fun n=>?_,fun y a=>by simp at a;subst a;simp only;omega⟩;rw[bw,bw];have d:=dV n;simp only;constructor
     ·rintro(h|h)
      ·refine⟨by omega,?_⟩;rintro(b|b)
       ·omega
       ·have:=g n b;omega
      ·exact absurd h d
     ·rintro⟨h,b⟩;have: ¬(o.1<=n/\n<=o.2):=fun c=>b (.inl c);exact .inl (by omega)
    ·rw[ff f];refine⟨⟨fun y a=>by simp at a,ee⟩,fun n=>?_,fun y a=>by simp at a⟩;rw[bw];have d:=dV n;constructor
     ·intro h;exact absurd h d
     ·rintro⟨h,b⟩;exact absurd (.inl (by omega)) b
   ·rw[ff e];obtain⟨k,i,d⟩:=wW (os:=os) (s:=(o.2+1,s.2)) (by simp only;omega) hos.tail (fun y a=>by have:=m y a;have:=hos.1 y (by simp[a]);simp only;omega);simp only at i d;by_cases f:s.1<o.1
    ·rw[fi f];refine⟨?_,fun n=>?_,?_⟩
     ·refine cF.cons (by simp only;omega) k (fun y a=>?_);have:=(d y a).1;simp only;omega
     ·rw[List.singleton_append,bw,i,bw];simp only;constructor
      ·rintro(h|⟨h,c⟩)
       ·refine⟨by omega,?_⟩;rintro(b|b)
        ·omega
        ·have:=g n b;omega
       ·refine⟨by omega,?_⟩;rintro(b|b)
        ·omega
        ·exact c b
      ·rintro⟨h,b⟩;have p: ¬(o.1<=n/\n<=o.2):=fun c=>b (.inl c);by_cases t:n<o.1
       ·exact .inl (by omega)
       ·exact .inr ⟨by omega,fun j=>b (.inr j)⟩
     ·intro y a;rcases dr.1 a with a|a
      ·simp at a;subst a;simp only;omega
      ·have:=d y a;omega
    ·rw[ff f,fm];refine⟨k,fun n=>?_,fun y a=>by have:=d y a;omega⟩;rw[i,bw];constructor
     ·rintro⟨h,c⟩;refine⟨by omega,?_⟩;rintro(b|b)
      ·omega
      ·exact c b
     ·rintro⟨h,b⟩;have p: ¬(o.1<=n/\n<=o.2):=fun c=>b (.inl c);exact⟨by omega,fun j=>b (.inr j)⟩
theorem rD: ∀{os:List (Int×Int)} (lo:Int),cF os->cF (cL lo os)/\(∀o∈cL lo os,lo<=o.2)/\ ∀n,lo<=n->(lI (cL lo os) n↔lI os n)
 |[],lo,h=>⟨h,fun o a=>by simp[cL]at a,fun n _=>Iff.rfl⟩
 |o::os,lo,h=>by
  unfold cL;rw[List.dropWhile_cons];by_cases b:o.2<lo
  ·rw[fi (by simpa using b)];obtain⟨c,e,d⟩:=rD lo h.tail;refine⟨c,e,fun n a=>(d n a).x ?_⟩;rw[bw];exact⟨.inr,fun a=>a.resolve_left (by omega)⟩
  ·rw[ff (by simpa using b)];refine⟨h,fun y a=>?_,fun n _=>Iff.rfl⟩;rcases eR.1 a with rfl|a
   ·omega
   ·have:=(eL.1 h.2).1 y a;have:=h.1 y (by simp[a]);have:=h.1 o (by simp);omega
theorem qc: ∀{l os:List (Int×Int)},cF l->cF os->cF (bU l os)/\(∀n,lI (bU l os) n↔lI l n/\ ¬lI os n)/\ ∀y∈bU l os,∃x∈l,x.1<=y.1/\y.2<=x.2
 |[],os,h,_=>⟨h,fun n=>⟨fun h=>absurd h (dV n),fun h=>h.1⟩,fun y a=>by simp[bU]at a⟩
 |s::l,os,h,hos=>by
  obtain⟨u,g⟩:=h.head;obtain⟨o,q,e⟩:=rD s.1 hos;obtain⟨k,t,m⟩:=wW u o q;obtain⟨j,r,i⟩:=qc (l:=l) h.tail o;have p: ∀y∈l,s.2+1<y.1:=(eL.1 h.2).1;unfold bU;refine⟨⟨fun y a=>?_,List.pairwise_append.2 ⟨k.2,j.2,fun y a z c=>?_⟩⟩,fun n=>?_,fun y a=>?_⟩
  ·rcases dr.1 a with a|a
   ·exact k.1 y a
   ·exact j.1 y a
  ·obtain⟨x,f,b,_⟩:=i z c;have:=p x f;have:=m y a;omega
  ·rw[nt,t,r,bw];constructor
   ·rintro(⟨b,d⟩|⟨b,d⟩)
    ·exact⟨.inl b,fun c=>d ((e n b.1).2 c)⟩
    ·have:=g n b;exact⟨.inr b,fun c=>d ((e n (by omega)).2 c)⟩
   ·rintro⟨b|b,d⟩
    ·exact .inl ⟨b,fun c=>d ((e n b.1).1 c)⟩
    ·have:=g n b;exact .inr ⟨b,fun c=>d ((e n (by omega)).1 c)⟩
  ·rcases dr.1 a with a|a
   ·exact⟨s,by simp,m y a⟩
   ·obtain⟨x,f,b⟩:=i y a;exact⟨x,by simp[f],b⟩
theorem cY{α:Type}{l:List α}{k:Nat}{x:α}(h:l[k]?=some x):l.take (k+1)=l.take k++[x]:=by rw[ir,h];rfl
abbrev kU:=Int×List UInt8×Int
def Cl.has(c:Cl)(t:kU):Prop:=c.aL=t.1/\c.key=t.2.1/\c.lo<=t.2.2/\t.2.2<=c.hi
instance (c:Cl) (t:kU):Decidable (c.has t):=by unfold Cl.has;infer_instance
def ej(l:List Cl)(t:kU):Int:=
 if ∃c∈l,c.has t/\c.wr=true then 2 else if ∃c∈l,c.has t then 1 else 0
theorem eH{l:List Cl}{t:kU}:ej l t=2↔ ∃c∈l,c.has t/\c.wr=true:=by
 unfold ej;split
 ·simp_all
 ·split<;>simp_all
theorem bP{l:List Cl}{t:kU}:1<=ej l t↔ ∃d∈l,d.has t:=by
 unfold ej;split
 ·rename_i h;obtain⟨d,b,c,_⟩:=h;exact⟨fun _=>⟨d,b,c⟩,fun _=>by decide⟩
 ·split
  ·rename_i h;exact⟨fun _=>h,fun _=>by decide⟩
  ·rename_i h;exact⟨fun a=>absurd a (by decide),fun a=>absurd a h⟩
theorem fx(l:List Cl)(t:kU):0<=ej l t/\ej l t<=2:=by
 unfold ej;split
 ·omega
 ·split<;>omega
theorem N9{a b:List Cl}{t:kU}(e:(∃c∈a,c.has t/\c.wr=true)-> ∃c∈b,c.has t/\c.wr=true)(d:(∃c∈a,c.has t)-> ∃c∈b,c.has t):ej a t<=ej b t:=by have c:ej a t=2->ej b t=2:=fun h=>eH.2 (e (eH.1 h));have f:1<=ej a t->1<=ej b t:=fun h=>bP.2 (d (bP.1 h));have:=fx a t;have:=fx b t;omega
theorem JG{a b:List Cl}(h: ∀c,c∈a->c∈b)(t:kU):ej a t<=ej b t:=
 N9 (fun⟨c,x,y⟩=>⟨c,h c x,y⟩) (fun⟨c,x,y⟩=>⟨c,h c x,y⟩)
theorem Sk(t:kU):ej [] t=0:=by simp[ej]
theorem kW(a b:List Cl)(t:kU):ej (a++b) t=max (ej a t) (ej b t):=by
 have g:=JG (a:=a) (b:=a++b) (fun d h=>dr.2 (.inl h)) t;have i:=JG (a:=b) (b:=a++b) (fun d h=>dr.2 (.inr h)) t
 have f:ej (a++b) t=2->ej a t=2\/ej b t=2:=by
  intro h;obtain⟨d,c,h⟩:=eH.1 h;rcases dr.1 c with c|c
  ·exact .inl (eH.2 ⟨d,c,h⟩)
  ·exact .inr (eH.2 ⟨d,c,h⟩)
 have e:1<=ej (a++b) t->1<=ej a t\/1<=ej b t:=by
  intro h;obtain⟨d,c,h⟩:=bP.1 h;rcases dr.1 c with c|c
  ·exact .inl (bP.2 ⟨d,c,h⟩)
  ·exact .inr (bP.2 ⟨d,c,h⟩)
 have:=fx a t;have:=fx b t;have:=fx (a++b) t;omega
theorem Ed(a:List Cl)(c:Cl)(t:kU):ej (a++[c]) t=if c.has t then(if c.wr=true then 2 else max (ej a t) 1)else ej a t:=by
 rw[kW];have e:=fx a t
 have d:ej [c] t=if c.has t then(if c.wr=true then 2 else 1)else 0:=by unfold ej;by_cases h:c.has t<;>by_cases b:c.wr=true<;>simp[h,b]
 rw[d];by_cases h:c.has t
 ·by_cases b:c.wr=true
  ·simp only[h,b,if_true];omega
  ·simp only[h,b,if_true];simp
 ·simp only[h,if_false];omega
theorem qd{α:Type}{r:α->α->Prop}(f: ∀a,¬r a a)(i: ∀a b,r a b->r b a->False): ∀{a b:List α},a.Pairwise r->b.Pairwise r->(∀x,x∈a↔x∈b)->a=b
 |[],[],_,_,_=>rfl
 |[],y::b,_,_,h=>absurd ((h y).2 (by simp)) (by simp)
 |x::a,[],_,_,h=>absurd ((h x).1 (by simp)) (by simp)
 |x::a,y::b,ha,hb,h=>by
  have d:=eL.1 ha;have g:=eL.1 hb
  have j:x=y:=by
   rcases eR.1 ((h x).1 (by simp))with e|e
   ·exact e
   ·rcases eR.1 ((h y).2 (by simp))with c|c
    ·exact c.symm
    ·exact(i _ _ (d.1 _ c) (g.1 _ e)).elim
  subst j;congr 1;refine qd f i d.2 g.2 fun z=>?_;constructor
  ·intro c;rcases eR.1 ((h z).1 (by simp[c]))with e|e
   ·subst e;exact absurd (d.1 _ c) (f _)
   ·exact e
  ·intro c;rcases eR.1 ((h z).2 (by simp[c]))with e|e
   ·subst e;exact absurd (g.1 _ c) (f _)
   ·exact e
def yS(x:Bool×List UInt8):Cl:=⟨x.1,-1,x.2,0,0⟩
def uH(W R:Int->List (Int×Int))(i:Int):List Cl:=(W i).map (sL i true)++(R i).map (sL i false)
def fy(ks:List (Bool×List UInt8))(W R:Int->List (Int×Int)):List Cl:=
 ks.map yS++uH W R 0++uH W R 1++uH W R 2++uH W R 3
def JH(l:List Cl):Prop:= ∃ks W R,l=fy ks W R/\(ks.Pairwise fun a b=>a.2<b.2)/\ ∀i:Int,0<=i->i<4->cF (W i)/\cF (R i)/\ ∀n,lI (W i) n-> ¬lI (R i) n
theorem gz{W R:Int->List (Int×Int)}{i:Int}{c:Cl}:c∈uH W R i↔(∃x∈W i,sL i true x=c)\/ ∃x∈R i,sL i false x=c:=by unfold uH;rw[List.mem_append,List.mem_map,List.mem_map]
theorem dh{ks:List (Bool×List UInt8)}{W R:Int->List (Int×Int)}{c:Cl}:c∈fy ks W R↔(∃x∈ks,yS x=c)\/ ∃i:Int,0<=i/\i<4/\c∈uH W R i:=by
 unfold fy;simp only[List.mem_append,List.mem_map];constructor
 ·rintro((((h|h)|h)|h)|h)
  ·exact .inl h
  ·exact .inr ⟨0,by decide,by decide,h⟩
  ·exact .inr ⟨1,by decide,by decide,h⟩
  ·exact .inr ⟨2,by decide,by decide,h⟩
  ·exact .inr ⟨3,by decide,by decide,h⟩
 ·rintro(h|⟨i,a,b,h⟩)
  ·exact .inl (.inl (.inl (.inl h)))
  ·have:i=0\/i=1\/i=2\/i=3:=by omega
   rcases this with rfl|rfl|rfl|rfl
   ·exact .inl (.inl (.inl (.inr h)))
   ·exact .inl (.inl (.inr h))
   ·exact .inl (.inr h)
   ·exact .inr h
theorem ik{x:Bool×List UInt8}{t:kU}:(yS x).has t↔t=(-1,x.2,0):=by
 obtain⟨e,f,n⟩:=t;unfold Cl.has yS;simp only[me];constructor
 ·rintro⟨a,b,c,d⟩;exact⟨a.symm,b.symm,by omega⟩
 ·rintro⟨a,b,c⟩;exact⟨a.symm,b.symm,by omega,by omega⟩
theorem dW{i:Int}{b:Bool}{x:Int×Int}{t:kU}:(sL i b x).has t↔t.1=i/\t.2.1=[]/\x.1<=t.2.2/\t.2.2<=x.2:=by
 unfold Cl.has sL;simp only;constructor
 ·rintro⟨c,d,a⟩;exact⟨c.symm,d.symm,a⟩
 ·rintro⟨c,d,a⟩;exact⟨c.symm,d.symm,a⟩
section
variable{ks:List (Bool×List UInt8)}{W R:Int->List (Int×Int)}
theorem nu{k:List UInt8}:1<=ej (fy ks W R) (-1,k,0)↔ ∃d,(d,k)∈ks:=by
 rw[bP];constructor
 ·rintro⟨g,a,h⟩;rcases dh.1 a with⟨x,b,rfl⟩|⟨i,e,f,c⟩
  ·have:=ik.1 h;simp at this;exact⟨x.1,by rw[this];exact b⟩
  ·rcases gz.1 c with⟨x,_,rfl⟩|⟨x,_,rfl⟩
   ·have:=(dW.1 h).1;simp only at this;omega
   ·have:=(dW.1 h).1;simp only at this;omega
 ·rintro⟨d,a⟩;exact⟨_,dh.2 (.inl ⟨_,a,rfl⟩),ik.2 rfl⟩
theorem nv{k:List UInt8}:ej (fy ks W R) (-1,k,0)=2↔(true,k)∈ks:=by
 rw[eH];constructor
 ·rintro⟨j,b,h,a⟩;rcases dh.1 b with⟨x,i,rfl⟩|⟨l,f,g,c⟩
  ·have:=ik.1 h;simp at this;unfold yS at a;simp only at a;obtain⟨d,e⟩:=x
   simp_all
  ·rcases gz.1 c with⟨x,_,rfl⟩|⟨x,_,rfl⟩
   ·have:=(dW.1 h).1;simp only at this;omega
   ·have:=(dW.1 h).1;simp only at this;omega
 ·rintro a;exact⟨_,dh.2 (.inl ⟨_,a,rfl⟩),ik.2 rfl,rfl⟩
theorem ny{i n:Int}(f:0<=i)(g:i<4):ej (fy ks W R) (i,[],n)=2↔lI (W i) n:=by
 rw[eH];constructor
 ·rintro⟨o,c,j,e⟩;rcases dh.1 c with⟨x,a,rfl⟩|⟨m,k,l,h⟩
  ·have:=ik.1 j;simp at this;omega
  ·rcases gz.1 h with⟨x,a,rfl⟩|⟨x,_,rfl⟩
   ·have b:=dW.1 j;simp only at b;obtain⟨rfl,_,d⟩:=b;exact⟨x,a,d⟩
   ·cases e
 ·rintro⟨x,a,j⟩;exact⟨_,dh.2 (.inr ⟨i,f,g,gz.2 (.inl ⟨x,a,rfl⟩)⟩),dW.2 ⟨rfl,rfl,j⟩,rfl⟩
theorem nz{i n:Int}(d:0<=i)(e:i<4):1<=ej (fy ks W R) (i,[],n)↔lI (W i) n\/lI (R i) n:=by
 rw[bP];constructor
 ·rintro⟨m,f,h⟩;rcases dh.1 f with⟨x,a,rfl⟩|⟨l,j,k,g⟩
  ·have:=ik.1 h;simp at this;omega
  ·rcases gz.1 g with⟨x,a,rfl⟩|⟨x,a,rfl⟩
   ·have b:=dW.1 h;simp only at b;obtain⟨rfl,_,c⟩:=b;exact .inl ⟨x,a,c⟩
   ·have b:=dW.1 h;simp only at b;obtain⟨rfl,_,c⟩:=b;exact .inr ⟨x,a,c⟩
 ·rintro(⟨x,a,h⟩|⟨x,a,h⟩)
  ·exact⟨_,dh.2 (.inr ⟨i,d,e,gz.2 (.inl ⟨x,a,rfl⟩)⟩),dW.2 ⟨rfl,rfl,h⟩⟩
  ·exact⟨_,dh.2 (.inr ⟨i,d,e,gz.2 (.inr ⟨x,a,rfl⟩)⟩),dW.2 ⟨rfl,rfl,h⟩⟩
end
theorem Cj(a:List UInt8): ¬a<a:=List.lt_irrefl a
theorem Sl{a b:List UInt8}(h:a<b)(c:b<a):False:=List.lt_irrefl a (List.lt_trans h c)
theorem Ee{a b:List Cl}(w:JH a)(u:JH b)(p: ∀t,ej a t=ej b t):a=b:=by
 obtain⟨ks,W,R,rfl,f,n⟩:=w;obtain⟨e,h,g,rfl,k,m⟩:=u
 have s: ∀{ks:List (Bool×List UInt8)},(ks.Pairwise fun a b=>a.2<b.2)-> ∀x∈ks,∀y∈ks,x.2=y.2->x=y:=by
  intro ks f x d y q v;by_cases o:x=y
  ·exact o
  ·obtain⟨i,l,rfl⟩:=List.mem_iff_getElem.1 d;obtain⟨r,j,rfl⟩:=List.mem_iff_getElem.1 q;rcases Nat.lt_trichotomy i r with c|c|c
   ·have:=List.pairwise_iff_getElem.1 f i r l j c;rw[v]at this;exact(Cj _ this).elim
   ·subst c;rfl
   ·have:=List.pairwise_iff_getElem.1 f r i j l c;rw[v]at this;exact(Cj _ this).elim
 have q:ks=e:=by
  refine qd (r:=fun a b=>a.2<b.2) (fun a=>Cj a.2) (fun a b=>Sl) f k ?_
  have c: ∀{ks e:List (Bool×List UInt8)} {W R h g:Int->List (Int×Int)},(ks.Pairwise fun a b=>a.2<b.2)->(e.Pairwise fun a b=>a.2<b.2)->(∀t,ej (fy ks W R) t=ej (fy e h g) t)-> ∀x,x∈ks->x∈e:=by
   intro ks e W R h g f k p x d;obtain⟨b,v⟩:=x;have l:=(nu (ks:=ks) (W:=W) (R:=R)).2 ⟨b,d⟩;rw[p]at l;obtain⟨r,j⟩:=nu.1 l
   have o:((true,v)∈ks)↔((true,v)∈e):=by rw[<-nv (ks:=ks) (W:=W) (R:=R),<-nv (ks:=e) (W:=h) (R:=g),p]
   cases b with
   |true=>exact o.1 d
   |false=>
    cases r with
    |false=>exact j
    |true=>have:=s f _ (o.2 j) _ d rfl;cases this
  exact fun x=>⟨c f k p x,c k f (fun t=>(p t).symm) x⟩
 subst q
 have j: ∀i:Int,0<=i->i<4->W i=h i:=fun i c d=>oH (n i c d).1 (m i c d).1 fun r=>by rw[<-ny (ks:=ks) (R:=R) c d,<-ny (ks:=ks) (R:=g) c d,p]
 have l: ∀i:Int,0<=i->i<4->R i=g i:=fun i c d=>oH (n i c d).2.1 (m i c d).2.1 fun r=>by
  have o:=nz (ks:=ks) (W:=W) (R:=R) (n:=r) c d;have t:=nz (ks:=ks) (W:=h) (R:=g) (n:=r) c d;have q:=(n i c d).2.2 r;have v:=(m i c d).2.2 r;rw[p,t,j i c d]at o;rw[j i c d]at q;constructor
  ·intro d;rcases o.2 (.inr d)with c|c
   ·exact absurd d (q c)
   ·exact c
  ·intro d;rcases o.1 (.inr d)with c|c
   ·exact absurd d (v c)
   ·exact c
 unfold fy uH;rw[j 0 (by decide) (by decide),j 1 (by decide) (by decide),j 2 (by decide) (by decide),j 3 (by decide) (by decide),l 0 (by decide) (by decide),l 1 (by decide) (by decide),l 2 (by decide) (by decide),l 3 (by decide) (by decide)]
def Ok(c:Cl):Prop:=D9 c=0
theorem Ok.parts{c:Cl}(h:Ok c):(c.aL= -1/\c.lo=0/\c.hi=0/\1<=c.key.length/\c.key.length<=16)\/(0<=c.aL/\c.aL<4/\c.key=[]/\c.lo<=c.hi):=by
 unfold Ok D9 at h;split at h
 ·cases h
 ·split at h
  ·split at h
   ·cases h
   ·rename_i e d b;refine .inr ⟨d,by omega,?_,?_⟩
    ·exact Classical.byContradiction fun a=>b (.inl a)
    ·exact Int.not_lt.1 fun a=>b (.inr a)
  ·split at h
   ·cases h
   ·unfold dN at h;split at h
    ·cases h
    ·omega
theorem Ok.of{c:Cl}(h:(c.aL= -1/\c.lo=0/\c.hi=0/\1<=c.key.length/\c.key.length<=16)\/(0<=c.aL/\c.aL<4/\c.key=[]/\c.lo<=c.hi)):Ok c:=by
 unfold Ok D9 dN;rcases h with⟨b,e,a,d,f⟩|⟨b,e,a,d⟩
 ·rw[ff (by omega),ff (by omega),ff (by omega),ff (by omega)]
 ·rw[ff (by omega),fi b,ff (by simp[a];omega)]
theorem Ok.proper{c:Cl}(h:Ok c):c.lo<=c.hi:=by rcases h.parts with h|h<;>omega
def cM(l:List Cl)(i:Int)(b:Bool):List (Int×Int):=(l.filter fun c=>c.aL==i&&c.wr==b).map fun c=>(c.lo,c.hi)
theorem lX{l:List Cl}{i:Int}{b:Bool}{x:Int×Int}:x∈cM l i b↔ ∃f∈l,f.aL=i/\f.wr=b/\(f.lo,f.hi)=x:=by
 unfold cM;simp only[List.mem_map,List.mem_filter,mw,beq_iff_eq];constructor
 ·rintro⟨f,⟨d,e,c⟩,a⟩;exact⟨f,d,e,c,a⟩
 ·rintro⟨f,d,e,c,a⟩;exact⟨f,⟨d,e,c⟩,a⟩
theorem oI{l:List Cl}(g: ∀d∈l,Ok d){i n:Int}{b:Bool}(j:0<=i):lI (cM l i b) n↔ ∃d∈l,d.has (i,[],n)/\d.wr=b:=by
 unfold lI;constructor
 ·rintro⟨x,f,h⟩;obtain⟨d,a,c,e,rfl⟩:=lX.1 f;have:=(g d a).parts;refine⟨d,a,⟨c,?_,h⟩,e⟩;rcases this with this|this
  ·omega
  ·exact this.2.2.1
 ·rintro⟨d,a,⟨c,e,f⟩,h⟩;exact⟨_,lX.2 ⟨d,a,c,h,rfl⟩,f⟩
theorem oJ{l:List Cl}(c: ∀e∈l,Ok e)(i:Int)(b:Bool):sM (cM l i b):=by intro x a;obtain⟨e,d,g,f,rfl⟩:=lX.1 a;exact(c e d).proper
theorem Sm{l:List Cl}(e: ∀c∈l,Ok c){ks:List (Bool×List UInt8)}{W R:Int->List (Int×Int)}(w:ks.Pairwise fun f g=>f.2<g.2)
  (u: ∀k,(∃g,(g,k)∈ks)↔1<=ej l (-1,k,0)) (v: ∀k,(true,k)∈ks↔ej l (-1,k,0)=2)
  (s: ∀i:Int,0<=i->i<4->cF (W i)/\ ∀n,lI (W i) n↔lI (cM l i true) n)
  (q: ∀i:Int,0<=i->i<4->cF (R i)/\ ∀n,lI (R i) n↔lI (cM l i false) n/\ ¬lI (W i) n):
  JH (fy ks W R)/\ ∀t,ej (fy ks W R) t=ej l t:=by
 refine⟨⟨ks,W,R,rfl,w,fun i f g=>⟨(s i f g).1,(q i f g).1,fun n h a=>((((q i f g).2 n).1 a).2 h)⟩⟩,?_⟩;rintro⟨i,k,n⟩;have z:=fx (fy ks W R) (i,k,n);have A:=fx l (i,k,n);by_cases b:0<=i/\i<4
 ·obtain⟨f,g⟩:=b;by_cases j:k=[]
  ·subst j;have o:=(ny (ks:=ks) (W:=W) (R:=R) (n:=n) f g);have m:=(nz (ks:=ks) (W:=W) (R:=R) (n:=n) f g);rw[(s i f g).2 n,oI e f,<-eH]at o
   have d:(lI (W i) n\/lI (R i) n)↔1<=ej l (i,[],n):=by
    rw[(q i f g).2 n,(s i f g).2 n,oI e f,oI e f,bP];constructor
    ·rintro(⟨c,x,y,_⟩|⟨⟨c,x,y,_⟩,_⟩)
     ·exact⟨c,x,y⟩
     ·exact⟨c,x,y⟩
    ·rintro⟨c,x,y⟩;cases hw:c.wr
     ·by_cases a: ∃c∈l,c.has (i,[],n)/\c.wr=true
      ·exact .inl a
      ·exact .inr ⟨⟨c,x,y,hw⟩,a⟩
     ·exact .inl ⟨c,x,y,hw⟩
   rw[d]at m;omega
  ·have o: ¬1<=ej (fy ks W R) (i,k,n):=by
    rw[bP];rintro⟨c,a,h⟩;rcases dh.1 a with⟨x,d,rfl⟩|⟨y,_,_,b⟩
    ·have:=ik.1 h;simp at this;omega
    ·rcases gz.1 b with⟨x,d,rfl⟩|⟨x,d,rfl⟩
     ·exact j (dW.1 h).2.1
     ·exact j (dW.1 h).2.1
   have m: ¬1<=ej l (i,k,n):=by
    rw[bP];rintro⟨c,a,r,p,t⟩;simp only at r p;rcases(e c a).parts with h|h
    ·omega
    ·exact j (p.symm.x h.2.2.1)
   omega
 ·by_cases f:i= -1/\n=0
  ·obtain⟨rfl,rfl⟩:=f;have o:=(nu (ks:=ks) (W:=W) (R:=R) (k:=k)).x (u k);have m:=(nv (ks:=ks) (W:=W) (R:=R) (k:=k)).x (v k);omega
  ·have o: ¬1<=ej (fy ks W R) (i,k,n):=by
    rw[bP];rintro⟨c,a,h⟩;rcases dh.1 a with⟨x,d,rfl⟩|⟨y,_,_,b⟩
    ·have:=ik.1 h;simp at this;omega
    ·rcases gz.1 b with⟨x,d,rfl⟩|⟨x,d,rfl⟩
     ·have:=(dW.1 h).1;simp only at this;omega
     ·have:=(dW.1 h).1;simp only at this;omega
   have m: ¬1<=ej l (i,k,n):=by
    rw[bP];rintro⟨c,a,r,p,t,d⟩;simp only at r p t d;rcases(e c a).parts with h|h
    ·omega
    ·omega
   omega
def tU(lo:Int):List (Int×Int)->Bool
 |[]=>false
 |o::_=>decide (o.2<lo)
theorem Ef{lo:Int}{os:List (Int×Int)}(h:tU lo os=false):cL lo os=os:=by
 cases os with
 |nil=>rfl
 |cons o os=>unfold tU at h;unfold cL;rw[List.dropWhile_cons,ff (by simpa using h)]
theorem Eg{lo:Int}{o:Int×Int}{os:List (Int×Int)}(h:tU lo (o::os)=true):cL lo (o::os)=cL lo os:=by unfold tU at h;unfold cL;rw[List.dropWhile_cons,fi h]
def ZT:Value->Nat
 | .slice _ n _=>n
 |_=>0
theorem wX(w:World)(n:Nat):Only (fun _=>False) w (w.drewN n):=(oT (fun _=>False) w).drewN n
theorem mK.tail{w:World}{F:Nat->Prop}{b o n c:Nat}{x:Int×Int}{r:List (Int×Int)}(t:mK w F (.slice (some ⟨b,o,none⟩) n c) (x::r)):
  mK w F (.slice (if c=1 then some ⟨b,o,none⟩else some ⟨b,o+2,none⟩) r.length (c-1)) r:=by
 obtain⟨A,q,p,j,i,k,l,f⟩:=t;injection j with a d e;subst a d e;simp at i;refine⟨_,_,_,rfl,by simp,by omega,by omega,fun e=>?_⟩;obtain⟨m,s,e,h,g⟩:=f (by omega);injection e with e;injection e with a d;subst a d;rw[ff (by omega)];refine⟨b,o+2,rfl,h,fun u y d v z a=>?_⟩;have:=g (u+1) y (by simpa using d) v z a;rw[<-this];congr 2;omega
theorem xe{a c:World}{X Y:Obj}{b:Option Nat}{B:Nat}{o:Obj}(d:a.heap[B]?=some o)(e:((a.alloc X).alloc Y).grownBy c b)(g:b≠some B)(f:b≠some a.heap.size):
  c.heap[B]?=some o/\c.heap[a.heap.size]?=some X:=by
 have h:B<a.heap.size:=(cq.1 d).1;constructor
 ·rw[e.block B (by simp;omega) (fun i=>g i.symm),Below.heap_alloc _ _ _ (by simp;omega),Below.heap_alloc _ _ _ h];exact d
 ·rw[e.block a.heap.size (by simp;omega) (fun i=>f i.symm),Below.heap_alloc _ _ _ (by simp)];exact an _ _
def InR(w:World)(B:Nat)(x:Int×Int)(acc os:List (Int×Int))(j:Nat)(v5:Value)(w':World):Prop:=
 ∃(b:Int) (a:List (Int×Int)),w'.heap[B]?=some (sn b x.2)/\kK b/\
  w'.ownsRow w.heap.size 80 2 v5 a.length (a.map mh).flatten/\(∀g,v5.ownBlock=some g->g≠B)/\a.length<=acc.length+j/\Below w.heap.size w w'/\
  a++eN (b,x.2) (os.drop j)=acc++eN x os
def ZU(w:World)(F:Nat->Prop)(l c:List (Int×Int))(k:Nat)(v1 v5:Value)(w':World):Prop:=
 ∃b a,mK w F v1 b/\ij b/\b.length<=1000/\w'.ownsRow w.heap.size 80 2 v5 a.length (a.map mh).flatten/\a.length<=k*1001/\Below w.heap.size w w'/\a++bU (l.drop k) b=bU l c
theorem rE{w w':World}{F:Nat->Prop}{l b os a acc acc2:List (Int×Int)}{k:Nat}{x:Int×Int}{v1 v5:Value}
  (h:l.drop k=x::l.drop (k+1)) (e:acc++bU (l.drop k) os=bU l b) (p:acc.length<=k*1001) (i:cL x.1 a=cL x.1 os) (f:tU x.1 a=false)
  (g:mK w F v1 a) (n:ij a) (m:a.length<=1000) (d:w'.ownsRow w.heap.size 80 2 v5 acc2.length (acc2.map mh).flatten) (j:Below w.heap.size w w')
  (c:acc2=acc++eN x a) (o:acc2.length<=acc.length+1001):ZU w F l b (k+1) v1 v5 w':=by
 refine⟨a,acc2,g,n,m,d,by omega,j,?_⟩;rw[<-e,h,bU,<-i,Ef f,c,lz]
theorem GK(w:World)(F:Nat->Prop)(v v1:Value)(l others:List (Int×Int))(h:mK w F v l)(h1:mK w F v1 others)(hl:l.length<=1000)(ho:others.length<=1000)(hfit:ij l)(hfo:ij others):
  Calls prog 26 #[v,v1] w (N5 (bU l others) w):=by
 obtain⟨i0,hi,hz0,hz1,hz2⟩:=ef Tryz.Gz;obtain⟨A,c,rfl,hnc,hcm⟩:=h.slice;have H:=al h;have H1:=al h1;clear h h1;go_enter func26,ntmps26;go_wp2
 go_step3
 go_wp2
 go_step3
 go_wp2
 go_loopw [1,5,12] (fun v1 v5 i wr=> ∃k,k<=l.length/\i=rv (k:Int)/\ZU w F l others k v1 v5 wr) (fun _ _ i _=>l.length-(intOf i).toNat)
 case atStart=>exact⟨0,dq _,rfl,others,[],H1.o,hfo,ho,ea _ _ _ _,by simp,aw _ _,by simp⟩
 case round=>
  obtain⟨k,hk,rfl,os,acc,hos,ab8,ab9,hown,hal,hbl,heq⟩:=hrel;by_cases hlt:k<l.length
  ·obtain⟨x,hx⟩: ∃x,l[k]?=some x:=⟨_,ao hlt⟩;obtain⟨b,o,rfl,tR,c0,c1⟩:=H.o.at_ hx;have hb:b<w.heap.size:=aq w _ c0;have c0':=(hbl.cell (p:=⟨b,o+k*2,none⟩) hb).x c0;have c1':=(hbl.cell (p:=⟨b,o+k*2+1,none⟩) hb).x c1;have yC:=hfit x (db hx);have hdr:l.drop k=x::l.drop (k+1):=List.drop_eq_getElem?_toList_append .. |>.trans (by rw[hx];rfl);have HD:=AS hdr heq hown hal hbl;have hs:=hbl.size;clear hx c0 c1 hdr heq hown hal hbl;obtain⟨wo,rfl⟩: ∃wo:World,wo=wr:=⟨_,rfl⟩;go_wp2;obtain⟨wa,MV⟩:=rl (wo.alloc (sn x.1 x.2));obtain⟨B,hB⟩:=rl (wo.heap.size);have YP:Below B wo wa:=by rw[<-MV,<-hB];exact(aw _ _).alloc (b8 _) _
   have hsa:wa.heap.size=B+1:=by rw[<-MV,<-hB];simp
   have bG:wa.heap[B]?=some (sn x.1 x.2):=by rw[<-MV,<-hB];exact an _ _
   have hwB:w.heap.size<=B:=by omega
   rw[MV,hB];have HW:=AM YP hsa bG;have HWO:=AI MV hB;clear MV hB YP hsa bG c0' c1'
   go_loopw [1] (fun v1 w2=> ∃os2,mK w F v1 os2/\ij os2/\os2.length<=1000/\cL x.1 os2=cL x.1 os/\Below wa.heap.size wa w2) (fun v1 _=>ZT v1)
   case atStart=>exact⟨os,hos,ab8,ab9,rfl,aw _ _⟩
   case round=>
    obtain⟨os2,hr2,hf2,hl2,hd2,hb2⟩:=hrel;obtain⟨A1,c1,rfl,hc1,hc2⟩:=hr2.slice
    rename World=>w2
    have HX:=AS hr2 hf2 hl2 hd2 hb2;clear hr2 hf2 hl2 hd2 hb2;have hq: ∃nq:Nat,w2.drewN nq=w2.drewN nq:=⟨0,rfl⟩;clear hq;obtain⟨q0,q1,_,_⟩:=ft (by rw[HX.o.q.block B (by rw[HW.o.2.1];omega)];exact HW.o.d:w2.heap[B]?=some (sn x.1 x.2));go_upto_region 5 with fail
    go_cut [27]from 16 to 29 (fun s27 wx=>s27=.bool (tU x.1 os2)/\Only (fun _=>False) w2 wx)
    case first=>
     cases os2 with
     |nil=>
      go_wp2;go_quiet(fail);go_wp2
      go_meet
      exact⟨rfl,wX _ _⟩
     |cons o2 r2=>
      obtain⟨b1,o1,rfl,Dc,e0,e1⟩:=HX.o.1.at_ (k:=0) rfl;simp only[Nat.zero_mul,mT]at e0 e1;have hb1:=aq w _ e0;have hbb:Below w.heap.size w w2:=HD.o.q.x ((HW.o.1.m hwB).x (HX.o.q.m (by rw[HW.o.2.1];omega)));have Re:=(hbb.cell (p:=⟨b1,o1,none⟩) hb1).x e0;have e1':=(hbb.cell (p:=⟨b1,o1+1,none⟩) hb1).x e1;clear e0 e1 hbb;have hz1:(0:Int)<(r2.length:Int)+1:=by omega
      go_wp2;go_quiet(fail);go_wp2
      go_meet
      exact⟨rfl,wX _ _⟩
    case rest=>
     obtain⟨rfl,yD⟩:=hcut;have hbc:Below wa.heap.size wa wc:=HX.o.q.x (yD.aI HX.o.q.size (fun _ _ h=>h));have HON:=al hbc;clear yD hbc q0 q1
     cases jd:tU x.1 os2 with
     |true=>
      cases os2 with
      |nil=>exact absurd jd (by simp[tU])
      |cons o2 r2=>obtain⟨b1,o1,rfl,Dc,_,_⟩:=HX.o.1.at_ (k:=0) rfl;have HL:=al jd;clear jd;go_wp2;refine⟨⟨r2,HX.o.1.tail,fun y hy=>HX.o.2.1 y (by simp[hy]),by have:=HX.o.d.1;simp at this;omega,by rw[<-HX.o.t.1,Eg HL.o],HON.o⟩,by simp[ZT]⟩
     |false=>
      have HL:=al jd;clear jd;go_wp2
      go_loopw [5,32] (fun v5 i w3=> ∃j,j<=os2.length/\i=rv (j:Int)/\InR w B x acc os2 j v5 w3) (fun _ i _=>os2.length-(intOf i).toNat)
      case atStart=>
       have BR:=HWO.o.2;refine⟨0,dq _,rfl,x.1,acc,?_,yC.1,?_,?_,by omega,?_,rfl⟩
       ·rw[HON.o.block B (by rw[HW.o.2.1];omega)];exact HW.o.d
       ·have h1:=bD HD.o.d.1 (w':=wa) (by rw[BR];exact HW.o.1);exact bD h1 HON.o
       ·intro g hg h;have:=(HD.o.d.1.lt g hg).2;omega
       ·exact HD.o.q.x ((HW.o.1.m hwB).x (HON.o.m (by rw[HW.o.2.1];omega)))
      case round=>
       obtain⟨j,hj,rfl,s1,acc',bG,hs1,hown,hne,hlen,hbl,ZV⟩:=hrel
       rename World=>w3
       have hs:=hbl.size;have hBl:B<w3.heap.size:=(cq.1 bG).1;obtain⟨q0,q1,f0,f1⟩:=ft bG;obtain⟨A5,c5,rfl⟩:=ar hown;have HR:=By bG hown hne hlen hbl ZV;have hl5:acc'.length<=10000000:=by have:=HD.o.t.1;have:=HX.o.d.1;omega
       clear bG hown hne hlen hbl ZV;have hl2:=HX.o.d.1;by_cases hjl:j<os2.length
       ·obtain⟨o2,cN⟩: ∃o2,os2[j]?=some o2:=⟨_,ao hjl⟩;obtain⟨b1,o1,rfl,Dc,e0,e1⟩:=HX.o.1.at_ cN;have hb1:=aq w _ e0;have Re:=(HR.o.q.1.cell (p:=⟨b1,o1+j*2,none⟩) hb1).x e0;have e1':=(HR.o.q.1.cell (p:=⟨b1,o1+j*2+1,none⟩) hb1).x e1;have hof:=HX.o.2.1 o2 (db cN);have ZW:os2.drop j=o2::os2.drop (j+1):=List.drop_eq_getElem?_toList_append .. |>.trans (by rw[cN];rfl);have Ll:=al ZW;clear e0 e1 cN ZW;by_cases g1:x.2<o2.1
        ·have hlast:acc'++[(s1,x.2)]=acc++eN x os2:=by rw[<-HR.o.q.2,Ll.o,eN,fi g1]
         have hown':=(HR.o.2.1.alloc (sn o2.1 o2.2)).alloc (sn s1 (x.2));have hnews:=eb (an (w3.alloc (sn o2.1 o2.2)) (sn s1 (x.2)));rw[show(w3.alloc (sn o2.1 o2.2)).heap.size=w3.heap.size+1 by simp]at hnews;have HOWN:=AM hown' hnews hlast;have yP:=al hi;clear hown' hnews hlast;go_wp2_with (at_builtin;go_loud (refine ep _ rfl _ _ 74 rfl w.heap.size 80 i0 _ 2 16 underlying74 yP.o hz0 hz1 hz2 rfl (by decide) (.slice A5 acc'.length c5) acc'.length _ rfl HOWN.o.1 ⟨w3.heap.size+1,0,none⟩ 1 1 [rv s1,rv (x.2)] rfl rfl HOWN.o.2.1 (by simp[Value.oneCell']) (by decide) (by unfold maxLen;omega) (by omega) (by simp;omega) _ rfl ?_);intro g2_ cap w4 hown1 hgrow1 jA pU);go_roundw
         case rel=>
          refine⟨k+1,by omega,by go_num,rE (acc2:=acc'++[(s1,x.2)]) HD.o.1 HD.o.2.1 HD.o.t.1 HX.o.t.1 HL.o HX.o.1 HX.o.2.1 HX.o.d.1 ?_ ?_ HOWN.o.d ?_⟩
          ·simpa[mh]using hown1
          ·exact((HR.o.q.1.alloc hs _).alloc (by simp;omega) _).grown hgrow1 (by simp;omega) (fun j hj=>(HR.o.2.1.lt j hj).1)
          ·have:=HR.o.t.1;have:=HX.o.d.1;simp;omega
         case measure=>simp[intOf];omega
        ·have adN:=hs1.1;have adO:=hs1.2;have adP:=hof.1.1;have Lm:=hof.1.2;have adQ:=hof.2.1;have adR:=hof.2.2;have adS:=yC.2.1;have adT:=yC.2.2;by_cases g2:s1<o2.1
         ·have hown':=(HR.o.2.1.alloc (sn o2.1 o2.2)).alloc (sn s1 (o2.1-1));have hnews:=eb (an (w3.alloc (sn o2.1 o2.2)) (sn s1 (o2.1-1)));rw[show(w3.alloc (sn o2.1 o2.2)).heap.size=w3.heap.size+1 by simp]at hnews;have ZX:(Value.slice A5 acc'.length c5).ownBlock≠some B:=fun h=>HR.o.d.1 B h rfl;have ZY:(Value.slice A5 acc'.length c5).ownBlock≠some w3.heap.size:=fun h=>by have:=(HR.o.2.1.lt _ h).2;omega
          have HOWN:=AN hown' hnews ZX ZY;have yP:=al hi;clear hown' hnews ZX ZY;by_cases g3:x.2<=o2.2
          ·have hlast:acc'++[(s1,o2.1-1)]=acc++eN x os2:=by rw[<-HR.o.q.2,Ll.o,eN,ff g1,fi g2,fi g3,gr]
           have xf:=al hlast;clear hlast;go_wp2_with (at_builtin;go_loud (refine ep _ rfl _ _ 74 rfl w.heap.size 80 i0 _ 2 16 underlying74 yP.o hz0 hz1 hz2 rfl (by decide) (.slice A5 acc'.length c5) acc'.length _ rfl HOWN.o.1 ⟨w3.heap.size+1,0,none⟩ 1 1 [rv s1,rv (o2.1-1)] rfl rfl HOWN.o.2.1 (by simp[Value.oneCell']) (by decide) (by unfold maxLen;omega) (by omega) (by simp;omega) _ rfl ?_);intro g2_ cap w4 hown1 hgrow1 jA pU;have Ck:=al (xe HR.o.1 hgrow1 HOWN.o.d.1 HOWN.o.t);obtain⟨p0,p1,ZZ,Z0⟩:=ft Ck.o.1;obtain⟨r0,r1,_,_⟩:=ft Ck.o.2);go_roundw
           case rel=>
            refine⟨k+1,by omega,by go_num,rE (acc2:=acc'++[(s1,o2.1-1)]) HD.o.1 HD.o.2.1 HD.o.t.1 HX.o.t.1 HL.o HX.o.1 HX.o.2.1 HX.o.d.1 ?_ ?_ xf.o ?_⟩
            ·simpa[mh]using hown1
            ·exact((HR.o.q.1.alloc hs _).alloc (by simp;omega) _).grown hgrow1 (by simp;omega) (fun j hj=>(HR.o.2.1.lt j hj).1)
            ·have:=HR.o.t.1;have:=HX.o.d.1;simp;omega
           case measure=>simp[intOf];omega
          ·have hlast:(acc'++[(s1,o2.1-1)])++eN (o2.2+1,x.2) (os2.drop (j+1))=acc++eN x os2:=by
            rw[<-HR.o.q.2,Ll.o,eN.eq_2 (s1,x.2),ff g1,fi g2,ff g3,lz]
           have xf:=al hlast;clear hlast;go_wp2_with (at_builtin;go_loud (refine ep _ rfl _ _ 74 rfl w.heap.size 80 i0 _ 2 16 underlying74 yP.o hz0 hz1 hz2 rfl (by decide) (.slice A5 acc'.length c5) acc'.length _ rfl HOWN.o.1 ⟨w3.heap.size+1,0,none⟩ 1 1 [rv s1,rv (o2.1-1)] rfl rfl HOWN.o.2.1 (by simp[Value.oneCell']) (by decide) (by unfold maxLen;omega) (by omega) (by simp;omega) _ rfl ?_);intro g2_ cap w4 hown1 hgrow1 jA pU;have Ck:=al (xe HR.o.1 hgrow1 HOWN.o.d.1 HOWN.o.t);obtain⟨p0,p1,ZZ,Z0⟩:=ft Ck.o.1;obtain⟨r0,r1,_,_⟩:=ft Ck.o.2);go_roundw
           case rel=>
            have Oa:=((HR.o.q.1.alloc hs (sn o2.1 o2.2)).alloc (by simp;omega) (sn s1 (o2.1-1))).grown hgrow1 (by simp;omega) (fun j hj=>(HR.o.2.1.lt j hj).1)
            have UI:g2_≠B:=by
             rcases jA with h|h
             ·intro e;subst e;exact HOWN.o.d.1 h
             ·simp at h;omega
            refine⟨j+1,by omega,by go_num,o2.2+1,acc'++[(s1,o2.1-1)],?_,?_,?_,?_,?_,?_,xf.o⟩
            ·have:=dd _ B 0 _ _ (rv (o2.2+1)) Ck.o.1;simpa using this
            ·unfold kK;omega
            ·have h5:=aQ hown1 (S:=fun k=>k=B) (Only.aR w4 B 0 (rv (o2.2+1))) (fun g hg e=>UI (by simp[Value.ownBlock]at hg;omega));simpa[mh]using h5
            ·intro g hg;simp[Value.ownBlock]at hg;omega
            ·have:=HR.o.t.1;simp;omega
            ·exact Oa.setCell (p:=⟨B,0,none⟩) hwB _
           case measure=>simp[intOf];omega
         ·by_cases g3:x.2<=o2.2
          ·have hlast:acc'=acc++eN x os2:=by rw[<-HR.o.q.2,Ll.o,eN,ff g1,ff g2,fi g3];simp
           have xf:=al hlast;clear hlast;go_wp2;go_roundw
           case rel=>refine⟨k+1,by omega,by go_num,rE (acc2:=acc') HD.o.1 HD.o.2.1 HD.o.t.1 HX.o.t.1 HL.o HX.o.1 HX.o.2.1 HX.o.d.1 (HR.o.2.1.alloc _) (HR.o.q.1.alloc hs _) xf.o ?_⟩;have:=HR.o.t.1;have:=HX.o.d.1;omega
           case measure=>simp[intOf];omega
          ·have hlast:acc'++eN (o2.2+1,x.2) (os2.drop (j+1))=acc++eN x os2:=by
            rw[<-HR.o.q.2,Ll.o,eN.eq_2 (s1,x.2),ff g1,ff g2,ff g3,fm]
           have xf:=al hlast;clear hlast;go_wp2;go_roundw
           case rel=>
            refine⟨j+1,by omega,by go_num,o2.2+1,acc',?_,?_,?_,HR.o.d.1,?_,?_,xf.o⟩
            ·have:=dd _ B 0 _ _ (rv (o2.2+1)) HR.o.1;rw[Below.heap_alloc _ _ _ (by simpa using hBl)];simpa using this
            ·unfold kK;omega
            ·exact(aQ HR.o.2.1 (S:=fun k=>k=B) (Only.aR w3 B 0 (rv (o2.2+1))) (fun g hg e=>HR.o.d.1 g hg e)).alloc _
            ·have:=HR.o.t.1;omega
            ·exact(HR.o.q.1.setCell (p:=⟨B,0,none⟩) hwB _).alloc (by simpa using hs) _
           case measure=>simp[intOf];omega
       ·have hlast:acc'++[(s1,x.2)]=acc++eN x os2:=by rw[<-HR.o.q.2,List.drop_eq_nil_of_le (by omega)];rfl
        have hown':=HR.o.2.1.alloc (sn s1 x.2);have hnews:=eb (an w3 (sn s1 x.2));have HOWN:=AM hown' hnews hlast;have yP:=al hi;clear hown' hnews hlast;go_wp2_with (at_builtin;go_loud (refine ep _ rfl _ _ 74 rfl w.heap.size 80 i0 _ 2 16 underlying74 yP.o hz0 hz1 hz2 rfl (by decide) (.slice A5 acc'.length c5) acc'.length _ rfl HOWN.o.1 ⟨w3.heap.size,0,none⟩ 1 1 [rv s1,rv x.2] rfl rfl HOWN.o.2.1 (by simp[Value.oneCell']) (by decide) (by unfold maxLen;omega) (by omega) (by simp;omega) _ rfl ?_);intro g2 cap w4 hown1 hgrow1 jA pU);go_roundw
        case rel=>
         refine⟨k+1,by omega,by go_num,rE (acc2:=acc'++[(s1,x.2)]) HD.o.1 HD.o.2.1 HD.o.t.1 HX.o.t.1 HL.o HX.o.1 HX.o.2.1 HX.o.d.1 ?_ ?_ HOWN.o.d ?_⟩
         ·simpa[mh]using hown1
         ·exact(HR.o.q.1.alloc hs _).grown hgrow1 (by simp;omega) (fun j hj=>(HR.o.2.1.lt j hj).1)
         ·have:=HR.o.t.1;have:=HX.o.d.1;simp;omega
        case measure=>simp[intOf];omega
  ·have hkl:k=l.length:=by omega
   subst hkl;go_wp2
   try rw[fs]
   go_ret
   rw[List.drop_length,bU,gr]at heq;obtain⟨A',c',rfl⟩:=ar hown;exact heq▸⟨A',c',rfl,hown,hbl⟩
def GL(n:Int):Int:=if n<2\/16<n then 23 else 0
def GM(most n:Int):Int:=if most<1\/1024<most then 23 else GL n
def dY(f:Int):Int:=if f<0\/10000<f then 10 else 0
def qF(most n f:Int):Int:=if dY f=0 then GM most n else dY f
theorem AH(w:World)(f:Int):Calls prog 33 #[rv f] w fun e a=>e=.returned (rv (dY f))/\a=w:=by
 by_cases a:f<0
 ·have H:=al (show dY f=10 by unfold dY;rw[fi (.inl a)]);go_enter func33,ntmps33;go_wp2_with fail;go_ret
  exact⟨by rw[H.o];rfl,rfl⟩
 by_cases b:10000<f
 ·have H:=al (show dY f=10 by unfold dY;rw[fi (.inr b)]);go_enter func33,ntmps33;go_wp2_with fail;go_ret
  exact⟨by rw[H.o];rfl,rfl⟩
 ·have H:=al (show dY f=0 by unfold dY;rw[ff (by omega)]);go_enter func33,ntmps33;go_wp2_with fail;go_ret
  exact⟨by rw[H.o];rfl,rfl⟩
def Cm(most n f:Int):Value:=.agg #[rv most,rv n,rv f]
end Go.Proofs.YtehccbdajiiaaaaGreatDoor
