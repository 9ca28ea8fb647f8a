import Derived.Test.YtehccbdajiiaaaaGreatDoorS08
import Derived.Laws.OwnMore
import Derived.Deep.RegionLaw
import Derived.Deep.DeepCutAuto
namespace Go.Proofs.YtehccbdajiiaaaaGreatDoor
open Go.Proofs.Tryz
set_option maxRecDepth 100000
set_option maxHeartbeats 16000000
open Go.RowKit
def bu(out:List (Int×Int))(x:Int×Int):List (Int×Int):=
 match out.getLast? with
 |none=>out++[x]
 |some a=>match xC a x with
  |none=>out++[x]
  |some y=>out.dropLast++[y]
def cI(l:List (Int×Int)):List (Int×Int):=l.foldl bu []
def iA(l:List (Int×Int)):Prop:= ∀x∈l,lq x.1/\lq x.2
theorem L9{a b y:Int×Int}(h:xC a b=some y)(c:lq a.1/\lq a.2)(d:lq b.1/\lq b.2):lq y.1/\lq y.2:=by
 unfold xC at h;split at h
 ·cases h
 ·injection h with h;subst h;refine⟨c.1,?_⟩;unfold lq at *;simp only;omega
theorem CM{out:List (Int×Int)}{x:Int×Int}(b:iA out)(c:lq x.1/\lq x.2):iA (bu out x):=by
 unfold bu;split
 ·intro y a;rcases dr.1 a with h|h
  ·exact b y h
  ·simp at h;subst h;exact c
 ·rename_i g e;have d:g∈out:=List.mem_of_getLast? e;split
  ·intro y a;rcases dr.1 a with h|h
   ·exact b y h
   ·simp at h;subst h;exact c
  ·rename_i y a;intro z f;rcases dr.1 f with h|h
   ·exact b z (List.dropLast_subset _ h)
   ·simp at h;subst h;exact L9 a (b g d) c
theorem CN(out:List (Int×Int))(x:Int×Int):(bu out x).length<=out.length+1:=by
 unfold bu;split
 ·simp
 ·split
  ·simp
  ·simp
theorem Bl{l:List (Int×Int)}: ∀{a},iA a->iA l->iA (l.foldl bu a):=by
 induction l with
 |nil=>intro a h _;exact h
 |cons x l c=>intro a d b;exact c (CM d (b x (by simp))) (fun y c=>b y (by simp[c]))
theorem Bn{l:List (Int×Int)}: ∀{out:List (Int×Int)},(l.foldl bu out).length<=out.length+l.length:=by
 induction l with
 |nil=>intro out;simp
 |cons x l a=>intro out;have:=a (out:=bu out x);have:=CN out x;simp;omega
theorem TC(l:List (Int×Int))(y:Int×Int)(a:l≠[]):
  (((l.map mC).flatten.set ((l.length-1)*2) (rm y.1)).set ((l.length-1)*2+1) (rm y.2))=((l.dropLast++[y]).map mC).flatten:=by
 obtain⟨m,z,rfl⟩: ∃m z,l=m++[z]:=⟨l.dropLast,l.getLast a,(List.dropLast_concat_getLast a).symm⟩;have b:(m.map mC).flatten.length=m.length*2:=by rw[rR (l9 m)];simp
 simp only[gR,la,gr,List.length_singleton,ox,List.dropLast_concat];rw[List.set_append_right _ _ (by omega),List.set_append_right _ _ (by omega),b];simp[mC]
theorem Bo{W w1:World}{n:Nat}(a:W.heap.size=n)(b:Below W.drew.heap.size W.drew w1)(Y:Obj):n<=w1.heap.size/\(w1.alloc Y).heap[w1.heap.size]?=some Y/\Below n W (w1.alloc Y):=by subst a;have h:=dV b;have a:W.heap.size<=w1.heap.size:=h.size;exact⟨a,an _ _,h.alloc a _⟩
theorem xK{W w1:World}{n:Nat}{t:TypeId}{c d:Value}(e:W.heap.size=n)(g:Below (W.alloc (.cells #[c,d] t)).drew.heap.size (W.alloc (.cells #[c,d] t)).drew w1)(a b:Value):
  n<=n/\((w1.setCell ⟨n,0,none⟩ a).setCell ⟨n,1,none⟩ b).heap[n]?=some (.cells #[a,b] t)/\Below n W ((w1.setCell ⟨n,0,none⟩ a).setCell ⟨n,1,none⟩ b):=by
 subst e;have i:=dV g
 have h:w1.heap[W.heap.size]?=some (.cells #[c,d] t):=by rw[i.block W.heap.size (by show W.heap.size<(W.alloc (.cells #[c,d] t)).heap.size;simp)];exact an _ _
 refine⟨b8 _,?_,?_⟩
 ·have e:=dp w1 W.heap.size 0 _ t a h;have f:=dp _ W.heap.size 1 _ t b e;simpa using f
 ·have e:Below W.heap.size W w1:=((bd _ _).alloc (b8 _) _).x (i.m (by show W.heap.size<=(W.alloc (.cells #[c,d] t)).heap.size;simp));exact(e.setCell (b8 _) _).setCell (b8 _) _
theorem fE{w:World}{b:Nat}{u v:Value}{t:TypeId}(h:w.heap[b]?=some (.cells #[u,v] t (0,0))):w.cell? ⟨b,0,none⟩=some u/\w.cell? ⟨b,1,none⟩=some v/\w.frozen? ⟨b,0,none⟩=false/\w.frozen? ⟨b,1,none⟩=false:=by simp[World.cell?,World.frozen?,h]
def Pd(l:List (Int×Int))(w:World)(e:Ending)(w':World):Prop:=
 ∃A c,e=.returned (.slice A l.length c)/\w'.ownsRow w.heap.size 80 2 (.slice A l.length c) l.length (l.map mC).flatten/\Below w.heap.size w w'
def aau(w:World)(l:List (Int×Int))(k:Nat)(v:Value)(w':World):Prop:=
 w'.ownsRow w.heap.size 80 2 v (((l.take k).foldl bu [])).length ((((l.take k).foldl bu [])).map mC).flatten/\Below w.heap.size w w'
theorem Bp(w:World)(F:Nat->Prop)(v:Value)(l:List (Int×Int))(h:mQ w F v l)(hl:l.length<=1000)(hfit:iA l):
  Calls prog 52 #[v,.func (.func 53) #[] #[]] w (Pd (cI l) w):=by
 obtain⟨i0,hi,hz0,hz1,hz2⟩:=eh Tryz.Hy;obtain⟨A,c,rfl,hnc,hcm⟩:=h.slice;have H:=al h;clear h;go_enter func52,ntmps52;go_wp2
 go_loopw [5,13] (fun v i wr=> ∃k,k<=l.length/\i=rm (k:Int)/\aau w l k v wr) (fun _ i _=>l.length-(intOf i).toNat)
 case atStart=>exact⟨0,dq _,rfl,dy _ _ _ _,bd _ _⟩
 case round=>
  obtain⟨k,hk,rfl,hown,hbl⟩:=hrel;by_cases hlt:k<l.length
  ·obtain⟨x,hx⟩: ∃x,l[k]?=some x:=⟨_,ao hlt⟩;obtain⟨b,o,rfl,hF,c0,c1⟩:=H.o.at_ hx;have hb:b<w.heap.size:=aq w _ c0;have c0':=(hbl.cell (p:=⟨b,o+k*2,none⟩) hb).x c0;have c1':=(hbl.cell (p:=⟨b,o+k*2+1,none⟩) hb).x c1
   have htk:(l.take (k+1)).foldl bu []=bu ((l.take k).foldl bu []) x:=by rw[gO,hx];simp
   have zy:=hfit x (db hx);have hfo:iA ((l.take k).foldl bu []):=Bl (fun _ h=>by simp at h) (fun y hy=>hfit y (List.mem_of_mem_take hy))
   have Ma:((l.take k).foldl bu []).length<=k:=by have:=Bn (l:=l.take k) (out:=[]);simp at this;omega
   obtain⟨out,hout⟩:=rk ((l.take k).foldl bu []);rw[hout]at htk hfo Ma hown;have HB:=al htk;clear hx c0 c1 hout htk;obtain⟨n,hn⟩:=rk (out.length);rw[hn]at hown Ma;obtain⟨A5,c5,rfl⟩:=ai hown;have hs:=hbl.size;obtain⟨wa,NZ⟩:=rk (wr.alloc (sg x.1 x.2));have ZT:Below wr.heap.size wr wa:=by rw[<-NZ];exact(bd _ _).alloc (b8 _) _
   have hsa:wa.heap.size=wr.heap.size+1:=by rw[<-NZ];simp
   have bQ:wa.heap[wr.heap.size]?=some (sg x.1 x.2):=by rw[<-NZ];exact an _ _
   have aav:=hbl.x (ZT.m hs)
   cases hgl:out.getLast? with
   |none=>
    have:out=[]:=by simpa using hgl
    subst this;simp at hn;subst hn;have hown':=(hown.alloc (sg x.1 x.2)).alloc (sg x.1 x.2);have hnews:=eb (an (wr.alloc (sg x.1 x.2)) (sg x.1 x.2));rw[show(wr.alloc (sg x.1 x.2)).heap.size=wr.heap.size+1 by simp]at hnews;have HOWN:=AF hown' hnews hown;have Tt:=al hbl;have zN:=al hi;clear hown hown' hnews hbl ZT hsa bQ aav NZ hgl hfo;go_wp2_with (at_builtin;go_loud (refine et _ rfl _ _ 74 rfl w.heap.size 80 i0 _ 2 16 underlying74 zN.o hz0 hz1 hz2 rfl (by decide) (.slice A5 0 c5) 0 _ rfl HOWN.o.1 ⟨wr.heap.size+1,0,none⟩ 1 1 [rm x.1,rm x.2] rfl rfl HOWN.o.2.1 (by simp[Value.oneCell']) (by decide) (by unfold maxLen;omega) (by omega) (by have:=Tt.o.size;simp;omega) _ rfl ?_);intro g cap w1 hown1 hgrow1 jH qh);go_roundw
    case rel=>
     refine⟨k+1,by omega,by go_num,?_,?_⟩
     ·rw[HB.o];simpa[bu,mC]using hown1
     ·exact((Tt.o.alloc (by omega) _).alloc (by simp;omega) _).grown hgrow1 (by simp;omega) (fun j hj=>(HOWN.o.d.lt j hj).1)
    case measure=>simp[intOf];omega
   |some a=>
    obtain⟨m,hm⟩: ∃m,n=m+1:=⟨out.length-1,by have:out≠[]:=(fun h=>by subst h;simp at hgl);have:=List.length_pos_iff.2 this;omega⟩;subst hm;have hm:=hn;have ham:out[m]?=some a:=by rw[List.getLast?_eq_getElem?,hm]at hgl;simpa using hgl
    have haf:=hfo a (db ham);have Kq: ∀j u,(mC a)[j]?=some u->(out.map mC).flatten[m*2+j]?=some u:=jX (l9 out) m (mC a) (by simp[ham]);have hn0:out.length*2=m*2+2:=by omega
    obtain⟨g,cap,hv,hg0,acu⟩:=hown.form (by omega);injection hv with hv1 _ hv3;subst hv1 hv3;have d0:=(hown.cellAt (m*2) (by omega)).x (Kq 0 _ rfl);have d1:=(hown.cellAt (m*2+1) (by omega)).x (Kq 1 _ rfl);have CO:g≠wr.heap.size:=by omega
    have d0':=aI d0 (sg x.1 x.2);have d1':=aI d1 (sg x.1 x.2);have HO:=AN hown hgl haf Kq ham hm;have zN:=al hi;have Tt:=al hbl;clear hown hgl haf Kq ham hm hi hn0 hbl ZT hsa bQ aav NZ hn;have hg1:g<wr.heap.size+1:=by omega
    have hg2:g<wr.heap.size+1+1:=by omega
    have VF:(m:Int)<(m:Int)+1:=by omega
    have f0:=HO.o.1.frozenAt (m*2);have f1:=HO.o.1.frozenAt (m*2+1)
    cases Sv:xC a x with
    |none=>
     have HM:=al Sv;clear Sv;go_upto_region 7 with fail
     go_cut [9,10,13]from 13 to 41 (fun s9 s10 s13 wx=>s13=rm (k:Int)/\ ∃B,s9=rv B/\s10=.bool false/\wr.heap.size+1<=B/\wx.heap[B]?=some (sg 0 0)/\Below (wr.heap.size+1) (wr.alloc (sg x.1 x.2)) wx)
     case first=>
      go_region_law ((go_simp;go_at_call 53;go_loud (refine(Kj _ a x HO.o.d.1.2 zy.1).m ?_);rintro e w1 ⟨lY,hmm⟩;rw[HM.o]at hmm;simp only at hmm;subst hmm;have Pe:=al lY;obtain⟨bc,bf⟩:=VE lY;clear lY))
      all_goals
       go_wp2
       go_meet
       first
        |exact⟨rfl,_,rfl,rfl,Bo (by simp) Pe.o _⟩
        |exact⟨rfl,_,rfl,rfl,xK (by simp) Pe.o _ _⟩
     case rest=>
      obtain⟨rfl,B,rfl,rfl,Hg,dW,hcb⟩:=hcut;have bQ:wc.heap[wr.heap.size]?=some (sg x.1 x.2):=by rw[hcb.block _ (by omega)];exact an _ _
      obtain⟨x0,x1,_,_⟩:=fE bQ;have qy:=bE (HO.o.1.alloc (sg x.1 x.2)) (w':=wc) (by simpa using hcb);have Mb:Below w.heap.size w wc:=(Tt.o.alloc (by omega) _).x (hcb.m (by omega));have hs2:=Mb.size;have hown':=qy.alloc (sg x.1 x.2);have hnews:=eb (an wc (sg x.1 x.2));have HOWN:=AI hown' hnews qy Mb;clear hown' hnews qy Mb bQ hcb dW;go_wp2_with (at_builtin;go_loud (refine et _ rfl _ _ 74 rfl w.heap.size 80 i0 _ 2 16 underlying74 zN.o hz0 hz1 hz2 rfl (by decide) (.slice (some ⟨g,0,none⟩) (m+1) c5) (m+1) _ rfl HOWN.o.1 ⟨wc.heap.size,0,none⟩ 1 1 [rm x.1,rm x.2] rfl rfl HOWN.o.2.1 (by simp[Value.oneCell']) (by decide) (by unfold maxLen;omega) (by omega) (by simp;omega) _ rfl ?_);intro g2 cap w1 hown1 hgrow1 jH qh);go_roundw
      case rel=>
       refine⟨k+1,by omega,by go_num,?_,?_⟩
       ·have hj:bu out x=out++[x]:=by unfold bu;rw[HO.o.2.1];simp only;rw[HM.o]
        rw[HB.o,hj];have hl2:=HO.o.q.2;simpa[mC,hl2]using hown1
       ·exact(HOWN.o.t.alloc (by omega) _).grown hgrow1 (by simp;omega) (fun j hj=>(HOWN.o.d.1.lt j hj).1)
      case measure=>simp[intOf];omega
    |some y=>
     have HM:=al Sv;clear Sv;go_upto_region 7 with fail
     go_cut [9,10,13]from 13 to 41 (fun s9 s10 s13 wx=>s13=rm (k:Int)/\ ∃B,s9=rv B/\s10=.bool true/\wr.heap.size+1<=B/\wx.heap[B]?=some (sg y.1 y.2)/\Below (wr.heap.size+1) (wr.alloc (sg x.1 x.2)) wx)
     case first=>
      go_region_law ((go_simp;go_at_call 53;go_loud (refine(Kj _ a x HO.o.d.1.2 zy.1).m ?_);rintro e w1 ⟨lY,hmm⟩;rw[HM.o]at hmm;simp only at hmm;subst hmm;have Pe:=al lY;obtain⟨bc,bf⟩:=VE lY;clear lY))
      all_goals
       go_wp2
       go_meet
       first
        |exact⟨rfl,_,rfl,rfl,Bo (by simp) Pe.o _⟩
        |exact⟨rfl,_,rfl,rfl,xK (by simp) Pe.o _ _⟩
     case rest=>
      obtain⟨rfl,B,rfl,rfl,Hg,dW,hcb⟩:=hcut;have bQ:wc.heap[wr.heap.size]?=some (sg x.1 x.2):=by rw[hcb.block _ (by omega)];exact an _ _
      obtain⟨x0,x1,_,_⟩:=fE bQ;have qy:=bE (HO.o.1.alloc (sg x.1 x.2)) (w':=wc) (by simpa using hcb);have Mb:Below w.heap.size w wc:=(Tt.o.alloc (by omega) _).x (hcb.m (by omega));obtain⟨y0,y1,_,_⟩:=fE dW;have e0:=(qy.cellAt (m*2) (by omega)).x (HO.o.t.1 0 _ rfl);have e1:=(qy.cellAt (m*2+1) (by omega)).x (HO.o.t.1 1 _ rfl);have k0:=qy.frozenAt (m*2);have k1:=qy.frozenAt (m*2+1);have HOWN:=AD qy Mb;clear qy Mb bQ hcb dW;go_wp2;go_roundw
      case rel=>
       refine⟨k+1,by omega,by go_num,?_,?_⟩
       ·have hj:bu out x=out.dropLast++[y]:=by unfold bu;rw[HO.o.2.1];simp only;rw[HM.o]
        have hl2:=HO.o.q.2;have hne:out≠[]:=fun h=>by subst h;simp at hl2
        rw[HB.o,hj,<-TC out y hne,hl2];have hl3:(out.dropLast++[y]).length=m+1:=by simp[hl2]
        rw[hl3];exact((HOWN.o.1.stored (m*2) _).1.stored (m*2+1) _).1
       ·exact(HOWN.o.2.setCell hg0 _).setCell hg0 _
      case measure=>simp[intOf];omega
  ·have hkl:k=l.length:=by omega
   subst hkl;go_wp2;go_ret
   rw[gE]at hown;obtain⟨A',c',rfl⟩:=ai hown;exact⟨A',c',rfl,hown,hbl⟩
def eV(s:Int×Int):List (Int×Int)->List (Int×Int)
 |[]=>[s]
 |o::os=>if s.2<o.1 then[s]else
   (if s.1<o.1 then[(s.1,o.1-1)]else[])++(if s.2<=o.2 then[]else eV (o.2+1,s.2) os)
def cQ(lo:Int)(os:List (Int×Int)):List (Int×Int):=os.dropWhile fun o=>decide (o.2<lo)
def bW:List (Int×Int)->List (Int×Int)->List (Int×Int)
 |[],_=>[]
 |s::l,os=>eV s (cQ s.1 os)++bW l (cQ s.1 os)
def lU(l:List (Int×Int))(n:Int):Prop:= ∃x∈l,x.1<=n/\n<=x.2
def tM(l:List (Int×Int)):Prop:= ∀x∈l,x.1<=x.2
def cJ(l:List (Int×Int)):Prop:=tM l/\l.Pairwise fun a b=>a.2+1<b.1
theorem eD(n:Int): ¬lU [] n:=by rintro⟨x,a,_⟩;simp at a
theorem bw{x:Int×Int}{l:List (Int×Int)}{n:Int}:lU (x::l) n↔(x.1<=n/\n<=x.2)\/lU l n:=by unfold lU;simp
theorem nE{a b:List (Int×Int)}{n:Int}:lU (a++b) n↔lU a n\/lU b n:=by
 unfold lU;constructor
 ·rintro⟨x,c,h⟩;rcases dr.1 c with c|c
  ·exact .inl ⟨x,c,h⟩
  ·exact .inr ⟨x,c,h⟩
 ·rintro(⟨x,c,h⟩|⟨x,c,h⟩)
  ·exact⟨x,dr.2 (.inl c),h⟩
  ·exact⟨x,dr.2 (.inr c),h⟩
theorem ER{a b:List (Int×Int)}(h:a.Perm b)(n:Int):lU a n↔lU b n:=
 ⟨fun⟨x,c,d⟩=>⟨x,h.mem_iff.1 c,d⟩,fun⟨x,c,d⟩=>⟨x,h.mem_iff.2 c,d⟩⟩
theorem cJ.tail{x:Int×Int}{l:List (Int×Int)}(h:cJ (x::l)):cJ l:=⟨fun y a=>h.1 y (by simp[a]),(eM.1 h.2).2⟩
theorem cJ.head{x:Int×Int}{l:List (Int×Int)}(h:cJ (x::l)):x.1<=x.2/\ ∀n,lU l n->x.2+1<n:=by refine⟨h.1 x (by simp),?_⟩;rintro n ⟨y,a,b,_⟩;have:=(eM.1 h.2).1 y a;omega
theorem cJ.cons{x:Int×Int}{l:List (Int×Int)}(c:x.1<=x.2)(b:cJ l)(h: ∀y∈l,x.2+1<y.1):cJ (x::l):=by
 refine⟨fun y a=>?_,eM.2 ⟨h,b.2⟩⟩;rcases eS.1 a with rfl|a
 ·exact c
 ·exact b.1 y a
theorem pd: ∀{a b:List (Int×Int)},cJ a->cJ b->(∀n,lU a n↔lU b n)->a=b
 |[],[],_,_,_=>rfl
 |[],y::b,_,hb,h=>absurd ((h y.1).2 (bw.2 (.inl ⟨eL _,(hb.head).1⟩))) (eD _)
 |x::a,[],ha,_,h=>absurd ((h x.1).1 (bw.2 (.inl ⟨eL _,(ha.head).1⟩))) (eD _)
 |x::a,y::b,ha,hb,h=>by
  obtain⟨e,d⟩:=ha.head;obtain⟨g,c⟩:=hb.head
  have i:x.1=y.1:=by
   have p:=(h x.1).1 (bw.2 (.inl ⟨eL _,e⟩));have q:=(h y.1).2 (bw.2 (.inl ⟨eL _,g⟩));rcases bw.1 p with p|p<;>rcases bw.1 q with q|q
   ·omega
   ·have:=d _ q;omega
   ·have:=c _ p;omega
   ·have:=d _ q;have:=c _ p;omega
  have f:x.2=y.2:=by
   rcases Int.lt_trichotomy x.2 y.2 with k|j|l
   ·have p:=(h (x.2+1)).2 (bw.2 (.inl ⟨by omega,by omega⟩));rcases bw.1 p with p|p
    ·omega
    ·have:=d _ p;omega
   ·exact j
   ·have p:=(h (y.2+1)).1 (bw.2 (.inl ⟨by omega,by omega⟩));rcases bw.1 p with p|p
    ·omega
    ·have:=c _ p;omega
  have j:x=y:=Prod.ext i f;subst j;rw[pd ha.tail hb.tail (fun n=>?_)];have:=h n;rw[bw,bw]at this;constructor
  ·intro p;have j:=d n p;rcases this.1 (.inr p)with q|q
   ·omega
   ·exact q
  ·intro p;have j:=c n p;rcases this.2 (.inr p)with q|q
   ·omega
   ·exact q
theorem zR{out:List (Int×Int)}{x:Int×Int}(b:cJ out)(k:x.1<=x.2)(c: ∀y∈out,y.1<=x.1):
  cJ (bu out x)/\(∀n,lU (bu out x) n↔lU out n\/(x.1<=n/\n<=x.2))/\ ∀y∈bu out x,y.1<=x.1:=by
 rcases List.eq_nil_or_concat out with rfl|⟨m,f,rfl⟩
 ·simp only[bu,List.getLast?_nil,fj];refine⟨cJ.cons k ⟨fun y a=>by simp at a,ee⟩ (fun y a=>by simp at a),fun n=>?_,fun y a=>by simp at a;subst a;exact eL _⟩;rw[bw];constructor
  ·rintro(h|h)
   ·exact .inr h
   ·exact absurd h (eD n)
  ·rintro(h|h)
   ·exact absurd h (eD n)
   ·exact .inl h
 ·rw[List.concat_eq_append]at b c⊢;have o:=c f (by simp);have q:=b.1 f (by simp);have i: ∀y∈m,y.2+1<f.1:=fun y a=>(List.pairwise_append.1 b.2).2.2 y a f (gk.2 rfl);have l:cJ m:=⟨fun y a=>b.1 y (by simp[a]),(List.pairwise_append.1 b.2).1⟩
  have g: ∀{m:List (Int×Int)} {z:Int×Int},cJ m->z.1<=z.2->(∀y∈m,y.2+1<z.1)->cJ (m++[z]):=by
   intro m z d j p;refine⟨fun y a=>?_,List.pairwise_append.2 ⟨d.2,by simp,fun y a u e=>?_⟩⟩
   ·rcases dr.1 a with a|a
    ·exact d.1 y a
    ·simp at a;subst a;exact j
   ·simp at e;subst e;exact p y a
  unfold bu;simp only[List.getLast?_append,List.getLast?_singleton,Option.some_or,xC];by_cases e:f.2<x.1/\f.2+1<x.1
  ·rw[ff e];simp only;refine⟨g b k ?_,fun n=>?_,?_⟩
   ·intro y a;rcases dr.1 a with a|a
    ·have:=i y a;omega
    ·simp at a;subst a;exact e.2
   ·rw[nE,bw];constructor
    ·rintro(h|h|h)
     ·exact .inl h
     ·exact .inr h
     ·exact absurd h (eD n)
    ·rintro(h|h)
     ·exact .inl h
     ·exact .inr (.inl h)
   ·intro y a;rcases dr.1 a with a|a
    ·exact c y a
    ·simp at a;subst a;exact eL _
  ·rw[fb e];simp only[List.dropLast_concat];refine⟨g l (by simp only;omega) i,fun n=>?_,?_⟩
   ·rw[nE,nE,bw,bw];simp only;have j:=eD n;constructor
    ·rintro(h|h|h)
     ·exact .inl (.inl h)
     ·by_cases d:n<=f.2
      ·exact .inl (.inr (.inl ⟨h.1,d⟩))
      ·exact .inr (by omega)
     ·exact absurd h j
    ·rintro((h|h|h)|h)
     ·exact .inl h
     ·exact .inr (.inl (by omega))
     ·exact absurd h j
     ·exact .inr (.inl (by omega))
   ·intro y a;rcases dr.1 a with a|a
    ·exact c y (by simp[a])
    ·simp at a;subst a;exact o
theorem xL: ∀{s out:List (Int×Int)},cJ out->tM s->(s.Pairwise fun a b=>a.1<=b.1)->(∀y∈out,∀x∈s,y.1<=x.1)->
  cJ (s.foldl bu out)/\ ∀n,lU (s.foldl bu out) n↔lU out n\/lU s n
 |[],out,ho,_,_,_=>⟨ho,fun n=>⟨.inl,fun h=>h.resolve_right (eD n)⟩⟩
 |x::s,out,ho,hp,hs,hlo=>by
  obtain⟨j,d,f⟩:=zR ho (hp x (by simp)) (fun y a=>hlo y a x (by simp));obtain⟨b,c⟩:=eM.1 hs;obtain⟨e,i⟩:=xL (s:=s) j (fun y a=>hp y (by simp[a])) c (fun y a z g=>Int.le_trans (f y a) (b z g));refine⟨e,fun n=>?_⟩;rw[List.foldl_cons,i,d,bw];constructor
  ·rintro((h|h)|h)
   ·exact .inl h
   ·exact .inr (.inl h)
   ·exact .inr (.inr h)
  ·rintro(h|h|h)
   ·exact .inl (.inl h)
   ·exact .inl (.inr h)
   ·exact .inr h
theorem xM{s:List (Int×Int)}(b:tM s)(d:s.Pairwise fun a c=>a.1<=c.1):cJ (cI s)/\ ∀n,lU (cI s) n↔lU s n:=by obtain⟨e,c⟩:=xL (out:=[]) ⟨fun y a=>by simp at a,ee⟩ b d (fun y a=>by simp at a);exact⟨e,fun n=>(c n).x ⟨fun h=>h.resolve_left (eD n),.inr⟩⟩
theorem xN: ∀{os:List (Int×Int)} {s:Int×Int},s.1<=s.2->cJ os->(∀o∈os,s.1<=o.2)->
  cJ (eV s os)/\(∀n,lU (eV s os) n↔(s.1<=n/\n<=s.2)/\ ¬lU os n)/\ ∀y∈eV s os,s.1<=y.1/\y.2<=s.2
 |[],s,hs,_,_=>by
  refine⟨cJ.cons hs ⟨fun y a=>by simp at a,ee⟩ (fun y a=>by simp at a),fun n=>?_,fun y a=>by simp[eV]at a;subst a;exact⟨eL _,eL _⟩⟩;simp only[eV,bw];have d:=eD n;constructor
  ·rintro(h|h)
   ·exact⟨h,d⟩
   ·exact absurd h d
  ·rintro⟨h,_⟩;exact .inl h
 |o::os,s,hs,hos,jf=>by
  obtain⟨t,i⟩:=hos.head;have q:=jf o (by simp);have m: ∀y∈os,o.2+1<y.1:=(eM.1 hos.2).1;unfold eV;by_cases l:s.2<o.1
  ·rw[ff l];refine⟨cJ.cons hs ⟨fun y a=>by simp at a,ee⟩ (fun y a=>by simp at a),fun n=>?_,fun y a=>by simp at a;subst a;exact⟨eL _,eL _⟩⟩;rw[bw,bw];have d:=eD n;constructor
   ·rintro(h|h)
    ·refine⟨h,?_⟩;rintro(e|e)
     ·omega
     ·have:=i n e;omega
    ·exact absurd h d
   ·rintro⟨h,_⟩;exact .inl h
  ·rw[fb l];by_cases e:s.2<=o.2
   ·rw[ff e,fs];by_cases f:s.1<o.1
    ·rw[ff f];refine⟨cJ.cons (by simp only;omega) ⟨fun y a=>by simp at a,ee⟩ (fun y a=>by simp at a),fun n=>?_,fun y a=>by simp at a;subst a;simp only;omega⟩;rw[bw,bw];have d:=eD n;simp only;constructor
     ·rintro(h|h)
      ·refine⟨by omega,?_⟩;rintro(b|b)
       ·omega
       ·have:=i n b;omega
      ·exact absurd h d
     ·rintro⟨h,b⟩;have: ¬(o.1<=n/\n<=o.2):=fun c=>b (.inl c);exact .inl (by omega)
    ·rw[fb f];refine⟨⟨fun y a=>by simp at a,ee⟩,fun n=>?_,fun y a=>by simp at a⟩;rw[bw];have d:=eD n;constructor
     ·intro h;exact absurd h d
     ·rintro⟨h,b⟩;exact absurd (.inl (by omega)) b
   ·rw[fb e];obtain⟨k,g,d⟩:=xN (os:=os) (s:=(o.2+1,s.2)) (by simp only;omega) hos.tail (fun y a=>by have:=m y a;have:=hos.1 y (by simp[a]);simp only;omega);simp only at g d;by_cases f:s.1<o.1
    ·rw[ff f];refine⟨?_,fun n=>?_,?_⟩
     ·refine cJ.cons (by simp only;omega) k (fun y a=>?_);have:=(d y a).1;simp only;omega
     ·rw[List.singleton_append,bw,g,bw];simp only;constructor
      ·rintro(h|⟨h,c⟩)
       ·refine⟨by omega,?_⟩;rintro(b|b)
        ·omega
        ·have:=i n b;omega
       ·refine⟨by omega,?_⟩;rintro(b|b)
        ·omega
        ·exact c b
      ·rintro⟨h,b⟩;have p: ¬(o.1<=n/\n<=o.2):=fun c=>b (.inl c);by_cases r:n<o.1
       ·exact .inl (by omega)
       ·exact .inr ⟨by omega,fun j=>b (.inr j)⟩
     ·intro y a;rcases dr.1 a with a|a
      ·simp at a;subst a;simp only;omega
      ·have:=d y a;omega
    ·rw[fb f,fj];refine⟨k,fun n=>?_,fun y a=>by have:=d y a;omega⟩;rw[g,bw];constructor
     ·rintro⟨h,c⟩;refine⟨by omega,?_⟩;rintro(b|b)
      ·omega
      ·exact c b
     ·rintro⟨h,b⟩;have p: ¬(o.1<=n/\n<=o.2):=fun c=>b (.inl c);exact⟨by omega,fun j=>b (.inr j)⟩
theorem rT: ∀{os:List (Int×Int)} (lo:Int),cJ os->cJ (cQ lo os)/\(∀o∈cQ lo os,lo<=o.2)/\ ∀n,lo<=n->(lU (cQ lo os) n↔lU os n)
 |[],lo,h=>⟨h,fun o a=>by simp[cQ]at a,fun n _=>Iff.rfl⟩
 |o::os,lo,h=>by
  unfold cQ;rw[List.dropWhile_cons];by_cases b:o.2<lo
  ·rw[ff (by simpa using b)];obtain⟨c,d,e⟩:=rT lo h.tail;refine⟨c,d,fun n a=>(e n a).x ?_⟩;rw[bw];exact⟨.inr,fun a=>a.resolve_left (by omega)⟩
  ·rw[fb (by simpa using b)];refine⟨h,fun y a=>?_,fun n _=>Iff.rfl⟩;rcases eS.1 a with rfl|a
   ·omega
   ·have:=(eM.1 h.2).1 y a;have:=h.1 y (by simp[a]);have:=h.1 o (by simp);omega
theorem qz: ∀{l os:List (Int×Int)},cJ l->cJ os->cJ (bW l os)/\(∀n,lU (bW l os) n↔lU l n/\ ¬lU os n)/\ ∀y∈bW l os,∃x∈l,x.1<=y.1/\y.2<=x.2
 |[],os,h,_=>⟨h,fun n=>⟨fun h=>absurd h (eD n),fun h=>h.1⟩,fun y a=>by simp[bW]at a⟩
 |s::l,os,h,hos=>by
  obtain⟨q,g⟩:=h.head;obtain⟨i,r,e⟩:=rT s.1 hos;obtain⟨o,t,j⟩:=xN q i r;obtain⟨k,u,m⟩:=qz (l:=l) h.tail i;have p: ∀y∈l,s.2+1<y.1:=(eM.1 h.2).1;unfold bW;refine⟨⟨fun y a=>?_,List.pairwise_append.2 ⟨o.2,k.2,fun y a z c=>?_⟩⟩,fun n=>?_,fun y a=>?_⟩
  ·rcases dr.1 a with a|a
   ·exact o.1 y a
   ·exact k.1 y a
  ·obtain⟨x,f,b,_⟩:=m z c;have:=p x f;have:=j y a;omega
  ·rw[nE,t,u,bw];constructor
   ·rintro(⟨b,d⟩|⟨b,d⟩)
    ·exact⟨.inl b,fun c=>d ((e n b.1).2 c)⟩
    ·have:=g n b;exact⟨.inr b,fun c=>d ((e n (by omega)).2 c)⟩
   ·rintro⟨b|b,d⟩
    ·exact .inl ⟨b,fun c=>d ((e n b.1).1 c)⟩
    ·have:=g n b;exact .inr ⟨b,fun c=>d ((e n (by omega)).1 c)⟩
  ·rcases dr.1 a with a|a
   ·exact⟨s,by simp,j y a⟩
   ·obtain⟨x,f,b⟩:=m y a;exact⟨x,by simp[f],b⟩
theorem ej{α:Type}{l:List α}{k:Nat}{x:α}(h:l[k]?=some x):l.take (k+1)=l.take k++[x]:=by rw[gO,h];rfl
abbrev mj:=Int×List UInt8×Int
def Cl.has(c:Cl)(t:mj):Prop:=c.aO=t.1/\c.key=t.2.1/\c.lo<=t.2.2/\t.2.2<=c.hi
instance (c:Cl) (t:mj):Decidable (c.has t):=by unfold Cl.has;infer_instance
def fw(l:List Cl)(t:mj):Int:=
 if ∃c∈l,c.has t/\c.wr=true then 2 else if ∃c∈l,c.has t then 1 else 0
theorem gT{l:List Cl}{t:mj}:fw l t=2↔ ∃c∈l,c.has t/\c.wr=true:=by
 unfold fw;split
 ·simp_all
 ·split<;>simp_all
theorem cM{l:List Cl}{t:mj}:1<=fw l t↔ ∃d∈l,d.has t:=by
 unfold fw;split
 ·rename_i h;obtain⟨d,c,b,_⟩:=h;exact⟨fun _=>⟨d,c,b⟩,fun _=>by decide⟩
 ·split
  ·rename_i h;exact⟨fun _=>h,fun _=>by decide⟩
  ·rename_i h;exact⟨fun a=>absurd a (by decide),fun a=>absurd a h⟩
theorem jg(l:List Cl)(t:mj):0<=fw l t/\fw l t<=2:=by
 unfold fw;split
 ·omega
 ·split<;>omega
theorem Pf{a b:List Cl}{t:mj}(d:(∃c∈a,c.has t/\c.wr=true)-> ∃c∈b,c.has t/\c.wr=true)(e:(∃c∈a,c.has t)-> ∃c∈b,c.has t):fw a t<=fw b t:=by have f:fw a t=2->fw b t=2:=fun h=>gT.2 (d (gT.1 h));have c:1<=fw a t->1<=fw b t:=fun h=>cM.2 (e (cM.1 h));have:=jg a t;have:=jg b t;omega
theorem Kr{a b:List Cl}(h: ∀c,c∈a->c∈b)(t:mj):fw a t<=fw b t:=
 Pf (fun⟨c,x,y⟩=>⟨c,h c x,y⟩) (fun⟨c,x,y⟩=>⟨c,h c x,y⟩)
theorem TD(t:mj):fw [] t=0:=by simp[fw]
theorem nG(a b:List Cl)(t:mj):fw (a++b) t=max (fw a t) (fw b t):=by
 have i:=Kr (a:=a) (b:=a++b) (fun d h=>dr.2 (.inl h)) t;have e:=Kr (a:=b) (b:=a++b) (fun d h=>dr.2 (.inr h)) t
 have g:fw (a++b) t=2->fw a t=2\/fw b t=2:=by
  intro h;obtain⟨d,c,h⟩:=gT.1 h;rcases dr.1 c with c|c
  ·exact .inl (gT.2 ⟨d,c,h⟩)
  ·exact .inr (gT.2 ⟨d,c,h⟩)
 have f:1<=fw (a++b) t->1<=fw a t\/1<=fw b t:=by
  intro h;obtain⟨d,c,h⟩:=cM.1 h;rcases dr.1 c with c|c
  ·exact .inl (cM.2 ⟨d,c,h⟩)
  ·exact .inr (cM.2 ⟨d,c,h⟩)
 have:=jg a t;have:=jg b t;have:=jg (a++b) t;omega
theorem ES(a:List Cl)(c:Cl)(t:mj):fw (a++[c]) t=if c.has t then(if c.wr=true then 2 else max (fw a t) 1)else fw a t:=by
 rw[nG];have e:=jg a t
 have d:fw [c] t=if c.has t then(if c.wr=true then 2 else 1)else 0:=by unfold fw;by_cases h:c.has t<;>by_cases b:c.wr=true<;>simp[h,b]
 rw[d];by_cases h:c.has t
 ·by_cases b:c.wr=true
  ·simp only[h,b,if_true];omega
  ·simp only[h,b,if_true];simp
 ·simp only[h,if_false];omega
theorem qA{α:Type}{r:α->α->Prop}(g: ∀a,¬r a a)(i: ∀a b,r a b->r b a->False): ∀{a b:List α},a.Pairwise r->b.Pairwise r->(∀x,x∈a↔x∈b)->a=b
 |[],[],_,_,_=>rfl
 |[],y::b,_,_,h=>absurd ((h y).2 (by simp)) (by simp)
 |x::a,[],_,_,h=>absurd ((h x).1 (by simp)) (by simp)
 |x::a,y::b,ha,hb,h=>by
  have f:=eM.1 ha;have d:=eM.1 hb
  have j:x=y:=by
   rcases eS.1 ((h x).1 (by simp))with e|e
   ·exact e
   ·rcases eS.1 ((h y).2 (by simp))with c|c
    ·exact c.symm
    ·exact(i _ _ (f.1 _ c) (d.1 _ e)).elim
  subst j;congr 1;refine qA g i f.2 d.2 fun z=>?_;constructor
  ·intro c;rcases eS.1 ((h z).1 (by simp[c]))with e|e
   ·subst e;exact absurd (f.1 _ c) (g _)
   ·exact e
  ·intro c;rcases eS.1 ((h z).2 (by simp[c]))with e|e
   ·subst e;exact absurd (d.1 _ c) (g _)
   ·exact e
def zS(x:Bool×List UInt8):Cl:=⟨x.1,-1,x.2,0,0⟩
def vh(W R:Int->List (Int×Int))(i:Int):List Cl:=(W i).map (tJ i true)++(R i).map (tJ i false)
def fG(ks:List (Bool×List UInt8))(W R:Int->List (Int×Int)):List Cl:=
 ks.map zS++vh W R 0++vh W R 1++vh W R 2++vh W R 3
def Ks(l:List Cl):Prop:= ∃ks W R,l=fG ks W R/\(ks.Pairwise fun a b=>a.2<b.2)/\ ∀i:Int,0<=i->i<4->cJ (W i)/\cJ (R i)/\ ∀n,lU (W i) n-> ¬lU (R i) n
theorem gG{W R:Int->List (Int×Int)}{i:Int}{c:Cl}:c∈vh W R i↔(∃x∈W i,tJ i true x=c)\/ ∃x∈R i,tJ i false x=c:=by unfold vh;rw[List.mem_append,List.mem_map,List.mem_map]
theorem dw{ks:List (Bool×List UInt8)}{W R:Int->List (Int×Int)}{c:Cl}:c∈fG ks W R↔(∃x∈ks,zS x=c)\/ ∃i:Int,0<=i/\i<4/\c∈vh W R i:=by
 unfold fG;simp only[List.mem_append,List.mem_map];constructor
 ·rintro((((h|h)|h)|h)|h)
  ·exact .inl h
  ·exact .inr ⟨0,by decide,by decide,h⟩
  ·exact .inr ⟨1,by decide,by decide,h⟩
  ·exact .inr ⟨2,by decide,by decide,h⟩
  ·exact .inr ⟨3,by decide,by decide,h⟩
 ·rintro(h|⟨i,b,a,h⟩)
  ·exact .inl (.inl (.inl (.inl h)))
  ·have:i=0\/i=1\/i=2\/i=3:=by omega
   rcases this with rfl|rfl|rfl|rfl
   ·exact .inl (.inl (.inl (.inr h)))
   ·exact .inl (.inl (.inr h))
   ·exact .inl (.inr h)
   ·exact .inr h
theorem iB{x:Bool×List UInt8}{t:mj}:(zS x).has t↔t=(-1,x.2,0):=by
 obtain⟨f,e,n⟩:=t;unfold Cl.has zS;simp only[mv];constructor
 ·rintro⟨b,a,c,d⟩;exact⟨b.symm,a.symm,by omega⟩
 ·rintro⟨b,a,c⟩;exact⟨b.symm,a.symm,by omega,by omega⟩
theorem eF{i:Int}{b:Bool}{x:Int×Int}{t:mj}:(tJ i b x).has t↔t.1=i/\t.2.1=[]/\x.1<=t.2.2/\t.2.2<=x.2:=by
 unfold Cl.has tJ;simp only;constructor
 ·rintro⟨c,a,d⟩;exact⟨c.symm,a.symm,d⟩
 ·rintro⟨c,a,d⟩;exact⟨c.symm,a.symm,d⟩
section
variable{ks:List (Bool×List UInt8)}{W R:Int->List (Int×Int)}
theorem nH{k:List UInt8}:1<=fw (fG ks W R) (-1,k,0)↔ ∃d,(d,k)∈ks:=by
 rw[cM];constructor
 ·rintro⟨g,a,h⟩;rcases dw.1 a with⟨x,b,rfl⟩|⟨i,f,e,c⟩
  ·have:=iB.1 h;simp at this;exact⟨x.1,by rw[this];exact b⟩
  ·rcases gG.1 c with⟨x,_,rfl⟩|⟨x,_,rfl⟩
   ·have:=(eF.1 h).1;simp only at this;omega
   ·have:=(eF.1 h).1;simp only at this;omega
 ·rintro⟨d,a⟩;exact⟨_,dw.2 (.inl ⟨_,a,rfl⟩),iB.2 rfl⟩
theorem nI{k:List UInt8}:fw (fG ks W R) (-1,k,0)=2↔(true,k)∈ks:=by
 rw[gT];constructor
 ·rintro⟨l,b,h,a⟩;rcases dw.1 b with⟨x,d,rfl⟩|⟨j,i,e,c⟩
  ·have:=iB.1 h;simp at this;unfold zS at a;simp only at a;obtain⟨g,f⟩:=x
   simp_all
  ·rcases gG.1 c with⟨x,_,rfl⟩|⟨x,_,rfl⟩
   ·have:=(eF.1 h).1;simp only at this;omega
   ·have:=(eF.1 h).1;simp only at this;omega
 ·rintro a;exact⟨_,dw.2 (.inl ⟨_,a,rfl⟩),iB.2 rfl,rfl⟩
theorem nJ{i n:Int}(g:0<=i)(d:i<4):fw (fG ks W R) (i,[],n)=2↔lU (W i) n:=by
 rw[gT];constructor
 ·rintro⟨o,c,j,h⟩;rcases dw.1 c with⟨x,a,rfl⟩|⟨m,l,k,f⟩
  ·have:=iB.1 j;simp at this;omega
  ·rcases gG.1 f with⟨x,a,rfl⟩|⟨x,_,rfl⟩
   ·have b:=eF.1 j;simp only at b;obtain⟨rfl,_,e⟩:=b;exact⟨x,a,e⟩
   ·cases h
 ·rintro⟨x,a,j⟩;exact⟨_,dw.2 (.inr ⟨i,g,d,gG.2 (.inl ⟨x,a,rfl⟩)⟩),eF.2 ⟨rfl,rfl,j⟩,rfl⟩
theorem nK{i n:Int}(e:0<=i)(d:i<4):1<=fw (fG ks W R) (i,[],n)↔lU (W i) n\/lU (R i) n:=by
 rw[cM];constructor
 ·rintro⟨m,f,h⟩;rcases dw.1 f with⟨x,a,rfl⟩|⟨l,k,j,g⟩
  ·have:=iB.1 h;simp at this;omega
  ·rcases gG.1 g with⟨x,a,rfl⟩|⟨x,a,rfl⟩
   ·have b:=eF.1 h;simp only at b;obtain⟨rfl,_,c⟩:=b;exact .inl ⟨x,a,c⟩
   ·have b:=eF.1 h;simp only at b;obtain⟨rfl,_,c⟩:=b;exact .inr ⟨x,a,c⟩
 ·rintro(⟨x,a,h⟩|⟨x,a,h⟩)
  ·exact⟨_,dw.2 (.inr ⟨i,e,d,gG.2 (.inl ⟨x,a,rfl⟩)⟩),eF.2 ⟨rfl,rfl,h⟩⟩
  ·exact⟨_,dw.2 (.inr ⟨i,e,d,gG.2 (.inr ⟨x,a,rfl⟩)⟩),eF.2 ⟨rfl,rfl,h⟩⟩
end
theorem CP(a:List UInt8): ¬a<a:=List.lt_irrefl a
theorem TE{a b:List UInt8}(h:a<b)(c:b<a):False:=List.lt_irrefl a (List.lt_trans h c)
theorem ET{a b:List Cl}(v:Ks a)(w:Ks b)(p: ∀t,fw a t=fw b t):a=b:=by
 obtain⟨ks,W,R,rfl,f,n⟩:=v;obtain⟨e,j,g,rfl,k,m⟩:=w
 have s: ∀{ks:List (Bool×List UInt8)},(ks.Pairwise fun a b=>a.2<b.2)-> ∀x∈ks,∀y∈ks,x.2=y.2->x=y:=by
  intro ks f x d y q u;by_cases o:x=y
  ·exact o
  ·obtain⟨i,h,rfl⟩:=List.mem_iff_getElem.1 d;obtain⟨r,l,rfl⟩:=List.mem_iff_getElem.1 q;rcases Nat.lt_trichotomy i r with c|c|c
   ·have:=List.pairwise_iff_getElem.1 f i r h l c;rw[u]at this;exact(CP _ this).elim
   ·subst c;rfl
   ·have:=List.pairwise_iff_getElem.1 f r i l h c;rw[u]at this;exact(CP _ this).elim
 have q:ks=e:=by
  refine qA (r:=fun a b=>a.2<b.2) (fun a=>CP a.2) (fun a b=>TE) f k ?_
  have c: ∀{ks e:List (Bool×List UInt8)} {W R j g:Int->List (Int×Int)},(ks.Pairwise fun a b=>a.2<b.2)->(e.Pairwise fun a b=>a.2<b.2)->(∀t,fw (fG ks W R) t=fw (fG e j g) t)-> ∀x,x∈ks->x∈e:=by
   intro ks e W R j g f k p x d;obtain⟨b,u⟩:=x;have o:=(nH (ks:=ks) (W:=W) (R:=R)).2 ⟨b,d⟩;rw[p]at o;obtain⟨r,h⟩:=nH.1 o
   have l:((true,u)∈ks)↔((true,u)∈e):=by rw[<-nI (ks:=ks) (W:=W) (R:=R),<-nI (ks:=e) (W:=j) (R:=g),p]
   cases b with
   |true=>exact l.1 d
   |false=>
    cases r with
    |false=>exact h
    |true=>have:=s f _ (l.2 h) _ d rfl;cases this
  exact fun x=>⟨c f k p x,c k f (fun t=>(p t).symm) x⟩
 subst q
 have h: ∀i:Int,0<=i->i<4->W i=j i:=fun i c d=>pd (n i c d).1 (m i c d).1 fun r=>by rw[<-nJ (ks:=ks) (R:=R) c d,<-nJ (ks:=ks) (R:=g) c d,p]
 have l: ∀i:Int,0<=i->i<4->R i=g i:=fun i c d=>pd (n i c d).2.1 (m i c d).2.1 fun r=>by
  have o:=nK (ks:=ks) (W:=W) (R:=R) (n:=r) c d;have t:=nK (ks:=ks) (W:=j) (R:=g) (n:=r) c d;have q:=(n i c d).2.2 r;have u:=(m i c d).2.2 r;rw[p,t,h i c d]at o;rw[h i c d]at q;constructor
  ·intro d;rcases o.2 (.inr d)with c|c
   ·exact absurd d (q c)
   ·exact c
  ·intro d;rcases o.1 (.inr d)with c|c
   ·exact absurd d (u c)
   ·exact c
 unfold fG vh;rw[h 0 (by decide) (by decide),h 1 (by decide) (by decide),h 2 (by decide) (by decide),h 3 (by decide) (by decide),l 0 (by decide) (by decide),l 1 (by decide) (by decide),l 2 (by decide) (by decide),l 3 (by decide) (by decide)]
def Ok(c:Cl):Prop:=EL c=0
theorem Ok.parts{c:Cl}(h:Ok c):(c.aO= -1/\c.lo=0/\c.hi=0/\1<=c.key.length/\c.key.length<=16)\/(0<=c.aO/\c.aO<4/\c.key=[]/\c.lo<=c.hi):=by
 unfold Ok EL at h;split at h
 ·cases h
 ·split at h
  ·split at h
   ·cases h
   ·rename_i e d b;refine .inr ⟨d,by omega,?_,?_⟩
    ·exact Classical.byContradiction fun a=>b (.inl a)
    ·exact Int.not_lt.1 fun a=>b (.inr a)
  ·split at h
   ·cases h
   ·unfold dY at h;split at h
    ·cases h
    ·omega
theorem Ok.of{c:Cl}(h:(c.aO= -1/\c.lo=0/\c.hi=0/\1<=c.key.length/\c.key.length<=16)\/(0<=c.aO/\c.aO<4/\c.key=[]/\c.lo<=c.hi)):Ok c:=by
 unfold Ok EL dY;rcases h with⟨b,d,a,e,f⟩|⟨b,d,a,e⟩
 ·rw[fb (by omega),fb (by omega),fb (by omega),fb (by omega)]
 ·rw[fb (by omega),ff b,fb (by simp[a];omega)]
theorem Ok.proper{c:Cl}(h:Ok c):c.lo<=c.hi:=by rcases h.parts with h|h<;>omega
def cS(l:List Cl)(i:Int)(b:Bool):List (Int×Int):=(l.filter fun c=>c.aO==i&&c.wr==b).map fun c=>(c.lo,c.hi)
theorem ml{l:List Cl}{i:Int}{b:Bool}{x:Int×Int}:x∈cS l i b↔ ∃f∈l,f.aO=i/\f.wr=b/\(f.lo,f.hi)=x:=by
 unfold cS;simp only[List.mem_map,List.mem_filter,mu,beq_iff_eq];constructor
 ·rintro⟨f,⟨d,a,e⟩,c⟩;exact⟨f,d,a,e,c⟩
 ·rintro⟨f,d,a,e,c⟩;exact⟨f,⟨d,a,e⟩,c⟩
theorem pg{l:List Cl}(h: ∀d∈l,Ok d){i n:Int}{b:Bool}(j:0<=i):lU (cS l i b) n↔ ∃d∈l,d.has (i,[],n)/\d.wr=b:=by
 unfold lU;constructor
 ·rintro⟨x,f,g⟩;obtain⟨d,a,c,e,rfl⟩:=ml.1 f;have:=(h d a).parts;refine⟨d,a,⟨c,?_,g⟩,e⟩;rcases this with this|this
  ·omega
  ·exact this.2.2.1
 ·rintro⟨d,a,⟨c,e,f⟩,g⟩;exact⟨_,ml.2 ⟨d,a,c,g,rfl⟩,f⟩
theorem pj{l:List Cl}(d: ∀e∈l,Ok e)(i:Int)(b:Bool):tM (cS l i b):=by intro x a;obtain⟨e,c,f,g,rfl⟩:=ml.1 a;exact(d e c).proper
theorem TF{l:List Cl}(d: ∀c∈l,Ok c){ks:List (Bool×List UInt8)}{W R:Int->List (Int×Int)}(v:ks.Pairwise fun f g=>f.2<g.2)
  (w: ∀k,(∃g,(g,k)∈ks)↔1<=fw l (-1,k,0)) (u: ∀k,(true,k)∈ks↔fw l (-1,k,0)=2)
  (q: ∀i:Int,0<=i->i<4->cJ (W i)/\ ∀n,lU (W i) n↔lU (cS l i true) n)
  (r: ∀i:Int,0<=i->i<4->cJ (R i)/\ ∀n,lU (R i) n↔lU (cS l i false) n/\ ¬lU (W i) n):
  Ks (fG ks W R)/\ ∀t,fw (fG ks W R) t=fw l t:=by
 refine⟨⟨ks,W,R,rfl,v,fun i f g=>⟨(q i f g).1,(r i f g).1,fun n h a=>((((r i f g).2 n).1 a).2 h)⟩⟩,?_⟩;rintro⟨i,k,n⟩;have A:=jg (fG ks W R) (i,k,n);have z:=jg l (i,k,n);by_cases b:0<=i/\i<4
 ·obtain⟨f,g⟩:=b;by_cases j:k=[]
  ·subst j;have p:=(nJ (ks:=ks) (W:=W) (R:=R) (n:=n) f g);have m:=(nK (ks:=ks) (W:=W) (R:=R) (n:=n) f g);rw[(q i f g).2 n,pg d f,<-gT]at p
   have e:(lU (W i) n\/lU (R i) n)↔1<=fw l (i,[],n):=by
    rw[(r i f g).2 n,(q i f g).2 n,pg d f,pg d f,cM];constructor
    ·rintro(⟨c,x,y,_⟩|⟨⟨c,x,y,_⟩,_⟩)
     ·exact⟨c,x,y⟩
     ·exact⟨c,x,y⟩
    ·rintro⟨c,x,y⟩;cases hw:c.wr
     ·by_cases a: ∃c∈l,c.has (i,[],n)/\c.wr=true
      ·exact .inl a
      ·exact .inr ⟨⟨c,x,y,hw⟩,a⟩
     ·exact .inl ⟨c,x,y,hw⟩
   rw[e]at m;omega
  ·have p: ¬1<=fw (fG ks W R) (i,k,n):=by
    rw[cM];rintro⟨c,a,h⟩;rcases dw.1 a with⟨x,e,rfl⟩|⟨y,_,_,b⟩
    ·have:=iB.1 h;simp at this;omega
    ·rcases gG.1 b with⟨x,e,rfl⟩|⟨x,e,rfl⟩
     ·exact j (eF.1 h).2.1
     ·exact j (eF.1 h).2.1
   have m: ¬1<=fw l (i,k,n):=by
    rw[cM];rintro⟨c,a,s,o,t⟩;simp only at s o;rcases(d c a).parts with h|h
    ·omega
    ·exact j (o.symm.x h.2.2.1)
   omega
 ·by_cases f:i= -1/\n=0
  ·obtain⟨rfl,rfl⟩:=f;have p:=(nH (ks:=ks) (W:=W) (R:=R) (k:=k)).x (w k);have m:=(nI (ks:=ks) (W:=W) (R:=R) (k:=k)).x (u k);omega
  ·have p: ¬1<=fw (fG ks W R) (i,k,n):=by
    rw[cM];rintro⟨c,a,h⟩;rcases dw.1 a with⟨x,e,rfl⟩|⟨y,_,_,b⟩
    ·have:=iB.1 h;simp at this;omega
    ·rcases gG.1 b with⟨x,e,rfl⟩|⟨x,e,rfl⟩
     ·have:=(eF.1 h).1;simp only at this;omega
     ·have:=(eF.1 h).1;simp only at this;omega
   have m: ¬1<=fw l (i,k,n):=by
    rw[cM];rintro⟨c,a,s,o,t,e⟩;simp only at s o t e;rcases(d c a).parts with h|h
    ·omega
    ·omega
   omega
def uC(lo:Int):List (Int×Int)->Bool
 |[]=>false
 |o::_=>decide (o.2<lo)
theorem EU{lo:Int}{os:List (Int×Int)}(h:uC lo os=false):cQ lo os=os:=by
 cases os with
 |nil=>rfl
 |cons o os=>unfold uC at h;unfold cQ;rw[List.dropWhile_cons,fb (by simpa using h)]
theorem EW{lo:Int}{o:Int×Int}{os:List (Int×Int)}(h:uC lo (o::os)=true):cQ lo (o::os)=cQ lo os:=by unfold uC at h;unfold cQ;rw[List.dropWhile_cons,ff h]
def aaw:Value->Nat
 | .slice _ n _=>n
 |_=>0
theorem xO(w:World)(n:Nat):Only (fun _=>False) w (w.drewN n):=(oE (fun _=>False) w).drewN n
theorem mQ.tail{w:World}{F:Nat->Prop}{b o n c:Nat}{x:Int×Int}{r:List (Int×Int)}(v:mQ w F (.slice (some ⟨b,o,none⟩) n c) (x::r)):
  mQ w F (.slice (if c=1 then some ⟨b,o,none⟩else some ⟨b,o+2,none⟩) r.length (c-1)) r:=by
 obtain⟨A,q,m,f,i,k,l,j⟩:=v;injection f with e a d;subst e a d;simp at i;refine⟨_,_,_,rfl,by simp,by omega,by omega,fun d=>?_⟩;obtain⟨p,s,d,h,g⟩:=j (by omega);injection d with d;injection d with e a;subst e a;rw[fb (by omega)];refine⟨b,o+2,rfl,h,fun t y a z u e=>?_⟩;have:=g (t+1) y (by simpa using a) z u e;rw[<-this];congr 2;omega
theorem xP{a c:World}{X Y:Obj}{b:Option Nat}{B:Nat}{o:Obj}(e:a.heap[B]?=some o)(d:((a.alloc X).alloc Y).grownBy c b)(g:b≠some B)(f:b≠some a.heap.size):
  c.heap[B]?=some o/\c.heap[a.heap.size]?=some X:=by
 have h:B<a.heap.size:=(cq.1 e).1;constructor
 ·rw[d.block B (by simp;omega) (fun i=>g i.symm),Below.heap_alloc _ _ _ (by simp;omega),Below.heap_alloc _ _ _ h];exact e
 ·rw[d.block a.heap.size (by simp;omega) (fun i=>f i.symm),Below.heap_alloc _ _ _ (by simp)];exact an _ _
def InR(w:World)(B:Nat)(x:Int×Int)(acc os:List (Int×Int))(j:Nat)(v5:Value)(w':World):Prop:=
 ∃(b:Int) (a:List (Int×Int)),w'.heap[B]?=some (sg b x.2)/\lq b/\
  w'.ownsRow w.heap.size 80 2 v5 a.length (a.map mC).flatten/\(∀g,v5.ownBlock=some g->g≠B)/\a.length<=acc.length+j/\Below w.heap.size w w'/\
  a++eV (b,x.2) (os.drop j)=acc++eV x os
def aax(w:World)(F:Nat->Prop)(l c:List (Int×Int))(k:Nat)(v1 v5:Value)(w':World):Prop:=
 ∃b a,mQ w F v1 b/\iA b/\b.length<=1000/\w'.ownsRow w.heap.size 80 2 v5 a.length (a.map mC).flatten/\a.length<=k*1001/\Below w.heap.size w w'/\a++bW (l.drop k) b=bW l c
theorem rU{w w':World}{F:Nat->Prop}{l b os a acc acc2:List (Int×Int)}{k:Nat}{x:Int×Int}{v1 v5:Value}
  (g:l.drop k=x::l.drop (k+1)) (e:acc++bW (l.drop k) os=bW l b) (p:acc.length<=k*1001) (f:cQ x.1 a=cQ x.1 os) (i:uC x.1 a=false)
  (m:mQ w F v1 a) (h:iA a) (n:a.length<=1000) (d:w'.ownsRow w.heap.size 80 2 v5 acc2.length (acc2.map mC).flatten) (j:Below w.heap.size w w')
  (c:acc2=acc++eV x a) (o:acc2.length<=acc.length+1001):aax w F l b (k+1) v1 v5 w':=by
 refine⟨a,acc2,m,h,n,d,by omega,j,?_⟩;rw[<-e,g,bW,<-f,EU i,c,kh]
theorem Ib(w:World)(F:Nat->Prop)(v v1:Value)(l others:List (Int×Int))(h:mQ w F v l)(h1:mQ w F v1 others)(hl:l.length<=1000)(ho:others.length<=1000)(hfit:iA l)(hfo:iA others):
  Calls prog 26 #[v,v1] w (Pd (bW l others) w):=by
 obtain⟨i0,hi,hz0,hz1,hz2⟩:=eh Tryz.Hy;obtain⟨A,c,rfl,hnc,hcm⟩:=h.slice;have H:=al h;have H1:=al h1;clear h h1;go_enter func26,ntmps26;go_wp2
 go_step3
 go_wp2
 go_step3
 go_wp2
 go_loopw [1,5,12] (fun v1 v5 i wr=> ∃k,k<=l.length/\i=rm (k:Int)/\aax w F l others k v1 v5 wr) (fun _ _ i _=>l.length-(intOf i).toNat)
 case atStart=>exact⟨0,dq _,rfl,others,[],H1.o,hfo,ho,dy _ _ _ _,by simp,bd _ _,by simp⟩
 case round=>
  obtain⟨k,hk,rfl,os,acc,hos,acv,acw,hown,hal,hbl,heq⟩:=hrel;by_cases hlt:k<l.length
  ·obtain⟨x,hx⟩: ∃x,l[k]?=some x:=⟨_,ao hlt⟩;obtain⟨b,o,rfl,uA,c0,c1⟩:=H.o.at_ hx;have hb:b<w.heap.size:=aq w _ c0;have c0':=(hbl.cell (p:=⟨b,o+k*2,none⟩) hb).x c0;have c1':=(hbl.cell (p:=⟨b,o+k*2+1,none⟩) hb).x c1;have zy:=hfit x (db hx);have hdr:l.drop k=x::l.drop (k+1):=List.drop_eq_getElem?_toList_append .. |>.trans (by rw[hx];rfl);have HD:=AM hdr heq hown hal hbl;have hs:=hbl.size;clear hx c0 c1 hdr heq hown hal hbl;obtain⟨wo,rfl⟩: ∃wo:World,wo=wr:=⟨_,rfl⟩;go_wp2;obtain⟨wa,NZ⟩:=rk (wo.alloc (sg x.1 x.2));obtain⟨B,hB⟩:=rk (wo.heap.size);have ZT:Below B wo wa:=by rw[<-NZ,<-hB];exact(bd _ _).alloc (b8 _) _
   have hsa:wa.heap.size=B+1:=by rw[<-NZ,<-hB];simp
   have bQ:wa.heap[B]?=some (sg x.1 x.2):=by rw[<-NZ,<-hB];exact an _ _
   have hwB:w.heap.size<=B:=by omega
   rw[NZ,hB];have HW:=AF ZT hsa bQ;have HWO:=AD NZ hB;clear NZ hB ZT hsa bQ c0' c1'
   go_loopw [1] (fun v1 w2=> ∃os2,mQ w F v1 os2/\iA os2/\os2.length<=1000/\cQ x.1 os2=cQ x.1 os/\Below wa.heap.size wa w2) (fun v1 _=>aaw v1)
   case atStart=>exact⟨os,hos,acv,acw,rfl,bd _ _⟩
   case round=>
    obtain⟨os2,hr2,hf2,hl2,hd2,hb2⟩:=hrel;obtain⟨A1,c1,rfl,hc1,hc2⟩:=hr2.slice
    rename World=>w2
    have HX:=AM hr2 hf2 hl2 hd2 hb2;clear hr2 hf2 hl2 hd2 hb2;have hq: ∃nq:Nat,w2.drewN nq=w2.drewN nq:=⟨0,rfl⟩;clear hq;obtain⟨q0,q1,_,_⟩:=fE (by rw[HX.o.q.block B (by rw[HW.o.2.1];omega)];exact HW.o.d:w2.heap[B]?=some (sg x.1 x.2));go_upto_region 5 with fail
    go_cut [27]from 16 to 29 (fun s27 wx=>s27=.bool (uC x.1 os2)/\Only (fun _=>False) w2 wx)
    case first=>
     cases os2 with
     |nil=>
      go_wp2;go_quiet(fail);go_wp2
      go_meet
      exact⟨rfl,xO _ _⟩
     |cons o2 r2=>
      obtain⟨b1,o1,rfl,Kt,e0,e1⟩:=HX.o.1.at_ (k:=0) rfl;simp only[Nat.zero_mul,mS]at e0 e1;have hb1:=aq w _ e0;have hbb:Below w.heap.size w w2:=HD.o.q.x ((HW.o.1.m hwB).x (HX.o.q.m (by rw[HW.o.2.1];omega)));have Sw:=(hbb.cell (p:=⟨b1,o1,none⟩) hb1).x e0;have e1':=(hbb.cell (p:=⟨b1,o1+1,none⟩) hb1).x e1;clear e0 e1 hbb;have hz1:(0:Int)<(r2.length:Int)+1:=by omega
      go_wp2;go_quiet(fail);go_wp2
      go_meet
      exact⟨rfl,xO _ _⟩
    case rest=>
     obtain⟨rfl,zA⟩:=hcut;have hbc:Below wa.heap.size wa wc:=HX.o.q.x (zA.aH HX.o.q.size (fun _ _ h=>h));have HON:=al hbc;clear zA hbc q0 q1
     cases jf:uC x.1 os2 with
     |true=>
      cases os2 with
      |nil=>exact absurd jf (by simp[uC])
      |cons o2 r2=>obtain⟨b1,o1,rfl,Kt,_,_⟩:=HX.o.1.at_ (k:=0) rfl;have HL:=al jf;clear jf;go_wp2;refine⟨⟨r2,HX.o.1.tail,fun y hy=>HX.o.2.1 y (by simp[hy]),by have:=HX.o.d.1;simp at this;omega,by rw[<-HX.o.t.1,EW HL.o],HON.o⟩,by simp[aaw]⟩
     |false=>
      have HL:=al jf;clear jf;go_wp2
      go_loopw [5,32] (fun v5 i w3=> ∃j,j<=os2.length/\i=rm (j:Int)/\InR w B x acc os2 j v5 w3) (fun _ i _=>os2.length-(intOf i).toNat)
      case atStart=>
       have Hg:=HWO.o.2;refine⟨0,dq _,rfl,x.1,acc,?_,zy.1,?_,?_,by omega,?_,rfl⟩
       ·rw[HON.o.block B (by rw[HW.o.2.1];omega)];exact HW.o.d
       ·have h1:=bE HD.o.d.1 (w':=wa) (by rw[Hg];exact HW.o.1);exact bE h1 HON.o
       ·intro g hg h;have:=(HD.o.d.1.lt g hg).2;omega
       ·exact HD.o.q.x ((HW.o.1.m hwB).x (HON.o.m (by rw[HW.o.2.1];omega)))
      case round=>
       obtain⟨j,hj,rfl,s1,acc',bQ,hs1,hown,hne,hlen,hbl,aay⟩:=hrel
       rename World=>w3
       have hs:=hbl.size;have hBl:B<w3.heap.size:=(cq.1 bQ).1;obtain⟨q0,q1,f0,f1⟩:=fE bQ;obtain⟨A5,c5,rfl⟩:=ai hown;have HR:=AN bQ hown hne hlen hbl aay;have hl5:acc'.length<=10000000:=by have:=HD.o.t.1;have:=HX.o.d.1;omega
       clear bQ hown hne hlen hbl aay;have hl2:=HX.o.d.1;by_cases hjl:j<os2.length
       ·obtain⟨o2,cj⟩: ∃o2,os2[j]?=some o2:=⟨_,ao hjl⟩;obtain⟨b1,o1,rfl,Kt,e0,e1⟩:=HX.o.1.at_ cj;have hb1:=aq w _ e0;have Sw:=(HR.o.q.1.cell (p:=⟨b1,o1+j*2,none⟩) hb1).x e0;have e1':=(HR.o.q.1.cell (p:=⟨b1,o1+j*2+1,none⟩) hb1).x e1;have hof:=HX.o.2.1 o2 (db cj);have aaz:os2.drop j=o2::os2.drop (j+1):=List.drop_eq_getElem?_toList_append .. |>.trans (by rw[cj];rfl);have Mc:=al aaz;clear e0 e1 cj aaz;by_cases g1:x.2<o2.1
        ·have hlast:acc'++[(s1,x.2)]=acc++eV x os2:=by rw[<-HR.o.q.2,Mc.o,eV,ff g1]
         have hown':=(HR.o.2.1.alloc (sg o2.1 o2.2)).alloc (sg s1 (x.2));have hnews:=eb (an (w3.alloc (sg o2.1 o2.2)) (sg s1 (x.2)));rw[show(w3.alloc (sg o2.1 o2.2)).heap.size=w3.heap.size+1 by simp]at hnews;have HOWN:=AF hown' hnews hlast;have zN:=al hi;clear hown' hnews hlast;go_wp2_with (at_builtin;go_loud (refine et _ rfl _ _ 74 rfl w.heap.size 80 i0 _ 2 16 underlying74 zN.o hz0 hz1 hz2 rfl (by decide) (.slice A5 acc'.length c5) acc'.length _ rfl HOWN.o.1 ⟨w3.heap.size+1,0,none⟩ 1 1 [rm s1,rm (x.2)] rfl rfl HOWN.o.2.1 (by simp[Value.oneCell']) (by decide) (by unfold maxLen;omega) (by omega) (by simp;omega) _ rfl ?_);intro g2_ cap w4 hown1 hgrow1 jH qh);go_roundw
         case rel=>
          refine⟨k+1,by omega,by go_num,rU (acc2:=acc'++[(s1,x.2)]) HD.o.1 HD.o.2.1 HD.o.t.1 HX.o.t.1 HL.o HX.o.1 HX.o.2.1 HX.o.d.1 ?_ ?_ HOWN.o.d ?_⟩
          ·simpa[mC]using hown1
          ·exact((HR.o.q.1.alloc hs _).alloc (by simp;omega) _).grown hgrow1 (by simp;omega) (fun j hj=>(HR.o.2.1.lt j hj).1)
          ·have:=HR.o.t.1;have:=HX.o.d.1;simp;omega
         case measure=>simp[intOf];omega
        ·have aeh:=hs1.1;have aei:=hs1.2;have aej:=hof.1.1;have Md:=hof.1.2;have aek:=hof.2.1;have ael:=hof.2.2;have aem:=zy.2.1;have aen:=zy.2.2;by_cases g2:s1<o2.1
         ·have hown':=(HR.o.2.1.alloc (sg o2.1 o2.2)).alloc (sg s1 (o2.1-1));have hnews:=eb (an (w3.alloc (sg o2.1 o2.2)) (sg s1 (o2.1-1)));rw[show(w3.alloc (sg o2.1 o2.2)).heap.size=w3.heap.size+1 by simp]at hnews;have aaA:(Value.slice A5 acc'.length c5).ownBlock≠some B:=fun h=>HR.o.d.1 B h rfl;have aaB:(Value.slice A5 acc'.length c5).ownBlock≠some w3.heap.size:=fun h=>by have:=(HR.o.2.1.lt _ h).2;omega
          have HOWN:=AI hown' hnews aaA aaB;have zN:=al hi;clear hown' hnews aaA aaB;by_cases g3:x.2<=o2.2
          ·have hlast:acc'++[(s1,o2.1-1)]=acc++eV x os2:=by rw[<-HR.o.q.2,Mc.o,eV,fb g1,ff g2,ff g3,fs]
           have xQ:=al hlast;clear hlast;go_wp2_with (at_builtin;go_loud (refine et _ rfl _ _ 74 rfl w.heap.size 80 i0 _ 2 16 underlying74 zN.o hz0 hz1 hz2 rfl (by decide) (.slice A5 acc'.length c5) acc'.length _ rfl HOWN.o.1 ⟨w3.heap.size+1,0,none⟩ 1 1 [rm s1,rm (o2.1-1)] rfl rfl HOWN.o.2.1 (by simp[Value.oneCell']) (by decide) (by unfold maxLen;omega) (by omega) (by simp;omega) _ rfl ?_);intro g2_ cap w4 hown1 hgrow1 jH qh;have qV:=al (xP HR.o.1 hgrow1 HOWN.o.d.1 HOWN.o.t);obtain⟨p0,p1,pf0,pf1⟩:=fE qV.o.1;obtain⟨r0,r1,_,_⟩:=fE qV.o.2);go_roundw
           case rel=>
            refine⟨k+1,by omega,by go_num,rU (acc2:=acc'++[(s1,o2.1-1)]) HD.o.1 HD.o.2.1 HD.o.t.1 HX.o.t.1 HL.o HX.o.1 HX.o.2.1 HX.o.d.1 ?_ ?_ xQ.o ?_⟩
            ·simpa[mC]using hown1
            ·exact((HR.o.q.1.alloc hs _).alloc (by simp;omega) _).grown hgrow1 (by simp;omega) (fun j hj=>(HR.o.2.1.lt j hj).1)
            ·have:=HR.o.t.1;have:=HX.o.d.1;simp;omega
           case measure=>simp[intOf];omega
          ·have hlast:(acc'++[(s1,o2.1-1)])++eV (o2.2+1,x.2) (os2.drop (j+1))=acc++eV x os2:=by
            rw[<-HR.o.q.2,Mc.o,eV.eq_2 (s1,x.2),fb g1,ff g2,fb g3,kh]
           have xQ:=al hlast;clear hlast;go_wp2_with (at_builtin;go_loud (refine et _ rfl _ _ 74 rfl w.heap.size 80 i0 _ 2 16 underlying74 zN.o hz0 hz1 hz2 rfl (by decide) (.slice A5 acc'.length c5) acc'.length _ rfl HOWN.o.1 ⟨w3.heap.size+1,0,none⟩ 1 1 [rm s1,rm (o2.1-1)] rfl rfl HOWN.o.2.1 (by simp[Value.oneCell']) (by decide) (by unfold maxLen;omega) (by omega) (by simp;omega) _ rfl ?_);intro g2_ cap w4 hown1 hgrow1 jH qh;have qV:=al (xP HR.o.1 hgrow1 HOWN.o.d.1 HOWN.o.t);obtain⟨p0,p1,pf0,pf1⟩:=fE qV.o.1;obtain⟨r0,r1,_,_⟩:=fE qV.o.2);go_roundw
           case rel=>
            have Pg:=((HR.o.q.1.alloc hs (sg o2.1 o2.2)).alloc (by simp;omega) (sg s1 (o2.1-1))).grown hgrow1 (by simp;omega) (fun j hj=>(HR.o.2.1.lt j hj).1)
            have VP:g2_≠B:=by
             rcases jH with h|h
             ·intro e;subst e;exact HOWN.o.d.1 h
             ·simp at h;omega
            refine⟨j+1,by omega,by go_num,o2.2+1,acc'++[(s1,o2.1-1)],?_,?_,?_,?_,?_,?_,xQ.o⟩
            ·have:=dp _ B 0 _ _ (rm (o2.2+1)) qV.o.1;simpa using this
            ·unfold lq;omega
            ·have h5:=aJ hown1 (S:=fun k=>k=B) (Only.aR w4 B 0 (rm (o2.2+1))) (fun g hg e=>VP (by simp[Value.ownBlock]at hg;omega));simpa[mC]using h5
            ·intro g hg;simp[Value.ownBlock]at hg;omega
            ·have:=HR.o.t.1;simp;omega
            ·exact Pg.setCell (p:=⟨B,0,none⟩) hwB _
           case measure=>simp[intOf];omega
         ·by_cases g3:x.2<=o2.2
          ·have hlast:acc'=acc++eV x os2:=by rw[<-HR.o.q.2,Mc.o,eV,fb g1,fb g2,ff g3];simp
           have xQ:=al hlast;clear hlast;go_wp2;go_roundw
           case rel=>refine⟨k+1,by omega,by go_num,rU (acc2:=acc') HD.o.1 HD.o.2.1 HD.o.t.1 HX.o.t.1 HL.o HX.o.1 HX.o.2.1 HX.o.d.1 (HR.o.2.1.alloc _) (HR.o.q.1.alloc hs _) xQ.o ?_⟩;have:=HR.o.t.1;have:=HX.o.d.1;omega
           case measure=>simp[intOf];omega
          ·have hlast:acc'++eV (o2.2+1,x.2) (os2.drop (j+1))=acc++eV x os2:=by
            rw[<-HR.o.q.2,Mc.o,eV.eq_2 (s1,x.2),fb g1,fb g2,fb g3,fj]
           have xQ:=al hlast;clear hlast;go_wp2;go_roundw
           case rel=>
            refine⟨j+1,by omega,by go_num,o2.2+1,acc',?_,?_,?_,HR.o.d.1,?_,?_,xQ.o⟩
            ·have:=dp _ B 0 _ _ (rm (o2.2+1)) HR.o.1;rw[Below.heap_alloc _ _ _ (by simpa using hBl)];simpa using this
            ·unfold lq;omega
            ·exact(aJ HR.o.2.1 (S:=fun k=>k=B) (Only.aR w3 B 0 (rm (o2.2+1))) (fun g hg e=>HR.o.d.1 g hg e)).alloc _
            ·have:=HR.o.t.1;omega
            ·exact(HR.o.q.1.setCell (p:=⟨B,0,none⟩) hwB _).alloc (by simpa using hs) _
           case measure=>simp[intOf];omega
       ·have hlast:acc'++[(s1,x.2)]=acc++eV x os2:=by rw[<-HR.o.q.2,List.drop_eq_nil_of_le (by omega)];rfl
        have hown':=HR.o.2.1.alloc (sg s1 x.2);have hnews:=eb (an w3 (sg s1 x.2));have HOWN:=AF hown' hnews hlast;have zN:=al hi;clear hown' hnews hlast;go_wp2_with (at_builtin;go_loud (refine et _ rfl _ _ 74 rfl w.heap.size 80 i0 _ 2 16 underlying74 zN.o hz0 hz1 hz2 rfl (by decide) (.slice A5 acc'.length c5) acc'.length _ rfl HOWN.o.1 ⟨w3.heap.size,0,none⟩ 1 1 [rm s1,rm x.2] rfl rfl HOWN.o.2.1 (by simp[Value.oneCell']) (by decide) (by unfold maxLen;omega) (by omega) (by simp;omega) _ rfl ?_);intro g2 cap w4 hown1 hgrow1 jH qh);go_roundw
        case rel=>
         refine⟨k+1,by omega,by go_num,rU (acc2:=acc'++[(s1,x.2)]) HD.o.1 HD.o.2.1 HD.o.t.1 HX.o.t.1 HL.o HX.o.1 HX.o.2.1 HX.o.d.1 ?_ ?_ HOWN.o.d ?_⟩
         ·simpa[mC]using hown1
         ·exact(HR.o.q.1.alloc hs _).grown hgrow1 (by simp;omega) (fun j hj=>(HR.o.2.1.lt j hj).1)
         ·have:=HR.o.t.1;have:=HX.o.d.1;simp;omega
        case measure=>simp[intOf];omega
  ·have hkl:k=l.length:=by omega
   subst hkl;go_wp2
   try rw[gx]
   go_ret
   rw[List.drop_length,bW,fs]at heq;obtain⟨A',c',rfl⟩:=ai hown;exact heq▸⟨A',c',rfl,hown,hbl⟩
end Go.Proofs.YtehccbdajiiaaaaGreatDoor
