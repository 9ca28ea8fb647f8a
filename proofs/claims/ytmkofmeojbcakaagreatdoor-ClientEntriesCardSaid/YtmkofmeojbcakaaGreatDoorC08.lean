import Derived.Test.YtmkofmeojbcakaaGreatDoorC07
import Derived.Laws.OwnMore
import Derived.Deep.RegionLaw
import Derived.Deep.DeepCutAuto
namespace Go.Proofs.YtmkofmeojbcakaaGreatDoor
open Go.Proofs.Tryz
set_option maxRecDepth 100000
set_option maxHeartbeats 16000000
open Go.RowKit
def bt(out:List (Int×Int))(x:Int×Int):List (Int×Int):=
 match out.getLast? with
 |none=>out++[x]
 |some a=>match wV a x with
  |none=>out++[x]
  |some y=>out.dropLast++[y]
def cG(l:List (Int×Int)):List (Int×Int):=l.foldl bt []
def gZ(l:List (Int×Int)):Prop:= ∀x∈l,km x.1/\km x.2
theorem Km{a b y:Int×Int}(h:wV a b=some y)(ha:km a.1/\km a.2)(hb:km b.1/\km b.2):km y.1/\km y.2:=by
 unfold wV at h;split at h
 ·cases h
 ·injection h with h;subst h;refine⟨ha.1,?_⟩;unfold km at *;simp only;omega
theorem BJ{out:List (Int×Int)}{x:Int×Int}(ho:gZ out)(hx:km x.1/\km x.2):gZ (bt out x):=by
 unfold bt;split
 ·intro y hy;rcases dy.1 hy with h|h
  ·exact ho y h
  ·simp at h;subst h;exact hx
 ·rename_i a ha;have hal:a∈out:=List.mem_of_getLast? ha;split
  ·intro y hy;rcases dy.1 hy with h|h
   ·exact ho y h
   ·simp at h;subst h;exact hx
  ·rename_i y hy;intro z hz;rcases dy.1 hz with h|h
   ·exact ho z (List.dropLast_subset _ h)
   ·simp at h;subst h;exact Km hy (ho a hal) hx
theorem BK(out:List (Int×Int))(x:Int×Int):(bt out x).length<=out.length+1:=by
 unfold bt;split
 ·simp
 ·split
  ·simp
  ·simp
theorem zU{l:List (Int×Int)}: ∀{out},gZ out->gZ l->gZ (l.foldl bt out):=by
 induction l with
 |nil=>intro out h _;exact h
 |cons x l ih=>intro out ho hl;exact ih (BJ ho (hl x (by simp))) (fun y hy=>hl y (by simp[hy]))
theorem zW{l:List (Int×Int)}: ∀{out:List (Int×Int)},(l.foldl bt out).length<=out.length+l.length:=by
 induction l with
 |nil=>intro out;simp
 |cons x l ih=>intro out;have:=ih (out:=bt out x);have:=BK out x;simp;omega
theorem Ri(l:List (Int×Int))(y:Int×Int)(hl:l≠[]):
  (((l.map mg).flatten.set ((l.length-1)*2) (.int .i64 y.1)).set ((l.length-1)*2+1) (.int .i64 y.2))=((l.dropLast++[y]).map mg).flatten:=by
 obtain⟨m,z,rfl⟩: ∃m z,l=m++[z]:=⟨l.dropLast,l.getLast hl,(List.dropLast_concat_getLast hl).symm⟩;have hlen:(m.map mg).flatten.length=m.length*2:=by rw[rJ (lJ m)];simp
 simp only[gk,lE,fb,List.length_singleton,nx,List.dropLast_concat];rw[List.set_append_right _ _ (by omega),List.set_append_right _ _ (by omega),hlen];simp[mg]
theorem zX{W w1:World}{n:Nat}(hn:W.heap.size=n)(hb:Below W.drew.heap.size W.drew w1)(Y:Obj):n<=w1.heap.size/\(w1.alloc Y).heap[w1.heap.size]?=some Y/\Below n W (w1.alloc Y):=by subst hn;have h:=nt hb;have hs:W.heap.size<=w1.heap.size:=h.size;exact⟨hs,an _ _,h.alloc hs _⟩
theorem xg{W w1:World}{n:Nat}{t:TypeId}{z0 z1:Value}(hn:W.heap.size=n)(hb:Below (W.alloc (.cells #[z0,z1] t)).drew.heap.size (W.alloc (.cells #[z0,z1] t)).drew w1)(a b:Value):
  n<=n/\((w1.setCell ⟨n,0,none⟩ a).setCell ⟨n,1,none⟩ b).heap[n]?=some (.cells #[a,b] t)/\Below n W ((w1.setCell ⟨n,0,none⟩ a).setCell ⟨n,1,none⟩ b):=by
 subst hn;have h:=nt hb
 have h1:w1.heap[W.heap.size]?=some (.cells #[z0,z1] t):=by rw[h.block W.heap.size (by show W.heap.size<(W.alloc (.cells #[z0,z1] t)).heap.size;simp)];exact an _ _
 refine⟨aE _,?_,?_⟩
 ·have h2:=db w1 W.heap.size 0 _ t a h1;have h3:=db _ W.heap.size 1 _ t b h2;simpa using h3
 ·have h2:Below W.heap.size W w1:=((aw _ _).alloc (aE _) _).x (h.m (by show W.heap.size<=(W.alloc (.cells #[z0,z1] t)).heap.size;simp));exact(h2.setCell (aE _) _).setCell (aE _) _
theorem fx{w:World}{b:Nat}{u v:Value}{t:TypeId}(h:w.heap[b]?=some (.cells #[u,v] t (0,0))):w.cell? ⟨b,0,none⟩=some u/\w.cell? ⟨b,1,none⟩=some v/\w.frozen? ⟨b,0,none⟩=false/\w.frozen? ⟨b,1,none⟩=false:=by simp[World.cell?,World.frozen?,h]
def M5(l:List (Int×Int))(w:World)(e:Ending)(w':World):Prop:=
 ∃A c,e=.returned (.slice A l.length c)/\w'.ownsRow w.heap.size 161 2 (.slice A l.length c) l.length (l.map mg).flatten/\Below w.heap.size w w'
def Yp(w:World)(l:List (Int×Int))(k:Nat)(v:Value)(w':World):Prop:=
 w'.ownsRow w.heap.size 161 2 v (((l.take k).foldl bt [])).length ((((l.take k).foldl bt [])).map mg).flatten/\Below w.heap.size w w'
theorem zZ(w:World)(F:Nat->Prop)(v:Value)(l:List (Int×Int))(h:mG w F v l)(hl:l.length<=1000)(hfit:gZ l):
  Calls prog 96 #[v,.func (.func 97) #[] #[]] w (M5 (cG l) w):=by
 obtain⟨i0,hi,hz0,hz1,hz2⟩:=ep Tryz.FJ;obtain⟨A,c,rfl,hnc,hcm⟩:=h.slice;have H:=al h;clear h;go_enter func96,ntmps96;go_wp2
 go_loopw [5,13] (fun v i wr=> ∃k,k<=l.length/\i=.int .i64 (k:Int)/\Yp w l k v wr) (fun _ i _=>l.length-(intOf i).toNat)
 case atStart=>exact⟨0,dq _,rfl,ea _ _ _ _,aw _ _⟩
 case round=>
  obtain⟨k,hk,rfl,hown,hbl⟩:=hrel;by_cases hlt:k<l.length
  ·obtain⟨x,hx⟩: ∃x,l[k]?=some x:=⟨_,ao hlt⟩;obtain⟨b,o,rfl,hF,c0,c1⟩:=H.o.at_ hx;have hb:b<w.heap.size:=aq w _ c0;have c0':=(hbl.cell (p:=⟨b,o+k*2,none⟩) hb).x c0;have c1':=(hbl.cell (p:=⟨b,o+k*2+1,none⟩) hb).x c1
   have htk:(l.take (k+1)).foldl bt []=bt ((l.take k).foldl bt []) x:=by rw[iv,hx];simp
   have BL:=hfit x (de hx);have hfo:gZ ((l.take k).foldl bt []):=zU (fun _ h=>by simp at h) (fun y hy=>hfit y (List.mem_of_mem_take hy))
   have DA:((l.take k).foldl bt []).length<=k:=by have:=zW (l:=l.take k) (out:=[]);simp at this;omega
   obtain⟨out,hout⟩:=qt ((l.take k).foldl bt []);rw[hout]at htk hfo DA hown;have HB:=al htk;clear hx c0 c1 hout htk;obtain⟨n,hn⟩:=qt (out.length);rw[hn]at hown DA;obtain⟨A5,c5,rfl⟩:=ag hown;have hs:=hbl.size;obtain⟨wa,Mg⟩:=qt (wr.alloc (.cells #[.int .i64 x.1,.int .i64 x.2] 161));have Xp:Below wr.heap.size wr wa:=by rw[<-Mg];exact(aw _ _).alloc (aE _) _
   have hsa:wa.heap.size=wr.heap.size+1:=by rw[<-Mg];simp
   have ek:wa.heap[wr.heap.size]?=some (.cells #[.int .i64 x.1,.int .i64 x.2] 161):=by rw[<-Mg];exact an _ _
   have Yq:=hbl.x (Xp.m hs)
   cases hgl:out.getLast? with
   |none=>
    have:out=[]:=by simpa using hgl
    subst this;simp at hn;subst hn;have hown':=(hown.alloc (.cells #[.int .i64 x.1,.int .i64 x.2] 161)).alloc (.cells #[.int .i64 x.1,.int .i64 x.2] 161);have hnews:=eb (an (wr.alloc (.cells #[.int .i64 x.1,.int .i64 x.2] 161)) (.cells #[.int .i64 x.1,.int .i64 x.2] 161));rw[show(wr.alloc (.cells #[.int .i64 x.1,.int .i64 x.2] 161)).heap.size=wr.heap.size+1 by simp]at hnews;have HOWN:=al (ab hown' (ab hnews hown));have Rh:=al hbl;have jh:=al hi;clear hown hown' hnews hbl Xp hsa ek Yq Mg hgl hfo;go_wp2_with (at_builtin;go_loud (refine eh _ rfl _ _ 155 rfl w.heap.size 161 i0 _ 2 16 underlying155 jh.o hz0 hz1 hz2 rfl (by decide) (.slice A5 0 c5) 0 _ rfl HOWN.o.1 ⟨wr.heap.size+1,0,none⟩ 1 1 [.int .i64 x.1,.int .i64 x.2] rfl rfl HOWN.o.2.1 (by simp[Value.oneCell']) (by decide) (by unfold maxLen;omega) (by omega) (by have:=Rh.o.size;simp;omega) _ rfl ?_);intro g cap w1 hown1 hgrow1 jt qg);go_roundw
    case rel=>
     refine⟨k+1,by omega,by go_num,?_,?_⟩
     ·rw[HB.o];simpa[bt,mg]using hown1
     ·exact((Rh.o.alloc (by omega) _).alloc (by simp;omega) _).grown hgrow1 (by simp;omega) (fun j hj=>(HOWN.o.d.lt j hj).1)
    case measure=>simp[intOf];omega
   |some a=>
    obtain⟨m,hm⟩: ∃m,n=m+1:=⟨out.length-1,by have:out≠[]:=(fun h=>by subst h;simp at hgl);have:=List.length_pos_iff.2 this;omega⟩;subst hm;have hm:=hn;have ham:out[m]?=some a:=by rw[List.getLast?_eq_getElem?,hm]at hgl;simpa using hgl
    have haf:=hfo a (de ham);have I5: ∀j u,(mg a)[j]?=some u->(out.map mg).flatten[m*2+j]?=some u:=lI (lJ out) m (mg a) (by simp[ham]);have hn0:out.length*2=m*2+2:=by omega
    obtain⟨g,cap,hv,hg0,aaU⟩:=hown.form (by omega);injection hv with hv1 _ hv3;subst hv1 hv3;have d0:=(hown.cellAt (m*2) (by omega)).x (I5 0 _ rfl);have d1:=(hown.cellAt (m*2+1) (by omega)).x (I5 1 _ rfl);have acs:g≠wr.heap.size:=by omega
    have d0':=aC d0 (.cells #[.int .i64 x.1,.int .i64 x.2] 161);have d1':=aC d1 (.cells #[.int .i64 x.1,.int .i64 x.2] 161);have HO:=al (ab hown (ab hgl (ab haf (ab I5 (ab ham hm)))));have jh:=al hi;have Rh:=al hbl;clear hown hgl haf I5 ham hm hi hn0 hbl Xp hsa ek Yq Mg hn;have hg1:g<wr.heap.size+1:=by omega
    have hg2:g<wr.heap.size+1+1:=by omega
    have TR:(m:Int)<(m:Int)+1:=by omega
    have f0:=HO.o.1.frozenAt (m*2);have f1:=HO.o.1.frozenAt (m*2+1)
    cases hms:wV a x with
    |none=>
     have HM:=al hms;clear hms;go_upto_region 7 with fail
     go_cut [9,10,13]from 13 to 41 (fun s9 s10 s13 wx=>s13=.int .i64 (k:Int)/\ ∃B,s9=.pointer (some ⟨B,0,none⟩)/\s10=.bool false/\wr.heap.size+1<=B/\wx.heap[B]?=some (.cells #[.int .i64 0,.int .i64 0] 161)/\Below (wr.heap.size+1) (wr.alloc (.cells #[.int .i64 x.1,.int .i64 x.2] 161)) wx)
     case first=>
      go_region_law ((go_simp;go_at_call 97;go_loud (refine(I2 _ a x HO.o.d.1.2 BL.1).m ?_);rintro e w1 ⟨nC,hmm⟩;rw[HM.o]at hmm;simp only at hmm;subst hmm;have M6:=al nC;obtain⟨bc,bf⟩:=TQ nC;clear nC))
      all_goals
       go_wp2
       go_meet
       first
        |exact⟨rfl,_,rfl,rfl,zX (by simp) M6.o _⟩
        |exact⟨rfl,_,rfl,rfl,xg (by simp) M6.o _ _⟩
     case rest=>
      obtain⟨rfl,B,rfl,rfl,U8,eV,hcb⟩:=hcut;have ek:wc.heap[wr.heap.size]?=some (.cells #[.int .i64 x.1,.int .i64 x.2] 161):=by rw[hcb.block _ (by omega)];exact an _ _
      obtain⟨x0,x1,_,_⟩:=fx ek;have qo:=aY (HO.o.1.alloc (.cells #[.int .i64 x.1,.int .i64 x.2] 161)) (w':=wc) (by simpa using hcb);have Kn:Below w.heap.size w wc:=(Rh.o.alloc (by omega) _).x (hcb.m (by omega));have hs2:=Kn.size;have hown':=qo.alloc (.cells #[.int .i64 x.1,.int .i64 x.2] 161);have hnews:=eb (an wc (.cells #[.int .i64 x.1,.int .i64 x.2] 161));have HOWN:=al (ab hown' (ab hnews (ab qo Kn)));clear hown' hnews qo Kn ek hcb eV;go_wp2_with (at_builtin;go_loud (refine eh _ rfl _ _ 155 rfl w.heap.size 161 i0 _ 2 16 underlying155 jh.o hz0 hz1 hz2 rfl (by decide) (.slice (some ⟨g,0,none⟩) (m+1) c5) (m+1) _ rfl HOWN.o.1 ⟨wc.heap.size,0,none⟩ 1 1 [.int .i64 x.1,.int .i64 x.2] rfl rfl HOWN.o.2.1 (by simp[Value.oneCell']) (by decide) (by unfold maxLen;omega) (by omega) (by simp;omega) _ rfl ?_);intro g2 cap w1 hown1 hgrow1 jt qg);go_roundw
      case rel=>
       refine⟨k+1,by omega,by go_num,?_,?_⟩
       ·have hj:bt out x=out++[x]:=by unfold bt;rw[HO.o.2.1];simp only;rw[HM.o]
        rw[HB.o,hj];have hl2:=HO.o.q.2;simpa[mg,hl2]using hown1
       ·exact(HOWN.o.t.alloc (by omega) _).grown hgrow1 (by simp;omega) (fun j hj=>(HOWN.o.d.1.lt j hj).1)
      case measure=>simp[intOf];omega
    |some y=>
     have HM:=al hms;clear hms;go_upto_region 7 with fail
     go_cut [9,10,13]from 13 to 41 (fun s9 s10 s13 wx=>s13=.int .i64 (k:Int)/\ ∃B,s9=.pointer (some ⟨B,0,none⟩)/\s10=.bool true/\wr.heap.size+1<=B/\wx.heap[B]?=some (.cells #[.int .i64 y.1,.int .i64 y.2] 161)/\Below (wr.heap.size+1) (wr.alloc (.cells #[.int .i64 x.1,.int .i64 x.2] 161)) wx)
     case first=>
      go_region_law ((go_simp;go_at_call 97;go_loud (refine(I2 _ a x HO.o.d.1.2 BL.1).m ?_);rintro e w1 ⟨nC,hmm⟩;rw[HM.o]at hmm;simp only at hmm;subst hmm;have M6:=al nC;obtain⟨bc,bf⟩:=TQ nC;clear nC))
      all_goals
       go_wp2
       go_meet
       first
        |exact⟨rfl,_,rfl,rfl,zX (by simp) M6.o _⟩
        |exact⟨rfl,_,rfl,rfl,xg (by simp) M6.o _ _⟩
     case rest=>
      obtain⟨rfl,B,rfl,rfl,U8,eV,hcb⟩:=hcut;have ek:wc.heap[wr.heap.size]?=some (.cells #[.int .i64 x.1,.int .i64 x.2] 161):=by rw[hcb.block _ (by omega)];exact an _ _
      obtain⟨x0,x1,_,_⟩:=fx ek;have qo:=aY (HO.o.1.alloc (.cells #[.int .i64 x.1,.int .i64 x.2] 161)) (w':=wc) (by simpa using hcb);have Kn:Below w.heap.size w wc:=(Rh.o.alloc (by omega) _).x (hcb.m (by omega));obtain⟨y0,y1,_,_⟩:=fx eV;have e0:=(qo.cellAt (m*2) (by omega)).x (HO.o.t.1 0 _ rfl);have e1:=(qo.cellAt (m*2+1) (by omega)).x (HO.o.t.1 1 _ rfl);have k0:=qo.frozenAt (m*2);have k1:=qo.frozenAt (m*2+1);have HOWN:=al (ab qo Kn);clear qo Kn ek hcb eV;go_wp2;go_roundw
      case rel=>
       refine⟨k+1,by omega,by go_num,?_,?_⟩
       ·have hj:bt out x=out.dropLast++[y]:=by unfold bt;rw[HO.o.2.1];simp only;rw[HM.o]
        have hl2:=HO.o.q.2;have hne:out≠[]:=fun h=>by subst h;simp at hl2
        rw[HB.o,hj,<-Ri out y hne,hl2];have hl3:(out.dropLast++[y]).length=m+1:=by simp[hl2]
        rw[hl3];exact((HOWN.o.1.stored (m*2) _).1.stored (m*2+1) _).1
       ·exact(HOWN.o.2.setCell hg0 _).setCell hg0 _
      case measure=>simp[intOf];omega
  ·have hkl:k=l.length:=by omega
   subst hkl;go_wp2;go_ret
   rw[gd]at hown;obtain⟨A',c',rfl⟩:=ag hown;exact⟨A',c',rfl,hown,hbl⟩
def eW(s:Int×Int):List (Int×Int)->List (Int×Int)
 |[]=>[s]
 |o::os=>if s.2<o.1 then[s]else
   (if s.1<o.1 then[(s.1,o.1-1)]else[])++(if s.2<=o.2 then[]else eW (o.2+1,s.2) os)
def cP(lo:Int)(os:List (Int×Int)):List (Int×Int):=os.dropWhile fun o=>decide (o.2<lo)
def bW:List (Int×Int)->List (Int×Int)->List (Int×Int)
 |[],_=>[]
 |s::l,os=>eW s (cP s.1 os)++bW l (cP s.1 os)
def lq(l:List (Int×Int))(n:Int):Prop:= ∃x∈l,x.1<=n/\n<=x.2
def tq(l:List (Int×Int)):Prop:= ∀x∈l,x.1<=x.2
def cH(l:List (Int×Int)):Prop:=tq l/\l.Pairwise fun a b=>a.2+1<b.1
theorem eo(n:Int): ¬lq [] n:=by rintro⟨x,hx,_⟩;simp at hx
theorem bu{x:Int×Int}{l:List (Int×Int)}{n:Int}:lq (x::l) n↔(x.1<=n/\n<=x.2)\/lq l n:=by unfold lq;simp
theorem nD{a b:List (Int×Int)}{n:Int}:lq (a++b) n↔lq a n\/lq b n:=by
 unfold lq;constructor
 ·rintro⟨x,hx,h⟩;rcases dy.1 hx with hx|hx
  ·exact .inl ⟨x,hx,h⟩
  ·exact .inr ⟨x,hx,h⟩
 ·rintro(⟨x,hx,h⟩|⟨x,hx,h⟩)
  ·exact⟨x,dy.2 (.inl hx),h⟩
  ·exact⟨x,dy.2 (.inr hx),h⟩
theorem DB{a b:List (Int×Int)}(h:a.Perm b)(n:Int):lq a n↔lq b n:=
 ⟨fun⟨x,hx,h1⟩=>⟨x,h.mem_iff.1 hx,h1⟩,fun⟨x,hx,h1⟩=>⟨x,h.mem_iff.2 hx,h1⟩⟩
theorem cH.tail{x:Int×Int}{l:List (Int×Int)}(h:cH (x::l)):cH l:=⟨fun y hy=>h.1 y (by simp[hy]),(eR.1 h.2).2⟩
theorem cH.head{x:Int×Int}{l:List (Int×Int)}(h:cH (x::l)):x.1<=x.2/\ ∀n,lq l n->x.2+1<n:=by refine⟨h.1 x (by simp),?_⟩;rintro n ⟨y,hy,h1,_⟩;have:=(eR.1 h.2).1 y hy;omega
theorem cH.cons{x:Int×Int}{l:List (Int×Int)}(hx:x.1<=x.2)(hl:cH l)(h: ∀y∈l,x.2+1<y.1):cH (x::l):=by
 refine⟨fun y hy=>?_,eR.2 ⟨h,hl.2⟩⟩;rcases e7.1 hy with rfl|hy
 ·exact hx
 ·exact hl.1 y hy
theorem oQ: ∀{a b:List (Int×Int)},cH a->cH b->(∀n,lq a n↔lq b n)->a=b
 |[],[],_,_,_=>rfl
 |[],y::b,_,hb,h=>absurd ((h y.1).2 (bu.2 (.inl ⟨eL _,(hb.head).1⟩))) (eo _)
 |x::a,[],ha,_,h=>absurd ((h x.1).1 (bu.2 (.inl ⟨eL _,(ha.head).1⟩))) (eo _)
 |x::a,y::b,ha,hb,h=>by
  obtain⟨hx,jT⟩:=ha.head;obtain⟨hy,hyb⟩:=hb.head
  have e1:x.1=y.1:=by
   have p:=(h x.1).1 (bu.2 (.inl ⟨eL _,hx⟩));have q:=(h y.1).2 (bu.2 (.inl ⟨eL _,hy⟩));rcases bu.1 p with p|p<;>rcases bu.1 q with q|q
   ·omega
   ·have:=jT _ q;omega
   ·have:=hyb _ p;omega
   ·have:=jT _ q;have:=hyb _ p;omega
  have e2:x.2=y.2:=by
   rcases Int.lt_trichotomy x.2 y.2 with hlt|he|hgt
   ·have p:=(h (x.2+1)).2 (bu.2 (.inl ⟨by omega,by omega⟩));rcases bu.1 p with p|p
    ·omega
    ·have:=jT _ p;omega
   ·exact he
   ·have p:=(h (y.2+1)).1 (bu.2 (.inl ⟨by omega,by omega⟩));rcases bu.1 p with p|p
    ·omega
    ·have:=hyb _ p;omega
  have e:x=y:=Prod.ext e1 e2;subst e;rw[oQ ha.tail hb.tail (fun n=>?_)];have:=h n;rw[bu,bu]at this;constructor
  ·intro p;have h1:=jT n p;rcases this.1 (.inr p)with q|q
   ·omega
   ·exact q
  ·intro p;have h1:=hyb n p;rcases this.2 (.inr p)with q|q
   ·omega
   ·exact q
theorem yR{out:List (Int×Int)}{x:Int×Int}(ho:cH out)(hx:x.1<=x.2)(hlo: ∀y∈out,y.1<=x.1):
  cH (bt out x)/\(∀n,lq (bt out x) n↔lq out n\/(x.1<=n/\n<=x.2))/\ ∀y∈bt out x,y.1<=x.1:=by
 rcases List.eq_nil_or_concat out with rfl|⟨m,a,rfl⟩
 ·simp only[bt,List.getLast?_nil,fs];refine⟨cH.cons hx ⟨fun y hy=>by simp at hy,et⟩ (fun y hy=>by simp at hy),fun n=>?_,fun y hy=>by simp at hy;subst hy;exact eL _⟩;rw[bu];constructor
  ·rintro(h|h)
   ·exact .inr h
   ·exact absurd h (eo n)
  ·rintro(h|h)
   ·exact absurd h (eo n)
   ·exact .inl h
 ·rw[List.concat_eq_append]at ho hlo⊢;have hal:=hlo a (by simp);have hap:=ho.1 a (by simp);have hm: ∀y∈m,y.2+1<a.1:=fun y hy=>(List.pairwise_append.1 ho.2).2.2 y hy a (fj.2 rfl);have Vb:cH m:=⟨fun y hy=>ho.1 y (by simp[hy]),(List.pairwise_append.1 ho.2).1⟩
  have snoc: ∀{m:List (Int×Int)} {z:Int×Int},cH m->z.1<=z.2->(∀y∈m,y.2+1<z.1)->cH (m++[z]):=by
   intro m z h1 h2 h3;refine⟨fun y hy=>?_,List.pairwise_append.2 ⟨h1.2,by simp,fun y hy u hu=>?_⟩⟩
   ·rcases dy.1 hy with hy|hy
    ·exact h1.1 y hy
    ·simp at hy;subst hy;exact h2
   ·simp at hu;subst hu;exact h3 y hy
  unfold bt;simp only[List.getLast?_append,List.getLast?_singleton,Option.some_or,wV];by_cases hg:a.2<x.1/\a.2+1<x.1
  ·rw[fi hg];simp only;refine⟨snoc ho hx ?_,fun n=>?_,?_⟩
   ·intro y hy;rcases dy.1 hy with hy|hy
    ·have:=hm y hy;omega
    ·simp at hy;subst hy;exact hg.2
   ·rw[nD,bu];constructor
    ·rintro(h|h|h)
     ·exact .inl h
     ·exact .inr h
     ·exact absurd h (eo n)
    ·rintro(h|h)
     ·exact .inl h
     ·exact .inr (.inl h)
   ·intro y hy;rcases dy.1 hy with hy|hy
    ·exact hlo y hy
    ·simp at hy;subst hy;exact eL _
  ·rw[ff hg];simp only[List.dropLast_concat];refine⟨snoc Vb (by simp only;omega) hm,fun n=>?_,?_⟩
   ·rw[nD,nD,bu,bu];simp only;have h0:=eo n;constructor
    ·rintro(h|h|h)
     ·exact .inl (.inl h)
     ·by_cases h1:n<=a.2
      ·exact .inl (.inr (.inl ⟨h.1,h1⟩))
      ·exact .inr (by omega)
     ·exact absurd h h0
    ·rintro((h|h|h)|h)
     ·exact .inl h
     ·exact .inr (.inl (by omega))
     ·exact absurd h h0
     ·exact .inr (.inl (by omega))
   ·intro y hy;rcases dy.1 hy with hy|hy
    ·exact hlo y (by simp[hy])
    ·simp at hy;subst hy;exact hal
theorem xj: ∀{s out:List (Int×Int)},cH out->tq s->(s.Pairwise fun a b=>a.1<=b.1)->(∀y∈out,∀x∈s,y.1<=x.1)->
  cH (s.foldl bt out)/\ ∀n,lq (s.foldl bt out) n↔lq out n\/lq s n
 |[],out,ho,_,_,_=>⟨ho,fun n=>⟨.inl,fun h=>h.resolve_right (eo n)⟩⟩
 |x::s,out,ho,hp,hs,hlo=>by
  obtain⟨h1,h2,h3⟩:=yR ho (hp x (by simp)) (fun y hy=>hlo y hy x (by simp));obtain⟨hs1,hs2⟩:=eR.1 hs;obtain⟨h4,h5⟩:=xj (s:=s) h1 (fun y hy=>hp y (by simp[hy])) hs2 (fun y hy z hz=>Int.le_trans (h3 y hy) (hs1 z hz));refine⟨h4,fun n=>?_⟩;rw[List.foldl_cons,h5,h2,bu];constructor
  ·rintro((h|h)|h)
   ·exact .inl h
   ·exact .inr (.inl h)
   ·exact .inr (.inr h)
  ·rintro(h|h|h)
   ·exact .inl (.inl h)
   ·exact .inl (.inr h)
   ·exact .inr h
theorem xm{s:List (Int×Int)}(hp:tq s)(hs:s.Pairwise fun a b=>a.1<=b.1):cH (cG s)/\ ∀n,lq (cG s) n↔lq s n:=by obtain⟨h1,h2⟩:=xj (out:=[]) ⟨fun y hy=>by simp at hy,et⟩ hp hs (fun y hy=>by simp at hy);exact⟨h1,fun n=>(h2 n).x ⟨fun h=>h.resolve_left (eo n),.inr⟩⟩
theorem xo: ∀{os:List (Int×Int)} {s:Int×Int},s.1<=s.2->cH os->(∀o∈os,s.1<=o.2)->
  cH (eW s os)/\(∀n,lq (eW s os) n↔(s.1<=n/\n<=s.2)/\ ¬lq os n)/\ ∀y∈eW s os,s.1<=y.1/\y.2<=s.2
 |[],s,hs,_,_=>by
  refine⟨cH.cons hs ⟨fun y hy=>by simp at hy,et⟩ (fun y hy=>by simp at hy),fun n=>?_,fun y hy=>by simp[eW]at hy;subst hy;exact⟨eL _,eL _⟩⟩;simp only[eW,bu];have h0:=eo n;constructor
  ·rintro(h|h)
   ·exact⟨h,h0⟩
   ·exact absurd h h0
  ·rintro⟨h,_⟩;exact .inl h
 |o::os,s,hs,hos,qh=>by
  obtain⟨ho,FN⟩:=hos.head;have hol:=qh o (by simp);have hoy: ∀y∈os,o.2+1<y.1:=(eR.1 hos.2).1;unfold eW;by_cases h1:s.2<o.1
  ·rw[fi h1];refine⟨cH.cons hs ⟨fun y hy=>by simp at hy,et⟩ (fun y hy=>by simp at hy),fun n=>?_,fun y hy=>by simp at hy;subst hy;exact⟨eL _,eL _⟩⟩;rw[bu,bu];have h0:=eo n;constructor
   ·rintro(h|h)
    ·refine⟨h,?_⟩;rintro(h2|h2)
     ·omega
     ·have:=FN n h2;omega
    ·exact absurd h h0
   ·rintro⟨h,_⟩;exact .inl h
  ·rw[ff h1];by_cases h2:s.2<=o.2
   ·rw[fi h2,gn];by_cases h3:s.1<o.1
    ·rw[fi h3];refine⟨cH.cons (by simp only;omega) ⟨fun y hy=>by simp at hy,et⟩ (fun y hy=>by simp at hy),fun n=>?_,fun y hy=>by simp at hy;subst hy;simp only;omega⟩;rw[bu,bu];have h0:=eo n;simp only;constructor
     ·rintro(h|h)
      ·refine⟨by omega,?_⟩;rintro(h4|h4)
       ·omega
       ·have:=FN n h4;omega
      ·exact absurd h h0
     ·rintro⟨h,h4⟩;have: ¬(o.1<=n/\n<=o.2):=fun h5=>h4 (.inl h5);exact .inl (by omega)
    ·rw[ff h3];refine⟨⟨fun y hy=>by simp at hy,et⟩,fun n=>?_,fun y hy=>by simp at hy⟩;rw[bu];have h0:=eo n;constructor
     ·intro h;exact absurd h h0
     ·rintro⟨h,h4⟩;exact absurd (.inl (by omega)) h4
   ·rw[ff h2];obtain⟨r1,r2,r3⟩:=xo (os:=os) (s:=(o.2+1,s.2)) (by simp only;omega) hos.tail (fun y hy=>by have:=hoy y hy;have:=hos.1 y (by simp[hy]);simp only;omega);simp only at r2 r3;by_cases h3:s.1<o.1
    ·rw[fi h3];refine⟨?_,fun n=>?_,?_⟩
     ·refine cH.cons (by simp only;omega) r1 (fun y hy=>?_);have:=(r3 y hy).1;simp only;omega
     ·rw[List.singleton_append,bu,r2,bu];simp only;constructor
      ·rintro(h|⟨h,h5⟩)
       ·refine⟨by omega,?_⟩;rintro(h4|h4)
        ·omega
        ·have:=FN n h4;omega
       ·refine⟨by omega,?_⟩;rintro(h4|h4)
        ·omega
        ·exact h5 h4
      ·rintro⟨h,h4⟩;have h6: ¬(o.1<=n/\n<=o.2):=fun h5=>h4 (.inl h5);by_cases h7:n<o.1
       ·exact .inl (by omega)
       ·exact .inr ⟨by omega,fun h8=>h4 (.inr h8)⟩
     ·intro y hy;rcases dy.1 hy with hy|hy
      ·simp at hy;subst hy;simp only;omega
      ·have:=r3 y hy;omega
    ·rw[ff h3,fs];refine⟨r1,fun n=>?_,fun y hy=>by have:=r3 y hy;omega⟩;rw[r2,bu];constructor
     ·rintro⟨h,h5⟩;refine⟨by omega,?_⟩;rintro(h4|h4)
      ·omega
      ·exact h5 h4
     ·rintro⟨h,h4⟩;have h6: ¬(o.1<=n/\n<=o.2):=fun h5=>h4 (.inl h5);exact⟨by omega,fun h8=>h4 (.inr h8)⟩
theorem rL: ∀{os:List (Int×Int)} (lo:Int),cH os->cH (cP lo os)/\(∀o∈cP lo os,lo<=o.2)/\ ∀n,lo<=n->(lq (cP lo os) n↔lq os n)
 |[],lo,h=>⟨h,fun o ho=>by simp[cP]at ho,fun n _=>Iff.rfl⟩
 |o::os,lo,h=>by
  unfold cP;rw[List.dropWhile_cons];by_cases h1:o.2<lo
  ·rw[fi (by simpa using h1)];obtain⟨a,b,c⟩:=rL lo h.tail;refine⟨a,b,fun n hn=>(c n hn).x ?_⟩;rw[bu];exact⟨.inr,fun h2=>h2.resolve_left (by omega)⟩
  ·rw[ff (by simpa using h1)];refine⟨h,fun y hy=>?_,fun n _=>Iff.rfl⟩;rcases e7.1 hy with rfl|hy
   ·omega
   ·have:=(eR.1 h.2).1 y hy;have:=h.1 y (by simp[hy]);have:=h.1 o (by simp);omega
theorem qp: ∀{l os:List (Int×Int)},cH l->cH os->cH (bW l os)/\(∀n,lq (bW l os) n↔lq l n/\ ¬lq os n)/\ ∀y∈bW l os,∃x∈l,x.1<=y.1/\y.2<=x.2
 |[],os,h,_=>⟨h,fun n=>⟨fun h=>absurd h (eo n),fun h=>h.1⟩,fun y hy=>by simp[bW]at hy⟩
 |s::l,os,h,hos=>by
  obtain⟨hs,hsl⟩:=h.head;obtain⟨d1,d2,d3⟩:=rL s.1 hos;obtain⟨c1,c2,c3⟩:=xo hs d1 d2;obtain⟨w1,w2,w3⟩:=qp (l:=l) h.tail d1;have hsy: ∀y∈l,s.2+1<y.1:=(eR.1 h.2).1;unfold bW;refine⟨⟨fun y hy=>?_,List.pairwise_append.2 ⟨c1.2,w1.2,fun y hy z hz=>?_⟩⟩,fun n=>?_,fun y hy=>?_⟩
  ·rcases dy.1 hy with hy|hy
   ·exact c1.1 y hy
   ·exact w1.1 y hy
  ·obtain⟨x,hx,h1,_⟩:=w3 z hz;have:=hsy x hx;have:=c3 y hy;omega
  ·rw[nD,c2,w2,bu];constructor
   ·rintro(⟨h1,h2⟩|⟨h1,h2⟩)
    ·exact⟨.inl h1,fun h3=>h2 ((d3 n h1.1).2 h3)⟩
    ·have:=hsl n h1;exact⟨.inr h1,fun h3=>h2 ((d3 n (by omega)).2 h3)⟩
   ·rintro⟨h1|h1,h2⟩
    ·exact .inl ⟨h1,fun h3=>h2 ((d3 n h1.1).1 h3)⟩
    ·have:=hsl n h1;exact .inr ⟨h1,fun h3=>h2 ((d3 n (by omega)).1 h3)⟩
  ·rcases dy.1 hy with hy|hy
   ·exact⟨s,by simp,c3 y hy⟩
   ·obtain⟨x,hx,h1⟩:=w3 y hy;exact⟨x,by simp[hx],h1⟩
theorem dW{α:Type}{l:List α}{k:Nat}{x:α}(h:l[k]?=some x):l.take (k+1)=l.take k++[x]:=by rw[iv,h];rfl
abbrev lN:=Int×List UInt8×Int
def Cl.has(c:Cl)(t:lN):Prop:=c.aM=t.1/\c.key=t.2.1/\c.lo<=t.2.2/\t.2.2<=c.hi
instance (c:Cl) (t:lN):Decidable (c.has t):=by unfold Cl.has;infer_instance
def fo(l:List Cl)(t:lN):Int:=
 if ∃c∈l,c.has t/\c.wr=true then 2 else if ∃c∈l,c.has t then 1 else 0
theorem gJ{l:List Cl}{t:lN}:fo l t=2↔ ∃c∈l,c.has t/\c.wr=true:=by
 unfold fo;split
 ·simp_all
 ·split<;>simp_all
theorem cJ{l:List Cl}{t:lN}:1<=fo l t↔ ∃c∈l,c.has t:=by
 unfold fo;split
 ·rename_i h;obtain⟨c,h1,h2,_⟩:=h;exact⟨fun _=>⟨c,h1,h2⟩,fun _=>by decide⟩
 ·split
  ·rename_i h;exact⟨fun _=>h,fun _=>by decide⟩
  ·rename_i h;exact⟨fun h0=>absurd h0 (by decide),fun h0=>absurd h0 h⟩
theorem iT(l:List Cl)(t:lN):0<=fo l t/\fo l t<=2:=by
 unfold fo;split
 ·omega
 ·split<;>omega
theorem M7{a b:List Cl}{t:lN}(h2:(∃c∈a,c.has t/\c.wr=true)-> ∃c∈b,c.has t/\c.wr=true)(h1:(∃c∈a,c.has t)-> ∃c∈b,c.has t):fo a t<=fo b t:=by have e2:fo a t=2->fo b t=2:=fun h=>gJ.2 (h2 (gJ.1 h));have e1:1<=fo a t->1<=fo b t:=fun h=>cJ.2 (h1 (cJ.1 h));have:=iT a t;have:=iT b t;omega
theorem I7{a b:List Cl}(h: ∀c,c∈a->c∈b)(t:lN):fo a t<=fo b t:=
 M7 (fun⟨c,x,y⟩=>⟨c,h c x,y⟩) (fun⟨c,x,y⟩=>⟨c,h c x,y⟩)
theorem Rj(t:lN):fo [] t=0:=by simp[fo]
theorem nE(a b:List Cl)(t:lN):fo (a++b) t=max (fo a t) (fo b t):=by
 have h1:=I7 (a:=a) (b:=a++b) (fun c h=>dy.2 (.inl h)) t;have h2:=I7 (a:=b) (b:=a++b) (fun c h=>dy.2 (.inr h)) t
 have h3:fo (a++b) t=2->fo a t=2\/fo b t=2:=by
  intro h;obtain⟨c,hc,h⟩:=gJ.1 h;rcases dy.1 hc with hc|hc
  ·exact .inl (gJ.2 ⟨c,hc,h⟩)
  ·exact .inr (gJ.2 ⟨c,hc,h⟩)
 have h4:1<=fo (a++b) t->1<=fo a t\/1<=fo b t:=by
  intro h;obtain⟨c,hc,h⟩:=cJ.1 h;rcases dy.1 hc with hc|hc
  ·exact .inl (cJ.2 ⟨c,hc,h⟩)
  ·exact .inr (cJ.2 ⟨c,hc,h⟩)
 have:=iT a t;have:=iT b t;have:=iT (a++b) t;omega
theorem DC(a:List Cl)(c:Cl)(t:lN):fo (a++[c]) t=if c.has t then(if c.wr=true then 2 else max (fo a t) 1)else fo a t:=by
 rw[nE];have hb:=iT a t
 have h1:fo [c] t=if c.has t then(if c.wr=true then 2 else 1)else 0:=by unfold fo;by_cases h:c.has t<;>by_cases hw:c.wr=true<;>simp[h,hw]
 rw[h1];by_cases h:c.has t
 ·by_cases hw:c.wr=true
  ·simp only[h,hw,if_true];omega
  ·simp only[h,hw,if_true];simp
 ·simp only[h,if_false];omega
theorem qq{α:Type}{r:α->α->Prop}(irr: ∀a,¬r a a)(asy: ∀a b,r a b->r b a->False): ∀{a b:List α},a.Pairwise r->b.Pairwise r->(∀x,x∈a↔x∈b)->a=b
 |[],[],_,_,_=>rfl
 |[],y::b,_,_,h=>absurd ((h y).2 (by simp)) (by simp)
 |x::a,[],_,_,h=>absurd ((h x).1 (by simp)) (by simp)
 |x::a,y::b,ha,hb,h=>by
  have ha':=eR.1 ha;have hb':=eR.1 hb
  have hxy:x=y:=by
   rcases e7.1 ((h x).1 (by simp))with e|e
   ·exact e
   ·rcases e7.1 ((h y).2 (by simp))with e'|e'
    ·exact e'.symm
    ·exact(asy _ _ (ha'.1 _ e') (hb'.1 _ e)).elim
  subst hxy;congr 1;refine qq irr asy ha'.2 hb'.2 fun z=>?_;constructor
  ·intro hz;rcases e7.1 ((h z).1 (by simp[hz]))with e|e
   ·subst e;exact absurd (ha'.1 _ hz) (irr _)
   ·exact e
  ·intro hz;rcases e7.1 ((h z).2 (by simp[hz]))with e|e
   ·subst e;exact absurd (hb'.1 _ hz) (irr _)
   ·exact e
def yS(x:Bool×List UInt8):Cl:=⟨x.1,-1,x.2,0,0⟩
def uX(W R:Int->List (Int×Int))(i:Int):List Cl:=(W i).map (s8 i true)++(R i).map (s8 i false)
def fA(ks:List (Bool×List UInt8))(W R:Int->List (Int×Int)):List Cl:=
 ks.map yS++uX W R 0++uX W R 1++uX W R 2++uX W R 3
def I8(l:List Cl):Prop:= ∃ks W R,l=fA ks W R/\(ks.Pairwise fun a b=>a.2<b.2)/\ ∀i:Int,0<=i->i<4->cH (W i)/\cH (R i)/\ ∀n,lq (W i) n-> ¬lq (R i) n
theorem gq{W R:Int->List (Int×Int)}{i:Int}{c:Cl}:c∈uX W R i↔(∃x∈W i,s8 i true x=c)\/ ∃x∈R i,s8 i false x=c:=by unfold uX;rw[List.mem_append,List.mem_map,List.mem_map]
theorem dt{ks:List (Bool×List UInt8)}{W R:Int->List (Int×Int)}{c:Cl}:c∈fA ks W R↔(∃x∈ks,yS x=c)\/ ∃i:Int,0<=i/\i<4/\c∈uX W R i:=by
 unfold fA;simp only[List.mem_append,List.mem_map];constructor
 ·rintro((((h|h)|h)|h)|h)
  ·exact .inl h
  ·exact .inr ⟨0,by decide,by decide,h⟩
  ·exact .inr ⟨1,by decide,by decide,h⟩
  ·exact .inr ⟨2,by decide,by decide,h⟩
  ·exact .inr ⟨3,by decide,by decide,h⟩
 ·rintro(h|⟨i,h1,h2,h⟩)
  ·exact .inl (.inl (.inl (.inl h)))
  ·have:i=0\/i=1\/i=2\/i=3:=by omega
   rcases this with rfl|rfl|rfl|rfl
   ·exact .inl (.inl (.inl (.inr h)))
   ·exact .inl (.inl (.inr h))
   ·exact .inl (.inr h)
   ·exact .inr h
theorem ia{x:Bool×List UInt8}{t:lN}:(yS x).has t↔t=(-1,x.2,0):=by
 obtain⟨a,b,n⟩:=t;unfold Cl.has yS;simp only[mc];constructor
 ·rintro⟨h1,h2,h3,h4⟩;exact⟨h1.symm,h2.symm,by omega⟩
 ·rintro⟨h1,h2,h3⟩;exact⟨h1.symm,h2.symm,by omega,by omega⟩
theorem ez{i:Int}{b:Bool}{x:Int×Int}{t:lN}:(s8 i b x).has t↔t.1=i/\t.2.1=[]/\x.1<=t.2.2/\t.2.2<=x.2:=by
 unfold Cl.has s8;simp only;constructor
 ·rintro⟨h1,h2,h3⟩;exact⟨h1.symm,h2.symm,h3⟩
 ·rintro⟨h1,h2,h3⟩;exact⟨h1.symm,h2.symm,h3⟩
section
variable{ks:List (Bool×List UInt8)}{W R:Int->List (Int×Int)}
theorem nG{k:List UInt8}:1<=fo (fA ks W R) (-1,k,0)↔ ∃b,(b,k)∈ks:=by
 rw[cJ];constructor
 ·rintro⟨c,hc,h⟩;rcases dt.1 hc with⟨x,hx,rfl⟩|⟨i,h1,h2,hi⟩
  ·have:=ia.1 h;simp at this;exact⟨x.1,by rw[this];exact hx⟩
  ·rcases gq.1 hi with⟨x,_,rfl⟩|⟨x,_,rfl⟩
   ·have:=(ez.1 h).1;simp only at this;omega
   ·have:=(ez.1 h).1;simp only at this;omega
 ·rintro⟨b,hb⟩;exact⟨_,dt.2 (.inl ⟨_,hb,rfl⟩),ia.2 rfl⟩
theorem nH{k:List UInt8}:fo (fA ks W R) (-1,k,0)=2↔(true,k)∈ks:=by
 rw[gJ];constructor
 ·rintro⟨c,hc,h,hw⟩;rcases dt.1 hc with⟨x,hx,rfl⟩|⟨i,h1,h2,hi⟩
  ·have:=ia.1 h;simp at this;unfold yS at hw;simp only at hw;obtain⟨x1,x2⟩:=x
   simp_all
  ·rcases gq.1 hi with⟨x,_,rfl⟩|⟨x,_,rfl⟩
   ·have:=(ez.1 h).1;simp only at this;omega
   ·have:=(ez.1 h).1;simp only at this;omega
 ·rintro hb;exact⟨_,dt.2 (.inl ⟨_,hb,rfl⟩),ia.2 rfl,rfl⟩
theorem nI{i n:Int}(h0:0<=i)(h4:i<4):fo (fA ks W R) (i,[],n)=2↔lq (W i) n:=by
 rw[gJ];constructor
 ·rintro⟨c,hc,h,hw⟩;rcases dt.1 hc with⟨x,hx,rfl⟩|⟨j,h1,h2,hi⟩
  ·have:=ia.1 h;simp at this;omega
  ·rcases gq.1 hi with⟨x,hx,rfl⟩|⟨x,_,rfl⟩
   ·have h':=ez.1 h;simp only at h';obtain⟨rfl,_,h3⟩:=h';exact⟨x,hx,h3⟩
   ·cases hw
 ·rintro⟨x,hx,h⟩;exact⟨_,dt.2 (.inr ⟨i,h0,h4,gq.2 (.inl ⟨x,hx,rfl⟩)⟩),ez.2 ⟨rfl,rfl,h⟩,rfl⟩
theorem nJ{i n:Int}(h0:0<=i)(h4:i<4):1<=fo (fA ks W R) (i,[],n)↔lq (W i) n\/lq (R i) n:=by
 rw[cJ];constructor
 ·rintro⟨c,hc,h⟩;rcases dt.1 hc with⟨x,hx,rfl⟩|⟨j,h1,h2,hi⟩
  ·have:=ia.1 h;simp at this;omega
  ·rcases gq.1 hi with⟨x,hx,rfl⟩|⟨x,hx,rfl⟩
   ·have h':=ez.1 h;simp only at h';obtain⟨rfl,_,h3⟩:=h';exact .inl ⟨x,hx,h3⟩
   ·have h':=ez.1 h;simp only at h';obtain⟨rfl,_,h3⟩:=h';exact .inr ⟨x,hx,h3⟩
 ·rintro(⟨x,hx,h⟩|⟨x,hx,h⟩)
  ·exact⟨_,dt.2 (.inr ⟨i,h0,h4,gq.2 (.inl ⟨x,hx,rfl⟩)⟩),ez.2 ⟨rfl,rfl,h⟩⟩
  ·exact⟨_,dt.2 (.inr ⟨i,h0,h4,gq.2 (.inr ⟨x,hx,rfl⟩)⟩),ez.2 ⟨rfl,rfl,h⟩⟩
end
theorem BM(a:List UInt8): ¬a<a:=List.lt_irrefl a
theorem Rk{a b:List UInt8}(h:a<b)(h':b<a):False:=List.lt_irrefl a (List.lt_trans h h')
theorem DD{a b:List Cl}(ha:I8 a)(hb:I8 b)(h: ∀t,fo a t=fo b t):a=b:=by
 obtain⟨ks,W,R,rfl,hk,hn⟩:=ha;obtain⟨ks',W',R',rfl,hk',hn'⟩:=hb
 have hp: ∀{ks:List (Bool×List UInt8)},(ks.Pairwise fun a b=>a.2<b.2)-> ∀x∈ks,∀y∈ks,x.2=y.2->x=y:=by
  intro ks hk x hx y hy e;by_cases hne:x=y
  ·exact hne
  ·obtain⟨i,hi,rfl⟩:=List.mem_iff_getElem.1 hx;obtain⟨j,hj,rfl⟩:=List.mem_iff_getElem.1 hy;rcases Nat.lt_trichotomy i j with hij|hij|hij
   ·have:=List.pairwise_iff_getElem.1 hk i j hi hj hij;rw[e]at this;exact(BM _ this).elim
   ·subst hij;rfl
   ·have:=List.pairwise_iff_getElem.1 hk j i hj hi hij;rw[e]at this;exact(BM _ this).elim
 have hks:ks=ks':=by
  refine qq (r:=fun a b=>a.2<b.2) (fun a=>BM a.2) (fun a b=>Rk) hk hk' ?_
  have side: ∀{ks ks':List (Bool×List UInt8)} {W R W' R':Int->List (Int×Int)},(ks.Pairwise fun a b=>a.2<b.2)->(ks'.Pairwise fun a b=>a.2<b.2)->(∀t,fo (fA ks W R) t=fo (fA ks' W' R') t)-> ∀x,x∈ks->x∈ks':=by
   intro ks ks' W R W' R' hk hk' h x hx;obtain⟨b,k⟩:=x;have h1:=(nG (ks:=ks) (W:=W) (R:=R)).2 ⟨b,hx⟩;rw[h]at h1;obtain⟨b',hb'⟩:=nG.1 h1
   have h2:((true,k)∈ks)↔((true,k)∈ks'):=by rw[<-nH (ks:=ks) (W:=W) (R:=R),<-nH (ks:=ks') (W:=W') (R:=R'),h]
   cases b with
   |true=>exact h2.1 hx
   |false=>
    cases b' with
    |false=>exact hb'
    |true=>have:=hp hk _ (h2.2 hb') _ hx rfl;cases this
  exact fun x=>⟨side hk hk' h x,side hk' hk (fun t=>(h t).symm) x⟩
 subst hks
 have hW: ∀i:Int,0<=i->i<4->W i=W' i:=fun i h0 h4=>oQ (hn i h0 h4).1 (hn' i h0 h4).1 fun n=>by rw[<-nI (ks:=ks) (R:=R) h0 h4,<-nI (ks:=ks) (R:=R') h0 h4,h]
 have hR: ∀i:Int,0<=i->i<4->R i=R' i:=fun i h0 h4=>oQ (hn i h0 h4).2.1 (hn' i h0 h4).2.1 fun n=>by
  have e1:=nJ (ks:=ks) (W:=W) (R:=R) (n:=n) h0 h4;have e2:=nJ (ks:=ks) (W:=W') (R:=R') (n:=n) h0 h4;have e3:=(hn i h0 h4).2.2 n;have e4:=(hn' i h0 h4).2.2 n;rw[h,e2,hW i h0 h4]at e1;rw[hW i h0 h4]at e3;constructor
  ·intro hr;rcases e1.2 (.inr hr)with h'|h'
   ·exact absurd hr (e3 h')
   ·exact h'
  ·intro hr;rcases e1.1 (.inr hr)with h'|h'
   ·exact absurd hr (e4 h')
   ·exact h'
 unfold fA uX;rw[hW 0 (by decide) (by decide),hW 1 (by decide) (by decide),hW 2 (by decide) (by decide),hW 3 (by decide) (by decide),hR 0 (by decide) (by decide),hR 1 (by decide) (by decide),hR 2 (by decide) (by decide),hR 3 (by decide) (by decide)]
def Ok(c:Cl):Prop:=Dw c=0
theorem Ok.parts{c:Cl}(h:Ok c):(c.aM= -1/\c.lo=0/\c.hi=0/\1<=c.key.length/\c.key.length<=16)\/(0<=c.aM/\c.aM<4/\c.key=[]/\c.lo<=c.hi):=by
 unfold Ok Dw at h;split at h
 ·cases h
 ·split at h
  ·split at h
   ·cases h
   ·rename_i h1 h2 h3;refine .inr ⟨h2,by omega,?_,?_⟩
    ·exact Classical.byContradiction fun hk=>h3 (.inl hk)
    ·exact Int.not_lt.1 fun hk=>h3 (.inr hk)
  ·split at h
   ·cases h
   ·unfold dU at h;split at h
    ·cases h
    ·omega
theorem Ok.of{c:Cl}(h:(c.aM= -1/\c.lo=0/\c.hi=0/\1<=c.key.length/\c.key.length<=16)\/(0<=c.aM/\c.aM<4/\c.key=[]/\c.lo<=c.hi)):Ok c:=by
 unfold Ok Dw dU;rcases h with⟨h1,h2,h3,h4,h5⟩|⟨h1,h2,h3,h4⟩
 ·rw[ff (by omega),ff (by omega),ff (by omega),ff (by omega)]
 ·rw[ff (by omega),fi h1,ff (by simp[h3];omega)]
theorem Ok.proper{c:Cl}(h:Ok c):c.lo<=c.hi:=by rcases h.parts with h|h<;>omega
def cS(l:List Cl)(i:Int)(b:Bool):List (Int×Int):=(l.filter fun c=>c.aM==i&&c.wr==b).map fun c=>(c.lo,c.hi)
theorem lO{l:List Cl}{i:Int}{b:Bool}{x:Int×Int}:x∈cS l i b↔ ∃c∈l,c.aM=i/\c.wr=b/\(c.lo,c.hi)=x:=by
 unfold cS;simp only[List.mem_map,List.mem_filter,lx,beq_iff_eq];constructor
 ·rintro⟨c,⟨h1,h2,h3⟩,h4⟩;exact⟨c,h1,h2,h3,h4⟩
 ·rintro⟨c,h1,h2,h3,h4⟩;exact⟨c,⟨h1,h2,h3⟩,h4⟩
theorem oU{l:List Cl}(hl: ∀c∈l,Ok c){i n:Int}{b:Bool}(h0:0<=i):lq (cS l i b) n↔ ∃c∈l,c.has (i,[],n)/\c.wr=b:=by
 unfold lq;constructor
 ·rintro⟨x,hx,h⟩;obtain⟨c,h1,h2,h3,rfl⟩:=lO.1 hx;have:=(hl c h1).parts;refine⟨c,h1,⟨h2,?_,h⟩,h3⟩;rcases this with this|this
  ·omega
  ·exact this.2.2.1
 ·rintro⟨c,h1,⟨h2,h3,h4⟩,h5⟩;exact⟨_,lO.2 ⟨c,h1,h2,h5,rfl⟩,h4⟩
theorem oV{l:List Cl}(hl: ∀c∈l,Ok c)(i:Int)(b:Bool):tq (cS l i b):=by intro x hx;obtain⟨c,h1,h2,h3,rfl⟩:=lO.1 hx;exact(hl c h1).proper
theorem Rl{l:List Cl}(hl: ∀c∈l,Ok c){ks:List (Bool×List UInt8)}{W R:Int->List (Int×Int)}(hk:ks.Pairwise fun a b=>a.2<b.2)
  (h1: ∀k,(∃b,(b,k)∈ks)↔1<=fo l (-1,k,0)) (h2: ∀k,(true,k)∈ks↔fo l (-1,k,0)=2)
  (hW: ∀i:Int,0<=i->i<4->cH (W i)/\ ∀n,lq (W i) n↔lq (cS l i true) n)
  (hR: ∀i:Int,0<=i->i<4->cH (R i)/\ ∀n,lq (R i) n↔lq (cS l i false) n/\ ¬lq (W i) n):
  I8 (fA ks W R)/\ ∀t,fo (fA ks W R) t=fo l t:=by
 refine⟨⟨ks,W,R,rfl,hk,fun i a b=>⟨(hW i a b).1,(hR i a b).1,fun n h h'=>((((hR i a b).2 n).1 h').2 h)⟩⟩,?_⟩;rintro⟨i,k,n⟩;have bd1:=iT (fA ks W R) (i,k,n);have bd2:=iT l (i,k,n);by_cases hi:0<=i/\i<4
 ·obtain⟨a,b⟩:=hi;by_cases hkn:k=[]
  ·subst hkn;have e1:=(nI (ks:=ks) (W:=W) (R:=R) (n:=n) a b);have e2:=(nJ (ks:=ks) (W:=W) (R:=R) (n:=n) a b);rw[(hW i a b).2 n,oU hl a,<-gJ]at e1
   have e3:(lq (W i) n\/lq (R i) n)↔1<=fo l (i,[],n):=by
    rw[(hR i a b).2 n,(hW i a b).2 n,oU hl a,oU hl a,cJ];constructor
    ·rintro(⟨c,x,y,_⟩|⟨⟨c,x,y,_⟩,_⟩)
     ·exact⟨c,x,y⟩
     ·exact⟨c,x,y⟩
    ·rintro⟨c,x,y⟩;cases hw:c.wr
     ·by_cases hh: ∃c∈l,c.has (i,[],n)/\c.wr=true
      ·exact .inl hh
      ·exact .inr ⟨⟨c,x,y,hw⟩,hh⟩
     ·exact .inl ⟨c,x,y,hw⟩
   rw[e3]at e2;omega
  ·have e1: ¬1<=fo (fA ks W R) (i,k,n):=by
    rw[cJ];rintro⟨c,hc,h⟩;rcases dt.1 hc with⟨x,hx,rfl⟩|⟨j,_,_,hi⟩
    ·have:=ia.1 h;simp at this;omega
    ·rcases gq.1 hi with⟨x,hx,rfl⟩|⟨x,hx,rfl⟩
     ·exact hkn (ez.1 h).2.1
     ·exact hkn (ez.1 h).2.1
   have e2: ¬1<=fo l (i,k,n):=by
    rw[cJ];rintro⟨c,hc,g1,g2,g3⟩;simp only at g1 g2;rcases(hl c hc).parts with h|h
    ·omega
    ·exact hkn (g2.symm.x h.2.2.1)
   omega
 ·by_cases hr:i= -1/\n=0
  ·obtain⟨rfl,rfl⟩:=hr;have e1:=(nG (ks:=ks) (W:=W) (R:=R) (k:=k)).x (h1 k);have e2:=(nH (ks:=ks) (W:=W) (R:=R) (k:=k)).x (h2 k);omega
  ·have e1: ¬1<=fo (fA ks W R) (i,k,n):=by
    rw[cJ];rintro⟨c,hc,h⟩;rcases dt.1 hc with⟨x,hx,rfl⟩|⟨j,_,_,hi⟩
    ·have:=ia.1 h;simp at this;omega
    ·rcases gq.1 hi with⟨x,hx,rfl⟩|⟨x,hx,rfl⟩
     ·have:=(ez.1 h).1;simp only at this;omega
     ·have:=(ez.1 h).1;simp only at this;omega
   have e2: ¬1<=fo l (i,k,n):=by
    rw[cJ];rintro⟨c,hc,g1,g2,g3,g4⟩;simp only at g1 g2 g3 g4;rcases(hl c hc).parts with h|h
    ·omega
    ·omega
   omega
def uA(lo:Int):List (Int×Int)->Bool
 |[]=>false
 |o::_=>decide (o.2<lo)
theorem DF{lo:Int}{os:List (Int×Int)}(h:uA lo os=false):cP lo os=os:=by
 cases os with
 |nil=>rfl
 |cons o os=>unfold uA at h;unfold cP;rw[List.dropWhile_cons,ff (by simpa using h)]
theorem DG{lo:Int}{o:Int×Int}{os:List (Int×Int)}(h:uA lo (o::os)=true):cP lo (o::os)=cP lo os:=by unfold uA at h;unfold cP;rw[List.dropWhile_cons,fi h]
def Yr:Value->Nat
 | .slice _ n _=>n
 |_=>0
theorem xp(w:World)(n:Nat):Only (fun _=>False) w (w.drewN n):=(ox (fun _=>False) w).drewN n
theorem mG.tail{w:World}{F:Nat->Prop}{b o n c:Nat}{x:Int×Int}{r:List (Int×Int)}(h:mG w F (.slice (some ⟨b,o,none⟩) n c) (x::r)):
  mG w F (.slice (if c=1 then some ⟨b,o,none⟩else some ⟨b,o+2,none⟩) r.length (c-1)) r:=by
 obtain⟨A,n',c',hv,hl,hnc,hcm,hx⟩:=h;injection hv with h1 h2 h3;subst h1 h2 h3;simp at hl;refine⟨_,_,_,rfl,by simp,by omega,by omega,fun hn=>?_⟩;obtain⟨b',o',Yt,hF,hc⟩:=hx (by omega);injection Yt with Yt;injection Yt with h1 h2;subst h1 h2;rw[ff (by omega)];refine⟨b,o+2,rfl,hF,fun i y hi j u hj=>?_⟩;have:=hc (i+1) y (by simpa using hi) j u hj;rw[<-this];congr 2;omega
theorem xq{w3 w4:World}{X Y:Obj}{row:Option Nat}{B:Nat}{o:Obj}(ek:w3.heap[B]?=some o)(hg:((w3.alloc X).alloc Y).grownBy w4 row)(hr:row≠some B)(hr2:row≠some w3.heap.size):
  w4.heap[B]?=some o/\w4.heap[w3.heap.size]?=some X:=by
 have hB:B<w3.heap.size:=(bd.1 ek).1;constructor
 ·rw[hg.block B (by simp;omega) (fun e=>hr e.symm),Below.heap_alloc _ _ _ (by simp;omega),Below.heap_alloc _ _ _ hB];exact ek
 ·rw[hg.block w3.heap.size (by simp;omega) (fun e=>hr2 e.symm),Below.heap_alloc _ _ _ (by simp)];exact an _ _
def InR(w:World)(B:Nat)(x:Int×Int)(acc os:List (Int×Int))(j:Nat)(v5:Value)(w':World):Prop:=
 ∃(s1:Int) (acc':List (Int×Int)),w'.heap[B]?=some (.cells #[.int .i64 s1,.int .i64 x.2] 161)/\km s1/\
  w'.ownsRow w.heap.size 161 2 v5 acc'.length (acc'.map mg).flatten/\(∀g,v5.ownBlock=some g->g≠B)/\acc'.length<=acc.length+j/\Below w.heap.size w w'/\
  acc'++eW (s1,x.2) (os.drop j)=acc++eW x os
def Yu(w:World)(F:Nat->Prop)(l others:List (Int×Int))(k:Nat)(v1 v5:Value)(w':World):Prop:=
 ∃os acc,mG w F v1 os/\gZ os/\os.length<=1000/\w'.ownsRow w.heap.size 161 2 v5 acc.length (acc.map mg).flatten/\acc.length<=k*1001/\Below w.heap.size w w'/\acc++bW (l.drop k) os=bW l others
theorem rM{w w':World}{F:Nat->Prop}{l others os os2 acc acc2:List (Int×Int)}{k:Nat}{x:Int×Int}{v1 v5:Value}
  (hd:l.drop k=x::l.drop (k+1)) (heq:acc++bW (l.drop k) os=bW l others) (hal:acc.length<=k*1001) (h2:cP x.1 os2=cP x.1 os) (qh:uA x.1 os2=false)
  (hr:mG w F v1 os2) (hf:gZ os2) (hl:os2.length<=1000) (hown:w'.ownsRow w.heap.size 161 2 v5 acc2.length (acc2.map mg).flatten) (hb:Below w.heap.size w w')
  (hacc:acc2=acc++eW x os2) (hlen:acc2.length<=acc.length+1001):Yu w F l others (k+1) v1 v5 w':=by
 refine⟨os2,acc2,hr,hf,hl,hown,by omega,hb,?_⟩;rw[<-heq,hd,bW,<-h2,DF qh,hacc,kt]
theorem FO(w:World)(F:Nat->Prop)(v v1:Value)(l others:List (Int×Int))(h:mG w F v l)(h1:mG w F v1 others)(hl:l.length<=1000)(ho:others.length<=1000)(hfit:gZ l)(hfo:gZ others):
  Calls prog 70 #[v,v1] w (M5 (bW l others) w):=by
 obtain⟨i0,hi,hz0,hz1,hz2⟩:=ep Tryz.FJ;obtain⟨A,c,rfl,hnc,hcm⟩:=h.slice;have H:=al h;have H1:=al h1;clear h h1;go_enter func70,ntmps70;go_wp2
 go_step3
 go_wp2
 go_step3
 go_wp2
 go_loopw [1,5,12] (fun v1 v5 i wr=> ∃k,k<=l.length/\i=.int .i64 (k:Int)/\Yu w F l others k v1 v5 wr) (fun _ _ i _=>l.length-(intOf i).toNat)
 case atStart=>exact⟨0,dq _,rfl,others,[],H1.o,hfo,ho,ea _ _ _ _,by simp,aw _ _,by simp⟩
 case round=>
  obtain⟨k,hk,rfl,os,acc,hos,aaV,aaW,hown,hal,hbl,heq⟩:=hrel;by_cases hlt:k<l.length
  ·obtain⟨x,hx⟩: ∃x,l[k]?=some x:=⟨_,ao hlt⟩;obtain⟨b,o,rfl,qP,c0,c1⟩:=H.o.at_ hx;have hb:b<w.heap.size:=aq w _ c0;have c0':=(hbl.cell (p:=⟨b,o+k*2,none⟩) hb).x c0;have c1':=(hbl.cell (p:=⟨b,o+k*2+1,none⟩) hb).x c1;have BL:=hfit x (de hx);have hdr:l.drop k=x::l.drop (k+1):=List.drop_eq_getElem?_toList_append .. |>.trans (by rw[hx];rfl);have HD:=al (ab hdr (ab heq (ab hown (ab hal hbl))));have hs:=hbl.size;clear hx c0 c1 hdr heq hown hal hbl;obtain⟨wo,rfl⟩: ∃wo:World,wo=wr:=⟨_,rfl⟩;go_wp2;obtain⟨wa,Mg⟩:=qt (wo.alloc (.cells #[.int .i64 x.1,.int .i64 x.2] 161));obtain⟨B,hB⟩:=qt (wo.heap.size);have Xp:Below B wo wa:=by rw[<-Mg,<-hB];exact(aw _ _).alloc (aE _) _
   have hsa:wa.heap.size=B+1:=by rw[<-Mg,<-hB];simp
   have ek:wa.heap[B]?=some (.cells #[.int .i64 x.1,.int .i64 x.2] 161):=by rw[<-Mg,<-hB];exact an _ _
   have hwB:w.heap.size<=B:=by omega
   rw[Mg,hB];have HW:=al (ab Xp (ab hsa ek));have HWO:=al (ab Mg hB);clear Mg hB Xp hsa ek c0' c1'
   go_loopw [1] (fun v1 w2=> ∃os2,mG w F v1 os2/\gZ os2/\os2.length<=1000/\cP x.1 os2=cP x.1 os/\Below wa.heap.size wa w2) (fun v1 _=>Yr v1)
   case atStart=>exact⟨os,hos,aaV,aaW,rfl,aw _ _⟩
   case round=>
    obtain⟨os2,hr2,hf2,hl2,hd2,hb2⟩:=hrel;obtain⟨A1,c1,rfl,hc1,hc2⟩:=hr2.slice
    rename World=>w2
    have HX:=al (ab hr2 (ab hf2 (ab hl2 (ab hd2 hb2))));clear hr2 hf2 hl2 hd2 hb2;have hq: ∃nq:Nat,w2.drewN nq=w2.drewN nq:=⟨0,rfl⟩;clear hq;obtain⟨q0,q1,_,_⟩:=fx (by rw[HX.o.q.block B (by rw[HW.o.2.1];omega)];exact HW.o.d:w2.heap[B]?=some (.cells #[.int .i64 x.1,.int .i64 x.2] 161));go_upto_region 5 with fail
    go_cut [27]from 16 to 29 (fun s27 wx=>s27=.bool (uA x.1 os2)/\Only (fun _=>False) w2 wx)
    case first=>
     cases os2 with
     |nil=>
      go_wp2;go_quiet(fail);go_wp2
      go_meet
      exact⟨rfl,xp _ _⟩
     |cons o2 r2=>
      obtain⟨b1,o1,rfl,DI,e0,e1⟩:=HX.o.1.at_ (k:=0) rfl;simp only[Nat.zero_mul,my]at e0 e1;have hb1:=aq w _ e0;have hbb:Below w.heap.size w w2:=HD.o.q.x ((HW.o.1.m hwB).x (HX.o.q.m (by rw[HW.o.2.1];omega)));have Qp:=(hbb.cell (p:=⟨b1,o1,none⟩) hb1).x e0;have e1':=(hbb.cell (p:=⟨b1,o1+1,none⟩) hb1).x e1;clear e0 e1 hbb;have hz1:(0:Int)<(r2.length:Int)+1:=by omega
      go_wp2;go_quiet(fail);go_wp2
      go_meet
      exact⟨rfl,xp _ _⟩
    case rest=>
     obtain⟨rfl,sM⟩:=hcut;have hbc:Below wa.heap.size wa wc:=HX.o.q.x (sM.aG HX.o.q.size (fun _ _ h=>h));have HON:=al hbc;clear sM hbc q0 q1
     cases qh:uA x.1 os2 with
     |true=>
      cases os2 with
      |nil=>exact absurd qh (by simp[uA])
      |cons o2 r2=>obtain⟨b1,o1,rfl,DI,_,_⟩:=HX.o.1.at_ (k:=0) rfl;have HL:=al qh;clear qh;go_wp2;refine⟨⟨r2,HX.o.1.tail,fun y hy=>HX.o.2.1 y (by simp[hy]),by have:=HX.o.d.1;simp at this;omega,by rw[<-HX.o.t.1,DG HL.o],HON.o⟩,by simp[Yr]⟩
     |false=>
      have HL:=al qh;clear qh;go_wp2
      go_loopw [5,32] (fun v5 i w3=> ∃j,j<=os2.length/\i=.int .i64 (j:Int)/\InR w B x acc os2 j v5 w3) (fun _ i _=>os2.length-(intOf i).toNat)
      case atStart=>
       have U8:=HWO.o.2;refine⟨0,dq _,rfl,x.1,acc,?_,BL.1,?_,?_,by omega,?_,rfl⟩
       ·rw[HON.o.block B (by rw[HW.o.2.1];omega)];exact HW.o.d
       ·have h1:=aY HD.o.d.1 (w':=wa) (by rw[U8];exact HW.o.1);exact aY h1 HON.o
       ·intro g hg h;have:=(HD.o.d.1.lt g hg).2;omega
       ·exact HD.o.q.x ((HW.o.1.m hwB).x (HON.o.m (by rw[HW.o.2.1];omega)))
      case round=>
       obtain⟨j,hj,rfl,s1,acc',ek,hs1,hown,hne,hlen,hbl,Yv⟩:=hrel
       rename World=>w3
       have hs:=hbl.size;have hBl:B<w3.heap.size:=(bd.1 ek).1;obtain⟨q0,q1,f0,f1⟩:=fx ek;obtain⟨A5,c5,rfl⟩:=ag hown;have HR:=al (ab ek (ab hown (ab hne (ab hlen (ab hbl Yv)))));have hl5:acc'.length<=10000000:=by have:=HD.o.t.1;have:=HX.o.d.1;omega
       clear ek hown hne hlen hbl Yv;have hl2:=HX.o.d.1;by_cases hjl:j<os2.length
       ·obtain⟨o2,dY⟩: ∃o2,os2[j]?=some o2:=⟨_,ao hjl⟩;obtain⟨b1,o1,rfl,DI,e0,e1⟩:=HX.o.1.at_ dY;have hb1:=aq w _ e0;have Qp:=(HR.o.q.1.cell (p:=⟨b1,o1+j*2,none⟩) hb1).x e0;have e1':=(HR.o.q.1.cell (p:=⟨b1,o1+j*2+1,none⟩) hb1).x e1;have hof:=HX.o.2.1 o2 (de dY);have Yw:os2.drop j=o2::os2.drop (j+1):=List.drop_eq_getElem?_toList_append .. |>.trans (by rw[dY];rfl);have FP:=al Yw;clear e0 e1 dY Yw;by_cases g1:x.2<o2.1
        ·have hlast:acc'++[(s1,x.2)]=acc++eW x os2:=by rw[<-HR.o.q.2,FP.o,eW,fi g1]
         have hown':=(HR.o.2.1.alloc (.cells #[.int .i64 o2.1,.int .i64 o2.2] 161)).alloc (.cells #[.int .i64 s1,.int .i64 (x.2)] 161);have hnews:=eb (an (w3.alloc (.cells #[.int .i64 o2.1,.int .i64 o2.2] 161)) (.cells #[.int .i64 s1,.int .i64 (x.2)] 161));rw[show(w3.alloc (.cells #[.int .i64 o2.1,.int .i64 o2.2] 161)).heap.size=w3.heap.size+1 by simp]at hnews;have HOWN:=al (ab hown' (ab hnews hlast));have jh:=al hi;clear hown' hnews hlast;go_wp2_with (at_builtin;go_loud (refine eh _ rfl _ _ 155 rfl w.heap.size 161 i0 _ 2 16 underlying155 jh.o hz0 hz1 hz2 rfl (by decide) (.slice A5 acc'.length c5) acc'.length _ rfl HOWN.o.1 ⟨w3.heap.size+1,0,none⟩ 1 1 [.int .i64 s1,.int .i64 (x.2)] rfl rfl HOWN.o.2.1 (by simp[Value.oneCell']) (by decide) (by unfold maxLen;omega) (by omega) (by simp;omega) _ rfl ?_);intro g2_ cap w4 hown1 hgrow1 jt qg);go_roundw
         case rel=>
          refine⟨k+1,by omega,by go_num,rM (acc2:=acc'++[(s1,x.2)]) HD.o.1 HD.o.2.1 HD.o.t.1 HX.o.t.1 HL.o HX.o.1 HX.o.2.1 HX.o.d.1 ?_ ?_ HOWN.o.d ?_⟩
          ·simpa[mg]using hown1
          ·exact((HR.o.q.1.alloc hs _).alloc (by simp;omega) _).grown hgrow1 (by simp;omega) (fun j hj=>(HR.o.2.1.lt j hj).1)
          ·have:=HR.o.t.1;have:=HX.o.d.1;simp;omega
         case measure=>simp[intOf];omega
        ·have acu:=hs1.1;have acv:=hs1.2;have acw:=hof.1.1;have Ko:=hof.1.2;have acx:=hof.2.1;have acy:=hof.2.2;have acz:=BL.2.1;have acA:=BL.2.2;by_cases g2:s1<o2.1
         ·have hown':=(HR.o.2.1.alloc (.cells #[.int .i64 o2.1,.int .i64 o2.2] 161)).alloc (.cells #[.int .i64 s1,.int .i64 (o2.1-1)] 161);have hnews:=eb (an (w3.alloc (.cells #[.int .i64 o2.1,.int .i64 o2.2] 161)) (.cells #[.int .i64 s1,.int .i64 (o2.1-1)] 161));rw[show(w3.alloc (.cells #[.int .i64 o2.1,.int .i64 o2.2] 161)).heap.size=w3.heap.size+1 by simp]at hnews;have Yx:(Value.slice A5 acc'.length c5).ownBlock≠some B:=fun h=>HR.o.d.1 B h rfl;have Yy:(Value.slice A5 acc'.length c5).ownBlock≠some w3.heap.size:=fun h=>by have:=(HR.o.2.1.lt _ h).2;omega
          have HOWN:=al (ab hown' (ab hnews (ab Yx Yy)));have jh:=al hi;clear hown' hnews Yx Yy;by_cases g3:x.2<=o2.2
          ·have hlast:acc'++[(s1,o2.1-1)]=acc++eW x os2:=by rw[<-HR.o.q.2,FP.o,eW,ff g1,fi g2,fi g3,gn]
           have xt:=al hlast;clear hlast;go_wp2_with (at_builtin;go_loud (refine eh _ rfl _ _ 155 rfl w.heap.size 161 i0 _ 2 16 underlying155 jh.o hz0 hz1 hz2 rfl (by decide) (.slice A5 acc'.length c5) acc'.length _ rfl HOWN.o.1 ⟨w3.heap.size+1,0,none⟩ 1 1 [.int .i64 s1,.int .i64 (o2.1-1)] rfl rfl HOWN.o.2.1 (by simp[Value.oneCell']) (by decide) (by unfold maxLen;omega) (by omega) (by simp;omega) _ rfl ?_);intro g2_ cap w4 hown1 hgrow1 jt qg;have FQ:=al (xq HR.o.1 hgrow1 HOWN.o.d.1 HOWN.o.t);obtain⟨p0,p1,pf0,pf1⟩:=fx FQ.o.1;obtain⟨r0,r1,_,_⟩:=fx FQ.o.2);go_roundw
           case rel=>
            refine⟨k+1,by omega,by go_num,rM (acc2:=acc'++[(s1,o2.1-1)]) HD.o.1 HD.o.2.1 HD.o.t.1 HX.o.t.1 HL.o HX.o.1 HX.o.2.1 HX.o.d.1 ?_ ?_ xt.o ?_⟩
            ·simpa[mg]using hown1
            ·exact((HR.o.q.1.alloc hs _).alloc (by simp;omega) _).grown hgrow1 (by simp;omega) (fun j hj=>(HR.o.2.1.lt j hj).1)
            ·have:=HR.o.t.1;have:=HX.o.d.1;simp;omega
           case measure=>simp[intOf];omega
          ·have hlast:(acc'++[(s1,o2.1-1)])++eW (o2.2+1,x.2) (os2.drop (j+1))=acc++eW x os2:=by
            rw[<-HR.o.q.2,FP.o,eW.eq_2 (s1,x.2),ff g1,fi g2,ff g3,kt]
           have xt:=al hlast;clear hlast;go_wp2_with (at_builtin;go_loud (refine eh _ rfl _ _ 155 rfl w.heap.size 161 i0 _ 2 16 underlying155 jh.o hz0 hz1 hz2 rfl (by decide) (.slice A5 acc'.length c5) acc'.length _ rfl HOWN.o.1 ⟨w3.heap.size+1,0,none⟩ 1 1 [.int .i64 s1,.int .i64 (o2.1-1)] rfl rfl HOWN.o.2.1 (by simp[Value.oneCell']) (by decide) (by unfold maxLen;omega) (by omega) (by simp;omega) _ rfl ?_);intro g2_ cap w4 hown1 hgrow1 jt qg;have FQ:=al (xq HR.o.1 hgrow1 HOWN.o.d.1 HOWN.o.t);obtain⟨p0,p1,pf0,pf1⟩:=fx FQ.o.1;obtain⟨r0,r1,_,_⟩:=fx FQ.o.2);go_roundw
           case rel=>
            have M8:=((HR.o.q.1.alloc hs (.cells #[.int .i64 o2.1,.int .i64 o2.2] 161)).alloc (by simp;omega) (.cells #[.int .i64 s1,.int .i64 (o2.1-1)] 161)).grown hgrow1 (by simp;omega) (fun j hj=>(HR.o.2.1.lt j hj).1)
            have TX:g2_≠B:=by
             rcases jt with h|h
             ·intro e;subst e;exact HOWN.o.d.1 h
             ·simp at h;omega
            refine⟨j+1,by omega,by go_num,o2.2+1,acc'++[(s1,o2.1-1)],?_,?_,?_,?_,?_,?_,xt.o⟩
            ·have:=db _ B 0 _ _ (.int .i64 (o2.2+1)) FQ.o.1;simpa using this
            ·unfold km;omega
            ·have h5:=aT hown1 (S:=fun k=>k=B) (Only.aN w4 B 0 (.int .i64 (o2.2+1))) (fun g hg e=>TX (by simp[Value.ownBlock]at hg;omega));simpa[mg]using h5
            ·intro g hg;simp[Value.ownBlock]at hg;omega
            ·have:=HR.o.t.1;simp;omega
            ·exact M8.setCell (p:=⟨B,0,none⟩) hwB _
           case measure=>simp[intOf];omega
         ·by_cases g3:x.2<=o2.2
          ·have hlast:acc'=acc++eW x os2:=by rw[<-HR.o.q.2,FP.o,eW,ff g1,ff g2,fi g3];simp
           have xt:=al hlast;clear hlast;go_wp2;go_roundw
           case rel=>refine⟨k+1,by omega,by go_num,rM (acc2:=acc') HD.o.1 HD.o.2.1 HD.o.t.1 HX.o.t.1 HL.o HX.o.1 HX.o.2.1 HX.o.d.1 (HR.o.2.1.alloc _) (HR.o.q.1.alloc hs _) xt.o ?_⟩;have:=HR.o.t.1;have:=HX.o.d.1;omega
           case measure=>simp[intOf];omega
          ·have hlast:acc'++eW (o2.2+1,x.2) (os2.drop (j+1))=acc++eW x os2:=by
            rw[<-HR.o.q.2,FP.o,eW.eq_2 (s1,x.2),ff g1,ff g2,ff g3,fs]
           have xt:=al hlast;clear hlast;go_wp2;go_roundw
           case rel=>
            refine⟨j+1,by omega,by go_num,o2.2+1,acc',?_,?_,?_,HR.o.d.1,?_,?_,xt.o⟩
            ·have:=db _ B 0 _ _ (.int .i64 (o2.2+1)) HR.o.1;rw[Below.heap_alloc _ _ _ (by simpa using hBl)];simpa using this
            ·unfold km;omega
            ·exact(aT HR.o.2.1 (S:=fun k=>k=B) (Only.aN w3 B 0 (.int .i64 (o2.2+1))) (fun g hg e=>HR.o.d.1 g hg e)).alloc _
            ·have:=HR.o.t.1;omega
            ·exact(HR.o.q.1.setCell (p:=⟨B,0,none⟩) hwB _).alloc (by simpa using hs) _
           case measure=>simp[intOf];omega
       ·have hlast:acc'++[(s1,x.2)]=acc++eW x os2:=by rw[<-HR.o.q.2,List.drop_eq_nil_of_le (by omega)];rfl
        have hown':=HR.o.2.1.alloc (.cells #[.int .i64 s1,.int .i64 x.2] 161);have hnews:=eb (an w3 (.cells #[.int .i64 s1,.int .i64 x.2] 161));have HOWN:=al (ab hown' (ab hnews hlast));have jh:=al hi;clear hown' hnews hlast;go_wp2_with (at_builtin;go_loud (refine eh _ rfl _ _ 155 rfl w.heap.size 161 i0 _ 2 16 underlying155 jh.o hz0 hz1 hz2 rfl (by decide) (.slice A5 acc'.length c5) acc'.length _ rfl HOWN.o.1 ⟨w3.heap.size,0,none⟩ 1 1 [.int .i64 s1,.int .i64 x.2] rfl rfl HOWN.o.2.1 (by simp[Value.oneCell']) (by decide) (by unfold maxLen;omega) (by omega) (by simp;omega) _ rfl ?_);intro g2 cap w4 hown1 hgrow1 jt qg);go_roundw
        case rel=>
         refine⟨k+1,by omega,by go_num,rM (acc2:=acc'++[(s1,x.2)]) HD.o.1 HD.o.2.1 HD.o.t.1 HX.o.t.1 HL.o HX.o.1 HX.o.2.1 HX.o.d.1 ?_ ?_ HOWN.o.d ?_⟩
         ·simpa[mg]using hown1
         ·exact(HR.o.q.1.alloc hs _).grown hgrow1 (by simp;omega) (fun j hj=>(HR.o.2.1.lt j hj).1)
         ·have:=HR.o.t.1;have:=HX.o.d.1;simp;omega
        case measure=>simp[intOf];omega
  ·have hkl:k=l.length:=by omega
   subst hkl;go_wp2
   try rw[kn]
   go_ret
   rw[List.drop_length,bW,gn]at heq;obtain⟨A',c',rfl⟩:=ag hown;exact heq▸⟨A',c',rfl,hown,hbl⟩
end Go.Proofs.YtmkofmeojbcakaaGreatDoor
