import Derived.Test.YtehccbdajiiaaaaGreatDoorP07
import Derived.Test.YtehccbdajiiaaaaGreatDoorP15
import Derived.Test.YtehccbdajiiaaaaGreatDoorP28
namespace Go.Proofs.YtehccbdajiiaaaaGreatDoor
open Go.Proofs.Tryz
set_option maxRecDepth 100000
set_option maxHeartbeats 16000000
open Go.RowKit
section
open Go.RowKit Go.Maps Go.WideShapes
attribute [local go_sem] Oper.semAt_some
def Xh(g:Value->Option Value)(N:Nat)(a:List (List UInt8))(k:List UInt8)(v0 v1:Value)(_:Nat->Prop)(_:World):Prop:=v0=sd k/\g (sd k)=some v1/\a.length<N
theorem Ij(w:World)(m:Nat):Calls prog 117 #[.map (some m)] w fun e a=>
  e=.returned (.func (.func 168) #[] #[r7 w.heap.size])/\a=w.alloc (.cells #[.map (some m)] 138):=by
 go_enter func117,ntmps117;go_wp2_with fail;go_ret
 exact⟨rfl,rfl⟩
def Xi(J:List (List UInt8)->(Nat->Prop)->World->Prop)(W:World)(d:Nat->Prop)(m r n:Nat)(g:Value->Option Value)(ks:List (List UInt8))(a:World):Prop:=
 ∃c b U,nY a m r n g b/\(c++b).Perm ks/\J c U a/\Only d W a/\Grow W d U/\ ¬U r/\r<a.heap.size
theorem EW(w:World)(m n C:Nat)(g:Value->Option Value)(ks:List (List UInt8))(hC:w.heap[C]?=some (.cells #[.map (some m)] 138 (0,0)))(hm:bW Tryz.prog w 9 m n g)
  (hks: ∀k:List UInt8,k.length<=maxLen->((g (.string ⟨k.toArray⟩)).isSome=true↔k∈ks)) (hnd:ks.Nodup) (hlen: ∀k∈ks,k.length<=maxLen):
  KP Tryz.prog 168 #[.pointer (some ⟨C,0,none⟩)] (fun pre x args U W=> ∃v0 v1,args= #[v0,v1]/\Xh g ks.length pre x v0 v1 U W) (fun k=>k=C\/k=m) (fun xs=>xs.Perm ks) (fun _=>True) w:=by
 intro l J Jx W U0 hJ BU hag rp h0 hY;have WN:=hag C _ (.inl rfl) hC;have jT:bW Tryz.prog W 9 m n g:=hm.same (by have h1:=gd hm.lt;rw[h1];exact hag m _ (.inr rfl) h1);have z0:W.cell? ⟨C,0,none⟩=some (.map (some m)):=by simp[World.cell?,WN]
 have HH:=al (ab hJ (ab BU (ab rp (ab h0 (ab hY (ab jT (ab hks (ab hnd hlen))))))));clear hJ BU hag rp h0 hY hm hC WN jT hks hnd hlen;refine callsIn_wide.2 ?_;show Calls _ _ #[.func (.yield l) #[] #[],.pointer (some ⟨C,0,none⟩)] _ _;go_enter Tryz.func168,Tryz.ntmps168;go_wp2_with (at_range;go_loud (refine lj _ rfl _ 138 rfl Tryz.underlying138 rfl HH.out.2.2.2.2.2.1 ks HH.out.2.2.2.2.2.2.1 HH.out.2.2.2.2.2.2.2.1 HH.out.2.2.2.2.2.2.2.2 ?_);intro w1 hrg hb1;have H1:=al (show Xi J W U0 m W.heap.size n g ks w1 from⟨[],ks,U0,hrg,List.Perm.refl _,HH.out.1.2 _ _ _ _ _ HH.out.2.2.2.1 (ri hb1) (fun _ h=>h.elim),oS hb1 _,Grow.refl _ _,fun h=>by have:=HH.out.1.1 _ _ _ HH.out.2.2.2.1 _ h;omega,by obtain⟨_,_,_,h,_⟩:=hrg;obtain⟨_,_,_,_,_,_,_,_,_,h,_⟩:=h;exact aP h⟩);clear hrg hb1)
 try go_frame
 refine(wpIn_wide (n:=10)).1 ?_
 gi_loopw [7] (fun _ wr=>Xi J W U0 m W.heap.size n g ks wr) (fun _ wr=>wr.rangeLeft m W.heap.size)
 case atStart=>exact H1.out
 case round=>
  obtain⟨dn,kl,U,hrg,hp,hj,ho,hg,Y6,hrl⟩:=hrel
  rename World=>wr
  have HR:=al (ab hp (ab hj (ab ho (ab hg (ab Y6 hrl)))));clear hp hj ho hg Y6 hrl
  gi_wp2_with (gi_at_next;refine uJ _ rfl _ rfl rfl hrg ?_ ?_)
  ·intro ed;subst ed
   gi_wp2
   go_end0
   exact⟨⟨_,rfl⟩,.inl ⟨dn,U,by simpa using HR.out.1,HR.out.2.1,HR.out.2.2.1,HR.out.2.2.2.1⟩⟩
  ·intro l1 l2 k v w2 tC C9 hrg2 hlt cN zb hen;have Y6:=HR.out.2.2.2.2.1
   have hum: ¬U m:=fun hu=>by
    rcases HR.out.2.2.2.1 _ hu with h|h
    ·exact HH.out.2.2.1 m (.inr rfl) h
    ·have:=HH.out.2.2.2.2.2.1.lt;omega
   have hj2:=HH.out.1.2 _ _ _ _ _ HR.out.2.1 cN (fun j e=>by subst e;exact⟨b8 _,Y6⟩);obtain⟨fn,tmps,assign,body,hy,hR⟩:=HH.out.2.2.2.2.1 dn k #[.string ⟨k.toArray⟩,v] U w2 hj2 ⟨_,_,rfl,rfl,C9,by have:=HR.out.1.length_eq;rw[tC]at this;simp at this;omega⟩;have HC:=al (ab tC (ab hrg2 (ab hlt (ab cN (ab Y6 hum)))));clear tC C9 hrg2 hlt cN Y6 hum hrg hj2
   gi_wp2
   refine hR.mono ?_
   have hp2:(dn++[k]++(l1++l2)).Perm ks:=by refine List.Perm.trans ?_ HR.out.1;rw[HC.out.1,lz];exact List.Perm.append_left _ (show(k::(l1++l2)).Perm _ from List.perm_middle.symm)
   rintro e W3 (⟨rfl,U',hJ3,gX,hg3⟩|⟨rfl,U',Tt,gX,hg3⟩)
   ·have iI:Only U0 W W3:=(HR.out.2.2.1.trans (T:=fun j=>j=W.heap.size) HC.out.2.2.2.1 (fun i hi e=>by omega)).trans gX (fun i hi h=>(HR.out.2.2.2.1 i h).elim id (fun h=>by omega));have hsz:=HC.out.2.2.2.1.size;have hrl:=HR.out.2.2.2.2.2
    have HX:=al (show Xi J W U0 m W.heap.size n g ks W3/\W3.rangeLeft m W.heap.size<wr.rangeLeft m W.heap.size from
     ⟨⟨dn++[k],l1++l2,U',HC.out.2.1.only gX HC.out.2.2.2.2.2 HC.out.2.2.2.2.1,hp2,hJ3,iI,HR.out.2.2.2.1.trans hg3 (by have:=HR.out.2.2.1.size;omega),fun h=>(hg3 _ h).elim HC.out.2.2.2.2.1 (fun h=>by omega),by have:=gX.size;omega⟩,
      by rw[HC.out.2.1.left gX HC.out.2.2.2.2.2 HC.out.2.2.2.2.1];exact HC.out.2.2.1⟩)
    clear hJ3 gX hg3 iI
    gi_wp2
    go_roundw
    case rel=>exact HX.out.1
    case measure=>exact HX.out.2
   ·have iI:Only U0 W W3:=(HR.out.2.2.1.trans (T:=fun j=>j=W.heap.size) HC.out.2.2.2.1 (fun i hi e=>by omega)).trans gX (fun i hi h=>(HR.out.2.2.2.1 i h).elim id (fun h=>by omega));have HX:=al (ab Tt (ab iI (HR.out.2.2.2.1.trans hg3 (by have:=HR.out.2.2.1.size;have:=HC.out.2.2.2.1.size;omega))));clear Tt gX hg3 iI
    gi_wp2
    refine dj (du rfl _ _ _) rfl ⟨⟨_,rfl⟩,.inr ⟨_,U',trivial,HX.out.1,HX.out.2.1,HX.out.2.2⟩⟩
end
section
variable{P:Program}{ops:Array Oper}{md:Region.Mode}{w:World}{n:Nat}
def vG(o:Oper):Bool:=match o.op with
 | .defer _=>false
 |_=>true
theorem Ik{l n:Nat}{o:Oper}{a:Act}{w:World}{K:Act->World->Prop}{Q:Exit->Act->World->Prop}(c:vG o=true)(h:o.wp P a w K Q):o.wpIn (Fence.wide.inRound l) n P a w K Q:=by
 refine⟨fun _ _=>trivial,?_⟩;rw[Oper.semAt_plain _ _ _ (fun e b=>by unfold vG at c;rw[b]at c;cases c)];unfold Oper.wp at h;generalize (execOp a.eval o).run P w=r at *
 cases r with
 |ok x b=>
  cases x<;>simp only[Oper.upon]at h<;>simp only[Oper.uponIn]
  all_goals first|exact h|skip
  ·exact⟨fun h=>by simp[Fence.wide]at h,(callsIn_wide.2 h).m fun f b d=>by cases f<;>exact d⟩
  ·exact⟨fun h=>by simp[Fence.wide]at h,fun e d _=>let⟨v,b,r,s⟩:=h e d;⟨v,b,r,stepsIn_wide.2 s⟩⟩
 |halt x b=>cases x<;>simp only[Oper.upon]at h<;>simp only[Oper.uponIn]<;>exact h
theorem iD{l n:Nat}{Q:Exit->Act->World->Prop}(e: ¬LetsOut Q)(c: ∀(j:Nat) (o:Oper),ops[j]?=some o->vG o=true): ∀(fuel:Nat) (f:Array Bool) (a:Act) (w:World),wpAny P md ops Q fuel f a w->wpAnyIn (Fence.wide.inRound l) n P md ops Q fuel f a w
 |0,_,_,_,h=>h
 |fuel+1,f,a,w,h=>by
  refine⟨h.1,fun j i=>?_⟩;have b:=h.2 j i;unfold wpOp at b;unfold wpOpIn;split
  ·rename_i d;simp only[d]at b;exact iD e c fuel _ _ _ b
  ·rename_i o d;simp only[d]at b;split
   ·rename_i g;simp only[g,if_true]at b;rcases b with b|b
    ·exact Oper.wpIn_mono (fun a w h=>iD e c fuel _ a w h) (Ik (c j o d) b)
    ·exact absurd b.2 e
   ·rename_i g;simp only[g]at b;exact⟨fun _ _=>trivial,iD e c fuel _ _ _ b⟩
theorem uK{l b:Nat}{Q:Exit->Act->World->Prop}{S:World->Prop}{a:Act}(e:P.follows .mixedOrders=true)(c:S w.drew)(h:S w.drew->wpAnyH P .any ops Q S ops.size (Array.replicate ops.size false) a w.drew)
  (g: ¬LetsOut Q:=by exact fun⟨_,_,h⟩=>h) (d:ops.all vG=true:=by kernel_rfl):(Code.region b ops true).wpIn (Fence.wide.inRound l) n P Q a w:=
 wpIn_region_any e (iD g (fun i o f=>by
  have:=Array.all_eq_true'.1 d o (Array.mem_of_getElem? f)
  exact this) _ _ _ _ (wpAny_of_held _ _ _ _ (h c)))
end
section
open Go.RowKit Go.Shelf
attribute [local go_sem] Oper.semAt_some
def acG(F:Nat->Prop)(ps:List (List UInt8))(w:World)(e:Ending)(w':World):Prop:=
 ∃a v,e=.returned (.func (.func 55) #[] #[r7 a])/\Below w.heap.size w w'/\w.heap.size<=a/\w'.cell? ⟨a,0,none⟩=some v/\
  dt w' (fun k=>F k\/w.heap.size<=k) v ps
theorem Xj(w:World)(F:Nat->Prop)(b:Nat)(ps:List (List UInt8))(l:fF w F b ps)(G:ps.length<=1024):
  Calls prog 29 #[r7 b] w (acG F ps w):=by
 obtain⟨C,B,x,d⟩:=l.at_
 replace d:=d.bound
 have I:=l.lt;have D:(w.alloc (.cells #[.slice none 0 0] 22)).cell? ⟨b,0,none⟩=some (.slice C ps.length B):=aJ x _;have p:dt (w.alloc (.cells #[.slice none 0 0] 22)) (fun k=>F k/\k<w.heap.size) (.slice C ps.length B) ps:=d.below ((aw _ _).alloc (b8 _) _);obtain⟨c,h,e,f⟩:=p;have H:=AM h e f
 have g: ∀A∈c,A.oneCell'=true:=by intro A r;obtain⟨y,i,rfl⟩:=List.getElem_of_mem r;obtain⟨j,n,a,_⟩:=f y ps[y] (by simp[<-e,i]);rw[List.getElem?_eq_getElem i]at a;injection a with a;rw[a];rfl
 have o:c.length*24<=140737488355328:=by omega
 have q:=al g;clear d h e f l g;go_enter func29,ntmps29;go_wp2_with fail;refine(GJ _ c _ _ H.o.1 q.o o).m ?_;rintro z h ⟨g,m,rfl,a,d⟩;have f:h.heap[w.heap.size]?=some (.cells #[.slice none 0 0] 22 (0,0)):=(d.block _ (by simp)).x (an w _);have u:=aB f;have E:=bj f;go_wp2_with fail;go_ret
 have l:=Only.aR h w.heap.size 0 (.slice g c.length m);refine⟨w.heap.size,.slice g c.length m,rfl,?_,b8 _,?_,c,?_,H.o.2.1,fun y J v=>?_⟩
 ·refine(((aw _ _).alloc (b8 _) _).x (d.m (by simp))).setCell (b8 _) _
 ·exact World.cell?_setCell_same' _ _ _ (by rw[u];rfl)
 ·refine Rd.bO (aQ a l ?_) ?_
  ·intro s e z;have:=(a.lt s e).1;simp at this;omega
  ·intro s e;have:=(a.lt s e).1;simp at this;exact .inr (by omega)
 ·obtain⟨j,n,t,s⟩:=H.o.d y J v;refine⟨j,n,t,Rd.mono (F:=fun k=>F k/\k<w.heap.size) ((s.below d).only l ?_) (fun k e=>.inl e.1)⟩;intro k e z;omega
def CJ(ps:List (List UInt8))(a:List (List UInt8))(x:List UInt8)(v0 v1:Value)(U:Nat->Prop)(W:World):Prop:=
 v0=rv a.length/\ ∃A c F,v1=.slice A x.length c/\ps[a.length]?=some x/\a=ps.take a.length/\Rd W F (.slice A x.length c) (x.map B8)/\ ∀k,F k-> ¬U k
theorem EX(ps:List (List UInt8)): ∀a x c b U V A B,CJ ps a x c b V A->Only V A B->(∀k,U k->V k)->CJ ps a x c b U B:=by rintro a x c b U V A B ⟨e,i,p,F,j,f,m,n,d⟩ l g;exact⟨e,i,p,F,j,f,m,n.only l d,fun k h o=>d k h (g k o)⟩
theorem Tu(w:World)(Fp:Nat->Prop)(Bs:Nat)(v:Value)(ps:List (List UInt8))(hpl: ∀p∈ps,p.length<=8192)(hF:Fp Bs)(hBs:w.cell? ⟨Bs,0,none⟩=some v)(hr:dt w Fp v ps):
  KP prog 55 #[.pointer (some ⟨Bs,0,none⟩)] (fun pre x args U W=> ∃v0 v1,args= #[v0,v1]/\CJ ps pre x v0 v1 U W) Fp (fun xs=>xs=ps) (fun pre=>pre<+:ps) w:=by
 intro l J Jx W U0 hJ BU hag rp h0 hY;have hr':=hr.agree hag;obtain⟨A,c,rfl,hc,hm,_⟩:=hr.at_;have ad6:W.cell? ⟨Bs,0,none⟩=some (.slice A ps.length c):=vT hag hF hBs;have HY:=al hY;have HR:=al hr';have HP:=al hpl;clear hY hr hr' hag hpl hBs;unfold maxLen at hm;refine callsIn_of_wp func55 rfl trivial ?_ rfl;simp only[ntmps55,nw,jj,nF,Nat.reduceAdd,Nat.reduceSub,Array.replicate_succ,Array.replicate_zero,List.push_toArray,List.append_toArray,fm,nh]
 gi_wp2
 gi_loopw [7] (fun i wr=> ∃(k:Nat) (U:Nat->Prop),k<=ps.length/\i=.int .i64 k/\J (ps.take k) U wr/\Only U0 W wr/\Grow W U0 U)
  (fun i _=>ps.length-(intOf i).toNat)
 case atStart=>exact⟨0,U0,dq _,rfl,by simpa using h0,oT _ _,Grow.refl _ _⟩
 case round=>
  obtain⟨k,U,hk,rfl,hJs,ho,hg⟩:=hrel;by_cases hlt:k<ps.length
  ·obtain⟨p,hp⟩: ∃p,ps[k]?=some p:=⟨_,ao hlt⟩;obtain⟨A0,c0,he,_,_,hat⟩:=(HR.o.only ho rp).at_;injection he with e1 _ e3;subst e1 e3;obtain⟨b,o,A',c',rfl,hcell,fD⟩:=hat k p hp;have hpl:=HP.o p (db hp);have htk:ps.take (k+1)=ps.take k++[p]:=by rw[ir,hp];rfl
   have hlk:(ps.take k).length=k:=by simp;omega
   have HTK:=al htk;have HLK:=al hlk;have HPK:=al hp;have HRD:=al fD;have aaU:=hJ.1 _ _ _ hJs;have HU:=al aaU;clear hat htk hlk hp fD aaU
   gi_wp2_with (refine⟨trivial,?_⟩;gi_at_call 46;refine(callsIn_wide.2 (jr _ (p.map B8) Fp _ HRD.o (sD p) (by simp;omega))).m ?_;rintro e w1 ⟨Ax,cx,rfl,hx,hbl⟩)
   have hx2:w1.ownsRow wr.heap.size 5 1 (.slice Ax p.length cx) p.length (p.map B8):=by simpa using hx
   have hJ1:J (ps.take k) U w1:=hJ.2 _ _ _ _ _ hJs (oS hbl fun _=>False) (fun _ h=>h.elim)
   have hpre:CJ ps (ps.take k) p (.int .i64 k) (.slice Ax p.length cx) U w1:=
    ⟨by rw[HLK.o],Ax,cx,fun j=>wr.heap.size<=j,rfl,by rw[HLK.o];exact HPK.o,by rw[HLK.o],Rd.bO hx2 (fun g hg=>(hx2.lt g hg).1),fun j hj hu=>by have:=HU.o j hu;omega⟩
   obtain⟨fn,tmps,assign,body,hy,hR⟩:=HY.o _ _ _ _ _ hJ1 ⟨_,_,rfl,hpre⟩;have hsz:wr.heap.size<=w1.heap.size:=hbl.size;have hg1:Only U0 W w1:=ho.trans (T:=fun _=>False) (oS hbl _) (fun _ _ h=>h.elim);rw[hy];refine⟨fun h=>by simp[Fence.wide]at h,(ru hR).m ?_⟩;rintro e W3 (⟨rfl,U',hJ3,gX,hg3⟩|⟨rfl,U',Tt,gX,hg3⟩)
   ·have Vi:J (ps.take (k+1)) U' W3:=by rw[HTK.o];exact hJ3
    have iI:Only U0 W W3:=hg1.x gX (fun i hi h=>(hg i h).elim id (fun h=>by omega));have hg4:Grow W U0 U':=hg.x hg3 (by have:=ho.size;omega)
    gi_wp2
    go_roundw
    case rel=>exact⟨k+1,U',by omega,by go_num,Vi,iI,hg4⟩
    case measure=>simp[intOf];omega
   ·have iI:Only U0 W W3:=hg1.x gX (fun i hi h=>(hg i h).elim id (fun h=>by omega));have hg4:Grow W U0 U':=hg.x hg3 (by have:=ho.size;omega)
    gi_wp2
    refine dj (du rfl _ _ _) rfl ?_;exact⟨⟨_,rfl⟩,.inr ⟨_,U',by rw[<-HTK.o];exact List.take_prefix _ _,Tt,iI,hg4⟩⟩
  ·obtain rfl:k=ps.length:=by omega
   gi_wp2
   go_end0
   exact⟨⟨_,rfl⟩,.inl ⟨_,U,rfl,by simpa using hJs,ho,hg⟩⟩
end
end Go.Proofs.YtehccbdajiiaaaaGreatDoor
