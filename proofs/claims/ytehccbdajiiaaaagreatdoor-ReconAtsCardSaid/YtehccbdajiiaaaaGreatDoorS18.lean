import Derived.Test.YtehccbdajiiaaaaGreatDoorS02
import Derived.Test.YtehccbdajiiaaaaGreatDoorS12
import Derived.Sort.OwnSorted
import Derived.Sort.KeysCollected
import Derived.Deep.LoopGhost
namespace Go.Proofs.YtehccbdajiiaaaaGreatDoor
open Go.Proofs.Tryz
set_option maxRecDepth 100000
set_option maxHeartbeats 16000000
open Go.RowKit
section
open Go.Shelf Go.RowKit Go.Lib Go.Sort
abbrev uJ (x y:Int×Int):Int:=Lib.compareInt x.1 y.1
theorem TW(x y:Int×Int):ltOf uJ x y=decide (x.1<y.1):=by
 unfold ltOf uJ Lib.compareInt;by_cases a:x.1<y.1
 ·simp[a]
 ·by_cases b:y.1<x.1<;>simp[a,b]
theorem aaV:SWO (ltOf uJ) where
 irrefl x:=by rw[TW];simp
 trans x y z h1 h2:=by rw[TW]at *;simp at *;omega
 ntrans x y z h1 h2:=by rw[TW]at *;simp at *;omega
theorem Mt(x y:Int×Int)(W:World):Calls prog 50 #[.agg #[rm x.1,rm x.2],.agg #[rm y.1,rm y.2]] W fun e w'=>e=.returned (rm (uJ x y))/\ ∃q a,w'=grow (W.drewN q) a:=by
 have a:=fun b=>AnyG.cmp_Compare_int Tryz.Om x.1 y.1 b;change ∀b,Calls prog 51 _ _ _ at a;unfold uJ;generalize Lib.compareInt x.1 y.1=r at a⊢;go_enter func50,ntmps50;go_wp2_with (go_at_call 51;refine(a _).m ?_;rintro e w' ⟨rfl,rfl⟩);go_ret
 exact⟨rfl,0,_,by rw[alloc_eq_grow,alloc_eq_grow,grow_grow];rfl⟩
theorem TX(b a size:Nat)(w:World):CmpLays prog 50 #[] mC 2 uJ b a size w:=
 fun _ _ _ _ x y=>Mt x y _
def lI(l:List (Int×Int)):Prop:=l.Pairwise fun a b=>a.1<=b.1
theorem oq{α:Type}[Inhabited α](enc:α->List Value)(k:Nat)(w:World)(a b n:Nat)(d:Array α)(os:Array Obj):Only (fun f=>f=a) w (sortWorldK enc k w a b n d os):=by
 refine⟨rfl,rfl,rfl,?_,fun f e c=>?_⟩
 ·exact size_sortWorldK_c enc k w a b n d os
 ·unfold sortWorldK grow putRowK putRow mapBlock;simp only;rw[Array.getElem?_append_left (by simpa[Sort.ahead]using e),Array.getElem?_modify,fb (fun h=>c h.symm)];rfl
theorem Ad{w:World}{base g f:Nat}{l:List (Int×Int)}(n:w.ownsRow base 80 2 (.slice (some ⟨g,0,none⟩) l.length f) l.length (l.map mC).flatten):HoldsK mC 2 w g 0 l.toArray:=by
 intro t a;rw[size_flatK]at a;rw[get_flatK _ _ _ _ a];simp at a;have c:t/2<l.length:=(Nat.div_lt_iff_lt_mul (by decide)).2 a;have k:l[t/2]?=some l[t/2]:=ao c;have b:=jX (l9 l) (t/2) (mC l[t/2]) (by simp[k]) (t%2);have m:t/2*2+t%2=t:=by omega
 rw[m]at b;have e:=n.cellAt t (by omega);have h:=n.frozenAt t;have j:l.toArray[t/2]! =l[t/2]:=by simp[c]
 rw[j]
 have i:(mC l[t/2])[t%2]?=some (mC l[t/2])[t%2]!:=by rcases Nat.mod_two_eq_zero_or_one t with d|d<;>rw[d]<;>rfl
 rw[b _ i]at e;rw[ie];exact⟨e,h⟩
theorem Ae{w:World}{F:Nat->Prop}{g b:Nat}{d:Array (Int×Int)}(o:HoldsK mC 2 w g 0 d)(j:F g)(i:d.size<=b)(f:b<=maxLen):mQ w F (.slice (some ⟨g,0,none⟩) d.size b) d.toList:=by
 refine⟨_,_,_,rfl,by simp,i,f,fun _=>⟨g,0,rfl,j,fun k x a l u e=>?_⟩⟩;have c:k<d.size:=by have:=(aw.1 a).1;simpa using this
 have h:l<2:=by have:=(aw.1 e).1;have m:=l9 d.toList x (db a);omega
 have:=(o.cell c h).1
 have n:(mC d[k]!)[l]! =u:=by
  simp[c]at a;subst a;have:d[k]! =d[k]:=by simp[c]
  rw[this];simp[e]
 rw[n]at this;rw[<-this];congr 2;omega
def TY(l:List (Int×Int))(v:Value)(w:World)(e:Ending)(w':World):Prop:=
 ∃s,s.Perm l/\lI s/\ ∃A c,e=.returned (.slice A (cI s).length c)/\w'.ownsRow w.heap.size 80 2 (.slice A (cI s).length c) (cI s).length ((cI s).map mC).flatten/\Only (fun k=>v.ownBlock=some k) w w'
theorem Fj{d:Array (Int×Int)}(h:SortedIn (ltOf uJ) 0 d.size d):lI d.toList:=by unfold lI;rw[List.pairwise_iff_getElem];intro i j b a c;have:=h i j (dq _) c (by simpa using a);rw[TW]at this;simp at b a;simp[b,a]at this;simpa using this
theorem Bw(w:World)(v:Value)(l:List (Int×Int))(y:w.ownsRow 0 80 2 v l.length (l.map mC).flatten)(L:l.length<=1000)(z:iA l):
  Calls prog 24 #[v] w (TY l v w):=by
 rcases y.2 with⟨rfl,C⟩|⟨o,s,K,rfl,_,d,M,E,h,i⟩
 ·have:l=[]:=de C;subst this;have b:=fun W=>AnyF.slices_SortFunc_none Tryz.Oo none 0 (.func (.func 50) #[] #[]) W;change ∀W,Calls prog 49 _ _ _ at b;go_enter func24,ntmps24;go_wp2_with fail;refine(b _).m ?_;rintro H f ⟨rfl,rfl⟩;go_wp2_with fail;refine(Bp _ (fun _=>False) _ [] (bI.nil 2 _ _) (by simp) (by intro G c;simp at c)).m ?_;rintro H A ⟨I,J,rfl,g,k⟩;go_wp2_with fail;go_ret
  exact⟨[],List.Perm.refl _,ee,I,J,rfl,g,oB k _⟩
 ·have F: ∀a w,(callFunc 50 a).run prog w=.ok (.enter 50 a) w:=enters_of func50 (by kernel_rfl) rfl;have a:=Ad y;have p:o<w.heap.size:=(cq.1 d).1;have b:=AnyQ.slices_SortFunc Tryz.Oo 2 (by intro w;kernel_rfl) (by intro w;kernel_rfl) mC (fun _=>rfl) (fun G v e=>by simp[mC]at e;rcases e with rfl|rfl<;>rfl) uJ aaV 50 #[] o 0 s l.toArray w F (TX o 0 l.toArray.size w) a p (by simp;omega);change Calls prog 49 _ _ _ at b;simp only[lz]at b;have B:=al a;clear y d i h a;go_enter func24,ntmps24;go_wp2_with fail;refine b.m ?_;rintro H f ⟨rfl,a,n,u,i,h,m⟩;have d:a.size=l.length:=by simpa using i.1
  have e:Only (fun j=>j=o) w f:=by rw[m];exact oq mC 2 w o 0 n a u
  have r:HoldsK mC 2 f o 0 a:=by rw[m];exact holdsK_sortWorldK_c mC 2 w o 0 l.toArray a n u B.o p (by simpa using i.1)
  have x:mQ f (fun _=>True) (.slice (some ⟨o,0,none⟩) l.length s) a.toList:=by have:=Ae (F:=fun _=>True) r trivial (by omega) E;rw[d]at this;exact this
  have j:a.toList.Perm l:=by
   have q:=i.2.2;have D:a.extract 0 l.length=a:=by simp[<-d]
   have t:l.toArray.extract 0 l.length=l.toArray:=by simp
   rw[D,t]at q;exact q
  have q:lI a.toList:=Fj (by rw[d];simpa using h);have t:iA a.toList:=fun G c=>z G (j.mem_iff.1 c);have c:=AN x j q t d e;clear m x j q t h i r e d;go_wp2_with fail;refine(Bp f (fun _=>True) _ a.toList c.o.1 (by have:=c.o.q.1;simp;omega) c.o.t.1).m ?_;rintro H A ⟨I,J,rfl,g,k⟩;go_wp2_with fail;go_ret
  have e:=c.o.q.2;refine⟨a.toList,c.o.2.1,c.o.d.1,I,J,rfl,?_,?_⟩
  ·exact dI g (fun h d=>by have:=(g.lt h d).1;have:=e.size;omega)
  ·exact e.trans (T:=fun _=>False) (oB k _) (fun _ _ y=>y.elim)|>.mono (fun i _ d=>by subst d;rfl)
end
section
open Go.RowKit Go.Maps Go.WideShapes Go.Sort
def km(D:DataW Unit)(f:List UInt8->Int):Prop:= ∀k,D.atKey (cY k) (.lit (.int .i64 0))=.lit (.int .i64 (f k))/\(Maps.has D (cY k)=true↔f k≠0)
def IB(D:DataW Unit)(left:Lit->Bool)(a:List (List UInt8)):Prop:=a.Nodup/\ ∀x,x∈a↔(Maps.has D (cY x)=true/\left (cY x)=false)
theorem IB.start(D:DataW Unit):IB D (Maps.has D) []:=⟨List.nodup_nil,fun x=>by cases Maps.has D (cY x)<;>simp⟩
theorem Fk(x y:List UInt8):(cY x).sameKey (cY y)=decide (x=y):=by
 by_cases h:x=y
 ·subst h;simp[cY,Lit.sameKey]
 ·have:cY x≠cY y:=fun e=>h (xS e);unfold cY at this⊢;simp[Lit.sameKey,h]at this⊢;exact this
theorem IB.step{D:DataW Unit}{left:Lit->Bool}{a:List (List UInt8)}(h:IB D left a){x:List UInt8}{y:DataW Unit}(f:left (cY x)=true)(e: ∀b,D.atKey (cY x) b=y):
  IB D (fun z=>left z&&!z.sameKey (cY x)) (a++[x]):=by
 have d:Maps.has D (cY x)=true:=has_true_of_atKey e;have c:x∉a:=fun b=>by have:=((h.2 x).1 b).2;rw[f]at this;cases this
 refine⟨List.nodup_append.2 ⟨h.1,by simp,fun i g j b=>by simp at b;subst b;exact fun b=>c (b▸g)⟩,fun y=>?_⟩;simp only[Fk];by_cases b:y=x
 ·subst b;simp[d]
 ·simp[h.2 y,b]
theorem Tryz.aaW:(prog.info? 9).map (fun i=>(i.zero,i.size,i.bytes))=some (some (.string ⟨#[]⟩),1,16):=by kernel_rfl
def Bx(f:List UInt8->Int)(k:List UInt8):Cl:=⟨f k==2,-1,k,0,0⟩
def aaX(f:List UInt8->Int)(w:World)(e:Ending)(w':World):Prop:=
 ∃a:List (List UInt8),a.length<=1000/\a.Nodup/\(∀k,k∈a↔f k≠0)/\CJ ((a.mergeSort fun x y=>decide (x<=y)).map (Bx f)) w e w'
def XV(w:World)(b n r:Nat)(D:DataW Unit)(v3:Value)(w':World):Prop:=
 ∃left c a,w'.ranges prog 78 (plainElem prog 3) b r n D left c/\IB D left a/\a.length+c<=Maps.size D/\(∀x∈a,x.length<=maxLen)/\
  w'.ownsRow w.heap.size 9 1 v3 a.length (a.map encStr)/\v3≠ .slice none 0 0/\Below w.heap.size w w'
def XW(w:World)(b n g m c:Nat)(D:DataW Unit)(f:List UInt8->Int)(a:List (List UInt8))(k:Nat)(v5:Value)(w':World):Prop:=
 w'.ownsRow w.heap.size 68 5 v5 k (((a.take k).map (Bx f)).map Cl.cells).flatten/\w'.ownsRow w.heap.size 9 1 (.slice (some ⟨g,0,none⟩) m c) m (a.map encStr)/\
  w'.ownsMap prog 78 (plainElem prog 3) b n D/\RowKit.Below w.heap.size w w'
theorem Tryz.V5(w:World):(zeroValue 3).run prog w=.ok (rm 0) w:=by kernel_rfl
theorem Mu(w:World)(b n:Nat)(D:DataW Unit)(f:List UInt8->Int)(hown:w.ownsMap prog 78 (plainElem prog 3) b n D)(hf:km D f)(hsz:Maps.size D<=1000):
  Calls prog 23 #[.map (some b)] w (aaX f w):=by
 obtain⟨i0,hi,hz0,hz1,hz2⟩:=eh Tryz.aaW;go_enter func23,ntmps23;go_wp2_with (first|(at_len;refine wpList_len_own _ rfl _ 73 rfl 78 3 underlying73 _ b n D rfl hown ?_)|(at_make;refine wpList_make_own _ rfl _ _ 122 rfl w.heap.size 9 i0 (.string ⟨#[]⟩) 1 underlying122 hi hz0 hz1 _ _ _ (Maps.size D) rfl rfl rfl (by rw[hz2];omega) (by unfold maxLen;omega) (b8 _) ?_;intro w1 V6 hg1)|(at_range;refine wpList_range_own _ rfl _ 73 rfl 78 3 Mh underlying73 _ b n D rfl (hown.kept hg1 (by simp)) ?_;intro w0 hrg0 hg0 hs0))
 go_frame
 have acN:=hown.lt
 go_loopw [3] (fun v wr=>XV w b n w1.heap.size D v wr) (fun _ wr=>wr.rangeLeft b w1.heap.size)
 case atStart=>
  exact⟨_,_,[],hrg0,IB.start D,by simp,by simp,V6.kept hg0 (Or.inr (by simp[Value.ownBlock])),by simp,
   ((bd _ _).grown hg1 (b8 _) (fun j hj=>by cases hj)).grown hg0 hg1.size (fun j hj=>by cases hj)⟩
 case round=>
  obtain⟨left,cnt,ss,hrg,hC,hcs,hlen,hrow,hnn,hnx⟩:=hrel;go_wp2_with (at_next;refine wpList_next_ranges _ rfl _ rfl 78 Mh (plainElem prog 3) E3 (Value.int .i64) (fun key kl hk=>by obtain⟨x,hx,_⟩:=qD hk;exact⟨x,hx⟩) (fun v y hv=>by obtain⟨c,rfl,_⟩:=plainElem_int_inv underlying3 hv;exact⟨c,rfl⟩) b w1.heap.size n _ _ _ rfl hrg ?_ ?_)
  ·intro hc0 hl0;rcases hrow.2 with⟨hnil,_⟩|⟨g,cap,cur,rfl,hbase,hb,h1,h2,h3,h4⟩
   ·exact absurd hnil hnn
   have hH:Holds encStr wr g 0 ss.toArray:=holds_of_block hb (by simpa using h4);have hgl:g<wr.heap.size:=(cq.1 hb).1;have hc:=Any.slices_Sort_string Tryz.SS g 0 cap ss wr hH hgl (by omega);change Calls prog 48 _ _ _ at hc;have hks: ∀k,k∈ss↔f k≠0:=fun k=>by rw[hC.2 k,hl0];simpa using(hf k).2
   obtain⟨i1,hi1,hy0,hy1,hy2⟩:=eh Tryz.tI;have HH:=BT hb h1 h2 h3 hbase hnx hrg.owns hC.1 hks hlen;clear hb h1 h2 h3 h4 hH hC hl0 hrow hrg hnx hks hrg0 hg0 hs0 V6 hg1 hlen hnn;go_wp2_with fail;refine hc.m ?_;rintro e w4 ⟨rfl,nn,os,hw4⟩;obtain⟨ts,hts⟩:=rk ((ss.mergeSort fun x y=>decide (x<=y)));have htl:ts.length=ss.length:=by rw[<-hts];simp
   rw[hts]at hw4
   have hrow4:w4.ownsRow w.heap.size 9 1 (.slice (some ⟨g,0,none⟩) ss.length cap) ss.length (ts.map encStr):=by rw[hw4];exact ownsRow_sorted htl HH.o.q.1 HH.o.1 HH.o.2.1 HH.o.d.1 HH.o.t.1
   have hg4:wr.grownBy w4 (some g):=by rw[hw4];exact grownBy_sorted _
   have Pg:RowKit.Below w.heap.size w w4:=HH.o.q.2.1.grown hg4 HH.o.q.2.1.size (fun j hj=>by cases hj;exact HH.o.q.1);have V7:w4.ownsMap prog 78 (plainElem prog 3) b n D:=HH.o.q.d.1.kept hg4 (by intro h;injection h with h;have:=HH.o.q.1;omega);have hs4:=Pg.size;have H4:=AM hrow4 Pg V7 hts htl;have hsl:ss.length<=1000:=by omega
   have aaY:=al hi1;clear hrow4 Pg V7 hts htl hg4 hw4 hc hi1 hi;go_wp2_with (at_make;go_loud (refine wpList_make_own _ rfl _ _ 27 rfl w.heap.size 68 i1 _ 5 underlying27 aaY.o hy0 hy1 _ _ _ ss.length rfl rfl rfl (by rw[hy2];omega) (by unfold maxLen;omega) hs4 ?_);intro w5 aaZ hg5)
   go_loopw [5,29] (fun v5 i w6=> ∃k,k<=ss.length/\i=rm (k:Int)/\XW w b n g ss.length cap D f ts k v5 w6) (fun _ i _=>ss.length-(intOf i).toNat)
   case atStart=>exact⟨0,dq _,rfl,by simpa using aaZ,H4.o.1.kept hg5 (Or.inr (by simp[Value.ownBlock])),H4.o.d.1.kept hg5 (by simp),H4.o.2.1.grown hg5 hs4 (fun j hj=>by cases hj)⟩
   case round=>
    obtain⟨k,hk,rfl,hcl,PZ,hmp,hbl⟩:=hrel
    rename World=>w6
    have htl:=H4.o.q;by_cases hlt:k<ss.length
    ·obtain⟨x,hx⟩: ∃x,ts[k]?=some x:=⟨_,ao (by omega)⟩
     have hxs:x∈ss:=by have h:=db hx;rw[<-H4.o.t.1]at h;exact List.mem_mergeSort.1 h
     have hcell:w6.cell? ⟨g,k,none⟩=some (r7 x):=(PZ.cellAt k (by omega)).x (by simp[hx,encStr]);have hkey:=Bq (HH.o.q.q.2 x hxs);unfold E3 at hkey;obtain⟨A5,c5,rfl⟩:=ai hcl;have aa0:=hcl.alloc (sd (f x==2) (-1) x.toArray 0 0);have hnews:=eb (an w6 (sd (f x==2) (-1) x.toArray 0 0));have hfx:=(hf x).1;have HB:=AS hx hcl PZ hmp hbl aa0 hnews;have HK:=al hkey;have HF:=al hfx;have b7:=hbl.size;clear hx hcl PZ hbl hkey htl aa0 hnews hfx hmp;go_wp2_with (first|(at_lookup;go_loud (refine wpList_lookup_own_int _ rfl _ _ 73 rfl 78 3 .i64 Mh underlying73 underlying3 (Tryz.V5 _) b n D rfl HB.o.t.1 _ _ rfl HK.o ?_);intro c hat hwc;obtain rfl:c=f x:=(by rw[HF.o]at hat;simpa using hat.symm);clear hat hwc)|(at_builtin;go_loud (refine et _ rfl _ _ 27 rfl w.heap.size 68 i1 _ 5 48 underlying27 aaY.o hy0 hy1 hy2 rfl (by decide) (.slice A5 k c5) k _ rfl HB.o.q.2.1 ⟨w6.heap.size,0,none⟩ 1 1 [.bool (f x==2),rm (-1),r7 x,rm 0,rm 0] rfl rfl HB.o.q.d (by simp[Value.oneCell']) (by decide) (by unfold maxLen;omega) (by omega) (by simp;omega) _ rfl ?_);intro g2 cap2 w7 hown1 hgrow1 jH qh));go_roundw
     case rel=>
      obtain⟨hx,hcl,PZ,hmp,hbl,_,_⟩:=HB.o;refine⟨k+1,by omega,by go_num,?_,?_,?_,?_⟩
      ·have htk:ts.take (k+1)=ts.take k++[x]:=by rw[gO,hx];rfl
       rw[htk];simpa[Bx,Cl.cells]using hown1
      ·exact(PZ.alloc _).kept hgrow1 (.inr (fun e=>iZ PZ hcl (by decide) (rfl:Value.ownBlock (.slice (some ⟨g,0,none⟩) ss.length cap)=some g) e.symm))
      ·exact(hmp.alloc _).kept hgrow1 (fun e=>by have:=(hcl.lt b e.symm).1;omega)
      ·exact(hbl.alloc b7 _).grown hgrow1 (by simp;omega) (fun j hj=>(hcl.lt j hj).1)
     case measure=>simp[intOf];omega
    ·have hkl:k=ss.length:=by omega
     subst hkl;go_wp2_with fail;go_ret
     rw[fm (by omega)]at hcl;obtain⟨A5,c5,rfl⟩:=ai hcl;obtain⟨_,_,_,_,_,_,_,hnd,hks,_⟩:=HH.o;refine⟨ss,hsl,hnd,hks,A5,c5,?_,?_,hbl⟩
     ·simp
     ·rw[H4.o.t.1];simpa[htl]using hcl
  ·intro x c kl yd yp w2 cnt2 hkey hlk hv hat hrg2 hlt hg2 hs2 hen;obtain⟨x',ex,rfl,hxl⟩:=qD hkey;obtain rfl:x=x':=by unfold E3 at ex;simpa using ex
   have hrow2:=hrow.kept hg2 (Or.inr (row_ne_iter hrow hrg).symm);have hrow3:=(hrow2.alloc (.cells #[encStr x] 78)).alloc (.cells #[encStr x] 9);have hnews:=eb (an (w2.alloc (.cells #[encStr x] 78)) (.cells #[encStr x] 9));rw[show(w2.alloc (.cells #[encStr x] 78)).heap.size=w2.heap.size+1 by simp]at hnews;have hsw:=hnx.size;have aa1:=hg2.size;have HH:=AN hrow3 hnews hrow2 hs2 hsw aa1;have zN:=al hi;have HC:=BE hC hlk hat hrg2 hrg hlen hxl hg2 hnx;clear hs2 hrow3 hnews hsw aa1 hC hlk hat hlen hkey hv;unfold E3 at hen⊢;unfold encStr at HH;go_wp2_with (at_builtin;go_loud (refine et _ rfl _ _ 122 rfl w.heap.size 9 i0 _ 1 16 underlying122 zN.o hz0 hz1 hz2 rfl (by decide) u3 ss.length _ rfl HH.o.1 ⟨w2.heap.size+1,0,none⟩ 1 1 [r7 x] rfl rfl HH.o.2.1 (by simp[Value.oneCell']) (by decide) (by unfold maxLen;omega) (by omega) (by have:=HH.o.q;simp;omega) _ rfl ?_);intro g2 cap w3 hown1 hgrow1 jH qh);have hr2:=(HC.o.t.1.alloc (.cells #[r7 x] 78)).alloc (tx x.toArray);have hrg3:=hr2.kept hgrow1 (row_ne_low HH.o.d.1 acN) (row_ne_iter HH.o.1 hr2);refine⟨⟨_,cnt2,ss++[x],hrg3,HC.o.1.step HC.o.2.1 HC.o.d.1,by simp;omega,?_,by simpa[encStr]using hown1,by simp,?_⟩,by rw[hrg3.left_eq,HC.o.q.1.left_eq];exact hlt⟩
   ·intro y hy;rcases dr.1 hy with hy|hy
    ·exact HC.o.q.2.1 y hy
    ·simp at hy;subst hy;exact HC.o.q.d.1
   ·have hw:=HH.o.q;have jW:=hg1.size;exact((((HC.o.q.q.grown HC.o.q.t.1 hw.1 (fun j hj=>by cases hj;exact jW)).alloc (by omega) _).alloc (by simp;omega) _).grown hgrow1 (by simp;omega) (fun j hj=>(HH.o.d.1.lt j hj).1))
end
section
open Go.RowKit Go.Maps Go.WideShapes
theorem yj{w w':World}(h:Below w.heap.size w w'):w.grownBy w' none:=⟨h.os,h.tape,h.output,h.size,fun k a _=>h.block k a⟩
def fU(w:World)(A:Nat)(f:Nat->Value):Prop:=w.heap[A]?=some (.cells #[f 0,f 1,f 2,f 3] 75 (0,0))
def IC(w:World)(base:Nat)(rs:Nat->Value)(ls:Nat->List (Int×Int)):Prop:=
 (∀j,j<8->w.ownsRow base 80 2 (rs j) (ls j).length ((ls j).map mC).flatten)/\ ∀i j,i<8->j<8->i≠j-> ∀g,(rs i).ownBlock=some g->(rs j).ownBlock≠some g
def lists(l:List Cl)(j:Nat):List (Int×Int):=if j<4 then cS l (j:Int) false else cS l ((j-4:Nat):Int) true
def iR(w:World)(D:DataW Unit)(n:Nat)(rs:Nat->Value)(ls:Nat->List (Int×Int))(wr:World):Prop:=
 wr.ownsMap prog 78 (plainElem prog 3) (w.heap.size+1) n D/\wr.heap[w.heap.size]?=some tg/\
  fU wr (w.heap.size+1+1) rs/\fU wr (w.heap.size+1+1+1) (fun j=>rs (4+j))/\IC wr (w.heap.size+1+1+1+1) rs ls/\Below w.heap.size w wr
def P4(w:World)(l:List Cl)(k:Nat)(wr:World):Prop:=
 ∃(D:DataW Unit) (rs:Nat->Value),km D (fun a=>fw (l.take k) (-1,a,0))/\iR w D k rs (lists (l.take k)) wr
section
variable{w wr w':World}{D D':DataW Unit}{n n':Nat}{rs:Nat->Value}{ls ls':Nat->List (Int×Int)}
theorem iR.below(k:iR w D n rs ls wr)(a:Below wr.heap.size wr w'):iR w D n rs ls w':=by
 obtain⟨c,g,d,b,e,f⟩:=k;have i:=c.lt;refine⟨c.kept (yj a) (by simp),?_,?_,?_,⟨fun j h=>bE (e.1 j h) a,e.2⟩,f.x (a.m f.size)⟩
 ·rw[a.block _ (by omega)];exact g
 ·unfold fU;rw[a.block _ (Array.getElem?_eq_some_iff.1 d).1];exact d
 ·unfold fU;rw[a.block _ (Array.getElem?_eq_some_iff.1 b).1];exact b
theorem iR.map(p:iR w D n rs ls wr)(a:wr.grownBy w' (some (w.heap.size+1)))(l:w'.ownsMap prog 78 (plainElem prog 3) (w.heap.size+1) n' D'):iR w D' n' rs ls w':=by
 obtain⟨j,h,f,d,c,g⟩:=p;have o:=j.lt;have k:=(cq.1 f).1;have i:=(cq.1 d).1;refine⟨l,?_,?_,?_,⟨fun m b=>(c.1 m b).kept a (.inr ?_),c.2⟩,g.grown a g.size (fun m b=>by cases b;omega)⟩
 ·rw[a.block _ (by omega) (by simp)];exact h
 ·unfold fU;rw[a.block _ k (by intro e;injection e with e;omega)];exact f
 ·unfold fU;rw[a.block _ i (by intro e;injection e with e;omega)];exact d
 ·intro e;have:=(c.1 m b).lt _ e;omega
theorem iR.lists(i:iR w D n rs ls wr)(e: ∀j,j<8->ls' j=ls j):iR w D n rs ls' wr:=by obtain⟨f,c,g,d,b,h⟩:=i;exact⟨f,c,g,d,⟨fun j a=>by rw[e j a];exact b.1 j a,b.2⟩,h⟩
theorem iR.more(h:iR w D n rs ls wr)(hn:n<=n'):iR w D n' rs ls wr:=⟨h.1.mono hn,h.2⟩
end
def upd{α:Type}(f:Nat->α)(i:Nat)(v:α)(j:Nat):α:=if j=i then v else f j
theorem IC.append{w w1:World}{base:Nat}{rs:Nat->Value}{ls:Nat->List (Int×Int)}(k:IC w base rs ls){i:Nat}(hi:i<8){v':Value}{x:Int×Int}(p:w.grownBy w1 (rs i).ownBlock)
  (n:w1.ownsRow base 80 2 v' ((ls i).length+1) (((ls i)++[x]).map mC).flatten) (c:v'.ownBlock=(rs i).ownBlock\/v'.ownBlock=some w.heap.size):IC w1 base (upd rs i v') (upd ls i (ls i++[x])):=by
 refine⟨fun o h=>?_,fun l m g d f j b a=>?_⟩
 ·unfold upd;by_cases q:o=i
  ·subst q;simpa using n
  ·simp only[q,if_false];refine(k.1 o h).kept p ?_
   cases d:(rs o).ownBlock with
   |none=>exact .inl rfl
   |some j=>exact .inr (fun e=>k.2 o i h hi q j d e.symm)
 ·unfold upd at b a;by_cases h:l=i
  ·subst h;have e:m≠l:=Ne.symm f;simp only[if_true,e,if_false]at b a;have o:=((k.1 m d).lt j a).2;rcases c with c|c
   ·rw[c]at b;exact k.2 l m g d f j b a
   ·rw[c]at b;injection b with b;omega
  ·by_cases e:m=i
   ·subst e;simp only[h,if_true,if_false]at b a;have o:=((k.1 l g).lt j b).2;rcases c with c|c
    ·rw[c]at a;exact k.2 l m g d f j b a
    ·rw[c]at a;injection a with a;omega
   ·simp only[h,e,if_false]at b a;exact k.2 l m g d f j b a
theorem IC.set{w:World}{base:Nat}{rs:Nat->Value}{ls:Nat->List (Int×Int)}(h:IC w base rs ls){A j:Nat}(c:A<base)(u:Value):IC (w.setCell ⟨A,j,none⟩ u) base rs ls:=
 ⟨fun i a=>aJ (h.1 i a) (Only.aR w A j u) (fun g b e=>by have:=((h.1 i a).lt g b).1;omega),h.2⟩
theorem fU.set{w:World}{A:Nat}{f:Nat->Value}(h:fU w A f){j:Nat}(b:j<4)(u:Value):fU (w.setCell ⟨A,j,none⟩ u) A (upd f j u):=by
 have a:=dp w A j _ _ u h;unfold fU;have:j=0\/j=1\/j=2\/j=3:=by omega
 rcases this with rfl|rfl|rfl|rfl<;>simpa[upd]using a
theorem fU.other{w w':World}{A:Nat}{f g:Nat->Value}(h:fU w A f)(b:w'.heap[A]?=w.heap[A]?)(a: ∀j,j<4->g j=f j):fU w' A g:=by unfold fU at *;rw[b,h,a 0 (by omega),a 1 (by omega),a 2 (by omega),a 3 (by omega)]
theorem iR.append{w wr w1:World}{D:DataW Unit}{n:Nat}{rs:Nat->Value}{ls:Nat->List (Int×Int)}(F:iR w D n rs ls wr){i:Nat}(hi:i<8){v':Value}{x:Int×Int}(a:wr.grownBy w1 (rs i).ownBlock)
  (s:w1.ownsRow (w.heap.size+1+1+1+1) 80 2 v' ((ls i).length+1) (((ls i)++[x]).map mC).flatten) (v:v'.ownBlock=(rs i).ownBlock\/v'.ownBlock=some wr.heap.size)
  {A j:Nat} (m:(i<4/\A=w.heap.size+1+1/\j=i)\/(4<=i/\A=w.heap.size+1+1+1/\i=4+j)):
  iR w D n (upd rs i v') (upd ls i (ls i++[x])) (w1.setCell ⟨A,j,none⟩ v'):=by
 obtain⟨l,z,h,f,k,r⟩:=F;have E:=l.lt;have p:=(cq.1 h).1;have q:=(cq.1 f).1;have b: ∀e,e<w.heap.size+1+1+1+1->some e≠(rs i).ownBlock:=fun e c B=>by have:=((k.1 i hi).lt e B.symm).1;omega
 have u:A<w.heap.size+1+1+1+1/\w.heap.size+1<A:=by omega
 have g: ∀e,e≠A->(w1.setCell ⟨A,j,none⟩ v').heap[e]?=w1.heap[e]?:=fun e c=>Below.heap_setCell _ _ _ _ c;have y:=(k.append hi a s v).set (A:=A) (j:=j) u.1 v';refine⟨(l.kept a (b _ (by omega))).setCell (by simp;omega) _,?_,?_,?_,y,?_⟩
 ·rw[g _ (by omega),a.block _ (by omega) (b _ (by omega))];exact z
 ·rcases m with⟨d,rfl,rfl⟩|⟨d,rfl,rfl⟩
  ·have o:fU w1 (w.heap.size+1+1) rs:=h.other (a.block _ p (b _ (by omega))) (fun _ _=>rfl);exact o.set d v'
  ·refine h.other ?_ (fun C o=>?_)
   ·rw[g _ (by omega),a.block _ p (b _ (by omega))]
   ·unfold upd;rw[fb (by omega)]
 ·rcases m with⟨d,rfl,rfl⟩|⟨d,rfl,rfl⟩
  ·refine f.other ?_ (fun C o=>?_)
   ·rw[g _ (by omega),a.block _ q (b _ (by omega))]
   ·unfold upd;rw[fb (by omega)]
  ·have t:fU w1 (w.heap.size+1+1+1) (fun j=>rs (4+j)):=f.other (a.block _ q (b _ (by omega))) (fun _ _=>rfl);have:=t.set (j:=j) (by omega) v';refine this.other rfl (fun C o=>?_);unfold upd;by_cases B:C=j
   ·subst B;simp
   ·rw[fb (by omega),fb B]
 ·exact(r.grown a r.size (fun e c=>by have:=((k.1 i hi).lt e c).1;omega)).setCell (by simp;omega) _
theorem km.put{D:DataW Unit}{f g:List UInt8->Int}{k:List UInt8}{v:Int}(h:km D f)(hm:IsMap D)(hv:v≠0)(hs:g k=v)(ho: ∀k',k'≠k->g k'=f k'):km (D.put (cY k) (.lit (.int .i64 v))) g:=by
 intro k';by_cases e:k'=k
 ·subst e;have hk:WideAt.IsKeyLit (cY k'):=by unfold cY;exact trivial
  rw[atKey_put_same hm hk,has_put_same hm hk,hs];simp[hv]
 ·have hne:cY k'≠cY k:=fun h=>e (xS h);rw[atKey_put_other hne,has_put_other hne,ho k' e];exact h k'
theorem km.same{D:DataW Unit}{f g:List UInt8->Int}(h:km D f)(e: ∀k,g k=f k):km D g:=fun k=>by rw[e k];exact h k
def iT(l:List Cl):Int:=match l.find? (fun c=>EL c !=0)with|some c=>EL c|none=>0
def dE(l out:List Cl):Prop:=Ks out/\ ∀t,fw out t=fw l t
def V8(n:Int):Ending:=.returned (.tuple #[.agg #[.slice none 0 0],rm n])
def P6(l:List Cl)(w:World)(e:Ending)(w':World):Prop:=
 Below w.heap.size w w'/\((iT l≠0/\e=V8 (iT l))\/(iT l=0/\ ∃out,dE l out/\((64<out.length/\e=V8 23)\/
  (out.length<=64/\ ∃A c,e=.returned (.tuple #[.agg #[.slice A out.length c],rm 0])/\w'.ownsRow w.heap.size 68 5 (.slice A out.length c) out.length (out.map Cl.cells).flatten))))
theorem mW{w:World}{A:Nat}{f:Nat->Value}(h:fU w A f): ∀j,j<4->w.cell? ⟨A,j,none⟩=some (f j)/\w.frozen? ⟨A,j,none⟩=false:=by
 intro j a;have:j=0\/j=1\/j=2\/j=3:=by omega
 rcases this with rfl|rfl|rfl|rfl<;>simp[World.cell?,World.frozen?,(show w.heap[A]?=some (.cells #[f 0,f 1,f 2,f 3] 75 (0,0))from h)]
theorem ID{w:World}{b:Nat}{v0 v1 v2 v3 v4:Value}{t:TypeId}(h:w.heap[b]?=some (.cells #[v0,v1,v2,v3,v4] t (0,0))):
  w.cell? ⟨b,0,none⟩=some v0/\w.cell? ⟨b,1,none⟩=some v1/\w.cell? ⟨b,2,none⟩=some v2/\w.cell? ⟨b,3,none⟩=some v3/\w.cell? ⟨b,4,none⟩=some v4:=by
 simp[World.cell?,h]
theorem yl{α:Type}{p:α->Bool}: ∀{l:List α} {k:Nat} {x:α},(∀c∈l.take k,p c=false)->l[k]?=some x->p x=true->l.find? p=some x
 |[],_,_,_,h,_=>by simp at h
 |y::l,0,x,_,h,hp=>by simp at h;subst h;simp[hp]
 |y::l,k+1,x,ha,h,hp=>by have b:=ha y (by simp);rw[List.find?_cons,b];exact yl (k:=k) (fun c a=>ha c (by rw[List.take_succ_cons];exact List.mem_cons_of_mem _ a)) (by simpa using h) hp
theorem P7{l:List Cl}{k:Nat}{x:Cl}(c: ∀e∈l.take k,Ok e)(a:l[k]?=some x)(b:EL x≠0):iT l=EL x:=by unfold iT;rw[yl (k:=k) (x:=x) (fun e d=>by have:EL e=0:=c e d;simp[this]) a (by simpa using b)]
theorem si{l:List Cl}(a: ∀c∈l,Ok c):iT l=0:=by unfold iT;rw[List.find?_eq_none.2 (fun c b=>by have:EL c=0:=a c b;simp[this])]
theorem Fl{l:List Cl}(h:iT l=0): ∀c∈l,Ok c:=by
 unfold iT at h;split at h
 ·rename_i c a;have:=List.find?_some a;simp at this;exact absurd h this
 ·rename_i a;intro c b;have:=List.find?_eq_none.1 a c b;simpa[Ok]using this
theorem pV{l:List Cl}{k:Nat}{x:Cl}(d: ∀c∈l.take k,Ok c)(b:l[k]?=some x)(h:Ok x): ∀c∈l.take (k+1),Ok c:=by
 rw[ej b];intro c a;rcases dr.1 a with a|a
 ·exact d c a
 ·simp at a;subst a;exact h
theorem Bz{l:List Cl}{x:Cl}(b:x.aO= -1): ∀j,j<8->lists (l++[x]) j=lists l j:=by
 intro j _;unfold lists cS;have a: ∀m:Nat,¬x.aO=(m:Int):=fun m=>by omega
 split<;>simp[a]
theorem Mv{l:List Cl}{x:Cl}{j:Nat}(b:x.aO=(j:Int))(d:j<4): ∀i,i<8->lists (l++[x]) i=upd (lists l) (if x.wr then 4+j else j) (lists l (if x.wr then 4+j else j)++[(x.lo,x.hi)]) i:=by
 intro i g;unfold lists cS upd
 cases hw:x.wr with
 |true=>
  by_cases a:i<4
  ·have c:i≠4+j:=by omega
   simp[hw,a,c]
  ·by_cases e:i=4+j
   ·subst e;have f:4+j-4=j:=by omega
    simp only[a,if_false,if_true,f];simp[hw,b]
   ·have:((j:Int)==((i-4:Nat):Int))=false:=by simp;omega
    simp[hw,a,e,b,this]
 |false=>
  by_cases a:i<4
  ·by_cases e:i=j
   ·subst e;simp[hw,b,d]
   ·have:((j:Int)==(i:Int))=false:=by simp;omega
    simp[hw,a,e,b,this]
  ·have c:i≠j:=by omega
   simp[hw,a,c]
theorem tW(l:List Cl)(j:Nat):(lists l j).length<=l.length:=by unfold lists cS;split<;>simp[List.length_filter_le]
theorem ah{P:Program}{md:Region.Mode}{l:List Oper}{Q:Exit->Act->World->Prop}{S:World->Prop}{i:Nat}{b:Oper}{v:Value}{fuel:Nat}{c:Array Bool}{a:Act}{w:World}(hi:l[i]?=some b)
  (e:Region.noSelect l.toArray=true) (k:Region.free md l.toArray c i=true) (h:(Region.ready md l.toArray c).contains i=true)
  (g: ∀d a w,Q (.panic d) (a.put b.dst v) w->Q (.panic d) a w) (j:Region.wanted b (yielded l.toArray a.tmps)=true) (f: ∀w,S w->(execOp a.eval b).run P w=.ok (.value v) w) (d:S w)
  (m:wpAnyH P md l.toArray Q S fuel (c.setIfInBounds i true) (a.put b.dst v) w):wpAnyH P md l.toArray Q S (fuel+1) c a w:=
 wpAnyH_take (by simpa using hi) e k h g (.inl ⟨j,f⟩) d m
theorem av{P:Program}{md:Region.Mode}{l:List Oper}{Q:Exit->Act->World->Prop}{S:World->Prop}{fuel:Nat}{b:Array Bool}{a:Act}{w:World}{i:Nat}{o:Oper}{rs:List Nat}(d:l[i]?=some o)
  (h: ∀c:Act->World->Prop,Shut (∀a w,S w->(S w->wpAnyH P md l.toArray Q S fuel (b.setIfInBounds i true) a w)->c a w)->if Region.wanted o (yielded l.toArray a.tmps)=true then Oper.wp P o a w c Q else c (a.put o.dst undef) w)
  (c:AllReadyH P md l.toArray Q S fuel b a w rs):AllReadyH P md l.toArray Q S fuel b a w (i::rs):=AllReadyH.cons (by simpa using d) h c
theorem ko{w2 X a:World}{o:Obj}{b:Option Nat}(h:X.grownBy a b)(f:X.heap=(w2.alloc o).heap){A j:Nat}{v:Value}(d:w2.cell? ⟨A,j,none⟩=some v)(i:w2.frozen? ⟨A,j,none⟩=false)(g:some A≠b):
  a.cell? ⟨A,j,none⟩=some v/\a.frozen? ⟨A,j,none⟩=false:=by
 have c:=aq w2 _ d
 have e:a.heap[A]?=w2.heap[A]?:=by rw[h.block A (by rw[f];simp;exact Nat.lt_succ_of_lt c) g,f];exact Below.heap_alloc _ _ _ c
 exact⟨(World.cell?_of_block e).x d,(World.frozen?_of_block e).x i⟩
theorem vX{l:List Cl}{x:Cl}(h:x.aO= -1)(b:x.lo=0)(c:x.hi=0)(k:List UInt8):fw (l++[x]) (-1,k,0)=if k=x.key then(if x.wr=true then 2 else max (fw l (-1,k,0)) 1)else fw l (-1,k,0):=by
 rw[ES];by_cases e:k=x.key
 ·have:x.has (-1,k,0):=⟨h,e.symm,by simp only;omega,by simp only;omega⟩;rw[ff this,ff e]
 ·have: ¬x.has (-1,k,0):=fun a=>e a.2.1.symm;rw[fb this,fb e]
theorem IE{l:List Cl}{x:Cl}(h:0<=x.aO)(k:List UInt8):fw (l++[x]) (-1,k,0)=fw l (-1,k,0):=by rw[ES,fb (fun a=>by have:=a.1;simp only at this;omega)]
theorem Fm{w w':World}{base base':Nat}{e a:TypeId}{size b n n':Nat}{v v':Value}{xs d:List Value}(i:w.ownsRow base e size v n xs)(g:w.ownsRow base' a b v' n' d)(c:e≠a)(f:w.grownBy w' v'.ownBlock):w'.ownsRow base e size v n xs:=by
 refine i.kept f ?_
 cases hb:v.ownBlock with
 |none=>exact .inl rfl
 |some h=>exact .inr (fun h=>iZ i g c hb h.symm)
def jJ(W R:Int->List (Int×Int)):Nat->List Cl
 |0=>[]
 |n+1=>jJ W R n++vh W R (n:Int)
theorem ym{W R a b:Int->List (Int×Int)}: ∀{k:Nat},(∀i:Nat,i<k->W i=a i/\R i=b i)->jJ W R k=jJ a b k
 |0,_=>rfl
 |k+1,h=>by unfold jJ vh;rw[ym (fun i c=>h i (by omega)),(h k (by omega)).1,(h k (by omega)).2]
def sj(W:Int->List (Int×Int))(k:Nat)(x:List (Int×Int))(i:Int):List (Int×Int):=if i=(k:Int)then x else W i
theorem pW{W:Int->List (Int×Int)}{k:Nat}{x:List (Int×Int)}:sj W k x (k:Int)=x:=by simp[sj]
theorem nS{W:Int->List (Int×Int)}{k i:Nat}{x:List (Int×Int)}(h:i≠k):sj W k x (i:Int)=W i:=by unfold sj;rw[fb (by omega)]
theorem BB(W R:Int->List (Int×Int))(k:Nat)(x y:List (Int×Int)):jJ (sj W k x) (sj R k y) (k+1)=jJ W R k++(x.map (tJ (k:Int) true)++y.map (tJ (k:Int) false)):=by have h:jJ (sj W k x) (sj R k y) k=jJ W R k:=ym (fun i a=>⟨nS (by omega),nS (by omega)⟩);show jJ (sj W k x) (sj R k y) k++vh _ _ _=_;rw[h];unfold vh;rw[pW,pW]
theorem Fq(ks:List (Bool×List UInt8))(W R:Int->List (Int×Int)):fG ks W R=ks.map zS++jJ W R 4:=by unfold fG jJ jJ jJ jJ jJ;simp
def KO(l:List Cl)(i:Int)(W R:List (Int×Int)):Prop:=(cJ W/\ ∀n,lU W n↔lU (cS l i true) n)/\cJ R/\ ∀n,lU R n↔lU (cS l i false) n/\ ¬lU W n
def Inv(w:World)(rs:Nat->Value)(ls:Nat->List (Int×Int))(out:List Cl)(v10:Value)(P:Nat->Prop)(wr:World):Prop:=
 wr.heap[w.heap.size]?=some tg/\fU wr (w.heap.size+1+1) rs/\fU wr (w.heap.size+1+1+1) (fun j=>rs (4+j))/\
  (∀j,j<8->P j->wr.ownsRow (w.heap.size+1+1+1+1) 80 2 (rs j) (ls j).length ((ls j).map mC).flatten)/\wr.ownsRow w.heap.size 68 5 v10 out.length (out.map Cl.cells).flatten/\Below w.heap.size w wr
def aa2(rs:Nat->Value):Prop:= ∀i j,i<8->j<8->i≠j-> ∀g,(rs i).ownBlock=some g->(rs j).ownBlock≠some g
section
variable{w wr w':World}{rs:Nat->Value}{ls:Nat->List (Int×Int)}{out out':List Cl}{v10 v':Value}{P P':Nat->Prop}
theorem Inv.below(k:Inv w rs ls out v10 P wr)(a:Below wr.heap.size wr w'):Inv w rs ls out v10 P w':=by
 obtain⟨c,b,d,f,i,e⟩:=k;refine⟨?_,?_,?_,fun j g h=>bE (f j g h) a,bE i a,e.x (a.m e.size)⟩
 ·rw[a.block _ (Array.getElem?_eq_some_iff.1 c).1];exact c
 ·unfold fU;rw[a.block _ (Array.getElem?_eq_some_iff.1 b).1];exact b
 ·unfold fU;rw[a.block _ (Array.getElem?_eq_some_iff.1 d).1];exact d
theorem Inv.mono(h:Inv w rs ls out v10 P wr)(c: ∀j,P' j->P j):Inv w rs ls out v10 P' wr:=⟨h.1,h.2.1,h.2.2.1,fun j b a=>h.2.2.2.1 j b (c j a),h.2.2.2.2⟩
abbrev Inv.m:=@Inv.mono
theorem Inv.P8(s:Inv w rs ls out v10 P wr)(m:aa2 rs){i:Nat}(hi:i<8)(p:P i)(a:Only (fun c=>(rs i).ownBlock=some c) wr w'):Inv w rs ls out v10 (fun l=>P l/\l≠i) w':=by
 obtain⟨n,o,q,f,h,j⟩:=s;have e:=f i hi p;have b: ∀c,c<w.heap.size+1+1+1+1-> ¬(rs i).ownBlock=some c:=fun c d k=>by have:=(e.lt c k).1;omega
 refine⟨a.heap n (b _ (by omega)),a.heap o (b _ (by omega)),a.heap q (b _ (by omega)),fun l g d=>aJ (f l g d.1) a (fun r c k=>m l i g hi d.2 r c k),aJ h a (fun r c k=>iZ e h (by decide) k c),?_⟩;exact j.x (a.aH j.size (fun k c=>b k (by omega)))
theorem Inv.append(o:Inv w rs ls out v10 P wr)(d:wr.grownBy w' v10.ownBlock)(m:w'.ownsRow w.heap.size 68 5 v' out'.length (out'.map Cl.cells).flatten):Inv w rs ls out' v' P w':=by
 obtain⟨g,h,j,f,e,k⟩:=o;have c: ∀{n:Nat} {i:Array Value} {t:TypeId} {a:Nat×Nat},wr.heap[n]?=some (.cells i t a)->(68:TypeId)≠t->w'.heap[n]?=wr.heap[n]?:=fun{n i t a} b l=>d.block _ (cq.1 b).1 (fun n=>cD e b l n.symm);refine⟨(c g (by decide)).x g,(c h (by decide)).x h,(c j (by decide)).x j,fun l a i=>?_,m,k.grown d k.size (fun l a=>(e.lt l a).1)⟩;refine(f l a i).kept d ?_
 cases b:(rs l).ownBlock with
 |none=>exact .inl rfl
 |some p=>exact .inr (fun n=>iZ (f l a i) e (by decide) b n.symm)
end
theorem BC{s:List (Int×Int)}(h:iA s):iA (cI s):=Bl (fun _ h=>by simp at h) h
theorem BD(s:List (Int×Int)):(cI s).length<=s.length:=by have:=Bn (l:=s) (out:=[]);simpa[cI]using this
theorem BF: ∀(os:List (Int×Int)) (s:Int×Int),(eV s os).length<=os.length+1
 |[],s=>by simp[eV]
 |o::os,s=>by
  unfold eV;split
  ·simp
  ·have:=BF os (o.2+1,s.2);split<;>split<;>simp<;>omega
theorem Fu(lo:Int)(os:List (Int×Int)):(cQ lo os).length<=os.length:=by unfold cQ;exact List.IsSuffix.length_le (List.dropWhile_suffix _)
theorem sk: ∀(l os:List (Int×Int)),(bW l os).length<=l.length*(os.length+1)
 |[],os=>by simp[bW]
 |s::l,os=>by unfold bW;have c:=BF (cQ s.1 os) s;have a:=Fu s.1 os;have d:=sk l (cQ s.1 os);have b:l.length*((cQ s.1 os).length+1)<=l.length*(os.length+1):=Nat.mul_le_mul_left _ (by omega);rw[gr,gn,lr];omega
theorem Mw{l:List Cl}(h: ∀c∈l,c.fits)(j:Nat):iA (lists l j):=by
 intro x a
 have: ∃i d,x∈cS l i d:=by
  unfold lists at a;split at a
  ·exact⟨_,_,a⟩
  ·exact⟨_,_,a⟩
 obtain⟨i,d,a⟩:=this;obtain⟨c,b,_,_,rfl⟩:=ml.1 a;exact⟨(h c b).2.1,(h c b).2.2.1⟩
theorem Fv{l:List Cl}(d: ∀c∈l,Ok c){i:Int}{s s':List (Int×Int)}(c:s.Perm (cS l i true))(b:s'.Perm (cS l i false))(e:lI s)(j:lI s'):KO l i (cI s) (bW (cI s') (cI s)):=by have k:tM s:=fun x a=>pj d i true x (c.mem_iff.1 a);have g:tM s':=fun x a=>pj d i false x (b.mem_iff.1 a);obtain⟨a,p⟩:=xM k e;obtain⟨m,f⟩:=xM g j;obtain⟨o,h,_⟩:=qz m a;exact⟨⟨a,fun n=>(p n).x (ER c n)⟩,o,fun n=>by rw[h n,f n,ER b n]⟩
theorem Af{ks:List (List UInt8)}(d:ks.Nodup):(ks.mergeSort fun x y=>decide (x<=y)).Pairwise (· < ·):=by
 have a:=List.pairwise_mergeSort (le:=fun x y:List UInt8=>decide (x<=y)) (fun e f c h b=>by simp at *;exact List.le_trans h b) (fun e f=>by simp;exact List.le_total e f) ks;have c:(ks.mergeSort fun x y=>decide (x<=y)).Nodup:=(List.mergeSort_perm ks _).nodup_iff.2 d;refine(a.and c).imp ?_;rintro e f ⟨h,b⟩;simp at h;rcases Decidable.em (e<f)with a|a
 ·exact a
 ·exact absurd (List.le_antisymm h (List.not_lt.1 a)) b
theorem BG{l:List Cl}(f: ∀c∈l,Ok c){ks:List (List UInt8)}(g:ks.Nodup)(c: ∀k,k∈ks↔fw l (-1,k,0)≠0){rows:List Cl}(h:(ks.mergeSort fun x y=>decide (x<=y)).map (Bx fun a=>fw l (-1,a,0))=rows)
  {W R:Int->List (Int×Int)} (j: ∀i:Nat,i<4->KO l i (W i) (R i)):dE l (rows++jJ W R 4):=by
 have e:rows++jJ W R 4=fG ((ks.mergeSort fun x y=>decide (x<=y)).map fun k=>(fw l (-1,k,0)==2,k)) W R:=by rw[Fq,<-h,List.map_map];rfl
 rw[e]
 have d: ∀i:Int,0<=i->i<4->KO l i (W i) (R i):=fun i b a=>by obtain⟨n,rfl⟩: ∃n:Nat,i=(n:Int):=⟨i.toNat,by omega⟩;exact j n (by omega)
 refine TF f ?_ ?_ ?_ (fun i b a=>(d i b a).1) (fun i b a=>(d i b a).2)
 ·rw[List.pairwise_map];exact Af g
 ·intro k;have m:=jg l (-1,k,0);constructor
  ·rintro⟨o,a⟩;obtain⟨i,b,e⟩:=ep.1 a;injection e with _ e;subst e;have:=(c _).1 (List.mem_mergeSort.1 b);omega
  ·intro o;exact⟨_,ep.2 ⟨k,List.mem_mergeSort.2 ((c k).2 (by omega)),rfl⟩⟩
 ·intro k;constructor
  ·intro a;obtain⟨i,b,e⟩:=ep.1 a;injection e with m e;subst e;simpa using m
  ·intro o;refine ep.2 ⟨k,List.mem_mergeSort.2 ((c k).2 (by omega)),?_⟩;rw[o];rfl
theorem IG(w:World)(l:List Cl):P4 w l 0 ((((w.alloc tg).alloc (.map #[] 0)).alloc tm).alloc tm):=by
 refine⟨.map [],fun _=>.slice none 0 0,?_,?_,?_,?_,?_,⟨?_,?_⟩,?_⟩
 ·intro k;simp[TD,DataW.atKey,Maps.has]
 ·have h:=World.ownsMap_made (H:=Unit) (w.alloc tg) prog 78 (plainElem prog 3);have e:(w.alloc tg).heap.size=w.heap.size+1:=by simp
  rw[e]at h;exact(h.alloc _).alloc _
 ·rw[Below.heap_alloc _ _ _ (by simp;omega),Below.heap_alloc _ _ _ (by simp;omega),Below.heap_alloc _ _ _ (by simp)];exact an _ _
 ·unfold fU;rw[Below.heap_alloc _ _ _ (by simp)];have e:w.heap.size+1+1=((w.alloc tg).alloc (.map #[] 0)).heap.size:=by simp
  rw[e];exact an _ _
 ·unfold fU;have e:w.heap.size+1+1+1=(((w.alloc tg).alloc (.map #[] 0)).alloc tm).heap.size:=by simp
  rw[e];exact an _ _
 ·intro j hj;have:lists (l.take 0) j=[]:=by simp[lists,cS]
  rw[this];exact dy _ _ _ _
 ·intro i j _ _ _ g hg;simp[Value.ownBlock]at hg
 ·exact((((bd _ _).alloc (b8 _) _).alloc (by simp) _).alloc (by simp;omega) _).alloc (by simp;omega) _
def aa4(w:World)(l:List Cl)(rs:Nat->Value)(rows:List Cl)(k:Nat)(v10:Value)(wr:World):Prop:=
 ∃W R:Int->List (Int×Int),(∀i:Nat,i<k->KO l i (W i) (R i))/\(rows++jJ W R k).length<=1000+k*1002000/\Inv w rs (lists l) (rows++jJ W R k) v10 (fun j=>k<=j%4) wr
theorem pY{w w2 f:World}{l:List Cl}{k:Nat}{x:Cl}{D:DataW Unit}{rs:Nat->Value}{i j A c a b g:Nat}{d:Option Addr}(z:iR w D k rs (lists (l.take k)) w2)(m:l[k]?=some x)(y:km D (fun e=>fw (l.take k) (-1,e,0)))
  (s:x.aO=(j:Int)) (q:j<4) (hi:i=if x.wr then 4+j else j) (v:rs i=.slice d (lists (l.take k) i).length c) (h:(lists (l.take k) i).length=a)
  (B:f.ownsRow (w.heap.size+1+1+1+1) 80 2 (.slice (some ⟨b,0,none⟩) (a+1) g) (a+1) (((lists (l.take k) i).map mC).flatten++[rm x.lo,rm x.hi]))
  (r:(w2.alloc (sg x.lo x.hi)).drew.grownBy f (Value.slice d a c).ownBlock) (C:(Value.slice d a c).ownBlock=some b\/b=w2.heap.size+1)
  (t:(i<4/\A=w.heap.size+1+1/\j=i)\/(4<=i/\A=w.heap.size+1+1+1/\i=4+j)):P4 w l (k+1) (f.setCell ⟨A,j,none⟩ (.slice (some ⟨b,0,none⟩) (a+1) g)):=by
 have p:i<8:=by omega
 have u:iR w D k rs (lists (l.take k)) (w2.alloc (sg x.lo x.hi)).drew:=z.below (((bd _ _).alloc (b8 _) _).drew);have n:(rs i).ownBlock=(Value.slice d a c).ownBlock:=by rw[v,h]
 have o:=u.append p (v':=.slice (some ⟨b,0,none⟩) (a+1) g) (x:=(x.lo,x.hi)) (by rw[n];exact r) (by rw[h];simpa[mC]using B) (by
  rw[n];rcases C with o|o
  ·exact .inl o.symm
  ·refine .inr ?_;subst o
   simp[Value.ownBlock]) t
 refine⟨D,_,?_,(o.more (Nat.le_succ k)).lists (fun F E=>?_)⟩
 ·rw[ej m];exact y.same (fun e=>IE (by omega) e)
 ·rw[ej m,Mv s q F E,<-hi]
end
section
open Go.RowKit Go.Maps Go.WideShapes
theorem C4(w:World)(F:Nat->Prop)(v:Value)(l:List Cl)(h:eI w F v l)(hl:l.length<=1000)(hfit: ∀c∈l,c.fits):
  Calls prog 9 #[v] w (P6 l w):=by
 obtain⟨i0,hi,hz0,hz1,hz2⟩:=eh Tryz.Hy;obtain⟨i2,hi2,hy0,hy1,hy2⟩:=eh Tryz.tI;obtain⟨A,c,rfl,hnc,hcm⟩:=h.slice;have H:=al h;have zN:=al hi;clear h hi;have hmm:= @run_makeMap prog;go_enter func9,ntmps9;go_wp2_with fail
 go_step3
 go_wp2_with fail
 go_step3
 go_wp2_with fail
 go_loopw [7,16] (fun e i wr=>e=rm 0/\ ∃k,k<=l.length/\i=rm (k:Int)/\(∀c∈l.take k,Ok c)/\P4 w l k wr) (fun _ i _=>l.length-(intOf i).toNat)
 case atStart=>exact⟨rfl,0,dq _,rfl,by simp,IG w l⟩
 case round=>
  obtain⟨rfl,k,hk,rfl,hok,D,rs,hD,hC⟩:=hrel;by_cases hlt:k<l.length
  ·obtain⟨x,hx⟩: ∃x,l[k]?=some x:=⟨_,ao hlt⟩;obtain⟨b,o,rfl,uA,c0,c1,c2,c3,c4⟩:=H.o.at_ hx;have hb:b<w.heap.size:=aq w _ c0;have hbl:=hC.2.2.2.2.2;have c0':=(hbl.cell (p:=⟨b,o+k*5,none⟩) hb).x c0;have c1':=(hbl.cell (p:=⟨b,o+k*5+1,none⟩) hb).x c1;have Xy:=(hbl.cell (p:=⟨b,o+k*5+2,none⟩) hb).x c2;have c3':=(hbl.cell (p:=⟨b,o+k*5+3,none⟩) hb).x c3;have c4':=(hbl.cell (p:=⟨b,o+k*5+4,none⟩) hb).x c4;have hcon:=fun W=>OV W x;have zy:=hfit x (db hx);have hs:=hbl.size;have HL:=AM hok hD hC hbl hx;clear hok hD hC hbl hx c0 c1 c2 c3 c4;unfold Cl.val at hcon;by_cases he:EL x=0
   ·have II:Ok x:=he;rw[he]at hcon;clear he;go_wp2_with fail;refine(hcon _).m ?_;rintro e w2 ⟨rfl,hb2⟩
    have bQ:w2.heap[wr.heap.size]?=some (sd x.wr x.aO x.key.toArray x.lo x.hi):=by rw[hb2.block wr.heap.size (by simp)];exact an _ _
    have gP:Below wr.heap.size wr w2:=((bd _ _).alloc (b8 _) _).x (hb2.m (by simp));have GW:=HL.o.d.1.below gP;obtain⟨q0,q1,q2,q3,q4⟩:=ID bQ;have hml:=GW.1.lt;have hs2:=gP.size;have hbz:wr.heap.size<w2.heap.size:=(cq.1 bQ).1;have HC:=al GW;have My:=al bQ;clear hb2 hcon gP GW c0' c1' Xy c3' c4' bQ;rcases II.parts with⟨e1,e2,e3,e4,e5⟩|⟨e1,e2,e3,e4⟩
    ·have hkey:=Bq (k:=x.key) (by unfold maxLen;omega);unfold E3 at hkey;have HK:=AI hkey e2 e3 e1;rw[e1]at q1;clear hkey e1 e2 e3 q3 q4
     cases hw:x.wr with
     |true=>
      rw[hw]at q0;have HW:=al hw;clear hw;go_wp2_with (at_mapUpdate;go_loud (refine wpList_mapUpdate_own _ rfl _ _ _ 73 rfl 78 3 Mh underlying73 _ (w.heap.size+1) k D rfl HC.o.1 (by unfold maxLen;omega) _ _ _ rfl rfl HK.o.1 _ [] (plainElem_int underlying3 (by decide)) ?_);intro w3 dG bJ);go_roundw
      case rel=>
       refine⟨rfl,k+1,by omega,by go_num,pV HL.o.1 HL.o.q II,_,rs,?_,((HC.o.map bJ dG).lists (fun j hj=>?_))⟩
       ·rw[ej HL.o.q];refine HL.o.2.1.put HC.o.1.isMap (by decide) ?_ (fun k' hk'=>?_)
        ·rw[vX HK.o.t HK.o.2.1 HK.o.d.1,ff rfl,ff HW.o]
        ·rw[vX HK.o.t HK.o.2.1 HK.o.d.1,fb hk']
       ·rw[ej HL.o.q];exact Bz HK.o.t j hj
      case measure=>simp[intOf];omega
     |false=>
      rw[hw]at q0;have HW:=al hw;clear hw;obtain⟨r,hlk,hat,hwr⟩:=HC.o.1.drew.lookup_int Mh underlying73 underlying3 (Tryz.V5 _) HK.o.1
      have hrl:r=fw (l.take k) (-1,x.key,0):=by have h:=(HL.o.2.1 x.key).1;rw[hat]at h;simpa using h
      have TZ:=jg (l.take k) (-1,x.key,0);rw[<-hrl]at TZ;have HR:=al hrl;clear hat hrl hwr;go_upto_region 13 with fail
      go_still_tail 10,(by kernel_rfl)
      change wpList _ _ _ _ _ w2.drew;generalize hmx:(max r 1:Int)=mx
      have hwf:(Lit.int .i64 mx).wf=true:=by
       have:mx=1\/mx=2:=by omega
       rcases this with rfl|rfl<;>decide
      have HM:=al hmx;clear hmx hlk;go_wp2_with (at_mapUpdate;go_loud (refine wpList_mapUpdate_own _ rfl _ _ _ 73 rfl 78 3 Mh underlying73 _ (w.heap.size+1) k D rfl HC.o.1.drew (by unfold maxLen;omega) _ _ _ rfl rfl HK.o.1 _ [] (plainElem_int underlying3 hwf) ?_);intro w3 dG bJ);go_roundw
      case rel=>
       have kg:mx≠0:=by have:=HM.o;omega
       have hgrow:w2.grownBy w3 (some (w.heap.size+1)):=⟨bJ.os,bJ.tape,bJ.output,bJ.size,bJ.block⟩;refine⟨rfl,k+1,by omega,by go_num,pV HL.o.1 HL.o.q II,_,rs,?_,((HC.o.map hgrow dG).lists (fun j hj=>?_))⟩
       ·rw[ej HL.o.q];refine HL.o.2.1.put HC.o.1.isMap kg ?_ (fun k' hk'=>?_)
        ·rw[vX HK.o.t HK.o.2.1 HK.o.d.1,ff rfl,fb (by rw[HW.o];decide),<-HR.o];exact HM.o
        ·rw[vX HK.o.t HK.o.2.1 HK.o.d.1,fb hk']
       ·rw[ej HL.o.q];exact Bz HK.o.t j hj
      case measure=>simp[intOf];omega
    ·obtain⟨j,hj⟩: ∃j:Nat,x.aO=(j:Int):=⟨x.aO.toNat,by omega⟩;have SA:j<4:=by omega
     have hj0:(0:Int)<=(j:Int):=by omega
     have hj5:(j:Int)<4:=by omega
     rw[hj]at q1;have HJ:=AF hj e1 e3;clear hj e1 e2 e3 q2
     cases hw:x.wr with
     |true=>
      rw[hw]at q0;have hi8:4+j<8:=by omega
      obtain⟨a0,a1⟩:=mW HC.o.t.1 j SA;have hown:=HC.o.q.1.1 (4+j) hi8;obtain⟨A',c',hv⟩:=ai hown
      have hll:(lists (l.take k) (4+j)).length<=1000:=by have:=tW (l.take k) (4+j);simp at this;omega
      simp only[hv]at a0;obtain⟨nl,hnl⟩:=rk ((lists (l.take k) (4+j)).length);rw[hnl]at a0 hll;have hown2:=hown.alloc (sg x.lo x.hi);rw[hv,hnl]at hown2;have hnews:=eb (an w2 (sg x.lo x.hi));have hl3:=(cq.1 HC.o.d.1).1;have hl5:=(cq.1 HL.o.d.1.2.2.2.1).1;have jW:w.heap.size+1+1≠wr.heap.size:=by omega
      have nM:w.heap.size+1+1+1≠wr.heap.size:=by omega
      have hl4:=(cq.1 HC.o.t.1).1
      have hgn: ∀g,Value.ownBlock (.slice A' nl c')=some g->w.heap.size+1+1+1+1<=g/\g<w2.heap.size:=fun g hg=>by rw[<-hnl,<-hv]at hg;exact hown.lt g hg
      have dB: ∀g,Value.ownBlock (.slice A' nl c')=some g->g≠wr.heap.size:=fun g hg e=>by rw[<-hnl,<-hv]at hg;subst e;exact cD hown My.o (by decide) hg
      have HW:=AF hw hv hnl;have HO:=AI hown2 hnews hgn dB;clear hw hv hnl hown hown2 hnews hgn dB;go_upto_region 15 with fail;refine pt (S:=(fun w'=>w'.cell? ⟨wr.heap.size,1,none⟩=some (rm (j:Int))/\w'.cell? ⟨wr.heap.size,3,none⟩=some (rm x.lo)/\w'.cell? ⟨wr.heap.size,4,none⟩=some (rm x.hi))) (by kernel_rfl) ⟨q1,q3,q4⟩ (fun qn=>?_);refine ah (i:=0) (v:=?_) rfl (by kernel_rfl) (by kernel_rfl) (by kernel_rfl) (fun _ _ _ h=>h) (by rfl) (fun w hSw=>?_) qn ?_;rotate_left
      ·obtain⟨s1,s3,s4⟩:=hSw;go_simp;try rfl
      try simp only[xr]
      refine ah (i:=1) (v:=?_) rfl (by kernel_rfl) (by kernel_rfl) (by kernel_rfl) (fun _ _ _ h=>h) (by rfl) (fun w hSw=>?_) qn ?_;rotate_left
      ·obtain⟨s1,s3,s4⟩:=hSw;go_simp;try rfl
      try simp only[xr]
      refine ah (i:=2) (v:=?_) rfl (by kernel_rfl) (by kernel_rfl) (by kernel_rfl) (fun _ _ _ h=>h) (by rfl) (fun w hSw=>?_) qn ?_;rotate_left
      ·obtain⟨s1,s3,s4⟩:=hSw;go_simp;try rfl
      try simp only[xr]
      refine ah (i:=3) (v:=?_) rfl (by kernel_rfl) (by kernel_rfl) (by kernel_rfl) (fun _ _ _ h=>h) (by rfl) (fun w hSw=>?_) qn ?_;rotate_left
      ·obtain⟨s1,s3,s4⟩:=hSw;go_simp;try rfl
      try simp only[xr]
      refine ah (i:=4) (v:=?_) rfl (by kernel_rfl) (by kernel_rfl) (by kernel_rfl) (fun _ _ _ h=>h) (by rfl) (fun w hSw=>?_) qn ?_;rotate_left
      ·obtain⟨s1,s3,s4⟩:=hSw;go_simp;try rfl
      try simp only[xr]
      refine ah (i:=6) (v:=?_) rfl (by kernel_rfl) (by kernel_rfl) (by kernel_rfl) (fun _ _ _ h=>h) (by rfl) (fun w hSw=>?_) qn ?_;rotate_left
      ·obtain⟨s1,s3,s4⟩:=hSw;go_simp;try rfl
      try simp only[xr]
      refine ah (i:=7) (v:=?_) rfl (by kernel_rfl) (by kernel_rfl) (by kernel_rfl) (fun _ _ _ h=>h) (by rfl) (fun w hSw=>?_) qn ?_;rotate_left
      ·obtain⟨s1,s3,s4⟩:=hSw;go_simp;try rfl
      try simp only[xr]
      refine ah (i:=8) (v:=?_) rfl (by kernel_rfl) (by kernel_rfl) (by kernel_rfl) (fun _ _ _ h=>h) (by rfl) (fun w hSw=>?_) qn ?_;rotate_left
      ·obtain⟨s1,s3,s4⟩:=hSw;go_simp;try rfl
      try simp only[xr]
      refine ah (i:=9) (v:=?_) rfl (by kernel_rfl) (by kernel_rfl) (by kernel_rfl) (fun _ _ _ h=>h) (by rfl) (fun w hSw=>?_) qn ?_;rotate_left
      ·obtain⟨s1,s3,s4⟩:=hSw;go_simp;try rfl
      try simp only[xr]
      refine ah (i:=10) (v:=?_) rfl (by kernel_rfl) (by kernel_rfl) (by kernel_rfl) (fun _ _ _ h=>h) (by rfl) (fun w hSw=>?_) qn ?_;rotate_left
      ·obtain⟨s1,s3,s4⟩:=hSw;go_simp;try rfl
      try simp only[xr]
      refine qe (rs:=[5,11]) (by kernel_rfl) (by simp) ?_;refine av (i:=5) rfl (fun K hK=>?_) (av (i:=11) rfl (fun K hK=>?_) ph)
      ·go_simp;refine hK.o _ _ qn (fun qn=>?_);clear hK K
       try simp only[xr]
       refine qe (rs:=[11]) (by kernel_rfl) (by simp) (av (i:=11) rfl (fun K hK=>?_) ph);go_simp;refine hK.o _ _ (by obtain⟨s1,s3,s4⟩:=qn;refine⟨?_,?_,?_⟩<;>simp[*,World.cell?_alloc_some]) (fun qn=>?_);clear hK K
       try simp only[xr]
       refine qe (rs:=[12]) (by kernel_rfl) (by simp) (av (i:=12) rfl (fun K hK=>?_) ph)
       (refine step_append_lies _ (by rfl) _ _ 74 (by rfl) (w.heap.size+1+1+1+1) 80 i0 _ 2 16 underlying74 zN.o hz0 hz1 hz2 (by rfl) (by decide) (.slice A' nl c') nl _ (by rfl) HO.o.1 ⟨w2.heap.size,0,none⟩ 1 1 [rm x.lo,rm x.hi] (by rfl) (by rfl) HO.o.2.1 (by simp[Value.oneCell']) (by decide) (by unfold maxLen;omega) (by omega) (by simp;omega) (w2.heap.size+1) (by simp) ?_)
       intro g3 IH w3 dG bJ nQ XX;obtain⟨b0,b1⟩:=ko (o:=(sg x.lo x.hi)) (w2:=w2) bJ rfl a0 a1 (fun e=>by have:=(HO.o.d.1 _ e.symm).1;omega);refine hK.o _ _ ⟨(bJ.cell_far _ (by simp;omega) (fun e=>(HO.o.t _ e.symm) rfl)).x qn.1,(bJ.cell_far _ (by simp;omega) (fun e=>(HO.o.t _ e.symm) rfl)).x qn.2.1,(bJ.cell_far _ (by simp;omega) (fun e=>(HO.o.t _ e.symm) rfl)).x qn.2.2⟩ (fun qn=>?_);clear hK K
       try simp only[xr]
       refine ah (i:=13) (v:=?_) rfl (by kernel_rfl) (by kernel_rfl) (by kernel_rfl) (fun _ _ _ h=>h) (by rfl) (fun w hSw=>?_) qn ?_;rotate_left
       ·obtain⟨s1,s3,s4⟩:=hSw;go_simp;try rfl
       try simp only[xr]
       refine qe (rs:=[14]) (by kernel_rfl) (by simp) (av (i:=14) rfl (fun K hK=>?_) ph);go_simp;refine hK.o _ _ (by obtain⟨s1,s3,s4⟩:=qn;refine⟨?_,?_,?_⟩<;>simp[*,World.cell?_setCell_far]) (fun qn=>?_);clear hK K
       try simp only[xr]
       refine pw (by kernel_rfl) ?_ _;have HG:=AF dG bJ nQ;clear qn dG bJ nQ b0 b1 a0 a1;go_wp2_with fail;go_roundw
       case rel=>exact⟨rfl,k+1,by omega,by go_num,pV HL.o.1 HL.o.q II,pY HC.o HL.o.q HL.o.2.1 HJ.o.1 SA (by rw[HW.o.1];rfl) HW.o.2.1 HW.o.d HG.o.1 HG.o.2.1 HG.o.d (.inr ⟨by omega,rfl,rfl⟩)⟩
       case measure=>simp[intOf];omega
      ·go_simp;refine hK.o _ _ (by obtain⟨s1,s3,s4⟩:=qn;refine⟨?_,?_,?_⟩<;>simp[*,World.cell?_alloc_some]) (fun qn=>?_);clear hK K
       try simp only[xr]
       refine qe (rs:=[5]) (by kernel_rfl) (by simp) (av (i:=5) rfl (fun K hK=>?_) ph);go_simp;refine hK.o _ _ qn (fun qn=>?_);clear hK K
       try simp only[xr]
       refine qe (rs:=[12]) (by kernel_rfl) (by simp) (av (i:=12) rfl (fun K hK=>?_) ph)
       (refine step_append_lies _ (by rfl) _ _ 74 (by rfl) (w.heap.size+1+1+1+1) 80 i0 _ 2 16 underlying74 zN.o hz0 hz1 hz2 (by rfl) (by decide) (.slice A' nl c') nl _ (by rfl) HO.o.1 ⟨w2.heap.size,0,none⟩ 1 1 [rm x.lo,rm x.hi] (by rfl) (by rfl) HO.o.2.1 (by simp[Value.oneCell']) (by decide) (by unfold maxLen;omega) (by omega) (by simp;omega) (w2.heap.size+1) (by simp) ?_)
       intro g3 IH w3 dG bJ nQ XX;obtain⟨b0,b1⟩:=ko (o:=(sg x.lo x.hi)) (w2:=w2) bJ rfl a0 a1 (fun e=>by have:=(HO.o.d.1 _ e.symm).1;omega);refine hK.o _ _ ⟨(bJ.cell_far _ (by simp;omega) (fun e=>(HO.o.t _ e.symm) rfl)).x qn.1,(bJ.cell_far _ (by simp;omega) (fun e=>(HO.o.t _ e.symm) rfl)).x qn.2.1,(bJ.cell_far _ (by simp;omega) (fun e=>(HO.o.t _ e.symm) rfl)).x qn.2.2⟩ (fun qn=>?_);clear hK K
       try simp only[xr]
       refine ah (i:=13) (v:=?_) rfl (by kernel_rfl) (by kernel_rfl) (by kernel_rfl) (fun _ _ _ h=>h) (by rfl) (fun w hSw=>?_) qn ?_;rotate_left
       ·obtain⟨s1,s3,s4⟩:=hSw;go_simp;try rfl
       try simp only[xr]
       refine qe (rs:=[14]) (by kernel_rfl) (by simp) (av (i:=14) rfl (fun K hK=>?_) ph);go_simp;refine hK.o _ _ (by obtain⟨s1,s3,s4⟩:=qn;refine⟨?_,?_,?_⟩<;>simp[*,World.cell?_setCell_far]) (fun qn=>?_);clear hK K
       try simp only[xr]
       refine pw (by kernel_rfl) ?_ _;have HG:=AF dG bJ nQ;clear qn dG bJ nQ b0 b1 a0 a1;go_wp2_with fail;go_roundw
       case rel=>exact⟨rfl,k+1,by omega,by go_num,pV HL.o.1 HL.o.q II,pY HC.o HL.o.q HL.o.2.1 HJ.o.1 SA (by rw[HW.o.1];rfl) HW.o.2.1 HW.o.d HG.o.1 HG.o.2.1 HG.o.d (.inr ⟨by omega,rfl,rfl⟩)⟩
       case measure=>simp[intOf];omega
     |false=>
      rw[hw]at q0;have hi8:j<8:=by omega
      obtain⟨a0,a1⟩:=mW HC.o.d.1 j SA;have hown:=HC.o.q.1.1 (j) hi8;obtain⟨A',c',hv⟩:=ai hown
      have hll:(lists (l.take k) (j)).length<=1000:=by have:=tW (l.take k) (j);simp at this;omega
      simp only[hv]at a0;obtain⟨nl,hnl⟩:=rk ((lists (l.take k) (j)).length);rw[hnl]at a0 hll;have hown2:=hown.alloc (sg x.lo x.hi);rw[hv,hnl]at hown2;have hnews:=eb (an w2 (sg x.lo x.hi));have hl3:=(cq.1 HC.o.d.1).1;have hl5:=(cq.1 HL.o.d.1.2.2.2.1).1;have jW:w.heap.size+1+1≠wr.heap.size:=by omega
      have nM:w.heap.size+1+1+1≠wr.heap.size:=by omega
      have hl4:=(cq.1 HC.o.t.1).1
      have hgn: ∀g,Value.ownBlock (.slice A' nl c')=some g->w.heap.size+1+1+1+1<=g/\g<w2.heap.size:=fun g hg=>by rw[<-hnl,<-hv]at hg;exact hown.lt g hg
      have dB: ∀g,Value.ownBlock (.slice A' nl c')=some g->g≠wr.heap.size:=fun g hg e=>by rw[<-hnl,<-hv]at hg;subst e;exact cD hown My.o (by decide) hg
      have HW:=AF hw hv hnl;have HO:=AI hown2 hnews hgn dB;clear hw hv hnl hown hown2 hnews hgn dB;go_upto_region 9 with fail;refine pt (S:=(fun w'=>w'.cell? ⟨wr.heap.size,1,none⟩=some (rm (j:Int))/\w'.cell? ⟨wr.heap.size,3,none⟩=some (rm x.lo)/\w'.cell? ⟨wr.heap.size,4,none⟩=some (rm x.hi))) (by kernel_rfl) ⟨q1,q3,q4⟩ (fun qn=>?_);refine ah (i:=0) (v:=?_) rfl (by kernel_rfl) (by kernel_rfl) (by kernel_rfl) (fun _ _ _ h=>h) (by rfl) (fun w hSw=>?_) qn ?_;rotate_left
      ·obtain⟨s1,s3,s4⟩:=hSw;go_simp;try rfl
      try simp only[xr]
      refine ah (i:=1) (v:=?_) rfl (by kernel_rfl) (by kernel_rfl) (by kernel_rfl) (fun _ _ _ h=>h) (by rfl) (fun w hSw=>?_) qn ?_;rotate_left
      ·obtain⟨s1,s3,s4⟩:=hSw;go_simp;try rfl
      try simp only[xr]
      refine ah (i:=2) (v:=?_) rfl (by kernel_rfl) (by kernel_rfl) (by kernel_rfl) (fun _ _ _ h=>h) (by rfl) (fun w hSw=>?_) qn ?_;rotate_left
      ·obtain⟨s1,s3,s4⟩:=hSw;go_simp;try rfl
      try simp only[xr]
      refine ah (i:=3) (v:=?_) rfl (by kernel_rfl) (by kernel_rfl) (by kernel_rfl) (fun _ _ _ h=>h) (by rfl) (fun w hSw=>?_) qn ?_;rotate_left
      ·obtain⟨s1,s3,s4⟩:=hSw;go_simp;try rfl
      try simp only[xr]
      refine ah (i:=4) (v:=?_) rfl (by kernel_rfl) (by kernel_rfl) (by kernel_rfl) (fun _ _ _ h=>h) (by rfl) (fun w hSw=>?_) qn ?_;rotate_left
      ·obtain⟨s1,s3,s4⟩:=hSw;go_simp;try rfl
      try simp only[xr]
      refine ah (i:=6) (v:=?_) rfl (by kernel_rfl) (by kernel_rfl) (by kernel_rfl) (fun _ _ _ h=>h) (by rfl) (fun w hSw=>?_) qn ?_;rotate_left
      ·obtain⟨s1,s3,s4⟩:=hSw;go_simp;try rfl
      try simp only[xr]
      refine ah (i:=7) (v:=?_) rfl (by kernel_rfl) (by kernel_rfl) (by kernel_rfl) (fun _ _ _ h=>h) (by rfl) (fun w hSw=>?_) qn ?_;rotate_left
      ·obtain⟨s1,s3,s4⟩:=hSw;go_simp;try rfl
      try simp only[xr]
      refine ah (i:=8) (v:=?_) rfl (by kernel_rfl) (by kernel_rfl) (by kernel_rfl) (fun _ _ _ h=>h) (by rfl) (fun w hSw=>?_) qn ?_;rotate_left
      ·obtain⟨s1,s3,s4⟩:=hSw;go_simp;try rfl
      try simp only[xr]
      refine ah (i:=9) (v:=?_) rfl (by kernel_rfl) (by kernel_rfl) (by kernel_rfl) (fun _ _ _ h=>h) (by rfl) (fun w hSw=>?_) qn ?_;rotate_left
      ·obtain⟨s1,s3,s4⟩:=hSw;go_simp;try rfl
      try simp only[xr]
      refine ah (i:=10) (v:=?_) rfl (by kernel_rfl) (by kernel_rfl) (by kernel_rfl) (fun _ _ _ h=>h) (by rfl) (fun w hSw=>?_) qn ?_;rotate_left
      ·obtain⟨s1,s3,s4⟩:=hSw;go_simp;try rfl
      try simp only[xr]
      refine qe (rs:=[5,11]) (by kernel_rfl) (by simp) ?_;refine av (i:=5) rfl (fun K hK=>?_) (av (i:=11) rfl (fun K hK=>?_) ph)
      ·go_simp;refine hK.o _ _ qn (fun qn=>?_);clear hK K
       try simp only[xr]
       refine qe (rs:=[11]) (by kernel_rfl) (by simp) (av (i:=11) rfl (fun K hK=>?_) ph);go_simp;refine hK.o _ _ (by obtain⟨s1,s3,s4⟩:=qn;refine⟨?_,?_,?_⟩<;>simp[*,World.cell?_alloc_some]) (fun qn=>?_);clear hK K
       try simp only[xr]
       refine qe (rs:=[12]) (by kernel_rfl) (by simp) (av (i:=12) rfl (fun K hK=>?_) ph)
       (refine step_append_lies _ (by rfl) _ _ 74 (by rfl) (w.heap.size+1+1+1+1) 80 i0 _ 2 16 underlying74 zN.o hz0 hz1 hz2 (by rfl) (by decide) (.slice A' nl c') nl _ (by rfl) HO.o.1 ⟨w2.heap.size,0,none⟩ 1 1 [rm x.lo,rm x.hi] (by rfl) (by rfl) HO.o.2.1 (by simp[Value.oneCell']) (by decide) (by unfold maxLen;omega) (by omega) (by simp;omega) (w2.heap.size+1) (by simp) ?_)
       intro g3 IH w3 dG bJ nQ XX;obtain⟨b0,b1⟩:=ko (o:=(sg x.lo x.hi)) (w2:=w2) bJ rfl a0 a1 (fun e=>by have:=(HO.o.d.1 _ e.symm).1;omega);refine hK.o _ _ ⟨(bJ.cell_far _ (by simp;omega) (fun e=>(HO.o.t _ e.symm) rfl)).x qn.1,(bJ.cell_far _ (by simp;omega) (fun e=>(HO.o.t _ e.symm) rfl)).x qn.2.1,(bJ.cell_far _ (by simp;omega) (fun e=>(HO.o.t _ e.symm) rfl)).x qn.2.2⟩ (fun qn=>?_);clear hK K
       try simp only[xr]
       refine ah (i:=13) (v:=?_) rfl (by kernel_rfl) (by kernel_rfl) (by kernel_rfl) (fun _ _ _ h=>h) (by rfl) (fun w hSw=>?_) qn ?_;rotate_left
       ·obtain⟨s1,s3,s4⟩:=hSw;go_simp;try rfl
       try simp only[xr]
       refine qe (rs:=[14]) (by kernel_rfl) (by simp) (av (i:=14) rfl (fun K hK=>?_) ph);go_simp;refine hK.o _ _ (by obtain⟨s1,s3,s4⟩:=qn;refine⟨?_,?_,?_⟩<;>simp[*,World.cell?_setCell_far]) (fun qn=>?_);clear hK K
       try simp only[xr]
       refine pw (by kernel_rfl) ?_ _;have HG:=AF dG bJ nQ;clear qn dG bJ nQ b0 b1 a0 a1;go_wp2_with fail;go_roundw
       case rel=>exact⟨rfl,k+1,by omega,by go_num,pV HL.o.1 HL.o.q II,pY HC.o HL.o.q HL.o.2.1 HJ.o.1 SA (by rw[HW.o.1];rfl) HW.o.2.1 HW.o.d HG.o.1 HG.o.2.1 HG.o.d (.inl ⟨SA,rfl,rfl⟩)⟩
       case measure=>simp[intOf];omega
      ·go_simp;refine hK.o _ _ (by obtain⟨s1,s3,s4⟩:=qn;refine⟨?_,?_,?_⟩<;>simp[*,World.cell?_alloc_some]) (fun qn=>?_);clear hK K
       try simp only[xr]
       refine qe (rs:=[5]) (by kernel_rfl) (by simp) (av (i:=5) rfl (fun K hK=>?_) ph);go_simp;refine hK.o _ _ qn (fun qn=>?_);clear hK K
       try simp only[xr]
       refine qe (rs:=[12]) (by kernel_rfl) (by simp) (av (i:=12) rfl (fun K hK=>?_) ph)
       (refine step_append_lies _ (by rfl) _ _ 74 (by rfl) (w.heap.size+1+1+1+1) 80 i0 _ 2 16 underlying74 zN.o hz0 hz1 hz2 (by rfl) (by decide) (.slice A' nl c') nl _ (by rfl) HO.o.1 ⟨w2.heap.size,0,none⟩ 1 1 [rm x.lo,rm x.hi] (by rfl) (by rfl) HO.o.2.1 (by simp[Value.oneCell']) (by decide) (by unfold maxLen;omega) (by omega) (by simp;omega) (w2.heap.size+1) (by simp) ?_)
       intro g3 IH w3 dG bJ nQ XX;obtain⟨b0,b1⟩:=ko (o:=(sg x.lo x.hi)) (w2:=w2) bJ rfl a0 a1 (fun e=>by have:=(HO.o.d.1 _ e.symm).1;omega);refine hK.o _ _ ⟨(bJ.cell_far _ (by simp;omega) (fun e=>(HO.o.t _ e.symm) rfl)).x qn.1,(bJ.cell_far _ (by simp;omega) (fun e=>(HO.o.t _ e.symm) rfl)).x qn.2.1,(bJ.cell_far _ (by simp;omega) (fun e=>(HO.o.t _ e.symm) rfl)).x qn.2.2⟩ (fun qn=>?_);clear hK K
       try simp only[xr]
       refine ah (i:=13) (v:=?_) rfl (by kernel_rfl) (by kernel_rfl) (by kernel_rfl) (fun _ _ _ h=>h) (by rfl) (fun w hSw=>?_) qn ?_;rotate_left
       ·obtain⟨s1,s3,s4⟩:=hSw;go_simp;try rfl
       try simp only[xr]
       refine qe (rs:=[14]) (by kernel_rfl) (by simp) (av (i:=14) rfl (fun K hK=>?_) ph);go_simp;refine hK.o _ _ (by obtain⟨s1,s3,s4⟩:=qn;refine⟨?_,?_,?_⟩<;>simp[*,World.cell?_setCell_far]) (fun qn=>?_);clear hK K
       try simp only[xr]
       refine pw (by kernel_rfl) ?_ _;have HG:=AF dG bJ nQ;clear qn dG bJ nQ b0 b1 a0 a1;go_wp2_with fail;go_roundw
       case rel=>exact⟨rfl,k+1,by omega,by go_num,pV HL.o.1 HL.o.q II,pY HC.o HL.o.q HL.o.2.1 HJ.o.1 SA (by rw[HW.o.1];rfl) HW.o.2.1 HW.o.d HG.o.1 HG.o.2.1 HG.o.d (.inl ⟨SA,rfl,rfl⟩)⟩
       case measure=>simp[intOf];omega
   ·obtain⟨er,her⟩:=rk (EL x);rw[her]at hcon he;have he1:(er==0)=false:=by simpa using he
    have he2:(er !=0)=true:=by simpa using he
    have HE:=AD her he;clear her he;go_wp2_with fail;refine(hcon _).m ?_;rintro e w2 ⟨rfl,hb2⟩;have GW:=HL.o.d.1.below (((bd _ _).alloc (b8 _) _).x (hb2.m (by simp)));have hcR:=aL GW.2.1;have hfR:=bL GW.2.1;have HC:=al GW;clear hb2 hcon GW;go_wp2_with fail;rw[gx];have hh:=dp w2 w.heap.size 0 _ _ (.slice none 0 0) HC.o.2.1;refine dj (ax rfl _ _ _ _ _ _ _ rfl hh underlying37 rfl (by kernel_rfl)) rfl ⟨HC.o.q.2.setCell (b8 _) _,.inl ?_⟩;have e1:=P7 HL.o.1 HL.o.q (by rw[HE.o.1];exact HE.o.2);rw[HE.o.1]at e1;rw[e1];exact⟨HE.o.2,rfl⟩
  ·have hkl:k=l.length:=by omega
   subst hkl;rw[gE]at hok hD hC;have hsz:Maps.size D<=1000:=dd hC.1.size_le hl;have HC:=AI hok hD hC hsz;have T3:=al hi2;clear hok hD hC hsz hi2;go_wp2_with fail;refine(Mu wr _ _ D _ HC.o.d.1.1 HC.o.2.1 HC.o.t).m ?_;rintro e w2 ⟨ks,hkl,hnd,hks,A10,c10,rfl,hrow,hb2⟩;obtain⟨rows,hrows⟩:=rk ((ks.mergeSort fun x y=>decide (x<=y)).map (Bx fun key=>fw l (-1,key,0)));have hrl:rows.length=ks.length:=by rw[<-hrows];simp
   rw[hrows]at hrow
   have hinv:Inv w rs (lists l) rows (.slice A10 rows.length c10) (fun _=>True) w2:=by obtain⟨h1,h2,h3,h4,h5,h6⟩:=HC.o.d.1.below hb2;exact⟨h2,h3,h4,fun j hj _=>h5.1 j hj,dI hrow (fun g hg=>by have:=(hrow.lt g hg).1;have:=HC.o.d.1.2.2.2.2.2.size;omega),h6⟩
   have V9:aa2 rs:=HC.o.d.1.2.2.2.2.1.2;rw[hrows];have HK:=AS hnd hks hrows hrl hinv V9 hkl;clear hnd hks hrows hrl hinv V9 hrow hb2 hkl;go_wp2_with fail
   go_loopw [10,88] (fun v i wr=> ∃k:Nat,k<=4/\i=rm (k:Int)/\aa4 w l rs rows k v wr) (fun _ i _=>4-(intOf i).toNat)
   case atStart=>obtain⟨_,_,_,hrl,hinv,_,hkl⟩:=HK.o;exact⟨0,by omega,rfl,fun _=>[],fun _=>[],fun i hi=>absurd hi (by omega),by simp[jJ];omega,by simpa[jJ]using hinv.m (fun _ _=>trivial)⟩
   case round=>
    obtain⟨k,hk,rfl,W,R,Z3,hlen,hinv⟩:=hrel
    rename World=>w3
    by_cases hlt:k<4
    ·obtain⟨a0,_⟩:=mW hinv.2.2.1 k hlt;obtain⟨a2,_⟩:=mW hinv.2.1 k hlt;have dN:(0:Int)<=(k:Int):=by omega
     have hk4:(k:Int)<4:=by omega
     have Z4:w.heap.size+1+1+1<w3.heap.size:=(cq.1 hinv.2.2.1).1;obtain⟨vW,hvW⟩:=rk (rs (4+k));simp only[hvW]at a0;have h46:(4+k)%4=k:=by omega
     have P9:=hinv.2.2.2.1 (4+k) (by omega) (by omega);have hlW:lists l (4+k)=cS l (k:Int) true:=by unfold lists;rw[fb (by omega)];congr 1;omega
     have VS:lists l k=cS l (k:Int) false:=by unfold lists;rw[ff hlt]
     have hl8:=fun j=>tW l j;have hf8:=fun j=>Mw hfit j;obtain⟨A10,c10,rfl⟩:=ai hinv.2.2.2.2.1;have Wa:=Bw w3 vW (lists l (4+k)) (dI (by rw[<-hvW];exact P9) (fun _ _=>dq _)) (dd (hl8 _) hl) (hf8 _);have HI:=BE Z3 hlen hinv hvW hlW VS hl8 hf8 P9;clear Z3 hlen hinv hvW hlW VS hl8 hf8 P9 h46;go_wp2_with fail;refine Wa.m ?_;rintro e w4 ⟨s,hs1,hs2,AW,cW,rfl,XY,lX⟩;have Qa:=HI.o.d.1.P8 HK.o.q.2.1 (i:=4+k) (by omega) (by omega) (by rw[HI.o.t.1];exact lX);have hsl:s.length<=1000:=by rw[hs1.length_eq];exact dd (HI.o.q.d.1 _) hl
     have hjl:(cI s).length<=1000:=dd (BD s) hsl;have hjf:iA (cI s):=BC (fun x hx=>HI.o.q.t.1 _ x (hs1.mem_iff.1 hx));have aa5:mQ w4 (fun _=>True) (.slice AW (cI s).length cW) (cI s):=bI.bO XY (l9 _) (by decide) (fun _ _=>trivial);obtain⟨out,hout⟩:=rk (rows++jJ W R k);rw[hout];rw[hout]at Qa;have ad4:out.length<=1000+k*1002000:=by rw[<-hout];exact HI.o.2.1
     have HJ:=By hs1 hs2 XY lX Qa hjf aa5 hout;clear hs1 hs2 XY lX Qa hjf aa5 hout Wa;go_wp2_with fail;refine(xD w4 (fun _=>True) _ true _ _ HJ.o.q.d.1 (by omega)).m ?_;rintro e w5 ⟨A5,c5,rfl,ij,fO⟩;obtain⟨C1,XZ⟩:=rk ((cI s).map (tJ (k:Int) true));rw[XZ]at ij⊢;have aer:C1.length<=1000:=by rw[<-XZ];simpa using hjl
     have aa6:eI w5 (fun _=>True) (.slice A5 C1.length c5) C1:=bI.bO ij (dK _) (by decide) (fun _ _=>trivial);have Qb:=HJ.o.q.1.below fO;have hW5:=bE HJ.o.d.1 fO;have hs5:=Qb.2.2.2.2.2.size;have H5:=AI XZ aa6 Qb hW5;clear XZ aa6 Qb hW5 ij fO;go_wp2_with (at_builtin;go_loud (refine eA _ rfl _ _ 27 rfl w.heap.size 68 i2 _ 5 48 underlying27 T3.o hy0 hy1 hy2 rfl (by decide) (.slice A10 out.length c10) out.length _ rfl H5.o.d.1.2.2.2.2.1 (fun _=>True) (.slice A5 C1.length c5) (C1.map Cl.cells) rfl H5.o.2.1 (dK _) (qT _) (by simp;omega) (by simp;unfold maxLen;omega) hs5 ?_);intro v6 w6 DW SB yn;have X0:w6.ownsRow w.heap.size 68 5 v6 (out++C1).length ((out++C1).map Cl.cells).flatten:=(by simpa using DW);obtain⟨Fw,KP⟩: ∃Fw,out++C1=Fw:=⟨_,rfl⟩;rw[KP]at X0;have Qc:=H5.o.d.1.append SB X0;have Z5:=Fm H5.o.t H5.o.d.1.2.2.2.2.1 (by decide) SB;obtain⟨a6,_⟩:=mW Qc.2.1 k hlt;have aes:=SB.size;have aet:Fw.length<=2000+k*1002000:=(by rw[<-KP];simp;omega);have DX:=al KP;have H6:=AD Qc Z5;clear DW X0 Qc Z5 SB yn KP);have mo:=H6.o.1.2.2.2.1 k (by omega) (by omega);obtain⟨A6,c6,rfl⟩:=ai H6.o.1.2.2.2.2.1;refine(Bw w6 (rs k) (lists l k) (dI mo (fun _ _=>dq _)) (dd (HI.o.q.d.1 _) hl) (HI.o.q.t.1 _)).m ?_;rintro e w7 ⟨s',ht1,ht2,AR,cR,rfl,hR7,ho7⟩;have Wb:=H6.o.1.P8 HK.o.q.2.1 (i:=k) (by omega) (by omega) ho7;have Z6:s'.length<=1000:=by rw[ht1.length_eq];exact dd (HI.o.q.d.1 _) hl
     have hj7:(cI s').length<=1000:=dd (BD s') Z6;have hf7:iA (cI s'):=BC (fun x hx=>HI.o.q.t.1 _ x (ht1.mem_iff.1 hx));have aa7:mQ w7 (fun _=>True) (.slice AR (cI s').length cR) (cI s'):=bI.bO hR7 (l9 _) (by decide) (fun _ _=>trivial);have aa8:=HI.o.d.1.2.2.2.1 k (by omega) (by omega);have hW7:=aJ H6.o.2 ho7 (fun g hg e=>by have h1:=(H6.o.2.lt g hg).1;have h2:=(aa8.lt g e).2;omega);have Wc:mQ w7 (fun _=>True) (.slice AW (cI s).length cW) (cI s):=bI.bO hW7 (l9 _) (by decide) (fun _ _=>trivial);have hlw:=sk (cI s') (cI s);have aeu:(cI s').length*((cI s).length+1)<=1000*1001:=Nat.mul_le_mul hj7 (by omega);have H7:=AN ht1 ht2 Wb hf7 aa7 Wc;clear ht1 ht2 Wb hf7 aa7 Wc hR7 ho7 mo aa8 hW7;go_wp2_with fail;refine(Ib w7 (fun _=>True) _ _ _ _ H7.o.q.1 H7.o.q.2 hj7 hjl H7.o.t.1 HJ.o.q.2.1).m ?_;rintro e w8 ⟨A8,c8,rfl,T5,zx⟩;have X3:mQ w8 (fun _=>True) (.slice A8 (bW (cI s') (cI s)).length c8) (bW (cI s') (cI s)):=bI.bO T5 (l9 _) (by decide) (fun _ _=>trivial);have Wd:=H7.o.d.1.below zx;obtain⟨X,hX⟩:=rk (bW (cI s') (cI s));rw[hX]at X3 hlw⊢;have hxl:X.length<=1001000:=by omega
     have H8:=AF hX X3 Wd;clear hX X3 Wd T5 zx hlw;go_wp2_with fail;refine(xD w8 (fun _=>True) _ false _ _ H8.o.2.1 (by omega)).m ?_;rintro e w9 ⟨A9,c9,rfl,We,zU⟩;obtain⟨C2,GW⟩:=rk (X.map (tJ (k:Int) false));rw[GW]at We⊢;have aev:C2.length<=1001000:=by rw[<-GW];simpa using hxl
     have aa9:eI w9 (fun _=>True) (.slice A9 C2.length c9) C2:=bI.bO We (dK _) (by decide) (fun _ _=>trivial);have Qd:=H8.o.d.below zU;have cN:=Qd.2.2.2.2.2.size;have H9:=AI GW aa9 Qd DX.o;clear GW aa9 Qd We zU;go_wp2_with (at_builtin;go_loud (refine eA _ rfl _ _ 27 rfl w.heap.size 68 i2 _ 5 48 underlying27 T3.o hy0 hy1 hy2 rfl (by decide) (.slice A6 Fw.length c6) Fw.length _ rfl H9.o.d.1.2.2.2.2.1 (fun _=>True) (.slice A9 C2.length c9) (C2.map Cl.cells) rfl H9.o.2.1 (dK _) (qT _) (by simp;omega) (by simp;unfold maxLen;omega) cN ?_);intro vZ wZ hOZ hgZ aew);go_roundw
     case rel=>
      have acO:wZ.ownsRow w.heap.size 68 5 vZ (Fw++C2).length ((Fw++C2).map Cl.cells).flatten:=by simpa using hOZ
      have aba:=H9.o.d.1.append hgZ acO;refine⟨k+1,by omega,by go_num,sj W k (cI s),sj R k X,?_,?_,?_⟩
      ·intro i hi;by_cases e:i=k
       ·subst e;rw[pW,pW,<-H8.o.1];exact Fv HC.o.1 (by rw[<-HI.o.q.1];exact HJ.o.1) (by rw[<-HI.o.q.2.1];exact H7.o.1) HJ.o.2.1 H7.o.2.1
       ·rw[nS e,nS e];exact HI.o.1 i (by omega)
      ·rw[BB,<-kh,HJ.o.q.t,H5.o.1,H9.o.1];have:=H9.o.t;rw[<-kh,this];simp;omega
      ·have e:rows++jJ (sj W k (cI s)) (sj R k X) (k+1)=Fw++C2:=by
        rw[BB,<-kh,HJ.o.q.t,H5.o.1,H9.o.1,<-kh,H9.o.t]
       rw[e];exact aba.m (fun j hj=>⟨⟨by omega,by omega⟩,by omega⟩)
     case measure=>simp[intOf];omega
    ·obtain rfl:k=4:=by omega
     have hform:=BG HC.o.1 HK.o.1 HK.o.2.1 HK.o.d.1 Z3;obtain⟨out,hout⟩:=rk (rows++jJ W R 4);rw[hout]at hform hinv hlen;obtain⟨AZ,cZ,rfl⟩:=ai hinv.2.2.2.2.1;have hcR:=aL hinv.1;have hfR:=bL hinv.1;have HF:=AF hform hinv hout;clear hform hinv hout Z3;by_cases h64:64<out.length
     ·go_wp2_with fail;rw[gx];have hh:=dp w3 w.heap.size 0 _ _ (.slice none 0 0) HF.o.2.1.1;exact dj (ax rfl _ _ _ _ _ _ _ rfl hh underlying37 rfl (by kernel_rfl)) rfl ⟨HF.o.2.1.2.2.2.2.2.setCell (b8 _) _,.inr ⟨si HC.o.1,out,HF.o.1,.inl ⟨h64,rfl⟩⟩⟩
     ·go_wp2_with fail;rw[gx];have hh:=dp w3 w.heap.size 0 _ _ (.slice AZ out.length cZ) HF.o.2.1.1;refine dj (ax rfl _ _ _ _ _ _ _ rfl hh underlying37 rfl (by kernel_rfl)) rfl ⟨HF.o.2.1.2.2.2.2.2.setCell (b8 _) _,.inr ⟨si HC.o.1,out,HF.o.1,.inr ⟨by omega,AZ,cZ,rfl,?_⟩⟩⟩;exact aJ HF.o.2.1.2.2.2.2.1 (Only.aR w3 w.heap.size 0 _) (fun g hg e=>by subst e;exact cD HF.o.2.1.2.2.2.2.1 HF.o.2.1.1 (by decide) hg)
end
end Go.Proofs.YtehccbdajiiaaaaGreatDoor
