import Derived.Test.YtmkofmeojbcakaaGreatDoorC08
import Derived.Test.YtmkofmeojbcakaaGreatDoorC16
import Derived.Test.YtmkofmeojbcakaaGreatDoorC26
import Derived.Sort.OwnSorted
import Derived.Sort.KeysCollected
import Derived.Deep.LoopGhost
namespace Go.Proofs.YtmkofmeojbcakaaGreatDoor
open Go.Proofs.Tryz
set_option maxRecDepth 100000
set_option maxHeartbeats 16000000
open Go.RowKit
section
open Go.Shelf Go.RowKit Go.Lib Go.Sort
abbrev uK (x y:Int×Int):Int:=Lib.compareInt x.1 y.1
theorem Sy(x y:Int×Int):ltOf uK x y=decide (x.1<y.1):=by
 unfold ltOf uK Lib.compareInt;by_cases h1:x.1<y.1
 ·simp[h1]
 ·by_cases h2:y.1<x.1<;>simp[h1,h2]
theorem ZM:SWO (ltOf uK) where
 irrefl x:=by rw[Sy];simp
 trans x y z h1 h2:=by rw[Sy]at *;simp at *;omega
 ntrans x y z h1 h2:=by rw[Sy]at *;simp at *;omega
theorem Le(x y:Int×Int)(W:World):Calls prog 94 #[.agg #[.int .i64 x.1,.int .i64 x.2],.agg #[.int .i64 y.1,.int .i64 y.2]] W fun e w'=>e=.returned (.int .i64 (uK x y))/\ ∃q os',w'=grow (W.drewN q) os':=by
 have hcon:=fun W'=>AnyG.cmp_Compare_int Tryz.OC x.1 y.1 W';change ∀W',Calls prog 95 _ _ _ at hcon;unfold uK;generalize Lib.compareInt x.1 y.1=r at hcon⊢;go_enter func94,ntmps94;go_wp2_with (go_at_call 95;refine(hcon _).m ?_;rintro e w' ⟨rfl,rfl⟩);go_ret
 exact⟨rfl,0,_,by rw[alloc_eq_grow,alloc_eq_grow,grow_grow];rfl⟩
theorem Sz(blk off size:Nat)(w:World):CmpLays prog 94 #[] mg 2 uK blk off size w:=
 fun _ _ _ _ x y=>Le x y _
def kU(l:List (Int×Int)):Prop:=l.Pairwise fun a b=>a.1<=b.1
theorem ot{α:Type}[Inhabited α](enc:α->List Value)(k:Nat)(w:World)(blk off n:Nat)(d:Array α)(os:Array Obj):Only (fun b=>b=blk) w (sortWorldK enc k w blk off n d os):=by
 refine⟨rfl,rfl,rfl,?_,fun b hb hne=>?_⟩
 ·exact size_sortWorldK_c enc k w blk off n d os
 ·unfold sortWorldK grow putRowK putRow mapBlock;simp only;rw[Array.getElem?_append_left (by simpa[Sort.ahead]using hb),Array.getElem?_modify,ff (fun h=>hne h.symm)];rfl
theorem zl{w:World}{base g cap:Nat}{l:List (Int×Int)}(h:w.ownsRow base 161 2 (.slice (some ⟨g,0,none⟩) l.length cap) l.length (l.map mg).flatten):HoldsK mg 2 w g 0 l.toArray:=by
 intro t ht;rw[size_flatK]at ht;rw[get_flatK _ _ _ _ ht];simp at ht;have hd:t/2<l.length:=(Nat.div_lt_iff_lt_mul (by decide)).2 ht;have h1:l[t/2]?=some l[t/2]:=ao hd;have h2:=lI (lJ l) (t/2) (mg l[t/2]) (by simp[h1]) (t%2);have hm:t/2*2+t%2=t:=by omega
 rw[hm]at h2;have h3:=h.cellAt t (by omega);have h4:=h.frozenAt t;have he:l.toArray[t/2]! =l[t/2]:=by simp[hd]
 rw[he]
 have hs:(mg l[t/2])[t%2]?=some (mg l[t/2])[t%2]!:=by rcases Nat.mod_two_eq_zero_or_one t with h0|h0<;>rw[h0]<;>rfl
 rw[h2 _ hs]at h3;rw[gx];exact⟨h3,h4⟩
theorem zm{w:World}{F:Nat->Prop}{g cap:Nat}{d:Array (Int×Int)}(h:HoldsK mg 2 w g 0 d)(hF:F g)(h1:d.size<=cap)(h2:cap<=maxLen):mG w F (.slice (some ⟨g,0,none⟩) d.size cap) d.toList:=by
 refine⟨_,_,_,rfl,by simp,h1,h2,fun _=>⟨g,0,rfl,hF,fun i x hx j u hu=>?_⟩⟩;have hi:i<d.size:=by have:=(b8.1 hx).1;simpa using this
 have hj:j<2:=by have:=(b8.1 hu).1;have hl:=lJ d.toList x (de hx);omega
 have:=(h.cell hi hj).1
 have e:(mg d[i]!)[j]! =u:=by
  simp[hi]at hx;subst hx;have:d[i]! =d[i]:=by simp[hi]
  rw[this];simp[hu]
 rw[e]at this;rw[<-this];congr 2;omega
def SA(l:List (Int×Int))(v:Value)(w:World)(e:Ending)(w':World):Prop:=
 ∃s,s.Perm l/\kU s/\ ∃A c,e=.returned (.slice A (cG s).length c)/\w'.ownsRow w.heap.size 161 2 (.slice A (cG s).length c) (cG s).length ((cG s).map mg).flatten/\Only (fun k=>v.ownBlock=some k) w w'
theorem Er{d:Array (Int×Int)}(h:SortedIn (ltOf uK) 0 d.size d):kU d.toList:=by unfold kU;rw[List.pairwise_iff_getElem];intro i j hi hj hij;have:=h i j (dq _) hij (by simpa using hj);rw[Sy]at this;simp at hi hj;simp[hi,hj]at this;simpa using this
theorem AA(w:World)(v:Value)(l:List (Int×Int))(h:w.ownsRow 0 161 2 v l.length (l.map mg).flatten)(hl:l.length<=1000)(hfit:gZ l):
  Calls prog 68 #[v] w (SA l v w):=by
 rcases h.2 with⟨rfl,h0⟩|⟨g,cap,cur,rfl,_,hg,hn,hc,hs,ht⟩
 ·have:l=[]:=dj h0;subst this;have hcon:=fun W=>AnyF.slices_SortFunc_none Tryz.OD none 0 (.func (.func 94) #[] #[]) W;change ∀W,Calls prog 93 _ _ _ at hcon;go_enter func68,ntmps68;go_wp2_with fail;refine(hcon _).m ?_;rintro e w1 ⟨rfl,rfl⟩;go_wp2_with fail;refine(zZ _ (fun _=>False) _ [] (aS.nil 2 _ _) (by simp) (by intro x hx;simp at hx)).m ?_;rintro e w2 ⟨A,c,rfl,hown,hbl⟩;go_wp2_with fail;go_ret
  exact⟨[],List.Perm.refl _,et,A,c,rfl,hown,oj hbl _⟩
 ·have eg: ∀args w,(callFunc 94 args).run prog w=.ok (.enter 94 args) w:=enters_of func94 (by kernel_rfl) rfl;have hH:=zl h;have hblk:g<w.heap.size:=(bd.1 hg).1;have hcon:=AnyQ.slices_SortFunc Tryz.OD 2 (by intro w;kernel_rfl) (by intro w;kernel_rfl) mg (fun _=>rfl) (fun x v hv=>by simp[mg]at hv;rcases hv with rfl|rfl<;>rfl) uK ZM 94 #[] g 0 cap l.toArray w eg (Sz g 0 l.toArray.size w) hH hblk (by simp;omega);change Calls prog 93 _ _ _ at hcon;simp only[nF]at hcon;have HH:=al hH;clear h hg ht hs hH;go_enter func68,ntmps68;go_wp2_with fail;refine hcon.m ?_;rintro e w1 ⟨rfl,d',n,os,hp,hs,hw1⟩;have hsz:d'.size=l.length:=by simpa using hp.1
  have sM:Only (fun b=>b=g) w w1:=by rw[hw1];exact ot mg 2 w g 0 n d' os
  have hH1:HoldsK mg 2 w1 g 0 d':=by rw[hw1];exact holdsK_sortWorldK_c mg 2 w g 0 l.toArray d' n os HH.o hblk (by simpa using hp.1)
  have iB:mG w1 (fun _=>True) (.slice (some ⟨g,0,none⟩) l.length cap) d'.toList:=by have:=zm (F:=fun _=>True) hH1 trivial (by omega) hc;rw[hsz]at this;exact this
  have hperm:d'.toList.Perm l:=by
   have h2:=hp.2.2;have e1:d'.extract 0 l.length=d':=by simp[<-hsz]
   have e2:l.toArray.extract 0 l.length=l.toArray:=by simp
   rw[e1,e2]at h2;exact h2
  have hlo:kU d'.toList:=Er (by rw[hsz];simpa using hs);have hff:gZ d'.toList:=fun x hx=>hfit x (hperm.mem_iff.1 hx);have HR:=al (ab iB (ab hperm (ab hlo (ab hff (ab hsz sM)))));clear hw1 iB hperm hlo hff hs hp hH1 sM hsz;go_wp2_with fail;refine(zZ w1 (fun _=>True) _ d'.toList HR.o.1 (by have:=HR.o.q.1;simp;omega) HR.o.t.1).m ?_;rintro e w2 ⟨A,c,rfl,hown,hbl⟩;go_wp2_with fail;go_ret
  have sM:=HR.o.q.2;refine⟨d'.toList,HR.o.2.1,HR.o.d.1,A,c,rfl,?_,?_⟩
  ·exact dM hown (fun k hk=>by have:=(hown.lt k hk).1;have:=sM.size;omega)
  ·exact sM.trans (T:=fun _=>False) (oj hbl _) (fun _ _ h=>h.elim)|>.mono (fun i _ hi=>by subst hi;rfl)
end
section
open Go.RowKit Go.Maps Go.WideShapes Go.Sort
def jN(D:DataW Unit)(f:List UInt8->Int):Prop:= ∀k,D.atKey (cX k) (.lit (.int .i64 0))=.lit (.int .i64 (f k))/\(Maps.has D (cX k)=true↔f k≠0)
def GW(D:DataW Unit)(left:Lit->Bool)(ss:List (List UInt8)):Prop:=ss.Nodup/\ ∀x,x∈ss↔(Maps.has D (cX x)=true/\left (cX x)=false)
theorem GW.start(D:DataW Unit):GW D (Maps.has D) []:=⟨List.nodup_nil,fun x=>by cases Maps.has D (cX x)<;>simp⟩
theorem Es(x y:List UInt8):(cX x).sameKey (cX y)=decide (x=y):=by
 by_cases h:x=y
 ·subst h;simp[cX,Lit.sameKey]
 ·have:cX x≠cX y:=fun e=>h (xJ e);unfold cX at this⊢;simp[Lit.sameKey,h]at this⊢;exact this
theorem GW.step{D:DataW Unit}{left:Lit->Bool}{ss:List (List UInt8)}(h:GW D left ss){x:List UInt8}{y:DataW Unit}(hlk:left (cX x)=true)(hat: ∀zd,D.atKey (cX x) zd=y):
  GW D (fun z=>left z&&!z.sameKey (cX x)) (ss++[x]):=by
 have hhas:Maps.has D (cX x)=true:=has_true_of_atKey hat;have hnew:x∉ss:=fun hx=>by have:=((h.2 x).1 hx).2;rw[hlk]at this;cases this
 refine⟨List.nodup_append.2 ⟨h.1,by simp,fun a ha b hb=>by simp at hb;subst hb;exact fun e=>hnew (e▸ha)⟩,fun y=>?_⟩;simp only[Es];by_cases hy:y=x
 ·subst hy;simp[hhas]
 ·simp[h.2 y,hy]
theorem Tryz.ZN:(prog.info? 9).map (fun i=>(i.zero,i.size,i.bytes))=some (some (.string ⟨#[]⟩),1,16):=by kernel_rfl
def AB(f:List UInt8->Int)(k:List UInt8):Cl:=⟨f k==2,-1,k,0,0⟩
def ZO(f:List UInt8->Int)(w:World)(e:Ending)(w':World):Prop:=
 ∃ks:List (List UInt8),ks.length<=1000/\ks.Nodup/\(∀k,k∈ks↔f k≠0)/\BH ((ks.mergeSort fun x y=>decide (x<=y)).map (AB f)) w e w'
def VZ(w:World)(b n r:Nat)(D:DataW Unit)(v3:Value)(w':World):Prop:=
 ∃left cnt ss,w'.ranges prog 159 (plainElem prog 3) b r n D left cnt/\GW D left ss/\ss.length+cnt<=Maps.size D/\(∀x∈ss,x.length<=maxLen)/\
  w'.ownsRow w.heap.size 9 1 v3 ss.length (ss.map encStr)/\v3≠ .slice none 0 0/\Below w.heap.size w w'
def V2(w:World)(b n g m cap:Nat)(D:DataW Unit)(f:List UInt8->Int)(ts:List (List UInt8))(k:Nat)(v5:Value)(w':World):Prop:=
 w'.ownsRow w.heap.size 107 5 v5 k (((ts.take k).map (AB f)).map Cl.cells).flatten/\w'.ownsRow w.heap.size 9 1 (.slice (some ⟨g,0,none⟩) m cap) m (ts.map encStr)/\
  w'.ownsMap prog 159 (plainElem prog 3) b n D/\RowKit.Below w.heap.size w w'
theorem Tryz.Un(w:World):(zeroValue 3).run prog w=.ok (.int .i64 0) w:=by kernel_rfl
theorem Lf(w:World)(b n:Nat)(D:DataW Unit)(f:List UInt8->Int)(hown:w.ownsMap prog 159 (plainElem prog 3) b n D)(hf:jN D f)(hsz:Maps.size D<=1000):
  Calls prog 67 #[.map (some b)] w (ZO f w):=by
 obtain⟨i0,hi,hz0,hz1,hz2⟩:=ep Tryz.ZN;go_enter func67,ntmps67;go_wp2_with (first|(at_len;refine wpList_len_own _ rfl _ 154 rfl 159 3 underlying154 _ b n D rfl hown ?_)|(at_make;refine wpList_make_own _ rfl _ _ 219 rfl w.heap.size 9 i0 (.string ⟨#[]⟩) 1 underlying219 hi hz0 hz1 _ _ _ (Maps.size D) rfl rfl rfl (by rw[hz2];omega) (by unfold maxLen;omega) (aE _) ?_;intro w1 Uo hg1)|(at_range;refine wpList_range_own _ rfl _ 154 rfl 159 3 KV underlying154 _ b n D rfl (hown.kept hg1 (by simp)) ?_;intro w0 hrg0 hg0 hs0))
 go_frame
 have abq:=hown.lt
 go_loopw [3] (fun v wr=>VZ w b n w1.heap.size D v wr) (fun _ wr=>wr.rangeLeft b w1.heap.size)
 case atStart=>
  exact⟨_,_,[],hrg0,GW.start D,by simp,by simp,Uo.kept hg0 (Or.inr (by simp[Value.ownBlock])),by simp,
   ((aw _ _).grown hg1 (aE _) (fun j hj=>by cases hj)).grown hg0 hg1.size (fun j hj=>by cases hj)⟩
 case round=>
  obtain⟨left,cnt,ss,hrg,hC,hcs,hlen,hrow,hnn,hnx⟩:=hrel;go_wp2_with (at_next;refine wpList_next_ranges _ rfl _ rfl 159 KV (plainElem prog 3) DY (Value.int .i64) (fun key kl hk=>by obtain⟨x,hx,_⟩:=qw hk;exact⟨x,hx⟩) (fun v y hv=>by obtain⟨c,rfl,_⟩:=plainElem_int_inv underlying3 hv;exact⟨c,rfl⟩) b w1.heap.size n _ _ _ rfl hrg ?_ ?_)
  ·intro hc0 hl0;rcases hrow.2 with⟨hnil,_⟩|⟨g,cap,cur,rfl,hbase,hb,h1,h2,h3,h4⟩
   ·exact absurd hnil hnn
   have hH:Holds encStr wr g 0 ss.toArray:=holds_of_block hb (by simpa using h4);have hgl:g<wr.heap.size:=(bd.1 hb).1;have hc:=Any.slices_Sort_string Tryz.Sw g 0 cap ss wr hH hgl (by omega);change Calls prog 92 _ _ _ at hc;have hks: ∀k,k∈ss↔f k≠0:=fun k=>by rw[hC.2 k,hl0];simpa using(hf k).2
   obtain⟨i1,hi1,hy0,hy1,hy2⟩:=ep Tryz.sZ;have HH:=al (ab hb (ab h1 (ab h2 (ab h3 (ab hbase (ab hnx (ab hrg.owns (ab hC.1 (ab hks hlen)))))))));clear hb h1 h2 h3 h4 hH hC hl0 hrow hrg hnx hks hrg0 hg0 hs0 Uo hg1 hlen hnn;go_wp2_with fail;refine hc.m ?_;rintro e w4 ⟨rfl,nn,os,hw4⟩;obtain⟨ts,hts⟩:=qt ((ss.mergeSort fun x y=>decide (x<=y)));have htl:ts.length=ss.length:=by rw[<-hts];simp
   rw[hts]at hw4
   have hrow4:w4.ownsRow w.heap.size 9 1 (.slice (some ⟨g,0,none⟩) ss.length cap) ss.length (ts.map encStr):=by rw[hw4];exact ownsRow_sorted htl HH.o.q.1 HH.o.1 HH.o.2.1 HH.o.d.1 HH.o.t.1
   have hg4:wr.grownBy w4 (some g):=by rw[hw4];exact grownBy_sorted _
   have M8:RowKit.Below w.heap.size w w4:=HH.o.q.2.1.grown hg4 HH.o.q.2.1.size (fun j hj=>by cases hj;exact HH.o.q.1);have Uq:w4.ownsMap prog 159 (plainElem prog 3) b n D:=HH.o.q.d.1.kept hg4 (by intro h;injection h with h;have:=HH.o.q.1;omega);have hs4:=M8.size;have H4:=al (ab hrow4 (ab M8 (ab Uq (ab hts htl))));have hsl:ss.length<=1000:=by omega
   have ZP:=al hi1;clear hrow4 M8 Uq hts htl hg4 hw4 hc hi1 hi;go_wp2_with (at_make;go_loud (refine wpList_make_own _ rfl _ _ 44 rfl w.heap.size 107 i1 _ 5 underlying44 ZP.o hy0 hy1 _ _ _ ss.length rfl rfl rfl (by rw[hy2];omega) (by unfold maxLen;omega) hs4 ?_);intro w5 ZQ hg5)
   go_loopw [5,29] (fun v5 i w6=> ∃k,k<=ss.length/\i=.int .i64 (k:Int)/\V2 w b n g ss.length cap D f ts k v5 w6) (fun _ i _=>ss.length-(intOf i).toNat)
   case atStart=>exact⟨0,dq _,rfl,by simpa using ZQ,H4.o.1.kept hg5 (Or.inr (by simp[Value.ownBlock])),H4.o.d.1.kept hg5 (by simp),H4.o.2.1.grown hg5 hs4 (fun j hj=>by cases hj)⟩
   case round=>
    obtain⟨k,hk,rfl,hcl,OG,hmp,hbl⟩:=hrel
    rename World=>w6
    have htl:=H4.o.q;by_cases hlt:k<ss.length
    ·obtain⟨x,hx⟩: ∃x,ts[k]?=some x:=⟨_,ao (by omega)⟩
     have hxs:x∈ss:=by have h:=de hx;rw[<-H4.o.t.1]at h;exact List.mem_mergeSort.1 h
     have hcell:w6.cell? ⟨g,k,none⟩=some (.string ⟨x.toArray⟩):=(OG.cellAt k (by omega)).x (by simp[hx,encStr]);have hkey:=Ap (HH.o.q.q.2 x hxs);unfold DY at hkey;obtain⟨A5,c5,rfl⟩:=ag hcl;have ZR:=hcl.alloc (.cells #[.bool (f x==2),.int .i64 (-1),.string ⟨x.toArray⟩,.int .i64 0,.int .i64 0] 107);have hnews:=eb (an w6 (.cells #[.bool (f x==2),.int .i64 (-1),.string ⟨x.toArray⟩,.int .i64 0,.int .i64 0] 107));have YP:=(hf x).1;have HB:=al (ab hx (ab hcl (ab OG (ab hmp (ab hbl (ab ZR hnews))))));have HK:=al hkey;have HF:=al YP;have cj:=hbl.size;clear hx hcl OG hbl hkey htl ZR hnews YP hmp;go_wp2_with (first|(at_lookup;go_loud (refine wpList_lookup_own_int _ rfl _ _ 154 rfl 159 3 .i64 KV underlying154 underlying3 (Tryz.Un _) b n D rfl HB.o.t.1 _ _ rfl HK.o ?_);intro c hat hwc;obtain rfl:c=f x:=(by rw[HF.o]at hat;simpa using hat.symm);clear hat hwc)|(at_builtin;go_loud (refine eh _ rfl _ _ 44 rfl w.heap.size 107 i1 _ 5 48 underlying44 ZP.o hy0 hy1 hy2 rfl (by decide) (.slice A5 k c5) k _ rfl HB.o.q.2.1 ⟨w6.heap.size,0,none⟩ 1 1 [.bool (f x==2),.int .i64 (-1),.string ⟨x.toArray⟩,.int .i64 0,.int .i64 0] rfl rfl HB.o.q.d (by simp[Value.oneCell']) (by decide) (by unfold maxLen;omega) (by omega) (by simp;omega) _ rfl ?_);intro g2 cap2 w7 hown1 hgrow1 jt qg));go_roundw
     case rel=>
      obtain⟨hx,hcl,OG,hmp,hbl,_,_⟩:=HB.o;refine⟨k+1,by omega,by go_num,?_,?_,?_,?_⟩
      ·have htk:ts.take (k+1)=ts.take k++[x]:=by rw[iv,hx];rfl
       rw[htk];simpa[AB,Cl.cells]using hown1
      ·exact(OG.alloc _).kept hgrow1 (.inr (fun e=>iI OG hcl (by decide) (rfl:Value.ownBlock (.slice (some ⟨g,0,none⟩) ss.length cap)=some g) e.symm))
      ·exact(hmp.alloc _).kept hgrow1 (fun e=>by have:=(hcl.lt b e.symm).1;omega)
      ·exact(hbl.alloc cj _).grown hgrow1 (by simp;omega) (fun j hj=>(hcl.lt j hj).1)
     case measure=>simp[intOf];omega
    ·have hkl:k=ss.length:=by omega
     subst hkl;go_wp2_with fail;go_ret
     rw[gE (by omega)]at hcl;obtain⟨A5,c5,rfl⟩:=ag hcl;obtain⟨_,_,_,_,_,_,_,hnd,hks,_⟩:=HH.o;refine⟨ss,hsl,hnd,hks,A5,c5,?_,?_,hbl⟩
     ·simp
     ·rw[H4.o.t.1];simpa[htl]using hcl
  ·intro x c kl yd yp w2 cnt2 hkey hlk hv hat hrg2 hlt hg2 hs2 hen;obtain⟨x',ex,rfl,hxl⟩:=qw hkey;obtain rfl:x=x':=by unfold DY at ex;simpa using ex
   have hrow2:=hrow.kept hg2 (Or.inr (row_ne_iter hrow hrg).symm);have hrow3:=(hrow2.alloc (.cells #[encStr x] 159)).alloc (.cells #[encStr x] 9);have hnews:=eb (an (w2.alloc (.cells #[encStr x] 159)) (.cells #[encStr x] 9));rw[show(w2.alloc (.cells #[encStr x] 159)).heap.size=w2.heap.size+1 by simp]at hnews;have hsw:=hnx.size;have ZT:=hg2.size;have HH:=al (ab hrow3 (ab hnews (ab hrow2 (ab hs2 (ab hsw ZT)))));have jh:=al hi;have HC:=al (ab hC (ab hlk (ab hat (ab hrg2 (ab hrg (ab hlen (ab hxl (ab hg2 hnx))))))));clear hs2 hrow3 hnews hsw ZT hC hlk hat hlen hkey hv;unfold DY at hen⊢;unfold encStr at HH;go_wp2_with (at_builtin;go_loud (refine eh _ rfl _ _ 219 rfl w.heap.size 9 i0 _ 1 16 underlying219 jh.o hz0 hz1 hz2 rfl (by decide) u3 ss.length _ rfl HH.o.1 ⟨w2.heap.size+1,0,none⟩ 1 1 [.string ⟨x.toArray⟩] rfl rfl HH.o.2.1 (by simp[Value.oneCell']) (by decide) (by unfold maxLen;omega) (by omega) (by have:=HH.o.q;simp;omega) _ rfl ?_);intro g2 cap w3 hown1 hgrow1 jt qg);have hr2:=(HC.o.t.1.alloc (.cells #[.string ⟨x.toArray⟩] 159)).alloc (.cells #[.string ⟨x.toArray⟩] 9);have hrg3:=hr2.kept hgrow1 (row_ne_low HH.o.d.1 abq) (row_ne_iter HH.o.1 hr2);refine⟨⟨_,cnt2,ss++[x],hrg3,HC.o.1.step HC.o.2.1 HC.o.d.1,by simp;omega,?_,by simpa[encStr]using hown1,by simp,?_⟩,by rw[hrg3.left_eq,HC.o.q.1.left_eq];exact hlt⟩
   ·intro y hy;rcases dy.1 hy with hy|hy
    ·exact HC.o.q.2.1 y hy
    ·simp at hy;subst hy;exact HC.o.q.d.1
   ·have hw:=HH.o.q;have sK:=hg1.size;exact((((HC.o.q.q.grown HC.o.q.t.1 hw.1 (fun j hj=>by cases hj;exact sK)).alloc (by omega) _).alloc (by simp;omega) _).grown hgrow1 (by simp;omega) (fun j hj=>(HH.o.d.1.lt j hj).1))
end
section
open Go.RowKit Go.Maps Go.WideShapes
theorem x8{w w':World}(h:Below w.heap.size w w'):w.grownBy w' none:=⟨h.os,h.tape,h.output,h.size,fun k hk _=>h.block k hk⟩
def fM(w:World)(A:Nat)(f:Nat->Value):Prop:=w.heap[A]?=some (.cells #[f 0,f 1,f 2,f 3] 156 (0,0))
def GX(w:World)(base:Nat)(rs:Nat->Value)(ls:Nat->List (Int×Int)):Prop:=
 (∀j,j<8->w.ownsRow base 161 2 (rs j) (ls j).length ((ls j).map mg).flatten)/\ ∀i j,i<8->j<8->i≠j-> ∀g,(rs i).ownBlock=some g->(rs j).ownBlock≠some g
def lists(l:List Cl)(j:Nat):List (Int×Int):=if j<4 then cS l (j:Int) false else cS l ((j-4:Nat):Int) true
def iG(w:World)(D:DataW Unit)(n:Nat)(rs:Nat->Value)(ls:Nat->List (Int×Int))(wr:World):Prop:=
 wr.ownsMap prog 159 (plainElem prog 3) (w.heap.size+1) n D/\wr.heap[w.heap.size]?=some (.cells #[.slice none 0 0] 48 (0,0))/\
  fM wr (w.heap.size+1+1) rs/\fM wr (w.heap.size+1+1+1) (fun j=>rs (4+j))/\GX wr (w.heap.size+1+1+1+1) rs ls/\Below w.heap.size w wr
def OH(w:World)(l:List Cl)(k:Nat)(wr:World):Prop:=
 ∃(D:DataW Unit) (rs:Nat->Value),jN D (fun key=>fo (l.take k) (-1,key,0))/\iG w D k rs (lists (l.take k)) wr
section
variable{w wr w':World}{D D':DataW Unit}{n n':Nat}{rs:Nat->Value}{ls Zt:Nat->List (Int×Int)}
theorem iG.below(h:iG w D n rs ls wr)(hb:Below wr.heap.size wr w'):iG w D n rs ls w':=by
 obtain⟨h1,h2,h3,h4,h5,h6⟩:=h;have hl:=h1.lt;refine⟨h1.kept (x8 hb) (by simp),?_,?_,?_,⟨fun j hj=>aY (h5.1 j hj) hb,h5.2⟩,h6.x (hb.m h6.size)⟩
 ·rw[hb.block _ (by omega)];exact h2
 ·unfold fM;rw[hb.block _ (Array.getElem?_eq_some_iff.1 h3).1];exact h3
 ·unfold fM;rw[hb.block _ (Array.getElem?_eq_some_iff.1 h4).1];exact h4
theorem iG.map(h:iG w D n rs ls wr)(hg:wr.grownBy w' (some (w.heap.size+1)))(hm:w'.ownsMap prog 159 (plainElem prog 3) (w.heap.size+1) n' D'):iG w D' n' rs ls w':=by
 obtain⟨h1,h2,h3,h4,h5,h6⟩:=h;have hl:=h1.lt;have l3:=(bd.1 h3).1;have l4:=(bd.1 h4).1;refine⟨hm,?_,?_,?_,⟨fun j hj=>(h5.1 j hj).kept hg (.inr ?_),h5.2⟩,h6.grown hg h6.size (fun j hj=>by cases hj;omega)⟩
 ·rw[hg.block _ (by omega) (by simp)];exact h2
 ·unfold fM;rw[hg.block _ l3 (by intro e;injection e with e;omega)];exact h3
 ·unfold fM;rw[hg.block _ l4 (by intro e;injection e with e;omega)];exact h4
 ·intro e;have:=(h5.1 j hj).lt _ e;omega
theorem iG.lists(h:iG w D n rs ls wr)(he: ∀j,j<8->Zt j=ls j):iG w D n rs Zt wr:=by obtain⟨h1,h2,h3,h4,h5,h6⟩:=h;exact⟨h1,h2,h3,h4,⟨fun j hj=>by rw[he j hj];exact h5.1 j hj,h5.2⟩,h6⟩
theorem iG.more(h:iG w D n rs ls wr)(hn:n<=n'):iG w D n' rs ls wr:=⟨h.1.mono hn,h.2⟩
end
def upd{α:Type}(f:Nat->α)(i:Nat)(v:α)(j:Nat):α:=if j=i then v else f j
theorem GX.append{w w1:World}{base:Nat}{rs:Nat->Value}{ls:Nat->List (Int×Int)}(h:GX w base rs ls){i:Nat}(hi:i<8){v':Value}{x:Int×Int}(hg:w.grownBy w1 (rs i).ownBlock)
  (hown:w1.ownsRow base 161 2 v' ((ls i).length+1) (((ls i)++[x]).map mg).flatten) (hat:v'.ownBlock=(rs i).ownBlock\/v'.ownBlock=some w.heap.size):GX w1 base (upd rs i v') (upd ls i (ls i++[x])):=by
 refine⟨fun j hj=>?_,fun a b ha hb hab g Ms hgb=>?_⟩
 ·unfold upd;by_cases e:j=i
  ·subst e;simpa using hown
  ·simp only[e,if_false];refine(h.1 j hj).kept hg ?_
   cases hb:(rs j).ownBlock with
   |none=>exact .inl rfl
   |some g=>exact .inr (fun e2=>h.2 j i hj hi e g hb e2.symm)
 ·unfold upd at Ms hgb;by_cases e1:a=i
  ·subst e1;have e2:b≠a:=Ne.symm hab;simp only[if_true,e2,if_false]at Ms hgb;have hlt:=((h.1 b hb).lt g hgb).2;rcases hat with hat|hat
   ·rw[hat]at Ms;exact h.2 a b ha hb hab g Ms hgb
   ·rw[hat]at Ms;injection Ms with Ms;omega
  ·by_cases e2:b=i
   ·subst e2;simp only[e1,if_true,if_false]at Ms hgb;have hlt:=((h.1 a ha).lt g Ms).2;rcases hat with hat|hat
    ·rw[hat]at hgb;exact h.2 a b ha hb hab g Ms hgb
    ·rw[hat]at hgb;injection hgb with hgb;omega
   ·simp only[e1,e2,if_false]at Ms hgb;exact h.2 a b ha hb hab g Ms hgb
theorem GX.set{w:World}{base:Nat}{rs:Nat->Value}{ls:Nat->List (Int×Int)}(h:GX w base rs ls){A j:Nat}(hA:A<base)(u:Value):GX (w.setCell ⟨A,j,none⟩ u) base rs ls:=
 ⟨fun i hi=>aT (h.1 i hi) (Only.aN w A j u) (fun g hg e=>by have:=((h.1 i hi).lt g hg).1;omega),h.2⟩
theorem fM.set{w:World}{A:Nat}{f:Nat->Value}(h:fM w A f){j:Nat}(hj:j<4)(u:Value):fM (w.setCell ⟨A,j,none⟩ u) A (upd f j u):=by
 have h1:=db w A j _ _ u h;unfold fM;have:j=0\/j=1\/j=2\/j=3:=by omega
 rcases this with rfl|rfl|rfl|rfl<;>simpa[upd]using h1
theorem fM.other{w w':World}{A:Nat}{f g:Nat->Value}(h:fM w A f)(hb:w'.heap[A]?=w.heap[A]?)(he: ∀j,j<4->g j=f j):fM w' A g:=by unfold fM at *;rw[hb,h,he 0 (by omega),he 1 (by omega),he 2 (by omega),he 3 (by omega)]
theorem iG.append{w wr w1:World}{D:DataW Unit}{n:Nat}{rs:Nat->Value}{ls:Nat->List (Int×Int)}(h:iG w D n rs ls wr){i:Nat}(hi:i<8){v':Value}{x:Int×Int}(hg:wr.grownBy w1 (rs i).ownBlock)
  (hown:w1.ownsRow (w.heap.size+1+1+1+1) 161 2 v' ((ls i).length+1) (((ls i)++[x]).map mg).flatten) (hat:v'.ownBlock=(rs i).ownBlock\/v'.ownBlock=some wr.heap.size)
  {A j:Nat} (hA:(i<4/\A=w.heap.size+1+1/\j=i)\/(4<=i/\A=w.heap.size+1+1+1/\i=4+j)):
  iG w D n (upd rs i v') (upd ls i (ls i++[x])) (w1.setCell ⟨A,j,none⟩ v'):=by
 obtain⟨h1,h2,h3,h4,h5,h6⟩:=h;have hl:=h1.lt;have l3:=(bd.1 h3).1;have l4:=(bd.1 h4).1;have hno: ∀b,b<w.heap.size+1+1+1+1->some b≠(rs i).ownBlock:=fun b hb e=>by have:=((h5.1 i hi).lt b e.symm).1;omega
 have hAb:A<w.heap.size+1+1+1+1/\w.heap.size+1<A:=by omega
 have OI: ∀b,b≠A->(w1.setCell ⟨A,j,none⟩ v').heap[b]?=w1.heap[b]?:=fun b hb=>Below.heap_setCell _ _ _ _ hb;have o8:=(h5.append hi hg hown hat).set (A:=A) (j:=j) hAb.1 v';refine⟨(h1.kept hg (hno _ (by omega))).setCell (by simp;omega) _,?_,?_,?_,o8,?_⟩
 ·rw[OI _ (by omega),hg.block _ (by omega) (hno _ (by omega))];exact h2
 ·rcases hA with⟨e1,rfl,rfl⟩|⟨e1,rfl,rfl⟩
  ·have h3':fM w1 (w.heap.size+1+1) rs:=h3.other (hg.block _ l3 (hno _ (by omega))) (fun _ _=>rfl);exact h3'.set e1 v'
  ·refine h3.other ?_ (fun a ha=>?_)
   ·rw[OI _ (by omega),hg.block _ l3 (hno _ (by omega))]
   ·unfold upd;rw[ff (by omega)]
 ·rcases hA with⟨e1,rfl,rfl⟩|⟨e1,rfl,rfl⟩
  ·refine h4.other ?_ (fun a ha=>?_)
   ·rw[OI _ (by omega),hg.block _ l4 (hno _ (by omega))]
   ·unfold upd;rw[ff (by omega)]
  ·have h4':fM w1 (w.heap.size+1+1+1) (fun j=>rs (4+j)):=h4.other (hg.block _ l4 (hno _ (by omega))) (fun _ _=>rfl);have:=h4'.set (j:=j) (by omega) v';refine this.other rfl (fun a ha=>?_);unfold upd;by_cases e:a=j
   ·subst e;simp
   ·rw[ff (by omega),ff e]
 ·exact(h6.grown hg h6.size (fun b hb=>by have:=((h5.1 i hi).lt b hb).1;omega)).setCell (by simp;omega) _
theorem jN.put{D:DataW Unit}{f g:List UInt8->Int}{k:List UInt8}{v:Int}(h:jN D f)(hm:IsMap D)(hv:v≠0)(hs:g k=v)(ho: ∀k',k'≠k->g k'=f k'):jN (D.put (cX k) (.lit (.int .i64 v))) g:=by
 intro k';by_cases e:k'=k
 ·subst e;have hk:WideAt.IsKeyLit (cX k'):=by unfold cX;exact trivial
  rw[atKey_put_same hm hk,has_put_same hm hk,hs];simp[hv]
 ·have hne:cX k'≠cX k:=fun h=>e (xJ h);rw[atKey_put_other hne,has_put_other hne,ho k' e];exact h k'
theorem jN.same{D:DataW Unit}{f g:List UInt8->Int}(h:jN D f)(e: ∀k,g k=f k):jN D g:=fun k=>by rw[e k];exact h k
def iH(l:List Cl):Int:=match l.find? (fun c=>Dw c !=0)with|some c=>Dw c|none=>0
def eI(l out:List Cl):Prop:=I8 out/\ ∀t,fo out t=fo l t
def Ur(n:Int):Ending:=.returned (.tuple #[.agg #[.slice none 0 0],.int .i64 n])
def OJ(l:List Cl)(w:World)(e:Ending)(w':World):Prop:=
 Below w.heap.size w w'/\((iH l≠0/\e=Ur (iH l))\/(iH l=0/\ ∃out,eI l out/\((64<out.length/\e=Ur 23)\/
  (out.length<=64/\ ∃A c,e=.returned (.tuple #[.agg #[.slice A out.length c],.int .i64 0])/\w'.ownsRow w.heap.size 107 5 (.slice A out.length c) out.length (out.map Cl.cells).flatten))))
theorem mM{w:World}{A:Nat}{f:Nat->Value}(h:fM w A f): ∀j,j<4->w.cell? ⟨A,j,none⟩=some (f j)/\w.frozen? ⟨A,j,none⟩=false:=by
 intro j hj;have:j=0\/j=1\/j=2\/j=3:=by omega
 rcases this with rfl|rfl|rfl|rfl<;>simp[World.cell?,World.frozen?,(show w.heap[A]?=some (.cells #[f 0,f 1,f 2,f 3] 156 (0,0))from h)]
theorem GY{w:World}{b:Nat}{v0 v1 v2 v3 v4:Value}{t:TypeId}(h:w.heap[b]?=some (.cells #[v0,v1,v2,v3,v4] t (0,0))):
  w.cell? ⟨b,0,none⟩=some v0/\w.cell? ⟨b,1,none⟩=some v1/\w.cell? ⟨b,2,none⟩=some v2/\w.cell? ⟨b,3,none⟩=some v3/\w.cell? ⟨b,4,none⟩=some v4:=by
 simp[World.cell?,h]
theorem x9{α:Type}{p:α->Bool}: ∀{l:List α} {k:Nat} {x:α},(∀c∈l.take k,p c=false)->l[k]?=some x->p x=true->l.find? p=some x
 |[],_,_,_,h,_=>by simp at h
 |y::l,0,x,_,h,hp=>by simp at h;subst h;simp[hp]
 |y::l,k+1,x,ha,h,hp=>by have hy:=ha y (by simp);rw[List.find?_cons,hy];exact x9 (k:=k) (fun c hc=>ha c (by rw[List.take_succ_cons];exact List.mem_cons_of_mem _ hc)) (by simpa using h) hp
theorem OL{l:List Cl}{k:Nat}{x:Cl}(ha: ∀c∈l.take k,Ok c)(hx:l[k]?=some x)(he:Dw x≠0):iH l=Dw x:=by unfold iH;rw[x9 (k:=k) (x:=x) (fun c hc=>by have:Dw c=0:=ha c hc;simp[this]) hx (by simpa using he)]
theorem sf{l:List Cl}(ha: ∀c∈l,Ok c):iH l=0:=by unfold iH;rw[List.find?_eq_none.2 (fun c hc=>by have:Dw c=0:=ha c hc;simp[this])]
theorem pY{l:List Cl}{k:Nat}{x:Cl}(ha: ∀c∈l.take k,Ok c)(hx:l[k]?=some x)(h:Ok x): ∀c∈l.take (k+1),Ok c:=by
 rw[dW hx];intro c hc;rcases dy.1 hc with hc|hc
 ·exact ha c hc
 ·simp at hc;subst hc;exact h
theorem AE{l:List Cl}{x:Cl}(hx:x.aM= -1): ∀j,j<8->lists (l++[x]) j=lists l j:=by
 intro j _;unfold lists cS;have h1: ∀m:Nat,¬x.aM=(m:Int):=fun m=>by omega
 split<;>simp[h1]
theorem Lg{l:List Cl}{x:Cl}{j:Nat}(hx:x.aM=(j:Int))(hj:j<4): ∀i,i<8->lists (l++[x]) i=upd (lists l) (if x.wr then 4+j else j) (lists l (if x.wr then 4+j else j)++[(x.lo,x.hi)]) i:=by
 intro i hi;unfold lists cS upd
 cases hw:x.wr with
 |true=>
  by_cases h4:i<4
  ·have hne:i≠4+j:=by omega
   simp[hw,h4,hne]
  ·by_cases e:i=4+j
   ·subst e;have e2:4+j-4=j:=by omega
    simp only[h4,if_false,if_true,e2];simp[hw,hx]
   ·have:((j:Int)==((i-4:Nat):Int))=false:=by simp;omega
    simp[hw,h4,e,hx,this]
 |false=>
  by_cases h4:i<4
  ·by_cases e:i=j
   ·subst e;simp[hw,hx,hj]
   ·have:((j:Int)==(i:Int))=false:=by simp;omega
    simp[hw,h4,e,hx,this]
  ·have hne:i≠j:=by omega
   simp[hw,h4,hne]
theorem tO(l:List Cl)(j:Nat):(lists l j).length<=l.length:=by unfold lists cS;split<;>simp[List.length_filter_le]
theorem bw{P:Program}{md:Region.Mode}{l:List Oper}{Q:Exit->Act->World->Prop}{S:World->Prop}{i:Nat}{oi:Oper}{v:Value}{fuel:Nat}{listed:Array Bool}{a:Act}{w:World}(hi:l[i]?=some oi)
  (hs:Region.noSelect l.toArray=true) (hf:Region.free md l.toArray listed i=true) (hr:(Region.ready md l.toArray listed).contains i=true)
  (hQ: ∀c a w,Q (.panic c) (a.put oi.dst v) w->Q (.panic c) a w) (hw:Region.wanted oi (yielded l.toArray a.tmps)=true) (hy: ∀w,S w->(execOp a.eval oi).run P w=.ok (.value v) w) (hS:S w)
  (h:wpAnyH P md l.toArray Q S fuel (listed.setIfInBounds i true) (a.put oi.dst v) w):wpAnyH P md l.toArray Q S (fuel+1) listed a w:=
 wpAnyH_take (by simpa using hi) hs hf hr hQ (.inl ⟨hw,hy⟩) hS h
theorem cM{P:Program}{md:Region.Mode}{l:List Oper}{Q:Exit->Act->World->Prop}{S:World->Prop}{fuel:Nat}{listed:Array Bool}{a:Act}{w:World}{i:Nat}{o:Oper}{rs:List Nat}(ho:l[i]?=some o)
  (h: ∀K':Act->World->Prop,Shut (∀a w,S w->(S w->wpAnyH P md l.toArray Q S fuel (listed.setIfInBounds i true) a w)->K' a w)->if Region.wanted o (yielded l.toArray a.tmps)=true then Oper.wp P o a w K' Q else K' (a.put o.dst undef) w)
  (hs:AllReadyH P md l.toArray Q S fuel listed a w rs):AllReadyH P md l.toArray Q S fuel listed a w (i::rs):=AllReadyH.cons (by simpa using ho) h hs
theorem jO{w2 X w3:World}{o:Obj}{row:Option Nat}(hg:X.grownBy w3 row)(hX:X.heap=(w2.alloc o).heap){A j:Nat}{v:Value}(hc:w2.cell? ⟨A,j,none⟩=some v)(hf:w2.frozen? ⟨A,j,none⟩=false)(hne:some A≠row):
  w3.cell? ⟨A,j,none⟩=some v/\w3.frozen? ⟨A,j,none⟩=false:=by
 have hlt:=aq w2 _ hc
 have QB:w3.heap[A]?=w2.heap[A]?:=by rw[hg.block A (by rw[hX];simp;exact Nat.lt_succ_of_lt hlt) hne,hX];exact Below.heap_alloc _ _ _ hlt
 exact⟨(World.cell?_of_block QB).x hc,(World.frozen?_of_block QB).x hf⟩
theorem vP{l:List Cl}{x:Cl}(h:x.aM= -1)(h0:x.lo=0)(h1:x.hi=0)(k:List UInt8):fo (l++[x]) (-1,k,0)=if k=x.key then(if x.wr=true then 2 else max (fo l (-1,k,0)) 1)else fo l (-1,k,0):=by
 rw[DC];by_cases e:k=x.key
 ·have:x.has (-1,k,0):=⟨h,e.symm,by simp only;omega,by simp only;omega⟩;rw[fi this,fi e]
 ·have: ¬x.has (-1,k,0):=fun hh=>e hh.2.1.symm;rw[ff this,ff e]
theorem GZ{l:List Cl}{x:Cl}(h:0<=x.aM)(k:List UInt8):fo (l++[x]) (-1,k,0)=fo l (-1,k,0):=by rw[DC,ff (fun hh=>by have:=hh.1;simp only at this;omega)]
theorem Et{w w':World}{base base':Nat}{e e':TypeId}{size size' n n':Nat}{v v':Value}{xs xs':List Value}(h:w.ownsRow base e size v n xs)(h':w.ownsRow base' e' size' v' n' xs')(hne:e≠e')(hg:w.grownBy w' v'.ownBlock):w'.ownsRow base e size v n xs:=by
 refine h.kept hg ?_
 cases hb:v.ownBlock with
 |none=>exact .inl rfl
 |some g=>exact .inr (fun e2=>iI h h' hne hb e2.symm)
def jA(W R:Int->List (Int×Int)):Nat->List Cl
 |0=>[]
 |n+1=>jA W R n++uX W R (n:Int)
theorem ye{W R W' R':Int->List (Int×Int)}: ∀{k:Nat},(∀i:Nat,i<k->W i=W' i/\R i=R' i)->jA W R k=jA W' R' k
 |0,_=>rfl
 |k+1,h=>by unfold jA uX;rw[ye (fun i hi=>h i (by omega)),(h k (by omega)).1,(h k (by omega)).2]
def si(W:Int->List (Int×Int))(k:Nat)(x:List (Int×Int))(i:Int):List (Int×Int):=if i=(k:Int)then x else W i
theorem pZ{W:Int->List (Int×Int)}{k:Nat}{x:List (Int×Int)}:si W k x (k:Int)=x:=by simp[si]
theorem nW{W:Int->List (Int×Int)}{k i:Nat}{x:List (Int×Int)}(h:i≠k):si W k x (i:Int)=W i:=by unfold si;rw[ff (by omega)]
theorem AG(W R:Int->List (Int×Int))(k:Nat)(x y:List (Int×Int)):jA (si W k x) (si R k y) (k+1)=jA W R k++(x.map (s8 (k:Int) true)++y.map (s8 (k:Int) false)):=by have h:jA (si W k x) (si R k y) k=jA W R k:=ye (fun i hi=>⟨nW (by omega),nW (by omega)⟩);show jA (si W k x) (si R k y) k++uX _ _ _=_;rw[h];unfold uX;rw[pZ,pZ]
theorem Eu(ks:List (Bool×List UInt8))(W R:Int->List (Int×Int)):fA ks W R=ks.map yS++jA W R 4:=by unfold fA jA jA jA jA jA;simp
def JD(l:List Cl)(i:Int)(W R:List (Int×Int)):Prop:=(cH W/\ ∀n,lq W n↔lq (cS l i true) n)/\cH R/\ ∀n,lq R n↔lq (cS l i false) n/\ ¬lq W n
def Inv(w:World)(rs:Nat->Value)(ls:Nat->List (Int×Int))(out:List Cl)(v10:Value)(P:Nat->Prop)(wr:World):Prop:=
 wr.heap[w.heap.size]?=some (.cells #[.slice none 0 0] 48 (0,0))/\fM wr (w.heap.size+1+1) rs/\fM wr (w.heap.size+1+1+1) (fun j=>rs (4+j))/\
  (∀j,j<8->P j->wr.ownsRow (w.heap.size+1+1+1+1) 161 2 (rs j) (ls j).length ((ls j).map mg).flatten)/\wr.ownsRow w.heap.size 107 5 v10 out.length (out.map Cl.cells).flatten/\Below w.heap.size w wr
def ZU(rs:Nat->Value):Prop:= ∀i j,i<8->j<8->i≠j-> ∀g,(rs i).ownBlock=some g->(rs j).ownBlock≠some g
section
variable{w wr w':World}{rs:Nat->Value}{ls:Nat->List (Int×Int)}{out out':List Cl}{v10 v':Value}{P P':Nat->Prop}
theorem Inv.below(h:Inv w rs ls out v10 P wr)(hb:Below wr.heap.size wr w'):Inv w rs ls out v10 P w':=by
 obtain⟨h1,h2,h3,h4,h5,h6⟩:=h;refine⟨?_,?_,?_,fun j hj hp=>aY (h4 j hj hp) hb,aY h5 hb,h6.x (hb.m h6.size)⟩
 ·rw[hb.block _ (Array.getElem?_eq_some_iff.1 h1).1];exact h1
 ·unfold fM;rw[hb.block _ (Array.getElem?_eq_some_iff.1 h2).1];exact h2
 ·unfold fM;rw[hb.block _ (Array.getElem?_eq_some_iff.1 h3).1];exact h3
theorem Inv.mono(h:Inv w rs ls out v10 P wr)(hp: ∀j,P' j->P j):Inv w rs ls out v10 P' wr:=⟨h.1,h.2.1,h.2.2.1,fun j hj h'=>h.2.2.2.1 j hj (hp j h'),h.2.2.2.2⟩
abbrev Inv.m:=@Inv.mono
theorem Inv.OM(h:Inv w rs ls out v10 P wr)(hd:ZU rs){i:Nat}(hi:i<8)(hp:P i)(ho:Only (fun b=>(rs i).ownBlock=some b) wr w'):Inv w rs ls out v10 (fun j=>P j/\j≠i) w':=by
 obtain⟨h1,h2,h3,h4,h5,h6⟩:=h;have hri:=h4 i hi hp;have hlo: ∀b,b<w.heap.size+1+1+1+1-> ¬(rs i).ownBlock=some b:=fun b hb e=>by have:=(hri.lt b e).1;omega
 refine⟨ho.heap h1 (hlo _ (by omega)),ho.heap h2 (hlo _ (by omega)),ho.heap h3 (hlo _ (by omega)),fun j hj hpj=>aT (h4 j hj hpj.1) ho (fun g hg e=>hd j i hj hi hpj.2 g hg e),aT h5 ho (fun g hg e=>iI hri h5 (by decide) e hg),?_⟩;exact h6.x (ho.aG h6.size (fun k hk=>hlo k (by omega)))
theorem Inv.append(h:Inv w rs ls out v10 P wr)(hg:wr.grownBy w' v10.ownBlock)(ho:w'.ownsRow w.heap.size 107 5 v' out'.length (out'.map Cl.cells).flatten):Inv w rs ls out' v' P w':=by
 obtain⟨h1,h2,h3,h4,h5,h6⟩:=h;have hne: ∀{b:Nat} {cs:Array Value} {t:TypeId} {fr:Nat×Nat},wr.heap[b]?=some (.cells cs t fr)->(107:TypeId)≠t->w'.heap[b]?=wr.heap[b]?:=fun{b cs t fr} hb ht=>hg.block _ (bd.1 hb).1 (fun e=>cN h5 hb ht e.symm);refine⟨(hne h1 (by decide)).x h1,(hne h2 (by decide)).x h2,(hne h3 (by decide)).x h3,fun j hj hp=>?_,ho,h6.grown hg h6.size (fun j hj=>(h5.lt j hj).1)⟩;refine(h4 j hj hp).kept hg ?_
 cases hb:(rs j).ownBlock with
 |none=>exact .inl rfl
 |some g=>exact .inr (fun e=>iI (h4 j hj hp) h5 (by decide) hb e.symm)
end
theorem AH{s:List (Int×Int)}(h:gZ s):gZ (cG s):=zU (fun _ h=>by simp at h) h
theorem AJ(s:List (Int×Int)):(cG s).length<=s.length:=by have:=zW (l:=s) (out:=[]);simpa[cG]using this
theorem AK: ∀(os:List (Int×Int)) (s:Int×Int),(eW s os).length<=os.length+1
 |[],s=>by simp[eW]
 |o::os,s=>by
  unfold eW;split
  ·simp
  ·have:=AK os (o.2+1,s.2);split<;>split<;>simp<;>omega
theorem Ev(lo:Int)(os:List (Int×Int)):(cP lo os).length<=os.length:=by unfold cP;exact List.IsSuffix.length_le (List.dropWhile_suffix _)
theorem sj: ∀(l os:List (Int×Int)),(bW l os).length<=l.length*(os.length+1)
 |[],os=>by simp[bW]
 |s::l,os=>by unfold bW;have h1:=AK (cP s.1 os) s;have h2:=Ev s.1 os;have h3:=sj l (cP s.1 os);have h4:l.length*((cP s.1 os).length+1)<=l.length*(os.length+1):=Nat.mul_le_mul_left _ (by omega);rw[fb,fm,la];omega
theorem Lh{l:List Cl}(h: ∀c∈l,c.fits)(j:Nat):gZ (lists l j):=by
 intro x hx
 have: ∃i b,x∈cS l i b:=by
  unfold lists at hx;split at hx
  ·exact⟨_,_,hx⟩
  ·exact⟨_,_,hx⟩
 obtain⟨i,b,hx⟩:=this;obtain⟨c,hc,_,_,rfl⟩:=lO.1 hx;exact⟨(h c hc).2.1,(h c hc).2.2.1⟩
theorem Ew{l:List Cl}(hl: ∀c∈l,Ok c){i:Int}{s s':List (Int×Int)}(hs:s.Perm (cS l i true))(hs':s'.Perm (cS l i false))(h1:kU s)(h2:kU s'):JD l i (cG s) (bW (cG s') (cG s)):=by have p1:tq s:=fun x hx=>oV hl i true x (hs.mem_iff.1 hx);have p2:tq s':=fun x hx=>oV hl i false x (hs'.mem_iff.1 hx);obtain⟨n1,m1⟩:=xm p1 h1;obtain⟨n2,m2⟩:=xm p2 h2;obtain⟨n3,m3,_⟩:=qp n2 n1;exact⟨⟨n1,fun n=>(m1 n).x (DB hs n)⟩,n3,fun n=>by rw[m3 n,m2 n,DB hs' n]⟩
theorem zn{ks:List (List UInt8)}(hn:ks.Nodup):(ks.mergeSort fun x y=>decide (x<=y)).Pairwise (· < ·):=by
 have h1:=List.pairwise_mergeSort (le:=fun x y:List UInt8=>decide (x<=y)) (fun a b c h h'=>by simp at *;exact List.le_trans h h') (fun a b=>by simp;exact List.le_total a b) ks;have h2:(ks.mergeSort fun x y=>decide (x<=y)).Nodup:=(List.mergeSort_perm ks _).nodup_iff.2 hn;refine(h1.and h2).imp ?_;rintro a b ⟨h,hne⟩;simp at h;rcases Decidable.em (a<b)with h1|h1
 ·exact h1
 ·exact absurd (List.le_antisymm h (List.not_lt.1 h1)) hne
theorem AL{l:List Cl}(hl: ∀c∈l,Ok c){ks:List (List UInt8)}(hn:ks.Nodup)(hks: ∀k,k∈ks↔fo l (-1,k,0)≠0){rows:List Cl}(hr:(ks.mergeSort fun x y=>decide (x<=y)).map (AB fun key=>fo l (-1,key,0))=rows)
  {W R:Int->List (Int×Int)} (XI: ∀i:Nat,i<4->JD l i (W i) (R i)):eI l (rows++jA W R 4):=by
 have e:rows++jA W R 4=fA ((ks.mergeSort fun x y=>decide (x<=y)).map fun k=>(fo l (-1,k,0)==2,k)) W R:=by rw[Eu,<-hr,List.map_map];rfl
 rw[e]
 have ZV: ∀i:Int,0<=i->i<4->JD l i (W i) (R i):=fun i h0 h4=>by obtain⟨n,rfl⟩: ∃n:Nat,i=(n:Int):=⟨i.toNat,by omega⟩;exact XI n (by omega)
 refine Rl hl ?_ ?_ ?_ (fun i h0 h4=>(ZV i h0 h4).1) (fun i h0 h4=>(ZV i h0 h4).2)
 ·rw[List.pairwise_map];exact zn hn
 ·intro k;have hb:=iT l (-1,k,0);constructor
  ·rintro⟨b,hb'⟩;obtain⟨k',hk',e⟩:=ew.1 hb';injection e with _ e;subst e;have:=(hks _).1 (List.mem_mergeSort.1 hk');omega
  ·intro h;exact⟨_,ew.2 ⟨k,List.mem_mergeSort.2 ((hks k).2 (by omega)),rfl⟩⟩
 ·intro k;constructor
  ·intro hb';obtain⟨k',hk',e⟩:=ew.1 hb';injection e with e1 e;subst e;simpa using e1
  ·intro h;refine ew.2 ⟨k,List.mem_mergeSort.2 ((hks k).2 (by omega)),?_⟩;rw[h];rfl
theorem G0(w:World)(l:List Cl):OH w l 0 ((((w.alloc (.cells #[.slice none 0 0] 48)).alloc (.map #[] 0)).alloc (.cells #[.slice none 0 0,.slice none 0 0,.slice none 0 0,.slice none 0 0] 156)).alloc (.cells #[.slice none 0 0,.slice none 0 0,.slice none 0 0,.slice none 0 0] 156)):=by
 refine⟨.map [],fun _=>.slice none 0 0,?_,?_,?_,?_,?_,⟨?_,?_⟩,?_⟩
 ·intro k;simp[Rj,DataW.atKey,Maps.has]
 ·have h:=World.ownsMap_made (H:=Unit) (w.alloc (.cells #[.slice none 0 0] 48)) prog 159 (plainElem prog 3);have e:(w.alloc (.cells #[.slice none 0 0] 48)).heap.size=w.heap.size+1:=by simp
  rw[e]at h;exact(h.alloc _).alloc _
 ·rw[Below.heap_alloc _ _ _ (by simp;omega),Below.heap_alloc _ _ _ (by simp;omega),Below.heap_alloc _ _ _ (by simp)];exact an _ _
 ·unfold fM;rw[Below.heap_alloc _ _ _ (by simp)];have e:w.heap.size+1+1=((w.alloc (.cells #[.slice none 0 0] 48)).alloc (.map #[] 0)).heap.size:=by simp
  rw[e];exact an _ _
 ·unfold fM;have e:w.heap.size+1+1+1=(((w.alloc (.cells #[.slice none 0 0] 48)).alloc (.map #[] 0)).alloc (.cells #[.slice none 0 0,.slice none 0 0,.slice none 0 0,.slice none 0 0] 156)).heap.size:=by simp
  rw[e];exact an _ _
 ·intro j hj;have:lists (l.take 0) j=[]:=by simp[lists,cS]
  rw[this];exact ea _ _ _ _
 ·intro i j _ _ _ g hg;simp[Value.ownBlock]at hg
 ·exact((((aw _ _).alloc (aE _) _).alloc (by simp) _).alloc (by simp;omega) _).alloc (by simp;omega) _
def ZW(w:World)(l:List Cl)(rs:Nat->Value)(rows:List Cl)(k:Nat)(v10:Value)(wr:World):Prop:=
 ∃W R:Int->List (Int×Int),(∀i:Nat,i<k->JD l i (W i) (R i))/\(rows++jA W R k).length<=1000+k*1002000/\Inv w rs (lists l) (rows++jA W R k) v10 (fun j=>k<=j%4) wr
theorem p6{w w2 w3:World}{l:List Cl}{k:Nat}{x:Cl}{D:DataW Unit}{rs:Nat->Value}{i j A c' nl g3 D5:Nat}{A':Option Addr}(hC:iG w D k rs (lists (l.take k)) w2)(hx:l[k]?=some x)(hD:jN D (fun key=>fo (l.take k) (-1,key,0)))
  (Li:x.aM=(j:Int)) (QC:j<4) (hi:i=if x.wr then 4+j else j) (hv:rs i=.slice A' (lists (l.take k) i).length c') (hnl:(lists (l.take k) i).length=nl)
  (dJ:w3.ownsRow (w.heap.size+1+1+1+1) 161 2 (.slice (some ⟨g3,0,none⟩) (nl+1) D5) (nl+1) (((lists (l.take k) i).map mg).flatten++[.int .i64 x.lo,.int .i64 x.hi]))
  (bG:(w2.alloc (.cells #[.int .i64 x.lo,.int .i64 x.hi] 161)).drew.grownBy w3 (Value.slice A' nl c').ownBlock) (ml:(Value.slice A' nl c').ownBlock=some g3\/g3=w2.heap.size+1)
  (hA:(i<4/\A=w.heap.size+1+1/\j=i)\/(4<=i/\A=w.heap.size+1+1+1/\i=4+j)):OH w l (k+1) (w3.setCell ⟨A,j,none⟩ (.slice (some ⟨g3,0,none⟩) (nl+1) D5)):=by
 have ZX:i<8:=by omega
 have hX:iG w D k rs (lists (l.take k)) (w2.alloc (.cells #[.int .i64 x.lo,.int .i64 x.hi] 161)).drew:=hC.below (((aw _ _).alloc (aE _) _).drew);have hb:(rs i).ownBlock=(Value.slice A' nl c').ownBlock:=by rw[hv,hnl]
 have h:=hX.append ZX (v':=.slice (some ⟨g3,0,none⟩) (nl+1) D5) (x:=(x.lo,x.hi)) (by rw[hb];exact bG) (by rw[hnl];simpa[mg]using dJ) (by
  rw[hb];rcases ml with h|h
  ·exact .inl h.symm
  ·refine .inr ?_;subst h
   simp[Value.ownBlock]) hA
 refine⟨D,_,?_,(h.more (Nat.le_succ k)).lists (fun a ha=>?_)⟩
 ·rw[dW hx];exact hD.same (fun key=>GZ (by omega) key)
 ·rw[dW hx,Lg Li QC a ha,<-hi]
end
section
open Go.RowKit Go.Maps Go.WideShapes
theorem G1(w:World)(F:Nat->Prop)(v:Value)(l:List Cl)(h:eG w F v l)(hl:l.length<=1000)(hfit: ∀c∈l,c.fits):
  Calls prog 44 #[v] w (OJ l w):=by
 obtain⟨i0,hi,hz0,hz1,hz2⟩:=ep Tryz.FJ;obtain⟨i2,hi2,hy0,hy1,hy2⟩:=ep Tryz.sZ;obtain⟨A,c,rfl,hnc,hcm⟩:=h.slice;have H:=al h;have jh:=al hi;clear h hi;have hmm:= @run_makeMap prog;go_enter func44,ntmps44;go_wp2_with fail
 go_step3
 go_wp2_with fail
 go_step3
 go_wp2_with fail
 go_loopw [7,16] (fun e i wr=>e=.int .i64 0/\ ∃k,k<=l.length/\i=.int .i64 (k:Int)/\(∀c∈l.take k,Ok c)/\OH w l k wr) (fun _ i _=>l.length-(intOf i).toNat)
 case atStart=>exact⟨rfl,0,dq _,rfl,by simp,G0 w l⟩
 case round=>
  obtain⟨rfl,k,hk,rfl,hok,D,rs,hD,hC⟩:=hrel;by_cases hlt:k<l.length
  ·obtain⟨x,hx⟩: ∃x,l[k]?=some x:=⟨_,ao hlt⟩;obtain⟨b,o,rfl,qP,c0,c1,c2,c3,c4⟩:=H.o.at_ hx;have hb:b<w.heap.size:=aq w _ c0;have hbl:=hC.2.2.2.2.2;have c0':=(hbl.cell (p:=⟨b,o+k*5,none⟩) hb).x c0;have c1':=(hbl.cell (p:=⟨b,o+k*5+1,none⟩) hb).x c1;have Vd:=(hbl.cell (p:=⟨b,o+k*5+2,none⟩) hb).x c2;have YA:=(hbl.cell (p:=⟨b,o+k*5+3,none⟩) hb).x c3;have YB:=(hbl.cell (p:=⟨b,o+k*5+4,none⟩) hb).x c4;have hcon:=fun W=>M0 W x;have BL:=hfit x (de hx);have hs:=hbl.size;have HL:=al (ab hok (ab hD (ab hC (ab hbl hx))));clear hok hD hC hbl hx c0 c1 c2 c3 c4;unfold Cl.val at hcon;by_cases he:Dw x=0
   ·have G3:Ok x:=he;rw[he]at hcon;clear he;go_wp2_with fail;refine(hcon _).m ?_;rintro e w2 ⟨rfl,hb2⟩
    have ek:w2.heap[wr.heap.size]?=some (.cells #[.bool x.wr,.int .i64 x.aM,.string ⟨x.key.toArray⟩,.int .i64 x.lo,.int .i64 x.hi] 107 (0,0)):=by rw[hb2.block wr.heap.size (by simp)];exact an _ _
    have dI:Below wr.heap.size wr w2:=((aw _ _).alloc (aE _) _).x (hb2.m (by simp));have Ex:=HL.o.d.1.below dI;obtain⟨q0,q1,q2,q3,q4⟩:=GY ek;have hml:=Ex.1.lt;have hs2:=dI.size;have hbz:wr.heap.size<w2.heap.size:=(bd.1 ek).1;have HC:=al Ex;have HBX:=al ek;clear hb2 hcon dI Ex c0' c1' Vd YA YB ek;rcases G3.parts with⟨e1,e2,e3,e4,e5⟩|⟨e1,e2,e3,e4⟩
    ·have hkey:=Ap (k:=x.key) (by unfold maxLen;omega);unfold DY at hkey;have HK:=al (ab hkey (ab e2 (ab e3 e1)));rw[e1]at q1;clear hkey e1 e2 e3 q3 q4
     cases hw:x.wr with
     |true=>
      rw[hw]at q0;have HW:=al hw;clear hw;go_wp2_with (at_mapUpdate;go_loud (refine wpList_mapUpdate_own _ rfl _ _ _ 154 rfl 159 3 KV underlying154 _ (w.heap.size+1) k D rfl HC.o.1 (by unfold maxLen;omega) _ _ _ rfl rfl HK.o.1 _ [] (plainElem_int underlying3 (by decide)) ?_);intro w3 dJ bG);go_roundw
      case rel=>
       refine⟨rfl,k+1,by omega,by go_num,pY HL.o.1 HL.o.q G3,_,rs,?_,((HC.o.map bG dJ).lists (fun j hj=>?_))⟩
       ·rw[dW HL.o.q];refine HL.o.2.1.put HC.o.1.isMap (by decide) ?_ (fun k' hk'=>?_)
        ·rw[vP HK.o.t HK.o.2.1 HK.o.d.1,fi rfl,fi HW.o]
        ·rw[vP HK.o.t HK.o.2.1 HK.o.d.1,ff hk']
       ·rw[dW HL.o.q];exact AE HK.o.t j hj
      case measure=>simp[intOf];omega
     |false=>
      rw[hw]at q0;have HW:=al hw;clear hw;obtain⟨r,hlk,hat,hwr⟩:=HC.o.1.drew.lookup_int KV underlying154 underlying3 (Tryz.Un _) HK.o.1
      have hrl:r=fo (l.take k) (-1,x.key,0):=by have h:=(HL.o.2.1 x.key).1;rw[hat]at h;simpa using h
      have Ss:=iT (l.take k) (-1,x.key,0);rw[<-hrl]at Ss;have HR:=al hrl;clear hat hrl hwr;go_upto_region 13 with fail
      go_still_tail 10,(by kernel_rfl)
      change wpList _ _ _ _ _ w2.drew;generalize hmx:(max r 1:Int)=mx
      have hwf:(Lit.int .i64 mx).wf=true:=by
       have:mx=1\/mx=2:=by omega
       rcases this with rfl|rfl<;>decide
      have HM:=al hmx;clear hmx hlk;go_wp2_with (at_mapUpdate;go_loud (refine wpList_mapUpdate_own _ rfl _ _ _ 154 rfl 159 3 KV underlying154 _ (w.heap.size+1) k D rfl HC.o.1.drew (by unfold maxLen;omega) _ _ _ rfl rfl HK.o.1 _ [] (plainElem_int underlying3 hwf) ?_);intro w3 dJ bG);go_roundw
      case rel=>
       have jo:mx≠0:=by have:=HM.o;omega
       have hgrow:w2.grownBy w3 (some (w.heap.size+1)):=⟨bG.os,bG.tape,bG.output,bG.size,bG.block⟩;refine⟨rfl,k+1,by omega,by go_num,pY HL.o.1 HL.o.q G3,_,rs,?_,((HC.o.map hgrow dJ).lists (fun j hj=>?_))⟩
       ·rw[dW HL.o.q];refine HL.o.2.1.put HC.o.1.isMap jo ?_ (fun k' hk'=>?_)
        ·rw[vP HK.o.t HK.o.2.1 HK.o.d.1,fi rfl,ff (by rw[HW.o];decide),<-HR.o];exact HM.o
        ·rw[vP HK.o.t HK.o.2.1 HK.o.d.1,ff hk']
       ·rw[dW HL.o.q];exact AE HK.o.t j hj
      case measure=>simp[intOf];omega
    ·obtain⟨j,hj⟩: ∃j:Nat,x.aM=(j:Int):=⟨x.aM.toNat,by omega⟩;have QC:j<4:=by omega
     have hj0:(0:Int)<=(j:Int):=by omega
     have hj5:(j:Int)<4:=by omega
     rw[hj]at q1;have HJ:=al (ab hj (ab e1 e3));clear hj e1 e2 e3 q2
     cases hw:x.wr with
     |true=>
      rw[hw]at q0;have ZX:4+j<8:=by omega
      obtain⟨a0,a1⟩:=mM HC.o.t.1 j QC;have hown:=HC.o.q.1.1 (4+j) ZX;obtain⟨A',c',hv⟩:=ag hown
      have hll:(lists (l.take k) (4+j)).length<=1000:=by have:=tO (l.take k) (4+j);simp at this;omega
      simp only[hv]at a0;obtain⟨nl,hnl⟩:=qt ((lists (l.take k) (4+j)).length);rw[hnl]at a0 hll;have hown2:=hown.alloc (.cells #[.int .i64 x.lo,.int .i64 x.hi] 161);rw[hv,hnl]at hown2;have hnews:=eb (an w2 (.cells #[.int .i64 x.lo,.int .i64 x.hi] 161));have hl3:=(bd.1 HC.o.d.1).1;have hl5:=(bd.1 HL.o.d.1.2.2.2.1).1;have sK:w.heap.size+1+1≠wr.heap.size:=by omega
      have oC:w.heap.size+1+1+1≠wr.heap.size:=by omega
      have hl4:=(bd.1 HC.o.t.1).1
      have ZY: ∀g,Value.ownBlock (.slice A' nl c')=some g->w.heap.size+1+1+1+1<=g/\g<w2.heap.size:=fun g hg=>by rw[<-hnl,<-hv]at hg;exact hown.lt g hg
      have aR: ∀g,Value.ownBlock (.slice A' nl c')=some g->g≠wr.heap.size:=fun g hg e=>by rw[<-hnl,<-hv]at hg;subst e;exact cN hown HBX.o (by decide) hg
      have HW:=al (ab hw (ab hv hnl));have HO:=al (ab hown2 (ab hnews (ab ZY aR)));clear hw hv hnl hown hown2 hnews ZY aR;go_upto_region 15 with fail;refine o0 (S:=(fun w'=>w'.cell? ⟨wr.heap.size,1,none⟩=some (.int .i64 (j:Int))/\w'.cell? ⟨wr.heap.size,3,none⟩=some (.int .i64 x.lo)/\w'.cell? ⟨wr.heap.size,4,none⟩=some (.int .i64 x.hi))) (by kernel_rfl) ⟨q1,q3,q4⟩ (fun ph=>?_);refine bw (i:=0) (v:=?_) rfl (by kernel_rfl) (by kernel_rfl) (by kernel_rfl) (fun _ _ _ h=>h) (by rfl) (fun w hSw=>?_) ph ?_;rotate_left
      ·obtain⟨s1,s3,s4⟩:=hSw;go_simp;try rfl
      try simp only[ai,aj,ak,ar]
      refine bw (i:=1) (v:=?_) rfl (by kernel_rfl) (by kernel_rfl) (by kernel_rfl) (fun _ _ _ h=>h) (by rfl) (fun w hSw=>?_) ph ?_;rotate_left
      ·obtain⟨s1,s3,s4⟩:=hSw;go_simp;try rfl
      try simp only[ai,aj,ak,ar]
      refine bw (i:=2) (v:=?_) rfl (by kernel_rfl) (by kernel_rfl) (by kernel_rfl) (fun _ _ _ h=>h) (by rfl) (fun w hSw=>?_) ph ?_;rotate_left
      ·obtain⟨s1,s3,s4⟩:=hSw;go_simp;try rfl
      try simp only[ai,aj,ak,ar]
      refine bw (i:=3) (v:=?_) rfl (by kernel_rfl) (by kernel_rfl) (by kernel_rfl) (fun _ _ _ h=>h) (by rfl) (fun w hSw=>?_) ph ?_;rotate_left
      ·obtain⟨s1,s3,s4⟩:=hSw;go_simp;try rfl
      try simp only[ai,aj,ak,ar]
      refine bw (i:=4) (v:=?_) rfl (by kernel_rfl) (by kernel_rfl) (by kernel_rfl) (fun _ _ _ h=>h) (by rfl) (fun w hSw=>?_) ph ?_;rotate_left
      ·obtain⟨s1,s3,s4⟩:=hSw;go_simp;try rfl
      try simp only[ai,aj,ak,ar]
      refine bw (i:=6) (v:=?_) rfl (by kernel_rfl) (by kernel_rfl) (by kernel_rfl) (fun _ _ _ h=>h) (by rfl) (fun w hSw=>?_) ph ?_;rotate_left
      ·obtain⟨s1,s3,s4⟩:=hSw;go_simp;try rfl
      try simp only[ai,aj,ak,ar]
      refine bw (i:=7) (v:=?_) rfl (by kernel_rfl) (by kernel_rfl) (by kernel_rfl) (fun _ _ _ h=>h) (by rfl) (fun w hSw=>?_) ph ?_;rotate_left
      ·obtain⟨s1,s3,s4⟩:=hSw;go_simp;try rfl
      try simp only[ai,aj,ak,ar]
      refine bw (i:=8) (v:=?_) rfl (by kernel_rfl) (by kernel_rfl) (by kernel_rfl) (fun _ _ _ h=>h) (by rfl) (fun w hSw=>?_) ph ?_;rotate_left
      ·obtain⟨s1,s3,s4⟩:=hSw;go_simp;try rfl
      try simp only[ai,aj,ak,ar]
      refine bw (i:=9) (v:=?_) rfl (by kernel_rfl) (by kernel_rfl) (by kernel_rfl) (fun _ _ _ h=>h) (by rfl) (fun w hSw=>?_) ph ?_;rotate_left
      ·obtain⟨s1,s3,s4⟩:=hSw;go_simp;try rfl
      try simp only[ai,aj,ak,ar]
      refine bw (i:=10) (v:=?_) rfl (by kernel_rfl) (by kernel_rfl) (by kernel_rfl) (fun _ _ _ h=>h) (by rfl) (fun w hSw=>?_) ph ?_;rotate_left
      ·obtain⟨s1,s3,s4⟩:=hSw;go_simp;try rfl
      try simp only[ai,aj,ak,ar]
      refine pf (rs:=[5,11]) (by kernel_rfl) (by simp) ?_;refine cM (i:=5) rfl (fun K hK=>?_) (cM (i:=11) rfl (fun K hK=>?_) oT)
      ·go_simp;refine hK.o _ _ ph (fun ph=>?_);clear hK K
       try simp only[ai,aj,ak,ar]
       refine pf (rs:=[11]) (by kernel_rfl) (by simp) (cM (i:=11) rfl (fun K hK=>?_) oT);go_simp;refine hK.o _ _ (by obtain⟨s1,s3,s4⟩:=ph;refine⟨?_,?_,?_⟩<;>simp[*,World.cell?_alloc_some]) (fun ph=>?_);clear hK K
       try simp only[ai,aj,ak,ar]
       refine pf (rs:=[12]) (by kernel_rfl) (by simp) (cM (i:=12) rfl (fun K hK=>?_) oT)
       (refine step_append_lies _ (by rfl) _ _ 155 (by rfl) (w.heap.size+1+1+1+1) 161 i0 _ 2 16 underlying155 jh.o hz0 hz1 hz2 (by rfl) (by decide) (.slice A' nl c') nl _ (by rfl) HO.o.1 ⟨w2.heap.size,0,none⟩ 1 1 [.int .i64 x.lo,.int .i64 x.hi] (by rfl) (by rfl) HO.o.2.1 (by simp[Value.oneCell']) (by decide) (by unfold maxLen;omega) (by omega) (by simp;omega) (w2.heap.size+1) (by simp) ?_)
       intro g3 D5 w3 dJ bG ml RY;obtain⟨b0,b1⟩:=jO (o:=.cells #[.int .i64 x.lo,.int .i64 x.hi] 161) (w2:=w2) bG rfl a0 a1 (fun e=>by have:=(HO.o.d.1 _ e.symm).1;omega);refine hK.o _ _ ⟨(bG.cell_far _ (by simp;omega) (fun e=>(HO.o.t _ e.symm) rfl)).x ph.1,(bG.cell_far _ (by simp;omega) (fun e=>(HO.o.t _ e.symm) rfl)).x ph.2.1,(bG.cell_far _ (by simp;omega) (fun e=>(HO.o.t _ e.symm) rfl)).x ph.2.2⟩ (fun ph=>?_);clear hK K
       try simp only[ai,aj,ak,ar]
       refine bw (i:=13) (v:=?_) rfl (by kernel_rfl) (by kernel_rfl) (by kernel_rfl) (fun _ _ _ h=>h) (by rfl) (fun w hSw=>?_) ph ?_;rotate_left
       ·obtain⟨s1,s3,s4⟩:=hSw;go_simp;try rfl
       try simp only[ai,aj,ak,ar]
       refine pf (rs:=[14]) (by kernel_rfl) (by simp) (cM (i:=14) rfl (fun K hK=>?_) oT);go_simp;refine hK.o _ _ (by obtain⟨s1,s3,s4⟩:=ph;refine⟨?_,?_,?_⟩<;>simp[*,World.cell?_setCell_far]) (fun ph=>?_);clear hK K
       try simp only[ai,aj,ak,ar]
       refine pb (by kernel_rfl) ?_ _;have HG:=al (ab dJ (ab bG ml));clear ph dJ bG ml b0 b1 a0 a1;go_wp2_with fail;go_roundw
       case rel=>exact⟨rfl,k+1,by omega,by go_num,pY HL.o.1 HL.o.q G3,p6 HC.o HL.o.q HL.o.2.1 HJ.o.1 QC (by rw[HW.o.1];rfl) HW.o.2.1 HW.o.d HG.o.1 HG.o.2.1 HG.o.d (.inr ⟨by omega,rfl,rfl⟩)⟩
       case measure=>simp[intOf];omega
      ·go_simp;refine hK.o _ _ (by obtain⟨s1,s3,s4⟩:=ph;refine⟨?_,?_,?_⟩<;>simp[*,World.cell?_alloc_some]) (fun ph=>?_);clear hK K
       try simp only[ai,aj,ak,ar]
       refine pf (rs:=[5]) (by kernel_rfl) (by simp) (cM (i:=5) rfl (fun K hK=>?_) oT);go_simp;refine hK.o _ _ ph (fun ph=>?_);clear hK K
       try simp only[ai,aj,ak,ar]
       refine pf (rs:=[12]) (by kernel_rfl) (by simp) (cM (i:=12) rfl (fun K hK=>?_) oT)
       (refine step_append_lies _ (by rfl) _ _ 155 (by rfl) (w.heap.size+1+1+1+1) 161 i0 _ 2 16 underlying155 jh.o hz0 hz1 hz2 (by rfl) (by decide) (.slice A' nl c') nl _ (by rfl) HO.o.1 ⟨w2.heap.size,0,none⟩ 1 1 [.int .i64 x.lo,.int .i64 x.hi] (by rfl) (by rfl) HO.o.2.1 (by simp[Value.oneCell']) (by decide) (by unfold maxLen;omega) (by omega) (by simp;omega) (w2.heap.size+1) (by simp) ?_)
       intro g3 D5 w3 dJ bG ml RY;obtain⟨b0,b1⟩:=jO (o:=.cells #[.int .i64 x.lo,.int .i64 x.hi] 161) (w2:=w2) bG rfl a0 a1 (fun e=>by have:=(HO.o.d.1 _ e.symm).1;omega);refine hK.o _ _ ⟨(bG.cell_far _ (by simp;omega) (fun e=>(HO.o.t _ e.symm) rfl)).x ph.1,(bG.cell_far _ (by simp;omega) (fun e=>(HO.o.t _ e.symm) rfl)).x ph.2.1,(bG.cell_far _ (by simp;omega) (fun e=>(HO.o.t _ e.symm) rfl)).x ph.2.2⟩ (fun ph=>?_);clear hK K
       try simp only[ai,aj,ak,ar]
       refine bw (i:=13) (v:=?_) rfl (by kernel_rfl) (by kernel_rfl) (by kernel_rfl) (fun _ _ _ h=>h) (by rfl) (fun w hSw=>?_) ph ?_;rotate_left
       ·obtain⟨s1,s3,s4⟩:=hSw;go_simp;try rfl
       try simp only[ai,aj,ak,ar]
       refine pf (rs:=[14]) (by kernel_rfl) (by simp) (cM (i:=14) rfl (fun K hK=>?_) oT);go_simp;refine hK.o _ _ (by obtain⟨s1,s3,s4⟩:=ph;refine⟨?_,?_,?_⟩<;>simp[*,World.cell?_setCell_far]) (fun ph=>?_);clear hK K
       try simp only[ai,aj,ak,ar]
       refine pb (by kernel_rfl) ?_ _;have HG:=al (ab dJ (ab bG ml));clear ph dJ bG ml b0 b1 a0 a1;go_wp2_with fail;go_roundw
       case rel=>exact⟨rfl,k+1,by omega,by go_num,pY HL.o.1 HL.o.q G3,p6 HC.o HL.o.q HL.o.2.1 HJ.o.1 QC (by rw[HW.o.1];rfl) HW.o.2.1 HW.o.d HG.o.1 HG.o.2.1 HG.o.d (.inr ⟨by omega,rfl,rfl⟩)⟩
       case measure=>simp[intOf];omega
     |false=>
      rw[hw]at q0;have ZX:j<8:=by omega
      obtain⟨a0,a1⟩:=mM HC.o.d.1 j QC;have hown:=HC.o.q.1.1 (j) ZX;obtain⟨A',c',hv⟩:=ag hown
      have hll:(lists (l.take k) (j)).length<=1000:=by have:=tO (l.take k) (j);simp at this;omega
      simp only[hv]at a0;obtain⟨nl,hnl⟩:=qt ((lists (l.take k) (j)).length);rw[hnl]at a0 hll;have hown2:=hown.alloc (.cells #[.int .i64 x.lo,.int .i64 x.hi] 161);rw[hv,hnl]at hown2;have hnews:=eb (an w2 (.cells #[.int .i64 x.lo,.int .i64 x.hi] 161));have hl3:=(bd.1 HC.o.d.1).1;have hl5:=(bd.1 HL.o.d.1.2.2.2.1).1;have sK:w.heap.size+1+1≠wr.heap.size:=by omega
      have oC:w.heap.size+1+1+1≠wr.heap.size:=by omega
      have hl4:=(bd.1 HC.o.t.1).1
      have ZY: ∀g,Value.ownBlock (.slice A' nl c')=some g->w.heap.size+1+1+1+1<=g/\g<w2.heap.size:=fun g hg=>by rw[<-hnl,<-hv]at hg;exact hown.lt g hg
      have aR: ∀g,Value.ownBlock (.slice A' nl c')=some g->g≠wr.heap.size:=fun g hg e=>by rw[<-hnl,<-hv]at hg;subst e;exact cN hown HBX.o (by decide) hg
      have HW:=al (ab hw (ab hv hnl));have HO:=al (ab hown2 (ab hnews (ab ZY aR)));clear hw hv hnl hown hown2 hnews ZY aR;go_upto_region 9 with fail;refine o0 (S:=(fun w'=>w'.cell? ⟨wr.heap.size,1,none⟩=some (.int .i64 (j:Int))/\w'.cell? ⟨wr.heap.size,3,none⟩=some (.int .i64 x.lo)/\w'.cell? ⟨wr.heap.size,4,none⟩=some (.int .i64 x.hi))) (by kernel_rfl) ⟨q1,q3,q4⟩ (fun ph=>?_);refine bw (i:=0) (v:=?_) rfl (by kernel_rfl) (by kernel_rfl) (by kernel_rfl) (fun _ _ _ h=>h) (by rfl) (fun w hSw=>?_) ph ?_;rotate_left
      ·obtain⟨s1,s3,s4⟩:=hSw;go_simp;try rfl
      try simp only[ai,aj,ak,ar]
      refine bw (i:=1) (v:=?_) rfl (by kernel_rfl) (by kernel_rfl) (by kernel_rfl) (fun _ _ _ h=>h) (by rfl) (fun w hSw=>?_) ph ?_;rotate_left
      ·obtain⟨s1,s3,s4⟩:=hSw;go_simp;try rfl
      try simp only[ai,aj,ak,ar]
      refine bw (i:=2) (v:=?_) rfl (by kernel_rfl) (by kernel_rfl) (by kernel_rfl) (fun _ _ _ h=>h) (by rfl) (fun w hSw=>?_) ph ?_;rotate_left
      ·obtain⟨s1,s3,s4⟩:=hSw;go_simp;try rfl
      try simp only[ai,aj,ak,ar]
      refine bw (i:=3) (v:=?_) rfl (by kernel_rfl) (by kernel_rfl) (by kernel_rfl) (fun _ _ _ h=>h) (by rfl) (fun w hSw=>?_) ph ?_;rotate_left
      ·obtain⟨s1,s3,s4⟩:=hSw;go_simp;try rfl
      try simp only[ai,aj,ak,ar]
      refine bw (i:=4) (v:=?_) rfl (by kernel_rfl) (by kernel_rfl) (by kernel_rfl) (fun _ _ _ h=>h) (by rfl) (fun w hSw=>?_) ph ?_;rotate_left
      ·obtain⟨s1,s3,s4⟩:=hSw;go_simp;try rfl
      try simp only[ai,aj,ak,ar]
      refine bw (i:=6) (v:=?_) rfl (by kernel_rfl) (by kernel_rfl) (by kernel_rfl) (fun _ _ _ h=>h) (by rfl) (fun w hSw=>?_) ph ?_;rotate_left
      ·obtain⟨s1,s3,s4⟩:=hSw;go_simp;try rfl
      try simp only[ai,aj,ak,ar]
      refine bw (i:=7) (v:=?_) rfl (by kernel_rfl) (by kernel_rfl) (by kernel_rfl) (fun _ _ _ h=>h) (by rfl) (fun w hSw=>?_) ph ?_;rotate_left
      ·obtain⟨s1,s3,s4⟩:=hSw;go_simp;try rfl
      try simp only[ai,aj,ak,ar]
      refine bw (i:=8) (v:=?_) rfl (by kernel_rfl) (by kernel_rfl) (by kernel_rfl) (fun _ _ _ h=>h) (by rfl) (fun w hSw=>?_) ph ?_;rotate_left
      ·obtain⟨s1,s3,s4⟩:=hSw;go_simp;try rfl
      try simp only[ai,aj,ak,ar]
      refine bw (i:=9) (v:=?_) rfl (by kernel_rfl) (by kernel_rfl) (by kernel_rfl) (fun _ _ _ h=>h) (by rfl) (fun w hSw=>?_) ph ?_;rotate_left
      ·obtain⟨s1,s3,s4⟩:=hSw;go_simp;try rfl
      try simp only[ai,aj,ak,ar]
      refine bw (i:=10) (v:=?_) rfl (by kernel_rfl) (by kernel_rfl) (by kernel_rfl) (fun _ _ _ h=>h) (by rfl) (fun w hSw=>?_) ph ?_;rotate_left
      ·obtain⟨s1,s3,s4⟩:=hSw;go_simp;try rfl
      try simp only[ai,aj,ak,ar]
      refine pf (rs:=[5,11]) (by kernel_rfl) (by simp) ?_;refine cM (i:=5) rfl (fun K hK=>?_) (cM (i:=11) rfl (fun K hK=>?_) oT)
      ·go_simp;refine hK.o _ _ ph (fun ph=>?_);clear hK K
       try simp only[ai,aj,ak,ar]
       refine pf (rs:=[11]) (by kernel_rfl) (by simp) (cM (i:=11) rfl (fun K hK=>?_) oT);go_simp;refine hK.o _ _ (by obtain⟨s1,s3,s4⟩:=ph;refine⟨?_,?_,?_⟩<;>simp[*,World.cell?_alloc_some]) (fun ph=>?_);clear hK K
       try simp only[ai,aj,ak,ar]
       refine pf (rs:=[12]) (by kernel_rfl) (by simp) (cM (i:=12) rfl (fun K hK=>?_) oT)
       (refine step_append_lies _ (by rfl) _ _ 155 (by rfl) (w.heap.size+1+1+1+1) 161 i0 _ 2 16 underlying155 jh.o hz0 hz1 hz2 (by rfl) (by decide) (.slice A' nl c') nl _ (by rfl) HO.o.1 ⟨w2.heap.size,0,none⟩ 1 1 [.int .i64 x.lo,.int .i64 x.hi] (by rfl) (by rfl) HO.o.2.1 (by simp[Value.oneCell']) (by decide) (by unfold maxLen;omega) (by omega) (by simp;omega) (w2.heap.size+1) (by simp) ?_)
       intro g3 D5 w3 dJ bG ml RY;obtain⟨b0,b1⟩:=jO (o:=.cells #[.int .i64 x.lo,.int .i64 x.hi] 161) (w2:=w2) bG rfl a0 a1 (fun e=>by have:=(HO.o.d.1 _ e.symm).1;omega);refine hK.o _ _ ⟨(bG.cell_far _ (by simp;omega) (fun e=>(HO.o.t _ e.symm) rfl)).x ph.1,(bG.cell_far _ (by simp;omega) (fun e=>(HO.o.t _ e.symm) rfl)).x ph.2.1,(bG.cell_far _ (by simp;omega) (fun e=>(HO.o.t _ e.symm) rfl)).x ph.2.2⟩ (fun ph=>?_);clear hK K
       try simp only[ai,aj,ak,ar]
       refine bw (i:=13) (v:=?_) rfl (by kernel_rfl) (by kernel_rfl) (by kernel_rfl) (fun _ _ _ h=>h) (by rfl) (fun w hSw=>?_) ph ?_;rotate_left
       ·obtain⟨s1,s3,s4⟩:=hSw;go_simp;try rfl
       try simp only[ai,aj,ak,ar]
       refine pf (rs:=[14]) (by kernel_rfl) (by simp) (cM (i:=14) rfl (fun K hK=>?_) oT);go_simp;refine hK.o _ _ (by obtain⟨s1,s3,s4⟩:=ph;refine⟨?_,?_,?_⟩<;>simp[*,World.cell?_setCell_far]) (fun ph=>?_);clear hK K
       try simp only[ai,aj,ak,ar]
       refine pb (by kernel_rfl) ?_ _;have HG:=al (ab dJ (ab bG ml));clear ph dJ bG ml b0 b1 a0 a1;go_wp2_with fail;go_roundw
       case rel=>exact⟨rfl,k+1,by omega,by go_num,pY HL.o.1 HL.o.q G3,p6 HC.o HL.o.q HL.o.2.1 HJ.o.1 QC (by rw[HW.o.1];rfl) HW.o.2.1 HW.o.d HG.o.1 HG.o.2.1 HG.o.d (.inl ⟨QC,rfl,rfl⟩)⟩
       case measure=>simp[intOf];omega
      ·go_simp;refine hK.o _ _ (by obtain⟨s1,s3,s4⟩:=ph;refine⟨?_,?_,?_⟩<;>simp[*,World.cell?_alloc_some]) (fun ph=>?_);clear hK K
       try simp only[ai,aj,ak,ar]
       refine pf (rs:=[5]) (by kernel_rfl) (by simp) (cM (i:=5) rfl (fun K hK=>?_) oT);go_simp;refine hK.o _ _ ph (fun ph=>?_);clear hK K
       try simp only[ai,aj,ak,ar]
       refine pf (rs:=[12]) (by kernel_rfl) (by simp) (cM (i:=12) rfl (fun K hK=>?_) oT)
       (refine step_append_lies _ (by rfl) _ _ 155 (by rfl) (w.heap.size+1+1+1+1) 161 i0 _ 2 16 underlying155 jh.o hz0 hz1 hz2 (by rfl) (by decide) (.slice A' nl c') nl _ (by rfl) HO.o.1 ⟨w2.heap.size,0,none⟩ 1 1 [.int .i64 x.lo,.int .i64 x.hi] (by rfl) (by rfl) HO.o.2.1 (by simp[Value.oneCell']) (by decide) (by unfold maxLen;omega) (by omega) (by simp;omega) (w2.heap.size+1) (by simp) ?_)
       intro g3 D5 w3 dJ bG ml RY;obtain⟨b0,b1⟩:=jO (o:=.cells #[.int .i64 x.lo,.int .i64 x.hi] 161) (w2:=w2) bG rfl a0 a1 (fun e=>by have:=(HO.o.d.1 _ e.symm).1;omega);refine hK.o _ _ ⟨(bG.cell_far _ (by simp;omega) (fun e=>(HO.o.t _ e.symm) rfl)).x ph.1,(bG.cell_far _ (by simp;omega) (fun e=>(HO.o.t _ e.symm) rfl)).x ph.2.1,(bG.cell_far _ (by simp;omega) (fun e=>(HO.o.t _ e.symm) rfl)).x ph.2.2⟩ (fun ph=>?_);clear hK K
       try simp only[ai,aj,ak,ar]
       refine bw (i:=13) (v:=?_) rfl (by kernel_rfl) (by kernel_rfl) (by kernel_rfl) (fun _ _ _ h=>h) (by rfl) (fun w hSw=>?_) ph ?_;rotate_left
       ·obtain⟨s1,s3,s4⟩:=hSw;go_simp;try rfl
       try simp only[ai,aj,ak,ar]
       refine pf (rs:=[14]) (by kernel_rfl) (by simp) (cM (i:=14) rfl (fun K hK=>?_) oT);go_simp;refine hK.o _ _ (by obtain⟨s1,s3,s4⟩:=ph;refine⟨?_,?_,?_⟩<;>simp[*,World.cell?_setCell_far]) (fun ph=>?_);clear hK K
       try simp only[ai,aj,ak,ar]
       refine pb (by kernel_rfl) ?_ _;have HG:=al (ab dJ (ab bG ml));clear ph dJ bG ml b0 b1 a0 a1;go_wp2_with fail;go_roundw
       case rel=>exact⟨rfl,k+1,by omega,by go_num,pY HL.o.1 HL.o.q G3,p6 HC.o HL.o.q HL.o.2.1 HJ.o.1 QC (by rw[HW.o.1];rfl) HW.o.2.1 HW.o.d HG.o.1 HG.o.2.1 HG.o.d (.inl ⟨QC,rfl,rfl⟩)⟩
       case measure=>simp[intOf];omega
   ·obtain⟨er,her⟩:=qt (Dw x);rw[her]at hcon he;have yg:(er==0)=false:=by simpa using he
    have he2:(er !=0)=true:=by simpa using he
    have HE:=al (ab her he);clear her he;go_wp2_with fail;refine(hcon _).m ?_;rintro e w2 ⟨rfl,hb2⟩;have Ex:=HL.o.d.1.below (((aw _ _).alloc (aE _) _).x (hb2.m (by simp)));have hcR:=bK Ex.2.1;have hfR:=dN Ex.2.1;have HC:=al Ex;clear hb2 hcon Ex;go_wp2_with fail;rw[kn];have hh:=db w2 w.heap.size 0 _ _ (.slice none 0 0) HC.o.2.1;refine dr (aB rfl _ _ _ _ _ _ _ rfl hh underlying48 rfl (by kernel_rfl)) rfl ⟨HC.o.q.2.setCell (aE _) _,.inl ?_⟩;have e1:=OL HL.o.1 HL.o.q (by rw[HE.o.1];exact HE.o.2);rw[HE.o.1]at e1;rw[e1];exact⟨HE.o.2,rfl⟩
  ·have hkl:k=l.length:=by omega
   subst hkl;rw[gd]at hok hD hC;have hsz:Maps.size D<=1000:=da hC.1.size_le hl;have HC:=al (ab hok (ab hD (ab hC hsz)));have SB:=al hi2;clear hok hD hC hsz hi2;go_wp2_with fail;refine(Lf wr _ _ D _ HC.o.d.1.1 HC.o.2.1 HC.o.t).m ?_;rintro e w2 ⟨ks,hkl,hnd,hks,ZZ,c10,rfl,hrow,hb2⟩;obtain⟨rows,hrows⟩:=qt ((ks.mergeSort fun x y=>decide (x<=y)).map (AB fun key=>fo l (-1,key,0)));have hrl:rows.length=ks.length:=by rw[<-hrows];simp
   rw[hrows]at hrow
   have hinv:Inv w rs (lists l) rows (.slice ZZ rows.length c10) (fun _=>True) w2:=by obtain⟨h1,h2,h3,h4,h5,h6⟩:=HC.o.d.1.below hb2;exact⟨h2,h3,h4,fun j hj _=>h5.1 j hj,dM hrow (fun g hg=>by have:=(hrow.lt g hg).1;have:=HC.o.d.1.2.2.2.2.2.size;omega),h6⟩
   have Us:ZU rs:=HC.o.d.1.2.2.2.2.1.2;rw[hrows];have HK:=al (ab hnd (ab hks (ab hrows (ab hrl (ab hinv (ab Us hkl))))));clear hnd hks hrows hrl hinv Us hrow hb2 hkl;go_wp2_with fail
   go_loopw [10,88] (fun v i wr=> ∃k:Nat,k<=4/\i=.int .i64 (k:Int)/\ZW w l rs rows k v wr) (fun _ i _=>4-(intOf i).toNat)
   case atStart=>obtain⟨_,_,_,hrl,hinv,_,hkl⟩:=HK.o;exact⟨0,by omega,rfl,fun _=>[],fun _=>[],fun i hi=>absurd hi (by omega),by simp[jA];omega,by simpa[jA]using hinv.m (fun _ _=>trivial)⟩
   case round=>
    obtain⟨k,hk,rfl,W,R,XI,hlen,hinv⟩:=hrel
    rename World=>w3
    by_cases hlt:k<4
    ·obtain⟨a0,_⟩:=mM hinv.2.2.1 k hlt;obtain⟨a2,_⟩:=mM hinv.2.1 k hlt;have eQ:(0:Int)<=(k:Int):=by omega
     have hk4:(k:Int)<4:=by omega
     have hA6:w.heap.size+1+1+1<w3.heap.size:=(bd.1 hinv.2.2.1).1;obtain⟨vW,hvW⟩:=qt (rs (4+k));simp only[hvW]at a0;have XJ:(4+k)%4=k:=by omega
     have OO:=hinv.2.2.2.1 (4+k) (by omega) (by omega);have hlW:lists l (4+k)=cS l (k:Int) true:=by unfold lists;rw[ff (by omega)];congr 1;omega
     have T8:lists l k=cS l (k:Int) false:=by unfold lists;rw[fi hlt]
     have hl8:=fun j=>tO l j;have hf8:=fun j=>Lh hfit j;obtain⟨ZZ,c10,rfl⟩:=ag hinv.2.2.2.2.1;have Ut:=AA w3 vW (lists l (4+k)) (dM (by rw[<-hvW];exact OO) (fun _ _=>dq _)) (da (hl8 _) hl) (hf8 _);have HI:=al (ab XI (ab hlen (ab hinv (ab hvW (ab hlW (ab T8 (ab hl8 (ab hf8 OO))))))));clear XI hlen hinv hvW hlW T8 hl8 hf8 OO XJ;go_wp2_with fail;refine Ut.m ?_;rintro e w4 ⟨s,hs1,hs2,AW,cW,rfl,hW4,lX⟩;have OP:=HI.o.d.1.OM HK.o.q.2.1 (i:=4+k) (by omega) (by omega) (by rw[HI.o.t.1];exact lX);have hsl:s.length<=1000:=by rw[hs1.length_eq];exact da (HI.o.q.d.1 _) hl
     have hjl:(cG s).length<=1000:=da (AJ s) hsl;have hjf:gZ (cG s):=AH (fun x hx=>HI.o.q.t.1 _ x (hs1.mem_iff.1 hx));have Z0:mG w4 (fun _=>True) (.slice AW (cG s).length cW) (cG s):=aS.aU hW4 (lJ _) (by decide) (fun _ _=>trivial);obtain⟨out,hout⟩:=qt (rows++jA W R k);rw[hout];rw[hout]at OP;have aci:out.length<=1000+k*1002000:=by rw[<-hout];exact HI.o.2.1
     have HJ:=al (ab hs1 (ab hs2 (ab hW4 (ab lX (ab OP (ab hjf (ab Z0 hout)))))));clear hs1 hs2 hW4 lX OP hjf Z0 hout Ut;go_wp2_with fail;refine(wX w4 (fun _=>True) _ true _ _ HJ.o.q.d.1 (by omega)).m ?_;rintro e w5 ⟨A5,c5,rfl,iA,fR⟩;obtain⟨C1,hC1⟩:=qt ((cG s).map (s8 (k:Int) true));rw[hC1]at iA⊢;have acG:C1.length<=1000:=by rw[<-hC1];simpa using hjl
     have Z1:eG w5 (fun _=>True) (.slice A5 C1.length c5) C1:=aS.aU iA (cO _) (by decide) (fun _ _=>trivial);have OQ:=HJ.o.q.1.below fR;have hW5:=aY HJ.o.d.1 fR;have hs5:=OQ.2.2.2.2.2.size;have H5:=al (ab hC1 (ab Z1 (ab OQ hW5)));clear hC1 Z1 OQ hW5 iA fR;go_wp2_with (at_builtin;go_loud (refine di _ rfl _ _ 44 rfl w.heap.size 107 i2 _ 5 48 underlying44 SB.o hy0 hy1 hy2 rfl (by decide) (.slice ZZ out.length c10) out.length _ rfl H5.o.d.1.2.2.2.2.1 (fun _=>True) (.slice A5 C1.length c5) (C1.map Cl.cells) rfl H5.o.2.1 (cO _) (qN _) (by simp;omega) (by simp;unfold maxLen;omega) hs5 ?_);intro v6 w6 vg Qr xE;have V3:w6.ownsRow w.heap.size 107 5 v6 (out++C1).length ((out++C1).map Cl.cells).flatten:=(by simpa using vg);obtain⟨Ey,JE⟩: ∃Ey,out++C1=Ey:=⟨_,rfl⟩;rw[JE]at V3;have OS:=H5.o.d.1.append Qr V3;have hW6:=Et H5.o.t H5.o.d.1.2.2.2.2.1 (by decide) Qr;obtain⟨a6,_⟩:=mM OS.2.1 k hlt;have acH:=Qr.size;have acI:Ey.length<=2000+k*1002000:=(by rw[<-JE];simp;omega);have lv:=al JE;have H6:=al (ab OS hW6);clear vg V3 OS hW6 Qr xE JE);have lR:=H6.o.1.2.2.2.1 k (by omega) (by omega);obtain⟨A6,c6,rfl⟩:=ag H6.o.1.2.2.2.2.1;refine(AA w6 (rs k) (lists l k) (dM lR (fun _ _=>dq _)) (da (HI.o.q.d.1 _) hl) (HI.o.q.t.1 _)).m ?_;rintro e w7 ⟨s',ht1,ht2,AR,cR,rfl,hR7,SC⟩;have Uu:=H6.o.1.OM HK.o.q.2.1 (i:=k) (by omega) (by omega) SC;have hs7:s'.length<=1000:=by rw[ht1.length_eq];exact da (HI.o.q.d.1 _) hl
     have hj7:(cG s').length<=1000:=da (AJ s') hs7;have hf7:gZ (cG s'):=AH (fun x hx=>HI.o.q.t.1 _ x (ht1.mem_iff.1 hx));have Z2:mG w7 (fun _=>True) (.slice AR (cG s').length cR) (cG s'):=aS.aU hR7 (lJ _) (by decide) (fun _ _=>trivial);have Z3:=HI.o.d.1.2.2.2.1 k (by omega) (by omega);have Z4:=aT H6.o.2 SC (fun g hg e=>by have h1:=(H6.o.2.lt g hg).1;have h2:=(Z3.lt g e).2;omega);have Uv:mG w7 (fun _=>True) (.slice AW (cG s).length cW) (cG s):=aS.aU Z4 (lJ _) (by decide) (fun _ _=>trivial);have hlw:=sj (cG s') (cG s);have acJ:(cG s').length*((cG s).length+1)<=1000*1001:=Nat.mul_le_mul hj7 (by omega);have H7:=al (ab ht1 (ab ht2 (ab Uu (ab hf7 (ab Z2 Uv)))));clear ht1 ht2 Uu hf7 Z2 Uv hR7 SC lR Z3 Z4;go_wp2_with fail;refine(FO w7 (fun _=>True) _ _ _ _ H7.o.q.1 H7.o.q.2 hj7 hjl H7.o.t.1 HJ.o.q.2.1).m ?_;rintro e w8 ⟨A8,c8,rfl,SD,sL⟩;have V4:mG w8 (fun _=>True) (.slice A8 (bW (cG s') (cG s)).length c8) (bW (cG s') (cG s)):=aS.aU SD (lJ _) (by decide) (fun _ _=>trivial);have Uw:=H7.o.d.1.below sL;obtain⟨X,hX⟩:=qt (bW (cG s') (cG s));rw[hX]at V4 hlw⊢;have hxl:X.length<=1001000:=by omega
     have H8:=al (ab hX (ab V4 Uw));clear hX V4 Uw SD sL hlw;go_wp2_with fail;refine(wX w8 (fun _=>True) _ false _ _ H8.o.2.1 (by omega)).m ?_;rintro e w9 ⟨A9,c9,rfl,Ux,qV⟩;obtain⟨C2,Ex⟩:=qt (X.map (s8 (k:Int) false));rw[Ex]at Ux⊢;have acK:C2.length<=1001000:=by rw[<-Ex];simpa using hxl
     have Z5:eG w9 (fun _=>True) (.slice A9 C2.length c9) C2:=aS.aU Ux (cO _) (by decide) (fun _ _=>trivial);have OT:=H8.o.d.below qV;have cK:=OT.2.2.2.2.2.size;have H9:=al (ab Ex (ab Z5 (ab OT lv.o)));clear Ex Z5 OT Ux qV;go_wp2_with (at_builtin;go_loud (refine di _ rfl _ _ 44 rfl w.heap.size 107 i2 _ 5 48 underlying44 SB.o hy0 hy1 hy2 rfl (by decide) (.slice A6 Ey.length c6) Ey.length _ rfl H9.o.d.1.2.2.2.2.1 (fun _=>True) (.slice A9 C2.length c9) (C2.map Cl.cells) rfl H9.o.2.1 (cO _) (qN _) (by simp;omega) (by simp;unfold maxLen;omega) cK ?_);intro vZ wZ hOZ hgZ acL);go_roundw
     case rel=>
      have abr:wZ.ownsRow w.heap.size 107 5 vZ (Ey++C2).length ((Ey++C2).map Cl.cells).flatten:=by simpa using hOZ
      have Z6:=H9.o.d.1.append hgZ abr;refine⟨k+1,by omega,by go_num,si W k (cG s),si R k X,?_,?_,?_⟩
      ·intro i hi;by_cases e:i=k
       ·subst e;rw[pZ,pZ,<-H8.o.1];exact Ew HC.o.1 (by rw[<-HI.o.q.1];exact HJ.o.1) (by rw[<-HI.o.q.2.1];exact H7.o.1) HJ.o.2.1 H7.o.2.1
       ·rw[nW e,nW e];exact HI.o.1 i (by omega)
      ·rw[AG,<-kt,HJ.o.q.t,H5.o.1,H9.o.1];have:=H9.o.t;rw[<-kt,this];simp;omega
      ·have e:rows++jA (si W k (cG s)) (si R k X) (k+1)=Ey++C2:=by
        rw[AG,<-kt,HJ.o.q.t,H5.o.1,H9.o.1,<-kt,H9.o.t]
       rw[e];exact Z6.m (fun j hj=>⟨⟨by omega,by omega⟩,by omega⟩)
     case measure=>simp[intOf];omega
    ·obtain rfl:k=4:=by omega
     have hform:=AL HC.o.1 HK.o.1 HK.o.2.1 HK.o.d.1 XI;obtain⟨out,hout⟩:=qt (rows++jA W R 4);rw[hout]at hform hinv hlen;obtain⟨AZ,cZ,rfl⟩:=ag hinv.2.2.2.2.1;have hcR:=bK hinv.1;have hfR:=dN hinv.1;have HF:=al (ab hform (ab hinv hout));clear hform hinv hout XI;by_cases h64:64<out.length
     ·go_wp2_with fail;rw[kn];have hh:=db w3 w.heap.size 0 _ _ (.slice none 0 0) HF.o.2.1.1;exact dr (aB rfl _ _ _ _ _ _ _ rfl hh underlying48 rfl (by kernel_rfl)) rfl ⟨HF.o.2.1.2.2.2.2.2.setCell (aE _) _,.inr ⟨sf HC.o.1,out,HF.o.1,.inl ⟨h64,rfl⟩⟩⟩
     ·go_wp2_with fail;rw[kn];have hh:=db w3 w.heap.size 0 _ _ (.slice AZ out.length cZ) HF.o.2.1.1;refine dr (aB rfl _ _ _ _ _ _ _ rfl hh underlying48 rfl (by kernel_rfl)) rfl ⟨HF.o.2.1.2.2.2.2.2.setCell (aE _) _,.inr ⟨sf HC.o.1,out,HF.o.1,.inr ⟨by omega,AZ,cZ,rfl,?_⟩⟩⟩;exact aT HF.o.2.1.2.2.2.2.1 (Only.aN w3 w.heap.size 0 _) (fun g hg e=>by subst e;exact cN HF.o.2.1.2.2.2.2.1 HF.o.2.1.1 (by decide) hg)
end
end Go.Proofs.YtmkofmeojbcakaaGreatDoor
