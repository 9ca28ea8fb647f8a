import Derived.Test.YtagemonojdgbdaaGreatDoorF22
import Derived.Test.YtagemonojdgbdaaGreatDoorF23
import Derived.Test.YtagemonojdgbdaaGreatDoorF24
import Derived.Sort.OwnSorted
import Derived.Sort.KeysCollected
import Derived.Deep.LoopGhost
import Derived.Deep.RegionHeld3
import Derived.StillTailTactics
namespace Go.Proofs.YtagemonojdgbdaaGreatDoor
set_option maxRecDepth 100000
set_option maxHeartbeats 16000000
open Go.RowKit
section
open Go.RowKit Go.Maps Go.WideShapes Go.Sort
def jr(D:DataW Unit)(f:List UInt8->Int):Prop:= ∀k,D.atKey (cL k) (.lit (.int .i64 0))=.lit (.int .i64 (f k))/\(Maps.has D (cL k)=true↔f k≠0)
def Ez(D:DataW Unit)(left:Lit->Bool)(ss:List (List UInt8)):Prop:=ss.Nodup/\ ∀x,x∈ss↔(Maps.has D (cL x)=true/\left (cL x)=false)
theorem Ez.start(D:DataW Unit):Ez D (Maps.has D) []:=⟨List.nodup_nil,fun x=>by cases Maps.has D (cL x)<;>simp⟩
theorem Cz(x y:List UInt8):(cL x).sameKey (cL y)=decide (x=y):=by
 by_cases h:x=y
 ·subst h;simp[cL,Lit.sameKey]
 ·have:cL x≠cL y:=fun e=>h (uK e);unfold cL at this⊢;simp[Lit.sameKey,h]at this⊢;exact this
theorem Ez.step{D:DataW Unit}{left:Lit->Bool}{ss:List (List UInt8)}(h:Ez D left ss){x:List UInt8}{y:DataW Unit}(hlk:left (cL x)=true)(hat: ∀zd,D.atKey (cL x) zd=y):
  Ez D (fun z=>left z&&!z.sameKey (cL x)) (ss++[x]):=by
 have hhas:Maps.has D (cL x)=true:=has_true_of_atKey hat;have hnew:x∉ss:=fun hx=>by have:=((h.2 x).1 hx).2;rw[hlk]at this;cases this
 refine⟨List.nodup_append.2 ⟨h.1,by simp,fun a ha b hb=>by simp at hb;subst hb;exact fun e=>hnew (e▸ha)⟩,fun y=>?_⟩;simp only[Cz];by_cases hy:y=x
 ·subst hy;simp[hhas]
 ·simp[h.2 y,hy]
theorem Tryz.VI:(Tryz.prog.info? 9).map (fun i=>(i.zero,i.size,i.bytes))=some (some (.string ⟨#[]⟩),1,16):=by kernel_rfl
def yn(f:List UInt8->Int)(k:List UInt8):Cl:=⟨f k==2,-1,k,0,0⟩
def VJ(f:List UInt8->Int)(w:World)(e:Ending)(w':World):Prop:=
 ∃ks:List (List UInt8),ks.length<=1000/\ks.Nodup/\(∀k,k∈ks↔f k≠0)/\zl ((ks.mergeSort fun x y=>decide (x<=y)).map (yn f)) w e w'
def Sd(w:World)(b n r:Nat)(D:DataW Unit)(v3:Value)(w':World):Prop:=
 ∃left cnt ss,w'.ranges Tryz.prog 176 (plainElem Tryz.prog 3) b r n D left cnt/\Ez D left ss/\ss.length+cnt<=Maps.size D/\(∀x∈ss,x.length<=maxLen)/\
  w'.ownsRow w.heap.size 9 1 v3 ss.length (ss.map encStr)/\v3≠ .slice none 0 0/\Below w.heap.size w w'
def Sg(w:World)(b n g m cap:Nat)(D:DataW Unit)(f:List UInt8->Int)(ts:List (List UInt8))(k:Nat)(v5:Value)(w':World):Prop:=
 w'.ownsRow w.heap.size 48 5 v5 k (((ts.take k).map (yn f)).map Cl.cells).flatten/\w'.ownsRow w.heap.size 9 1 (.slice (some ⟨g,0,none⟩) m cap) m (ts.map encStr)/\
  w'.ownsMap Tryz.prog 176 (plainElem Tryz.prog 3) b n D/\RowKit.Below w.heap.size w w'
theorem Tryz.QI(w:World):(zeroValue 3).run Tryz.prog w=.ok (.int .i64 0) w:=by kernel_rfl
theorem IP(w:World)(b n:Nat)(D:DataW Unit)(f:List UInt8->Int)(hown:w.ownsMap Tryz.prog 176 (plainElem Tryz.prog 3) b n D)(hf:jr D f)(hsz:Maps.size D<=1000):
  Calls Tryz.prog 68 #[.map (some b)] w (VJ f w):=by
 obtain⟨i0,hi,hz0,hz1,hz2⟩:=eC Tryz.VI;go_enter Tryz.func68,Tryz.ntmps68;go_wp2_with (first|(at_len;refine wpList_len_own _ rfl _ 171 rfl 176 3 Tryz.underlying171 _ b n D rfl hown ?_)|(at_make;refine wpList_make_own _ rfl _ _ 223 rfl w.heap.size 9 i0 (.string ⟨#[]⟩) 1 Tryz.underlying223 hi hz0 hz1 _ _ _ (Maps.size D) rfl rfl rfl (by rw[hz2];omega) (by unfold maxLen;omega) (aq _) ?_;intro w1 QJ hg1)|(at_range;refine wpList_range_own _ rfl _ 171 rfl 176 3 IK Tryz.underlying171 _ b n D rfl (hown.kept hg1 (by simp)) ?_;intro w0 hrg0 hg0 hs0))
 go_frame
 have Ze:=hown.lt
 go_loopw [3] (fun v wr=>Sd w b n w1.heap.size D v wr) (fun _ wr=>wr.rangeLeft b w1.heap.size)
 case atStart=>
  exact⟨_,_,[],hrg0,Ez.start D,by simp,by simp,QJ.kept hg0 (Or.inr (by simp[Value.ownBlock])),by simp,
   ((aw _ _).grown hg1 (aq _) (fun j hj=>by cases hj)).grown hg0 hg1.size (fun j hj=>by cases hj)⟩
 case round=>
  obtain⟨left,cnt,ss,hrg,hC,hcs,hlen,hrow,hnn,hnx⟩:=hrel;go_wp2_with (at_next;refine wpList_next_ranges _ rfl _ rfl 176 IK (plainElem Tryz.prog 3) Cu (Value.int .i64) (fun key kl hk=>by obtain⟨x,hx,_⟩:=oZ hk;exact⟨x,hx⟩) (fun v y hv=>by obtain⟨c,rfl,_⟩:=plainElem_int_inv Tryz.underlying3 hv;exact⟨c,rfl⟩) b w1.heap.size n _ _ _ rfl hrg ?_ ?_)
  ·intro hc0 hl0;rcases hrow.2 with⟨hnil,_⟩|⟨g,cap,cur,rfl,hbase,hb,h1,h2,h3,h4⟩
   ·exact absurd hnil hnn
   have hH:Holds encStr wr g 0 ss.toArray:=holds_of_block hb (by simpa using h4);have hgl:g<wr.heap.size:=(da.1 hb).1;have hc:=Any.slices_Sort_string Tryz.Ox g 0 cap ss wr hH hgl (by omega);change Calls Tryz.prog 115 _ _ _ at hc;have hks: ∀k,k∈ss↔f k≠0:=fun k=>by rw[hC.2 k,hl0];simpa using(hf k).2
   obtain⟨i1,hi1,hy0,hy1,hy2⟩:=eC Tryz.l7;have HH:=al (ab hb (ab h1 (ab h2 (ab h3 (ab hbase (ab hnx (ab hrg.owns (ab hC.1 (ab hks hlen)))))))));clear hb h1 h2 h3 h4 hH hC hl0 hrow hrg hnx hks hrg0 hg0 hs0 QJ hg1 hlen hnn;go_wp2_with fail;refine hc.mono ?_;rintro e w4 ⟨rfl,nn,os,hw4⟩;obtain⟨ts,hts⟩: ∃ts,(ss.mergeSort fun x y=>decide (x<=y))=ts:=⟨_,rfl⟩;have htl:ts.length=ss.length:=by rw[<-hts];simp
   rw[hts]at hw4
   have hrow4:w4.ownsRow w.heap.size 9 1 (.slice (some ⟨g,0,none⟩) ss.length cap) ss.length (ts.map encStr):=by rw[hw4];exact ownsRow_sorted htl HH.out.2.2.2.2.1 HH.out.1 HH.out.2.1 HH.out.2.2.1 HH.out.2.2.2.1
   have hg4:wr.grownBy w4 (some g):=by rw[hw4];exact grownBy_sorted _
   have LL:RowKit.Below w.heap.size w w4:=HH.out.2.2.2.2.2.1.grown hg4 HH.out.2.2.2.2.2.1.size (fun j hj=>by cases hj;exact HH.out.2.2.2.2.1);have QK:w4.ownsMap Tryz.prog 176 (plainElem Tryz.prog 3) b n D:=HH.out.2.2.2.2.2.2.1.kept hg4 (by intro h;injection h with h;have:=HH.out.2.2.2.2.1;omega);have hs4:=LL.size;have H4:=al (ab hrow4 (ab LL (ab QK (ab hts htl))));have hsl:ss.length<=1000:=by omega
   have VK:=al hi1;clear hrow4 LL QK hts htl hg4 hw4 hc hi1 hi;go_wp2_with (at_make;go_loud (refine wpList_make_own _ rfl _ _ 37 rfl w.heap.size 48 i1 _ 5 Tryz.underlying37 VK.out hy0 hy1 _ _ _ ss.length rfl rfl rfl (by rw[hy2];omega) (by unfold maxLen;omega) hs4 ?_);intro w5 VL Zf)
   go_loopw [5,29] (fun v5 i w6=> ∃k,k<=ss.length/\i=.int .i64 (k:Int)/\Sg w b n g ss.length cap D f ts k v5 w6) (fun _ i _=>ss.length-(intOf i).toNat)
   case atStart=>exact⟨0,dj _,rfl,by simpa using VL,H4.out.1.kept Zf (Or.inr (by simp[Value.ownBlock])),H4.out.2.2.1.kept Zf (by simp),H4.out.2.1.grown Zf hs4 (fun j hj=>by cases hj)⟩
   case round=>
    obtain⟨k,hk,rfl,hcl,LM,hmp,hbl⟩:=hrel
    rename World=>w6
    have htl:=H4.out.2.2.2.2;by_cases hlt:k<ss.length
    ·obtain⟨x,hx⟩: ∃x,ts[k]?=some x:=⟨_,ao (by omega)⟩
     have hxs:x∈ss:=by have h:=dd hx;rw[<-H4.out.2.2.2.1]at h;exact List.mem_mergeSort.1 h
     have hcell:w6.cell? ⟨g,k,none⟩=some (.string ⟨x.toArray⟩):=(LM.cellAt k (by omega)).trans (by simp[hx,encStr]);have hkey:=yl (HH.out.2.2.2.2.2.2.2.2.2 x hxs);unfold Cu at hkey;obtain⟨A5,c5,rfl⟩:=ah hcl;have VM:=hcl.alloc (.cells #[.bool (f x==2),.int .i64 (-1),.string ⟨x.toArray⟩,.int .i64 0,.int .i64 0] 48);have hnews:=ef (an w6 (.cells #[.bool (f x==2),.int .i64 (-1),.string ⟨x.toArray⟩,.int .i64 0,.int .i64 0] 48));have Vq:=(hf x).1;have HB:=al (ab hx (ab hcl (ab LM (ab hmp (ab hbl (ab VM hnews))))));have HK:=al hkey;have HF:=al Vq;have bM:=hbl.size;clear hx hcl LM hbl hkey htl VM hnews Vq hmp;go_wp2_with (first|(at_lookup;go_loud (refine wpList_lookup_own_int _ rfl _ _ 171 rfl 176 3 .i64 IK Tryz.underlying171 Tryz.underlying3 (Tryz.QI _) b n D rfl HB.out.2.2.2.1 _ _ rfl HK.out ?_);intro c hat hwc;obtain rfl:c=f x:=(by rw[HF.out]at hat;simpa using hat.symm);clear hat hwc)|(at_builtin;go_loud (refine ew _ rfl _ _ 37 rfl w.heap.size 48 i1 _ 5 48 Tryz.underlying37 VK.out hy0 hy1 hy2 rfl (by decide) (.slice A5 k c5) k _ rfl HB.out.2.2.2.2.2.1 ⟨w6.heap.size,0,none⟩ 1 1 [.bool (f x==2),.int .i64 (-1),.string ⟨x.toArray⟩,.int .i64 0,.int .i64 0] rfl rfl HB.out.2.2.2.2.2.2 (by simp[Value.oneCell']) (by decide) (by unfold maxLen;omega) (by omega) (by simp;omega) _ rfl ?_);intro g2 cap2 w7 hown1 hgrow1 iV p9));go_roundw
     case rel=>
      obtain⟨hx,hcl,LM,hmp,hbl,_,_⟩:=HB.out;refine⟨k+1,by omega,by go_num,?_,?_,?_,?_⟩
      ·have htk:ts.take (k+1)=ts.take k++[x]:=by rw[kt,hx];rfl
       rw[htk];simpa[yn,Cl.cells]using hown1
      ·exact(LM.alloc _).kept hgrow1 (.inr (fun e=>jE LM hcl (by decide) (rfl:Value.ownBlock (.slice (some ⟨g,0,none⟩) ss.length cap)=some g) e.symm))
      ·exact(hmp.alloc _).kept hgrow1 (fun e=>by have:=(hcl.lt b e.symm).1;omega)
      ·exact(hbl.alloc bM _).grown hgrow1 (by simp;omega) (fun j hj=>(hcl.lt j hj).1)
     case measure=>simp[intOf];omega
    ·have hkl:k=ss.length:=by omega
     subst hkl;go_wp2_with fail;go_ret
     rw[gC (by omega)]at hcl;obtain⟨A5,c5,rfl⟩:=ah hcl;obtain⟨_,_,_,_,_,_,_,hnd,hks,_⟩:=HH.out;refine⟨ss,hsl,hnd,hks,A5,c5,?_,?_,hbl⟩
     ·simp
     ·rw[H4.out.2.2.2.1];simpa[htl]using hcl
  ·intro x c kl yd yp w2 cnt2 hkey hlk hv hat hrg2 hlt hg2 hs2 hen;obtain⟨x',ex,rfl,hxl⟩:=oZ hkey;obtain rfl:x=x':=by unfold Cu at ex;simpa using ex
   have hrow2:=hrow.kept hg2 (Or.inr (row_ne_iter hrow hrg).symm);have hrow3:=(hrow2.alloc (.cells #[encStr x] 176)).alloc (.cells #[encStr x] 9);have hnews:=ef (an (w2.alloc (.cells #[encStr x] 176)) (.cells #[encStr x] 9));rw[show(w2.alloc (.cells #[encStr x] 176)).heap.size=w2.heap.size+1 by simp]at hnews;have hsw:=hnx.size;have VO:=hg2.size;have HH:=al (ab hrow3 (ab hnews (ab hrow2 (ab hs2 (ab hsw VO)))));have wC:=al hi;have HC:=al (ab hC (ab hlk (ab hat (ab hrg2 (ab hrg (ab hlen (ab hxl (ab hg2 hnx))))))));clear hs2 hrow3 hnews hsw VO hC hlk hat hlen hkey hv;unfold Cu at hen⊢;unfold encStr at HH;go_wp2_with (at_builtin;go_loud (refine ew _ rfl _ _ 223 rfl w.heap.size 9 i0 _ 1 16 Tryz.underlying223 wC.out hz0 hz1 hz2 rfl (by decide) u3 ss.length _ rfl HH.out.1 ⟨w2.heap.size+1,0,none⟩ 1 1 [.string ⟨x.toArray⟩] rfl rfl HH.out.2.1 (by simp[Value.oneCell']) (by decide) (by unfold maxLen;omega) (by omega) (by have:=HH.out.2.2.2.2;simp;omega) _ rfl ?_);intro g2 cap w3 hown1 hgrow1 iV p9);have hr2:=(HC.out.2.2.2.1.alloc (.cells #[.string ⟨x.toArray⟩] 176)).alloc (.cells #[.string ⟨x.toArray⟩] 9);have hrg3:=hr2.kept hgrow1 (row_ne_low HH.out.2.2.1 Ze) (row_ne_iter HH.out.1 hr2);refine⟨⟨_,cnt2,ss++[x],hrg3,HC.out.1.step HC.out.2.1 HC.out.2.2.1,by simp;omega,?_,by simpa[encStr]using hown1,by simp,?_⟩,by rw[hrg3.left_eq,HC.out.2.2.2.2.1.left_eq];exact hlt⟩
   ·intro y hy;rcases dy.1 hy with hy|hy
    ·exact HC.out.2.2.2.2.2.1 y hy
    ·simp at hy;subst hy;exact HC.out.2.2.2.2.2.2.1
   ·have hw:=HH.out.2.2.2.2;have tF:=hg1.size;exact((((HC.out.2.2.2.2.2.2.2.2.grown HC.out.2.2.2.2.2.2.2.1 hw.1 (fun j hj=>by cases hj;exact tF)).alloc (by omega) _).alloc (by simp;omega) _).grown hgrow1 (by simp;omega) (fun j hj=>(HH.out.2.2.1.lt j hj).1))
end
section
open Go.RowKit Go.Maps Go.WideShapes
theorem uO{w w':World}(h:Below w.heap.size w w'):w.grownBy w' none:=⟨h.os,h.tape,h.output,h.size,fun k hk _=>h.block k hk⟩
def fA(w:World)(A:Nat)(f:Nat->Value):Prop:=w.heap[A]?=some (.cells #[f 0,f 1,f 2,f 3] 173 (0,0))
def EA(w:World)(base:Nat)(rs:Nat->Value)(ls:Nat->List (Int×Int)):Prop:=
 (∀j,j<8->w.ownsRow base 178 2 (rs j) (ls j).length ((ls j).map kX).flatten)/\ ∀i j,i<8->j<8->i≠j-> ∀g,(rs i).ownBlock=some g->(rs j).ownBlock≠some g
def lists(l:List Cl)(j:Nat):List (Int×Int):=if j<4 then cG l (j:Int) false else cG l ((j-4:Nat):Int) true
def gV(w:World)(D:DataW Unit)(n:Nat)(rs:Nat->Value)(ls:Nat->List (Int×Int))(wr:World):Prop:=
 wr.ownsMap Tryz.prog 176 (plainElem Tryz.prog 3) (w.heap.size+1) n D/\wr.heap[w.heap.size]?=some (.cells #[.slice none 0 0] 87 (0,0))/\
  fA wr (w.heap.size+1+1) rs/\fA wr (w.heap.size+1+1+1) (fun j=>rs (4+j))/\EA wr (w.heap.size+1+1+1+1) rs ls/\Below w.heap.size w wr
def LN(w:World)(l:List Cl)(k:Nat)(wr:World):Prop:=
 ∃(D:DataW Unit) (rs:Nat->Value),jr D (fun key=>eJ (l.take k) (-1,key,0))/\gV w D k rs (lists (l.take k)) wr
section
variable{w wr w':World}{D D':DataW Unit}{n n':Nat}{rs:Nat->Value}{ls Vu:Nat->List (Int×Int)}
theorem gV.below(h:gV w D n rs ls wr)(hb:Below wr.heap.size wr w'):gV w D n rs ls w':=by
 obtain⟨h1,h2,h3,h4,h5,h6⟩:=h;have hl:=h1.lt;refine⟨h1.kept (uO hb) (by simp),?_,?_,?_,⟨fun j hj=>aX (h5.1 j hj) hb,h5.2⟩,h6.trans (hb.mono h6.size)⟩
 ·rw[hb.block _ (by omega)];exact h2
 ·unfold fA;rw[hb.block _ (Array.getElem?_eq_some_iff.1 h3).1];exact h3
 ·unfold fA;rw[hb.block _ (Array.getElem?_eq_some_iff.1 h4).1];exact h4
theorem gV.map(h:gV w D n rs ls wr)(hg:wr.grownBy w' (some (w.heap.size+1)))(hm:w'.ownsMap Tryz.prog 176 (plainElem Tryz.prog 3) (w.heap.size+1) n' D'):gV w D' n' rs ls w':=by
 obtain⟨h1,h2,h3,h4,h5,h6⟩:=h;have hl:=h1.lt;have l3:=(da.1 h3).1;have l4:=(da.1 h4).1;refine⟨hm,?_,?_,?_,⟨fun j hj=>(h5.1 j hj).kept hg (.inr ?_),h5.2⟩,h6.grown hg h6.size (fun j hj=>by cases hj;omega)⟩
 ·rw[hg.block _ (by omega) (by simp)];exact h2
 ·unfold fA;rw[hg.block _ l3 (by intro e;injection e with e;omega)];exact h3
 ·unfold fA;rw[hg.block _ l4 (by intro e;injection e with e;omega)];exact h4
 ·intro e;have:=(h5.1 j hj).lt _ e;omega
theorem gV.lists(h:gV w D n rs ls wr)(he: ∀j,j<8->Vu j=ls j):gV w D n rs Vu wr:=by obtain⟨h1,h2,h3,h4,h5,h6⟩:=h;exact⟨h1,h2,h3,h4,⟨fun j hj=>by rw[he j hj];exact h5.1 j hj,h5.2⟩,h6⟩
theorem gV.more(h:gV w D n rs ls wr)(hn:n<=n'):gV w D n' rs ls wr:=⟨h.1.mono hn,h.2⟩
end
def upd{α:Type}(f:Nat->α)(i:Nat)(v:α)(j:Nat):α:=if j=i then v else f j
theorem EA.append{w w1:World}{base:Nat}{rs:Nat->Value}{ls:Nat->List (Int×Int)}(h:EA w base rs ls){i:Nat}(hi:i<8){v':Value}{x:Int×Int}(hg:w.grownBy w1 (rs i).ownBlock)
  (hown:w1.ownsRow base 178 2 v' ((ls i).length+1) (((ls i)++[x]).map kX).flatten) (hat:v'.ownBlock=(rs i).ownBlock\/v'.ownBlock=some w.heap.size):EA w1 base (upd rs i v') (upd ls i (ls i++[x])):=by
 refine⟨fun j hj=>?_,fun a b ha hb hab g JT hgb=>?_⟩
 ·unfold upd;by_cases e:j=i
  ·subst e;simpa using hown
  ·simp only[e,if_false];refine(h.1 j hj).kept hg ?_
   cases hb:(rs j).ownBlock with
   |none=>exact .inl rfl
   |some g=>exact .inr (fun e2=>h.2 j i hj hi e g hb e2.symm)
 ·unfold upd at JT hgb;by_cases e1:a=i
  ·subst e1;have e2:b≠a:=Ne.symm hab;simp only[if_true,e2,if_false]at JT hgb;have hlt:=((h.1 b hb).lt g hgb).2;rcases hat with hat|hat
   ·rw[hat]at JT;exact h.2 a b ha hb hab g JT hgb
   ·rw[hat]at JT;injection JT with JT;omega
  ·by_cases e2:b=i
   ·subst e2;simp only[e1,if_true,if_false]at JT hgb;have hlt:=((h.1 a ha).lt g JT).2;rcases hat with hat|hat
    ·rw[hat]at hgb;exact h.2 a b ha hb hab g JT hgb
    ·rw[hat]at hgb;injection hgb with hgb;omega
   ·simp only[e1,e2,if_false]at JT hgb;exact h.2 a b ha hb hab g JT hgb
theorem EA.set{w:World}{base:Nat}{rs:Nat->Value}{ls:Nat->List (Int×Int)}(h:EA w base rs ls){A j:Nat}(hA:A<base)(u:Value):EA (w.setCell ⟨A,j,none⟩ u) base rs ls:=
 ⟨fun i hi=>bu (h.1 i hi) (Only.bp w A j u) (fun g hg e=>by have:=((h.1 i hi).lt g hg).1;omega),h.2⟩
theorem fA.set{w:World}{A:Nat}{f:Nat->Value}(h:fA w A f){j:Nat}(hj:j<4)(u:Value):fA (w.setCell ⟨A,j,none⟩ u) A (upd f j u):=by
 have h1:=dr w A j _ _ u h;unfold fA;have:j=0\/j=1\/j=2\/j=3:=by omega
 rcases this with rfl|rfl|rfl|rfl<;>simpa[upd]using h1
theorem fA.other{w w':World}{A:Nat}{f g:Nat->Value}(h:fA w A f)(hb:w'.heap[A]?=w.heap[A]?)(he: ∀j,j<4->g j=f j):fA w' A g:=by unfold fA at *;rw[hb,h,he 0 (by omega),he 1 (by omega),he 2 (by omega),he 3 (by omega)]
theorem gV.append{w wr w1:World}{D:DataW Unit}{n:Nat}{rs:Nat->Value}{ls:Nat->List (Int×Int)}(h:gV w D n rs ls wr){i:Nat}(hi:i<8){v':Value}{x:Int×Int}(hg:wr.grownBy w1 (rs i).ownBlock)
  (hown:w1.ownsRow (w.heap.size+1+1+1+1) 178 2 v' ((ls i).length+1) (((ls i)++[x]).map kX).flatten) (hat:v'.ownBlock=(rs i).ownBlock\/v'.ownBlock=some wr.heap.size)
  {A j:Nat} (hA:(i<4/\A=w.heap.size+1+1/\j=i)\/(4<=i/\A=w.heap.size+1+1+1/\i=4+j)):
  gV w D n (upd rs i v') (upd ls i (ls i++[x])) (w1.setCell ⟨A,j,none⟩ v'):=by
 obtain⟨h1,h2,h3,h4,h5,h6⟩:=h;have hl:=h1.lt;have l3:=(da.1 h3).1;have l4:=(da.1 h4).1;have hno: ∀b,b<w.heap.size+1+1+1+1->some b≠(rs i).ownBlock:=fun b hb e=>by have:=((h5.1 i hi).lt b e.symm).1;omega
 have hAb:A<w.heap.size+1+1+1+1/\w.heap.size+1<A:=by omega
 have LO: ∀b,b≠A->(w1.setCell ⟨A,j,none⟩ v').heap[b]?=w1.heap[b]?:=fun b hb=>Below.heap_setCell _ _ _ _ hb;have o8:=(h5.append hi hg hown hat).set (A:=A) (j:=j) hAb.1 v';refine⟨(h1.kept hg (hno _ (by omega))).setCell (by simp;omega) _,?_,?_,?_,o8,?_⟩
 ·rw[LO _ (by omega),hg.block _ (by omega) (hno _ (by omega))];exact h2
 ·rcases hA with⟨e1,rfl,rfl⟩|⟨e1,rfl,rfl⟩
  ·have h3':fA w1 (w.heap.size+1+1) rs:=h3.other (hg.block _ l3 (hno _ (by omega))) (fun _ _=>rfl);exact h3'.set e1 v'
  ·refine h3.other ?_ (fun a ha=>?_)
   ·rw[LO _ (by omega),hg.block _ l3 (hno _ (by omega))]
   ·unfold upd;rw[ff (by omega)]
 ·rcases hA with⟨e1,rfl,rfl⟩|⟨e1,rfl,rfl⟩
  ·refine h4.other ?_ (fun a ha=>?_)
   ·rw[LO _ (by omega),hg.block _ l4 (hno _ (by omega))]
   ·unfold upd;rw[ff (by omega)]
  ·have h4':fA w1 (w.heap.size+1+1+1) (fun j=>rs (4+j)):=h4.other (hg.block _ l4 (hno _ (by omega))) (fun _ _=>rfl);have:=h4'.set (j:=j) (by omega) v';refine this.other rfl (fun a ha=>?_);unfold upd;by_cases e:a=j
   ·subst e;simp
   ·rw[ff (by omega),ff e]
 ·exact(h6.grown hg h6.size (fun b hb=>by have:=((h5.1 i hi).lt b hb).1;omega)).setCell (by simp;omega) _
theorem jr.put{D:DataW Unit}{f g:List UInt8->Int}{k:List UInt8}{v:Int}(h:jr D f)(hm:IsMap D)(hv:v≠0)(hs:g k=v)(ho: ∀k',k'≠k->g k'=f k'):jr (D.put (cL k) (.lit (.int .i64 v))) g:=by
 intro k';by_cases e:k'=k
 ·subst e;have hk:WideAt.IsKeyLit (cL k'):=by unfold cL;exact trivial
  rw[atKey_put_same hm hk,has_put_same hm hk,hs];simp[hv]
 ·have hne:cL k'≠cL k:=fun h=>e (uK h);rw[atKey_put_other hne,has_put_other hne,ho k' e];exact h k'
theorem jr.same{D:DataW Unit}{f g:List UInt8->Int}(h:jr D f)(e: ∀k,g k=f k):jr D g:=fun k=>by rw[e k];exact h k
def pd(l:List Cl):Int:=match l.find? (fun c=>BS c !=0)with|some c=>BS c|none=>0
def gH(l out:List Cl):Prop:=Gx out/\ ∀t,eJ out t=eJ l t
def QL(n:Int):Ending:=.returned (.tuple #[.agg #[.slice none 0 0],.int .i64 n])
def LP(l:List Cl)(w:World)(e:Ending)(w':World):Prop:=
 Below w.heap.size w w'/\((pd l≠0/\e=QL (pd l))\/(pd l=0/\ ∃out,gH l out/\((64<out.length/\e=QL 23)\/
  (out.length<=64/\ ∃A c,e=.returned (.tuple #[.agg #[.slice A out.length c],.int .i64 0])/\w'.ownsRow w.heap.size 48 5 (.slice A out.length c) out.length (out.map Cl.cells).flatten))))
theorem lI{w:World}{A:Nat}{f:Nat->Value}(h:fA w A f): ∀j,j<4->w.cell? ⟨A,j,none⟩=some (f j)/\w.frozen? ⟨A,j,none⟩=false:=by
 intro j hj;have:j=0\/j=1\/j=2\/j=3:=by omega
 rcases this with rfl|rfl|rfl|rfl<;>simp[World.cell?,World.frozen?,(show w.heap[A]?=some (.cells #[f 0,f 1,f 2,f 3] 173 (0,0))from h)]
theorem EB{w:World}{b:Nat}{v0 v1 v2 v3 v4:Value}{t:TypeId}(h:w.heap[b]?=some (.cells #[v0,v1,v2,v3,v4] t (0,0))):
  w.cell? ⟨b,0,none⟩=some v0/\w.cell? ⟨b,1,none⟩=some v1/\w.cell? ⟨b,2,none⟩=some v2/\w.cell? ⟨b,3,none⟩=some v3/\w.cell? ⟨b,4,none⟩=some v4:=by
 simp[World.cell?,h]
theorem uP{α:Type}{p:α->Bool}: ∀{l:List α} {k:Nat} {x:α},(∀c∈l.take k,p c=false)->l[k]?=some x->p x=true->l.find? p=some x
 |[],_,_,_,h,_=>by simp at h
 |y::l,0,x,_,h,hp=>by simp at h;subst h;simp[hp]
 |y::l,k+1,x,ha,h,hp=>by have hy:=ha y (by simp);rw[List.find?_cons,hy];exact uP (k:=k) (fun c hc=>ha c (by rw[List.take_succ_cons];exact List.mem_cons_of_mem _ hc)) (by simpa using h) hp
theorem LQ{l:List Cl}{k:Nat}{x:Cl}(ha: ∀c∈l.take k,Ok c)(hx:l[k]?=some x)(he:BS x≠0):pd l=BS x:=by unfold pd;rw[uP (k:=k) (x:=x) (fun c hc=>by have:BS c=0:=ha c hc;simp[this]) hx (by simpa using he)]
theorem uQ{l:List Cl}(ha: ∀c∈l,Ok c):pd l=0:=by unfold pd;rw[List.find?_eq_none.2 (fun c hc=>by have:BS c=0:=ha c hc;simp[this])]
theorem og{l:List Cl}{k:Nat}{x:Cl}(ha: ∀c∈l.take k,Ok c)(hx:l[k]?=some x)(h:Ok x): ∀c∈l.take (k+1),Ok c:=by
 rw[dH hx];intro c hc;rcases dy.1 hc with hc|hc
 ·exact ha c hc
 ·simp at hc;subst hc;exact h
theorem yo{l:List Cl}{x:Cl}(hx:x.aK= -1): ∀j,j<8->lists (l++[x]) j=lists l j:=by
 intro j _;unfold lists cG;have h1: ∀m:Nat,¬x.aK=(m:Int):=fun m=>by omega
 split<;>simp[h1]
theorem IQ{l:List Cl}{x:Cl}{j:Nat}(hx:x.aK=(j:Int))(hj:j<4): ∀i,i<8->lists (l++[x]) i=upd (lists l) (if x.wr then 4+j else j) (lists l (if x.wr then 4+j else j)++[(x.lo,x.hi)]) i:=by
 intro i hi;unfold lists cG upd
 cases hw:x.wr with
 |true=>
  by_cases h4:i<4
  ·have hne:i≠4+j:=by omega
   simp[hw,h4,hne]
  ·by_cases e:i=4+j
   ·subst e;have e2:4+j-4=j:=by omega
    simp only[h4,if_false,if_true,e2];simp[hw,hx]
   ·have:((j:Int)==((i-4:Nat):Int))=false:=by simp;omega
    simp[hw,h4,e,hx,this]
 |false=>
  by_cases h4:i<4
  ·by_cases e:i=j
   ·subst e;simp[hw,hx,hj]
   ·have:((j:Int)==(i:Int))=false:=by simp;omega
    simp[hw,h4,e,hx,this]
  ·have hne:i≠j:=by omega
   simp[hw,h4,hne]
theorem rB(l:List Cl)(j:Nat):(lists l j).length<=l.length:=by unfold lists cG;split<;>simp[List.length_filter_le]
theorem bz{P:Program}{md:Region.Mode}{l:List Oper}{Q:Exit->Act->World->Prop}{S:World->Prop}{i:Nat}{oi:Oper}{v:Value}{fuel:Nat}{listed:Array Bool}{a:Act}{w:World}(hi:l[i]?=some oi)
  (hs:Region.noSelect l.toArray=true) (hf:Region.free md l.toArray listed i=true) (hr:(Region.ready md l.toArray listed).contains i=true)
  (hQ: ∀c a w,Q (.panic c) (a.put oi.dst v) w->Q (.panic c) a w) (hw:Region.wanted oi (yielded l.toArray a.tmps)=true) (hy: ∀w,S w->(execOp a.eval oi).run P w=.ok (.value v) w) (hS:S w)
  (h:wpAnyH P md l.toArray Q S fuel (listed.setIfInBounds i true) (a.put oi.dst v) w):wpAnyH P md l.toArray Q S (fuel+1) listed a w:=
 wpAnyH_take (by simpa using hi) hs hf hr hQ (.inl ⟨hw,hy⟩) hS h
theorem cY{P:Program}{md:Region.Mode}{l:List Oper}{Q:Exit->Act->World->Prop}{S:World->Prop}{fuel:Nat}{listed:Array Bool}{a:Act}{w:World}{i:Nat}{o:Oper}{rs:List Nat}(ho:l[i]?=some o)
  (h: ∀K':Act->World->Prop,Shut (∀a w,S w->(S w->wpAnyH P md l.toArray Q S fuel (listed.setIfInBounds i true) a w)->K' a w)->if Region.wanted o (yielded l.toArray a.tmps)=true then Oper.wp P o a w K' Q else K' (a.put o.dst undef) w)
  (hs:AllReadyH P md l.toArray Q S fuel listed a w rs):AllReadyH P md l.toArray Q S fuel listed a w (i::rs):=AllReadyH.cons (by simpa using ho) h hs
theorem jt{w2 X w3:World}{o:Obj}{row:Option Nat}(hg:X.grownBy w3 row)(hX:X.heap=(w2.alloc o).heap){A j:Nat}{v:Value}(hc:w2.cell? ⟨A,j,none⟩=some v)(hf:w2.frozen? ⟨A,j,none⟩=false)(hne:some A≠row):
  w3.cell? ⟨A,j,none⟩=some v/\w3.frozen? ⟨A,j,none⟩=false:=by
 have hlt:=aE w2 _ hc
 have TS:w3.heap[A]?=w2.heap[A]?:=by rw[hg.block A (by rw[hX];simp;exact Nat.lt_succ_of_lt hlt) hne,hX];exact Below.heap_alloc _ _ _ hlt
 exact⟨(World.cell?_of_block TS).trans hc,(World.frozen?_of_block TS).trans hf⟩
theorem tj{l:List Cl}{x:Cl}(h:x.aK= -1)(h0:x.lo=0)(h1:x.hi=0)(k:List UInt8):eJ (l++[x]) (-1,k,0)=if k=x.key then(if x.wr=true then 2 else max (eJ l (-1,k,0)) 1)else eJ l (-1,k,0):=by
 rw[Cr];by_cases e:k=x.key
 ·have:x.has (-1,k,0):=⟨h,e.symm,by simp only;omega,by simp only;omega⟩;rw[fi this,fi e]
 ·have: ¬x.has (-1,k,0):=fun hh=>e hh.2.1.symm;rw[ff this,ff e]
theorem EC{l:List Cl}{x:Cl}(h:0<=x.aK)(k:List UInt8):eJ (l++[x]) (-1,k,0)=eJ l (-1,k,0):=by rw[Cr,ff (fun hh=>by have:=hh.1;simp only at this;omega)]
theorem CA{w w':World}{base base':Nat}{e e':TypeId}{size size' n n':Nat}{v v':Value}{xs xs':List Value}(h:w.ownsRow base e size v n xs)(h':w.ownsRow base' e' size' v' n' xs')(hne:e≠e')(hg:w.grownBy w' v'.ownBlock):w'.ownsRow base e size v n xs:=by
 refine h.kept hg ?_
 cases hb:v.ownBlock with
 |none=>exact .inl rfl
 |some g=>exact .inr (fun e2=>jE h h' hne hb e2.symm)
def iZ(W R:Int->List (Int×Int)):Nat->List Cl
 |0=>[]
 |n+1=>iZ W R n++sG W R (n:Int)
theorem uR{W R W' R':Int->List (Int×Int)}: ∀{k:Nat},(∀i:Nat,i<k->W i=W' i/\R i=R' i)->iZ W R k=iZ W' R' k
 |0,_=>rfl
 |k+1,h=>by unfold iZ sG;rw[uR (fun i hi=>h i (by omega)),(h k (by omega)).1,(h k (by omega)).2]
def qw(W:Int->List (Int×Int))(k:Nat)(x:List (Int×Int))(i:Int):List (Int×Int):=if i=(k:Int)then x else W i
theorem oh{W:Int->List (Int×Int)}{k:Nat}{x:List (Int×Int)}:qw W k x (k:Int)=x:=by simp[qw]
theorem mr{W:Int->List (Int×Int)}{k i:Nat}{x:List (Int×Int)}(h:i≠k):qw W k x (i:Int)=W i:=by unfold qw;rw[ff (by omega)]
theorem yq(W R:Int->List (Int×Int))(k:Nat)(x y:List (Int×Int)):iZ (qw W k x) (qw R k y) (k+1)=iZ W R k++(x.map (qZ (k:Int) true)++y.map (qZ (k:Int) false)):=by have h:iZ (qw W k x) (qw R k y) k=iZ W R k:=uR (fun i hi=>⟨mr (by omega),mr (by omega)⟩);show iZ (qw W k x) (qw R k y) k++sG _ _ _=_;rw[h];unfold sG;rw[oh,oh]
theorem CB(ks:List (Bool×List UInt8))(W R:Int->List (Int×Int)):eZ ks W R=ks.map wQ++iZ W R 4:=by unfold eZ iZ iZ iZ iZ iZ;simp
def Gy(l:List Cl)(i:Int)(W R:List (Int×Int)):Prop:=(cy W/\ ∀n,ki W n↔ki (cG l i true) n)/\cy R/\ ∀n,ki R n↔ki (cG l i false) n/\ ¬ki W n
def Inv(w:World)(rs:Nat->Value)(ls:Nat->List (Int×Int))(out:List Cl)(v10:Value)(P:Nat->Prop)(wr:World):Prop:=
 wr.heap[w.heap.size]?=some (.cells #[.slice none 0 0] 87 (0,0))/\fA wr (w.heap.size+1+1) rs/\fA wr (w.heap.size+1+1+1) (fun j=>rs (4+j))/\
  (∀j,j<8->P j->wr.ownsRow (w.heap.size+1+1+1+1) 178 2 (rs j) (ls j).length ((ls j).map kX).flatten)/\wr.ownsRow w.heap.size 48 5 v10 out.length (out.map Cl.cells).flatten/\Below w.heap.size w wr
def VP(rs:Nat->Value):Prop:= ∀i j,i<8->j<8->i≠j-> ∀g,(rs i).ownBlock=some g->(rs j).ownBlock≠some g
section
variable{w wr w':World}{rs:Nat->Value}{ls:Nat->List (Int×Int)}{out out':List Cl}{v10 v':Value}{P P':Nat->Prop}
theorem Inv.below(h:Inv w rs ls out v10 P wr)(hb:Below wr.heap.size wr w'):Inv w rs ls out v10 P w':=by
 obtain⟨h1,h2,h3,h4,h5,h6⟩:=h;refine⟨?_,?_,?_,fun j hj hp=>aX (h4 j hj hp) hb,aX h5 hb,h6.trans (hb.mono h6.size)⟩
 ·rw[hb.block _ (Array.getElem?_eq_some_iff.1 h1).1];exact h1
 ·unfold fA;rw[hb.block _ (Array.getElem?_eq_some_iff.1 h2).1];exact h2
 ·unfold fA;rw[hb.block _ (Array.getElem?_eq_some_iff.1 h3).1];exact h3
theorem Inv.mono(h:Inv w rs ls out v10 P wr)(hp: ∀j,P' j->P j):Inv w rs ls out v10 P' wr:=⟨h.1,h.2.1,h.2.2.1,fun j hj h'=>h.2.2.2.1 j hj (hp j h'),h.2.2.2.2⟩
theorem Inv.LR(h:Inv w rs ls out v10 P wr)(hd:VP rs){i:Nat}(hi:i<8)(hp:P i)(ho:Only (fun b=>(rs i).ownBlock=some b) wr w'):Inv w rs ls out v10 (fun j=>P j/\j≠i) w':=by
 obtain⟨h1,h2,h3,h4,h5,h6⟩:=h;have hri:=h4 i hi hp;have hlo: ∀b,b<w.heap.size+1+1+1+1-> ¬(rs i).ownBlock=some b:=fun b hb e=>by have:=(hri.lt b e).1;omega
 refine⟨ho.heap h1 (hlo _ (by omega)),ho.heap h2 (hlo _ (by omega)),ho.heap h3 (hlo _ (by omega)),fun j hj hpj=>bu (h4 j hj hpj.1) ho (fun g hg e=>hd j i hj hi hpj.2 g hg e),bu h5 ho (fun g hg e=>jE hri h5 (by decide) e hg),?_⟩;exact h6.trans (ho.aG h6.size (fun k hk=>hlo k (by omega)))
theorem Inv.append(h:Inv w rs ls out v10 P wr)(hg:wr.grownBy w' v10.ownBlock)(ho:w'.ownsRow w.heap.size 48 5 v' out'.length (out'.map Cl.cells).flatten):Inv w rs ls out' v' P w':=by
 obtain⟨h1,h2,h3,h4,h5,h6⟩:=h;have hne: ∀{b:Nat} {cs:Array Value} {t:TypeId} {fr:Nat×Nat},wr.heap[b]?=some (.cells cs t fr)->(48:TypeId)≠t->w'.heap[b]?=wr.heap[b]?:=fun{b cs t fr} hb ht=>hg.block _ (da.1 hb).1 (fun e=>eD h5 hb ht e.symm);refine⟨(hne h1 (by decide)).trans h1,(hne h2 (by decide)).trans h2,(hne h3 (by decide)).trans h3,fun j hj hp=>?_,ho,h6.grown hg h6.size (fun j hj=>(h5.lt j hj).1)⟩;refine(h4 j hj hp).kept hg ?_
 cases hb:(rs j).ownBlock with
 |none=>exact .inl rfl
 |some g=>exact .inr (fun e=>jE (h4 j hj hp) h5 (by decide) hb e.symm)
end
theorem yr{s:List (Int×Int)}(h:gF s):gF (cw s):=yg (fun _ h=>by simp at h) h
theorem yt(s:List (Int×Int)):(cw s).length<=s.length:=by have:=yh (l:=s) (out:=[]);simpa[cw]using this
theorem yu: ∀(os:List (Int×Int)) (s:Int×Int),(ej s os).length<=os.length+1
 |[],s=>by simp[ej]
 |o::os,s=>by
  unfold ej;split
  ·simp
  ·have:=yu os (o.2+1,s.2);split<;>split<;>simp<;>omega
theorem CC(lo:Int)(os:List (Int×Int)):(cF lo os).length<=os.length:=by unfold cF;exact List.IsSuffix.length_le (List.dropWhile_suffix _)
theorem qx: ∀(l os:List (Int×Int)),(bJ l os).length<=l.length*(os.length+1)
 |[],os=>by simp[bJ]
 |s::l,os=>by unfold bJ;have h1:=yu (cF s.1 os) s;have h2:=CC s.1 os;have h3:=qx l (cF s.1 os);have h4:l.length*((cF s.1 os).length+1)<=l.length*(os.length+1):=Nat.mul_le_mul_left _ (by omega);rw[gk,iS,kh];omega
theorem IU{l:List Cl}(h: ∀c∈l,c.fits)(j:Nat):gF (lists l j):=by
 intro x hx
 have: ∃i b,x∈cG l i b:=by
  unfold lists at hx;split at hx
  ·exact⟨_,_,hx⟩
  ·exact⟨_,_,hx⟩
 obtain⟨i,b,hx⟩:=this;obtain⟨c,hc,_,_,rfl⟩:=kO.1 hx;exact⟨(h c hc).2.1,(h c hc).2.2.1⟩
theorem CD{l:List Cl}(hl: ∀c∈l,Ok c){i:Int}{s s':List (Int×Int)}(hs:s.Perm (cG l i true))(hs':s'.Perm (cG l i false))(h1:jU s)(h2:jU s'):Gy l i (cw s) (bJ (cw s') (cw s)):=by have p1:rA s:=fun x hx=>nu hl i true x (hs.mem_iff.1 hx);have p2:rA s':=fun x hx=>nu hl i false x (hs'.mem_iff.1 hx);obtain⟨n1,m1⟩:=uI p1 h1;obtain⟨n2,m2⟩:=uI p2 h2;obtain⟨n3,m3,_⟩:=oX n2 n1;exact⟨⟨n1,fun n=>(m1 n).trans (Cq hs n)⟩,n3,fun n=>by rw[m3 n,m2 n,Cq hs' n]⟩
theorem wU{ks:List (List UInt8)}(hn:ks.Nodup):(ks.mergeSort fun x y=>decide (x<=y)).Pairwise (· < ·):=by
 have h1:=List.pairwise_mergeSort (le:=fun x y:List UInt8=>decide (x<=y)) (fun a b c h h'=>by simp at *;exact List.le_trans h h') (fun a b=>by simp;exact List.le_total a b) ks;have h2:(ks.mergeSort fun x y=>decide (x<=y)).Nodup:=(List.mergeSort_perm ks _).nodup_iff.2 hn;refine(h1.and h2).imp ?_;rintro a b ⟨h,hne⟩;simp at h;rcases Decidable.em (a<b)with h1|h1
 ·exact h1
 ·exact absurd (List.le_antisymm h (List.not_lt.1 h1)) hne
theorem yw{l:List Cl}(hl: ∀c∈l,Ok c){ks:List (List UInt8)}(hn:ks.Nodup)(hks: ∀k,k∈ks↔eJ l (-1,k,0)≠0){rows:List Cl}(hr:(ks.mergeSort fun x y=>decide (x<=y)).map (yn fun key=>eJ l (-1,key,0))=rows)
  {W R:Int->List (Int×Int)} (TT: ∀i:Nat,i<4->Gy l i (W i) (R i)):gH l (rows++iZ W R 4):=by
 have e:rows++iZ W R 4=eZ ((ks.mergeSort fun x y=>decide (x<=y)).map fun k=>(eJ l (-1,k,0)==2,k)) W R:=by rw[CB,<-hr,List.map_map];rfl
 rw[e]
 have VQ: ∀i:Int,0<=i->i<4->Gy l i (W i) (R i):=fun i h0 h4=>by obtain⟨n,rfl⟩: ∃n:Nat,i=(n:Int):=⟨i.toNat,by omega⟩;exact TT n (by omega)
 refine O3 hl ?_ ?_ ?_ (fun i h0 h4=>(VQ i h0 h4).1) (fun i h0 h4=>(VQ i h0 h4).2)
 ·rw[List.pairwise_map];exact wU hn
 ·intro k;have hb:=ij l (-1,k,0);constructor
  ·rintro⟨b,hb'⟩;obtain⟨k',hk',e⟩:=ep.1 hb';injection e with _ e;subst e;have:=(hks _).1 (List.mem_mergeSort.1 hk');omega
  ·intro h;exact⟨_,ep.2 ⟨k,List.mem_mergeSort.2 ((hks k).2 (by omega)),rfl⟩⟩
 ·intro k;constructor
  ·intro hb';obtain⟨k',hk',e⟩:=ep.1 hb';injection e with e1 e;subst e;simpa using e1
  ·intro h;refine ep.2 ⟨k,List.mem_mergeSort.2 ((hks k).2 (by omega)),?_⟩;rw[h];rfl
theorem ED(w:World)(l:List Cl):LN w l 0 ((((w.alloc (.cells #[.slice none 0 0] 87)).alloc (.map #[] 0)).alloc (.cells #[.slice none 0 0,.slice none 0 0,.slice none 0 0,.slice none 0 0] 173)).alloc (.cells #[.slice none 0 0,.slice none 0 0,.slice none 0 0,.slice none 0 0] 173)):=by
 refine⟨.map [],fun _=>.slice none 0 0,?_,?_,?_,?_,?_,⟨?_,?_⟩,?_⟩
 ·intro k;simp[O1,DataW.atKey,Maps.has]
 ·have h:=World.ownsMap_made (H:=Unit) (w.alloc (.cells #[.slice none 0 0] 87)) Tryz.prog 176 (plainElem Tryz.prog 3);have e:(w.alloc (.cells #[.slice none 0 0] 87)).heap.size=w.heap.size+1:=by simp
  rw[e]at h;exact(h.alloc _).alloc _
 ·rw[Below.heap_alloc _ _ _ (by simp;omega),Below.heap_alloc _ _ _ (by simp;omega),Below.heap_alloc _ _ _ (by simp)];exact an _ _
 ·unfold fA;rw[Below.heap_alloc _ _ _ (by simp)];have e:w.heap.size+1+1=((w.alloc (.cells #[.slice none 0 0] 87)).alloc (.map #[] 0)).heap.size:=by simp
  rw[e];exact an _ _
 ·unfold fA;have e:w.heap.size+1+1+1=(((w.alloc (.cells #[.slice none 0 0] 87)).alloc (.map #[] 0)).alloc (.cells #[.slice none 0 0,.slice none 0 0,.slice none 0 0,.slice none 0 0] 173)).heap.size:=by simp
  rw[e];exact an _ _
 ·intro j hj;have:lists (l.take 0) j=[]:=by simp[lists,cG]
  rw[this];exact ee _ _ _ _
 ·intro i j _ _ _ g hg;simp[Value.ownBlock]at hg
 ·exact((((aw _ _).alloc (aq _) _).alloc (by simp) _).alloc (by simp;omega) _).alloc (by simp;omega) _
def VR(w:World)(l:List Cl)(rs:Nat->Value)(rows:List Cl)(k:Nat)(v10:Value)(wr:World):Prop:=
 ∃W R:Int->List (Int×Int),(∀i:Nat,i<k->Gy l i (W i) (R i))/\(rows++iZ W R k).length<=1000+k*1002000/\Inv w rs (lists l) (rows++iZ W R k) v10 (fun j=>k<=j%4) wr
theorem om{w w2 w3:World}{l:List Cl}{k:Nat}{x:Cl}{D:DataW Unit}{rs:Nat->Value}{i j A c' nl g3 Cn:Nat}{A':Option Addr}(hC:gV w D k rs (lists (l.take k)) w2)(hx:l[k]?=some x)(hD:jr D (fun key=>eJ (l.take k) (-1,key,0)))
  (IV:x.aK=(j:Int)) (NI:j<4) (hi:i=if x.wr then 4+j else j) (hv:rs i=.slice A' (lists (l.take k) i).length c') (hnl:(lists (l.take k) i).length=nl)
  (dv:w3.ownsRow (w.heap.size+1+1+1+1) 178 2 (.slice (some ⟨g3,0,none⟩) (nl+1) Cn) (nl+1) (((lists (l.take k) i).map kX).flatten++[.int .i64 x.lo,.int .i64 x.hi]))
  (bq:(w2.alloc (.cells #[.int .i64 x.lo,.int .i64 x.hi] 178)).drew.grownBy w3 (Value.slice A' nl c').ownBlock) (lg:(Value.slice A' nl c').ownBlock=some g3\/g3=w2.heap.size+1)
  (hA:(i<4/\A=w.heap.size+1+1/\j=i)\/(4<=i/\A=w.heap.size+1+1+1/\i=4+j)):LN w l (k+1) (w3.setCell ⟨A,j,none⟩ (.slice (some ⟨g3,0,none⟩) (nl+1) Cn)):=by
 have VS:i<8:=by omega
 have hX:gV w D k rs (lists (l.take k)) (w2.alloc (.cells #[.int .i64 x.lo,.int .i64 x.hi] 178)).drew:=hC.below (((aw _ _).alloc (aq _) _).drew);have hb:(rs i).ownBlock=(Value.slice A' nl c').ownBlock:=by rw[hv,hnl]
 have h:=hX.append VS (v':=.slice (some ⟨g3,0,none⟩) (nl+1) Cn) (x:=(x.lo,x.hi)) (by rw[hb];exact bq) (by rw[hnl];simpa[kX]using dv) (by
  rw[hb];rcases lg with h|h
  ·exact .inl h.symm
  ·refine .inr ?_;subst h
   simp[Value.ownBlock]) hA
 refine⟨D,_,?_,(h.more (Nat.le_succ k)).lists (fun a ha=>?_)⟩
 ·rw[dH hx];exact hD.same (fun key=>EC (by omega) key)
 ·rw[dH hx,IQ IV NI a ha,<-hi]
end
section
open Go.RowKit Go.Maps Go.WideShapes
theorem EE(w:World)(F:Nat->Prop)(v:Value)(l:List Cl)(h:dJ w F v l)(hl:l.length<=1000)(hfit: ∀c∈l,c.fits):
  Calls Tryz.prog 37 #[v] w (LP l w):=by
 obtain⟨i0,hi,hz0,hz1,hz2⟩:=eC Tryz.DX;obtain⟨i2,hi2,hy0,hy1,hy2⟩:=eC Tryz.l7;obtain⟨A,c,rfl,hnc,hcm⟩:=h.slice;have H:=al h;have wC:=al hi;clear h hi;have hmm:= @run_makeMap Tryz.prog;go_enter Tryz.func37,Tryz.ntmps37;go_wp2_with fail
 go_step3
 go_wp2_with fail
 go_step3
 go_wp2_with fail
 go_loopw [7,16] (fun e i wr=>e=.int .i64 0/\ ∃k,k<=l.length/\i=.int .i64 (k:Int)/\(∀c∈l.take k,Ok c)/\LN w l k wr) (fun _ i _=>l.length-(intOf i).toNat)
 case atStart=>exact⟨rfl,0,dj _,rfl,by simp,ED w l⟩
 case round=>
  obtain⟨rfl,k,hk,rfl,hok,D,rs,hD,hC⟩:=hrel;by_cases hlt:k<l.length
  ·obtain⟨x,hx⟩: ∃x,l[k]?=some x:=⟨_,ao hlt⟩;obtain⟨b,o,rfl,qL,c0,c1,c2,c3,c4⟩:=H.out.at_ hx;have hb:b<w.heap.size:=aE w _ c0;have hbl:=hC.2.2.2.2.2;have c0':=(hbl.cell (p:=⟨b,o+k*5,none⟩) hb).trans c0;have c1':=(hbl.cell (p:=⟨b,o+k*5+1,none⟩) hb).trans c1;have Si:=(hbl.cell (p:=⟨b,o+k*5+2,none⟩) hb).trans c2;have VT:=(hbl.cell (p:=⟨b,o+k*5+3,none⟩) hb).trans c3;have VU:=(hbl.cell (p:=⟨b,o+k*5+4,none⟩) hb).trans c4;have hcon:=fun W=>KC W x;have zI:=hfit x (dd hx);have hs:=hbl.size;have HL:=al (ab hok (ab hD (ab hC (ab hbl hx))));clear hok hD hC hbl hx c0 c1 c2 c3 c4;unfold Cl.val at hcon;by_cases he:BS x=0
   ·have EF:Ok x:=he;rw[he]at hcon;clear he;go_wp2_with fail;refine(hcon _).mono ?_;rintro e w2 ⟨rfl,hb2⟩
    have cK:w2.heap[wr.heap.size]?=some (.cells #[.bool x.wr,.int .i64 x.aK,.string ⟨x.key.toArray⟩,.int .i64 x.lo,.int .i64 x.hi] 48 (0,0)):=by rw[hb2.block wr.heap.size (by simp)];exact an _ _
    have dP:Below wr.heap.size wr w2:=((aw _ _).alloc (aq _) _).trans (hb2.mono (by simp));have IW:=HL.out.2.2.1.below dP;obtain⟨q0,q1,q2,q3,q4⟩:=EB cK;have hml:=IW.1.lt;have hs2:=dP.size;have hbz:wr.heap.size<w2.heap.size:=(da.1 cK).1;have HC:=al IW;have HBX:=al cK;clear hb2 hcon dP IW c0' c1' Si VT VU cK;rcases EF.parts with⟨e1,e2,e3,e4,e5⟩|⟨e1,e2,e3,e4⟩
    ·have hkey:=yl (k:=x.key) (by unfold maxLen;omega);unfold Cu at hkey;have HK:=al (ab hkey (ab e2 (ab e3 e1)));rw[e1]at q1;clear hkey e1 e2 e3 q3 q4
     cases hw:x.wr with
     |true=>
      rw[hw]at q0;have HW:=al hw;clear hw;go_wp2_with (at_mapUpdate;go_loud (refine wpList_mapUpdate_own _ rfl _ _ _ 171 rfl 176 3 IK Tryz.underlying171 _ (w.heap.size+1) k D rfl HC.out.1 (by unfold maxLen;omega) _ _ _ rfl rfl HK.out.1 _ [] (plainElem_int Tryz.underlying3 (by decide)) ?_);intro w3 dv bq);go_roundw
      case rel=>
       refine⟨rfl,k+1,by omega,by go_num,og HL.out.1 HL.out.2.2.2.2 EF,_,rs,?_,((HC.out.map bq dv).lists (fun j hj=>?_))⟩
       ·rw[dH HL.out.2.2.2.2];refine HL.out.2.1.put HC.out.1.isMap (by decide) ?_ (fun k' hk'=>?_)
        ·rw[tj HK.out.2.2.2 HK.out.2.1 HK.out.2.2.1,fi rfl,fi HW.out]
        ·rw[tj HK.out.2.2.2 HK.out.2.1 HK.out.2.2.1,ff hk']
       ·rw[dH HL.out.2.2.2.2];exact yo HK.out.2.2.2 j hj
      case measure=>simp[intOf];omega
     |false=>
      rw[hw]at q0;have HW:=al hw;clear hw;obtain⟨r,hlk,hat,hwr⟩:=HC.out.1.drew.lookup_int IK Tryz.underlying171 Tryz.underlying3 (Tryz.QI _) HK.out.1
      have hrl:r=eJ (l.take k) (-1,x.key,0):=by have h:=(HL.out.2.1 x.key).1;rw[hat]at h;simpa using h
      have TU:=ij (l.take k) (-1,x.key,0);rw[<-hrl]at TU;have HR:=al hrl;clear hat hrl hwr;go_upto_region 13 with fail
      go_still_tail 10,(by kernel_rfl)
      change wpList _ _ _ _ _ w2.drew;generalize hmx:(max r 1:Int)=mx
      have hwf:(Lit.int .i64 mx).wf=true:=by
       have:mx=1\/mx=2:=by omega
       rcases this with rfl|rfl<;>decide
      have HM:=al hmx;clear hmx hlk;go_wp2_with (at_mapUpdate;go_loud (refine wpList_mapUpdate_own _ rfl _ _ _ 171 rfl 176 3 IK Tryz.underlying171 _ (w.heap.size+1) k D rfl HC.out.1.drew (by unfold maxLen;omega) _ _ _ rfl rfl HK.out.1 _ [] (plainElem_int Tryz.underlying3 hwf) ?_);intro w3 dv bq);go_roundw
      case rel=>
       have iX:mx≠0:=by have:=HM.out;omega
       have hgrow:w2.grownBy w3 (some (w.heap.size+1)):=⟨bq.os,bq.tape,bq.output,bq.size,bq.block⟩;refine⟨rfl,k+1,by omega,by go_num,og HL.out.1 HL.out.2.2.2.2 EF,_,rs,?_,((HC.out.map hgrow dv).lists (fun j hj=>?_))⟩
       ·rw[dH HL.out.2.2.2.2];refine HL.out.2.1.put HC.out.1.isMap iX ?_ (fun k' hk'=>?_)
        ·rw[tj HK.out.2.2.2 HK.out.2.1 HK.out.2.2.1,fi rfl,ff (by rw[HW.out];decide),<-HR.out];exact HM.out
        ·rw[tj HK.out.2.2.2 HK.out.2.1 HK.out.2.2.1,ff hk']
       ·rw[dH HL.out.2.2.2.2];exact yo HK.out.2.2.2 j hj
      case measure=>simp[intOf];omega
    ·obtain⟨j,hj⟩: ∃j:Nat,x.aK=(j:Int):=⟨x.aK.toNat,by omega⟩;have NI:j<4:=by omega
     have hj0:(0:Int)<=(j:Int):=by omega
     have hj5:(j:Int)<4:=by omega
     rw[hj]at q1;have HJ:=al (ab hj (ab e1 e3));clear hj e1 e2 e3 q2
     cases hw:x.wr with
     |true=>
      rw[hw]at q0;have VS:4+j<8:=by omega
      obtain⟨a0,a1⟩:=lI HC.out.2.2.2.1 j NI;have hown:=HC.out.2.2.2.2.1.1 (4+j) VS;obtain⟨A',c',hv⟩:=ah hown
      have hll:(lists (l.take k) (4+j)).length<=1000:=by have:=rB (l.take k) (4+j);simp at this;omega
      simp only[hv]at a0;obtain⟨nl,hnl⟩: ∃nl,(lists (l.take k) (4+j)).length=nl:=⟨_,rfl⟩;rw[hnl]at a0 hll;have hown2:=hown.alloc (.cells #[.int .i64 x.lo,.int .i64 x.hi] 178);rw[hv,hnl]at hown2;have hnews:=ef (an w2 (.cells #[.int .i64 x.lo,.int .i64 x.hi] 178));have Y8:=(da.1 HC.out.2.2.1).1;have hl5:=(da.1 HL.out.2.2.1.2.2.2.1).1;have tF:w.heap.size+1+1≠wr.heap.size:=by omega
      have nZ:w.heap.size+1+1+1≠wr.heap.size:=by omega
      have hl4:=(da.1 HC.out.2.2.2.1).1
      have VV: ∀g,Value.ownBlock (.slice A' nl c')=some g->w.heap.size+1+1+1+1<=g/\g<w2.heap.size:=fun g hg=>by rw[<-hnl,<-hv]at hg;exact hown.lt g hg
      have cD: ∀g,Value.ownBlock (.slice A' nl c')=some g->g≠wr.heap.size:=fun g hg e=>by rw[<-hnl,<-hv]at hg;subst e;exact eD hown HBX.out (by decide) hg
      have HW:=al (ab hw (ab hv hnl));have HO:=al (ab hown2 (ab hnews (ab VV cD)));clear hw hv hnl hown hown2 hnews VV cD;go_upto_region 15 with fail;refine wp_region_held_drew (S:=(fun w'=>w'.cell? ⟨wr.heap.size,1,none⟩=some (.int .i64 (j:Int))/\w'.cell? ⟨wr.heap.size,3,none⟩=some (.int .i64 x.lo)/\w'.cell? ⟨wr.heap.size,4,none⟩=some (.int .i64 x.hi))) (by kernel_rfl) ⟨q1,q3,q4⟩ (fun pt=>?_);refine bz (i:=0) (v:=?_) rfl (by kernel_rfl) (by kernel_rfl) (by kernel_rfl) (fun _ _ _ h=>h) (by rfl) (fun w hSw=>?_) pt ?_;rotate_left
      ·obtain⟨s1,s3,s4⟩:=hSw;go_simp;try with_reducible rfl
      try simp only[ai,aj,ak,ar]
      refine bz (i:=1) (v:=?_) rfl (by kernel_rfl) (by kernel_rfl) (by kernel_rfl) (fun _ _ _ h=>h) (by rfl) (fun w hSw=>?_) pt ?_;rotate_left
      ·obtain⟨s1,s3,s4⟩:=hSw;go_simp;try with_reducible rfl
      try simp only[ai,aj,ak,ar]
      refine bz (i:=2) (v:=?_) rfl (by kernel_rfl) (by kernel_rfl) (by kernel_rfl) (fun _ _ _ h=>h) (by rfl) (fun w hSw=>?_) pt ?_;rotate_left
      ·obtain⟨s1,s3,s4⟩:=hSw;go_simp;try with_reducible rfl
      try simp only[ai,aj,ak,ar]
      refine bz (i:=3) (v:=?_) rfl (by kernel_rfl) (by kernel_rfl) (by kernel_rfl) (fun _ _ _ h=>h) (by rfl) (fun w hSw=>?_) pt ?_;rotate_left
      ·obtain⟨s1,s3,s4⟩:=hSw;go_simp;try with_reducible rfl
      try simp only[ai,aj,ak,ar]
      refine bz (i:=4) (v:=?_) rfl (by kernel_rfl) (by kernel_rfl) (by kernel_rfl) (fun _ _ _ h=>h) (by rfl) (fun w hSw=>?_) pt ?_;rotate_left
      ·obtain⟨s1,s3,s4⟩:=hSw;go_simp;try with_reducible rfl
      try simp only[ai,aj,ak,ar]
      refine bz (i:=6) (v:=?_) rfl (by kernel_rfl) (by kernel_rfl) (by kernel_rfl) (fun _ _ _ h=>h) (by rfl) (fun w hSw=>?_) pt ?_;rotate_left
      ·obtain⟨s1,s3,s4⟩:=hSw;go_simp;try with_reducible rfl
      try simp only[ai,aj,ak,ar]
      refine bz (i:=7) (v:=?_) rfl (by kernel_rfl) (by kernel_rfl) (by kernel_rfl) (fun _ _ _ h=>h) (by rfl) (fun w hSw=>?_) pt ?_;rotate_left
      ·obtain⟨s1,s3,s4⟩:=hSw;go_simp;try with_reducible rfl
      try simp only[ai,aj,ak,ar]
      refine bz (i:=8) (v:=?_) rfl (by kernel_rfl) (by kernel_rfl) (by kernel_rfl) (fun _ _ _ h=>h) (by rfl) (fun w hSw=>?_) pt ?_;rotate_left
      ·obtain⟨s1,s3,s4⟩:=hSw;go_simp;try with_reducible rfl
      try simp only[ai,aj,ak,ar]
      refine bz (i:=9) (v:=?_) rfl (by kernel_rfl) (by kernel_rfl) (by kernel_rfl) (fun _ _ _ h=>h) (by rfl) (fun w hSw=>?_) pt ?_;rotate_left
      ·obtain⟨s1,s3,s4⟩:=hSw;go_simp;try with_reducible rfl
      try simp only[ai,aj,ak,ar]
      refine bz (i:=10) (v:=?_) rfl (by kernel_rfl) (by kernel_rfl) (by kernel_rfl) (fun _ _ _ h=>h) (by rfl) (fun w hSw=>?_) pt ?_;rotate_left
      ·obtain⟨s1,s3,s4⟩:=hSw;go_simp;try with_reducible rfl
      try simp only[ai,aj,ak,ar]
      refine wpAnyH_ready (rs:=[5,11]) (by kernel_rfl) (by simp) ?_;refine cY (i:=5) rfl (fun K hK=>?_) (cY (i:=11) rfl (fun K hK=>?_) AllReadyH.nil)
      ·go_simp;refine hK.out _ _ pt (fun pt=>?_);clear hK K
       try simp only[ai,aj,ak,ar]
       refine wpAnyH_ready (rs:=[11]) (by kernel_rfl) (by simp) (cY (i:=11) rfl (fun K hK=>?_) AllReadyH.nil);go_simp;refine hK.out _ _ (by obtain⟨s1,s3,s4⟩:=pt;refine⟨?_,?_,?_⟩<;>simp[*,World.cell?_alloc_some]) (fun pt=>?_);clear hK K
       try simp only[ai,aj,ak,ar]
       refine wpAnyH_ready (rs:=[12]) (by kernel_rfl) (by simp) (cY (i:=12) rfl (fun K hK=>?_) AllReadyH.nil)
       (refine step_append_lies _ (by rfl) _ _ 172 (by rfl) (w.heap.size+1+1+1+1) 178 i0 _ 2 16 Tryz.underlying172 wC.out hz0 hz1 hz2 (by rfl) (by decide) (.slice A' nl c') nl _ (by rfl) HO.out.1 ⟨w2.heap.size,0,none⟩ 1 1 [.int .i64 x.lo,.int .i64 x.hi] (by rfl) (by rfl) HO.out.2.1 (by simp[Value.oneCell']) (by decide) (by unfold maxLen;omega) (by omega) (by simp;omega) (w2.heap.size+1) (by simp) ?_)
       intro g3 Cn w3 dv bq lg OZ;obtain⟨b0,b1⟩:=jt (o:=.cells #[.int .i64 x.lo,.int .i64 x.hi] 178) (w2:=w2) bq rfl a0 a1 (fun e=>by have:=(HO.out.2.2.1 _ e.symm).1;omega);refine hK.out _ _ ⟨(bq.cell_far _ (by simp;omega) (fun e=>(HO.out.2.2.2 _ e.symm) rfl)).trans pt.1,(bq.cell_far _ (by simp;omega) (fun e=>(HO.out.2.2.2 _ e.symm) rfl)).trans pt.2.1,(bq.cell_far _ (by simp;omega) (fun e=>(HO.out.2.2.2 _ e.symm) rfl)).trans pt.2.2⟩ (fun pt=>?_);clear hK K
       try simp only[ai,aj,ak,ar]
       refine bz (i:=13) (v:=?_) rfl (by kernel_rfl) (by kernel_rfl) (by kernel_rfl) (fun _ _ _ h=>h) (by rfl) (fun w hSw=>?_) pt ?_;rotate_left
       ·obtain⟨s1,s3,s4⟩:=hSw;go_simp;try with_reducible rfl
       try simp only[ai,aj,ak,ar]
       refine wpAnyH_ready (rs:=[14]) (by kernel_rfl) (by simp) (cY (i:=14) rfl (fun K hK=>?_) AllReadyH.nil);go_simp;refine hK.out _ _ (by obtain⟨s1,s3,s4⟩:=pt;refine⟨?_,?_,?_⟩<;>simp[*,World.cell?_setCell_far]) (fun pt=>?_);clear hK K
       try simp only[ai,aj,ak,ar]
       refine wpAnyH_done (by kernel_rfl) ?_ _;have HG:=al (ab dv (ab bq lg));clear pt dv bq lg b0 b1 a0 a1;go_wp2_with fail;go_roundw
       case rel=>exact⟨rfl,k+1,by omega,by go_num,og HL.out.1 HL.out.2.2.2.2 EF,om HC.out HL.out.2.2.2.2 HL.out.2.1 HJ.out.1 NI (by rw[HW.out.1];rfl) HW.out.2.1 HW.out.2.2 HG.out.1 HG.out.2.1 HG.out.2.2 (.inr ⟨by omega,rfl,rfl⟩)⟩
       case measure=>simp[intOf];omega
      ·go_simp;refine hK.out _ _ (by obtain⟨s1,s3,s4⟩:=pt;refine⟨?_,?_,?_⟩<;>simp[*,World.cell?_alloc_some]) (fun pt=>?_);clear hK K
       try simp only[ai,aj,ak,ar]
       refine wpAnyH_ready (rs:=[5]) (by kernel_rfl) (by simp) (cY (i:=5) rfl (fun K hK=>?_) AllReadyH.nil);go_simp;refine hK.out _ _ pt (fun pt=>?_);clear hK K
       try simp only[ai,aj,ak,ar]
       refine wpAnyH_ready (rs:=[12]) (by kernel_rfl) (by simp) (cY (i:=12) rfl (fun K hK=>?_) AllReadyH.nil)
       (refine step_append_lies _ (by rfl) _ _ 172 (by rfl) (w.heap.size+1+1+1+1) 178 i0 _ 2 16 Tryz.underlying172 wC.out hz0 hz1 hz2 (by rfl) (by decide) (.slice A' nl c') nl _ (by rfl) HO.out.1 ⟨w2.heap.size,0,none⟩ 1 1 [.int .i64 x.lo,.int .i64 x.hi] (by rfl) (by rfl) HO.out.2.1 (by simp[Value.oneCell']) (by decide) (by unfold maxLen;omega) (by omega) (by simp;omega) (w2.heap.size+1) (by simp) ?_)
       intro g3 Cn w3 dv bq lg OZ;obtain⟨b0,b1⟩:=jt (o:=.cells #[.int .i64 x.lo,.int .i64 x.hi] 178) (w2:=w2) bq rfl a0 a1 (fun e=>by have:=(HO.out.2.2.1 _ e.symm).1;omega);refine hK.out _ _ ⟨(bq.cell_far _ (by simp;omega) (fun e=>(HO.out.2.2.2 _ e.symm) rfl)).trans pt.1,(bq.cell_far _ (by simp;omega) (fun e=>(HO.out.2.2.2 _ e.symm) rfl)).trans pt.2.1,(bq.cell_far _ (by simp;omega) (fun e=>(HO.out.2.2.2 _ e.symm) rfl)).trans pt.2.2⟩ (fun pt=>?_);clear hK K
       try simp only[ai,aj,ak,ar]
       refine bz (i:=13) (v:=?_) rfl (by kernel_rfl) (by kernel_rfl) (by kernel_rfl) (fun _ _ _ h=>h) (by rfl) (fun w hSw=>?_) pt ?_;rotate_left
       ·obtain⟨s1,s3,s4⟩:=hSw;go_simp;try with_reducible rfl
       try simp only[ai,aj,ak,ar]
       refine wpAnyH_ready (rs:=[14]) (by kernel_rfl) (by simp) (cY (i:=14) rfl (fun K hK=>?_) AllReadyH.nil);go_simp;refine hK.out _ _ (by obtain⟨s1,s3,s4⟩:=pt;refine⟨?_,?_,?_⟩<;>simp[*,World.cell?_setCell_far]) (fun pt=>?_);clear hK K
       try simp only[ai,aj,ak,ar]
       refine wpAnyH_done (by kernel_rfl) ?_ _;have HG:=al (ab dv (ab bq lg));clear pt dv bq lg b0 b1 a0 a1;go_wp2_with fail;go_roundw
       case rel=>exact⟨rfl,k+1,by omega,by go_num,og HL.out.1 HL.out.2.2.2.2 EF,om HC.out HL.out.2.2.2.2 HL.out.2.1 HJ.out.1 NI (by rw[HW.out.1];rfl) HW.out.2.1 HW.out.2.2 HG.out.1 HG.out.2.1 HG.out.2.2 (.inr ⟨by omega,rfl,rfl⟩)⟩
       case measure=>simp[intOf];omega
     |false=>
      rw[hw]at q0;have VS:j<8:=by omega
      obtain⟨a0,a1⟩:=lI HC.out.2.2.1 j NI;have hown:=HC.out.2.2.2.2.1.1 (j) VS;obtain⟨A',c',hv⟩:=ah hown
      have hll:(lists (l.take k) (j)).length<=1000:=by have:=rB (l.take k) (j);simp at this;omega
      simp only[hv]at a0;obtain⟨nl,hnl⟩: ∃nl,(lists (l.take k) (j)).length=nl:=⟨_,rfl⟩;rw[hnl]at a0 hll;have hown2:=hown.alloc (.cells #[.int .i64 x.lo,.int .i64 x.hi] 178);rw[hv,hnl]at hown2;have hnews:=ef (an w2 (.cells #[.int .i64 x.lo,.int .i64 x.hi] 178));have Y8:=(da.1 HC.out.2.2.1).1;have hl5:=(da.1 HL.out.2.2.1.2.2.2.1).1;have tF:w.heap.size+1+1≠wr.heap.size:=by omega
      have nZ:w.heap.size+1+1+1≠wr.heap.size:=by omega
      have hl4:=(da.1 HC.out.2.2.2.1).1
      have VV: ∀g,Value.ownBlock (.slice A' nl c')=some g->w.heap.size+1+1+1+1<=g/\g<w2.heap.size:=fun g hg=>by rw[<-hnl,<-hv]at hg;exact hown.lt g hg
      have cD: ∀g,Value.ownBlock (.slice A' nl c')=some g->g≠wr.heap.size:=fun g hg e=>by rw[<-hnl,<-hv]at hg;subst e;exact eD hown HBX.out (by decide) hg
      have HW:=al (ab hw (ab hv hnl));have HO:=al (ab hown2 (ab hnews (ab VV cD)));clear hw hv hnl hown hown2 hnews VV cD;go_upto_region 9 with fail;refine wp_region_held_drew (S:=(fun w'=>w'.cell? ⟨wr.heap.size,1,none⟩=some (.int .i64 (j:Int))/\w'.cell? ⟨wr.heap.size,3,none⟩=some (.int .i64 x.lo)/\w'.cell? ⟨wr.heap.size,4,none⟩=some (.int .i64 x.hi))) (by kernel_rfl) ⟨q1,q3,q4⟩ (fun pt=>?_);refine bz (i:=0) (v:=?_) rfl (by kernel_rfl) (by kernel_rfl) (by kernel_rfl) (fun _ _ _ h=>h) (by rfl) (fun w hSw=>?_) pt ?_;rotate_left
      ·obtain⟨s1,s3,s4⟩:=hSw;go_simp;try with_reducible rfl
      try simp only[ai,aj,ak,ar]
      refine bz (i:=1) (v:=?_) rfl (by kernel_rfl) (by kernel_rfl) (by kernel_rfl) (fun _ _ _ h=>h) (by rfl) (fun w hSw=>?_) pt ?_;rotate_left
      ·obtain⟨s1,s3,s4⟩:=hSw;go_simp;try with_reducible rfl
      try simp only[ai,aj,ak,ar]
      refine bz (i:=2) (v:=?_) rfl (by kernel_rfl) (by kernel_rfl) (by kernel_rfl) (fun _ _ _ h=>h) (by rfl) (fun w hSw=>?_) pt ?_;rotate_left
      ·obtain⟨s1,s3,s4⟩:=hSw;go_simp;try with_reducible rfl
      try simp only[ai,aj,ak,ar]
      refine bz (i:=3) (v:=?_) rfl (by kernel_rfl) (by kernel_rfl) (by kernel_rfl) (fun _ _ _ h=>h) (by rfl) (fun w hSw=>?_) pt ?_;rotate_left
      ·obtain⟨s1,s3,s4⟩:=hSw;go_simp;try with_reducible rfl
      try simp only[ai,aj,ak,ar]
      refine bz (i:=4) (v:=?_) rfl (by kernel_rfl) (by kernel_rfl) (by kernel_rfl) (fun _ _ _ h=>h) (by rfl) (fun w hSw=>?_) pt ?_;rotate_left
      ·obtain⟨s1,s3,s4⟩:=hSw;go_simp;try with_reducible rfl
      try simp only[ai,aj,ak,ar]
      refine bz (i:=6) (v:=?_) rfl (by kernel_rfl) (by kernel_rfl) (by kernel_rfl) (fun _ _ _ h=>h) (by rfl) (fun w hSw=>?_) pt ?_;rotate_left
      ·obtain⟨s1,s3,s4⟩:=hSw;go_simp;try with_reducible rfl
      try simp only[ai,aj,ak,ar]
      refine bz (i:=7) (v:=?_) rfl (by kernel_rfl) (by kernel_rfl) (by kernel_rfl) (fun _ _ _ h=>h) (by rfl) (fun w hSw=>?_) pt ?_;rotate_left
      ·obtain⟨s1,s3,s4⟩:=hSw;go_simp;try with_reducible rfl
      try simp only[ai,aj,ak,ar]
      refine bz (i:=8) (v:=?_) rfl (by kernel_rfl) (by kernel_rfl) (by kernel_rfl) (fun _ _ _ h=>h) (by rfl) (fun w hSw=>?_) pt ?_;rotate_left
      ·obtain⟨s1,s3,s4⟩:=hSw;go_simp;try with_reducible rfl
      try simp only[ai,aj,ak,ar]
      refine bz (i:=9) (v:=?_) rfl (by kernel_rfl) (by kernel_rfl) (by kernel_rfl) (fun _ _ _ h=>h) (by rfl) (fun w hSw=>?_) pt ?_;rotate_left
      ·obtain⟨s1,s3,s4⟩:=hSw;go_simp;try with_reducible rfl
      try simp only[ai,aj,ak,ar]
      refine bz (i:=10) (v:=?_) rfl (by kernel_rfl) (by kernel_rfl) (by kernel_rfl) (fun _ _ _ h=>h) (by rfl) (fun w hSw=>?_) pt ?_;rotate_left
      ·obtain⟨s1,s3,s4⟩:=hSw;go_simp;try with_reducible rfl
      try simp only[ai,aj,ak,ar]
      refine wpAnyH_ready (rs:=[5,11]) (by kernel_rfl) (by simp) ?_;refine cY (i:=5) rfl (fun K hK=>?_) (cY (i:=11) rfl (fun K hK=>?_) AllReadyH.nil)
      ·go_simp;refine hK.out _ _ pt (fun pt=>?_);clear hK K
       try simp only[ai,aj,ak,ar]
       refine wpAnyH_ready (rs:=[11]) (by kernel_rfl) (by simp) (cY (i:=11) rfl (fun K hK=>?_) AllReadyH.nil);go_simp;refine hK.out _ _ (by obtain⟨s1,s3,s4⟩:=pt;refine⟨?_,?_,?_⟩<;>simp[*,World.cell?_alloc_some]) (fun pt=>?_);clear hK K
       try simp only[ai,aj,ak,ar]
       refine wpAnyH_ready (rs:=[12]) (by kernel_rfl) (by simp) (cY (i:=12) rfl (fun K hK=>?_) AllReadyH.nil)
       (refine step_append_lies _ (by rfl) _ _ 172 (by rfl) (w.heap.size+1+1+1+1) 178 i0 _ 2 16 Tryz.underlying172 wC.out hz0 hz1 hz2 (by rfl) (by decide) (.slice A' nl c') nl _ (by rfl) HO.out.1 ⟨w2.heap.size,0,none⟩ 1 1 [.int .i64 x.lo,.int .i64 x.hi] (by rfl) (by rfl) HO.out.2.1 (by simp[Value.oneCell']) (by decide) (by unfold maxLen;omega) (by omega) (by simp;omega) (w2.heap.size+1) (by simp) ?_)
       intro g3 Cn w3 dv bq lg OZ;obtain⟨b0,b1⟩:=jt (o:=.cells #[.int .i64 x.lo,.int .i64 x.hi] 178) (w2:=w2) bq rfl a0 a1 (fun e=>by have:=(HO.out.2.2.1 _ e.symm).1;omega);refine hK.out _ _ ⟨(bq.cell_far _ (by simp;omega) (fun e=>(HO.out.2.2.2 _ e.symm) rfl)).trans pt.1,(bq.cell_far _ (by simp;omega) (fun e=>(HO.out.2.2.2 _ e.symm) rfl)).trans pt.2.1,(bq.cell_far _ (by simp;omega) (fun e=>(HO.out.2.2.2 _ e.symm) rfl)).trans pt.2.2⟩ (fun pt=>?_);clear hK K
       try simp only[ai,aj,ak,ar]
       refine bz (i:=13) (v:=?_) rfl (by kernel_rfl) (by kernel_rfl) (by kernel_rfl) (fun _ _ _ h=>h) (by rfl) (fun w hSw=>?_) pt ?_;rotate_left
       ·obtain⟨s1,s3,s4⟩:=hSw;go_simp;try with_reducible rfl
       try simp only[ai,aj,ak,ar]
       refine wpAnyH_ready (rs:=[14]) (by kernel_rfl) (by simp) (cY (i:=14) rfl (fun K hK=>?_) AllReadyH.nil);go_simp;refine hK.out _ _ (by obtain⟨s1,s3,s4⟩:=pt;refine⟨?_,?_,?_⟩<;>simp[*,World.cell?_setCell_far]) (fun pt=>?_);clear hK K
       try simp only[ai,aj,ak,ar]
       refine wpAnyH_done (by kernel_rfl) ?_ _;have HG:=al (ab dv (ab bq lg));clear pt dv bq lg b0 b1 a0 a1;go_wp2_with fail;go_roundw
       case rel=>exact⟨rfl,k+1,by omega,by go_num,og HL.out.1 HL.out.2.2.2.2 EF,om HC.out HL.out.2.2.2.2 HL.out.2.1 HJ.out.1 NI (by rw[HW.out.1];rfl) HW.out.2.1 HW.out.2.2 HG.out.1 HG.out.2.1 HG.out.2.2 (.inl ⟨NI,rfl,rfl⟩)⟩
       case measure=>simp[intOf];omega
      ·go_simp;refine hK.out _ _ (by obtain⟨s1,s3,s4⟩:=pt;refine⟨?_,?_,?_⟩<;>simp[*,World.cell?_alloc_some]) (fun pt=>?_);clear hK K
       try simp only[ai,aj,ak,ar]
       refine wpAnyH_ready (rs:=[5]) (by kernel_rfl) (by simp) (cY (i:=5) rfl (fun K hK=>?_) AllReadyH.nil);go_simp;refine hK.out _ _ pt (fun pt=>?_);clear hK K
       try simp only[ai,aj,ak,ar]
       refine wpAnyH_ready (rs:=[12]) (by kernel_rfl) (by simp) (cY (i:=12) rfl (fun K hK=>?_) AllReadyH.nil)
       (refine step_append_lies _ (by rfl) _ _ 172 (by rfl) (w.heap.size+1+1+1+1) 178 i0 _ 2 16 Tryz.underlying172 wC.out hz0 hz1 hz2 (by rfl) (by decide) (.slice A' nl c') nl _ (by rfl) HO.out.1 ⟨w2.heap.size,0,none⟩ 1 1 [.int .i64 x.lo,.int .i64 x.hi] (by rfl) (by rfl) HO.out.2.1 (by simp[Value.oneCell']) (by decide) (by unfold maxLen;omega) (by omega) (by simp;omega) (w2.heap.size+1) (by simp) ?_)
       intro g3 Cn w3 dv bq lg OZ;obtain⟨b0,b1⟩:=jt (o:=.cells #[.int .i64 x.lo,.int .i64 x.hi] 178) (w2:=w2) bq rfl a0 a1 (fun e=>by have:=(HO.out.2.2.1 _ e.symm).1;omega);refine hK.out _ _ ⟨(bq.cell_far _ (by simp;omega) (fun e=>(HO.out.2.2.2 _ e.symm) rfl)).trans pt.1,(bq.cell_far _ (by simp;omega) (fun e=>(HO.out.2.2.2 _ e.symm) rfl)).trans pt.2.1,(bq.cell_far _ (by simp;omega) (fun e=>(HO.out.2.2.2 _ e.symm) rfl)).trans pt.2.2⟩ (fun pt=>?_);clear hK K
       try simp only[ai,aj,ak,ar]
       refine bz (i:=13) (v:=?_) rfl (by kernel_rfl) (by kernel_rfl) (by kernel_rfl) (fun _ _ _ h=>h) (by rfl) (fun w hSw=>?_) pt ?_;rotate_left
       ·obtain⟨s1,s3,s4⟩:=hSw;go_simp;try with_reducible rfl
       try simp only[ai,aj,ak,ar]
       refine wpAnyH_ready (rs:=[14]) (by kernel_rfl) (by simp) (cY (i:=14) rfl (fun K hK=>?_) AllReadyH.nil);go_simp;refine hK.out _ _ (by obtain⟨s1,s3,s4⟩:=pt;refine⟨?_,?_,?_⟩<;>simp[*,World.cell?_setCell_far]) (fun pt=>?_);clear hK K
       try simp only[ai,aj,ak,ar]
       refine wpAnyH_done (by kernel_rfl) ?_ _;have HG:=al (ab dv (ab bq lg));clear pt dv bq lg b0 b1 a0 a1;go_wp2_with fail;go_roundw
       case rel=>exact⟨rfl,k+1,by omega,by go_num,og HL.out.1 HL.out.2.2.2.2 EF,om HC.out HL.out.2.2.2.2 HL.out.2.1 HJ.out.1 NI (by rw[HW.out.1];rfl) HW.out.2.1 HW.out.2.2 HG.out.1 HG.out.2.1 HG.out.2.2 (.inl ⟨NI,rfl,rfl⟩)⟩
       case measure=>simp[intOf];omega
   ·obtain⟨er,her⟩: ∃er,BS x=er:=⟨_,rfl⟩;rw[her]at hcon he;have XN:(er==0)=false:=by simpa using he
    have TV:(er !=0)=true:=by simpa using he
    have HE:=al (ab her he);clear her he;go_wp2_with fail;refine(hcon _).mono ?_;rintro e w2 ⟨rfl,hb2⟩;have IW:=HL.out.2.2.1.below (((aw _ _).alloc (aq _) _).trans (hb2.mono (by simp)));have hcR:=bO IW.2.1;have hfR:=fq IW.2.1;have HC:=al IW;clear hb2 hcon IW;go_wp2_with fail;rw[lp];have hh:=dr w2 w.heap.size 0 _ _ (.slice none 0 0) HC.out.2.1;refine dq (aC rfl _ _ _ _ _ _ _ rfl hh Tryz.underlying87 rfl (by kernel_rfl)) rfl ⟨HC.out.2.2.2.2.2.setCell (aq _) _,.inl ?_⟩;have e1:=LQ HL.out.1 HL.out.2.2.2.2 (by rw[HE.out.1];exact HE.out.2);rw[HE.out.1]at e1;rw[e1];exact⟨HE.out.2,rfl⟩
  ·have hkl:k=l.length:=by omega
   subst hkl;rw[ie]at hok hD hC;have hsz:Maps.size D<=1000:=de hC.1.size_le hl;have HC:=al (ab hok (ab hD (ab hC hsz)));have O7:=al hi2;clear hok hD hC hsz hi2;go_wp2_with fail;refine(IP wr _ _ D _ HC.out.2.2.1.1 HC.out.2.1 HC.out.2.2.2).mono ?_;rintro e w2 ⟨ks,hkl,hnd,hks,Zg,c10,rfl,hrow,hb2⟩;obtain⟨rows,hrows⟩: ∃rows,(ks.mergeSort fun x y=>decide (x<=y)).map (yn fun key=>eJ l (-1,key,0))=rows:=⟨_,rfl⟩;have hrl:rows.length=ks.length:=by rw[<-hrows];simp
   rw[hrows]at hrow
   have hinv:Inv w rs (lists l) rows (.slice Zg rows.length c10) (fun _=>True) w2:=by obtain⟨h1,h2,h3,h4,h5,h6⟩:=HC.out.2.2.1.below hb2;exact⟨h2,h3,h4,fun j hj _=>h5.1 j hj,dW hrow (fun g hg=>by have:=(hrow.lt g hg).1;have:=HC.out.2.2.1.2.2.2.2.2.size;omega),h6⟩
   have QM:VP rs:=HC.out.2.2.1.2.2.2.2.1.2;rw[hrows];have HK:=al (ab hnd (ab hks (ab hrows (ab hrl (ab hinv (ab QM hkl))))));clear hnd hks hrows hrl hinv QM hrow hb2 hkl;go_wp2_with fail
   go_loopw [10,88] (fun v i wr=> ∃k:Nat,k<=4/\i=.int .i64 (k:Int)/\VR w l rs rows k v wr) (fun _ i _=>4-(intOf i).toNat)
   case atStart=>obtain⟨_,_,_,hrl,hinv,_,hkl⟩:=HK.out;exact⟨0,by omega,rfl,fun _=>[],fun _=>[],fun i hi=>absurd hi (by omega),by simp[iZ];omega,by simpa[iZ]using hinv.mono (fun _ _=>trivial)⟩
   case round=>
    obtain⟨k,hk,rfl,W,R,TT,hlen,hinv⟩:=hrel
    rename World=>w3
    by_cases hlt:k<4
    ·obtain⟨a0,_⟩:=lI hinv.2.2.1 k hlt;obtain⟨a2,_⟩:=lI hinv.2.1 k hlt;have dX:(0:Int)<=(k:Int):=by omega
     have hk4:(k:Int)<4:=by omega
     have hA6:w.heap.size+1+1+1<w3.heap.size:=(da.1 hinv.2.2.1).1;obtain⟨vW,XO⟩: ∃vW,rs (4+k)=vW:=⟨_,rfl⟩;simp only[XO]at a0;have XP:(4+k)%4=k:=by omega
     have LS:=hinv.2.2.2.1 (4+k) (by omega) (by omega);have hlW:lists l (4+k)=cG l (k:Int) true:=by unfold lists;rw[ff (by omega)];congr 1;omega
     have Qu:lists l k=cG l (k:Int) false:=by unfold lists;rw[fi hlt]
     have Zh:=fun j=>rB l j;have Zi:=fun j=>IU hfit j;obtain⟨Zg,c10,rfl⟩:=ah hinv.2.2.2.2.1;have QN:=ym w3 vW (lists l (4+k)) (dW (by rw[<-XO];exact LS) (fun _ _=>dj _)) (de (Zh _) hl) (Zi _);have HI:=al (ab TT (ab hlen (ab hinv (ab XO (ab hlW (ab Qu (ab Zh (ab Zi LS))))))));clear TT hlen hinv XO hlW Qu Zh Zi LS XP;go_wp2_with fail;refine QN.mono ?_;rintro e w4 ⟨s,hs1,hs2,AW,cW,rfl,Zj,nv⟩;have LU:=HI.out.2.2.1.LR HK.out.2.2.2.2.2.1 (i:=4+k) (by omega) (by omega) (by rw[HI.out.2.2.2.1];exact nv);have hsl:s.length<=1000:=by rw[hs1.length_eq];exact de (HI.out.2.2.2.2.2.2.1 _) hl
     have hjl:(cw s).length<=1000:=de (yt s) hsl;have hjf:gF (cw s):=yr (fun x hx=>HI.out.2.2.2.2.2.2.2.1 _ x (hs1.mem_iff.1 hx));have VW:lD w4 (fun _=>True) (.slice AW (cw s).length cW) (cw s):=cd.cP Zj (kG _) (by decide) (fun _ _=>trivial);obtain⟨out,hout⟩: ∃out,rows++iZ W R k=out:=⟨_,rfl⟩;rw[hout];rw[hout]at LU;have aal:out.length<=1000+k*1002000:=by rw[<-hout];exact HI.out.2.1
     have HJ:=al (ab hs1 (ab hs2 (ab Zj (ab nv (ab LU (ab hjf (ab VW hout)))))));clear hs1 hs2 Zj nv LU hjf VW hout QN;go_wp2_with fail;refine(uk w4 (fun _=>True) _ true _ _ HJ.out.2.2.2.2.2.2.1 (by omega)).mono ?_;rintro e w5 ⟨A5,c5,rfl,gN,gq⟩;obtain⟨C1,XQ⟩: ∃C1,(cw s).map (qZ (k:Int) true)=C1:=⟨_,rfl⟩;rw[XQ]at gN⊢;have aaI:C1.length<=1000:=by rw[<-XQ];simpa using hjl
     have VX:dJ w5 (fun _=>True) (.slice A5 C1.length c5) C1:=cd.cP gN (di _) (by decide) (fun _ _=>trivial);have LV:=HJ.out.2.2.2.2.1.below gq;have hW5:=aX HJ.out.2.2.1 gq;have hs5:=LV.2.2.2.2.2.size;have H5:=al (ab XQ (ab VX (ab LV hW5)));clear XQ VX LV hW5 gN gq;go_wp2_with (at_builtin;go_loud (refine cO _ rfl _ _ 37 rfl w.heap.size 48 i2 _ 5 48 Tryz.underlying37 O7.out hy0 hy1 hy2 rfl (by decide) (.slice Zg out.length c10) out.length _ rfl H5.out.2.2.1.2.2.2.2.1 (fun _=>True) (.slice A5 C1.length c5) (C1.map Cl.cells) rfl H5.out.2.1 (di _) (kY _) (by simp;omega) (by simp;unfold maxLen;omega) hs5 ?_);intro v6 w6 Gk Nz um;have Sj:w6.ownsRow w.heap.size 48 5 v6 (out++C1).length ((out++C1).map Cl.cells).flatten:=(by simpa using Gk);obtain⟨CE,Gz⟩: ∃CE,out++C1=CE:=⟨_,rfl⟩;rw[Gz]at Sj;have LW:=H5.out.2.2.1.append Nz Sj;have hW6:=CA H5.out.2.2.2 H5.out.2.2.1.2.2.2.2.1 (by decide) Nz;obtain⟨a6,_⟩:=lI LW.2.1 k hlt;have aaJ:=Nz.size;have aaK:CE.length<=2000+k*1002000:=(by rw[<-Gz];simp;omega);have HO1:=al Gz;have H6:=al (ab LW hW6);clear Gk Sj LW hW6 Nz um Gz);have kI:=H6.out.1.2.2.2.1 k (by omega) (by omega);obtain⟨A6,c6,rfl⟩:=ah H6.out.1.2.2.2.2.1;refine(ym w6 (rs k) (lists l k) (dW kI (fun _ _=>dj _)) (de (HI.out.2.2.2.2.2.2.1 _) hl) (HI.out.2.2.2.2.2.2.2.1 _)).mono ?_;rintro e w7 ⟨s',ht1,ht2,AR,cR,rfl,hR7,Zk⟩;have QO:=H6.out.1.LR HK.out.2.2.2.2.2.1 (i:=k) (by omega) (by omega) Zk;have hs7:s'.length<=1000:=by rw[ht1.length_eq];exact de (HI.out.2.2.2.2.2.2.1 _) hl
     have hj7:(cw s').length<=1000:=de (yt s') hs7;have hf7:gF (cw s'):=yr (fun x hx=>HI.out.2.2.2.2.2.2.2.1 _ x (ht1.mem_iff.1 hx));have VY:lD w7 (fun _=>True) (.slice AR (cw s').length cR) (cw s'):=cd.cP hR7 (kG _) (by decide) (fun _ _=>trivial);have VZ:=HI.out.2.2.1.2.2.2.1 k (by omega) (by omega);have V2:=bu H6.out.2 Zk (fun g hg e=>by have h1:=(H6.out.2.lt g hg).1;have h2:=(VZ.lt g e).2;omega);have QP:lD w7 (fun _=>True) (.slice AW (cw s).length cW) (cw s):=cd.cP V2 (kG _) (by decide) (fun _ _=>trivial);have hlw:=qx (cw s') (cw s);have aaL:(cw s').length*((cw s).length+1)<=1000*1001:=Nat.mul_le_mul hj7 (by omega);have H7:=al (ab ht1 (ab ht2 (ab QO (ab hf7 (ab VY QP)))));clear ht1 ht2 QO hf7 VY QP hR7 Zk kI VZ V2;go_wp2_with fail;refine(Ex w7 (fun _=>True) _ _ _ _ H7.out.2.2.2.2.1 H7.out.2.2.2.2.2 hj7 hjl H7.out.2.2.2.1 HJ.out.2.2.2.2.2.1).mono ?_;rintro e w8 ⟨A8,c8,rfl,O8,ze⟩;have Sk:lD w8 (fun _=>True) (.slice A8 (bJ (cw s') (cw s)).length c8) (bJ (cw s') (cw s)):=cd.cP O8 (kG _) (by decide) (fun _ _=>trivial);have QQ:=H7.out.2.2.1.below ze;obtain⟨X,hX⟩: ∃X,bJ (cw s') (cw s)=X:=⟨_,rfl⟩;rw[hX]at Sk hlw⊢;have hxl:X.length<=1001000:=by omega
     have H8:=al (ab hX (ab Sk QQ));clear hX Sk QQ O8 ze hlw;go_wp2_with fail;refine(uk w8 (fun _=>True) _ false _ _ H8.out.2.1 (by omega)).mono ?_;rintro e w9 ⟨A9,c9,rfl,QR,Ee⟩;obtain⟨C2,IW⟩: ∃C2,X.map (qZ (k:Int) false)=C2:=⟨_,rfl⟩;rw[IW]at QR⊢;have aaM:C2.length<=1001000:=by rw[<-IW];simpa using hxl
     have V3:dJ w9 (fun _=>True) (.slice A9 C2.length c9) C2:=cd.cP QR (di _) (by decide) (fun _ _=>trivial);have LX:=H8.out.2.2.below Ee;have cu:=LX.2.2.2.2.2.size;have H9:=al (ab IW (ab V3 (ab LX HO1.out)));clear IW V3 LX QR Ee;go_wp2_with (at_builtin;go_loud (refine cO _ rfl _ _ 37 rfl w.heap.size 48 i2 _ 5 48 Tryz.underlying37 O7.out hy0 hy1 hy2 rfl (by decide) (.slice A6 CE.length c6) CE.length _ rfl H9.out.2.2.1.2.2.2.2.1 (fun _=>True) (.slice A9 C2.length c9) (C2.map Cl.cells) rfl H9.out.2.1 (di _) (kY _) (by simp;omega) (by simp;unfold maxLen;omega) cu ?_);intro vZ wZ hOZ hgZ aaN);go_roundw
     case rel=>
      have Zl:wZ.ownsRow w.heap.size 48 5 vZ (CE++C2).length ((CE++C2).map Cl.cells).flatten:=by simpa using hOZ
      have V4:=H9.out.2.2.1.append hgZ Zl;refine⟨k+1,by omega,by go_num,qw W k (cw s),qw R k X,?_,?_,?_⟩
      ·intro i hi;by_cases e:i=k
       ·subst e;rw[oh,oh,<-H8.out.1];exact CD HC.out.1 (by rw[<-HI.out.2.2.2.2.1];exact HJ.out.1) (by rw[<-HI.out.2.2.2.2.2.1];exact H7.out.1) HJ.out.2.1 H7.out.2.1
       ·rw[mr e,mr e];exact HI.out.1 i (by omega)
      ·rw[yq,<-lk,HJ.out.2.2.2.2.2.2.2,H5.out.1,H9.out.1];have:=H9.out.2.2.2;rw[<-lk,this];simp;omega
      ·have e:rows++iZ (qw W k (cw s)) (qw R k X) (k+1)=CE++C2:=by
        rw[yq,<-lk,HJ.out.2.2.2.2.2.2.2,H5.out.1,H9.out.1,<-lk,H9.out.2.2.2]
       rw[e];exact V4.mono (fun j hj=>⟨⟨by omega,by omega⟩,by omega⟩)
     case measure=>simp[intOf];omega
    ·obtain rfl:k=4:=by omega
     have hform:=yw HC.out.1 HK.out.1 HK.out.2.1 HK.out.2.2.1 TT;obtain⟨out,hout⟩: ∃out,rows++iZ W R 4=out:=⟨_,rfl⟩;rw[hout]at hform hinv hlen;obtain⟨AZ,cZ,rfl⟩:=ah hinv.2.2.2.2.1;have hcR:=bO hinv.1;have hfR:=fq hinv.1;have HF:=al (ab hform (ab hinv hout));clear hform hinv hout TT;by_cases h64:64<out.length
     ·go_wp2_with fail;rw[lp];have hh:=dr w3 w.heap.size 0 _ _ (.slice none 0 0) HF.out.2.1.1;exact dq (aC rfl _ _ _ _ _ _ _ rfl hh Tryz.underlying87 rfl (by kernel_rfl)) rfl ⟨HF.out.2.1.2.2.2.2.2.setCell (aq _) _,.inr ⟨uQ HC.out.1,out,HF.out.1,.inl ⟨h64,rfl⟩⟩⟩
     ·go_wp2_with fail;rw[lp];have hh:=dr w3 w.heap.size 0 _ _ (.slice AZ out.length cZ) HF.out.2.1.1;refine dq (aC rfl _ _ _ _ _ _ _ rfl hh Tryz.underlying87 rfl (by kernel_rfl)) rfl ⟨HF.out.2.1.2.2.2.2.2.setCell (aq _) _,.inr ⟨uQ HC.out.1,out,HF.out.1,.inr ⟨by omega,AZ,cZ,rfl,?_⟩⟩⟩;exact bu HF.out.2.1.2.2.2.2.1 (Only.bp w3 w.heap.size 0 _) (fun g hg e=>by subst e;exact eD HF.out.2.1.2.2.2.2.1 HF.out.2.1.1 (by decide) hg)
end
end Go.Proofs.YtagemonojdgbdaaGreatDoor
