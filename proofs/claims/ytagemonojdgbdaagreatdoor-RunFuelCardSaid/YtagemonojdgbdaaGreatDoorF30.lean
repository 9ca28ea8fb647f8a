import Derived.Test.YtagemonojdgbdaaGreatDoorF08
import Derived.Test.YtagemonojdgbdaaGreatDoorF25
import Derived.Test.YtagemonojdgbdaaGreatDoorF26
import Derived.Lib.ItoaNum
namespace Go.Proofs.YtagemonojdgbdaaGreatDoor
set_option maxRecDepth 100000
set_option maxHeartbeats 16000000
open Go.RowKit
theorem iQ{w:World}{b:Nat}{l:List Cl}{cs:Array Value}{t:TypeId}{F:Nat->Prop}(h:w.heap[b]?=some (.cells cs t (0,0)))(he:cs.toList=(l.map Cl.cells).flatten)(hF:F b)(hl:l.length<=maxLen):dJ w F (.slice (some ⟨b,0,none⟩) l.length l.length) l:=by refine⟨_,_,_,rfl,by simp,aq _,hl,fun _=>⟨b,0,rfl,hF,fun i x hi j u hj=>?_⟩⟩;have h1:=jl (di l) i x hi j u hj;rw[<-he]at h1;rw[gn];simp[World.cell?,h];simpa using h1
theorem sJ{P:Program}{w:World}{ops:Array Oper}{o:Oper}{a:Act}{K:Act->World->Prop}{Q:Exit->Act->World->Prop}{E:Prop}(hgd:o.guard=none)(s x:Operand)(t:TypeId)
  (ho:o.op=.call {callee:=.builtin .append,args:= #[s,x],argTypes:= #[t,t]})
  (base:Nat) (e:TypeId) (i:TypeInfo) (z:Value) (k bytes:Nat) (ht:P.underlying t=some (.slice e)) (hi:P.info? e=some i) (hz:i.zero=some z)
  (hsize:i.size=k) (hby:i.bytes=bytes) (hzs:z.cells.size=k) (dX:0<k)
  (v:Value) (n:Nat) (xs:List Value) (hs:a.eval s=v) (hown:w.ownsRow base e k v n xs) (F:Nat->Prop) (vx:Value) (news:List (List Value)) (hx:a.eval x=vx) (hr:cd k w F vx news) (hk: ∀y∈news,y.length=k) (h1: ∀u∈news.flatten,u.oneCell'=true)
  (hbytes:(n+news.length)*bytes<=140737488355328) (h63:n+news.length<=maxLen) (hbase:base<=w.heap.size)
  (h: ∀v' w',w'.ownsRow base e k v' (n+news.length) (xs++news.flatten)->w.grownBy w' v.ownBlock->(v'.ownBlock=v.ownBlock\/v'.ownBlock=some w.heap.size)->K (a.put o.dst v') w'):
  if Region.wanted o (yielded ops a.tmps)=true then Oper.wp P o a w K Q else E:=by
 have hw:Region.wanted o (yielded ops a.tmps)=true:=by simp[Region.wanted,hgd]
 rw[fi hw];obtain⟨v',w',hrun,h2,h3,h4⟩:=jM (P:=P) w base t o.type e i z k bytes ht hi hz hsize hby hzs dX v n xs hown F vx news hr hk h1 hbytes h63 hbase;unfold Oper.wp execOp;simp only[ho,resolve,invoke,builtin,Sem.run_bind,Sem.run_pure,Result.andThen_ok,List.map_toArray,lx,kb,hs,hx,hrun];exact h v' w' h2 h3 h4
def wX(l:List Cl)(w:World)(v:Value)(n:Int)(w':World):Prop:=
 Below w.heap.size w w'/\((pd l≠0/\v=.slice none 0 0/\n=pd l)\/(pd l=0/\ ∃out,gH l out/\((64<out.length/\v=.slice none 0 0/\n=23)\/
  (out.length<=64/\n=0/\ ∃A c,v=.slice A out.length c/\w'.ownsRow w.heap.size 48 5 (.slice A out.length c) out.length (out.map Cl.cells).flatten))))
theorem LP.named{l:List Cl}{w w':World}{e:Ending}(h:LP l w e w'): ∃v n,e=.returned (.tuple #[.agg #[v],.int .i64 n])/\wX l w v n w':=by
 obtain⟨hb,⟨h1,rfl⟩|⟨h1,out,h2,⟨h3,rfl⟩|⟨h3,A,c,rfl,h4⟩⟩⟩:=h
 ·exact⟨_,_,rfl,hb,.inl ⟨h1,rfl,rfl⟩⟩
 ·exact⟨_,_,rfl,hb,.inr ⟨h1,out,h2,.inl ⟨h3,rfl,rfl⟩⟩⟩
 ·exact⟨_,_,rfl,hb,.inr ⟨h1,out,h2,.inr ⟨h3,rfl,A,c,rfl,h4⟩⟩⟩
theorem wX.SA{l:List Cl}{w w':World}{v:Value}{n:Int}(h:wX l w v n w'):LP l w (.returned (.tuple #[.agg #[v],.int .i64 n])) w':=by
 obtain⟨hb,⟨h1,rfl,rfl⟩|⟨h1,out,h2,⟨h3,rfl,rfl⟩|⟨h3,rfl,A,c,rfl,h4⟩⟩⟩:=h
 ·exact⟨hb,.inl ⟨h1,rfl⟩⟩
 ·exact⟨hb,.inr ⟨h1,out,h2,.inl ⟨h3,rfl⟩⟩⟩
 ·exact⟨hb,.inr ⟨h1,out,h2,.inr ⟨h3,A,c,rfl,h4⟩⟩⟩
theorem wX.slice{l:List Cl}{w w':World}{v:Value}{n:Int}(h:wX l w v n w'): ∃A m c,v=.slice A m c:=by
 rcases h.2 with⟨_,rfl,_⟩|⟨_,out,_,⟨_,rfl,_⟩|⟨_,_,A,c,rfl,_⟩⟩
 ·exact⟨_,_,_,rfl⟩
 ·exact⟨_,_,_,rfl⟩
 ·exact⟨_,_,_,rfl⟩
theorem wX.set{l:List Cl}{w w':World}{v:Value}{n:Int}(h:wX l w v n w'){B:Nat}{t:TypeId}{cs:Array Value}{fr:Nat×Nat}(hB:w'.heap[B]?=some (.cells cs t fr))(ht:(48:TypeId)≠t){w0:World}(hw:Below w0.heap.size w0 w)(hB0:w0.heap.size<=B)(u:Value):wX l w0 v n (w'.setCell ⟨B,0,none⟩ u):=by
 refine⟨(hw.trans (h.1.mono hw.size)).setCell hB0 _,?_⟩;rcases h.2 with h1|⟨h1,out,h2,h3|⟨h3,rfl,A,c,rfl,h4⟩⟩
 ·exact .inl h1
 ·exact .inr ⟨h1,out,h2,.inl h3⟩
 ·exact .inr ⟨h1,out,h2,.inr ⟨h3,rfl,A,c,rfl,bu (dW h4 (fun g hg=>de hw.size (h4.lt g hg).1)) (Only.bp w' B 0 u) (fun g hg e=>by subst e;exact eD h4 hB ht hg)⟩⟩
theorem Pv(w:World)(F G:Nat->Prop)(v u:Value)(a b:List Cl)(ha:dJ w F v a)(hb:dJ w G u b)(Kk:a.length<=500)(hlb:b.length<=500)(Dw: ∀c∈a,c.fits)(Zv: ∀c∈b,c.fits):
  Calls Tryz.prog 177 #[.agg #[v],.agg #[u]] w (LP (a++b) w):=by
 obtain⟨i2,hi2,hy0,hy1,hy2⟩:=eC Tryz.l7;obtain⟨A,c,rfl,hnc,hcm⟩:=ha.slice;obtain⟨B,d,rfl,hnd,XR⟩:=hb.slice;have H:=al (ab ha hb);have O7:=al hi2;clear ha hb hi2;go_enter Tryz.func177,Tryz.ntmps177;go_wp2_with fail;have ht:=(Two.start w (.slice A a.length c) (.slice B b.length d)).alloc (.cells #[.slice none 0 0] 87);have hs0:(((w.alloc (.cells #[.slice A a.length c] 87)).alloc (.cells #[.slice B b.length d] 87)).alloc (.cells #[.slice none 0 0] 87)).heap.size=w.heap.size+1+1+1:=by simp
 have Gc:=Ij w (.cells #[.slice A a.length c] 87) (.cells #[.slice B b.length d] 87) (.cells #[.slice none 0 0] 87);generalize ((w.alloc (.cells #[.slice A a.length c] 87)).alloc (.cells #[.slice B b.length d] 87)).alloc (.cells #[.slice none 0 0] 87)=W0 at ht hs0 Gc⊢;have hc0:=bO ht.2.1;have hc1:=bO ht.2.2;have hl0:w.heap.size<W0.heap.size:=by omega
 have xz:w.heap.size+1<W0.heap.size:=by omega
 have hl2:w.heap.size+1+1<W0.heap.size:=by omega
 have HW:=al (ab ht.1 (ab hs0 Gc));have tF:w.heap.size+1+1≠w.heap.size:=by omega
 have nZ:w.heap.size+1+1≠w.heap.size+1:=by omega
 clear ht hs0 Gc
 go_region_held3 (fun w'=>w'.cell? ⟨w.heap.size,0,none⟩=some (.slice A a.length c)/\w'.cell? ⟨w.heap.size+1,0,none⟩=some (.slice B b.length d)) (first|exact⟨by assumption,by assumption⟩|go_keep|exact⟨(World.cell?_setCell_far _ _ _ _ tF).trans (by assumption),(World.cell?_setCell_far _ _ _ _ nZ).trans (by assumption)⟩)
  (first|(go_at_call 52;refine(IX _ F _ a (cd.below H.out.1 HW.out.1.drew) (by omega)).mono ?_;rintro e w1 ⟨A1,c1,rfl,TD,hb1⟩;have Pw:Below W0.heap.size W0 w1:=mQ hb1;have k0:=(Pw.cell (p:=⟨w.heap.size,0,none⟩) hl0).trans hc0;have k1:=(Pw.cell (p:=⟨w.heap.size+1,0,none⟩) xz).trans hc1;have H1:=al (ab TD Pw);clear TD hb1 Pw)|(go_at_call 37;refine(EE _ (fun _=>True) v2 (a++b) (cd.cP H2.out.1 (di _) (by decide) (fun _ _=>trivial)) (by simp;omega) (fun c hc=>(dy.1 hc).elim (Dw c) (Zv c))).mono ?_;intro e w3 mH;obtain⟨v3,n3,rfl,AJ⟩:=mH.named;obtain⟨A3,m3,c3,rfl⟩:=AJ.slice;have hb3:=H2.out.2.trans (AJ.1.mono H2.out.2.size);have i0:=(hb3.cell (p:=⟨w.heap.size,0,none⟩) hl0).trans hc0;have i1:=(hb3.cell (p:=⟨w.heap.size+1,0,none⟩) xz).trans hc1;have SB:=(hb3.block _ hl2).trans HW.out.2.2;have i3:=bO SB;have i4:=fq SB;have H3:=al (ab AJ (ab hb3 SB));clear AJ hb3 SB mH)|(refine sJ (by rfl) _ _ 37 (by rfl) W0.heap.size 48 i2 _ 5 48 Tryz.underlying37 O7.out hy0 hy1 hy2 (by rfl) (by decide) (.slice A1 a.length c1) a.length _ (by rfl) H1.out.1 G (.slice B b.length d) (b.map Cl.cells) (by rfl) (cd.below H.out.2 (HW.out.1.trans (H1.out.2.mono (by omega)))) (di _) (kY _) (by rw[fb];omega) (by rw[fb];unfold maxLen;omega) H1.out.2.size ?_;intro v2 w2 AK hg2 L3;have hb2:Below W0.heap.size W0 w2:=H1.out.2.grown hg2 H1.out.2.size (fun j hj=>(H1.out.1.lt j hj).1);have j0:=(hb2.cell (p:=⟨w.heap.size,0,none⟩) hl0).trans hc0;have j1:=(hb2.cell (p:=⟨w.heap.size+1,0,none⟩) xz).trans hc1;have Wf:w2.ownsRow W0.heap.size 48 5 v2 (a++b).length ((a++b).map Cl.cells).flatten:=(by simpa using AK);have H2:=al (ab Wf hb2);clear AK hg2 L3 Wf hb2))
 obtain⟨AJ,hb3,SB⟩:=H3.out;have hh:=dr w3 (w.heap.size+1+1) 0 _ _ (.slice A3 m3 c3) SB;clear i0 i1 i3 i4 j0 j1 k0 k1;go_wp2_with fail;refine dq (aC rfl _ _ _ _ _ _ _ rfl hh Tryz.underlying87 rfl (by kernel_rfl)) rfl ?_;exact(AJ.set (w0:=w) SB (by decide) (HW.out.1.trans (H2.out.2.mono (by have:=HW.out.2.1;omega))) (by omega) _).SA
def Good(l:List Cl):Prop:= ∀c∈l,Ok c/\c.fits
theorem Cl.SC{c:Cl}(h:Ok c):c.has (c.aK,c.key,c.lo):=⟨rfl,rfl,eE _,h.proper⟩
theorem Cl.SD{c:Cl}(h:Ok c):c.has (c.aK,c.key,c.hi):=⟨rfl,rfl,h.proper,eE _⟩
theorem I7{l out:List Cl}(h:gH l out)(hg:Good l):Good out:=by
 have hp: ∀t,1<=eJ out t-> ∃c∈l,c.has t:=fun t ht=>cC.1 (by rw[<-h.2];exact ht);obtain⟨⟨ks,W,R,rfl,hk,hn⟩,_⟩:=h;intro c hc;rcases cU.1 hc with⟨x,hx,rfl⟩|⟨i,h0,h4,hi⟩
 ·obtain⟨d,hd,hh⟩:=hp (-1,x.2,0) (cC.2 ⟨wQ x,hc,gG.2 rfl⟩);obtain⟨ho,hf⟩:=hg d hd;have hkey:d.key=x.2:=hh.2.1;have IV:d.aK= -1:=hh.1;rcases ho.parts with hpt|hpt
  ·exact⟨Ok.of (.inl ⟨rfl,rfl,rfl,by show 1<=x.2.length/\x.2.length<=16;rw[<-hkey];exact hpt.2.2.2⟩),by
    have:=hf.2.2.2;rw[hkey]at this
    exact⟨by unfold jN wQ;simp,by unfold jN wQ;simp,by unfold jN wQ;simp,this⟩⟩
  ·omega
 ·have IV:c.aK=i/\c.key=[]/\c.lo<=c.hi:=by
   rcases fS.1 hi with⟨x,hx,rfl⟩|⟨x,hx,rfl⟩
   ·exact⟨rfl,rfl,(hn i h0 h4).1.1 x hx⟩
   ·exact⟨rfl,rfl,(hn i h0 h4).2.1.1 x hx⟩
  have hok:Ok c:=Ok.of (.inr ⟨by omega,by omega,IV.2.1,IV.2.2⟩);obtain⟨d,hd,hh⟩:=hp _ (cC.2 ⟨c,hc,Cl.SC hok⟩);obtain⟨d',hd',hh'⟩:=hp _ (cC.2 ⟨c,hc,Cl.SD hok⟩);have f1:=(hg d hd).2;have f2:=(hg d' hd').2;have g1:=hh.2.2;have g2:=hh'.2.2;simp only at g1 g2;unfold Cl.fits jN at f1 f2;refine⟨hok,?_,?_,?_,?_⟩
  ·unfold jN;omega
  ·unfold jN;omega
  ·unfold jN;omega
  ·rw[IV.2.1];simp
theorem ER:gH [] []:=⟨⟨[],fun _=>[],fun _=>[],rfl,eh,fun i _ _=>⟨⟨fun x hx=>by simp at hx,eh⟩,⟨fun x hx=>by simp at hx,eh⟩,fun n h=>absurd h (dK n)⟩⟩,fun _=>rfl⟩
theorem gH.unique{l a b:List Cl}(h:gH l a)(h':gH l b):a=b:=Cs h.1 h'.1 (fun t=>(h.2 t).trans (h'.2 t).symm)
theorem gH.congr{l l' out:List Cl}(h:gH l out)(e: ∀t,eJ l' t=eJ l t):gH l' out:=⟨h.1,fun t=>(h.2 t).trans (e t).symm⟩
theorem Good.ok{l:List Cl}(h:Good l): ∀c∈l,Ok c:=fun c hc=>(h c hc).1
theorem Good.fits{l:List Cl}(h:Good l): ∀c∈l,c.fits:=fun c hc=>(h c hc).2
theorem Good.proper{l:List Cl}(h:Good l): ∀c∈l,c.lo<=c.hi:=fun c hc=>(h c hc).1.proper
theorem Good.append{a b:List Cl}(h:Good a)(h':Good b):Good (a++b):=fun c hc=>(dy.1 hc).elim (h c) (h' c)
theorem uT{c:Cl}{l:List Cl}:IY c l↔ ∀n,c.lo<=n->n<=c.hi->(if c.wr=true then 2 else 1)<=eJ l (c.aK,c.key,n):=by
 unfold IY;constructor
 ·intro h n h1 h2;obtain⟨d,hd,hc⟩:=h n h1 h2;split
  ·rename_i hw;have:=gg.2 ⟨d,hd,(⟨hc.1,hc.2.1,hc.2.2.2⟩:d.has (c.aK,c.key,n)),hc.2.2.1 hw⟩;omega
  ·exact cC.2 ⟨d,hd,(⟨hc.1,hc.2.1,hc.2.2.2⟩:d.has (c.aK,c.key,n))⟩
 ·intro h n h1 h2;have:=h n h1 h2;split at this
  ·rename_i hw;have hb:=ij l (c.aK,c.key,n);obtain⟨d,hd,hh,hdw⟩:=gg.1 (show eJ l (c.aK,c.key,n)=2 by omega);exact⟨d,hd,hh.1,hh.2.1,fun _=>hdw,hh.2.2⟩
  ·rename_i hw;obtain⟨d,hd,hh⟩:=cC.1 this;exact⟨d,hd,hh.1,hh.2.1,fun e=>absurd e hw,hh.2.2⟩
theorem uU{a b:List Cl}:ju a b↔ ∀t,eJ a t<=eJ b t:=by
 unfold ju;constructor
 ·intro h t;refine LH ?_ ?_
  ·rintro⟨c,hc,hh,hw⟩;have:=uT.1 (h c hc) t.2.2 hh.2.2.1 hh.2.2.2;rw[fi hw,hh.1,hh.2.1]at this;have hb:=ij b (t.1,t.2.1,t.2.2);exact gg.1 (show eJ b t=2 by obtain⟨t1,t2,t3⟩:=t;simp only at this hb⊢;omega)
  ·rintro⟨c,hc,hh⟩;have:=uT.1 (h c hc) t.2.2 hh.2.2.1 hh.2.2.2;rw[hh.1,hh.2.1]at this;exact cC.1 (show 1<=eJ b t by obtain⟨t1,t2,t3⟩:=t;simp only at this⊢;split at this<;>omega)
 ·intro h c hc;refine uT.2 fun n h1 h2=>?_;have hh:c.has (c.aK,c.key,n):=⟨rfl,rfl,h1,h2⟩;have:=h (c.aK,c.key,n);split
  ·rename_i hw;have:=gg.2 ⟨c,hc,hh,hw⟩;omega
  ·have:=cC.2 ⟨c,hc,hh⟩;omega
def pH:List (List UInt8)->List (List UInt8)
 |[]=>[]
 |k::l=>if k∈l then pH l else k::pH l
theorem mA{k:List UInt8}: ∀{l:List (List UInt8)},k∈pH l↔k∈l
 |[]=>Iff.rfl
 |a::l=>by
  unfold pH;split
  ·rename_i h;rw[mA,List.mem_cons];constructor
   ·exact .inr
   ·rintro(rfl|h')
    ·exact h
    ·exact h'
  ·rw[List.mem_cons,List.mem_cons,mA]
theorem mB: ∀(l:List (List UInt8)),(pH l).Nodup
 |[]=>List.nodup_nil
 |a::l=>by
  unfold pH;split
  ·exact mB l
  ·rename_i h;exact List.nodup_cons.2 ⟨fun h'=>h (mA.1 h'),mB l⟩
def Px(l:List Cl):List (List UInt8):=pH ((l.filter fun c=>c.aK== -1).map Cl.key)
def zP(s:List (Int×Int)):List (Int×Int):=s.mergeSort fun a b=>decide (a.1<=b.1)
theorem sk(s:List (Int×Int)):(zP s).Perm s:=List.mergeSort_perm _ _
theorem pg(s:List (Int×Int)):jU (zP s):=by have:=List.pairwise_mergeSort (le:=fun a b:Int×Int=>decide (a.1<=b.1)) (fun a b c h h'=>by simp at h h'⊢;omega) (fun a b=>by simp;omega) s;exact this.imp (fun h=>by simpa using h)
def QT(l:List Cl)(i:Int):List (Int×Int):=cw (zP (cG l i true))
def Wh(l:List Cl)(i:Int):List (Int×Int):=bJ (cw (zP (cG l i false))) (QT l i)
def aV(l:List Cl):List Cl:=((Px l).mergeSort fun x y=>decide (x<=y)).map (yn fun key=>eJ l (-1,key,0))++iZ (QT l) (Wh l) 4
theorem qy{l:List Cl}(hl: ∀c∈l,Ok c):gH l (aV l):=by
 refine yw hl (mB _) (fun k=>?_) rfl (fun i _=>CD hl (sk _) (sk _) (pg _) (pg _));rw[mA,List.mem_map];have hb:=ij l (-1,k,0);constructor
 ·rintro⟨c,hc,rfl⟩;simp only[List.mem_filter,beq_iff_eq]at hc;have h1:=(hl c hc.1).parts;have:1<=eJ l (-1,c.key,0):=cC.2 ⟨c,hc.1,hc.2,rfl,by show c.lo<=0;omega,by show 0<=c.hi;omega⟩;omega
 ·intro h;obtain⟨c,hc,h1,h2,h3,h4⟩:=cC.1 (show 1<=eJ l (-1,k,0) by omega);exact⟨c,by simp only[List.mem_filter,beq_iff_eq];exact⟨hc,h1⟩,h2⟩
theorem jv{l out:List Cl}(hl: ∀c∈l,Ok c)(h:gH l out):out=aV l:=h.unique (qy hl)
theorem ik{l:List Cl}(hl:Good l):Good (aV l):=I7 (qy hl.ok) hl
theorem lJ{l:List Cl}(hl: ∀c∈l,Ok c)(t:kM):eJ (aV l) t=eJ l t:=(qy hl).2 t
theorem su{a b:List Cl}(ha: ∀c∈a,Ok c)(hb: ∀c∈b,Ok c)(h: ∀t,eJ a t=eJ b t):aV a=aV b:=
 jv hb ((qy ha).congr (fun t=>(h t).symm))
theorem yx:aV []=[]:=(jv (fun c hc=>by simp at hc) ER).symm
theorem CJ{a b:List Cl}(hg:Good a)(hb: ∀c∈b,Ok c):aV (aV a++b)=aV (a++b):=by have ha:=hg.ok;have hn: ∀c∈aV a,Ok c:=(ik hg).ok;refine su (fun c hc=>(dy.1 hc).elim (hn c) (hb c)) (fun c hc=>(dy.1 hc).elim (ha c) (hb c)) (fun t=>?_);rw[mh,mh,lJ ha]
theorem zQ{a b:List Cl}(ha: ∀c∈a,Ok c)(hb: ∀c∈b,Ok c)(h:ju (aV b) (aV a)):aV (a++b)=aV a:=by refine su (fun c hc=>(dy.1 hc).elim (ha c) (hb c)) ha (fun t=>?_);have:=uU.1 h t;rw[lJ ha,lJ hb]at this;rw[mh];omega
theorem wX.norm{l:List Cl}{w w':World}{v:Value}{n:Int}(h:wX l w v n w')(ho: ∀c∈l,Ok c):
  (64<(aV l).length/\v=.slice none 0 0/\n=23)\/((aV l).length<=64/\n=0/\ ∃A c,v=.slice A (aV l).length c/\w'.ownsRow w.heap.size 48 5 (.slice A (aV l).length c) (aV l).length ((aV l).map Cl.cells).flatten):=by
 rcases h.2 with⟨h1,_⟩|⟨_,out,h2,h3⟩
 ·exact absurd (uQ ho) h1
 ·obtain rfl:=jv ho h2;exact h3
theorem iq:cy []:=⟨fun x hx=>by simp at hx,eh⟩
theorem uV{x:Int×Int}(h:x.1<=x.2):cy [x]:=⟨fun y hy=>by rw[fl]at hy;subst hy;exact h,List.pairwise_singleton _ _⟩
theorem Me{c:Cl}(h:Ok c):gH [c] [c]:=by
 refine⟨?_,fun _=>rfl⟩;obtain⟨wr,aK,key,lo,hi⟩:=c;rcases h.parts with⟨rfl,rfl,rfl,_⟩|⟨h0,h4,rfl,hle⟩
 ·exact⟨[(wr,key)],fun _=>[],fun _=>[],rfl,List.pairwise_singleton _ _,fun i _ _=>⟨iq,iq,fun n hn=>absurd hn (dK n)⟩⟩
 ·simp only at h0 h4 hle;cases wr
  ·refine⟨[],fun _=>[],fun i=>if i=aK then[(lo,hi)]else[],?_,eh,fun i _ _=>⟨iq,?_,fun n hn=>absurd hn (dK n)⟩⟩
   ·have:aK=0\/aK=1\/aK=2\/aK=3:=by omega
    rcases this with rfl|rfl|rfl|rfl<;>rfl
   ·by_cases e:i=aK
    ·simp only[e,if_true];exact uV hle
    ·simp only[e,if_false];exact iq
  ·refine⟨[],fun i=>if i=aK then[(lo,hi)]else[],fun _=>[],?_,eh,fun i _ _=>⟨?_,iq,fun n _ hn=>absurd hn (dK n)⟩⟩
   ·have:aK=0\/aK=1\/aK=2\/aK=3:=by omega
    rcases this with rfl|rfl|rfl|rfl<;>rfl
   ·by_cases e:i=aK
    ·simp only[e,if_true];exact uV hle
    ·simp only[e,if_false];exact iq
theorem lK{c:Cl}(h:Ok c):aV [c]=[c]:=(jv (fun x hx=>by rw[fl]at hx;subst hx;exact h) (Me h)).symm
def aI(n:Int):Prop:= -1099511627776<=n/\n<=1099511627776
theorem aI.i64{n:Int}(h:aI n):jN n:=⟨by have:=h.1;omega,by have:=h.2;omega⟩
theorem jX: ∀(k m:Nat),m<10^(k+1)->Lib.nDigits m<=k+1
 |0,m,h=>by rw[Lib.nDigits_small (by simpa using h)];omega
 |k+1,m,h=>by
  by_cases hm:m<10
  ·rw[Lib.nDigits_small hm];omega
  ·rw[Lib.nDigits_big hm];have:=jX k (m/10) (by rw[Nat.div_lt_iff_lt_mul (by omega)];rw[<-Nat.pow_succ];exact h);omega
theorem gI{n:Int}(h:aI n):1<=(Lib.itoa n).length/\(Lib.itoa n).length<=16:=by
 unfold Lib.itoa;split
 ·have h1:=jX 14 n.natAbs (by have:=h.1;omega);rw[iS,Lib.decDigits_length];omega
 ·have h1:=jX 15 n.toNat (by have:=h.2;omega);have h2:=Lib.nDigits_pos n.toNat;rw[Lib.decDigits_length];omega
theorem uW{n:Int}(h:aI n):cQ (Lib.itoa n)=0:=by have:=gI h;unfold cQ;rw[ff (by omega)]
def fK(n:Int):Cl:=⟨false,-1,Lib.itoa n,0,0⟩
theorem jY{n:Int}(h:aI n):Good [fK n]:=by have hl:=gI h;intro c hc;rw[fl]at hc;subst hc;refine⟨?_,⟨by unfold fK jN;simp,by unfold fK jN;simp,by unfold fK jN;simp,by unfold fK maxLen;simp only;omega⟩⟩;unfold Ok BS fK;simp[uW h]
structure PS (R:Type) where
 pc:Int
 bj:Nat->Int
 steps:Int
 cl:List Cl
 value:Int
 rows:R
section
variable{R:Type}
def bg(fuel:Int)(ops:List aH)(act:aH->PS R->PS R×Int)(tt:Int):Nat->PS R->PS R×Int
 |0,s=>(s,0)
 |g+1,s=>
  if s.pc<tt then
   if fuel<=s.steps then(s,20)
   else match ops[s.pc.toNat]? with
    |none=>(s,0)
    |some x=>
     let p:=act x {s with steps:=s.steps+1,pc:=s.pc+1}
     if p.2=0 then bg fuel ops act tt g p.1 else p
  else(s,0)
variable{fuel:Int}{ops:List aH}{act:aH->PS R->PS R×Int}{tt:Int}{g:Nat}{s:PS R}
theorem mC(h:tt<=s.pc):bg fuel ops act tt g s=(s,0):=by
 cases g with
 |zero=>rfl
 |succ g=>rw[bg,ff (by omega)]
theorem pI(h:s.pc<tt)(hf:fuel<=s.steps):bg fuel ops act tt (g+1) s=(s,20):=by rw[bg,fi h,fi hf]
theorem I8{x:aH}{s':PS R}(h:s.pc<tt)(hf:s.steps<fuel)(hx:ops[s.pc.toNat]?=some x)(ha:act x {s with steps:=s.steps+1,pc:=s.pc+1}=(s',0)):bg fuel ops act tt (g+1) s=bg fuel ops act tt g s':=by rw[bg,fi h,ff (by omega),hx];simp only[ha,if_true]
theorem CK{x:aH}{s':PS R}{n:Int}(h:s.pc<tt)(hf:s.steps<fuel)(hx:ops[s.pc.toNat]?=some x)(ha:act x {s with steps:=s.steps+1,pc:=s.pc+1}=(s',n))(hn:n≠0):bg fuel ops act tt (g+1) s=(s',n):=by rw[bg,fi h,ff (by omega),hx];simp only[ha,ff hn]
end
def aR(n:Int):Int:=max (-1099511627776) (min n 1099511627776)
theorem jB(n:Int):aI (aR n):=by unfold aR aI;omega

theorem I9{p q:List Cl}(h:p<+:q)(hq:Good q):ju (aV p) (aV q):=by have hp:Good p:=fun c hc=>hq c (h.subset hc);rw[uU];intro t;rw[lJ hp.ok,lJ hq.ok];exact zJ (fun c hc=>h.subset hc) t
end Go.Proofs.YtagemonojdgbdaaGreatDoor
