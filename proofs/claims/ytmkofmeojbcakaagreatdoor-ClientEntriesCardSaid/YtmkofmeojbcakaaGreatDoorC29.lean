import Derived.Test.YtmkofmeojbcakaaGreatDoorC09
import Derived.Test.YtmkofmeojbcakaaGreatDoorC27
import Derived.Lib.ItoaNum
namespace Go.Proofs.YtmkofmeojbcakaaGreatDoor
open Go.Proofs.Tryz
set_option maxRecDepth 100000
set_option maxHeartbeats 16000000
open Go.RowKit
theorem lY{w:World}{b:Nat}{l:List Cl}{cs:Array Value}{t:TypeId}{F:Nat->Prop}(h:w.heap[b]?=some (.cells cs t (0,0)))(he:cs.toList=(l.map Cl.cells).flatten)(hF:F b)(hl:l.length<=maxLen):eG w F (.slice (some ⟨b,0,none⟩) l.length l.length) l:=by refine⟨_,_,_,rfl,by simp,aE _,hl,fun _=>⟨b,0,rfl,hF,fun i x hi j u hj=>?_⟩⟩;have h1:=lI (cO l) i x hi j u hj;rw[<-he]at h1;rw[gx];simp[World.cell?,h];simpa using h1
theorem EA{l:List Cl}{w':World}{base:Nat}{A:Option Addr}{c:Nat}(h:w'.ownsRow base 107 5 (.slice A l.length c) l.length (l.map Cl.cells).flatten):eG w' (fun _=>True) (.slice A l.length c) l:=
 aS.aU h (cO _) (by decide) (fun _ _=>trivial)
theorem vq{P:Program}{w:World}{ops:Array Oper}{o:Oper}{a:Act}{K:Act->World->Prop}{Q:Exit->Act->World->Prop}{E:Prop}(hgd:o.guard=none)(s x:Operand)(t:TypeId)
  (ho:o.op=.call {callee:=.builtin .append,args:= #[s,x],argTypes:= #[t,t]})
  (base:Nat) (e:TypeId) (i:TypeInfo) (z:Value) (k bytes:Nat) (ht:P.underlying t=some (.slice e)) (hi:P.info? e=some i) (hz:i.zero=some z)
  (hsize:i.size=k) (hby:i.bytes=bytes) (hzs:z.cells.size=k) (eQ:0<k)
  (v:Value) (n:Nat) (xs:List Value) (hs:a.eval s=v) (hown:w.ownsRow base e k v n xs) (F:Nat->Prop) (vx:Value) (news:List (List Value)) (hx:a.eval x=vx) (hr:aS k w F vx news) (hk: ∀y∈news,y.length=k) (h1: ∀u∈news.flatten,u.oneCell'=true)
  (hbytes:(n+news.length)*bytes<=140737488355328) (h63:n+news.length<=maxLen) (hbase:base<=w.heap.size)
  (h: ∀v' w',w'.ownsRow base e k v' (n+news.length) (xs++news.flatten)->w.grownBy w' v.ownBlock->(v'.ownBlock=v.ownBlock\/v'.ownBlock=some w.heap.size)->K (a.put o.dst v') w'):
  if Region.wanted o (yielded ops a.tmps)=true then Oper.wp P o a w K Q else E:=by
 have hw:Region.wanted o (yielded ops a.tmps)=true:=by simp[Region.wanted,hgd]
 rw[fi hw];obtain⟨v',w',hrun,h2,h3,h4⟩:=kj (P:=P) w base t o.type e i z k bytes ht hi hz hsize hby hzs eQ v n xs hown F vx news hr hk h1 hbytes h63 hbase;unfold Oper.wp execOp;simp only[ho,resolve,invoke,builtin,Sem.run_bind,Sem.run_pure,Result.andThen_ok,List.map_toArray,lp,kc,hs,hx,hrun];exact h v' w' h2 h3 h4
def vt(l:List Cl)(w:World)(v:Value)(n:Int)(w':World):Prop:=
 Below w.heap.size w w'/\((iH l≠0/\v=.slice none 0 0/\n=iH l)\/(iH l=0/\ ∃out,eI l out/\((64<out.length/\v=.slice none 0 0/\n=23)\/
  (out.length<=64/\n=0/\ ∃A c,v=.slice A out.length c/\w'.ownsRow w.heap.size 107 5 (.slice A out.length c) out.length (out.map Cl.cells).flatten))))
theorem OJ.named{l:List Cl}{w w':World}{e:Ending}(h:OJ l w e w'): ∃v n,e=.returned (.tuple #[.agg #[v],.int .i64 n])/\vt l w v n w':=by
 obtain⟨hb,⟨h1,rfl⟩|⟨h1,out,h2,⟨h3,rfl⟩|⟨h3,A,c,rfl,h4⟩⟩⟩:=h
 ·exact⟨_,_,rfl,hb,.inl ⟨h1,rfl,rfl⟩⟩
 ·exact⟨_,_,rfl,hb,.inr ⟨h1,out,h2,.inl ⟨h3,rfl,rfl⟩⟩⟩
 ·exact⟨_,_,rfl,hb,.inr ⟨h1,out,h2,.inr ⟨h3,rfl,A,c,rfl,h4⟩⟩⟩
theorem vt.V5{l:List Cl}{w w':World}{v:Value}{n:Int}(h:vt l w v n w'):OJ l w (.returned (.tuple #[.agg #[v],.int .i64 n])) w':=by
 obtain⟨hb,⟨h1,rfl,rfl⟩|⟨h1,out,h2,⟨h3,rfl,rfl⟩|⟨h3,rfl,A,c,rfl,h4⟩⟩⟩:=h
 ·exact⟨hb,.inl ⟨h1,rfl⟩⟩
 ·exact⟨hb,.inr ⟨h1,out,h2,.inl ⟨h3,rfl⟩⟩⟩
 ·exact⟨hb,.inr ⟨h1,out,h2,.inr ⟨h3,A,c,rfl,h4⟩⟩⟩
theorem vt.slice{l:List Cl}{w w':World}{v:Value}{n:Int}(h:vt l w v n w'): ∃A m c,v=.slice A m c:=by
 rcases h.2 with⟨_,rfl,_⟩|⟨_,out,_,⟨_,rfl,_⟩|⟨_,_,A,c,rfl,_⟩⟩
 ·exact⟨_,_,_,rfl⟩
 ·exact⟨_,_,_,rfl⟩
 ·exact⟨_,_,_,rfl⟩
theorem vt.set{l:List Cl}{w w':World}{v:Value}{n:Int}(h:vt l w v n w'){B:Nat}{t:TypeId}{cs:Array Value}{fr:Nat×Nat}(hB:w'.heap[B]?=some (.cells cs t fr))(ht:(107:TypeId)≠t){w0:World}(hw:Below w0.heap.size w0 w)(hB0:w0.heap.size<=B)(u:Value):vt l w0 v n (w'.setCell ⟨B,0,none⟩ u):=by
 refine⟨(hw.x (h.1.m hw.size)).setCell hB0 _,?_⟩;rcases h.2 with h1|⟨h1,out,h2,h3|⟨h3,rfl,A,c,rfl,h4⟩⟩
 ·exact .inl h1
 ·exact .inr ⟨h1,out,h2,.inl h3⟩
 ·exact .inr ⟨h1,out,h2,.inr ⟨h3,rfl,A,c,rfl,aT (dM h4 (fun g hg=>da hw.size (h4.lt g hg).1)) (Only.aN w' B 0 u) (fun g hg e=>by subst e;exact cN h4 hB ht hg)⟩⟩
theorem SE(w:World)(F G:Nat->Prop)(v u:Value)(a b:List Cl)(ha:eG w F v a)(hb:eG w G u b)(MU:a.length<=500)(hlb:b.length<=500)(Fw: ∀c∈a,c.fits)(hfb: ∀c∈b,c.fits):
  Calls prog 184 #[.agg #[v],.agg #[u]] w (OJ (a++b) w):=by
 obtain⟨i2,hi2,hy0,hy1,hy2⟩:=ep Tryz.sZ;obtain⟨A,c,rfl,hnc,hcm⟩:=ha.slice;obtain⟨B,d,rfl,hnd,hdm⟩:=hb.slice;have H:=al (ab ha hb);have SB:=al hi2;clear ha hb hi2;go_enter func184,ntmps184;go_wp2;have ht:=(Two.start w (.slice A a.length c) (.slice B b.length d)).alloc (.cells #[.slice none 0 0] 48);have hs0:(((w.alloc (.cells #[.slice A a.length c] 48)).alloc (.cells #[.slice B b.length d] 48)).alloc (.cells #[.slice none 0 0] 48)).heap.size=w.heap.size+1+1+1:=by simp
 have Jc:=Kl w (.cells #[.slice A a.length c] 48) (.cells #[.slice B b.length d] 48) (.cells #[.slice none 0 0] 48);generalize ((w.alloc (.cells #[.slice A a.length c] 48)).alloc (.cells #[.slice B b.length d] 48)).alloc (.cells #[.slice none 0 0] 48)=W0 at ht hs0 Jc⊢;have hc0:=bK ht.2.1;have hc1:=bK ht.2.2;have hl0:w.heap.size<W0.heap.size:=by omega
 have C4:w.heap.size+1<W0.heap.size:=by omega
 have hl2:w.heap.size+1+1<W0.heap.size:=by omega
 have HW:=al (ab ht.1 (ab hs0 Jc));have sK:w.heap.size+1+1≠w.heap.size:=by omega
 have oC:w.heap.size+1+1≠w.heap.size+1:=by omega
 clear ht hs0 Jc
 go_region_held3 (fun w'=>w'.cell? ⟨w.heap.size,0,none⟩=some (.slice A a.length c)/\w'.cell? ⟨w.heap.size+1,0,none⟩=some (.slice B b.length d)) (first|exact⟨by assumption,by assumption⟩|go_keep|exact⟨(World.cell?_setCell_far _ _ _ _ sK).x (by assumption),(World.cell?_setCell_far _ _ _ _ oC).x (by assumption)⟩)
  (first|(go_at_call 28;refine(jU _ F _ a (aS.below H.o.1 HW.o.1.drew) (by omega)).m ?_;rintro e w1 ⟨A1,c1,rfl,XH,hb1⟩;have SF:Below W0.heap.size W0 w1:=nt hb1;have k0:=(SF.cell (p:=⟨w.heap.size,0,none⟩) hl0).x hc0;have k1:=(SF.cell (p:=⟨w.heap.size+1,0,none⟩) C4).x hc1;have H1:=al (ab XH SF);clear XH hb1 SF)|(go_at_call 44;refine(G1 _ (fun _=>True) v2 (a++b) (aS.aU H2.o.1 (cO _) (by decide) (fun _ _=>trivial)) (by simp;omega) (fun c hc=>(dy.1 hc).elim (Fw c) (hfb c))).m ?_;intro e w3 nS;obtain⟨v3,n3,rfl,Co⟩:=nS.named;obtain⟨A3,m3,c3,rfl⟩:=Co.slice;have hb3:=H2.o.2.x (Co.1.m H2.o.2.size);have i0:=(hb3.cell (p:=⟨w.heap.size,0,none⟩) hl0).x hc0;have i1:=(hb3.cell (p:=⟨w.heap.size+1,0,none⟩) C4).x hc1;have V6:=(hb3.block _ hl2).x HW.o.d;have i3:=bK V6;have i4:=dN V6;have H3:=al (ab Co (ab hb3 V6));clear Co hb3 V6 nS)|(refine vq (by rfl) _ _ 44 (by rfl) W0.heap.size 107 i2 _ 5 48 underlying44 SB.o hy0 hy1 hy2 (by rfl) (by decide) (.slice A1 a.length c1) a.length _ (by rfl) H1.o.1 G (.slice B b.length d) (b.map Cl.cells) (by rfl) (aS.below H.o.2 (HW.o.1.x (H1.o.2.m (by omega)))) (cO _) (qN _) (by rw[fa];omega) (by rw[fa];unfold maxLen;omega) H1.o.2.size ?_;intro v2 w2 CO hg2 yV;have hb2:Below W0.heap.size W0 w2:=H1.o.2.grown hg2 H1.o.2.size (fun j hj=>(H1.o.1.lt j hj).1);have j0:=(hb2.cell (p:=⟨w.heap.size,0,none⟩) hl0).x hc0;have j1:=(hb2.cell (p:=⟨w.heap.size+1,0,none⟩) C4).x hc1;have Z8:w2.ownsRow W0.heap.size 107 5 v2 (a++b).length ((a++b).map Cl.cells).flatten:=(by simpa using CO);have H2:=al (ab Z8 hb2);clear CO hg2 yV Z8 hb2))
 obtain⟨Co,hb3,V6⟩:=H3.o;have hh:=db w3 (w.heap.size+1+1) 0 _ _ (.slice A3 m3 c3) V6;clear i0 i1 i3 i4 j0 j1 k0 k1;go_wp2;refine dr (aB rfl _ _ _ _ _ _ _ rfl hh underlying48 rfl (by kernel_rfl)) rfl ?_;exact(Co.set (w0:=w) V6 (by decide) (HW.o.1.x (H2.o.2.m (by have:=HW.o.2.1;omega))) (by omega) _).V5
def Good(l:List Cl):Prop:= ∀c∈l,Ok c/\c.fits
theorem Cl.V7{c:Cl}(h:Ok c):c.has (c.aM,c.key,c.lo):=⟨rfl,rfl,eL _,h.proper⟩
theorem Cl.V8{c:Cl}(h:Ok c):c.has (c.aM,c.key,c.hi):=⟨rfl,rfl,h.proper,eL _⟩
theorem Lp{l out:List Cl}(h:eI l out)(hg:Good l):Good out:=by
 have hp: ∀t,1<=fo out t-> ∃c∈l,c.has t:=fun t ht=>cJ.1 (by rw[<-h.2];exact ht);obtain⟨⟨ks,W,R,rfl,hk,hn⟩,_⟩:=h;intro c hc;rcases dt.1 hc with⟨x,hx,rfl⟩|⟨i,h0,h4,hi⟩
 ·obtain⟨d,hd,hh⟩:=hp (-1,x.2,0) (cJ.2 ⟨yS x,hc,ia.2 rfl⟩);obtain⟨ho,hf⟩:=hg d hd;have hkey:d.key=x.2:=hh.2.1;have Li:d.aM= -1:=hh.1;rcases ho.parts with hpt|hpt
  ·exact⟨Ok.of (.inl ⟨rfl,rfl,rfl,by show 1<=x.2.length/\x.2.length<=16;rw[<-hkey];exact hpt.2.2.2⟩),by
    have:=hf.2.2.2;rw[hkey]at this
    exact⟨by unfold km yS;simp,by unfold km yS;simp,by unfold km yS;simp,this⟩⟩
  ·omega
 ·have Li:c.aM=i/\c.key=[]/\c.lo<=c.hi:=by
   rcases gq.1 hi with⟨x,hx,rfl⟩|⟨x,hx,rfl⟩
   ·exact⟨rfl,rfl,(hn i h0 h4).1.1 x hx⟩
   ·exact⟨rfl,rfl,(hn i h0 h4).2.1.1 x hx⟩
  have hok:Ok c:=Ok.of (.inr ⟨by omega,by omega,Li.2.1,Li.2.2⟩);obtain⟨d,hd,hh⟩:=hp _ (cJ.2 ⟨c,hc,Cl.V7 hok⟩);obtain⟨d',hd',hh'⟩:=hp _ (cJ.2 ⟨c,hc,Cl.V8 hok⟩);have f1:=(hg d hd).2;have f2:=(hg d' hd').2;have g1:=hh.2.2;have g2:=hh'.2.2;simp only at g1 g2;unfold Cl.fits km at f1 f2;refine⟨hok,?_,?_,?_,?_⟩
  ·unfold km;omega
  ·unfold km;omega
  ·unfold km;omega
  ·rw[Li.2.1];simp
theorem G6:eI [] []:=⟨⟨[],fun _=>[],fun _=>[],rfl,et,fun i _ _=>⟨⟨fun x hx=>by simp at hx,et⟩,⟨fun x hx=>by simp at hx,et⟩,fun n h=>absurd h (eo n)⟩⟩,fun _=>rfl⟩
theorem eI.unique{l a b:List Cl}(h:eI l a)(h':eI l b):a=b:=DD h.1 h'.1 (fun t=>(h.2 t).x (h'.2 t).symm)
theorem eI.congr{l l' out:List Cl}(h:eI l out)(e: ∀t,fo l' t=fo l t):eI l' out:=⟨h.1,fun t=>(h.2 t).x (e t).symm⟩
theorem Good.ok{l:List Cl}(h:Good l): ∀c∈l,Ok c:=fun c hc=>(h c hc).1
theorem Good.fits{l:List Cl}(h:Good l): ∀c∈l,c.fits:=fun c hc=>(h c hc).2
theorem Good.proper{l:List Cl}(h:Good l): ∀c∈l,c.lo<=c.hi:=fun c hc=>(h c hc).1.proper
theorem Good.append{a b:List Cl}(h:Good a)(h':Good b):Good (a++b):=fun c hc=>(dy.1 hc).elim (h c) (h' c)
theorem Good.nil:Good []:=fun c hc=>by simp at hc
theorem yh{c:Cl}{l:List Cl}:Kp c l↔ ∀n,c.lo<=n->n<=c.hi->(if c.wr=true then 2 else 1)<=fo l (c.aM,c.key,n):=by
 unfold Kp;constructor
 ·intro h n h1 h2;obtain⟨d,hd,hc⟩:=h n h1 h2;split
  ·rename_i hw;have:=gJ.2 ⟨d,hd,(⟨hc.1,hc.2.1,hc.2.2.2⟩:d.has (c.aM,c.key,n)),hc.2.2.1 hw⟩;omega
  ·exact cJ.2 ⟨d,hd,(⟨hc.1,hc.2.1,hc.2.2.2⟩:d.has (c.aM,c.key,n))⟩
 ·intro h n h1 h2;have:=h n h1 h2;split at this
  ·rename_i hw;have hb:=iT l (c.aM,c.key,n);obtain⟨d,hd,hh,hdw⟩:=gJ.1 (show fo l (c.aM,c.key,n)=2 by omega);exact⟨d,hd,hh.1,hh.2.1,fun _=>hdw,hh.2.2⟩
  ·rename_i hw;obtain⟨d,hd,hh⟩:=cJ.1 this;exact⟨d,hd,hh.1,hh.2.1,fun e=>absurd e hw,hh.2.2⟩
theorem G7{a b:List Cl}:nK a b↔ ∀t,fo a t<=fo b t:=by
 unfold nK;constructor
 ·intro h t;refine M7 ?_ ?_
  ·rintro⟨c,hc,hh,hw⟩;have:=yh.1 (h c hc) t.2.2 hh.2.2.1 hh.2.2.2;rw[fi hw,hh.1,hh.2.1]at this;have hb:=iT b (t.1,t.2.1,t.2.2);exact gJ.1 (show fo b t=2 by obtain⟨t1,t2,t3⟩:=t;simp only at this hb⊢;omega)
  ·rintro⟨c,hc,hh⟩;have:=yh.1 (h c hc) t.2.2 hh.2.2.1 hh.2.2.2;rw[hh.1,hh.2.1]at this;exact cJ.1 (show 1<=fo b t by obtain⟨t1,t2,t3⟩:=t;simp only at this⊢;split at this<;>omega)
 ·intro h c hc;refine yh.2 fun n h1 h2=>?_;have hh:c.has (c.aM,c.key,n):=⟨rfl,rfl,h1,h2⟩;have:=h (c.aM,c.key,n);split
  ·rename_i hw;have:=gJ.2 ⟨c,hc,hh,hw⟩;omega
  ·have:=cJ.2 ⟨c,hc,hh⟩;omega
def qZ:List (List UInt8)->List (List UInt8)
 |[]=>[]
 |k::l=>if k∈l then qZ l else k::qZ l
theorem nX{k:List UInt8}: ∀{l:List (List UInt8)},k∈qZ l↔k∈l
 |[]=>Iff.rfl
 |a::l=>by
  unfold qZ;split
  ·rename_i h;rw[nX,List.mem_cons];constructor
   ·exact .inr
   ·rintro(rfl|h')
    ·exact h
    ·exact h'
  ·rw[List.mem_cons,List.mem_cons,nX]
theorem nY: ∀(l:List (List UInt8)),(qZ l).Nodup
 |[]=>List.nodup_nil
 |a::l=>by
  unfold qZ;split
  ·exact nY l
  ·rename_i h;exact List.nodup_cons.2 ⟨fun h'=>h (nX.1 h'),nY l⟩
def SG(l:List Cl):List (List UInt8):=qZ ((l.filter fun c=>c.aM== -1).map Cl.key)
def Cq(s:List (Int×Int)):List (Int×Int):=s.mergeSort fun a b=>decide (a.1<=b.1)
theorem uL(s:List (Int×Int)):(Cq s).Perm s:=List.mergeSort_perm _ _
theorem qB(s:List (Int×Int)):kU (Cq s):=by have:=List.pairwise_mergeSort (le:=fun a b:Int×Int=>decide (a.1<=b.1)) (fun a b c h h'=>by simp at h h'⊢;omega) (fun a b=>by simp;omega) s;exact this.imp (fun h=>by simpa using h)
def Uz(l:List Cl)(i:Int):List (Int×Int):=cG (Cq (cS l i true))
def Z9(l:List Cl)(i:Int):List (Int×Int):=bW (cG (Cq (cS l i false))) (Uz l i)
def aX(l:List Cl):List Cl:=((SG l).mergeSort fun x y=>decide (x<=y)).map (AB fun key=>fo l (-1,key,0))++jA (Uz l) (Z9 l) 4
theorem px{l:List Cl}(hl: ∀c∈l,Ok c):eI l (aX l):=by
 refine AL hl (nY _) (fun k=>?_) rfl (fun i _=>Ew hl (uL _) (uL _) (qB _) (qB _));rw[nX,List.mem_map];have hb:=iT l (-1,k,0);constructor
 ·rintro⟨c,hc,rfl⟩;simp only[List.mem_filter,beq_iff_eq]at hc;have h1:=(hl c hc.1).parts;have:1<=fo l (-1,c.key,0):=cJ.2 ⟨c,hc.1,hc.2,rfl,by show c.lo<=0;omega,by show 0<=c.hi;omega⟩;omega
 ·intro h;obtain⟨c,hc,h1,h2,h3,h4⟩:=cJ.1 (show 1<=fo l (-1,k,0) by omega);exact⟨c,by simp only[List.mem_filter,beq_iff_eq];exact⟨hc,h1⟩,h2⟩
theorem jP{l out:List Cl}(hl: ∀c∈l,Ok c)(h:eI l out):out=aX l:=h.unique (px hl)
theorem iU{l:List Cl}(hl:Good l):Good (aX l):=Lp (px hl.ok) hl
theorem tQ{l:List Cl}(hl: ∀c∈l,Ok c)(t:lN):fo (aX l) t=fo l t:=(px hl).2 t
theorem uM{a b:List Cl}(ha: ∀c∈a,Ok c)(hb: ∀c∈b,Ok c)(h: ∀t,fo a t=fo b t):aX a=aX b:=
 jP hb ((px ha).congr (fun t=>(h t).symm))
theorem gT:aX []=[]:=(jP (fun c hc=>by simp at hc) G6).symm
theorem uN{a b:List Cl}(hg:Good a)(hb: ∀c∈b,Ok c):aX (aX a++b)=aX (a++b):=by have ha:=hg.ok;have hn: ∀c∈aX a,Ok c:=(iU hg).ok;refine uM (fun c hc=>(dy.1 hc).elim (hn c) (hb c)) (fun c hc=>(dy.1 hc).elim (ha c) (hb c)) (fun t=>?_);rw[nE,nE,tQ ha]
theorem Cr{a b:List Cl}(ha: ∀c∈a,Ok c)(hb: ∀c∈b,Ok c)(h:nK (aX b) (aX a)):aX (a++b)=aX a:=by refine uM (fun c hc=>(dy.1 hc).elim (ha c) (hb c)) ha (fun t=>?_);have:=G7.1 h t;rw[tQ ha,tQ hb]at this;rw[nE];omega
theorem vt.norm{l:List Cl}{w w':World}{v:Value}{n:Int}(h:vt l w v n w')(ho: ∀c∈l,Ok c):
  (64<(aX l).length/\v=.slice none 0 0/\n=23)\/((aX l).length<=64/\n=0/\ ∃A c,v=.slice A (aX l).length c/\w'.ownsRow w.heap.size 107 5 (.slice A (aX l).length c) (aX l).length ((aX l).map Cl.cells).flatten):=by
 rcases h.2 with⟨h1,_⟩|⟨_,out,h2,h3⟩
 ·exact absurd (sf ho) h1
 ·obtain rfl:=jP ho h2;exact h3
theorem iV:cH []:=⟨fun x hx=>by simp at hx,et⟩
theorem yi{x:Int×Int}(h:x.1<=x.2):cH [x]:=⟨fun y hy=>by rw[fj]at hy;subst hy;exact h,List.pairwise_singleton _ _⟩
theorem OU{c:Cl}(h:Ok c):eI [c] [c]:=by
 refine⟨?_,fun _=>rfl⟩;obtain⟨wr,aM,key,lo,hi⟩:=c;rcases h.parts with⟨rfl,rfl,rfl,_⟩|⟨h0,h4,rfl,hle⟩
 ·exact⟨[(wr,key)],fun _=>[],fun _=>[],rfl,List.pairwise_singleton _ _,fun i _ _=>⟨iV,iV,fun n hn=>absurd hn (eo n)⟩⟩
 ·simp only at h0 h4 hle;cases wr
  ·refine⟨[],fun _=>[],fun i=>if i=aM then[(lo,hi)]else[],?_,et,fun i _ _=>⟨iV,?_,fun n hn=>absurd hn (eo n)⟩⟩
   ·have:aM=0\/aM=1\/aM=2\/aM=3:=by omega
    rcases this with rfl|rfl|rfl|rfl<;>rfl
   ·by_cases e:i=aM
    ·simp only[e,if_true];exact yi hle
    ·simp only[e,if_false];exact iV
  ·refine⟨[],fun i=>if i=aM then[(lo,hi)]else[],fun _=>[],?_,et,fun i _ _=>⟨?_,iV,fun n _ hn=>absurd hn (eo n)⟩⟩
   ·have:aM=0\/aM=1\/aM=2\/aM=3:=by omega
    rcases this with rfl|rfl|rfl|rfl<;>rfl
   ·by_cases e:i=aM
    ·simp only[e,if_true];exact yi hle
    ·simp only[e,if_false];exact iV
theorem AO{c:Cl}(h:Ok c):aX [c]=[c]:=(jP (fun x hx=>by rw[fj]at hx;subst hx;exact h) (OU h)).symm
def aK(n:Int):Prop:= -1099511627776<=n/\n<=1099511627776
theorem aK.i64{n:Int}(h:aK n):km n:=⟨by have:=h.1;omega,by have:=h.2;omega⟩
theorem kW: ∀(k m:Nat),m<10^(k+1)->Lib.nDigits m<=k+1
 |0,m,h=>by rw[Lib.nDigits_small (by simpa using h)];omega
 |k+1,m,h=>by
  by_cases hm:m<10
  ·rw[Lib.nDigits_small hm];omega
  ·rw[Lib.nDigits_big hm];have:=kW k (m/10) (by rw[Nat.div_lt_iff_lt_mul (by omega)];rw[<-Nat.pow_succ];exact h);omega
theorem ij{n:Int}(h:aK n):1<=(Lib.itoa n).length/\(Lib.itoa n).length<=16:=by
 unfold Lib.itoa;split
 ·have h1:=kW 14 n.natAbs (by have:=h.1;omega);rw[fm,Lib.decDigits_length];omega
 ·have h1:=kW 15 n.toNat (by have:=h.2;omega);have h2:=Lib.nDigits_pos n.toNat;rw[Lib.decDigits_length];omega
theorem yj{n:Int}(h:aK n):dU (Lib.itoa n)=0:=by have:=ij h;unfold dU;rw[ff (by omega)]
def ou(n:Int):Cl:=⟨false,-1,Lib.itoa n,0,0⟩
theorem G8{n:Int}(h:aK n):Good [ou n]:=by have hl:=ij h;intro c hc;rw[fj]at hc;subst hc;refine⟨?_,⟨by unfold ou km;simp,by unfold ou km;simp,by unfold ou km;simp,by unfold ou maxLen;simp only;omega⟩⟩;unfold Ok Dw ou;simp[yj h]
structure PS (R:Type) where
 pc:Int
 bI:Nat->Int
 steps:Int
 cl:List Cl
 value:Int
 rows:R
section
variable{R:Type}
def dA(fuel:Int)(ops:List aO)(act:aO->PS R->PS R×Int)(tt:Int):Nat->PS R->PS R×Int
 |0,s=>(s,0)
 |g+1,s=>
  if s.pc<tt then
   if fuel<=s.steps then(s,20)
   else match ops[s.pc.toNat]? with
    |none=>(s,0)
    |some x=>
     let p:=act x {s with steps:=s.steps+1,pc:=s.pc+1}
     if p.2=0 then dA fuel ops act tt g p.1 else p
  else(s,0)
variable{fuel:Int}{ops:List aO}{act:aO->PS R->PS R×Int}{tt:Int}{g:Nat}{s:PS R}
theorem G9(h:tt<=s.pc):dA fuel ops act tt g s=(s,0):=by
 cases g with
 |zero=>rfl
 |succ g=>rw[dA,ff (by omega)]
theorem Ha(h:s.pc<tt)(hf:fuel<=s.steps):dA fuel ops act tt (g+1) s=(s,20):=by rw[dA,fi h,fi hf]
theorem Lq{x:aO}{s':PS R}(h:s.pc<tt)(hf:s.steps<fuel)(hx:ops[s.pc.toNat]?=some x)(ha:act x {s with steps:=s.steps+1,pc:=s.pc+1}=(s',0)):dA fuel ops act tt (g+1) s=dA fuel ops act tt g s':=by rw[dA,fi h,ff (by omega),hx];simp only[ha,if_true]
theorem EB{x:aO}{s':PS R}{n:Int}(h:s.pc<tt)(hf:s.steps<fuel)(hx:ops[s.pc.toNat]?=some x)(ha:act x {s with steps:=s.steps+1,pc:=s.pc+1}=(s',n))(hn:n≠0):dA fuel ops act tt (g+1) s=(s',n):=by rw[dA,fi h,ff (by omega),hx];simp only[ha,ff hn]
end
def aZ(n:Int):Int:=max (-1099511627776) (min n 1099511627776)
theorem jW(n:Int):aK (aZ n):=by unfold aZ aK;omega


end Go.Proofs.YtmkofmeojbcakaaGreatDoor
