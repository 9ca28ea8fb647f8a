import Derived.Test.YtehccbdajiiaaaaGreatDoorP08
import Derived.Test.YtehccbdajiiaaaaGreatDoorP21
import Derived.Lib.ItoaNum
namespace Go.Proofs.YtehccbdajiiaaaaGreatDoor
open Go.Proofs.Tryz
set_option maxRecDepth 100000
set_option maxHeartbeats 16000000
open Go.RowKit
theorem ma{w:World}{b:Nat}{l:List Cl}{cs:Array Value}{t:TypeId}{F:Nat->Prop}(h:w.heap[b]?=some (.cells cs t (0,0)))(e:cs.toList=(l.map Cl.cells).flatten)(f:F b)(c:l.length<=maxLen):cz w F (.slice (some ⟨b,0,none⟩) l.length l.length) l:=by refine⟨_,_,_,rfl,by simp,b8 _,c,fun _=>⟨b,0,rfl,f,fun i x g j u d=>?_⟩⟩;have a:=jP (df l) i x g j u d;rw[<-e]at a;rw[gR];simp[World.cell?,h];simpa using a
theorem xN{l:List Cl}{w':World}{base:Nat}{A:Option Addr}{c:Nat}(h:w'.ownsRow base 68 5 (.slice A l.length c) l.length (l.map Cl.cells).flatten):cz w' (fun _=>True) (.slice A l.length c) l:=
 bJ.bO h (df _) (by decide) (fun _ _=>trivial)
theorem gN{P:Program}{w:World}{ops:Array Oper}{o:Oper}{a:Act}{N:Act->World->Prop}{Q:Exit->Act->World->Prop}{O:Prop}(r:o.guard=none)(s x:Operand)(t:TypeId)
  (D:o.op=.call {callee:=.builtin .append,args:= #[s,x],argTypes:= #[t,t]})
  (base:Nat) (e:TypeId) (i:TypeInfo) (M:Value) (k d:Nat) (L:P.underlying t=some (.slice e)) (hi:P.info? e=some i) (I:i.zero=some M)
  (h:i.size=k) (p:i.bytes=d) (u:M.cells.size=k) (G:0<k)
  (v:Value) (n:Nat) (xs:List Value) (z:a.eval s=v) (m:w.ownsRow base e k v n xs) (F:Nat->Prop) (f:Value) (news:List (List Value)) (B:a.eval x=f) (y:bJ k w F f news) (A: ∀b∈news,b.length=k) (J: ∀b∈news.flatten,b.oneCell'=true)
  (g:(n+news.length)*d<=140737488355328) (q:n+news.length<=maxLen) (j:base<=w.heap.size)
  (R: ∀b c,c.ownsRow base e k b (n+news.length) (xs++news.flatten)->w.grownBy c v.ownBlock->(b.ownBlock=v.ownBlock\/b.ownBlock=some w.heap.size)->N (a.put o.dst b) c):
  if Region.wanted o (yielded ops a.tmps)=true then Oper.wp P o a w N Q else O:=by
 have C:Region.wanted o (yielded ops a.tmps)=true:=by simp[Region.wanted,r]
 rw[fi C];obtain⟨b,c,l,H,K,E⟩:=kJ (P:=P) w base t o.type e i M k d L hi I h p u G v n xs m F f news y A J g q j;unfold Oper.wp execOp;simp only[D,resolve,invoke,builtin,Sem.run_bind,Sem.run_pure,Result.andThen_ok,List.map_toArray,lx,kh,z,B,l];exact R b c H K E
def pW(l:List Cl)(w:World)(v:Value)(n:Int)(w':World):Prop:=
 Below w.heap.size w w'/\((iR l≠0/\v=.slice none 0 0/\n=iR l)\/(iR l=0/\ ∃a,cG l a/\((64<a.length/\v=.slice none 0 0/\n=23)\/
  (a.length<=64/\n=0/\ ∃A c,v=.slice A a.length c/\w'.ownsRow w.heap.size 68 5 (.slice A a.length c) a.length (a.map Cl.cells).flatten))))
theorem Pb.named{l:List Cl}{w w':World}{e:Ending}(i:Pb l w e w'): ∃v n,e=.returned (.tuple #[.agg #[v],rv n])/\pW l w v n w':=by
 obtain⟨c,⟨a,rfl⟩|⟨a,d,f,⟨b,rfl⟩|⟨b,A,h,rfl,g⟩⟩⟩:=i
 ·exact⟨_,_,rfl,c,.inl ⟨a,rfl,rfl⟩⟩
 ·exact⟨_,_,rfl,c,.inr ⟨a,d,f,.inl ⟨b,rfl,rfl⟩⟩⟩
 ·exact⟨_,_,rfl,c,.inr ⟨a,d,f,.inr ⟨b,rfl,A,h,rfl,g⟩⟩⟩
theorem pW.Xa{l:List Cl}{w w':World}{v:Value}{n:Int}(h:pW l w v n w'):Pb l w (.returned (.tuple #[.agg #[v],rv n])) w':=by
 obtain⟨c,⟨a,rfl,rfl⟩|⟨a,d,e,⟨b,rfl,rfl⟩|⟨b,rfl,A,g,rfl,f⟩⟩⟩:=h
 ·exact⟨c,.inl ⟨a,rfl⟩⟩
 ·exact⟨c,.inr ⟨a,d,e,.inl ⟨b,rfl⟩⟩⟩
 ·exact⟨c,.inr ⟨a,d,e,.inr ⟨b,A,g,rfl,f⟩⟩⟩
theorem pW.slice{l:List Cl}{w w':World}{v:Value}{n:Int}(h:pW l w v n w'): ∃A m c,v=.slice A m c:=by
 rcases h.2 with⟨_,rfl,_⟩|⟨_,a,_,⟨_,rfl,_⟩|⟨_,_,A,c,rfl,_⟩⟩
 ·exact⟨_,_,_,rfl⟩
 ·exact⟨_,_,_,rfl⟩
 ·exact⟨_,_,_,rfl⟩
theorem pW.set{l:List Cl}{w w':World}{v:Value}{n:Int}(m:pW l w v n w'){B:Nat}{t:TypeId}{cs:Array Value}{fr:Nat×Nat}(j:w'.heap[B]?=some (.cells cs t fr))(k:(68:TypeId)≠t){w0:World}(e:Below w0.heap.size w0 w)(i:w0.heap.size<=B)(u:Value):pW l w0 v n (w'.setCell ⟨B,0,none⟩ u):=by
 refine⟨(e.x (m.1.m e.size)).setCell i _,?_⟩;rcases m.2 with a|⟨a,f,h,c|⟨c,rfl,A,p,rfl,d⟩⟩
 ·exact .inl a
 ·exact .inr ⟨a,f,h,.inl c⟩
 ·exact .inr ⟨a,f,h,.inr ⟨c,rfl,A,p,rfl,aQ (dF d (fun g b=>dp e.size (d.lt g b).1)) (Only.aR w' B 0 u) (fun g b o=>by subst o;exact cw d j k b)⟩⟩
theorem J6(w:World)(F G:Nat->Prop)(v u:Value)(a b:List Cl)(ha:cz w F v a)(hb:cz w G u b)(NF:a.length<=500)(hlb:b.length<=500)(Gd: ∀c∈a,c.fits)(hfb: ∀c∈b,c.fits):
  Calls prog 10 #[.agg #[v],.agg #[u]] w (Pb (a++b) w):=by
 obtain⟨i2,hi2,hy0,hy1,hy2⟩:=ef Tryz.sK;obtain⟨A,c,rfl,hnc,hcm⟩:=ha.slice;obtain⟨B,d,rfl,hnd,hdm⟩:=hb.slice;have H:=al (ab ha hb);have SS:=al hi2;clear ha hb hi2;go_enter func10,ntmps10;go_wp2_with fail;have ht:=(Two.start w (.slice A a.length c) (.slice B b.length d)).alloc (.cells #[.slice none 0 0] 37);have hs0:(((w.alloc (.cells #[.slice A a.length c] 37)).alloc (.cells #[.slice B b.length d] 37)).alloc (.cells #[.slice none 0 0] 37)).heap.size=w.heap.size+1+1+1:=by simp
 have JD:=Gy w (.cells #[.slice A a.length c] 37) (.cells #[.slice B b.length d] 37) (.cells #[.slice none 0 0] 37);generalize ((w.alloc (.cells #[.slice A a.length c] 37)).alloc (.cells #[.slice B b.length d] 37)).alloc (.cells #[.slice none 0 0] 37)=W0 at ht hs0 JD⊢;have hc0:=aB ht.2.1;have hc1:=aB ht.2.2;have hl0:w.heap.size<W0.heap.size:=by omega
 have MP:w.heap.size+1<W0.heap.size:=by omega
 have hl2:w.heap.size+1+1<W0.heap.size:=by omega
 have HW:=al (ab ht.1 (ab hs0 JD));have kF:w.heap.size+1+1≠w.heap.size:=by omega
 have oL:w.heap.size+1+1≠w.heap.size+1:=by omega
 clear ht hs0 JD
 go_region_held3 (fun w'=>w'.cell? ⟨w.heap.size,0,none⟩=some (.slice A a.length c)/\w'.cell? ⟨w.heap.size+1,0,none⟩=some (.slice B b.length d)) (first|exact⟨by assumption,by assumption⟩|go_keep|exact⟨(World.cell?_setCell_far _ _ _ _ kF).x (by assumption),(World.cell?_setCell_far _ _ _ _ oL).x (by assumption)⟩)
  (first|(go_at_call 20;refine(sO _ F _ a (bJ.below H.o.1 HW.o.1.drew) (by omega)).m ?_;rintro e w1 ⟨A1,c1,rfl,p8,hb1⟩;have Tf:Below W0.heap.size W0 w1:=fI hb1;have k0:=(Tf.cell (p:=⟨w.heap.size,0,none⟩) hl0).x hc0;have k1:=(Tf.cell (p:=⟨w.heap.size+1,0,none⟩) MP).x hc1;have H1:=al (ab p8 Tf);clear p8 hb1 Tf)|(go_at_call 9;refine(sY _ (fun _=>True) v2 (a++b) (bJ.bO H2.o.1 (df _) (by decide) (fun _ _=>trivial)) (by simp;omega) (fun c hc=>(dr.1 hc).elim (Gd c) (hfb c))).m ?_;intro e w3 jB;obtain⟨v3,n3,rfl,ql⟩:=jB.named;obtain⟨A3,m3,c3,rfl⟩:=ql.slice;have hb3:=H2.o.2.x (ql.1.m H2.o.2.size);have i0:=(hb3.cell (p:=⟨w.heap.size,0,none⟩) hl0).x hc0;have i1:=(hb3.cell (p:=⟨w.heap.size+1,0,none⟩) MP).x hc1;have LX:=(hb3.block _ hl2).x HW.o.d;have i3:=aB LX;have i4:=bj LX;have H3:=al (ab ql (ab hb3 LX));clear ql hb3 LX jB)|(refine gN (by rfl) _ _ 27 (by rfl) W0.heap.size 68 i2 _ 5 48 underlying27 SS.o hy0 hy1 hy2 (by rfl) (by decide) (.slice A1 a.length c1) a.length _ (by rfl) H1.o.1 G (.slice B b.length d) (b.map Cl.cells) (by rfl) (bJ.below H.o.2 (HW.o.1.x (H1.o.2.m (by omega)))) (df _) (qD _) (by rw[eS];omega) (by rw[eS];unfold maxLen;omega) H1.o.2.size ?_;intro v2 w2 pV hg2 yY;have hb2:Below W0.heap.size W0 w2:=H1.o.2.grown hg2 H1.o.2.size (fun j hj=>(H1.o.1.lt j hj).1);have j0:=(hb2.cell (p:=⟨w.heap.size,0,none⟩) hl0).x hc0;have j1:=(hb2.cell (p:=⟨w.heap.size+1,0,none⟩) MP).x hc1;have aaN:w2.ownsRow W0.heap.size 68 5 v2 (a++b).length ((a++b).map Cl.cells).flatten:=(by simpa using pV);have H2:=al (ab aaN hb2);clear pV hg2 yY aaN hb2))
 obtain⟨ql,hb3,LX⟩:=H3.o;have hh:=dd w3 (w.heap.size+1+1) 0 _ _ (.slice A3 m3 c3) LX;clear i0 i1 i3 i4 j0 j1 k0 k1;go_wp2_with fail;refine dj (ax rfl _ _ _ _ _ _ _ rfl hh underlying37 rfl (by kernel_rfl)) rfl ?_;exact(ql.set (w0:=w) LX (by decide) (HW.o.1.x (H2.o.2.m (by have:=HW.o.2.1;omega))) (by omega) _).Xa
def Good(l:List Cl):Prop:= ∀c∈l,Ok c/\c.fits
theorem Cl.Xb{c:Cl}(h:Ok c):c.has (c.aL,c.key,c.lo):=⟨rfl,rfl,eE _,h.proper⟩
theorem Cl.Xc{c:Cl}(h:Ok c):c.has (c.aL,c.key,c.hi):=⟨rfl,rfl,h.proper,eE _⟩
theorem tj{l out:List Cl}(y:cG l out)(g:Good l):Good out:=by
 have h: ∀t,1<=ej out t-> ∃i∈l,i.has t:=fun t a=>bP.1 (by rw[<-y.2];exact a);obtain⟨⟨A,W,R,rfl,z,m⟩,_⟩:=y;intro i d;rcases dh.1 d with⟨x,a,rfl⟩|⟨w,k,n,t⟩
 ·obtain⟨o,f,b⟩:=h (-1,x.2,0) (bP.2 ⟨yS x,d,ik.2 rfl⟩);obtain⟨p,q⟩:=g o f;have e:o.key=x.2:=b.2.1;have c:o.aL= -1:=b.1;rcases p.parts with j|j
  ·exact⟨Ok.of (.inl ⟨rfl,rfl,rfl,by show 1<=x.2.length/\x.2.length<=16;rw[<-e];exact j.2.2.2⟩),by
    have:=q.2.2.2;rw[e]at this
    exact⟨by unfold kK yS;simp,by unfold kK yS;simp,by unfold kK yS;simp,this⟩⟩
  ·omega
 ·have c:i.aL=w/\i.key=[]/\i.lo<=i.hi:=by
   rcases gz.1 t with⟨x,a,rfl⟩|⟨x,a,rfl⟩
   ·exact⟨rfl,rfl,(m w k n).1.1 x a⟩
   ·exact⟨rfl,rfl,(m w k n).2.1.1 x a⟩
  have e:Ok i:=Ok.of (.inr ⟨by omega,by omega,c.2.1,c.2.2⟩);obtain⟨o,f,b⟩:=h _ (bP.2 ⟨i,d,Cl.Xb e⟩);obtain⟨u,p,j⟩:=h _ (bP.2 ⟨i,d,Cl.Xc e⟩);have r:=(g o f).2;have s:=(g u p).2;have q:=b.2.2;have v:=j.2.2;simp only at q v;unfold Cl.fits kK at r s;refine⟨e,?_,?_,?_,?_⟩
  ·unfold kK;omega
  ·unfold kK;omega
  ·unfold kK;omega
  ·rw[c.2.1];simp
theorem Hy:cG [] []:=⟨⟨[],fun _=>[],fun _=>[],rfl,ee,fun i _ _=>⟨⟨fun x a=>by simp at a,ee⟩,⟨fun x a=>by simp at a,ee⟩,fun n h=>absurd h (dV n)⟩⟩,fun _=>rfl⟩
theorem cG.unique{l a b:List Cl}(h:cG l a)(c:cG l b):a=b:=Ee h.1 c.1 (fun t=>(h.2 t).x (c.2 t).symm)
theorem cG.congr{l a out:List Cl}(h:cG l out)(e: ∀t,ej a t=ej l t):cG a out:=⟨h.1,fun t=>(h.2 t).x (e t).symm⟩
theorem Good.ok{l:List Cl}(h:Good l): ∀c∈l,Ok c:=fun c a=>(h c a).1
theorem Good.fits{l:List Cl}(h:Good l): ∀c∈l,c.fits:=fun c a=>(h c a).2
theorem Good.proper{l:List Cl}(h:Good l): ∀c∈l,c.lo<=c.hi:=fun c a=>(h c a).1.proper
theorem Good.append{a b:List Cl}(h:Good a)(c:Good b):Good (a++b):=fun e d=>(dr.1 d).elim (h e) (c e)
theorem Good.nil:Good []:=fun c a=>by simp at a
theorem xO{c:Cl}{l:List Cl}:Ls c l↔ ∀n,c.lo<=n->n<=c.hi->(if c.wr=true then 2 else 1)<=ej l (c.aL,c.key,n):=by
 unfold Ls;constructor
 ·intro j n g f;obtain⟨h,d,b⟩:=j n g f;split
  ·rename_i e;have:=eH.2 ⟨h,d,(⟨b.1,b.2.1,b.2.2.2⟩:h.has (c.aL,c.key,n)),b.2.2.1 e⟩;omega
  ·exact bP.2 ⟨h,d,(⟨b.1,b.2.1,b.2.2.2⟩:h.has (c.aL,c.key,n))⟩
 ·intro j n g f;have:=j n g f;split at this
  ·rename_i e;have k:=fx l (c.aL,c.key,n);obtain⟨h,d,a,i⟩:=eH.1 (show ej l (c.aL,c.key,n)=2 by omega);exact⟨h,d,a.1,a.2.1,fun _=>i,a.2.2⟩
  ·rename_i e;obtain⟨h,d,a⟩:=bP.1 this;exact⟨h,d,a.1,a.2.1,fun m=>absurd m e,a.2.2⟩
theorem Hz{a b:List Cl}:iq a b↔ ∀t,ej a t<=ej b t:=by
 unfold iq;constructor
 ·intro m t;refine N9 ?_ ?_
  ·rintro⟨e,d,c,f⟩;have:=xO.1 (m e d) t.2.2 c.2.2.1 c.2.2.2;rw[fi f,c.1,c.2.1]at this;have i:=fx b (t.1,t.2.1,t.2.2);exact eH.1 (show ej b t=2 by obtain⟨k,j,l⟩:=t;simp only at this i⊢;omega)
  ·rintro⟨e,d,c⟩;have:=xO.1 (m e d) t.2.2 c.2.2.1 c.2.2.2;rw[c.1,c.2.1]at this;exact bP.1 (show 1<=ej b t by obtain⟨k,j,l⟩:=t;simp only at this⊢;split at this<;>omega)
 ·intro m e d;refine xO.2 fun n h g=>?_;have c:e.has (e.aL,e.key,n):=⟨rfl,rfl,h,g⟩;have:=m (e.aL,e.key,n);split
  ·rename_i f;have:=eH.2 ⟨e,d,c,f⟩;omega
  ·have:=bP.2 ⟨e,d,c⟩;omega
theorem tq{a b:List Cl}(m:Good a)(o:Good b):nA a b↔ ∃t,1<=ej a t/\1<=ej b t/\(ej a t=2\/ej b t=2):=by
 unfold nA xm;constructor
 ·rintro⟨d,f,g,e,c,j,i,h,r⟩;have p:=m.proper d f;have q:=o.proper g e
  let n:=max d.lo g.lo
  have l:d.has (d.aL,d.key,n):=⟨rfl,rfl,by simp only[n];omega,by simp only[n];omega⟩;have k:g.has (d.aL,d.key,n):=⟨j.symm,i.symm,by simp only[n];omega,by simp only[n];omega⟩;refine⟨(d.aL,d.key,n),bP.2 ⟨d,f,l⟩,bP.2 ⟨g,e,k⟩,?_⟩;rcases c with c|c
  ·exact .inl (eH.2 ⟨d,f,l,c⟩)
  ·exact .inr (eH.2 ⟨g,e,k,c⟩)
 ·rintro⟨t,j,i,h⟩
  have k: ∀{d g:Cl},d∈a->g∈b->d.has t->g.has t->(d.wr=true\/g.wr=true)-> ∃d∈a,∃g∈b,(d.wr=true\/g.wr=true)/\d.aL=g.aL/\d.key=g.key/\d.lo<=g.hi/\g.lo<=d.hi:=by intro d g f e x y c;exact⟨d,f,g,e,c,x.1.x y.1.symm,x.2.1.x y.2.1.symm,Int.le_trans x.2.2.1 y.2.2.2,Int.le_trans y.2.2.1 x.2.2.2⟩
  rcases h with h|h
  ·obtain⟨d,f,x,c⟩:=eH.1 h;obtain⟨g,e,y⟩:=bP.1 i;exact k f e x y (.inl c)
  ·obtain⟨g,e,y,c⟩:=eH.1 h;obtain⟨d,f,x⟩:=bP.1 j;exact k f e x y (.inr c)
def qL:List (List UInt8)->List (List UInt8)
 |[]=>[]
 |k::l=>if k∈l then qL l else k::qL l
theorem nG{k:List UInt8}: ∀{l:List (List UInt8)},k∈qL l↔k∈l
 |[]=>Iff.rfl
 |a::l=>by
  unfold qL;split
  ·rename_i h;rw[nG,List.mem_cons];constructor
   ·exact .inr
   ·rintro(rfl|b)
    ·exact h
    ·exact b
  ·rw[List.mem_cons,List.mem_cons,nG]
theorem nI: ∀(l:List (List UInt8)),(qL l).Nodup
 |[]=>List.nodup_nil
 |a::l=>by
  unfold qL;split
  ·exact nI l
  ·rename_i h;exact List.nodup_cons.2 ⟨fun b=>h (nG.1 b),nI l⟩
def Tg(l:List Cl):List (List UInt8):=qL ((l.filter fun c=>c.aL== -1).map Cl.key)
def CF(s:List (Int×Int)):List (Int×Int):=s.mergeSort fun a b=>decide (a.1<=b.1)
theorem uk(s:List (Int×Int)):(CF s).Perm s:=List.mergeSort_perm _ _
theorem qm(s:List (Int×Int)):lv (CF s):=by have:=List.pairwise_mergeSort (le:=fun c b:Int×Int=>decide (c.1<=b.1)) (fun c b d h a=>by simp at h a⊢;omega) (fun c b=>by simp;omega) s;exact this.imp (fun h=>by simpa using h)
def Vh(l:List Cl)(i:Int):List (Int×Int):=cE (CF (cM l i true))
def aaO(l:List Cl)(i:Int):List (Int×Int):=bU (cE (CF (cM l i false))) (Vh l i)
def aW(l:List Cl):List Cl:=((Tg l).mergeSort fun x y=>decide (x<=y)).map (AU fun a=>ej l (-1,a,0))++jD (Vh l) (aaO l) 4
theorem rP{l:List Cl}(b: ∀c∈l,Ok c):cG l (aW l):=by
 refine Bc b (nI _) (fun k=>?_) rfl (fun i _=>EH b (uk _) (uk _) (qm _) (qm _));rw[nG,List.mem_map];have g:=fx l (-1,k,0);constructor
 ·rintro⟨c,a,rfl⟩;simp only[List.mem_filter,beq_iff_eq]at a;have d:=(b c a.1).parts;have:1<=ej l (-1,c.key,0):=bP.2 ⟨c,a.1,a.2,rfl,by show c.lo<=0;omega,by show 0<=c.hi;omega⟩;omega
 ·intro i;obtain⟨c,a,d,e,f,h⟩:=bP.1 (show 1<=ej l (-1,k,0) by omega);exact⟨c,by simp only[List.mem_filter,beq_iff_eq];exact⟨a,d⟩,e⟩
theorem iA{l out:List Cl}(a: ∀c∈l,Ok c)(h:cG l out):out=aW l:=h.unique (rP a)
theorem fO{l:List Cl}(a:Good l):Good (aW l):=tj (rP a.ok) a
theorem tu{l:List Cl}(a: ∀c∈l,Ok c)(t:kU):ej (aW l) t=ej l t:=(rP a).2 t
theorem um{a b:List Cl}(d: ∀e∈a,Ok e)(c: ∀e∈b,Ok e)(h: ∀t,ej a t=ej b t):aW a=aW b:=
 iA c ((rP d).congr (fun t=>(h t).symm))
theorem pL:aW []=[]:=(iA (fun c a=>by simp at a) Hy).symm
theorem EP{a b:List Cl}(f:Good a)(e: ∀d∈b,Ok d):aW (aW a++b)=aW (a++b):=by have g:=f.ok;have h: ∀d∈aW a,Ok d:=(fO f).ok;refine um (fun d c=>(dr.1 c).elim (h d) (e d)) (fun d c=>(dr.1 c).elim (g d) (e d)) (fun t=>?_);rw[kW,kW,tu g]
theorem CG{a b:List Cl}(c: ∀e∈a,Ok e)(d: ∀e∈b,Ok e)(h:iq (aW b) (aW a)):aW (a++b)=aW a:=by refine um (fun e f=>(dr.1 f).elim (c e) (d e)) c (fun t=>?_);have:=Hz.1 h t;rw[tu c,tu d]at this;rw[kW];omega
theorem pW.norm{l:List Cl}{w w':World}{v:Value}{n:Int}(h:pW l w v n w')(a: ∀c∈l,Ok c):
  (64<(aW l).length/\v=.slice none 0 0/\n=23)\/((aW l).length<=64/\n=0/\ ∃A c,v=.slice A (aW l).length c/\w'.ownsRow w.heap.size 68 5 (.slice A (aW l).length c) (aW l).length ((aW l).map Cl.cells).flatten):=by
 rcases h.2 with⟨d,_⟩|⟨_,e,b,c⟩
 ·exact absurd (rM a) d
 ·obtain rfl:=iA a b;exact c
theorem jg:cF []:=⟨fun x a=>by simp at a,ee⟩
theorem xP{x:Int×Int}(h:x.1<=x.2):cF [x]:=⟨fun y a=>by rw[fl]at a;subst a;exact h,List.pairwise_singleton _ _⟩
theorem Py{c:Cl}(m:Ok c):cG [c] [c]:=by
 refine⟨?_,fun _=>rfl⟩;obtain⟨g,a,j,f,e⟩:=c;rcases m.parts with⟨rfl,rfl,rfl,_⟩|⟨k,l,rfl,d⟩
 ·exact⟨[(g,j)],fun _=>[],fun _=>[],rfl,List.pairwise_singleton _ _,fun i _ _=>⟨jg,jg,fun n b=>absurd b (dV n)⟩⟩
 ·simp only at k l d;cases g
  ·refine⟨[],fun _=>[],fun i=>if i=a then[(f,e)]else[],?_,ee,fun i _ _=>⟨jg,?_,fun n b=>absurd b (dV n)⟩⟩
   ·have:a=0\/a=1\/a=2\/a=3:=by omega
    rcases this with rfl|rfl|rfl|rfl<;>rfl
   ·by_cases h:i=a
    ·simp only[h,if_true];exact xP d
    ·simp only[h,if_false];exact jg
  ·refine⟨[],fun i=>if i=a then[(f,e)]else[],fun _=>[],?_,ee,fun i _ _=>⟨?_,jg,fun n _ b=>absurd b (dV n)⟩⟩
   ·have:a=0\/a=1\/a=2\/a=3:=by omega
    rcases this with rfl|rfl|rfl|rfl<;>rfl
   ·by_cases h:i=a
    ·simp only[h,if_true];exact xP d
    ·simp only[h,if_false];exact jg
theorem tv{c:Cl}(h:Ok c):aW [c]=[c]:=(iA (fun x a=>by rw[fl]at a;subst a;exact h) (Py h)).symm
def aO(n:Int):Prop:= -1099511627776<=n/\n<=1099511627776
theorem aO.i64{n:Int}(h:aO n):kK n:=⟨by have:=h.1;omega,by have:=h.2;omega⟩
theorem qM: ∀(k m:Nat),m<10^(k+1)->Lib.nDigits m<=k+1
 |0,m,h=>by rw[Lib.nDigits_small (by simpa using h)];omega
 |k+1,m,h=>by
  by_cases a:m<10
  ·rw[Lib.nDigits_small a];omega
  ·rw[Lib.nDigits_big a];have:=qM k (m/10) (by rw[Nat.div_lt_iff_lt_mul (by omega)];rw[<-Nat.pow_succ];exact h);omega
theorem jy{n:Int}(h:aO n):1<=(Lib.itoa n).length/\(Lib.itoa n).length<=16:=by
 unfold Lib.itoa;split
 ·have a:=qM 14 n.natAbs (by have:=h.1;omega);rw[jj,Lib.decDigits_length];omega
 ·have a:=qM 15 n.toNat (by have:=h.2;omega);have b:=Lib.nDigits_pos n.toNat;rw[Lib.decDigits_length];omega
theorem xQ{n:Int}(h:aO n):dN (Lib.itoa n)=0:=by have:=jy h;unfold dN;rw[ff (by omega)]
def iB(n:Int):Cl:=⟨false,-1,Lib.itoa n,0,0⟩
theorem xR{n:Int}(h:aO n):Good [iB n]:=by have b:=jy h;intro c a;rw[fl]at a;subst a;refine⟨?_,⟨by unfold iB kK;simp,by unfold iB kK;simp,by unfold iB kK;simp,by unfold iB maxLen;simp only;omega⟩⟩;unfold Ok D9 iB;simp[xQ h]
structure PS (R:Type) where
 pc:Int
 bA:Nat->Int
 steps:Int
 cl:List Cl
 value:Int
 rows:R
section
variable{R:Type}
def cH(fuel:Int)(ops:List aX)(act:aX->PS R->PS R×Int)(tt:Int):Nat->PS R->PS R×Int
 |0,s=>(s,0)
 |g+1,s=>
  if s.pc<tt then
   if fuel<=s.steps then(s,20)
   else match ops[s.pc.toNat]? with
    |none=>(s,0)
    |some x=>
     let p:=act x {s with steps:=s.steps+1,pc:=s.pc+1}
     if p.2=0 then cH fuel ops act tt g p.1 else p
  else(s,0)
variable{fuel:Int}{ops:List aX}{act:aX->PS R->PS R×Int}{tt:Int}{g:Nat}{s:PS R}
theorem Ia(h:tt<=s.pc):cH fuel ops act tt g s=(s,0):=by
 cases g with
 |zero=>rfl
 |succ g=>rw[cH,ff (by omega)]
theorem Ib(h:s.pc<tt)(a:fuel<=s.steps):cH fuel ops act tt (g+1) s=(s,20):=by rw[cH,fi h,fi a]
theorem LY{x:aX}{s':PS R}(h:s.pc<tt)(c:s.steps<fuel)(a:ops[s.pc.toNat]?=some x)(b:act x {s with steps:=s.steps+1,pc:=s.pc+1}=(s',0)):cH fuel ops act tt (g+1) s=cH fuel ops act tt g s':=by rw[cH,fi h,ff (by omega),a];simp only[b,if_true]
theorem ER{x:aX}{s':PS R}{n:Int}(h:s.pc<tt)(d:s.steps<fuel)(a:ops[s.pc.toNat]?=some x)(c:act x {s with steps:=s.steps+1,pc:=s.pc+1}=(s',n))(b:n≠0):cH fuel ops act tt (g+1) s=(s',n):=by rw[cH,fi h,ff (by omega),a];simp only[c,ff b]
end

section
open Go.RowKit Go.Maps Go.WideShapes
theorem acB{i:Int}(h:kK i):(Lit.int .i64 i).wf=true:=by unfold kK at h;simp[Lit.wf,IntKind.min,IntKind.max,IntKind.signed,IntKind.bits];omega
theorem Tryz.Ti(w:World):(zeroValue 3).run prog w=.ok (rv 0) w:=by kernel_rfl
end
def eA(n:Int):Int:=max (-1099511627776) (min n 1099511627776)
end Go.Proofs.YtehccbdajiiaaaaGreatDoor
