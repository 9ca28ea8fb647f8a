import Derived.Test.YtehccbdajiiaaaaGreatDoorS07
import Derived.Test.YtehccbdajiiaaaaGreatDoorS18
import Derived.Lib.ItoaNum
namespace Go.Proofs.YtehccbdajiiaaaaGreatDoor
open Go.Proofs.Tryz
set_option maxRecDepth 100000
set_option maxHeartbeats 16000000
open Go.RowKit
theorem mr{w:World}{b:Nat}{l:List Cl}{cs:Array Value}{t:TypeId}{F:Nat->Prop}(h:w.heap[b]?=some (.cells cs t (0,0)))(g:cs.toList=(l.map Cl.cells).flatten)(f:F b)(d:l.length<=maxLen):eI w F (.slice (some ⟨b,0,none⟩) l.length l.length) l:=by refine⟨_,_,_,rfl,by simp,b8 _,d,fun _=>⟨b,0,rfl,f,fun i x e j u c=>?_⟩⟩;have a:=jX (dK l) i x e j u c;rw[<-g]at a;rw[ie];simp[World.cell?,h];simpa using a
theorem yo{l:List Cl}{w':World}{base:Nat}{A:Option Addr}{c:Nat}(h:w'.ownsRow base 68 5 (.slice A l.length c) l.length (l.map Cl.cells).flatten):eI w' (fun _=>True) (.slice A l.length c) l:=
 bI.bO h (dK _) (by decide) (fun _ _=>trivial)
theorem gU{P:Program}{w:World}{ops:Array Oper}{o:Oper}{a:Act}{N:Act->World->Prop}{Q:Exit->Act->World->Prop}{O:Prop}(q:o.guard=none)(s x:Operand)(t:TypeId)
  (J:o.op=.call {callee:=.builtin .append,args:= #[s,x],argTypes:= #[t,t]})
  (base:Nat) (e:TypeId) (i:TypeInfo) (M:Value) (k d:Nat) (H:P.underlying t=some (.slice e)) (hi:P.info? e=some i) (G:i.zero=some M)
  (h:i.size=k) (r:i.bytes=d) (u:M.cells.size=k) (B:0<k)
  (v:Value) (n:Nat) (xs:List Value) (A:a.eval s=v) (m:w.ownsRow base e k v n xs) (F:Nat->Prop) (f:Value) (news:List (List Value)) (I:a.eval x=f) (L:bI k w F f news) (K: ∀y∈news,y.length=k) (z: ∀b∈news.flatten,b.oneCell'=true)
  (g:(n+news.length)*d<=140737488355328) (p:n+news.length<=maxLen) (j:base<=w.heap.size)
  (R: ∀b c,c.ownsRow base e k b (n+news.length) (xs++news.flatten)->w.grownBy c v.ownBlock->(b.ownBlock=v.ownBlock\/b.ownBlock=some w.heap.size)->N (a.put o.dst b) c):
  if Region.wanted o (yielded ops a.tmps)=true then Oper.wp P o a w N Q else O:=by
 have C:Region.wanted o (yielded ops a.tmps)=true:=by simp[Region.wanted,q]
 rw[ff C];obtain⟨b,c,l,y,E,D⟩:=ln (P:=P) w base t o.type e i M k d H hi G h r u B v n xs m F f news L K z g p j;unfold Oper.wp execOp;simp only[J,resolve,invoke,builtin,Sem.run_bind,Sem.run_pure,Result.andThen_ok,List.map_toArray,kt,kb,A,I,l];exact R b c y E D
def su(l:List Cl)(w:World)(v:Value)(n:Int)(w':World):Prop:=
 Below w.heap.size w w'/\((iT l≠0/\v=.slice none 0 0/\n=iT l)\/(iT l=0/\ ∃a,dE l a/\((64<a.length/\v=.slice none 0 0/\n=23)\/
  (a.length<=64/\n=0/\ ∃A c,v=.slice A a.length c/\w'.ownsRow w.heap.size 68 5 (.slice A a.length c) a.length (a.map Cl.cells).flatten))))
theorem P6.named{l:List Cl}{w w':World}{e:Ending}(h:P6 l w e w'): ∃v n,e=.returned (.tuple #[.agg #[v],rm n])/\su l w v n w':=by
 obtain⟨c,⟨a,rfl⟩|⟨a,d,f,⟨b,rfl⟩|⟨b,A,i,rfl,g⟩⟩⟩:=h
 ·exact⟨_,_,rfl,c,.inl ⟨a,rfl,rfl⟩⟩
 ·exact⟨_,_,rfl,c,.inr ⟨a,d,f,.inl ⟨b,rfl,rfl⟩⟩⟩
 ·exact⟨_,_,rfl,c,.inr ⟨a,d,f,.inr ⟨b,rfl,A,i,rfl,g⟩⟩⟩
theorem su.X7{l:List Cl}{w w':World}{v:Value}{n:Int}(h:su l w v n w'):P6 l w (.returned (.tuple #[.agg #[v],rm n])) w':=by
 obtain⟨c,⟨a,rfl,rfl⟩|⟨a,d,e,⟨b,rfl,rfl⟩|⟨b,rfl,A,g,rfl,f⟩⟩⟩:=h
 ·exact⟨c,.inl ⟨a,rfl⟩⟩
 ·exact⟨c,.inr ⟨a,d,e,.inl ⟨b,rfl⟩⟩⟩
 ·exact⟨c,.inr ⟨a,d,e,.inr ⟨b,A,g,rfl,f⟩⟩⟩
theorem su.slice{l:List Cl}{w w':World}{v:Value}{n:Int}(h:su l w v n w'): ∃A m c,v=.slice A m c:=by
 rcases h.2 with⟨_,rfl,_⟩|⟨_,a,_,⟨_,rfl,_⟩|⟨_,_,A,c,rfl,_⟩⟩
 ·exact⟨_,_,_,rfl⟩
 ·exact⟨_,_,_,rfl⟩
 ·exact⟨_,_,_,rfl⟩
theorem su.set{l:List Cl}{w w':World}{v:Value}{n:Int}(m:su l w v n w'){B:Nat}{t:TypeId}{cs:Array Value}{fr:Nat×Nat}(j:w'.heap[B]?=some (.cells cs t fr))(k:(68:TypeId)≠t){w0:World}(c:Below w0.heap.size w0 w)(i:w0.heap.size<=B)(u:Value):su l w0 v n (w'.setCell ⟨B,0,none⟩ u):=by
 refine⟨(c.x (m.1.m c.size)).setCell i _,?_⟩;rcases m.2 with a|⟨a,f,h,b|⟨b,rfl,A,p,rfl,d⟩⟩
 ·exact .inl a
 ·exact .inr ⟨a,f,h,.inl b⟩
 ·exact .inr ⟨a,f,h,.inr ⟨b,rfl,A,p,rfl,aJ (dI d (fun g e=>dd c.size (d.lt g e).1)) (Only.aR w' B 0 u) (fun g e o=>by subst o;exact cD d j k e)⟩⟩
theorem Ua(w:World)(F G:Nat->Prop)(v Z:Value)(a b:List Cl)(d:eI w F v a)(c:eI w G Z b)(Ss:a.length<=500)(am:b.length<=500)(X: ∀i∈a,i.fits)(u: ∀i∈b,i.fits):
  Calls prog 10 #[.agg #[v],.agg #[Z]] w (P6 (a++b) w):=by
 obtain⟨K,e,z,C,y⟩:=eh Tryz.tI;obtain⟨A,i,rfl,aa,ap⟩:=d.slice;obtain⟨B,t,rfl,ac,ad⟩:=c.slice;have Y:=AD d c;have Q:=al e;clear d c e;go_enter func10,ntmps10;go_wp2_with fail;have d:=(Two.start w (.slice A a.length i) (.slice B b.length t)).alloc tg;have e:(((w.alloc (tc A a.length i)).alloc (tc B b.length t)).alloc tg).heap.size=w.heap.size+1+1+1:=by simp
 have f:=Hw w (tc A a.length i) (tc B b.length t) tg;generalize ((w.alloc (tc A a.length i)).alloc (tc B b.length t)).alloc tg=c at d e f⊢;have n:=aL d.2.1;have m:=aL d.2.2;have l:w.heap.size<c.heap.size:=by omega
 have o:w.heap.size+1<c.heap.size:=by omega
 have x:w.heap.size+1+1<c.heap.size:=by omega
 have h:=AF d.1 e f;have L:w.heap.size+1+1≠w.heap.size:=by omega
 have S:w.heap.size+1+1≠w.heap.size+1:=by omega
 clear d e f
 go_region_held3 (fun d=>d.cell? ⟨w.heap.size,0,none⟩=some (.slice A a.length i)/\d.cell? ⟨w.heap.size+1,0,none⟩=some (.slice B b.length t)) (first|exact⟨by assumption,by assumption⟩|go_keep|exact⟨(World.cell?_setCell_far _ _ _ _ L).x (by assumption),(World.cell?_setCell_far _ _ _ _ S).x (by assumption)⟩)
  (first|(go_at_call 20;refine(tO _ F _ a (bI.below Y.o.1 h.o.1.drew) (by omega)).m ?_;rintro M j ⟨p,q,rfl,g,e⟩;have d:Below c.heap.size c j:=dV e;have U:=(d.cell (p:=⟨w.heap.size,0,none⟩) l).x n;have N:=(d.cell (p:=⟨w.heap.size+1,0,none⟩) o).x m;have f:=AD g d;clear g e d)|(go_at_call 9;refine(C4 _ (fun _=>True) r (a++b) (bI.bO k.o.1 (dK _) (by decide) (fun _ _=>trivial)) (by simp;omega) (fun i d=>(dr.1 d).elim (X i) (u i))).m ?_;intro M I j;obtain⟨J,s,rfl,g⟩:=j.named;obtain⟨R,O,D,rfl⟩:=g.slice;have e:=k.o.2.x (g.1.m k.o.2.size);have W:=(e.cell (p:=⟨w.heap.size,0,none⟩) l).x n;have E:=(e.cell (p:=⟨w.heap.size+1,0,none⟩) o).x m;have d:=(e.block _ x).x h.o.d;have P:=aL d;have T:=bL d;have H:=AF g e d;clear g e d j)|(refine gU (by rfl) _ _ 27 (by rfl) c.heap.size 68 K _ 5 48 underlying27 Q.o z C y (by rfl) (by decide) (.slice p a.length q) a.length _ (by rfl) f.o.1 G (.slice B b.length t) (b.map Cl.cells) (by rfl) (bI.below Y.o.2 (h.o.1.x (f.o.2.m (by omega)))) (dK _) (qT _) (by rw[fa];omega) (by rw[fa];unfold maxLen;omega) f.o.2.size ?_;intro r q s p M;have j:Below c.heap.size c q:=f.o.2.grown p f.o.2.size (fun V J=>(f.o.1.lt V J).1);have V:=(j.cell (p:=⟨w.heap.size,0,none⟩) l).x n;have J:=(j.cell (p:=⟨w.heap.size+1,0,none⟩) o).x m;have f:q.ownsRow c.heap.size 68 5 r (a++b).length ((a++b).map Cl.cells).flatten:=(by simpa using s);have k:=AD f j;clear s p M f j))
 obtain⟨g,e,d⟩:=H.o;have c:=dp I (w.heap.size+1+1) 0 _ _ (.slice R O D) d;clear W E P T V J U N;go_wp2_with fail;refine dj (ax rfl _ _ _ _ _ _ _ rfl c underlying37 rfl (by kernel_rfl)) rfl ?_;exact(g.set (w0:=w) d (by decide) (h.o.1.x (k.o.2.m (by have:=h.o.2.1;omega))) (by omega) _).X7
def Good(l:List Cl):Prop:= ∀c∈l,Ok c/\c.fits
theorem Cl.X8{c:Cl}(h:Ok c):c.has (c.aO,c.key,c.lo):=⟨rfl,rfl,eL _,h.proper⟩
theorem Cl.X9{c:Cl}(h:Ok c):c.has (c.aO,c.key,c.hi):=⟨rfl,rfl,h.proper,eL _⟩
theorem MD{l out:List Cl}(y:dE l out)(f:Good l):Good out:=by
 have h: ∀t,1<=fw out t-> ∃i∈l,i.has t:=fun t a=>cM.1 (by rw[<-y.2];exact a);obtain⟨⟨A,W,R,rfl,z,n⟩,_⟩:=y;intro i b;rcases dw.1 b with⟨x,d,rfl⟩|⟨w,k,m,s⟩
 ·obtain⟨o,g,a⟩:=h (-1,x.2,0) (cM.2 ⟨zS x,b,iB.2 rfl⟩);obtain⟨q,p⟩:=f o g;have e:o.key=x.2:=a.2.1;have c:o.aO= -1:=a.1;rcases q.parts with j|j
  ·exact⟨Ok.of (.inl ⟨rfl,rfl,rfl,by show 1<=x.2.length/\x.2.length<=16;rw[<-e];exact j.2.2.2⟩),by
    have:=p.2.2.2;rw[e]at this
    exact⟨by unfold lq zS;simp,by unfold lq zS;simp,by unfold lq zS;simp,this⟩⟩
  ·omega
 ·have c:i.aO=w/\i.key=[]/\i.lo<=i.hi:=by
   rcases gG.1 s with⟨x,d,rfl⟩|⟨x,d,rfl⟩
   ·exact⟨rfl,rfl,(n w k m).1.1 x d⟩
   ·exact⟨rfl,rfl,(n w k m).2.1.1 x d⟩
  have e:Ok i:=Ok.of (.inr ⟨by omega,by omega,c.2.1,c.2.2⟩);obtain⟨o,g,a⟩:=h _ (cM.2 ⟨i,b,Cl.X8 e⟩);obtain⟨r,j,p⟩:=h _ (cM.2 ⟨i,b,Cl.X9 e⟩);have t:=(f o g).2;have q:=(f r j).2;have u:=a.2.2;have v:=p.2.2;simp only at u v;unfold Cl.fits lq at t q;refine⟨e,?_,?_,?_,?_⟩
  ·unfold lq;omega
  ·unfold lq;omega
  ·unfold lq;omega
  ·rw[c.2.1];simp
theorem IM:dE [] []:=⟨⟨[],fun _=>[],fun _=>[],rfl,ee,fun i _ _=>⟨⟨fun x a=>by simp at a,ee⟩,⟨fun x a=>by simp at a,ee⟩,fun n h=>absurd h (eD n)⟩⟩,fun _=>rfl⟩
theorem dE.unique{l a b:List Cl}(h:dE l a)(c:dE l b):a=b:=ET h.1 c.1 (fun t=>(h.2 t).x (c.2 t).symm)
theorem dE.congr{l a out:List Cl}(h:dE l out)(e: ∀t,fw a t=fw l t):dE a out:=⟨h.1,fun t=>(h.2 t).x (e t).symm⟩
theorem Good.ok{l:List Cl}(h:Good l): ∀c∈l,Ok c:=fun c a=>(h c a).1
theorem Good.fits{l:List Cl}(h:Good l): ∀c∈l,c.fits:=fun c a=>(h c a).2
theorem Good.proper{l:List Cl}(h:Good l): ∀c∈l,c.lo<=c.hi:=fun c a=>(h c a).1.proper
theorem Good.append{a b:List Cl}(h:Good a)(c:Good b):Good (a++b):=fun e d=>(dr.1 d).elim (h e) (c e)
theorem yr{c:Cl}{l:List Cl}:Me c l↔ ∀n,c.lo<=n->n<=c.hi->(if c.wr=true then 2 else 1)<=fw l (c.aO,c.key,n):=by
 unfold Me;constructor
 ·intro j n f g;obtain⟨h,d,a⟩:=j n f g;split
  ·rename_i e;have:=gT.2 ⟨h,d,(⟨a.1,a.2.1,a.2.2.2⟩:h.has (c.aO,c.key,n)),a.2.2.1 e⟩;omega
  ·exact cM.2 ⟨h,d,(⟨a.1,a.2.1,a.2.2.2⟩:h.has (c.aO,c.key,n))⟩
 ·intro j n f g;have:=j n f g;split at this
  ·rename_i e;have k:=jg l (c.aO,c.key,n);obtain⟨h,d,b,i⟩:=gT.1 (show fw l (c.aO,c.key,n)=2 by omega);exact⟨h,d,b.1,b.2.1,fun _=>i,b.2.2⟩
  ·rename_i e;obtain⟨h,d,b⟩:=cM.1 this;exact⟨h,d,b.1,b.2.1,fun m=>absurd m e,b.2.2⟩
theorem IP{a b:List Cl}:iC a b↔ ∀t,fw a t<=fw b t:=by
 unfold iC;constructor
 ·intro m t;refine Pf ?_ ?_
  ·rintro⟨e,d,c,f⟩;have:=yr.1 (m e d) t.2.2 c.2.2.1 c.2.2.2;rw[ff f,c.1,c.2.1]at this;have l:=jg b (t.1,t.2.1,t.2.2);exact gT.1 (show fw b t=2 by obtain⟨h,i,j⟩:=t;simp only at this l⊢;omega)
  ·rintro⟨e,d,c⟩;have:=yr.1 (m e d) t.2.2 c.2.2.1 c.2.2.2;rw[c.1,c.2.1]at this;exact cM.1 (show 1<=fw b t by obtain⟨h,i,j⟩:=t;simp only at this⊢;split at this<;>omega)
 ·intro m e d;refine yr.2 fun n g k=>?_;have c:e.has (e.aO,e.key,n):=⟨rfl,rfl,g,k⟩;have:=m (e.aO,e.key,n);split
  ·rename_i f;have:=gT.2 ⟨e,d,c,f⟩;omega
  ·have:=cM.2 ⟨e,d,c⟩;omega
def qZ:List (List UInt8)->List (List UInt8)
 |[]=>[]
 |k::l=>if k∈l then qZ l else k::qZ l
theorem nT{k:List UInt8}: ∀{l:List (List UInt8)},k∈qZ l↔k∈l
 |[]=>Iff.rfl
 |a::l=>by
  unfold qZ;split
  ·rename_i h;rw[nT,List.mem_cons];constructor
   ·exact .inr
   ·rintro(rfl|b)
    ·exact h
    ·exact b
  ·rw[List.mem_cons,List.mem_cons,nT]
theorem nV: ∀(l:List (List UInt8)),(qZ l).Nodup
 |[]=>List.nodup_nil
 |a::l=>by
  unfold qZ;split
  ·exact nV l
  ·rename_i h;exact List.nodup_cons.2 ⟨fun b=>h (nT.1 b),nV l⟩
def Uc(l:List Cl):List (List UInt8):=qZ ((l.filter fun c=>c.aO== -1).map Cl.key)
def C5(s:List (Int×Int)):List (Int×Int):=s.mergeSort fun a b=>decide (a.1<=b.1)
theorem uK(s:List (Int×Int)):(C5 s).Perm s:=List.mergeSort_perm _ _
theorem qF(s:List (Int×Int)):lI (C5 s):=by have:=List.pairwise_mergeSort (le:=fun c b:Int×Int=>decide (c.1<=b.1)) (fun c b d h a=>by simp at h a⊢;omega) (fun c b=>by simp;omega) s;exact this.imp (fun h=>by simpa using h)
def Wf(l:List Cl)(i:Int):List (Int×Int):=cI (C5 (cS l i true))
def abg(l:List Cl)(i:Int):List (Int×Int):=bW (cI (C5 (cS l i false))) (Wf l i)
def bC(l:List Cl):List Cl:=((Uc l).mergeSort fun x y=>decide (x<=y)).map (Bx fun a=>fw l (-1,a,0))++jJ (Wf l) (abg l) 4
theorem sw{l:List Cl}(b: ∀c∈l,Ok c):dE l (bC l):=by
 refine BG b (nV _) (fun k=>?_) rfl (fun i _=>Fv b (uK _) (uK _) (qF _) (qF _));rw[nT,List.mem_map];have h:=jg l (-1,k,0);constructor
 ·rintro⟨c,a,rfl⟩;simp only[List.mem_filter,beq_iff_eq]at a;have d:=(b c a.1).parts;have:1<=fw l (-1,c.key,0):=cM.2 ⟨c,a.1,a.2,rfl,by show c.lo<=0;omega,by show 0<=c.hi;omega⟩;omega
 ·intro i;obtain⟨c,a,d,e,f,g⟩:=cM.1 (show 1<=fw l (-1,k,0) by omega);exact⟨c,by simp only[List.mem_filter,beq_iff_eq];exact⟨a,d⟩,e⟩
theorem iF{l out:List Cl}(a: ∀c∈l,Ok c)(h:dE l out):out=bC l:=h.unique (sw a)
theorem lJ{l:List Cl}(a:Good l):Good (bC l):=MD (sw a.ok) a
theorem tX{l:List Cl}(a: ∀c∈l,Ok c)(t:mj):fw (bC l) t=fw l t:=(sw a).2 t
theorem uL{a b:List Cl}(c: ∀e∈a,Ok e)(d: ∀e∈b,Ok e)(h: ∀t,fw a t=fw b t):bC a=bC b:=
 iF d ((sw c).congr (fun t=>(h t).symm))
theorem BI:bC []=[]:=(iF (fun c a=>by simp at a) IM).symm
theorem Fx{a b:List Cl}(e:Good a)(g: ∀d∈b,Ok d):bC (bC a++b)=bC (a++b):=by have f:=e.ok;have h: ∀d∈bC a,Ok d:=(lJ e).ok;refine uL (fun d c=>(dr.1 c).elim (h d) (g d)) (fun d c=>(dr.1 c).elim (f d) (g d)) (fun t=>?_);rw[nG,nG,tX f]
theorem C6{a b:List Cl}(c: ∀e∈a,Ok e)(d: ∀e∈b,Ok e)(h:iC (bC b) (bC a)):bC (a++b)=bC a:=by refine uL (fun e f=>(dr.1 f).elim (c e) (d e)) c (fun t=>?_);have:=IP.1 h t;rw[tX c,tX d]at this;rw[nG];omega
theorem su.norm{l:List Cl}{w w':World}{v:Value}{n:Int}(h:su l w v n w')(a: ∀c∈l,Ok c):
  (64<(bC l).length/\v=.slice none 0 0/\n=23)\/((bC l).length<=64/\n=0/\ ∃A c,v=.slice A (bC l).length c/\w'.ownsRow w.heap.size 68 5 (.slice A (bC l).length c) (bC l).length ((bC l).map Cl.cells).flatten):=by
 rcases h.2 with⟨c,_⟩|⟨_,e,d,b⟩
 ·exact absurd (si a) c
 ·obtain rfl:=iF a d;exact b
theorem jh:cJ []:=⟨fun x a=>by simp at a,ee⟩
theorem yt{x:Int×Int}(h:x.1<=x.2):cJ [x]:=⟨fun y a=>by rw[gk]at a;subst a;exact h,List.pairwise_singleton _ _⟩
theorem Qf{c:Cl}(m:Ok c):dE [c] [c]:=by
 refine⟨?_,fun _=>rfl⟩;obtain⟨e,a,j,g,f⟩:=c;rcases m.parts with⟨rfl,rfl,rfl,_⟩|⟨k,l,rfl,d⟩
 ·exact⟨[(e,j)],fun _=>[],fun _=>[],rfl,List.pairwise_singleton _ _,fun i _ _=>⟨jh,jh,fun n b=>absurd b (eD n)⟩⟩
 ·simp only at k l d;cases e
  ·refine⟨[],fun _=>[],fun i=>if i=a then[(g,f)]else[],?_,ee,fun i _ _=>⟨jh,?_,fun n b=>absurd b (eD n)⟩⟩
   ·have:a=0\/a=1\/a=2\/a=3:=by omega
    rcases this with rfl|rfl|rfl|rfl<;>rfl
   ·by_cases h:i=a
    ·simp only[h,if_true];exact yt d
    ·simp only[h,if_false];exact jh
  ·refine⟨[],fun i=>if i=a then[(g,f)]else[],fun _=>[],?_,ee,fun i _ _=>⟨?_,jh,fun n _ b=>absurd b (eD n)⟩⟩
   ·have:a=0\/a=1\/a=2\/a=3:=by omega
    rcases this with rfl|rfl|rfl|rfl<;>rfl
   ·by_cases h:i=a
    ·simp only[h,if_true];exact yt d
    ·simp only[h,if_false];exact jh
theorem tY{c:Cl}(h:Ok c):bC [c]=[c]:=(iF (fun x a=>by rw[gk]at a;subst a;exact h) (Qf h)).symm
def aQ(n:Int):Prop:= -1099511627776<=n/\n<=1099511627776
theorem aQ.i64{n:Int}(h:aQ n):lq n:=⟨by have:=h.1;omega,by have:=h.2;omega⟩
theorem rh: ∀(k m:Nat),m<10^(k+1)->Lib.nDigits m<=k+1
 |0,m,h=>by rw[Lib.nDigits_small (by simpa using h)];omega
 |k+1,m,h=>by
  by_cases a:m<10
  ·rw[Lib.nDigits_small a];omega
  ·rw[Lib.nDigits_big a];have:=rh k (m/10) (by rw[Nat.div_lt_iff_lt_mul (by omega)];rw[<-Nat.pow_succ];exact h);omega
theorem jC{n:Int}(h:aQ n):1<=(Lib.itoa n).length/\(Lib.itoa n).length<=16:=by
 unfold Lib.itoa;split
 ·have a:=rh 14 n.natAbs (by have:=h.1;omega);rw[gn,Lib.decDigits_length];omega
 ·have a:=rh 15 n.toNat (by have:=h.2;omega);have b:=Lib.nDigits_pos n.toNat;rw[Lib.decDigits_length];omega
theorem yu{n:Int}(h:aQ n):dY (Lib.itoa n)=0:=by have:=jC h;unfold dY;rw[fb (by omega)]
def iG(n:Int):Cl:=⟨false,-1,Lib.itoa n,0,0⟩
theorem yw{n:Int}(h:aQ n):Good [iG n]:=by have b:=jC h;intro c a;rw[gk]at a;subst a;refine⟨?_,⟨by unfold iG lq;simp,by unfold iG lq;simp,by unfold iG lq;simp,by unfold iG maxLen;simp only;omega⟩⟩;unfold Ok EL iG;simp[yu h]
structure PS (R:Type) where
 pc:Int
 bD:Nat->Int
 steps:Int
 cl:List Cl
 value:Int
 rows:R
section
variable{R:Type}
def cK(fuel:Int)(ops:List aX)(act:aX->PS R->PS R×Int)(tt:Int):Nat->PS R->PS R×Int
 |0,s=>(s,0)
 |g+1,s=>
  if s.pc<tt then
   if fuel<=s.steps then(s,20)
   else match ops[s.pc.toNat]? with
    |none=>(s,0)
    |some x=>
     let p:=act x {s with steps:=s.steps+1,pc:=s.pc+1}
     if p.2=0 then cK fuel ops act tt g p.1 else p
  else(s,0)
variable{fuel:Int}{ops:List aX}{act:aX->PS R->PS R×Int}{tt:Int}{g:Nat}{s:PS R}
theorem IQ(h:tt<=s.pc):cK fuel ops act tt g s=(s,0):=by
 cases g with
 |zero=>rfl
 |succ g=>rw[cK,fb (by omega)]
theorem IU(h:s.pc<tt)(a:fuel<=s.steps):cK fuel ops act tt (g+1) s=(s,20):=by rw[cK,ff h,ff a]
theorem ME{x:aX}{s':PS R}(h:s.pc<tt)(c:s.steps<fuel)(a:ops[s.pc.toNat]?=some x)(b:act x {s with steps:=s.steps+1,pc:=s.pc+1}=(s',0)):cK fuel ops act tt (g+1) s=cK fuel ops act tt g s':=by rw[cK,ff h,fb (by omega),a];simp only[b,if_true]
theorem Fy{x:aX}{s':PS R}{n:Int}(h:s.pc<tt)(d:s.steps<fuel)(a:ops[s.pc.toNat]?=some x)(b:act x {s with steps:=s.steps+1,pc:=s.pc+1}=(s',n))(c:n≠0):cK fuel ops act tt (g+1) s=(s',n):=by rw[cK,ff h,fb (by omega),a];simp only[b,fb c]
end

section
open Go.RowKit Go.Maps Go.WideShapes
theorem acR{i:Int}(h:lq i):(Lit.int .i64 i).wf=true:=by unfold lq at h;simp[Lit.wf,IntKind.min,IntKind.max,IntKind.signed,IntKind.bits];omega
theorem Tryz.Ud(w:World):(zeroValue 3).run prog w=.ok (rm 0) w:=by kernel_rfl
end
def eK(n:Int):Int:=max (-1099511627776) (min n 1099511627776)
end Go.Proofs.YtehccbdajiiaaaaGreatDoor
