import Derived.Test.YtehccbdajiiaaaaGreatDoorP22
namespace Go.Proofs.YtehccbdajiiaaaaGreatDoor
open Go.Proofs.Tryz
set_option maxRecDepth 100000
set_option maxHeartbeats 16000000
open Go.RowKit
section
open Go.RowKit Go.Maps Go.WideShapes
abbrev nS:=List (List UInt8×Option Rw)
def Y4(w:World)(FR:Nat->Prop):Option Value->Option (Option Rw)->Prop
 |none,none=>True
 |some v,some x=>lq w v x/\ ∀b,v=r7 b->FR b
 |_,_=>False
structure mP (w:World) (B T:Nat) (most:Int) (o:Nat) (l:az) (wl:nS) (FT:Nat->Nat->Prop) (m n:Nat) (g:Value->Option Value) (FR:Nat->Prop):Prop where
 blk:w.heap[B]?=some (ue T (.map (some m)))
 map:bW prog w 9 m n g
 tab:bK w T most o l FT
 up:dK wl
 key: ∀q∈wl,1<=q.1.length/\q.1.length<=16
 fit: ∀q∈wl,∀r,q.2=some r-> ∀c,I6 (r.aL c)
 wr: ∀k:List UInt8,Y4 w FR (g (sd k)) (ay k wl)
 bB: ∀q,¬FT B q
 bm: ∀q,¬FT m q
 bR: ∀b,FR b->b≠B/\b≠m/\b<w.heap.size/\ ∀q,¬FT b q
 Bm:B≠m
 cnt:n<=wl.length
def iC(w:World)(B T:Nat)(most:Int)(o:Nat)(l:az)(wl:nS)(FT:Nat->Nat->Prop)(FB:Nat->Prop):Prop:=
 ∃m n g FR,mP w B T most o l wl FT m n g FR/\FB B/\FB m/\ ∀b,FR b->FB b
section
variable{w w':World}{B T o:Nat}{most:Int}{l:az}{wl:nS}{FT:Nat->Nat->Prop}{FB S:Nat->Prop}{m n:Nat}{g:Value->Option Value}{FR:Nat->Prop}
theorem Y4.only{a:Option Value}{b:Option (Option Rw)}(h:Y4 w FR a b)(d:Only S w w')(c: ∀b,FR b-> ¬S b):Y4 w' FR a b:=by
 match a,b,h with
 |none,none,_=>trivial
 |some v,some x,h=>exact⟨h.1.only d (fun b e=>c b (h.2 b e)),h.2⟩
theorem mP.only(h:mP w B T most o l wl FT m n g FR)(a:Only S w w')(d: ¬S B)(e: ¬S m)(i: ∀c,FR c-> ¬S c)(f: ∀c q,FT c q-> ¬S c):mP w' B T most o l wl FT m n g FR:=
 ⟨a.heap h.blk d,h.map.only a e,h.tab.dR a f,h.up,h.key,h.fit,fun k=>(h.wr k).only a i,h.bB,h.bm,fun c b=>⟨(h.bR c b).1,(h.bR c b).2.1,da (h.bR c b).2.2.1 a.size,(h.bR c b).2.2.2⟩,h.Bm,h.cnt⟩
theorem iC.only(k:iC w B T most o l wl FT FB)(j:Only S w w')(a: ∀b,FB b-> ¬S b)(i: ∀b q,FT b q-> ¬S b):iC w' B T most o l wl FT FB:=by obtain⟨m,n,g,FR,f,e,d,c⟩:=k;exact⟨m,n,g,FR,f.only j (a B e) (a m d) (fun b h=>a b (c b h)) i,e,d,c⟩
theorem iC.below(h:iC w B T most o l wl FT FB)(a:Below w.heap.size w w'):iC w' B T most o l wl FT FB:=h.only (ri a) (fun _ _ h=>h) (fun _ _ _ h=>h)
theorem iC.tab(h:iC w B T most o l wl FT FB):bK w T most o l FT:=by obtain⟨m,n,g,FR,a,_⟩:=h;exact a.tab
end
theorem xS(w:World)(T o:Nat)(most:Int)(l:az)(FT:Nat->Nat->Prop)(i:bK w T most o l FT)(g: ∀d q,FT d q->d<w.heap.size):Calls prog 35 #[r7 T] w fun h w'=>
  ∃B,h=.returned (.tuple #[r7 B,rv 0])/\iC w' B T most o l [] FT (fun d=>w.heap.size<=d)/\Below w.heap.size w w':=by
 have j:= @run_makeMap prog;have f:=bW.made prog w 9;have b:=af w (.map #[] 0);obtain⟨c,e⟩:=rk (w.alloc (.map #[] 0)) (ue T (.map (some w.heap.size)))
 have H:=al (show ∃B,B=w.heap.size+1/\iC ((w.alloc (.map #[] 0)).alloc (ue T (.map (some w.heap.size)))) B T most o l [] FT (fun d=>w.heap.size<=d)/\Below w.heap.size w ((w.alloc (.map #[] 0)).alloc (ue T (.map (some w.heap.size))))from
  ⟨_,rfl,⟨w.heap.size,0,fun _=>none,fun _=>False,⟨by simpa using e,f.below c,(i.below b).below c,ee,fun q a=>by simp at a,fun q a=>by simp at a,fun k=>trivial,
   fun q a=>by have:=g _ q a;omega,fun q a=>by have:=g _ q a;omega,fun d b=>b.elim,by omega,dq _⟩,by omega,b8 _,fun d b=>b.elim⟩,b.x (c.m (by simp))⟩)
 clear i f b c e;go_enter func35,ntmps35;go_wp2_with fail
 go_ret2
 obtain⟨B,h,a,b⟩:=H.o;subst h;exact⟨_,rfl,a,b⟩
def jW(k:List UInt8)(wl:nS)(l:az):Option Rw:=match ay k wl with
 |some x=>x
 |none=>ay k l
theorem pM(w:World)(B T o:Nat)(most:Int)(l:az)(wl:nS)(FT:Nat->Nat->Prop)(FB:Nat->Prop)(k:List UInt8)(e:1<=k.length/\k.length<=16)(s:iC w B T most o l wl FT FB):
  Calls prog 199 #[r7 B,sd k] w (l9 (jW k wl l) w):=by
 obtain⟨j,p⟩:=rk w (sg 0 0 0 0);obtain⟨m,n,g,FR,a,d⟩:=s;have f: ∀i,FR i->i<w.heap.size:=fun i b=>(a.bR i b).2.2.1;have c:=a.only (ri j) (fun s=>s) (fun s=>s) (fun _ _ s=>s) (fun _ _ _ s=>s);clear a d;go_enter func199,ntmps199;go_upto_region 1 with fail;generalize w.alloc (sg 0 0 0 0)=h at j p c⊢;obtain⟨A,q⟩:=rl (w.heap.size);rw[q]at p⊢;have a:=AM q j p;have d:=c;have C: ∀i,FR i-> ¬i=A:=fun i b Q=>by have:=f i b;have:=a.o.1;omega
 clear c f;have r:=d.blk;have U:h.cell? ⟨B,0,none⟩=some (r7 T):=by simp[World.cell?,r]
 have S:h.cell? ⟨B,1,none⟩=some (.map (some m)):=by simp[World.cell?,r]
 have t:=al (dU h k);rw[vC e]at t;have f:=AI d.map (GU (k:=k) (by simp[maxLen];omega));have c:=d.wr k;have v:=AI d e;clear d r e j p q;go_wp2_with fail;refine t.o.m ?_;rintro Q V ⟨rfl,rfl⟩;clear t
 cases hq:ay k wl with
 |none=>
  have t:=al (show jW k wl l=ay k l by unfold jW;rw[hq]);rw[hq]at c;obtain⟨x,d⟩:=rl (g (sd k));rw[d]at c
  cases x with
  |some W=>exact c.elim
  |none=>
   have J:=al (pJ h T o most l FT k v.o.1.tab v.o.2);clear hq c;go_wp2_with (first|(at_lookup;go_loud (refine fL (key:=sd k) _ rfl _ _ 138 rfl yV underlying138 (Tryz.oM _) rfl f.o.1 rfl f.o.2 (.pointer none) false (by rw[d];rfl) (by rw[d];rfl) ?_))|fail);refine J.o.m ?_;rintro Q F ⟨rfl,b⟩;have y:=qS b a.o.d;have E:=AI b y;obtain⟨⟨L,N,G,H⟩,O,M,K,I⟩:=cX y;obtain⟨⟨r,j,p,q⟩,z⟩: ∃P,(ay k l).getD .zero=P:=⟨_,rfl⟩;obtain⟨R,u⟩: ∃R:Int,(if(ay k l).isSome=true then 0 else 14)=R:=⟨_,rfl⟩;rw[z,u];unfold Rw.val;have D:=AI z u;clear b y z u d;go_wp2_with fail;have b:=al (iy (v0:=rv r) (v1:=rv j) (v2:=rv p) (v3:=rv q) E.o.2);generalize ((((F.setCell ⟨A,0,none⟩ (rv r)).setCell ⟨A,1,none⟩ (rv j)).setCell ⟨A,2,none⟩ (rv p)).setCell ⟨A,3,none⟩ (rv q))=z at b⊢;refine dj (ax rfl _ _ _ _ _ _ _ rfl b.o.1 underlying109 rfl (by kernel_rfl)) rfl ⟨?_,?_⟩
   ·rw[t.o,D.o.1,D.o.2];rfl
   ·have u:Below w.heap.size w F:=a.o.2.1.x (E.o.1.m a.o.2.1.size);exact u.x (b.o.2.aI u.size (fun k e s=>by have:=a.o.1;omega))
 |some u=>
  have t:=al (show jW k wl l=u by unfold jW;rw[hq]);rw[hq]at c;obtain⟨x,d⟩:=rl (g (sd k));rw[d]at c
  cases x with
  |none=>exact c.elim
  |some W=>
   obtain⟨⟨L,N,G,H⟩,O,M,K,I⟩:=cX a.o.d
   cases u with
   |none=>obtain rfl:=c.1;clear hq c;go_wp2_with (first|(at_lookup;go_loud (refine fL (key:=sd k) _ rfl _ _ 138 rfl yV underlying138 (Tryz.oM _) rfl f.o.1 rfl f.o.2 (.pointer none) true (by rw[d];rfl) (by rw[d];rfl) ?_))|fail);have b:=al (iy (v0:=rv 0) (v1:=rv 0) (v2:=rv 0) (v3:=rv 0) a.o.d);generalize ((((h.setCell ⟨A,0,none⟩ (rv 0)).setCell ⟨A,1,none⟩ (rv 0)).setCell ⟨A,2,none⟩ (rv 0)).setCell ⟨A,3,none⟩ (rv 0))=z at b⊢;refine dj (ax rfl _ _ _ _ _ _ _ rfl b.o.1 underlying109 rfl (by kernel_rfl)) rfl ⟨by rw[t.o];rfl,?_⟩;exact a.o.2.1.x (b.o.2.aI a.o.2.1.size (fun k e s=>by have:=a.o.1;omega))
   |some P=>obtain⟨⟨i,rfl,y⟩,u⟩:=c;obtain⟨r,j,p,q⟩:=P;obtain⟨⟨R,F,P,J⟩,-⟩:=cX y;have D:=(v.o.1.bR i (u i rfl)).2.2.1;have E: ¬i=A:=C i (u i rfl);clear hq u D y C;go_wp2_with (first|(at_lookup;go_loud (refine fL (key:=sd k) _ rfl _ _ 138 rfl yV underlying138 (Tryz.oM _) rfl f.o.1 rfl f.o.2 (r7 i) true (by rw[d];rfl) (by rw[d];rfl) ?_))|fail);have b:=al (iy (v0:=rv r) (v1:=rv j) (v2:=rv p) (v3:=rv q) a.o.d);generalize ((((h.setCell ⟨A,0,none⟩ (rv r)).setCell ⟨A,1,none⟩ (rv j)).setCell ⟨A,2,none⟩ (rv p)).setCell ⟨A,3,none⟩ (rv q))=z at b⊢;refine dj (ax rfl _ _ _ _ _ _ _ rfl b.o.1 underlying109 rfl (by kernel_rfl)) rfl ⟨by rw[t.o];rfl,?_⟩;exact a.o.2.1.x (b.o.2.aI a.o.2.1.size (fun k e s=>by have:=a.o.1;omega))
end
theorem ES{P:Program}{w:World}{ops:Array Oper}{o:Oper}{a:Act}{M:Act->World->Prop}{Q:Exit->Act->World->Prop}{O:Prop}(p:o.guard=none)(s x:Operand)(t:TypeId)
  (z:o.op=.call {callee:=.builtin .append,args:= #[s,x],argTypes:= #[t,t]})
  (base:Nat) (e:TypeId) (i:TypeInfo) (L:Value) (k c:Nat) (H:P.underlying t=some (.slice e)) (hi:P.info? e=some i) (K:i.zero=some L)
  (g:i.size=k) (m:i.bytes=c) (q:L.cells.size=k) (B:0<k)
  (v:Value) (n:Nat) (xs:List Value) (I:a.eval s=v) (j:w.ownsRow base e k v n xs) (F:Nat->Prop) (d:Value) (news:List (List Value)) (E:a.eval x=d) (G:bJ k w F d news) (C: ∀y∈news,y.length=k) (u: ∀b∈news.flatten,b.oneCell'=true)
  (f:(n+news.length)*c<=140737488355328) (r:n+news.length<=maxLen) (h:base<=w.heap.size)
  (N: ∀b w',w'.ownsRow base e k b (n+news.length) (xs++news.flatten)->w.grownBy w' v.ownBlock->(b.ownBlock=v.ownBlock\/b.ownBlock=some w.heap.size)->M (a.put o.dst b) w'):
  if Region.wanted o (yielded ops a.tmps)=true then Oper.wp P o a w M Q else O:=by
 have A:Region.wanted o (yielded ops a.tmps)=true:=by simp[Region.wanted,p]
 rw[fi A];obtain⟨b,w',l,J,D,y⟩:=kJ (P:=P) w base t o.type e i L k c H hi K g m q B v n xs j F d news G C u f r h;unfold Oper.wp execOp;simp only[z,resolve,invoke,builtin,Sem.run_bind,Sem.run_pure,Result.andThen_ok,List.map_toArray,lx,kh,I,E,l];exact N b w' J D y
def M4(l:List Cl):List Value:=(l.map Cl.cells).flatten
theorem Tj(l m:List Cl):M4 (l++m)=M4 l++M4 m:=by simp[M4]
theorem J7{w:World}{X base:Nat}{x:Cl}(h:w.heap[X]?=some (sl x.wr x.aL x.key.toArray x.lo x.hi))(a:base<=X):w.ownsRow base 68 5 (.slice (some ⟨X,0,none⟩) 1 1) 1 (M4 [x]):=by refine⟨by simp[M4,Cl.cells],.inr ⟨X,1,_,rfl,a,h,b8 _,by simp[maxLen],rfl,?_⟩⟩;simp[M4,Cl.cells]
theorem Ic{w:World}{X:Nat}{x:Cl}(h:w.heap[X]?=some (sl x.wr x.aL x.key.toArray x.lo x.hi)):bJ 5 w (fun _=>True) (.slice (some ⟨X,0,none⟩) 1 1) ([x].map Cl.cells):=
 bJ.bO (J7 h (dq _)) (df _) (by decide) (fun _ _=>trivial)
def Xd(l:List Cl)(w:World)(e:Ending)(w':World):Prop:= ∃v,e=.returned (.tuple #[v,rv 0])/\w'.ownsRow w.heap.size 68 5 v l.length (M4 l)/\Below w.heap.size w w'
def Rn(w:World)(X R:Nat)(old now:Rw)(v:Value)(l:List Cl)(a:World):Prop:=
 a.ownsRow w.heap.size 68 5 v l.length (M4 l)/\(∀g,v.ownBlock=some g->g≠X/\g≠R)/\Below w.heap.size w a/\a.heap[X]?=some (sg old.a old.b old.c old.d)/\
  a.heap[R]?=some (sg now.a now.b now.c now.d)
theorem Rn.still{w b w1:World}{X R:Nat}{old now:Rw}{v:Value}{l:List Cl}(h:Rn w X R old now v l b)(a:Below b.heap.size b w1):Rn w X R old now v l w1:=by obtain⟨d,g,c,e,f⟩:=h;exact⟨bD d a,g,c.x (a.m c.size),qS a e,qS a f⟩
theorem Rn.more{w d w1 w2:World}{X R Y:Nat}{old now:Rw}{v v':Value}{l:List Cl}{x:Cl}(u:Rn w X R old now v l d)(a:Below d.heap.size d w1)(k:w2.ownsRow w.heap.size 68 5 v' (l.length+1) (M4 l++([x].map Cl.cells).flatten))
  (o:w1.grownBy w2 v.ownBlock) (m:v'.ownBlock=v.ownBlock\/v'.ownBlock=some Y) (r:w1.heap.size<=Y):Rn w X R old now v' (l++[x]) w2:=by
 obtain⟨n,f,b,p,q⟩:=u;have h:=qS a p;have i:=qS a q;have c:=Only.of_grownBy o;refine⟨by rw[Tj,gk];exact k,fun g j=>?_,(b.x (a.m b.size)).x (c.aI (dp b.size a.size) (fun t s e=>?_)),c.heap h (fun e=>(f X e).1 rfl),c.heap i (fun e=>(f R e).2 rfl)⟩
 ·rcases m with e|e
  ·exact f g (by rw[<-e];exact j)
  ·rw[j]at e;injection e with e;have:=aP h;have:=aP i;exact⟨by omega,by omega⟩
 ·have:=(n.lt t e).1;omega
def mn(b:Bool)(r:Rw):Option Rw:=if b then some r else none
theorem Pz{b:Bool}{r:Rw}(h:b=false->r=Rw.zero):(mn b r).getD Rw.zero=r:=by
 cases b
 ·exact(h rfl).symm
 ·rfl
theorem CI(b:Bool)(r:Rw):(mn b r).isSome=b:=by cases b<;>rfl
theorem jX(w:World)(B T o:Nat)(most:Int)(l:az)(wl:nS)(FT:Nat->Nat->Prop)(FB:Nat->Prop)(k:List UInt8)(hk:1<=k.length/\k.length<=16)(h:iC w B T most o l wl FT FB)(b i:Bool)(old now:Rw)(ho:b=false->old=Rw.zero)(hq:jW k wl l=mn b old)(op:Int)(hop:op=if i=true then 9 else 10):
  Calls prog 162 #[.int .i64 op,.pointer (some ⟨B,0,none⟩),.string ⟨k.toArray⟩,now.val] w (Xd (ig k (mn b old) (mn i now)) w):=by
 obtain⟨i0,hi,hz0,hz1,hz2⟩:=ef Tryz.sK;have HI:=al hi;have HG:=al (fun w' (h':iC w' B T most o l wl FT FB)=>pM w' B T o most l wl FT FB k hk h');rw[hq]at HG;unfold l9 at HG;rw[Pz ho,CI]at HG;have HF:=al (ab (wQ k (mn b old) (mn i now)) (ab (qE k (mn b old) (mn i now)) (show(∀c,kM k (mn b old) (mn i now) (c+1)=kM k (mn b old) (mn i now) c++uG c (mn b old) (mn i now))/\kM k (mn b old) (mn i now) 0=[⟨true,-1,k,0,0⟩]++(if b=i then[]else[⟨true,-1,[35],0,0⟩])from⟨fun _=>rfl,by rw[kM,CI,CI]⟩)));obtain⟨f,hf⟩:=rl (kM k (mn b old) (mn i now));rw[hf]at HF;rw[<-HF.o.1];obtain⟨oa,ob,oc,od⟩:=old;obtain⟨na,nb,nc,nd⟩:=now;unfold Rw.val;unfold Rw.val at HG;obtain⟨hb0,k0⟩:=rk w (.cells #[.int .i64 na,.int .i64 nb,.int .i64 nc,.int .i64 nd] 109);have h1:=h.below hb0;clear h hk hq hi hf ho;cases i<;>subst hop
 all_goals
  simp only[my,if_false,if_true];go_enter func162,ntmps162;go_upto_region 1 with fail;generalize w.alloc (.cells #[.int .i64 na,.int .i64 nb,.int .i64 nc,.int .i64 nd] 109)=w1 at hb0 k0 h1⊢;obtain⟨R,hR⟩:=rl (w.heap.size);rw[hR]at k0⊢;have HC:=al (HG.o w1 h1);have H1:=al (ab hb0 (ab k0 hR));clear hb0 k0 h1 hR HG;go_wp2_with fail;refine HC.o.m ?_;rintro e w2 ⟨rfl,hb2⟩;obtain⟨bG,kx⟩:=rk w2 (.cells #[.int .i64 oa,.int .i64 ob,.int .i64 oc,.int .i64 od] 109);have hb3:=(hb2.x (bG.m hb2.size));have kr:=qS hb3 H1.o.2.1;have HX:=al (ab (H1.o.1.x (hb3.m H1.o.1.size)) (ab kx kr));clear hb2 bG kx hb3 kr HC;cases b
 all_goals
  simp only[my,if_false,if_true];go_upto_region 6 with fail;have M5:=HX.o;clear HX;generalize w2.alloc (.cells #[.int .i64 oa,.int .i64 ob,.int .i64 oc,.int .i64 od] 109)=w3 at M5⊢;obtain⟨X,hX⟩:=rl (w2.heap.size);rw[hX]at M5⊢;have HX:=al (show Below w.heap.size w w3/\w3.heap[X]?=some (.cells #[.int .i64 oa,.int .i64 ob,.int .i64 oc,.int .i64 od] 109 (0,0))/\w3.heap[R]?=some (.cells #[.int .i64 na,.int .i64 nb,.int .i64 nc,.int .i64 nd] 109 (0,0))from M5);clear M5 hX;obtain⟨hby,ky⟩:=rk w3 (.cells #[.bool true,.int .i64 (-1),.string ⟨k.toArray⟩,.int .i64 0,.int .i64 0] 68);have hs3:w.heap.size<=w3.heap.size:=HX.o.1.size
  have HR:=al (show Rn w X R ⟨oa,ob,oc,od⟩ ⟨na,nb,nc,nd⟩ (.slice (some ⟨w3.heap.size,0,none⟩) 1 1) [⟨true,-1,k,0,0⟩] (w3.alloc (.cells #[.bool true,.int .i64 (-1),.string ⟨k.toArray⟩,.int .i64 0,.int .i64 0] 68))from by
   have g4:=qS hby HX.o.2.1;have g5:=qS hby HX.o.d;have l4:=aP HX.o.2.1;have l5:=aP HX.o.d
   exact⟨J7 (x:=⟨true,-1,k,0,0⟩) ky hs3,fun g hg=>by have hg2:some w3.heap.size=some g:=hg;injection hg2 with hg2;exact⟨by omega,by omega⟩,HX.o.1.x (hby.m hs3),g4,g5⟩)
  clear hby ky HX
 have hsame:=trivial;rotate_left;have aaQ:=trivial;rotate_left;have aaQ:=trivial;rotate_left;have hsame:=trivial;rotate_left
 all_goals try
  clear aaQ;obtain⟨hbz,kz⟩:=rk (w3.alloc (.cells #[.bool true,.int .i64 (-1),.string ⟨k.toArray⟩,.int .i64 0,.int .i64 0] 68)) (.cells #[.bool true,.int .i64 (-1),.string ⟨#[35]⟩,.int .i64 0,.int .i64 0] 68);rw[show(w3.alloc (.cells #[.bool true,.int .i64 (-1),.string ⟨k.toArray⟩,.int .i64 0,.int .i64 0] 68)).heap.size=w3.heap.size+1 by simp]at kz;have HZ:=al (ab hbz (ab (Ic (x:=⟨true,-1,[35],0,0⟩) kz) (bD HR.o.1 hbz)));clear hbz kz;go_upto_region 10 with(at_builtin;go_loud (refine dS _ rfl _ _ 27 rfl w.heap.size 68 i0 _ 5 48 underlying27 HI.o hz0 hz1 hz2 rfl (by decide) _ 1 (M4 [⟨true,-1,k,0,0⟩]) rfl HZ.o.d (fun _=>True) (.slice (some ⟨w3.heap.size+1,0,none⟩) 1 1) ([⟨true,-1,[35],0,0⟩].map Cl.cells) rfl HZ.o.2.1 (df _) (qD _) (by decide) (by decide) (dp HR.o.d.1.size HZ.o.1.size) ?_);intro v4 w4 eP PA aaR);have HS:=al (show Rn w X R ⟨oa,ob,oc,od⟩ ⟨na,nb,nc,nd⟩ v4 (f 0) w4 from by rw[HF.o.t];exact HR.o.more HZ.o.1 eP PA aaR (b8 _));clear eP PA aaR HZ HR hs3
 all_goals try
  clear hsame;go_upto_region 10 with fail;obtain⟨w4,hw4⟩:=rl (w3.alloc (.cells #[.bool true,.int .i64 (-1),.string ⟨k.toArray⟩,.int .i64 0,.int .i64 0] 68));rw[hw4]at HR⊢;obtain⟨A4,hA4⟩:=rl (some (⟨w3.heap.size,0,none⟩:Addr));rw[hA4]at HR⊢;have HS:=al (show Rn w X R ⟨oa,ob,oc,od⟩ ⟨na,nb,nc,nd⟩ (.slice A4 1 1) (f 0) w4 from by rw[HF.o.t];exact HR.o);clear HR hw4 hA4 hs3
 all_goals
  go_wp2_with fail
  go_loopw [14,44] (fun v i wr=> ∃c:Nat,c<=4/\i=.int .i64 (c:Int)/\Rn w X R ⟨oa,ob,oc,od⟩ ⟨na,nb,nc,nd⟩ v (f c) wr) (fun _ i _=>4-(intOf i).toNat)
  case atStart=>exact⟨0,by decide,rfl,HS.o⟩
  obtain⟨c,hc,rfl,yF⟩:=hrel;have hlen:=HF.o.2.1 c;have HW:=al (ab yF hlen);by_cases hlt:c<4
  case neg=>
   obtain rfl:c=4:=by omega
   clear yF hlen;go_wp2_with fail
   go_ret2
   have h:=HW.o.1;exact⟨_,rfl,h.1,h.2.2.1⟩
  have i1:(0:Int)<=(c:Int):=by omega
  have i2:(c:Int)<4:=by omega
  have z0:=dZ (r:=⟨oa,ob,oc,od⟩) yF.2.2.2.1 hlt;have y0:=dZ (r:=⟨na,nb,nc,nd⟩) yF.2.2.2.2 hlt;obtain⟨x,hx⟩:=rl (Rw.aL ⟨oa,ob,oc,od⟩ c);obtain⟨y,hy⟩:=rl (Rw.aL ⟨na,nb,nc,nd⟩ c);rw[hx]at z0;rw[hy]at y0;have HV:=al (ab hx hy);clear yF hlen hx hy
 -- neither was nor is; was; is; both
 have h0:=trivial;rotate_left;have FX:=trivial;rotate_left;have h17:=trivial;rotate_left;by_cases hxy:x=y
 ·subst hxy;go_wp2_with fail;go_quiet(fail);rename_i nq;go_wp2_with fail;go_roundw
  case rel=>refine⟨c+1,by omega,by go_num,?_⟩;rw[HF.o.d.1 c];unfold uG mn;simp only[if_true,HV.o.1,HV.o.2,gr];exact HW.o.1.still (Only.aI ((oT (fun _=>False) wr).drewN nq) (b8 _) (fun _ _ h=>h))
  case measure=>simp[intOf];omega
 have WH:(x==y)=false:=by simpa using hxy
 have M5:=al hxy;clear hxy;have FX:=trivial;have h17:=trivial
 all_goals
  go_wp2_with fail;go_quiet(fail);rename_i nq
  try clear WH
  clear z0 y0;have HA:=al (HW.o.1.still (show Below wr.heap.size wr (wr.drewN nq)from Only.aI ((oT (fun _=>False) wr).drewN nq) (b8 _) (fun _ _ h=>h)));generalize wr.drewN nq=wa at HA⊢
 all_goals try
  clear FX;go_upto_region 15 with fail;have HD:=al (HA.o.still (show Below wa.heap.size wa wa.drew from(aw _ _).drew));refine pw (S:=(fun W=>W.heap[X]?=some (.cells #[.int .i64 oa,.int .i64 ob,.int .i64 oc,.int .i64 od] 109 (0,0))/\W.heap[R]?=some (.cells #[.int .i64 na,.int .i64 nb,.int .i64 nc,.int .i64 nd] 109 (0,0)))) (by kernel_rfl) ⟨HA.o.t.1,HA.o.q⟩ (fun qt=>?_);clear HA;generalize wa.drew=wd at HD qt⊢;refine bq [0,1,2,3] ?_
  iterate 4 (refine ek (v:=?_) (fun wS hSw=>?_) qt ?_;rotate_left;(obtain⟨s0,s1⟩:=hSw;go_simp;try with_reducible rfl);try simp only[ah,ai,aj,ak])
  refine bt ?_;refine ml 4 (v:=?_) (fun wS hSw=>?_) qt ?_;rotate_left
  ·obtain⟨s0,s1⟩:=hSw;have q0:=dZ (r:=⟨oa,ob,oc,od⟩) s0 hlt;rw[HV.o.1]at q0;go_simp;try with_reducible rfl
  try simp only[ah,ai,aj,ak]
  refine bq [5,6] ?_
  iterate 2 (refine ek (v:=?_) (fun wS hSw=>?_) qt ?_;rotate_left;(obtain⟨s0,s1⟩:=hSw;go_simp;try with_reducible rfl);try simp only[ah,ai,aj,ak])
  refine bt ?_;refine ml 7 (v:=?_) (fun wS hSw=>?_) qt ?_;rotate_left
  ·obtain⟨s0,s1⟩:=hSw;have q0:=dZ (r:=⟨oa,ob,oc,od⟩) s0 hlt;rw[HV.o.1]at q0;go_simp;try with_reducible rfl
  try simp only[ah,ai,aj,ak]
  refine ml 8 (v:=?_) (fun wS hSw=>?_) qt ?_;rotate_left
  ·obtain⟨s0,s1⟩:=hSw;go_simp;try with_reducible rfl
  try simp only[ah,ai,aj,ak]
  refine bC 9 (fun K hK=>?_);go_simp;refine hK.o _ _ (⟨qS (af _ _) qt.1,qS (af _ _) qt.2⟩) ?_;clear hK K qt;intro qt
  try simp only[ah,ai,aj,ak]
  have dm:=af wd (.cells #[.bool true,.int .i64 (c:Int),.string ⟨#[]⟩,.int .i64 x,.int .i64 x] 68);have HN:=al (ab dm (ab (Ic (x:=⟨true,(c:Int),[],x,x⟩) (an wd (.cells #[.bool true,.int .i64 (c:Int),.string ⟨#[]⟩,.int .i64 x,.int .i64 x] 68))) (bD HD.o.1 dm)));clear dm;refine bC 10 (fun K hK=>?_);refine ES rfl _ _ 27 rfl w.heap.size 68 i0 _ 5 48 underlying27 HI.o hz0 hz1 hz2 rfl (by decide) _ _ _ rfl HN.o.d (fun _=>True) (.slice (some ⟨wd.heap.size,0,none⟩) 1 1) ([⟨true,(c:Int),[],x,x⟩].map Cl.cells) rfl HN.o.2.1 (df _) (qD _) (by have:=HW.o.2;simp;omega) (by have:=HW.o.2;simp[maxLen];omega) (dp HD.o.d.1.size HN.o.1.size) ?_;intro v6 wa lW xU wR;have HA:=al (HD.o.more (x:=⟨true,(c:Int),[],x,x⟩) HN.o.1 lW xU wR (b8 _));clear lW xU wR HN HD;refine hK.o _ _ (⟨HA.o.t.1,HA.o.q⟩) ?_;clear hK K qt;intro qt
  try simp only[ah,ai,aj,ak]
  refine ml 11 (v:=?_) (fun wS hSw=>?_) qt ?_;rotate_left
  ·obtain⟨s0,s1⟩:=hSw;go_simp;try with_reducible rfl
  try simp only[ah,ai,aj,ak]
  refine qe (by kernel_rfl) ?_ _;clear qt
 all_goals try
  clear h17;go_upto_region 17 with fail;have HD:=al (HA.o.still (show Below wa.heap.size wa wa.drew from(aw _ _).drew));refine pw (S:=(fun W=>W.heap[X]?=some (.cells #[.int .i64 oa,.int .i64 ob,.int .i64 oc,.int .i64 od] 109 (0,0))/\W.heap[R]?=some (.cells #[.int .i64 na,.int .i64 nb,.int .i64 nc,.int .i64 nd] 109 (0,0)))) (by kernel_rfl) ⟨HA.o.t.1,HA.o.q⟩ (fun qt=>?_);clear HA;generalize wa.drew=wd at HD qt⊢;refine bq [0,1,2,3] ?_
  iterate 4 (refine ek (v:=?_) (fun wS hSw=>?_) qt ?_;rotate_left;(obtain⟨s0,s1⟩:=hSw;go_simp;try with_reducible rfl);try simp only[ah,ai,aj,ak])
  refine bt ?_;refine ml 4 (v:=?_) (fun wS hSw=>?_) qt ?_;rotate_left
  ·obtain⟨s0,s1⟩:=hSw;have q0:=dZ (r:=⟨na,nb,nc,nd⟩) s1 hlt;rw[HV.o.2]at q0;go_simp;try with_reducible rfl
  try simp only[ah,ai,aj,ak]
  refine bq [5,6] ?_
  iterate 2 (refine ek (v:=?_) (fun wS hSw=>?_) qt ?_;rotate_left;(obtain⟨s0,s1⟩:=hSw;go_simp;try with_reducible rfl);try simp only[ah,ai,aj,ak])
  refine bt ?_;refine ml 7 (v:=?_) (fun wS hSw=>?_) qt ?_;rotate_left
  ·obtain⟨s0,s1⟩:=hSw;have q0:=dZ (r:=⟨na,nb,nc,nd⟩) s1 hlt;rw[HV.o.2]at q0;go_simp;try with_reducible rfl
  try simp only[ah,ai,aj,ak]
  refine ml 8 (v:=?_) (fun wS hSw=>?_) qt ?_;rotate_left
  ·obtain⟨s0,s1⟩:=hSw;go_simp;try with_reducible rfl
  try simp only[ah,ai,aj,ak]
  refine bC 9 (fun K hK=>?_);go_simp;refine hK.o _ _ (⟨qS (af _ _) qt.1,qS (af _ _) qt.2⟩) ?_;clear hK K qt;intro qt
  try simp only[ah,ai,aj,ak]
  have dm:=af wd (.cells #[.bool true,.int .i64 (c:Int),.string ⟨#[]⟩,.int .i64 y,.int .i64 y] 68);have HN:=al (ab dm (ab (Ic (x:=⟨true,(c:Int),[],y,y⟩) (an wd (.cells #[.bool true,.int .i64 (c:Int),.string ⟨#[]⟩,.int .i64 y,.int .i64 y] 68))) (bD HD.o.1 dm)));clear dm;refine bC 10 (fun K hK=>?_);refine ES rfl _ _ 27 rfl w.heap.size 68 i0 _ 5 48 underlying27 HI.o hz0 hz1 hz2 rfl (by decide) _ _ _ rfl HN.o.d (fun _=>True) (.slice (some ⟨wd.heap.size,0,none⟩) 1 1) ([⟨true,(c:Int),[],y,y⟩].map Cl.cells) rfl HN.o.2.1 (df _) (qD _) (by have:=HW.o.2;simp;omega) (by have:=HW.o.2;simp[maxLen];omega) (dp HD.o.d.1.size HN.o.1.size) ?_;intro v6 wa lW xU wR;have HA:=al (HD.o.more (x:=⟨true,(c:Int),[],y,y⟩) HN.o.1 lW xU wR (b8 _));clear lW xU wR HN HD;refine hK.o _ _ (⟨HA.o.t.1,HA.o.q⟩) ?_;clear hK K qt;intro qt
  try simp only[ah,ai,aj,ak]
  refine ml 11 (v:=?_) (fun wS hSw=>?_) qt ?_;rotate_left
  ·obtain⟨s0,s1⟩:=hSw;go_simp;try with_reducible rfl
  try simp only[ah,ai,aj,ak]
  refine qe (by kernel_rfl) ?_ _;clear qt
 all_goals
  go_wp2_with fail;go_roundw
  case rel=>
   refine⟨c+1,by omega,by go_num,?_⟩;rw[HF.o.d.1 c];unfold uG mn;have h:=HA.o
   first
   |simpa[HV.o.1,HV.o.2,M5.o]using h
   |simpa[HV.o.1,HV.o.2]using h
  case measure=>simp[intOf];omega
end Go.Proofs.YtehccbdajiiaaaaGreatDoor
