import Derived.Test.YtehccbdajiiaaaaGreatDoorS25
namespace Go.Proofs.YtehccbdajiiaaaaGreatDoor
open Go.Proofs.Tryz
set_option maxRecDepth 100000
set_option maxHeartbeats 16000000
open Go.RowKit
section
open Go.RowKit Go.Maps Go.WideShapes
abbrev ot:=List (List UInt8×Option Rw)
def WrB(w:World)(FR:Nat->Prop):Option Value->Option (Option Rw)->Prop
 |none,none=>True
 |some v,some x=>lG w v x/\ ∀b,v=rv b->FR b
 |_,_=>False
structure ni (w:World) (B T:Nat) (most:Int) (o:Nat) (l:az) (wl:ot) (FT:Nat->Nat->Prop) (m n:Nat) (g:Value->Option Value) (FR:Nat->Prop):Prop where
 blk:w.heap[B]?=some (ud T (.map (some m)))
 map:bX prog w 9 m n g
 tab:bz w T most o l FT
 up:dR wl
 key: ∀q∈wl,1<=q.1.length/\q.1.length<=16
 fit: ∀q∈wl,∀r,q.2=some r-> ∀c,I6 (r.aO c)
 wr: ∀k:List UInt8,WrB w FR (g (r7 k)) (aA k wl)
 bB: ∀q,¬FT B q
 bm: ∀q,¬FT m q
 bR: ∀b,FR b->b≠B/\b≠m/\b<w.heap.size/\ ∀q,¬FT b q
 Bm:B≠m
 cnt:n<=wl.length
def iI(w:World)(B T:Nat)(most:Int)(o:Nat)(l:az)(wl:ot)(FT:Nat->Nat->Prop)(FB:Nat->Prop):Prop:=
 ∃m n g FR,ni w B T most o l wl FT m n g FR/\FB B/\FB m/\ ∀b,FR b->FB b
section
variable{w w':World}{B T o:Nat}{most:Int}{l:az}{wl:ot}{FT:Nat->Nat->Prop}{FB S:Nat->Prop}{m n:Nat}{g:Value->Option Value}{FR:Nat->Prop}
theorem WrB.only{a:Option Value}{b:Option (Option Rw)}(h:WrB w FR a b)(c:Only S w w')(d: ∀b,FR b-> ¬S b):WrB w' FR a b:=by
 match a,b,h with
 |none,none,_=>trivial
 |some v,some x,h=>exact⟨h.1.only c (fun b e=>d b (h.2 b e)),h.2⟩
theorem ni.only(h:ni w B T most o l wl FT m n g FR)(a:Only S w w')(i: ¬S B)(e: ¬S m)(f: ∀b,FR b-> ¬S b)(d: ∀b q,FT b q-> ¬S b):ni w' B T most o l wl FT m n g FR:=
 ⟨a.heap h.blk i,h.map.only a e,h.tab.dC a d,h.up,h.key,h.fit,fun k=>(h.wr k).only a f,h.bB,h.bm,fun b c=>⟨(h.bR b c).1,(h.bR b c).2.1,da (h.bR b c).2.2.1 a.size,(h.bR b c).2.2.2⟩,h.Bm,h.cnt⟩
theorem iI.only(k:iI w B T most o l wl FT FB)(i:Only S w w')(a: ∀b,FB b-> ¬S b)(h: ∀b q,FT b q-> ¬S b):iI w' B T most o l wl FT FB:=by obtain⟨m,n,g,FR,j,e,d,c⟩:=k;exact⟨m,n,g,FR,j.only i (a B e) (a m d) (fun b f=>a b (c b f)) h,e,d,c⟩
theorem iI.below(h:iI w B T most o l wl FT FB)(a:Below w.heap.size w w'):iI w' B T most o l wl FT FB:=h.only (qS a) (fun _ _ h=>h) (fun _ _ _ h=>h)
theorem iI.tab(h:iI w B T most o l wl FT FB):bz w T most o l FT:=by obtain⟨m,n,g,FR,a,_⟩:=h;exact a.tab
end
theorem yF(w:World)(T o:Nat)(most:Int)(l:az)(FT:Nat->Nat->Prop)(i:bz w T most o l FT)(g: ∀b q,FT b q->b<w.heap.size):Calls prog 35 #[rv T] w fun h w'=>
  ∃B,h=.returned (.tuple #[rv B,rm 0])/\iI w' B T most o l [] FT (fun b=>w.heap.size<=b)/\Below w.heap.size w w':=by
 have j:= @run_makeMap prog;have f:=bX.made prog w 9;have a:=ae w (.map #[] 0);obtain⟨d,e⟩:=rj (w.alloc (.map #[] 0)) (ud T (.map (some w.heap.size)))
 have H:=al (show ∃B,B=w.heap.size+1/\iI ((w.alloc (.map #[] 0)).alloc (ud T (.map (some w.heap.size)))) B T most o l [] FT (fun b=>w.heap.size<=b)/\Below w.heap.size w ((w.alloc (.map #[] 0)).alloc (ud T (.map (some w.heap.size))))from
  ⟨_,rfl,⟨w.heap.size,0,fun _=>none,fun _=>False,⟨by simpa using e,f.below d,(i.below a).below d,ee,fun q c=>by simp at c,fun q c=>by simp at c,fun k=>trivial,
   fun q c=>by have:=g _ q c;omega,fun q c=>by have:=g _ q c;omega,fun b a=>a.elim,by omega,dq _⟩,by omega,b8 _,fun b a=>a.elim⟩,a.x (d.m (by simp))⟩)
 clear i f a d e;go_enter func35,ntmps35;go_wp2_with fail
 go_ret2
 obtain⟨B,h,a,c⟩:=H.o;subst h;exact⟨_,rfl,a,c⟩
def kv(k:List UInt8)(wl:ot)(l:az):Option Rw:=match aA k wl with
 |some x=>x
 |none=>aA k l
theorem p6(w:World)(B T o:Nat)(most:Int)(l:az)(wl:ot)(FT:Nat->Nat->Prop)(FB:Nat->Prop)(k:List UInt8)(i:1<=k.length/\k.length<=16)(s:iI w B T most o l wl FT FB):
  Calls prog 199 #[rv B,r7 k] w (mz (kv k wl l) w):=by
 obtain⟨j,p⟩:=rj w (r8 0 0 0 0);obtain⟨m,n,g,FR,a,e⟩:=s;have f: ∀b,FR b->b<w.heap.size:=fun b c=>(a.bR b c).2.2.1;have d:=a.only (qS j) (fun s=>s) (fun s=>s) (fun _ _ s=>s) (fun _ _ _ s=>s);clear a e;go_enter func199,ntmps199;go_upto_region 1 with fail;generalize w.alloc (r8 0 0 0 0)=h at j p d⊢;obtain⟨A,r⟩:=rk (w.heap.size);rw[r]at p⊢;have a:=AF r j p;have e:=d;have E: ∀b,FR b-> ¬b=A:=fun b c S=>by have:=f b c;have:=a.o.1;omega
 clear d f;have t:=e.blk;have X:h.cell? ⟨B,0,none⟩=some (rv T):=by simp[World.cell?,t]
 have V:h.cell? ⟨B,1,none⟩=some (.map (some m)):=by simp[World.cell?,t]
 have q:=al (eB h k);rw[wh i]at q;have f:=AD e.map (Ig (k:=k) (by simp[maxLen];omega));have d:=e.wr k;have D:=AD e i;clear e t i j p r;go_wp2_with fail;refine q.o.m ?_;rintro S W ⟨rfl,rfl⟩;clear q
 cases hq:aA k wl with
 |none=>
  have t:=al (show kv k wl l=aA k l by unfold kv;rw[hq]);rw[hq]at d;obtain⟨C,e⟩:=rk (g (r7 k));rw[e]at d
  cases C with
  |some v=>exact d.elim
  |none=>
   have J:=al (mY h T o most l FT k D.o.1.tab D.o.2);clear hq d;go_wp2_with (first|(at_lookup;go_loud (refine fS (key:=r7 k) _ rfl _ _ 138 rfl zT underlying138 (Tryz.pq _) rfl f.o.1 rfl f.o.2 (.pointer none) false (by rw[e];rfl) (by rw[e];rfl) ?_))|fail);refine J.o.m ?_;rintro S H ⟨rfl,c⟩;have y:=qt c a.o.d;have F:=AD c y;obtain⟨⟨O,M,P,K⟩,N,I,L,Q⟩:=cP y;obtain⟨⟨p,j,r,q⟩,z⟩: ∃R,(aA k l).getD .zero=R:=⟨_,rfl⟩;obtain⟨U,u⟩: ∃U:Int,(if(aA k l).isSome=true then 0 else 14)=U:=⟨_,rfl⟩;rw[z,u];unfold Rw.val;have G:=AD z u;clear c y z u e;go_wp2_with fail;have c:=al (iH (v0:=rm p) (v1:=rm j) (v2:=rm r) (v3:=rm q) F.o.2);generalize ((((H.setCell ⟨A,0,none⟩ (rm p)).setCell ⟨A,1,none⟩ (rm j)).setCell ⟨A,2,none⟩ (rm r)).setCell ⟨A,3,none⟩ (rm q))=z at c⊢;refine dj (ax rfl _ _ _ _ _ _ _ rfl c.o.1 underlying109 rfl (by kernel_rfl)) rfl ⟨?_,?_⟩
   ·rw[t.o,G.o.1,G.o.2];rfl
   ·have u:Below w.heap.size w H:=a.o.2.1.x (F.o.1.m a.o.2.1.size);exact u.x (c.o.2.aH u.size (fun k i s=>by have:=a.o.1;omega))
 |some x=>
  have t:=al (show kv k wl l=x by unfold kv;rw[hq]);rw[hq]at d;obtain⟨C,e⟩:=rk (g (r7 k));rw[e]at d
  cases C with
  |none=>exact d.elim
  |some v=>
   obtain⟨⟨O,M,P,K⟩,N,I,L,Q⟩:=cP a.o.d
   cases x with
   |none=>obtain rfl:=d.1;clear hq d;go_wp2_with (first|(at_lookup;go_loud (refine fS (key:=r7 k) _ rfl _ _ 138 rfl zT underlying138 (Tryz.pq _) rfl f.o.1 rfl f.o.2 (.pointer none) true (by rw[e];rfl) (by rw[e];rfl) ?_))|fail);have c:=al (iH (v0:=rm 0) (v1:=rm 0) (v2:=rm 0) (v3:=rm 0) a.o.d);generalize ((((h.setCell ⟨A,0,none⟩ (rm 0)).setCell ⟨A,1,none⟩ (rm 0)).setCell ⟨A,2,none⟩ (rm 0)).setCell ⟨A,3,none⟩ (rm 0))=z at c⊢;refine dj (ax rfl _ _ _ _ _ _ _ rfl c.o.1 underlying109 rfl (by kernel_rfl)) rfl ⟨by rw[t.o];rfl,?_⟩;exact a.o.2.1.x (c.o.2.aH a.o.2.1.size (fun k i s=>by have:=a.o.1;omega))
   |some R=>obtain⟨⟨b,rfl,y⟩,u⟩:=d;obtain⟨p,j,r,q⟩:=R;obtain⟨⟨U,J,R,H⟩,-⟩:=cP y;have F:=(D.o.1.bR b (u b rfl)).2.2.1;have G: ¬b=A:=E b (u b rfl);clear hq u F y E;go_wp2_with (first|(at_lookup;go_loud (refine fS (key:=r7 k) _ rfl _ _ 138 rfl zT underlying138 (Tryz.pq _) rfl f.o.1 rfl f.o.2 (rv b) true (by rw[e];rfl) (by rw[e];rfl) ?_))|fail);have c:=al (iH (v0:=rm p) (v1:=rm j) (v2:=rm r) (v3:=rm q) a.o.d);generalize ((((h.setCell ⟨A,0,none⟩ (rm p)).setCell ⟨A,1,none⟩ (rm j)).setCell ⟨A,2,none⟩ (rm r)).setCell ⟨A,3,none⟩ (rm q))=z at c⊢;refine dj (ax rfl _ _ _ _ _ _ _ rfl c.o.1 underlying109 rfl (by kernel_rfl)) rfl ⟨by rw[t.o];rfl,?_⟩;exact a.o.2.1.x (c.o.2.aH a.o.2.1.size (fun k i s=>by have:=a.o.1;omega))
end
section
open Go.RowKit Go.Maps Go.WideShapes
theorem Je(k:List UInt8)(wl:ot)(l:az):kv k wl l=(aA k wl).getD (aA k l):=by unfold kv;cases aA k wl<;>rfl
theorem kF{wl:ot}{l:az}(a:dR wl)(h:dR l)(k:List UInt8):kv k wl l=aA k (aW wl l):=by rw[Je,dJ a h]
section
variable{P:Program}{w w':World}{K:TypeId}{b n:Nat}{g:Value->Option Value}
theorem bX.Qx(h:bX P w K b n g)(L:Keyed P K){t e:TypeId}(u:P.underlying t=some (.map K e))(y:n<maxLen){key val:Value}{a:Lit}(c:keyOf P K key=some a):
  ∃w',(Instr.mapUpdate t (.map (some b)) key val).run P w=.ok () w'/\bX P w' K b (if(g key).isSome then n else n+1) (oF g key (some val))/\Only (fun k=>k=b) w w':=by
 obtain⟨D,h,z⟩:=h;obtain⟨w',o,s,p⟩:=h.store L u y c (show qB val=some (.held val,[])from rfl);refine⟨w',o,⟨D.put a (.held val),?_,fun v l d=>?_⟩,(Only.of_grownBy p.grown).m (fun i _ e=>by injection e with e;exact e.symm)⟩
 ·have i:=size_put (h.tidy L) (k:=a) (.held val);rw[(z key a c).1]at i;have B:=h.size_le;obtain⟨f,m,r,q,A,j⟩:=s;refine⟨f,m,r,q,?_,j⟩;have x:Maps.size (D.put a (.held val))=f.size:=by rw[j];simp[Maps.size,length_sorted]
  rw[<-x,i];split<;>omega
 ·by_cases e:v=key
  ·subst e;have:l=a:=eC (d.symm.x c);subst this;rw[pS];exact⟨has_put_same h.isMap (L.key c) _,fun j=>atKey_put_same h.isMap (L.key c) _ _⟩
  ·have f:l≠a:=fun i=>e (L.inj (by rw[<-i];exact d) c);rw[nN _ _ e,has_put_other f];exact⟨(z v l d).1,fun j=>by rw[atKey_put_other f];exact(z v l d).2 j⟩
end
section
variable{P:Program}(w:World){ops:Array Oper}{rest:List Oper}{o:Oper}{a:Act}{Q:Exit->Act->World->Prop}
theorem jM(l:o.guard=none)(m x v:Operand)(t:TypeId)(i:o.op=Op.mapUpdate t m x v){K e:TypeId}(L:Keyed P K)(y:P.underlying t=some (.map K e)){b n:Nat}{g:Value->Option Value}
  (j:a.eval m=.map (some b)) (f:bX P w K b n g) (A:n<maxLen) {key val:Value} {u:Lit} (p:a.eval x=key) (s:a.eval v=val) (d:keyOf P K key=some u)
  (z: ∀w',bX P w' K b (if(g key).isSome then n else n+1) (oF g key (some val))->Only (fun k=>k=b) w w'->wpList P ops Q rest (a.put o.dst undef) w'):wpList P ops Q (o::rest) a w:=by
 refine wpList_plain l fun c h=>?_;obtain⟨w',c,r,q⟩:=f.Qx L y A (val:=val) d;unfold Oper.wp;simp[execOp,i,j,p,s,c,Result.andThen];exact h _ _ (z w' r q)
end
theorem WrB.FP{w:World}{FR:Nat->Prop}{a:Option Value}{b:Option (Option Rw)}(h:WrB w FR a b):a.isSome=b.isSome:=by
 match a,b,h with
 |none,none,_=>rfl
 |some _,some _,_=>rfl
theorem ni.Qy{w:World}{B T o m n:Nat}{most:Int}{l:az}{wl:ot}{FT:Nat->Nat->Prop}{g:Value->Option Value}{FR:Nat->Prop}(h:ni w B T most o l wl FT m n g FR)(k:List UInt8):(g (r7 k)).isSome=true↔k∈wl.map Prod.fst:=by rw[(h.wr k).FP];exact xp h.up k
theorem ni.Uw{w:World}{B T o m n:Nat}{most:Int}{l:az}{wl:ot}{FT:Nat->Nat->Prop}{g:Value->Option Value}{FR:Nat->Prop}(h:ni w B T most o l wl FT m n g FR): ∀k∈wl.map Prod.fst,1<=k.length/\k.length<=16:=by intro k b;obtain⟨q,a,rfl⟩:=ep.1 b;exact h.key q a
theorem nW(wl:ot)(l:az): ∀a:List (List UInt8),-(a.length:Int)<=lj wl l a/\lj wl l a<=a.length
 |[]=>⟨eL _,eL _⟩
 |k::a=>by
  have b:=nW wl l a
  have h: -1<=lj wl l [k]/\lj wl l [k]<=1:=by
   unfold lj dQ;simp only[lj];split
   ·split<;>split<;>simp
   ·simp
  have e:=xt wl l k a [];simp only[fj]at e;simp only[gn];omega
def abp(w:World)(m r c:Nat)(g:Value->Option Value)(wl:ot)(l:az)(v:Value)(b:World):Prop:=
 ∃a,oH b m r c g a/\(∀k∈a,k∈wl.map Prod.fst)/\a.length<=wl.length/\v=.int .i64 (((aW wl l).length:Int)-lj wl l a)/\Below w.heap.size w b/\w.heap.size<=r
theorem BQ(w:World)(B T o:Nat)(most:Int)(l:az)(wl:ot)(FT:Nat->Nat->Prop)(FB:Nat->Prop)(r:iI w B T most o l wl FT FB)(i:wl.length<=2305843009213693952):
  Calls prog 66 #[rv B] w fun C w'=>C=.returned (rm ((aW wl l).length:Int))/\Below w.heap.size w w':=by
 obtain⟨m,n,g,FR,a,-,-,-⟩:=r;have c:=a.blk;have P:w.cell? ⟨B,0,none⟩=some (rv T):=by simp[World.cell?,c]
 have Q:w.cell? ⟨B,1,none⟩=some (.map (some m)):=by simp[World.cell?,c]
 have d:=xu (l:=l) a.up a.tab.up;have f:=a.tab.len;have h:=a.tab.KW;have H:=AM a d i f h.2;have e:=al (mX w T o most l FT a.tab);clear a c d i f h;go_enter func66,ntmps66;go_wp2_with fail;refine e.o.m ?_;rintro C N ⟨rfl,rfl⟩;clear e;go_wp2_with (at_range;go_loud (refine lC _ rfl _ 138 rfl underlying138 rfl H.o.1.map (wl.map Prod.fst) (fun k _=>H.o.1.Qy k) (gW H.o.1.up) (fun k a=>by have:=(H.o.1.Uw k a).2;unfold maxLen;omega) ?_);intro N c d;have e:=AD c d;clear c d)
 go_frame
 go_loopw [3] (fun v wr=>abp w m w.heap.size n g wl l v wr) (fun _ wr=>wr.rangeLeft m w.heap.size)
 case atStart=>exact⟨_,e.o.1,fun k a=>a,by simp,by have:=H.o.2.1;congr 1;omega,e.o.2,b8 _⟩
 case round=>
  obtain⟨u,c,a,f,rfl,d,p⟩:=hrel
  rename World=>wr
  have e:=AI a f d p;clear a f d p;go_wp2_with (at_next;refine qC _ rfl _ rfl rfl c ?_ ?_)
  ·intro a;subst a;go_wp2_with fail;go_ret
   exact⟨by simp[lj],e.o.d.1⟩
  ·intro j i k v q f D y z E G O;have K:=H.o.1.Uw k (e.o.1 k (by rw[f];simp));have h:=H.o.1.wr k;rw[D]at h;have s:Below w.heap.size w q:=e.o.d.1.x (E.aH e.o.d.1.size (fun d a C=>by have:=e.o.t;omega))
   obtain⟨x,A⟩: ∃x,aA k wl=some x:=by
    cases hq:aA k wl with
    |none=>rw[hq]at h;exact h.elim
    |some x=>exact⟨x,rfl⟩
   rw[A]at h;have a:=qt s H.o.1.blk;have R:q.cell? ⟨B,0,none⟩=some (rv T):=by simp[World.cell?,a]
   clear a;have t:=xt wl l k i j;rw[<-f]at t;have F:lj wl l [k]=dQ l (k,x):=by simp[lj,A]
   rw[F]at t;have J:=nW wl l (j++i);have I:=nW wl l u;have L:=e.o.2.1;have d:=AS y z s t (show -(wl.length:Int)<=lj wl l u/\lj wl l u<=wl.length from by omega) G (show(∀M∈j++i,M∈wl.map Prod.fst)/\(j++i).length<=wl.length from⟨fun M a=>e.o.1 M (by rw[f];rcases dr.1 a with r|r<;>simp[r]),by have:=e.o.2.1;rw[f]at this;simp at this⊢;omega⟩);have a:=al (mY q T o most l FT k (H.o.1.tab.below s) K);clear t F J I L y z s G E c f D;obtain⟨S,f⟩: ∃S:Int,((aW wl l).length:Int)-lj wl l u=S:=⟨_,rfl⟩;have s: -9000000000000000000<=S/\S<=9000000000000000000:=by have:=H.o.2.1;have:=H.o.d.1;have:=H.o.t.1;have:=H.o.q;have:=d.o.q.1;have:=xu (l:=l) H.o.1.up H.o.1.tab.up;have M:=nW wl l (wl.map Prod.fst);rw[fa]at M;omega
   have c:((aW wl l).length:Int)-lj wl l (j++i)=S+dQ l (k,x):=by have:=d.o.t.1;omega
   rw[f];have E:=al c;have F:=al s;clear c f s;obtain⟨J,y⟩:=rk (aA k l);rw[y]at a;have D:dQ l (k,x)=if J.isSome then(if x.isSome then 0 else -1)else(if x.isSome then 1 else 0):=by unfold dQ;rw[y]
   rw[D]at E
   have s:=al (show ∀(f t:World) (z:Int),Below q.heap.size q f->Below f.heap.size f t->z=S+(if J.isSome then(if x.isSome then 0 else -1)else(if x.isSome then 1 else 0))->abp w m w.heap.size n g wl l (rm z) t/\t.rangeLeft m w.heap.size<wr.rangeLeft m w.heap.size from by
    rintro f t z c L rfl;have G:=c.x (L.m c.size);have I:=qS G
    exact⟨⟨j++i,d.o.1.only I (fun r=>r) (fun r=>r),d.o.q.d.1,d.o.q.t,by rw[E.o],d.o.d.1.x (G.m d.o.d.1.size),b8 _⟩,by rw[d.o.1.left I (fun r=>r) (fun r=>r)];exact d.o.2.1⟩)
   obtain⟨v,rfl,t⟩: ∃z,v=.pointer z/\(x=none/\z=none\/ ∃b,x.isSome/\z=some b):=by
    cases x with
    |none=>exact⟨none,h.1,.inl ⟨rfl,rfl⟩⟩
    |some z=>obtain⟨⟨b,rfl,-⟩,-⟩:=h;exact⟨_,rfl,.inr ⟨_,rfl,rfl⟩⟩
   clear h A y D;obtain⟨⟨y,D,G,A⟩,p⟩: ∃z,J.getD .zero=z:=⟨_,rfl⟩;unfold mz at a;rw[p]at a;clear p;unfold Rw.val at a;rcases t with⟨rfl,rfl⟩|⟨b,h,rfl⟩
   ·cases J with
    |some p=>go_wp2_with fail;refine a.o.m ?_;rintro C f ⟨rfl,c⟩;clear a;go_wp2_with fail;refine s.o _ _ _ c (ae _ _) ?_;have:=F.o;simp;unfold wrap64;omega
    |none=>go_wp2_with fail;refine a.o.m ?_;rintro C f ⟨rfl,c⟩;clear a;go_wp2_with fail;exact s.o _ _ _ c (ae _ _) (by simp)
   ·cases J with
    |some p=>go_wp2_with fail;refine a.o.m ?_;rintro C f ⟨rfl,c⟩;clear a;go_wp2_with fail;exact s.o _ _ _ c (ae _ _) (by simp[h])
    |none=>go_wp2_with fail;refine a.o.m ?_;rintro C f ⟨rfl,c⟩;clear a;go_wp2_with fail;refine s.o _ _ _ c (ae _ _) ?_;have:=F.o;simp[h];unfold wrap64;omega
end
section
open Go.RowKit Go.Maps Go.WideShapes
theorem str_inj{a b:List UInt8}(h:Value.string ⟨a.toArray⟩=r7 b):a=b:=by injection h with h;injection h with h;simpa using h
section
variable{w w':World}{B T o m n:Nat}{most:Int}{l:az}{wl:ot}{FT:Nat->Nat->Prop}{g:Value->Option Value}{FR:Nat->Prop}{k:List UInt8}{x:Option Rw}{v:Value}
theorem ni.put(h:ni w B T most o l wl FT m n g FR)(s:1<=k.length/\k.length<=16)(r: ∀c,x=some c-> ∀d,I6 (c.aO d))
  (p:bX prog w' 9 m (if(g (r7 k)).isSome then n else n+1) (oF g (r7 k) (some v))) (e:Only (fun j=>j=m) w w') (t:lG w v x)
  (f: ∀b,v=rv b->b≠B/\b≠m/\b<w.heap.size/\ ∀q,¬FT b q):
  ni w' B T most o l (cO (k,x) wl) FT m (if(g (r7 k)).isSome then n else n+1) (oF g (r7 k) (some v)) (fun b=>FR b\/v=rv b):=by
 refine⟨e.heap h.blk h.Bm,p,h.tab.dC e (fun b q c j=>h.bm q (j▸c)),fk h.up,fun q d=>?_,fun q d=>?_,fun i=>?_,h.bB,h.bm,fun b c=>?_,h.Bm,?_⟩
 ·rcases iu d with rfl|d
  ·exact s
  ·exact h.key q d
 ·rcases iu d with rfl|d
  ·exact r
  ·exact h.fit q d
 ·rw[mN h.up];by_cases j:i=k
  ·subst j;rw[ff rfl,pS];exact⟨t.only e (fun b j=>(f b j).2.1),fun b j=>.inr j⟩
  ·rw[fb j,nN _ _ (fun d=>j (str_inj d))];have d:=(h.wr i).only e (fun b c=>(h.bR b c).2.1);generalize g (r7 i)=a at d⊢;generalize aA i wl=b at d⊢
   match a,b,d with
   |none,none,_=>trivial
   |some _,some _,d=>exact⟨d.1,fun b j=>.inl (d.2 b j)⟩
 ·rcases c with c|c
  ·exact⟨(h.bR b c).1,(h.bR b c).2.1,da (h.bR b c).2.2.1 e.size,(h.bR b c).2.2.2⟩
  ·exact⟨(f b c).1,(f b c).2.1,da (f b c).2.2.1 e.size,(f b c).2.2.2⟩
 ·have d:=h.cnt;have c:=(h.wr k).FP;rw[lg h.up,c];split<;>omega
end
def K2(w w':World)(B T o:Nat)(most:Int)(l:az)(wl:ot)(FT:Nat->Nat->Prop)(m:Nat)(FR:Nat->Prop):Prop:=
 ∃n g a,ni w' B T most o l wl FT m n g a/\(∀b,a b->FR b\/w.heap.size<=b)/\Only (fun k=>k=m) w w'
def sA(w:World)(B T o:Nat)(most:Int)(l:az)(wl:ot)(FT:Nat->Nat->Prop)(m:Nat)(FR:Nat->Prop)(k:List UInt8)(r:Rw)(e:Ending)(w':World):Prop:=
 if aA k (aW wl l)=none/\most<=(aW wl l).length then e=.returned (rm 16)/\Below w.heap.size w w'
 else e=.returned (rm 0)/\K2 w w' B T o most l (cO (k,some r) wl) FT m FR
theorem ni.at_{w:World}{B T o m n:Nat}{most:Int}{l:az}{wl:ot}{FT:Nat->Nat->Prop}{g:Value->Option Value}{FR:Nat->Prop}(h:ni w B T most o l wl FT m n g FR):iI w B T most o l wl FT (fun _=>True):=⟨m,n,g,FR,h,trivial,trivial,fun _ _=>trivial⟩
theorem iI.up{w:World}{B T o:Nat}{most:Int}{l:az}{wl:ot}{FT:Nat->Nat->Prop}{FB:Nat->Prop}(h:iI w B T most o l wl FT FB):dR wl:=by obtain⟨m,n,g,FR,a,_⟩:=h;exact a.up
theorem M5(w:World)(B T o m n:Nat)(most:Int)(l:az)(wl:ot)(FT:Nat->Nat->Prop)(g:Value->Option Value)(FR:Nat->Prop)(k:List UInt8)(r:Rw)(y:1<=k.length/\k.length<=16)(E: ∀U,I6 (r.aO U))(a:ni w B T most o l wl FT m n g FR)
  (H: ∀b q,FT b q->b<w.heap.size) (X:wl.length<=2305843009213693952):Calls prog 164 #[rv B,r7 k,r.val] w (sA w B T o most l wl FT m FR k r):=by
 have h:=a.at_;have Q:=al a;obtain⟨FB,c⟩: ∃FB:Nat->Prop,FB=fun _=>True:=⟨_,rfl⟩;rw[<-c]at h;clear a c;obtain⟨C,J,N,F⟩:=r;obtain⟨c,p⟩:=rj w (r8 C J N F);unfold Rw.val;go_enter func164,ntmps164;go_upto_region 1 with fail;generalize w.alloc (r8 C J N F)=s at c p⊢;obtain⟨P,M⟩:=rk (w.heap.size);rw[M]at p⊢;have A:=h.below c;have d:=kF (k:=k) (h.up) h.tab.up;have f:=BE A c p M trivial H X y E;have a:=al (p6 s B T o most l wl FT FB k y A);rw[d]at a;unfold mz at a;clear c p M H X y E A h d;obtain⟨q,z⟩:=rk (aA k (aW wl l));rw[z]at a;obtain⟨⟨ya,yb,yc,yd⟩,c⟩: ∃r,q.getD .zero=r:=⟨_,rfl⟩;rw[c]at a;clear c;have HQ:=al z;clear z;go_wp2_with fail;refine a.o.m ?_;rintro j w2 ⟨rfl,c⟩;unfold Rw.val;have v:=ae w2 (r8 ya yb yc yd);have e:=AD c v;clear c v a;have i:=Q.o.only (qS (f.o.2.1.x ((e.o.1.x (e.o.2.m e.o.1.size)).m f.o.2.1.size))) (fun h=>h) (fun h=>h) (fun _ _ h=>h) (fun _ _ _ h=>h);go_upto_region 2 with fail;generalize w2.alloc (r8 ya yb yc yd)=c at e i⊢;have d:Below s.heap.size s c:=e.o.1.x (e.o.2.m e.o.1.size);have a:Below w.heap.size w c:=f.o.2.1.x (d.m f.o.2.1.size);have s:=i.blk;have L:c.cell? ⟨B,0,none⟩=some (rv T):=by simp[World.cell?,s]
 have O:=AI i trivial d a;clear s a i;have G:=al (show ∀W,Below c.heap.size c W->Calls prog 66 #[rv B] W fun j w'=>j=.returned (rm ((aW wl l).length:Int))/\Below W.heap.size W w' from fun W a=>BQ W B T o most l wl FT FB (f.o.1.below (d.x (a.m d.size))) f.o.q.d.1);have D:=al (show ∀W,Below c.heap.size c W->Calls prog 67 #[rv T] W fun j w'=>j=.returned (rm most)/\W=w' from fun W a=>yB W T o most l FT (f.o.1.below (d.x (a.m d.size))).tab)
 have t:=al (show ∀W,Below c.heap.size c W->W.cell? ⟨B,1,none⟩=some (.map (some m))/\bX prog W 9 m n g/\n<maxLen/\Below w.heap.size w W/\ ∀w',bX prog w' 9 m (if(g (r7 k)).isSome then n else n+1) (oF g (r7 k) (some (rv P)))->Only (fun V=>V=m) W w'->
   K2 w w' B T o most l (cO (k,some ⟨C,J,N,F⟩) wl) FT m FR from by
  intro W a;obtain⟨A,Z,x,s⟩:=O.o;obtain⟨-,-,p,M,-,H,X,y,E⟩:=f.o;have i:=A.only (qS a) (fun h=>h) (fun h=>h) (fun _ _ h=>h) (fun _ _ _ h=>h);have v:=s.x (a.m s.size);have S:=i.blk;have u:=qt (x.x (a.m x.size)) p;have l1:=aM Q.o.blk;have Y:=Q.o.map.lt;refine⟨by simp[World.cell?,S],i.map,by have:=i.cnt;unfold maxLen;omega,v,fun w' R I=>⟨_,_,_,i.put y (x:=some ⟨C,J,N,F⟩) (fun r j U=>by injection j with j;subst j;exact E U) R I ⟨P,rfl,u⟩ (fun b j=>?_),fun b a=>?_,(oB v _).x I (fun V _ j=>j)⟩⟩
  ·injection j with j;injection j with j;injection j with j;subst j;exact⟨by omega,by omega,aM u,fun q z=>by have:=H _ q z;omega⟩
  ·rcases a with a|a
   ·exact .inl a
   ·injection a with a;injection a with a;injection a with a;exact .inr (by omega))
 clear d
 cases q with
 |none=>
  simp only[nx,nf,if_false];refine pt (S:=(fun W=>Below c.heap.size c W/\W.cell? ⟨B,0,none⟩=some (rv T))) (by kernel_rfl) ⟨(bd _ _).drew,L⟩ (fun a=>?_);refine bj [0,1,2,3,5,6,7,8] ?_
  iterate 8 (refine dZ (v:=?_) (fun _ ⟨R,U⟩=>?_) a ?_;rotate_left;(go_simp;try rfl);try simp only[xr])
  refine bq ?_;refine bA 4 (fun K d=>?_);go_simp;refine(G.o _ a.1).m ?_;rintro j wn ⟨rfl,s⟩
  try go_simp
  refine d.o _ _ (Ie a s) ?_;clear d K a s;intro a
  try simp only[xr]
  refine bA 9 (fun K d=>?_);go_simp;refine(D.o _ a.1).m ?_;rintro j wn ⟨rfl,rfl⟩
  try go_simp
  refine d.o _ _ (a) ?_;clear d K a;intro a
  try simp only[xr]
  refine bj [10,11,12] ?_
  iterate 3 (refine dZ (v:=?_) (fun _ ⟨R,U⟩=>?_) a ?_;rotate_left;(go_simp;try rfl);try simp only[xr])
  refine bq ?_;refine pw (by kernel_rfl) ?_ _;have I:=al a.1;clear a L
  rename World=>W
  have d:=al (t.o W I.o);by_cases Z:most<=((aW wl l).length:Int)
  ·have s:=al (show aA k (aW wl l)=none/\most<=((aW wl l).length:Int)from⟨HQ.o,Z⟩);clear t O e G D;go_wp2_with fail;go_ret
   unfold sA;rw[ff s.o];exact⟨rfl,d.o.t.1⟩
  ·have s:=al (show ¬(aA k (aW wl l)=none/\most<=((aW wl l).length:Int))from fun h=>Z h.2);have Y:=al (Ig (k:=k) (by have:=f.o.q.t.1;simp[maxLen];omega));have d1:=d.o.1;clear t O e G D;go_wp2_with (at_mapUpdate;go_loud (refine jM _ rfl _ _ _ 138 rfl zT underlying138 rfl d.o.2.1 d.o.d.1 rfl rfl Y.o ?_);intro V u x;have S:=al (d.o.q V u x);clear u x);go_ret
   unfold sA;rw[fb s.o];exact⟨rfl,S.o⟩
 |some Z=> 
  simp only[mT,if_true];refine pt (S:=(fun W=>Below c.heap.size c W/\W.cell? ⟨B,0,none⟩=some (rv T))) (by kernel_rfl) ⟨(bd _ _).drew,L⟩ (fun a=>?_);refine bj [0,1,2] ?_
  iterate 3 (refine dZ (v:=?_) (fun _ ⟨R,U⟩=>?_) a ?_;rotate_left;(go_simp;try rfl);try simp only[xr])
  refine bq ?_;refine EZ (i:=3) rfl (by kernel_rfl) (by kernel_rfl) (by kernel_rfl) (fun _ _ _ h=>h) (by rfl) a ?_
  try simp only[xr]
  refine EZ (i:=4) rfl (by kernel_rfl) (by kernel_rfl) (by kernel_rfl) (fun _ _ _ h=>h) (by rfl) a ?_
  try simp only[xr]
  refine EZ (i:=5) rfl (by kernel_rfl) (by kernel_rfl) (by kernel_rfl) (fun _ _ _ h=>h) (by rfl) a ?_
  try simp only[xr]
  refine EZ (i:=6) rfl (by kernel_rfl) (by kernel_rfl) (by kernel_rfl) (fun _ _ _ h=>h) (by rfl) a ?_
  try simp only[xr]
  refine EZ (i:=7) rfl (by kernel_rfl) (by kernel_rfl) (by kernel_rfl) (fun _ _ _ h=>h) (by rfl) a ?_
  try simp only[xr]
  refine EZ (i:=8) rfl (by kernel_rfl) (by kernel_rfl) (by kernel_rfl) (fun _ _ _ h=>h) (by rfl) a ?_
  try simp only[xr]
  refine EZ (i:=9) rfl (by kernel_rfl) (by kernel_rfl) (by kernel_rfl) (fun _ _ _ h=>h) (by rfl) a ?_
  try simp only[xr]
  refine EZ (i:=10) rfl (by kernel_rfl) (by kernel_rfl) (by kernel_rfl) (fun _ _ _ h=>h) (by rfl) a ?_
  try simp only[xr]
  refine bj [11,12] ?_
  iterate 2 (refine dZ (v:=?_) (fun _ ⟨R,U⟩=>?_) a ?_;rotate_left;(go_simp;try rfl);try simp only[xr])
  refine bq ?_;refine pw (by kernel_rfl) ?_ _;have I:=al a.1;clear a L;generalize c.drew=W at I⊢;have d:=al (t.o W I.o);have s:=al (show ¬(aA k (aW wl l)=none/\most<=((aW wl l).length:Int))from fun h=>by rw[HQ.o]at h;cases h.1);have Y:=al (Ig (k:=k) (by have:=f.o.q.t.1;simp[maxLen];omega));have d1:=d.o.1;clear t O e G D;go_wp2_with (at_mapUpdate;go_loud (refine jM _ rfl _ _ _ 138 rfl zT underlying138 rfl d.o.2.1 d.o.d.1 rfl rfl Y.o ?_);intro V u x;have S:=al (d.o.q V u x);clear u x);go_ret
  unfold sA;rw[fb s.o];exact⟨rfl,S.o⟩
def wu(w:World)(B T o:Nat)(most:Int)(l:az)(wl:ot)(FT:Nat->Nat->Prop)(m:Nat)(FR:Nat->Prop)(k:List UInt8)(e:Ending)(w':World):Prop:=
 if aA k (aW wl l)=none then e=.returned (rm 14)/\Below w.heap.size w w'
 else e=.returned (rm 0)/\K2 w w' B T o most l (cO (k,none) wl) FT m FR
theorem M6(w:World)(B T o m n:Nat)(most:Int)(l:az)(wl:ot)(FT:Nat->Nat->Prop)(g:Value->Option Value)(FR:Nat->Prop)(k:List UInt8)(c:1<=k.length/\k.length<=16)(a:ni w B T most o l wl FT m n g FR)
  (d:wl.length<=2305843009213693952):Calls prog 165 #[rv B,r7 k] w (wu w B T o most l wl FT m FR k):=by
 have h:=a.at_;have x:=al a;obtain⟨FB,e⟩: ∃FB:Nat->Prop,FB=fun _=>True:=⟨_,rfl⟩;rw[<-e]at h;clear a e;have e:=kF (k:=k) (h.up) h.tab.up;have a:=al (p6 w B T o most l wl FT FB k c h);rw[e]at a;unfold mz at a;have f:=AF h d c;clear d c h e;obtain⟨A,c⟩:=rk (aA k (aW wl l));rw[c]at a;obtain⟨⟨t,v,p,r⟩,d⟩: ∃z,A.getD .zero=z:=⟨_,rfl⟩;rw[d]at a;clear d;have u:=al c;clear c;go_enter func165,ntmps165;go_wp2_with fail;refine a.o.m ?_;rintro e q ⟨rfl,d⟩;unfold Rw.val;have i:=ae q (r8 t v p r);have c:=al (d.x (i.m d.size));clear d i a;have a:=x.o.only (qS c.o) (fun h=>h) (fun h=>h) (fun _ _ h=>h) (fun _ _ _ h=>h);have d:=a.blk;have j:=AD a trivial
 cases A with
 |none=>
  simp only[nx,nf,if_false];clear a d j f;go_wp2_with fail;go_ret
  unfold wu;rw[ff u.o];exact⟨rfl,c.o⟩
 |some i=>
  simp only[mT,if_true];have i:=AD a.map (Ig (k:=k) (by have:=f.o.d;simp[maxLen];omega));have y:n<maxLen:=by have:=a.cnt;have:=f.o.2.1;unfold maxLen;omega
  clear a;go_upto_region 4 with fail;generalize q.alloc (r8 t v p r)=a at c j i d⊢;have C:a.cell? ⟨B,1,none⟩=some (.map (some m)):=by simp[World.cell?,d]
  clear d;go_wp2_with (at_mapUpdate;go_loud (refine jM _ rfl _ _ _ 138 rfl zT underlying138 rfl i.o.1 y rfl rfl i.o.2 ?_);intro D d s;have a:=AD d s;clear d s);go_ret
  unfold wu;rw[fb (by rw[u.o];exact fun h=>by cases h)];exact⟨rfl,_,_,_,j.o.1.put f.o.d (x:=none) (fun z e=>by cases e) a.o.1 a.o.2 rfl (fun b e=>by injection e with e;cases e),fun b d=>d.elim .inl (fun e=>by injection e with e;cases e),(oB c.o _).x a.o.2 (fun a _ e=>e)⟩
end
theorem FQ{P:Program}{w:World}{ops:Array Oper}{o:Oper}{a:Act}{K:Act->World->Prop}{Q:Exit->Act->World->Prop}{O:Prop}(m:o.guard=none)(s x:Operand)(t:TypeId)
  (I:o.op=.call {callee:=.builtin .append,args:= #[s,x],argTypes:= #[t,t]})
  (base:Nat) (e:TypeId) (i:TypeInfo) (M:Value) (k c:Nat) (L:P.underlying t=some (.slice e)) (hi:P.info? e=some i) (z:i.zero=some M)
  (g:i.size=k) (q:i.bytes=c) (r:M.cells.size=k) (G:0<k)
  (v:Value) (n:Nat) (xs:List Value) (y:a.eval s=v) (l:w.ownsRow base e k v n xs) (F:Nat->Prop) (d:Value) (news:List (List Value)) (B:a.eval x=d) (C:bI k w F d news) (E: ∀b∈news,b.length=k) (J: ∀u∈news.flatten,u.oneCell'=true)
  (f:(n+news.length)*c<=140737488355328) (p:n+news.length<=maxLen) (h:base<=w.heap.size)
  (N: ∀b w',w'.ownsRow base e k b (n+news.length) (xs++news.flatten)->w.grownBy w' v.ownBlock->(b.ownBlock=v.ownBlock\/b.ownBlock=some w.heap.size)->K (a.put o.dst b) w'):
  if Region.wanted o (yielded ops a.tmps)=true then Oper.wp P o a w K Q else O:=by
 have u:Region.wanted o (yielded ops a.tmps)=true:=by simp[Region.wanted,m]
 rw[ff u];obtain⟨b,w',j,D,A,H⟩:=ln (P:=P) w base t o.type e i M k c L hi z g q r G v n xs l F d news C E J f p h;unfold Oper.wp execOp;simp only[I,resolve,invoke,builtin,Sem.run_bind,Sem.run_pure,Result.andThen_ok,List.map_toArray,kt,kb,y,B,j];exact N b w' D A H
def N5(l:List Cl):List Value:=(l.map Cl.cells).flatten
theorem Uy(l m:List Cl):N5 (l++m)=N5 l++N5 m:=by simp[N5]
theorem K3{w:World}{X base:Nat}{x:Cl}(h:w.heap[X]?=some (sd x.wr x.aO x.key.toArray x.lo x.hi))(a:base<=X):w.ownsRow base 68 5 (.slice (some ⟨X,0,none⟩) 1 1) 1 (N5 [x]):=by refine⟨by simp[N5,Cl.cells],.inr ⟨X,1,_,rfl,a,h,b8 _,by simp[maxLen],rfl,?_⟩⟩;simp[N5,Cl.cells]
theorem Jf{w:World}{X:Nat}{x:Cl}(h:w.heap[X]?=some (sd x.wr x.aO x.key.toArray x.lo x.hi)):bI 5 w (fun _=>True) (.slice (some ⟨X,0,none⟩) 1 1) ([x].map Cl.cells):=
 bI.bO (K3 h (dq _)) (dK _) (by decide) (fun _ _=>trivial)
def Yo(l:List Cl)(w:World)(e:Ending)(w':World):Prop:= ∃v,e=.returned (.tuple #[v,rm 0])/\w'.ownsRow w.heap.size 68 5 v l.length (N5 l)/\Below w.heap.size w w'
def SG(w:World)(X R:Nat)(old now:Rw)(v:Value)(l:List Cl)(a:World):Prop:=
 a.ownsRow w.heap.size 68 5 v l.length (N5 l)/\(∀g,v.ownBlock=some g->g≠X/\g≠R)/\Below w.heap.size w a/\a.heap[X]?=some (r8 old.a old.b old.c old.d)/\
  a.heap[R]?=some (r8 now.a now.b now.c now.d)
theorem SG.still{w b w1:World}{X R:Nat}{old now:Rw}{v:Value}{l:List Cl}(h:SG w X R old now v l b)(a:Below b.heap.size b w1):SG w X R old now v l w1:=by obtain⟨f,g,c,d,e⟩:=h;exact⟨bE f a,g,c.x (a.m c.size),qt a d,qt a e⟩
theorem SG.more{w d w1 w2:World}{X R Y:Nat}{old now:Rw}{v v':Value}{l:List Cl}{x:Cl}(u:SG w X R old now v l d)(a:Below d.heap.size d w1)(m:w2.ownsRow w.heap.size 68 5 v' (l.length+1) (N5 l++([x].map Cl.cells).flatten))
  (o:w1.grownBy w2 v.ownBlock) (n:v'.ownBlock=v.ownBlock\/v'.ownBlock=some Y) (s:w1.heap.size<=Y):SG w X R old now v' (l++[x]) w2:=by
 obtain⟨r,c,b,p,q⟩:=u;have h:=qt a p;have i:=qt a q;have f:=Only.of_grownBy o;refine⟨by rw[Uy,gr];exact m,fun g j=>?_,(b.x (a.m b.size)).x (f.aH (dd b.size a.size) (fun k t e=>?_)),f.heap h (fun e=>(c X e).1 rfl),f.heap i (fun e=>(c R e).2 rfl)⟩
 ·rcases n with e|e
  ·exact c g (by rw[<-e];exact j)
  ·rw[j]at e;injection e with e;have:=aM h;have:=aM i;exact⟨by omega,by omega⟩
 ·have:=(r.lt k e).1;omega
def mE(b:Bool)(r:Rw):Option Rw:=if b then some r else none
theorem QA{b:Bool}{r:Rw}(h:b=false->r=Rw.zero):(mE b r).getD Rw.zero=r:=by
 cases b
 ·exact(h rfl).symm
 ·rfl
theorem Dl(b:Bool)(r:Rw):(mE b r).isSome=b:=by cases b<;>rfl
theorem kG(w:World)(B T o:Nat)(most:Int)(l:az)(wl:ot)(FT:Nat->Nat->Prop)(FB:Nat->Prop)(k:List UInt8)(hk:1<=k.length/\k.length<=16)(h:iI w B T most o l wl FT FB)(b i:Bool)(old now:Rw)(ho:b=false->old=Rw.zero)(hq:kv k wl l=mE b old)(op:Int)(bc:op=if i=true then 9 else 10):
  Calls prog 162 #[rm op,rv B,r7 k,now.val] w (Yo (iz k (mE b old) (mE i now)) w):=by
 obtain⟨i0,hi,a3,a2,a1⟩:=eh Tryz.tI;have HI:=al hi;have U:=al (fun w' (h':iI w' B T most o l wl FT FB)=>p6 w' B T o most l wl FT FB k hk h');rw[hq]at U;unfold mz at U;rw[QA ho,Dl]at U;have M:=AF (xH k (mE b old) (mE i now)) (qU k (mE b old) (mE i now)) (show(∀F,lu k (mE b old) (mE i now) (F+1)=lu k (mE b old) (mE i now) F++vg F (mE b old) (mE i now))/\lu k (mE b old) (mE i now) 0=[⟨true,-1,k,0,0⟩]++(if b=i then[]else[⟨true,-1,[35],0,0⟩])from⟨fun _=>rfl,by rw[lu,Dl,Dl]⟩);obtain⟨f,hf⟩:=rk (lu k (mE b old) (mE i now));rw[hf]at M;rw[<-M.o.1];obtain⟨t,q,r,p⟩:=old;obtain⟨u,m,A,z⟩:=now;unfold Rw.val;unfold Rw.val at U;obtain⟨ad,k0⟩:=rj w (r8 u m A z);have h1:=h.below ad;clear h hk hq hi hf ho;cases i<;>subst bc
 all_goals
  simp only[nf,if_false,if_true];go_enter func162,ntmps162;go_upto_region 1 with fail;generalize w.alloc (r8 u m A z)=w1 at ad k0 h1⊢;obtain⟨R,hR⟩:=rk (w.heap.size);rw[hR]at k0⊢;have HC:=al (U.o w1 h1);have H1:=AF ad k0 hR;clear ad k0 h1 hR U;go_wp2_with fail;refine HC.o.m ?_;rintro e w2 ⟨rfl,a0⟩;obtain⟨bQ,kx⟩:=rj w2 (r8 t q r p);have a':=(a0.x (bQ.m a0.size));have kr:=qt a' H1.o.2.1;have I:=AF (H1.o.1.x (a'.m H1.o.1.size)) kx kr;clear a0 bQ kx a' kr HC;cases b
 all_goals
  simp only[nf,if_false,if_true];go_upto_region 6 with fail;have V:=I.o;clear I;generalize w2.alloc (r8 t q r p)=j at V⊢;obtain⟨X,hX⟩:=rk (w2.heap.size);rw[hX]at V⊢;have I:=al (show Below w.heap.size w j/\j.heap[X]?=some (r8 t q r p)/\j.heap[R]?=some (r8 u m A z)from V);clear V hX;obtain⟨aa,ky⟩:=rj j (sd true (-1) k.toArray 0 0);have ac:w.heap.size<=j.heap.size:=I.o.1.size
  have J:=al (show SG w X R ⟨t,q,r,p⟩ ⟨u,m,A,z⟩ (.slice (some ⟨j.heap.size,0,none⟩) 1 1) [⟨true,-1,k,0,0⟩] (j.alloc (sd true (-1) k.toArray 0 0))from by
   have g4:=qt aa I.o.2.1;have g5:=qt aa I.o.d;have l4:=aM I.o.2.1;have l5:=aM I.o.d
   exact⟨K3 (x:=⟨true,-1,k,0,0⟩) ky ac,fun g hg=>by have a8:some j.heap.size=some g:=hg;injection a8 with a8;exact⟨by omega,by omega⟩,I.o.1.x (aa.m ac),g4,g5⟩)
  clear aa ky I
 have a5:=trivial;rotate_left;have ba:=trivial;rotate_left;have ba:=trivial;rotate_left;have a5:=trivial;rotate_left
 all_goals try
  clear ba;obtain⟨a4,kz⟩:=rj (j.alloc (sd true (-1) k.toArray 0 0)) (sd true (-1) (#[35]) 0 0);rw[show(j.alloc (sd true (-1) k.toArray 0 0)).heap.size=j.heap.size+1 by simp]at kz;have Y:=AF a4 (Jf (x:=⟨true,-1,[35],0,0⟩) kz) (bE J.o.1 a4);clear a4 kz;go_upto_region 10 with(at_builtin;go_loud (refine eA _ rfl _ _ 27 rfl w.heap.size 68 i0 _ 5 48 underlying27 HI.o a3 a2 a1 rfl (by decide) _ 1 (N5 [⟨true,-1,k,0,0⟩]) rfl Y.o.d (fun _=>True) (.slice (some ⟨j.heap.size+1,0,none⟩) 1 1) ([⟨true,-1,[35],0,0⟩].map Cl.cells) rfl Y.o.2.1 (dK _) (qT _) (by decide) (by decide) (dd J.o.d.1.size Y.o.1.size) ?_);intro v4 w4 dS QB a7);have HS:=al (show SG w X R ⟨t,q,r,p⟩ ⟨u,m,A,z⟩ v4 (f 0) w4 from by rw[M.o.t];exact J.o.more Y.o.1 dS QB a7 (b8 _));clear dS QB a7 Y J ac
 all_goals try
  clear a5;go_upto_region 10 with fail;obtain⟨w4,a6⟩:=rk (j.alloc (sd true (-1) k.toArray 0 0));rw[a6]at J⊢;obtain⟨A4,bb⟩:=rk (some (⟨j.heap.size,0,none⟩:Addr));rw[bb]at J⊢;have HS:=al (show SG w X R ⟨t,q,r,p⟩ ⟨u,m,A,z⟩ (.slice A4 1 1) (f 0) w4 from by rw[M.o.t];exact J.o);clear J a6 bb ac
 all_goals
  go_wp2_with fail
  go_loopw [14,44] (fun v i wr=> ∃F:Nat,F<=4/\i=rm (F:Int)/\SG w X R ⟨t,q,r,p⟩ ⟨u,m,A,z⟩ v (f F) wr) (fun _ i _=>4-(intOf i).toNat)
  case atStart=>exact⟨0,by decide,rfl,HS.o⟩
  obtain⟨F,hc,rfl,sW⟩:=hrel;have ap:=M.o.2.1 F;have P:=AD sW ap;by_cases S:F<4
  case neg=>
   obtain rfl:F=4:=by omega
   clear sW ap;go_wp2_with fail
   go_ret2
   have h:=P.o.1;exact⟨_,rfl,h.1,h.2.2.1⟩
  have i1:(0:Int)<=(F:Int):=by omega
  have i2:(F:Int)<4:=by omega
  have z0:=eG (r:=⟨t,q,r,p⟩) sW.2.2.2.1 S;have y0:=eG (r:=⟨u,m,A,z⟩) sW.2.2.2.2 S;obtain⟨x,hx⟩:=rk (Rw.aO ⟨t,q,r,p⟩ F);obtain⟨y,hy⟩:=rk (Rw.aO ⟨u,m,A,z⟩ F);rw[hx]at z0;rw[hy]at y0;have H:=AD hx hy;clear sW ap hx hy
 -- neither was nor is; was; is; both
 have h0:=trivial;rotate_left;have GX:=trivial;rotate_left;have a9:=trivial;rotate_left;by_cases am:x=y
 ·subst am;go_wp2_with fail;go_quiet(fail);rename_i nq;go_wp2_with fail;go_roundw
  case rel=>refine⟨F+1,by omega,by go_num,?_⟩;rw[M.o.d.1 F];unfold vg mE;simp only[if_true,H.o.1,H.o.2,fs];exact P.o.1.still (Only.aH ((oE (fun _=>False) wr).drewN nq) (b8 _) (fun _ _ h=>h))
  case measure=>simp[intOf];omega
 have XT:(x==y)=false:=by simpa using am
 have V:=al am;clear am;have GX:=trivial;have a9:=trivial
 all_goals
  go_wp2_with fail;go_quiet(fail);rename_i nq
  try clear XT
  clear z0 y0;have c:=al (P.o.1.still (show Below wr.heap.size wr (wr.drewN nq)from Only.aH ((oE (fun _=>False) wr).drewN nq) (b8 _) (fun _ _ h=>h)));generalize wr.drewN nq=G at c⊢
 all_goals try
  clear GX;go_upto_region 15 with fail;have D:=al (c.o.still (show Below G.heap.size G G.drew from(bd _ _).drew));refine pt (S:=(fun W=>W.heap[X]?=some (r8 t q r p)/\W.heap[R]?=some (r8 u m A z))) (by kernel_rfl) ⟨c.o.t.1,c.o.q⟩ (fun a=>?_);clear c;generalize G.drew=L at D a⊢;refine bj [0,1,2,3] ?_
  iterate 4 (refine dZ (v:=?_) (fun _ ⟨n,s⟩=>?_) a ?_;rotate_left;(go_simp;try rfl);try simp only[xr])
  refine bq ?_;refine lA 4 (v:=?_) (fun N d=>?_) a ?_;rotate_left
  ·obtain⟨n,s⟩:=d;have Q:=eG (r:=⟨t,q,r,p⟩) n S;rw[H.o.1]at Q;go_simp;try rfl
  try simp only[xr]
  refine bj [5,6] ?_
  iterate 2 (refine dZ (v:=?_) (fun _ ⟨n,s⟩=>?_) a ?_;rotate_left;(go_simp;try rfl);try simp only[xr])
  refine bq ?_;refine lA 7 (v:=?_) (fun N d=>?_) a ?_;rotate_left
  ·obtain⟨n,s⟩:=d;have Q:=eG (r:=⟨t,q,r,p⟩) n S;rw[H.o.1]at Q;go_simp;try rfl
  try simp only[xr]
  refine lA 8 (v:=?_) (fun N d=>?_) a ?_;rotate_left
  ·obtain⟨n,s⟩:=d;go_simp;try rfl
  try simp only[xr]
  refine bA 9 (fun K C=>?_);go_simp;refine C.o _ _ (⟨qt (ae _ _) a.1,qt (ae _ _) a.2⟩) ?_;clear C K a;intro a
  try simp only[xr]
  have O:=ae L (sd true (F:Int) (#[]) x x);have E:=AF O (Jf (x:=⟨true,(F:Int),[],x,x⟩) (an L (sd true (F:Int) (#[]) x x))) (bE D.o.1 O);clear O;refine bA 10 (fun K C=>?_);refine FQ rfl _ _ 27 rfl w.heap.size 68 i0 _ 5 48 underlying27 HI.o a3 a2 a1 rfl (by decide) _ _ _ rfl E.o.d (fun _=>True) (.slice (some ⟨L.heap.size,0,none⟩) 1 1) ([⟨true,(F:Int),[],x,x⟩].map Cl.cells) rfl E.o.2.1 (dK _) (qT _) (by have:=P.o.2;simp;omega) (by have:=P.o.2;simp[maxLen];omega) (dd D.o.d.1.size E.o.1.size) ?_;intro v6 G Z yG yn;have c:=al (D.o.more (x:=⟨true,(F:Int),[],x,x⟩) E.o.1 Z yG yn (b8 _));clear Z yG yn E D;refine C.o _ _ (⟨c.o.t.1,c.o.q⟩) ?_;clear C K a;intro a
  try simp only[xr]
  refine lA 11 (v:=?_) (fun N d=>?_) a ?_;rotate_left
  ·obtain⟨n,s⟩:=d;go_simp;try rfl
  try simp only[xr]
  refine pw (by kernel_rfl) ?_ _;clear a
 all_goals try
  clear a9;go_upto_region 17 with fail;have D:=al (c.o.still (show Below G.heap.size G G.drew from(bd _ _).drew));refine pt (S:=(fun W=>W.heap[X]?=some (r8 t q r p)/\W.heap[R]?=some (r8 u m A z))) (by kernel_rfl) ⟨c.o.t.1,c.o.q⟩ (fun a=>?_);clear c;generalize G.drew=L at D a⊢;refine bj [0,1,2,3] ?_
  iterate 4 (refine dZ (v:=?_) (fun _ ⟨n,s⟩=>?_) a ?_;rotate_left;(go_simp;try rfl);try simp only[xr])
  refine bq ?_;refine lA 4 (v:=?_) (fun N d=>?_) a ?_;rotate_left
  ·obtain⟨n,s⟩:=d;have Q:=eG (r:=⟨u,m,A,z⟩) s S;rw[H.o.2]at Q;go_simp;try rfl
  try simp only[xr]
  refine bj [5,6] ?_
  iterate 2 (refine dZ (v:=?_) (fun _ ⟨n,s⟩=>?_) a ?_;rotate_left;(go_simp;try rfl);try simp only[xr])
  refine bq ?_;refine lA 7 (v:=?_) (fun N d=>?_) a ?_;rotate_left
  ·obtain⟨n,s⟩:=d;have Q:=eG (r:=⟨u,m,A,z⟩) s S;rw[H.o.2]at Q;go_simp;try rfl
  try simp only[xr]
  refine lA 8 (v:=?_) (fun N d=>?_) a ?_;rotate_left
  ·obtain⟨n,s⟩:=d;go_simp;try rfl
  try simp only[xr]
  refine bA 9 (fun K C=>?_);go_simp;refine C.o _ _ (⟨qt (ae _ _) a.1,qt (ae _ _) a.2⟩) ?_;clear C K a;intro a
  try simp only[xr]
  have O:=ae L (sd true (F:Int) (#[]) y y);have E:=AF O (Jf (x:=⟨true,(F:Int),[],y,y⟩) (an L (sd true (F:Int) (#[]) y y))) (bE D.o.1 O);clear O;refine bA 10 (fun K C=>?_);refine FQ rfl _ _ 27 rfl w.heap.size 68 i0 _ 5 48 underlying27 HI.o a3 a2 a1 rfl (by decide) _ _ _ rfl E.o.d (fun _=>True) (.slice (some ⟨L.heap.size,0,none⟩) 1 1) ([⟨true,(F:Int),[],y,y⟩].map Cl.cells) rfl E.o.2.1 (dK _) (qT _) (by have:=P.o.2;simp;omega) (by have:=P.o.2;simp[maxLen];omega) (dd D.o.d.1.size E.o.1.size) ?_;intro v6 G Z yG yn;have c:=al (D.o.more (x:=⟨true,(F:Int),[],y,y⟩) E.o.1 Z yG yn (b8 _));clear Z yG yn E D;refine C.o _ _ (⟨c.o.t.1,c.o.q⟩) ?_;clear C K a;intro a
  try simp only[xr]
  refine lA 11 (v:=?_) (fun N d=>?_) a ?_;rotate_left
  ·obtain⟨n,s⟩:=d;go_simp;try rfl
  try simp only[xr]
  refine pw (by kernel_rfl) ?_ _;clear a
 all_goals
  go_wp2_with fail;go_roundw
  case rel=>
   refine⟨F+1,by omega,by go_num,?_⟩;rw[M.o.d.1 F];unfold vg mE;have h:=c.o
   first
   |simpa[H.o.1,H.o.2,V.o]using h
   |simpa[H.o.1,H.o.2]using h
  case measure=>simp[intOf];omega
end Go.Proofs.YtehccbdajiiaaaaGreatDoor
