import Derived.Test.YtehccbdajiiaaaaGreatDoorS06
import Derived.Test.YtehccbdajiiaaaaGreatDoorS13
namespace Go.Proofs.YtehccbdajiiaaaaGreatDoor
open Go.Proofs.Tryz
set_option maxRecDepth 100000
set_option maxHeartbeats 16000000
open Go.RowKit
theorem eW{w:World}{T:Nat}{a b c:Value}(h:w.heap[T]?=some (.cells #[a,b,c] 175 (0,0))):(w.cell? ⟨T,0,none⟩=some a/\w.cell? ⟨T,1,none⟩=some b/\w.cell? ⟨T,2,none⟩=some c)/\w.frozen? ⟨T,1,none⟩=false/\w.frozen? ⟨T,2,none⟩=false:=by simp[World.cell?,World.frozen?,h]
theorem KD{w:World}{T:Nat}{a b c:Value}(h:w.heap[T]?=some (.cells #[a,b,c] 175 (0,0)))(x:Value):(w.setCell ⟨T,1,none⟩ x).heap[T]?=some (.cells #[a,x,c] 175 (0,0)):=by have:=dp w T 1 _ _ x h;simpa using this
theorem CS{w:World}{T:Nat}{a b c:Value}(h:w.heap[T]?=some (.cells #[a,b,c] 175 (0,0)))(x:Value):(w.setCell ⟨T,2,none⟩ x).heap[T]?=some (.cells #[a,b,x] 175 (0,0)):=by have:=dp w T 2 _ _ x h;simpa using this
theorem vR{w b:World}{T o d r:Nat}{l:List Pr}{y:ND}{F a:Nat->Nat->Prop}{p:Pr}{cnt:Int}(f:Up l)(s:2<=o)(j:o<=16)(t: ∀q,F T q)(_u:T<w.heap.size)
  (i:b.heap[T]?=some (sv o cnt r)) (m:cnt=(ins p l).length) (n:aB b d r y a) (h: ∀c q,a c q->F c q\/w.heap.size<=c) (k: ∀q,¬a T q)
  (e:fD d o (if d=0 then 0 else 1) (2*o-1) y) (g:aZ d y=ins p l):bM b T o (ins p l) (fun c q=>F c q\/w.heap.size<=c):=by
 subst m;exact⟨d,r,y,a,i,n,e,g,by rw[oQ];exact fk f,⟨s,j⟩,h,fun q=>.inl (t q),k⟩
theorem vS{p:Pr}{l:List Pr}(a:Up l):(ins p l).length=if(look p.1 l).isSome then l.length else l.length+1:=by rw[oQ,look_eq];exact lg a
def Pw(T o:Nat)(l:List Pr)(p:Pr)(F:Nat->Nat->Prop)(w:World)(e:Ending)(w':World):Prop:=
 e=.returned (.tuple #[.string ⟨((look p.1 l).getD []).toArray⟩,.bool (look p.1 l).isSome,rm 0])/\bM w' T o (ins p l) (fun b q=>F b q\/w.heap.size<=b)/\OnlyC F w w'
theorem qX(w:World)(T o:Nat)(l:List Pr)(F:Nat->Nat->Prop)(p:Pr)(H:bM w T o l F)(r: ∀m q,F m q->m<w.heap.size)(d:1<=p.1.length)(c:p.1.length<=64)(y:p.2.length<=256)(j:l.length<=1000000):
  Calls prog 123 #[rv T,r7 p.1,r7 p.2] w (Pw T o l p F w):=by
 obtain⟨G,Q,x,Y,a,k,f,h,g,⟨n,v⟩,e,i,t⟩:=H;obtain⟨⟨L,-,O⟩,-,-⟩:=eW a;have s:=ab L O;have m1: ¬(256:Int)<(p.2.length:Int):=by omega
 have u:=al (nD w T ⟨p.1.toArray⟩ (by exact d) (by exact c));have b:=B7 a k f h g n v e i t r j;clear a k f h g n v e i t r j d c y L O;go_enter func123,ntmps123;go_wp2_with fail;refine u.o.m ?_;rintro I w1 ⟨rfl,aa⟩;obtain rfl:w=w1:=aa.symm;clear u;go_upto_region 6 with fail;refine pt (S:=(fun W=>W.cell? ⟨T,0,none⟩=some (rm o)/\W.cell? ⟨T,2,none⟩=some (rv Q))) (by kernel_rfl) s (fun h=>?_);generalize c:World.drew w=a at h⊢;have i:=al (show aB a G Q x Y/\a.heap[T]?=some (sv o l.length Q)/\Below w.heap.size w a from c▸⟨b.o.2.1.below (bd _ _).drew,b.o.1,(bd _ _).drew⟩);clear c s;refine bj [0,1,2,3,4,5,6,7,8,9,10] ?_
 iterate 11 (refine dZ (v:=?_) (fun _ ⟨J,s1⟩=>?_) h ?_;rotate_left;(go_simp;try rfl);try simp only[xr])
 refine bq ?_;refine bA 11 (fun K v=>?_);go_simp;refine(Pv b.o.q.2.1 b.o.q.d.1 p G a Q _ x Y i.o.1 (fun m q a=>da (b.o.q.q.d.1 m q (b.o.q.t.1 m q a)) i.o.d.size) b.o.d.1 (by rw[b.o.t.1];exact b.o.q.1)).m ?_;rintro I j ⟨rfl,d,c⟩;have y:=AD d c;clear d c;rw[b.o.t.1]
 try go_simp
 refine v.o _ _ (dF h y.o.2 (b.o.q.q.2.1 0) (b.o.q.q.2.1 2)) ?_;clear v K h;intro h
 try simp only[xr]
 refine bj [12,13,14,15,16] ?_
 iterate 5 (refine dZ (v:=?_) (fun _ ⟨J,s1⟩=>?_) h ?_;rotate_left;(go_simp;try rfl);try simp only[xr])
 refine bq ?_;refine pw (by kernel_rfl) ?_ _;have HR:=al (show World.cell? j ⟨T,0,none⟩=_/\_ from h);clear h;obtain⟨b0,d⟩:=rk ((look p.1 l).isSome);obtain⟨J,c⟩:=rk ((⟨((look p.1 l).getD []).toArray⟩:ByteArray));rw[c,d];have n:=AD c d;clear c d;have e:=y.o.2.heap i.o.2.1 b.o.q.q.2.1;have f:OnlyC F w j:=(oS i.o.d F).x y.o.2 (fun m q _ a=>b.o.q.t.1 m q a);have g:=y.o.1.bound;cases b0
 focus
  obtain⟨⟨-,d,-⟩,c,-⟩:=eW e;have z:(l.length:Int)<=1000000:=by have:=b.o.q.q.t;omega
  go_upto_region 9 with fail;have t:=KD e (rm ((l.length:Int)+1));have r:=(y.o.1.only (OnlyC.aR j T 1 (rm ((l.length:Int)+1))) (fun m q a I=>by have u:=I.1;rw[u]at a;rcases a with k|k;(· exact b.o.q.q.2.1 q k);(· have V:=i.o.d.size;have X:=oT b.o.1;omega))).bound;have u:=f.x (OnlyC.aR j T 1 (rm ((l.length:Int)+1))) (fun m q _ I=>by obtain⟨rfl,rfl⟩:=I;exact b.o.q.q.1 _);clear d c e g f;generalize j.setCell ⟨T,1,none⟩ (rm ((l.length:Int)+1))=d at t r u⊢;have c:=AF t r u;clear t r u
 rotate_left
 focus
  have c:=AF e g f;clear e g f;go_upto_region 9 with fail;obtain⟨d,e⟩:=rl (j);rw[<-e]at c⊢;have f:=al e;clear e
 all_goals
  obtain⟨am,ac,E7,H3,r,-,t,-⟩:=c.o.2.1.base;obtain⟨A3,c3,e,-⟩:=t.slice;rw[fa]at e;subst e;obtain⟨M,e⟩:=rk ((ik G x p o).ps.length);rw[e]at r;obtain⟨⟨z3,-⟩,-,-⟩:=af r;obtain⟨⟨L,-,O⟩,-,tf⟩:=eW c.o.1;have f:=rI b.o.q.2.1 p b.o.d.1 (by rw[b.o.t.1];exact b.o.q.1);have N:=f.2.len.2;rw[e]at N;have g:=AD f e;clear f r t e;have io:(2:Int)<=(o:Int):=by have:=b.o.q.2.1;omega
  have ad:(o:Int)<=16:=by have:=b.o.q.d.1;omega
  have e:T<w.heap.size:=oT b.o.1;have f:=al e;clear e;by_cases D:2*o-1<M
  ·have i3:2*(o:Int)-1<(M:Int):=by omega
   have r:=al D;clear D N;go_quiet(fail)
   have e: ∀t u,World.cell? (((d.drewN nq).alloc t).alloc u) ⟨T,2,none⟩=some (rv Q)/\World.frozen? (((d.drewN nq).alloc t).alloc u) ⟨T,2,none⟩=false:=fun t u=>by have R:Below d.heap.size d (((d.drewN nq).alloc t).alloc u):=((aH (bd d.heap.size d) nq).alloc (b8 _) t).alloc (by simp) u;have U:=qt R c.o.1;exact⟨(eW U).1.2.2,(eW U).2.2⟩
   have XI:=e (so Q) (uv (.slice (some ⟨d.heap.size,0,none⟩) 1 1));obtain⟨t,u⟩:=XI;clear e;go_upto_region 11 with fail;clear t u;have e:Below d.heap.size d (d.drewN nq):=aH (bd _ _) nq;have C:(d.drewN nq).heap.size=d.heap.size:=rfl;generalize d.drewN nq=t at e C⊢;obtain⟨z,u⟩:=rj t (so Q);have A:(t.alloc (so Q)).heap.size=d.heap.size+1:=by simp[C]
   rw[C]at u;obtain⟨S,P⟩:=rk (d.heap.size);rw[P]at u A⊢;generalize t.alloc (so Q)=t at u z A⊢;obtain⟨B,E⟩:=rj t (uv (.slice (some ⟨S,0,none⟩) 1 1));rw[A]at E;generalize t.alloc (uv (.slice (some ⟨S,0,none⟩) 1 1))=t at E B⊢;have Z:Below d.heap.size d t:=(e.x (z.m e.size)).x (B.m (dd e.size z.size));have d:=AI P Z (qt B u) E;clear e C u z A E B P Z;have B:=CS (qt d.o.2.1 c.o.1) (.pointer (some ⟨S+1,0,none⟩));obtain⟨⟨e,-,u⟩,-,-⟩:=eW B;have s:=ab e u;clear e u;have C:=((c.o.2.1.below d.o.2.1).Kb d.o.t d.o.d.1 (by omega) (fun q a=>by have:=a.2;have:=d.o.1;omega) (fun q a=>by have:=a.2;have:=d.o.1;omega)).only (OnlyC.aR t T 2 (.pointer (some ⟨S+1,0,none⟩))) (fun m q a I=>?_);rotate_left
   ·obtain⟨rfl,-⟩:=I;have z:=f.o;have E:=oT c.o.1;have u:=d.o.1;rcases a with a|a|a
    ·rcases a.1 with e|e
     ·exact b.o.q.q.2.1 _ e
     ·have:=i.o.d.size;omega
    ·omega
    ·omega
   have A:=AF C B (((c.o.d.x (oS d.o.2.1 F) (fun _ _ _ H=>H)).x (OnlyC.aR t T 2 (.pointer (some ⟨S+1,0,none⟩))) (fun m q _ I=>by obtain⟨rfl,rfl⟩:=I;exact b.o.q.q.1 _)));clear C B;have Z:(t.setCell ⟨T,2,none⟩ (.pointer (some ⟨S+1,0,none⟩))).heap.size=t.heap.size:=by simp[World.setCell]
   generalize (t.setCell ⟨T,2,none⟩ (.pointer (some ⟨S+1,0,none⟩)))=t at A s Z⊢;refine pt (S:=(fun W=>W.cell? ⟨T,0,none⟩=some (rm o)/\W.cell? ⟨T,2,none⟩=some (.pointer (some ⟨S+1,0,none⟩)))) (by kernel_rfl) s (fun h=>?_);generalize P:World.drew t=C at h⊢;have B:Below t.heap.size t C:=P▸(bd _ _).drew;have t:=AD (A.o.1.below B) B;clear P s B;refine bj [0,1,2,3,4,5,6,7] ?_
   iterate 8 (refine dZ (v:=?_) (fun _ ⟨J,s1⟩=>?_) h ?_;rotate_left;(go_simp;try rfl);try simp only[xr])
   refine bq ?_;refine bA 8 (fun K v=>?_);go_simp;refine(xV C G (S+1) 0 o (.mk [] [ik G x p o]) (ik G x p o) _ t.o.1.bound (fun m q a=>a.2) rfl (dq _) (by simp) (by simp) (by rw[g.o.2];have:=r.o;have:=g.o.1.2.len.2;rw[g.o.2]at this;omega) (fun s=>by obtain⟨s,rfl⟩: ∃s,G=s+1:=⟨G-1,by omega⟩;have z:=g.o.1.2.kids;have E:=g.o.2;have u:=r.o;have e:=g.o.1.2.len.2;omega) b.o.q.2.1 b.o.q.d.1).m ?_;rintro I j ⟨rfl,C,B⟩;have s:=AD C B;clear C B
   try go_simp
   refine v.o _ _ (dF h s.o.2 (fun a=>by rcases a.1 with a|a|a;(· rcases a.1 with e|e;(· exact b.o.q.q.2.1 _ e);(· have:=i.o.d.size;have:=f.o;omega));(· have:=f.o;have:=oT c.o.1;have:=d.o.1;omega);(· have:=f.o;have:=oT c.o.1;have:=d.o.1;omega)) (fun a=>by rcases a.1 with a|a|a;(· rcases a.1 with e|e;(· exact b.o.q.q.2.1 _ e);(· have:=i.o.d.size;have:=f.o;omega));(· have:=f.o;have:=oT c.o.1;have:=d.o.1;omega);(· have:=f.o;have:=oT c.o.1;have:=d.o.1;omega))) ?_;clear v K h;intro h
   try simp only[xr]
   refine pw (by kernel_rfl) ?_ _;have K:=al (show World.cell? j ⟨T,0,none⟩=_/\_ from h);clear h;go_wp2_with fail
   go_ret3
   have C:fD G o (2*o) (2*o) (ik G x p o):=g.o.1.2.re (by rw[g.o.2];have:=r.o;omega) (by rw[g.o.2];have:=r.o;have:=g.o.1.2.len.2;rw[g.o.2]at this;omega);have v:=Bb b.o.q.2.1 C;have B:=s.o.2.heap (qt t.o.2 A.o.2.1) (fun q=>(fun a=>by rcases a.1 with a|a|a;(· rcases a.1 with e|e;(· exact b.o.q.q.2.1 _ e);(· have:=i.o.d.size;have:=f.o;omega));(· have:=f.o;have:=oT c.o.1;have:=d.o.1;omega);(· have:=f.o;have:=oT c.o.1;have:=d.o.1;omega)));have h:=vR (F:=F) (w:=w) b.o.q.1 b.o.q.2.1 b.o.q.d.1 b.o.q.q.1 f.o B (by rw[vS b.o.q.1,n.o.2];rfl) s.o.1 ?_ ?_ (by rw[fb (by omega)];exact v.2) (by rw[v.1,g.o.1.1,b.o.t.1])
   ·refine⟨by rw[<-n.o.1,<-n.o.2];rfl,h,(A.o.d.x (oS t.o.2 F) (fun _ _ _ H=>H)).x s.o.2 (fun m q R a=>?_)⟩;have z:=i.o.d.size;have E:=oT c.o.1;have u:=d.o.1;have e:=c.o.d.size;rcases a.1 with a|a|a
    ·rcases a.1 with k|k
     ·exact b.o.q.t.1 m q k
     ·omega
    ·omega
    ·omega
   ·intro m q a;have z:=i.o.d.size;have u:=d.o.1;have e:=c.o.d.size;have V:=t.o.2.size;have X:=d.o.2.1.size;rcases a with a|a
    ·rcases a.1 with a|a|a
     ·rcases a.1 with k|k
      ·exact .inl (b.o.q.t.1 m q k)
      ·exact .inr (by omega)
     ·exact .inr (by omega)
     ·exact .inr (by omega)
    ·exact .inr (by omega)
   ·intro q a;rcases a with a|a
    ·exact(fun a=>by rcases a.1 with a|a|a;(· rcases a.1 with e|e;(· exact b.o.q.q.2.1 _ e);(· have:=i.o.d.size;have:=f.o;omega));(· have:=f.o;have:=oT c.o.1;have:=d.o.1;omega);(· have:=f.o;have:=oT c.o.1;have:=d.o.1;omega)) a
    ·have z:=f.o;have u:=d.o.1;have e:=c.o.d.size;have V:=t.o.2.size;have X:=d.o.2.1.size;omega
  ·have i3: ¬2*(o:Int)-1<(M:Int):=by omega
   have r:=al D;clear D N;go_quiet(fail);go_wp2_with fail
   go_ret3
   have h:=vR (F:=F) (w:=w) b.o.q.1 b.o.q.2.1 b.o.q.d.1 b.o.q.q.1 f.o c.o.1 (by rw[vS b.o.q.1,n.o.2];rfl) c.o.2.1 (fun m q a=>a.1.elim (fun H=>.inl (b.o.q.t.1 m q H)) (fun H=>.inr (dd i.o.d.size H))) (fun q a=>a.1.elim (b.o.q.q.2.1 q) (fun H=>by have:=f.o;have:=i.o.d.size;omega)) (g.o.1.2.re g.o.1.2.len.1 (by rw[g.o.2];have:=r.o;omega)) (by rw[g.o.1.1,b.o.t.1]);exact⟨by rw[<-n.o.1,<-n.o.2];rfl,h.below (aH (bd _ _) _),c.o.d.drewN _⟩
theorem KE(n:Nat)(h:n<=100000):(True->wrap64 (n:Int)=(n:Int))/\(True->IntKind.i64.wrap (n:Int)=(n:Int)):=by rw[me];unfold wrap64;exact⟨fun _=>by omega,fun _=>by omega⟩
theorem E8{a b:ND}{s z:Pr}{m:Nat}(d:a.ps.length=m+1)(c:a.ps[m]?=some z):eH 0 a s b=(.mk (a.ps.take m) [],z,.mk (s::b.ps) []):=by show(ND.mk (a.ps.take (a.ps.length-1)) [],a.ps[a.ps.length-1]?.getD ([],[]),ND.mk (s::b.ps) [])=_;rw[d,ox,c];rfl
theorem rY{d:Nat}{a b e:ND}{s z:Pr}{m:Nat}(j:d≠0)(h:a.ps.length=m+1)(g:a.ps[m]?=some z)(f:a.ks.length=m+2)(i:a.ks[m+1]?=some e):eH d a s b=(.mk (a.ps.take m) (a.ks.take (m+1)),z,.mk (s::b.ps) (e::b.ks)):=by obtain⟨c,rfl⟩: ∃c,d=c+1:=⟨d-1,by omega⟩;show(ND.mk (a.ps.take (a.ps.length-1)) (a.ks.take (a.ks.length-1)),a.ps[a.ps.length-1]?.getD ([],[]),ND.mk (s::b.ps) (a.ks[a.ks.length-1]?.getD D9::b.ks))=_;rw[h,ox,g,f,show m+2-1=m+1 by omega,i];rfl
theorem aG.fK{w:World}{b o n c i:Nat}{ps:List Pr}{F:Nat->Nat->Prop}(k v:List UInt8)(U:aG 2 220 w (.slice (some ⟨b,o,none⟩) n c) (ps.map ay) F)(hi:i<ps.length):
  aG 2 220 ((w.setCell ⟨b,o+i*2,none⟩ (r7 k)).setCell ⟨b,o+i*2+1,none⟩ (r7 v)) (.slice (some ⟨b,o,none⟩) n c) ((ps.take i++(k,v)::ps.drop (i+1)).map ay) F/\
   OnlyC F w ((w.setCell ⟨b,o+i*2,none⟩ (r7 k)).setCell ⟨b,o+i*2+1,none⟩ (r7 v)):=by
 obtain⟨E,P,N,D,f,m,z,L,y,B,p,q⟩:=U.lies (by simp;omega);simp only[fa,ix,fi,nw,and_true]at f;obtain⟨⟨rfl,rfl⟩,rfl,rfl⟩:=f;rw[fa]at m;obtain⟨K,I,u,x,C⟩:=cy (t:=220) [r7 k,r7 v] (o+i*2) w D y (by simp;omega);have H:=bU b [r7 k,r7 v] (o+i*2) w;constructor
 ·refine aG.rewritten I u B p (by simp;omega) m z (fun T h=>by obtain⟨R,_,rfl⟩:=ep.1 h;rfl) (fun l J a=>?_)
  have g:(((ps.take i).map ay).flatten).length=i*2:=by rw[bP (k:=2) (fun T h=>by obtain⟨R,_,rfl⟩:=List.mem_map.1 h;rfl)];simp;omega
  obtain⟨j,r⟩: ∃Q,ps[i]?=some Q:=⟨_,ao hi⟩;have s:ps=ps.take i++j::ps.drop (i+1):=ez r;have f:((ps.take i++(k,v)::ps.drop (i+1)).map ay).flatten=((ps.take i).map ay).flatten++(r7 k:: r7 v::((ps.drop (i+1)).map ay).flatten):=by simp[ay]
  have G:(ps.map ay).flatten=((ps.take i).map ay).flatten++(r7 j.1:: r7 j.2::((ps.drop (i+1)).map ay).flatten):=by
   conv=>lhs;rw[s]
   simp[ay]
  rw[f]at a;rw[G]at q;by_cases M:i*2<=l/\l<i*2+2
  ·rw[iv (by omega),g]at a
   have:=C (l-i*2) J (by
    obtain⟨t,d⟩:=rk (l-i*2);rw[d]at a⊢
    match t,d,a with
    |0,_,a=>simpa using a
    |1,_,a=>simpa using a
    |t+2,d,_=>omega)
   rw[show o+i*2+(l-i*2)=o+l by omega]at this;exact this
  ·rw[x (o+l) (by simp;omega)];refine q l J ?_;rw[List.getElem?_append]at a⊢;split
   ·rename_i e;rw[ff e]at a;exact a
   ·rename_i e;rw[fb e,g]at a;rw[g]at e⊢;obtain⟨t,d⟩:=rk (l-i*2);rw[d]at a⊢
    match t,d,a with
    |0,d,_=>omega
    |1,d,_=>omega
    |t+2,_,a=>simpa using a
 ·refine H.m (fun E V _ S=>?_);obtain⟨rfl,O,A⟩:=S;exact p _ (by omega) (by simp at A;omega)
theorem iE{W a:World}{F:Nat->Nat->Prop}{e c d h g f:Nat}{v1 v2 v3:Value}(l:W.cell? ⟨e,c,none⟩=some v1/\W.cell? ⟨d,h,none⟩=some v2/\W.cell? ⟨g,f,none⟩=some v3)(b:OnlyC F W a)(k: ¬F e c)(i: ¬F d h)(j: ¬F g f):a.cell? ⟨e,c,none⟩=some v1/\a.cell? ⟨d,h,none⟩=some v2/\a.cell? ⟨g,f,none⟩=some v3:=
 ⟨b.cell l.1 k,b.cell l.2.1 i,b.cell l.2.2 j⟩
theorem tU{W a:World}{c d e:Addr}{v1 v2 v3:Value}(h:W.cell? c=some v1/\W.cell? d=some v2/\W.cell? e=some v3)(b:Below W.heap.size W a):a.cell? c=some v1/\a.cell? d=some v2/\a.cell? e=some v3:=
 ⟨(b.cell (aq _ _ h.1)).x h.1,(b.cell (aq _ _ h.2.1)).x h.2.1,(b.cell (aq _ _ h.2.2)).x h.2.2⟩
theorem aG.lF{w:World}{b o n c i:Nat}{ps:List Pr}{F:Nat->Nat->Prop}{p:Pr}(m:aG 2 220 w (.slice (some ⟨b,o,none⟩) n c) (ps.map ay) F)(g:ps[i]?=some p):
  (w.cell? ⟨b,o+i*2,none⟩=some (r7 p.1)/\w.cell? ⟨b,o+i*2+1,none⟩=some (r7 p.2))/\w.frozen? ⟨b,o+i*2,none⟩=false/\w.frozen? ⟨b,o+i*2+1,none⟩=false:=by
 obtain⟨l,j,k,a,_,_,f,d,e,h⟩:=m.pair g;simp only[ix,fi,nw,and_true]at a;obtain⟨⟨rfl,rfl⟩,rfl,rfl⟩:=a;exact⟨⟨f,d⟩,e,h⟩
theorem aG.E9{w:World}{b o n c i p:Nat}{ps:List Nat}{F:Nat->Nat->Prop}(j:aG 1 169 w (.slice (some ⟨b,o,none⟩) n c) (ps.map aP) F)(d:ps[i]?=some p):w.cell? ⟨b,o+i,none⟩=some (rv p):=by obtain⟨h,g,f,a,_,_,e⟩:=j.ptr d;simp only[ix,fi,nw,and_true]at a;obtain⟨⟨rfl,rfl⟩,rfl,rfl⟩:=a;exact e
theorem aG.qY{w:World}{b o n c i:Nat}{ps:List Pr}{F:Nat->Nat->Prop}(r:aG 2 220 w (.slice (some ⟨b,o,none⟩) n c) (ps.map ay) F)(hi:i<ps.length):F b (o+i*2)/\F b (o+i*2+1):=by obtain⟨p,g,m,k,d,e,q,f,l,h,a,j⟩:=r.lies (by simp;omega);simp only[fa,ix,fi,nw,and_true]at d;obtain⟨⟨rfl,rfl⟩,rfl,rfl⟩:=d;rw[fa]at e;exact⟨a _ (by omega) (by omega),a _ (by omega) (by omega)⟩
theorem aG.Fa{w:World}{b o n c i:Nat}{ps:List Nat}{F:Nat->Nat->Prop}(r:aG 1 169 w (.slice (some ⟨b,o,none⟩) n c) (ps.map aP) F)(hi:i<ps.length):F b (o+i):=by obtain⟨p,g,m,k,a,e,q,f,l,h,d,j⟩:=r.lies (by simp;omega);simp only[fa,ix,fi,nw,and_true]at a;obtain⟨⟨rfl,rfl⟩,rfl,rfl⟩:=a;rw[fa]at e;exact d _ (by omega) (by omega)
theorem Fb(w:World)(d a i i1:Nat)(x:ND)(F:Nat->Nat->Prop)(P:aB w (d+1) a x F)(K: ∀b O,F b O->b<w.heap.size)(I:i1=i+1)(hi:i+1<x.ks.length)(am:x.ks.length=x.ps.length+1)(a0:x.ps.length<=900)
  (ac:1<=(aT x i).ps.length) (XE:(aT x i).ps.length<=900) (a1:(aT x (i+1)).ps.length<=900) (Y:d≠0->(aT x i).ks.length=(aT x i).ps.length+1) (a7:(aT x (i+1)).ks.length<=901):
  Calls prog 243 #[rv a,rm i1] w fun N c=>N=.returned (.tuple #[])/\aB c (d+1) a (uX x i (eH d (aT x i) (gV x i) (aT x (i+1)))) (fun b O=>F b O\/w.heap.size<=b)/\OnlyC F w c:=by
 obtain⟨_,vp,vk,aC,H,e,_⟩:=P.open_;have L:=dD (x:=x) (i:=i) (by omega);have J:=dD (x:=x) (i:=i+1) (by omega);generalize f:aT x i=u at *;generalize c:aT x (i+1)=k at *;clear f c;obtain⟨l,y⟩: ∃c,aC[i]?=some c:=⟨_,ao (by rw[e.2.2.2.2.1];omega)⟩;obtain⟨r,C⟩: ∃c,aC[i+1]?=some c:=⟨_,ao (by rw[e.2.2.2.2.1];omega)⟩;obtain⟨V,vl,ul,U,Hl,g,T⟩:=(show aB w d l u (H (i+3))from e.2.2.2.2.2.1 i l u y L).open_;obtain⟨Q,vr,ur,pr,Hr,f,Su⟩:=(show aB w d r k (H (i+4))from e.2.2.2.2.2.1 (i+1) r k C J).open_;have t:=bG.start e K g f;obtain⟨s,B⟩: ∃p,x.ps[i]?=some p:=⟨_,ao (by omega)⟩;have Fe:gV x i=s:=by unfold gV;rw[B];rfl
 rw[Fe];obtain⟨m,A⟩: ∃m,u.ps.length=m+1:=⟨u.ps.length-1,by omega⟩;obtain⟨z,M⟩: ∃p,u.ps[m]?=some p:=⟨_,ao (by omega)⟩;obtain⟨bn,on,cn,v,-,-,R,X,-⟩:=e.2.2.1.pair B;subst v;obtain⟨bl,ol,cl,v,-,-,-⟩:=g.2.2.1.pair M;subst v;obtain⟨Ar,cr,v,-⟩:=f.2.2.1.slice;rw[fa]at v;subst v;obtain⟨bk,ok,ck,v,-,-,r1⟩:=e.2.2.2.1.ptr y;obtain⟨a9,a6,a3,Sw,-,-,Z⟩:=e.2.2.2.1.ptr C;subst v;simp only[ix,fi,nw,and_true,true_and]at Sw;obtain⟨⟨rfl,rfl⟩,rfl⟩:=Sw;obtain⟨Al,VX,v,-⟩:=g.2.2.2.1.slice;rw[fa]at v;subst v;obtain⟨ZW,Sz,v,-⟩:=f.2.2.2.1.slice;rw[fa]at v;subst v;obtain⟨np,G⟩:=rk (x.ps.length);obtain⟨nr,q⟩:=rk (k.ps.length);obtain⟨nk,o⟩:=rk (aC.length);obtain⟨Ff,S⟩:=rk (U.length);obtain⟨CU,D⟩:=rk (pr.length);obtain⟨nl,n⟩:=rk (u.ps.length);have ij:=e.2.2.2.2.1;have W:=g.2.2.2.2.1;have KF:=f.2.2.2.2.1;rw[G,o]at e;rw[n,S]at g;rw[q,D]at f;rw[G,o,n,S,q,D]at t;have uG:=(e.2.2.1.qY (i:=i) (by omega));have h:=Cd e K g T f Su y C L J B M V Q;have j:=al (show np=x.ps.length/\nr=k.ps.length/\nk=aC.length/\Ff=U.length/\CU=pr.length/\nl=u.ps.length/\u.ps.length=m+1/\aC.length=x.ks.length/\U.length=u.ks.length/\pr.length=k.ks.length/\i+1<x.ks.length/\x.ks.length=x.ps.length+1/\i1=i+1/\(d≠0->u.ks.length=u.ps.length+1)from⟨G.symm,q.symm,o.symm,S.symm,D.symm,n.symm,A,ij,W,KF,hi,am,I,Y⟩);have c:=al t;have HP:=al uG;obtain⟨⟨E,ZX⟩,-,-⟩:=af t.lT.1;have j1:(i1:Int)-1=(i:Int):=by omega
 have j2:(0:Int)<=(i:Int):=by omega
 have j3:(i:Int)<(nk:Int):=by omega
 have j4:(i1:Int)<(nk:Int):=by omega
 have j5:(0:Int)<=(i1:Int):=by omega
 have j6:(i:Int)<(np:Int):=by omega
 have j7:(nl:Int)-1=(m:Int):=by omega
 have j8:(0:Int)<=(m:Int):=by omega
 have j9:(m:Int)<(nl:Int):=by omega
 have a4:nl<=900:=by omega
 obtain⟨a',a2⟩:=KE i (by omega);obtain⟨a8,ap⟩:=KE m (by omega);have aa:w.cell? ⟨bk,ok+i1,none⟩=some (rv r):=by rw[I];exact Z
 clear Z P e K g T f Su y C L J t B M A G q o S D n ij W KF uG I Fe ac Y V Q;go_enter func243,ntmps243;go_wp2_with fail;go_quiet(fail);go_upto_region 1 with fail;have e:Below w.heap.size w (w.drewN nq):=aH (bd _ _) nq;generalize w.drewN nq=n at e⊢;have g:=(e.cell (aq _ _ R)).x R;have f:=(e.cell (aq _ _ X)).x X;have c:=al (c.o.below e);clear E ZX r1 aa R X e;obtain⟨⟨e,-⟩,-,-⟩:=af c.o.fP.1;go_upto_region 2 with fail;clear e;obtain⟨⟨E,-⟩,-,-⟩:=af c.o.lT.1;have T:=xF E g f;clear E g f;refine pt (S:=(fun W=>W.cell? ⟨a,0,none⟩=some (.slice (some ⟨bn,on,none⟩) np cn)/\W.cell? ⟨bn,on+i*2,none⟩=some (r7 s.1)/\W.cell? ⟨bn,on+i*2+1,none⟩=some (r7 s.2))) (by kernel_rfl) T (fun e=>?_);generalize Q:World.drew n=n at e⊢;have c:=al (c.o.below (w1:=n) (Q▸(bd _ _).drew));clear Q T;refine bj [0,1,2,3,5,6,7,8,9,10,11,12] ?_
 iterate 12 (refine dZ (v:=?_) (fun _ ⟨R,X,J⟩=>?_) e ?_;rotate_left;(go_simp;try rfl);try simp only[xr])
 refine bq ?_;refine qe (rs:=[4,13]) (by kernel_rfl) (by simp) (cX (i:=4) rfl (fun L f=>?_) (cX (i:=13) rfl (fun L f=>?_) ph))
 focus
  obtain⟨⟨I,-⟩,-,-⟩:=af c.o.iq.1;go_simp;refine f.o _ _ (e) ?_;clear f L e I;intro e
  try simp only[xr]
  refine bA 13 (fun L f=>?_);go_simp;refine f.o _ _ (tU e (ae _ _)) ?_;clear f L e;intro e
  try simp only[xr]
  obtain⟨B,q⟩:=rj n (sh s.1.toArray s.2.toArray);have y: ∀O,¬Hr 1 n.heap.size O:=fun O g=>Nat.lt_irrefl _ (c.o.aak g);generalize n.alloc (sh s.1.toArray s.2.toArray)=W5 at q B e⊢;obtain⟨VB,D⟩:=rk (n.heap.size);rw[D]at q y⊢;have M:=AD q y;have c:=al (c.o.below B);clear q B D y
 rotate_left
 focus
  go_simp;refine f.o _ _ (tU e (ae _ _)) ?_;clear f L e;intro e
  try simp only[xr]
  obtain⟨B,q⟩:=rj n (sh s.1.toArray s.2.toArray);have y: ∀O,¬Hr 1 n.heap.size O:=fun O g=>Nat.lt_irrefl _ (c.o.aak g);generalize n.alloc (sh s.1.toArray s.2.toArray)=W5 at q B e⊢;obtain⟨VB,D⟩:=rk (n.heap.size);rw[D]at q y⊢;have M:=AD q y;have c:=al (c.o.below B);clear q B D y;refine bA 4 (fun L f=>?_);obtain⟨⟨I,-⟩,-,-⟩:=af c.o.iq.1;go_simp;refine f.o _ _ (e) ?_;clear f L e I;intro e
  try simp only[xr]
 all_goals
  refine bA 14 (fun L f=>?_);go_simp;refine(jw W5 (Hr 1) _ (k.ps.map ay) 0 _ rfl (ay s) VB c.o.iq.2.1 (dq _) (by rw[fa];omega) (by rfl) (by simp[ay,Value.oneCell']) (dL _) M.o.1 M.o.2).m ?_;rintro N wn ⟨v6,rfl,G,fe⟩;rw[eQ]at G;simp only[kn,fj,List.drop_zero]at G;obtain⟨A6,t,fT,-⟩:=G.slice;obtain⟨n6,fH⟩:=rk (((s::k.ps).map ay).length);rw[fH]at fT;subst fT;clear fH;have E:=AD G fe;clear G fe
  try go_simp
  refine f.o _ _ (iE e E.o.2 (fun g=>c.o.aaj g rfl) (fun g=>c.o.uu HP.o.1 g) (fun g=>c.o.uu HP.o.2 g)) ?_;clear f L e;intro e
  try simp only[xr]
  refine bj [15,16] ?_
  iterate 2 (refine dZ (v:=?_) (fun _ ⟨R,X,J⟩=>?_) e ?_;rotate_left;(go_simp;try rfl);try simp only[xr])
  refine bq ?_;refine bA 17 (fun L f=>?_);obtain⟨⟨I,-⟩,rf,-⟩:=af (E.o.2.heap c.o.iq.1 (fun O g=>c.o.Te g rfl));go_simp;refine f.o _ _ (iE e (OnlyC.aR _ r 0 _) (fun N=>c.o.e02 N.1) (fun N=>c.o.LR HP.o.1 N.1) (fun N=>c.o.LR HP.o.2 N.1)) ?_;clear f L e I rf;intro e
  try simp only[xr]
  refine pw (by kernel_rfl) ?_ _;have dW:=c.o.p2 (bd _ _) E.o.2 E.o.1;clear e;generalize wn.setCell ⟨r,0,none⟩ (.slice A6 n6 t)=V at dW⊢;have c:=al dW;clear dW M E;obtain⟨o,K⟩:=(c.o.fP.2.1.lF h.o.q.q.t.1).1;obtain⟨⟨c1,-⟩,-,-⟩:=af c.o.lT.1;obtain⟨⟨C,-⟩,-,-⟩:=af c.o.fP.1;have T:=xT c1 C o K;clear c1 C o K;have o:=al (c.o.fP.2.1.qY (i:=m) (by have:=j.o.q.d.1;omega));go_upto_region 3 with fail;refine pt (S:=(fun W=>W.cell? ⟨a,0,none⟩=some (.slice (some ⟨bn,on,none⟩) np cn)/\W.cell? ⟨l,0,none⟩=some (.slice (some ⟨bl,ol,none⟩) nl cl)/\W.cell? ⟨bl,ol+m*2,none⟩=some (r7 z.1)/\W.cell? ⟨bl,ol+m*2+1,none⟩=some (r7 z.2))) (by kernel_rfl) T (fun e=>?_);generalize Q:World.drew V=n at e⊢;have c:=al (c.o.below (w1:=n) (Q▸(bd _ _).drew));clear Q T;refine bj [0,1,2,3,4,5,6,7,8,9,10,11,12,13] ?_
  iterate 14 (refine dZ (v:=?_) (fun _ ⟨R,X,J,K⟩=>?_) e ?_;rotate_left;(go_simp;try rfl);try simp only[xr])
  refine bq ?_;refine bA 14 (fun L f=>?_);obtain⟨⟨V,t⟩,J,K⟩:=c.o.lT.2.1.lF h.o.q.q.d.1;go_simp;refine f.o _ _ (xW e (c.o.lT.2.1.fK (i:=i) z.1 z.2 (by have:=j.o.q.q.d.1;have:=j.o.q.q.t.1;omega)).2 (fun g=>c.o.LQ g rfl) (fun g=>c.o.zG g rfl) (fun g=>c.o.oo g o.o.1) (fun g=>c.o.oo g o.o.2)) ?_;clear f L e V t J K;intro e
  try simp only[xr]
  refine pw (by kernel_rfl) ?_ _;have t:=c.o.i0 (c.o.lT.2.1.fK (i:=i) z.1 z.2 (by have:=j.o.q.q.d.1;have:=j.o.q.q.t.1;omega)).2 (c.o.lT.2.1.fK (i:=i) z.1 z.2 (by have:=j.o.q.q.d.1;have:=j.o.q.q.t.1;omega)).1;clear e;generalize (n.setCell ⟨bn,on+i*2,none⟩ (r7 z.1)).setCell ⟨bn,on+i*2+1,none⟩ (r7 z.2)=J at t⊢;have c:=al t;clear t o;obtain⟨⟨C,-⟩,-,-⟩:=af c.o.fP.1;go_wp2_with fail;refine(l8 J (Hl 1) _ (u.ps.map ay) m _ _ rfl (by simp) c.o.fP.2.1 (by rw[fa];have:=j.o.q.d.1;omega) (by rw[fa];omega) (dL _)).m ?_;rintro N w9 ⟨v9,rfl,J,eJ⟩;rw[<-mc,<-lx,<-gR]at J;have o:u.ps.drop (m+1)=[]:=eR (by have:=j.o.q.d.1;omega);rw[o,fs]at J;obtain⟨A9,c9,gH,-⟩:=J.slice;obtain⟨n9,gq⟩:=rk (((u.ps.take m).map ay).length);rw[gq]at gH;subst gH;clear gq o C;have V:=AD J eJ;clear J eJ;obtain⟨⟨C,-⟩,f2,-⟩:=af (V.o.2.heap c.o.fP.1 (fun O g=>c.o.EB g rfl));go_upto_region 5 with fail;clear C f2;have o:=c.o.p1 (bd _ _) V.o.2 (V.o.1.m (fun b O g=>.inl g));generalize w9.setCell ⟨l,0,none⟩ (.slice A9 n9 c9)=wA at o⊢;have c:=al o;clear o V;obtain⟨⟨-,C⟩,-,-⟩:=af c.o.fP.1;by_cases hd:d=0
  ·subst hd;have o:u.ks=[]:=h.o.q.q.q.1 rfl;have K:k.ks=[]:=h.o.q.q.q.2 rfl;have dN:Ff=0:=by rw[j.o.t.1,j.o.q.q.1,o];rfl
   subst dN;have jI:=al (ek wA l VX Al C);have Z:=AD o K;clear C o K;go_wp2_with fail;refine jI.o.m ?_;rintro N wZ ⟨rfl,Io⟩;subst Io;go_wp2_with fail
   first|refine ew (du rfl _ _ _) rfl ?_|refine dj (du rfl _ _ _) rfl ?_
   obtain⟨o,K⟩:=Z.o;have hE:=gS h.o.1 h.o.2.1 (by have:=j.o.q.q.d.1;omega) h.o.d.1 h.o.t.1 h.o.q.1 h.o.q.2.1 c.o 0 0 (b8 _) (dq _) [] (fun _ _ _=>False) 0 0 (b8 _) (dq _) [] (fun _ _ _=>False) rfl h.o.q.d.1 h.o.q.t.1 (by simp) (by simp) (fun _ _ _ P=>P.elim) (fun _ _ _ P=>P.elim) (fun _ _ _ _ P=>P.elim) (fun _ _ _ _ P=>P.elim) (fun m p k A=>by simp at A) (fun m p k A=>by simp at A) (by simp[o]) (by simp[K]);rw[E8 j.o.q.d.1 h.o.q.q.t.1];refine⟨rfl,?_,hE.2⟩;have t:=hE.1;simp only[o,K,List.take_nil,List.drop_nil,kb,fs]at t;exact t
  ·have Y:=j.o.q.q.q.2 hd;obtain⟨o,Z⟩:=rl (m+1);have xZ:U.length=o+1:=by have:=j.o.q.q.1;have:=j.o.q.d.1;omega
   obtain⟨K,aa⟩: ∃p,U[o]?=some p:=⟨_,ao (by omega)⟩;obtain⟨k0,dN⟩: ∃p,u.ks[o]?=some p:=⟨_,ao (by have:=j.o.q.q.1;omega)⟩;have CV:=c.o;obtain⟨ac,ad,a5,v,-,-,-⟩:=CV.fP.2.2.ptr aa;simp only[ix]at v;obtain⟨rfl,-,rfl⟩:=v;have S:Ff=o+1:=by rw[j.o.t.1];exact xZ
   have jI:=al (fy wA l Ff VX _ (by omega) C);have c:=al CV;have HM:=AS Z xZ aa dN Y S (CV.fP.2.2.Fa (i:=o) (by omega));have q1:(m:Int)+1=(o:Int):=by omega
   have q2:o<=901:=by have:=j.o.q.d.1;omega
   obtain⟨q3,q4⟩:=KE o (by omega);have q5:(0:Int)<=(o:Int):=by omega
   have q6:(o:Int)<(Ff:Int):=by omega
   have q7:Ff<=902:=by omega
   clear CV Z xZ aa dN Y S hd C;go_wp2_with fail;refine jI.o.m ?_;rintro N wZ ⟨rfl,Io⟩;subst Io;clear jI;obtain⟨⟨-,c1⟩,-,-⟩:=af c.o.fP.1;have T:=ab c1 (c.o.fP.2.2.E9 HM.o.d.1);clear c1;go_upto_region 6 with fail;refine pt (S:=(fun W=>W.cell? ⟨l,1,none⟩=some (.slice (some ⟨ac,ad,none⟩) Ff VX)/\W.cell? ⟨ac,ad+o,none⟩=some (rv K))) (by kernel_rfl) T (fun e=>?_);generalize Q:World.drew wA=n at e⊢;have c:=al (c.o.below (w1:=n) (Q▸(bd _ _).drew));clear Q T;refine bj [0,1,2,3,5,6,7,8,9,10,11,12] ?_
   iterate 12 (refine dZ (v:=?_) (fun _ ⟨R,X⟩=>?_) e ?_;rotate_left;(go_simp;try rfl);try simp only[xr])
   refine bq ?_;refine qe (rs:=[4,13]) (by kernel_rfl) (by simp) (cX (i:=4) rfl (fun L f=>?_) (cX (i:=13) rfl (fun L f=>?_) ph))
   focus
    obtain⟨⟨-,I⟩,-,-⟩:=af c.o.iq.1;go_simp;refine f.o _ _ (e) ?_;clear f L e I;intro e
    try simp only[xr]
    refine bA 13 (fun L f=>?_);go_simp;refine f.o _ _ (mn e (ae _ _)) ?_;clear f L e;intro e
    try simp only[xr]
    obtain⟨B,q⟩:=rj n (so K);have y: ∀O,¬Hr 2 n.heap.size O:=fun O g=>Nat.lt_irrefl _ (c.o.Tf g);generalize n.alloc (so K)=W5 at q B e⊢;obtain⟨VB,D⟩:=rk (n.heap.size);rw[D]at q y⊢;have M:=AD q y;have c:=al (c.o.below B);clear q B D y
   rotate_left
   focus
    go_simp;refine f.o _ _ (mn e (ae _ _)) ?_;clear f L e;intro e
    try simp only[xr]
    obtain⟨B,q⟩:=rj n (so K);have y: ∀O,¬Hr 2 n.heap.size O:=fun O g=>Nat.lt_irrefl _ (c.o.Tf g);generalize n.alloc (so K)=W5 at q B e⊢;obtain⟨VB,D⟩:=rk (n.heap.size);rw[D]at q y⊢;have M:=AD q y;have c:=al (c.o.below B);clear q B D y;refine bA 4 (fun L f=>?_);obtain⟨⟨-,I⟩,-,-⟩:=af c.o.iq.1;go_simp;refine f.o _ _ (e) ?_;clear f L e I;intro e
    try simp only[xr]
   all_goals
    refine bA 14 (fun L f=>?_);go_simp;refine(jx W5 (Hr 2) _ (pr.map aP) 0 _ rfl (aP K) VB c.o.iq.2.2 (dq _) (by rw[fa];have:=j.o.q.q.2.1;omega) (by rfl) (by simp[aP,Value.oneCell']) (ct _) M.o.1 M.o.2).m ?_;rintro N wn ⟨v6,rfl,G,fe⟩;rw[eQ]at G;simp only[kn,fj,List.drop_zero]at G;obtain⟨Q,q,fT,-⟩:=G.slice;obtain⟨y,fH⟩:=rk (((K::pr).map aP).length);rw[fH]at fT;subst fT;clear fH;have E:=AD G fe;clear G fe
    try go_simp
    refine f.o _ _ (dF e E.o.2 (fun g=>c.o.EC g rfl) (fun g=>c.o.uw HM.o.q.d g)) ?_;clear f L e;intro e
    try simp only[xr]
    refine bj [15,16] ?_
    iterate 2 (refine dZ (v:=?_) (fun _ ⟨R,X⟩=>?_) e ?_;rotate_left;(go_simp;try rfl);try simp only[xr])
    refine bq ?_;refine bA 17 (fun L f=>?_);obtain⟨⟨-,I⟩,-,rf⟩:=af (E.o.2.heap c.o.iq.1 (fun O g=>c.o.ED g rfl));go_simp;refine f.o _ _ (dF e (OnlyC.aR _ r 1 _) (fun N=>c.o.e12 N.1) (fun N=>c.o.zI HM.o.q.d N.1)) ?_;clear f L e I rf;intro e
    try simp only[xr]
    refine pw (by kernel_rfl) ?_ _;have dW:=c.o.k2 (bd _ _) E.o.2 E.o.1;clear e;generalize wn.setCell ⟨r,1,none⟩ (.slice Q y q)=e at dW⊢;have c:=al dW;clear dW M E;obtain⟨⟨-,C⟩,-,-⟩:=af c.o.fP.1;go_wp2_with fail;refine(jq e (Hl 2) _ (U.map aP) o _ _ (by simp) (by omega) c.o.fP.2.2 (by rw[fa];have:=HM.o.2.1;omega) (by rw[fa];have:=HM.o.2.1;omega) (ct _)).m ?_;rintro N w9 ⟨v9,rfl,J,eJ⟩;rw[<-mc,<-lx,<-gR]at J;obtain⟨G,E,gH,-⟩:=J.slice;obtain⟨I,gq⟩:=rk (((U.take o++U.drop (o+1)).map aP).length);rw[gq]at gH;subst gH;clear gq C;have V:=AD J eJ;clear J eJ;obtain⟨⟨-,C⟩,-,f2⟩:=af (V.o.2.heap c.o.fP.1 (fun O g=>c.o.zH g rfl));go_wp2_with fail
    first|refine ew (du rfl _ _ _) rfl ?_|refine dj (du rfl _ _ _) rfl ?_
    have D:=c.o.k1 (bd _ _) V.o.2 (V.o.1.m (fun b O g=>.inl g));obtain⟨Z,xZ,aa,dN,Y,S,-⟩:=HM.o;have e:u.ks.length=o+1:=by rw[Y,j.o.q.d.1,Z]
    have n:bY w d K k0 (Hl (o+3)):=(h.o.d.1).2.2.2.2.2.1 o K k0 aa dN
    have hE:=gS h.o.1 h.o.2.1 (by have:=j.o.q.q.d.1;omega) h.o.d.1 h.o.t.1 h.o.q.1 h.o.q.2.1 D o (o+1) (by omega) (by omega) [] (fun _ _ _=>False) 0 0 (b8 _) (dq _) [(K,k0)] (rO (Hl (o+3)) (fun _ _=>False)) rfl h.o.q.d.1 h.o.q.t.1 (by simp) (by simp) (fun _ _ _ P=>P.elim) (fun f b O P=>match f,P with|0,P=>⟨o,b8 _,by omega,P⟩|1,P=>P.elim|_+2,P=>P.elim) (fun _ _ _ _ P=>P.elim)
     (fun f B b O t g=>by
      match f,t,B,g with
      |0,_,0,_=>rfl
      |1,t,_,_=>exact t.elim
      |_+2,t,_,_=>exact t.elim
      |0,_,1,g=>exact g.elim
      |0,_,_+2,g=>exact g.elim)
     (fun f p k A=>by simp at A)
     (fun f p k A=>by
      match f,A with
      |0,A=>simp only[jj,fi,mv]at A;obtain⟨rfl,rfl⟩:=A;exact n
      |f+1,A=>simp at A)
     (fun N=>by have t:=h.o.q.q.q.1 N;rw[t]at e;simp at e) (fun N=>by have t:=h.o.q.q.q.1 N;rw[t]at e;simp at e)
    have b:d≠0:=fun N=>by have t:=h.o.q.q.q.1 N;rw[t]at e;simp at e
    rw[rY b j.o.q.d.1 h.o.q.q.t.1 (by rw[e,Z]) (Z▸dN)];refine⟨rfl,?_,hE.2⟩;have t:=hE.1;have f:u.ks.drop (o+1)=[]:=eR (by omega);simp only[f,kn,List.drop_zero,kb,kt,fs,fj,lE]at t;rw[Z]at t;exact t
end Go.Proofs.YtehccbdajiiaaaaGreatDoor
