import Derived.Test.YtehccbdajiiaaaaGreatDoorP06
import Derived.Test.YtehccbdajiiaaaaGreatDoorP16
namespace Go.Proofs.YtehccbdajiiaaaaGreatDoor
open Go.Proofs.Tryz
set_option maxRecDepth 100000
set_option maxHeartbeats 16000000
open Go.RowKit
theorem eO{w:World}{T:Nat}{a b c:Value}(h:w.heap[T]?=some (.cells #[a,b,c] 175 (0,0))):(w.cell? ⟨T,0,none⟩=some a/\w.cell? ⟨T,1,none⟩=some b/\w.cell? ⟨T,2,none⟩=some c)/\w.frozen? ⟨T,1,none⟩=false/\w.frozen? ⟨T,2,none⟩=false:=by simp[World.cell?,World.frozen?,h]
theorem JR{w:World}{T:Nat}{a b c:Value}(h:w.heap[T]?=some (.cells #[a,b,c] 175 (0,0)))(x:Value):(w.setCell ⟨T,1,none⟩ x).heap[T]?=some (.cells #[a,x,c] 175 (0,0)):=by have:=dd w T 1 _ _ x h;simpa using this
theorem Cr{w:World}{T:Nat}{a b c:Value}(h:w.heap[T]?=some (.cells #[a,b,c] 175 (0,0)))(x:Value):(w.setCell ⟨T,2,none⟩ x).heap[T]?=some (.cells #[a,b,x] 175 (0,0)):=by have:=dd w T 2 _ _ x h;simpa using this
theorem vh{w b:World}{T o d r:Nat}{l:List Pr}{y:ND}{F a:Nat->Nat->Prop}{p:Pr}{cnt:Int}(f:Up l)(s:2<=o)(i:o<=16)(j: ∀q,F T q)(_u:T<w.heap.size)
  (h:b.heap[T]?=some (ta o cnt r)) (k:cnt=(ins p l).length) (n:aG b d r y a) (t: ∀c q,a c q->F c q\/w.heap.size<=c) (m: ∀q,¬a T q)
  (g:fw d o (if d=0 then 0 else 1) (2*o-1) y) (e:bz d y=ins p l):bM b T o (ins p l) (fun c q=>F c q\/w.heap.size<=c):=by
 subst k;exact⟨d,r,y,a,h,n,g,e,by rw[ou];exact eX f,⟨s,i⟩,t,fun q=>.inl (j q),m⟩
theorem vq{p:Pr}{l:List Pr}(a:Up l):(ins p l).length=if(look p.1 l).isSome then l.length else l.length+1:=by rw[ou,look_eq];exact kE a
def OE(T o:Nat)(l:List Pr)(p:Pr)(F:Nat->Nat->Prop)(w:World)(e:Ending)(w':World):Prop:=
 e=.returned (.tuple #[.string ⟨((look p.1 l).getD []).toArray⟩,.bool (look p.1 l).isSome,rv 0])/\bM w' T o (ins p l) (fun b q=>F b q\/w.heap.size<=b)/\OnlyC F w w'
theorem qH(w:World)(T o:Nat)(l:List Pr)(F:Nat->Nat->Prop)(p:Pr)(H:bM w T o l F)(v: ∀m q,F m q->m<w.heap.size)(f:1<=p.1.length)(h:p.1.length<=64)(y:p.2.length<=256)(k:l.length<=1000000):
  Calls prog 123 #[r7 T,sd p.1,sd p.2] w (OE T o l p F w):=by
 obtain⟨I,Q,x,Y,a,u,c,d,g,⟨j,t⟩,e,i,n⟩:=H;obtain⟨⟨P,-,N⟩,-,-⟩:=eO a;have s:=ab P N;have m1: ¬(256:Int)<(p.2.length:Int):=by omega
 have r:=al (nj w T ⟨p.1.toArray⟩ (by exact f) (by exact h));have b:=Cp a u c d g j t e i n v k;clear a u c d g j t e i n v k f h y P N;go_enter func123,ntmps123;go_wp2_with fail;refine r.o.m ?_;rintro G w1 ⟨rfl,aa⟩;obtain rfl:w=w1:=aa.symm;clear r;go_upto_region 6 with fail;refine pw (S:=(fun W=>W.cell? ⟨T,0,none⟩=some (rv o)/\W.cell? ⟨T,2,none⟩=some (r7 Q))) (by kernel_rfl) s (fun h=>?_);generalize c:World.drew w=a at h⊢;have i:=al (show aG a I Q x Y/\a.heap[T]?=some (ta o l.length Q)/\Below w.heap.size w a from c▸⟨b.o.2.1.below (aw _ _).drew,b.o.1,(aw _ _).drew⟩);clear c s;refine bq [0,1,2,3,4,5,6,7,8,9,10] ?_
 iterate 11 (refine ek (v:=?_) (fun _ ⟨J,X⟩=>?_) h ?_;rotate_left;(go_simp;try rfl);try simp only[xT])
 refine bt ?_;refine bC 11 (fun K y=>?_);go_simp;refine(OD b.o.q.2.1 b.o.q.d.1 p I a Q _ x Y i.o.1 (fun m q a=>da (b.o.q.q.d.1 m q (b.o.q.t.1 m q a)) i.o.d.size) b.o.d.1 (by rw[b.o.t.1];exact b.o.q.1)).m ?_;rintro G j ⟨rfl,d,c⟩;have u:=AI d c;clear d c;rw[b.o.t.1]
 try go_simp
 refine y.o _ _ (dB h u.o.2 (b.o.q.q.2.1 0) (b.o.q.q.2.1 2)) ?_;clear y K h;intro h
 try simp only[xT]
 refine bq [12,13,14,15,16] ?_
 iterate 5 (refine ek (v:=?_) (fun _ ⟨J,X⟩=>?_) h ?_;rotate_left;(go_simp;try rfl);try simp only[xT])
 refine bt ?_;refine qe (by kernel_rfl) ?_ _;have HR:=al (show World.cell? j ⟨T,0,none⟩=_/\_ from h);clear h;obtain⟨b0,d⟩:=rl ((look p.1 l).isSome);obtain⟨J,c⟩:=rl ((⟨((look p.1 l).getD []).toArray⟩:ByteArray));rw[c,d];have t:=AI c d;clear c d;have e:=u.o.2.heap i.o.2.1 b.o.q.q.2.1;have f:OnlyC F w j:=(o0 i.o.d F).x u.o.2 (fun m q _ a=>b.o.q.t.1 m q a);have g:=u.o.1.bound;cases b0
 focus
  obtain⟨⟨-,z,-⟩,c,-⟩:=eO e;have A:(l.length:Int)<=1000000:=by have:=b.o.q.q.t;omega
  go_upto_region 9 with fail;have v:=JR e (rv ((l.length:Int)+1));have r:=(u.o.1.only (OnlyC.aR j T 1 (rv ((l.length:Int)+1))) (fun m q a G=>by have d:=G.1;rw[d]at a;rcases a with k|k;(· exact b.o.q.q.2.1 q k);(· have Z:=i.o.d.size;have V:=pb b.o.1;omega))).bound;have n:=f.x (OnlyC.aR j T 1 (rv ((l.length:Int)+1))) (fun m q _ G=>by obtain⟨rfl,rfl⟩:=G;exact b.o.q.q.1 _);clear z c e g f;generalize j.setCell ⟨T,1,none⟩ (rv ((l.length:Int)+1))=d at v r n⊢;have c:=AM v r n;clear v r n
 rotate_left
 focus
  have c:=AM e g f;clear e g f;go_upto_region 9 with fail;obtain⟨d,e⟩:=rm (j);rw[<-e]at c⊢;have f:=al e;clear e
 all_goals
  obtain⟨am,ad,Et,H3,n,-,r,-⟩:=c.o.2.1.base;obtain⟨A3,c3,e,-⟩:=r.slice;rw[eS]at e;subst e;obtain⟨M,e⟩:=rl ((gY I x p o).ps.length);rw[e]at n;obtain⟨⟨z3,-⟩,-,-⟩:=ae n;obtain⟨⟨P,-,N⟩,-,tf⟩:=eO c.o.1;have f:=qU b.o.q.2.1 p b.o.d.1 (by rw[b.o.t.1];exact b.o.q.1);have O:=f.2.len.2;rw[e]at O;have g:=AI f e;clear f n r e;have io:(2:Int)<=(o:Int):=by have:=b.o.q.2.1;omega
  have ac:(o:Int)<=16:=by have:=b.o.q.d.1;omega
  have e:T<w.heap.size:=pb b.o.1;have f:=al e;clear e;by_cases E:2*o-1<M
  ·have i3:2*(o:Int)-1<(M:Int):=by omega
   have n:=al E;clear E O;go_quiet(fail)
   have e: ∀r v,World.cell? (((d.drewN nq).alloc r).alloc v) ⟨T,2,none⟩=some (r7 Q)/\World.frozen? (((d.drewN nq).alloc r).alloc v) ⟨T,2,none⟩=false:=fun r v=>by have hb:Below d.heap.size d (((d.drewN nq).alloc r).alloc v):=((aI (aw d.heap.size d) nq).alloc (b8 _) r).alloc (by simp) v;have U:=qS hb c.o.1;exact⟨(eO U).1.2.2,(eO U).2.2⟩
   have Wv:=e (sz Q) (vd (.slice (some ⟨d.heap.size,0,none⟩) 1 1));obtain⟨r,v⟩:=Wv;clear e;go_upto_region 11 with fail;clear r v;have e:Below d.heap.size d (d.drewN nq):=aI (aw _ _) nq;have A:(d.drewN nq).heap.size=d.heap.size:=rfl;generalize d.drewN nq=r at e A⊢;obtain⟨B,v⟩:=rk r (sz Q);have C:(r.alloc (sz Q)).heap.size=d.heap.size+1:=by simp[A]
   rw[A]at v;obtain⟨S,L⟩:=rl (d.heap.size);rw[L]at v C⊢;generalize r.alloc (sz Q)=r at v B C⊢;obtain⟨z,D⟩:=rk r (vd (.slice (some ⟨S,0,none⟩) 1 1));rw[C]at D;generalize r.alloc (vd (.slice (some ⟨S,0,none⟩) 1 1))=r at D z⊢;have R:Below d.heap.size d r:=(e.x (B.m e.size)).x (z.m (dp e.size B.size));have d:=AN L R (qS z v) D;clear e A v B C D z L R;have B:=Cr (qS d.o.2.1 c.o.1) (.pointer (some ⟨S+1,0,none⟩));obtain⟨⟨v,-,e⟩,-,-⟩:=eO B;have s:=ab v e;clear v e;have C:=((c.o.2.1.below d.o.2.1).Jp d.o.t d.o.d.1 (by omega) (fun q a=>by have:=a.2;have:=d.o.1;omega) (fun q a=>by have:=a.2;have:=d.o.1;omega)).only (OnlyC.aR r T 2 (.pointer (some ⟨S+1,0,none⟩))) (fun m q a G=>?_);rotate_left
   ·obtain⟨rfl,-⟩:=G;have v:=f.o;have L:=pb c.o.1;have A:=d.o.1;rcases a with a|a|a
    ·rcases a.1 with e|e
     ·exact b.o.q.q.2.1 _ e
     ·have:=i.o.d.size;omega
    ·omega
    ·omega
   have z:=AM C B (((c.o.d.x (o0 d.o.2.1 F) (fun _ _ _ H=>H)).x (OnlyC.aR r T 2 (.pointer (some ⟨S+1,0,none⟩))) (fun m q _ G=>by obtain⟨rfl,rfl⟩:=G;exact b.o.q.q.1 _)));clear C B;have R:(r.setCell ⟨T,2,none⟩ (.pointer (some ⟨S+1,0,none⟩))).heap.size=r.heap.size:=by simp[World.setCell]
   generalize (r.setCell ⟨T,2,none⟩ (.pointer (some ⟨S+1,0,none⟩)))=r at z s R⊢;refine pw (S:=(fun W=>W.cell? ⟨T,0,none⟩=some (rv o)/\W.cell? ⟨T,2,none⟩=some (.pointer (some ⟨S+1,0,none⟩)))) (by kernel_rfl) s (fun h=>?_);generalize D:World.drew r=C at h⊢;have B:Below r.heap.size r C:=D▸(aw _ _).drew;have r:=AI (z.o.1.below B) B;clear D s B;refine bq [0,1,2,3,4,5,6,7] ?_
   iterate 8 (refine ek (v:=?_) (fun _ ⟨J,X⟩=>?_) h ?_;rotate_left;(go_simp;try rfl);try simp only[xT])
   refine bt ?_;refine bC 8 (fun K y=>?_);go_simp;refine(xq C I (S+1) 0 o (.mk [] [gY I x p o]) (gY I x p o) _ r.o.1.bound (fun m q a=>a.2) rfl (dq _) (by simp) (by simp) (by rw[g.o.2];have:=n.o;have:=g.o.1.2.len.2;rw[g.o.2]at this;omega) (fun s=>by obtain⟨s,rfl⟩: ∃s,I=s+1:=⟨I-1,by omega⟩;have v:=g.o.1.2.kids;have L:=g.o.2;have A:=n.o;have e:=g.o.1.2.len.2;omega) b.o.q.2.1 b.o.q.d.1).m ?_;rintro G j ⟨rfl,B,C⟩;have s:=AI B C;clear B C
   try go_simp
   refine y.o _ _ (dB h s.o.2 (fun a=>by rcases a.1 with a|a|a;(· rcases a.1 with e|e;(· exact b.o.q.q.2.1 _ e);(· have:=i.o.d.size;have:=f.o;omega));(· have:=f.o;have:=pb c.o.1;have:=d.o.1;omega);(· have:=f.o;have:=pb c.o.1;have:=d.o.1;omega)) (fun a=>by rcases a.1 with a|a|a;(· rcases a.1 with e|e;(· exact b.o.q.q.2.1 _ e);(· have:=i.o.d.size;have:=f.o;omega));(· have:=f.o;have:=pb c.o.1;have:=d.o.1;omega);(· have:=f.o;have:=pb c.o.1;have:=d.o.1;omega))) ?_;clear y K h;intro h
   try simp only[xT]
   refine qe (by kernel_rfl) ?_ _;have D:=al (show World.cell? j ⟨T,0,none⟩=_/\_ from h);clear h;go_wp2_with fail
   go_ret3
   have C:fw I o (2*o) (2*o) (gY I x p o):=g.o.1.2.re (by rw[g.o.2];have:=n.o;omega) (by rw[g.o.2];have:=n.o;have:=g.o.1.2.len.2;rw[g.o.2]at this;omega);have y:=Ab b.o.q.2.1 C;have B:=s.o.2.heap (qS r.o.2 z.o.2.1) (fun q=>(fun a=>by rcases a.1 with a|a|a;(· rcases a.1 with e|e;(· exact b.o.q.q.2.1 _ e);(· have:=i.o.d.size;have:=f.o;omega));(· have:=f.o;have:=pb c.o.1;have:=d.o.1;omega);(· have:=f.o;have:=pb c.o.1;have:=d.o.1;omega)));have h:=vh (F:=F) (w:=w) b.o.q.1 b.o.q.2.1 b.o.q.d.1 b.o.q.q.1 f.o B (by rw[vq b.o.q.1,t.o.2];rfl) s.o.1 ?_ ?_ (by rw[ff (by omega)];exact y.2) (by rw[y.1,g.o.1.1,b.o.t.1])
   ·refine⟨by rw[<-t.o.1,<-t.o.2];rfl,h,(z.o.d.x (o0 r.o.2 F) (fun _ _ _ H=>H)).x s.o.2 (fun m q hb a=>?_)⟩;have v:=i.o.d.size;have L:=pb c.o.1;have A:=d.o.1;have e:=c.o.d.size;rcases a.1 with a|a|a
    ·rcases a.1 with k|k
     ·exact b.o.q.t.1 m q k
     ·omega
    ·omega
    ·omega
   ·intro m q a;have v:=i.o.d.size;have A:=d.o.1;have e:=c.o.d.size;have Z:=r.o.2.size;have V:=d.o.2.1.size;rcases a with a|a
    ·rcases a.1 with a|a|a
     ·rcases a.1 with k|k
      ·exact .inl (b.o.q.t.1 m q k)
      ·exact .inr (by omega)
     ·exact .inr (by omega)
     ·exact .inr (by omega)
    ·exact .inr (by omega)
   ·intro q a;rcases a with a|a
    ·exact(fun a=>by rcases a.1 with a|a|a;(· rcases a.1 with e|e;(· exact b.o.q.q.2.1 _ e);(· have:=i.o.d.size;have:=f.o;omega));(· have:=f.o;have:=pb c.o.1;have:=d.o.1;omega);(· have:=f.o;have:=pb c.o.1;have:=d.o.1;omega)) a
    ·have v:=f.o;have A:=d.o.1;have e:=c.o.d.size;have Z:=r.o.2.size;have V:=d.o.2.1.size;omega
  ·have i3: ¬2*(o:Int)-1<(M:Int):=by omega
   have n:=al E;clear E O;go_quiet(fail);go_wp2_with fail
   go_ret3
   have h:=vh (F:=F) (w:=w) b.o.q.1 b.o.q.2.1 b.o.q.d.1 b.o.q.q.1 f.o c.o.1 (by rw[vq b.o.q.1,t.o.2];rfl) c.o.2.1 (fun m q a=>a.1.elim (fun H=>.inl (b.o.q.t.1 m q H)) (fun H=>.inr (dp i.o.d.size H))) (fun q a=>a.1.elim (b.o.q.q.2.1 q) (fun H=>by have:=f.o;have:=i.o.d.size;omega)) (g.o.1.2.re g.o.1.2.len.1 (by rw[g.o.2];have:=n.o;omega)) (by rw[g.o.1.1,b.o.t.1]);exact⟨by rw[<-t.o.1,<-t.o.2];rfl,h.below (aI (aw _ _) _),c.o.d.drewN _⟩
theorem MX(n:Nat)(h:n<=100000):(True->wrap64 (n:Int)=(n:Int))/\(True->IntKind.i64.wrap (n:Int)=(n:Int)):=by rw[lP];unfold wrap64;exact⟨fun _=>by omega,fun _=>by omega⟩
theorem Eu{a b:ND}{s z:Pr}{m:Nat}(d:a.ps.length=m+1)(c:a.ps[m]?=some z):eo 0 a s b=(.mk (a.ps.take m) [],z,.mk (s::b.ps) []):=by show(ND.mk (a.ps.take (a.ps.length-1)) [],a.ps[a.ps.length-1]?.getD ([],[]),ND.mk (s::b.ps) [])=_;rw[d,oE,c];rfl
theorem rI{d:Nat}{a b c:ND}{s z:Pr}{m:Nat}(j:d≠0)(h:a.ps.length=m+1)(g:a.ps[m]?=some z)(f:a.ks.length=m+2)(i:a.ks[m+1]?=some c):eo d a s b=(.mk (a.ps.take m) (a.ks.take (m+1)),z,.mk (s::b.ps) (c::b.ks)):=by obtain⟨e,rfl⟩: ∃e,d=e+1:=⟨d-1,by omega⟩;show(ND.mk (a.ps.take (a.ps.length-1)) (a.ks.take (a.ks.length-1)),a.ps[a.ps.length-1]?.getD ([],[]),ND.mk (s::b.ps) (a.ks[a.ks.length-1]?.getD Dq::b.ks))=_;rw[h,oE,g,f,show m+2-1=m+1 by omega,i];rfl
theorem aH.fE{w:World}{b o n c i:Nat}{ps:List Pr}{F:Nat->Nat->Prop}(k v:List UInt8)(S:aH 2 220 w (.slice (some ⟨b,o,none⟩) n c) (ps.map aA) F)(hi:i<ps.length):
  aH 2 220 ((w.setCell ⟨b,o+i*2,none⟩ (sd k)).setCell ⟨b,o+i*2+1,none⟩ (sd v)) (.slice (some ⟨b,o,none⟩) n c) ((ps.take i++(k,v)::ps.drop (i+1)).map aA) F/\
   OnlyC F w ((w.setCell ⟨b,o+i*2,none⟩ (sd k)).setCell ⟨b,o+i*2+1,none⟩ (sd v)):=by
 obtain⟨B,M,P,x,e,m,H,L,u,y,q,p⟩:=S.lies (by simp;omega);simp only[eS,im,fj,nx,and_true]at e;obtain⟨⟨rfl,rfl⟩,rfl,rfl⟩:=e;rw[eS]at m;obtain⟨K,G,z,D,I⟩:=ct (t:=220) [sd k,sd v] (o+i*2) w x u (by simp;omega);have A:=bQ b [sd k,sd v] (o+i*2) w;constructor
 ·refine aH.rewritten G z y q (by simp;omega) m H (fun Q j=>by obtain⟨T,_,rfl⟩:=eh.1 j;rfl) (fun l J a=>?_)
  have g:(((ps.take i).map aA).flatten).length=i*2:=by rw[bL (k:=2) (fun Q j=>by obtain⟨T,_,rfl⟩:=List.mem_map.1 j;rfl)];simp;omega
  obtain⟨h,r⟩: ∃U,ps[i]?=some U:=⟨_,ao hi⟩;have s:ps=ps.take i++h::ps.drop (i+1):=dP r;have e:((ps.take i++(k,v)::ps.drop (i+1)).map aA).flatten=((ps.take i).map aA).flatten++(sd k:: sd v::((ps.drop (i+1)).map aA).flatten):=by simp[aA]
  have C:(ps.map aA).flatten=((ps.take i).map aA).flatten++(sd h.1:: sd h.2::((ps.drop (i+1)).map aA).flatten):=by
   conv=>lhs;rw[s]
   simp[aA]
  rw[e]at a;rw[C]at p;by_cases N:i*2<=l/\l<i*2+2
  ·rw[kb (by omega),g]at a
   have:=I (l-i*2) J (by
    obtain⟨t,d⟩:=rl (l-i*2);rw[d]at a⊢
    match t,d,a with
    |0,_,a=>simpa using a
    |1,_,a=>simpa using a
    |t+2,d,_=>omega)
   rw[show o+i*2+(l-i*2)=o+l by omega]at this;exact this
  ·rw[D (o+l) (by simp;omega)];refine p l J ?_;rw[List.getElem?_append]at a⊢;split
   ·rename_i f;rw[fi f]at a;exact a
   ·rename_i f;rw[ff f,g]at a;rw[g]at f⊢;obtain⟨t,d⟩:=rl (l-i*2);rw[d]at a⊢
    match t,d,a with
    |0,d,_=>omega
    |1,d,_=>omega
    |t+2,_,a=>simpa using a
 ·refine A.m (fun B V _ R=>?_);obtain⟨rfl,O,E⟩:=R;exact q _ (by omega) (by simp at E;omega)
theorem iw{W a:World}{F:Nat->Nat->Prop}{h e f b c d:Nat}{v1 v2 v3:Value}(l:W.cell? ⟨h,e,none⟩=some v1/\W.cell? ⟨f,b,none⟩=some v2/\W.cell? ⟨c,d,none⟩=some v3)(g:OnlyC F W a)(k: ¬F h e)(i: ¬F f b)(j: ¬F c d):a.cell? ⟨h,e,none⟩=some v1/\a.cell? ⟨f,b,none⟩=some v2/\a.cell? ⟨c,d,none⟩=some v3:=
 ⟨g.cell l.1 k,g.cell l.2.1 i,g.cell l.2.2 j⟩
theorem sV{W a:World}{e c d:Addr}{v1 v2 v3:Value}(h:W.cell? e=some v1/\W.cell? c=some v2/\W.cell? d=some v3)(b:Below W.heap.size W a):a.cell? e=some v1/\a.cell? c=some v2/\a.cell? d=some v3:=
 ⟨(b.cell (aq _ _ h.1)).x h.1,(b.cell (aq _ _ h.2.1)).x h.2.1,(b.cell (aq _ _ h.2.2)).x h.2.2⟩
theorem aH.ln{w:World}{b o n c i:Nat}{ps:List Pr}{F:Nat->Nat->Prop}{p:Pr}(m:aH 2 220 w (.slice (some ⟨b,o,none⟩) n c) (ps.map aA) F)(f:ps[i]?=some p):
  (w.cell? ⟨b,o+i*2,none⟩=some (sd p.1)/\w.cell? ⟨b,o+i*2+1,none⟩=some (sd p.2))/\w.frozen? ⟨b,o+i*2,none⟩=false/\w.frozen? ⟨b,o+i*2+1,none⟩=false:=by
 obtain⟨k,j,l,a,_,_,h,d,e,g⟩:=m.pair f;simp only[im,fj,nx,and_true]at a;obtain⟨⟨rfl,rfl⟩,rfl,rfl⟩:=a;exact⟨⟨h,d⟩,e,g⟩
theorem aH.Ev{w:World}{b o n c i p:Nat}{ps:List Nat}{F:Nat->Nat->Prop}(j:aH 1 169 w (.slice (some ⟨b,o,none⟩) n c) (ps.map aN) F)(e:ps[i]?=some p):w.cell? ⟨b,o+i,none⟩=some (r7 p):=by obtain⟨g,f,h,a,_,_,d⟩:=j.ptr e;simp only[im,fj,nx,and_true]at a;obtain⟨⟨rfl,rfl⟩,rfl,rfl⟩:=a;exact d
theorem aH.qI{w:World}{b o n c i:Nat}{ps:List Pr}{F:Nat->Nat->Prop}(r:aH 2 220 w (.slice (some ⟨b,o,none⟩) n c) (ps.map aA) F)(hi:i<ps.length):F b (o+i*2)/\F b (o+i*2+1):=by obtain⟨p,m,q,h,a,e,g,l,f,j,d,k⟩:=r.lies (by simp;omega);simp only[eS,im,fj,nx,and_true]at a;obtain⟨⟨rfl,rfl⟩,rfl,rfl⟩:=a;rw[eS]at e;exact⟨d _ (by omega) (by omega),d _ (by omega) (by omega)⟩
theorem aH.Ew{w:World}{b o n c i:Nat}{ps:List Nat}{F:Nat->Nat->Prop}(r:aH 1 169 w (.slice (some ⟨b,o,none⟩) n c) (ps.map aN) F)(hi:i<ps.length):F b (o+i):=by obtain⟨p,m,q,h,a,d,g,l,f,j,e,k⟩:=r.lies (by simp;omega);simp only[eS,im,fj,nx,and_true]at a;obtain⟨⟨rfl,rfl⟩,rfl,rfl⟩:=a;rw[eS]at d;exact e _ (by omega) (by omega)
theorem Ex(w:World)(d a i Z:Nat)(x:ND)(F:Nat->Nat->Prop)(P:aG w (d+1) a x F)(M: ∀b O,F b O->b<w.heap.size)(I:Z=i+1)(hi:i+1<x.ks.length)(am:x.ks.length=x.ps.length+1)(a':x.ps.length<=900)
  (aa:1<=(aT x i).ps.length) (Wp:(aT x i).ps.length<=900) (a9:(aT x (i+1)).ps.length<=900) (Y:d≠0->(aT x i).ks.length=(aT x i).ps.length+1) (a0:(aT x (i+1)).ks.length<=901):
  Calls prog 243 #[r7 a,rv Z] w fun N c=>N=.returned (.tuple #[])/\aG c (d+1) a (uC x i (eo d (aT x i) (gP x i) (aT x (i+1)))) (fun b O=>F b O\/w.heap.size<=b)/\OnlyC F w c:=by
 obtain⟨_,vp,vk,aC,H,e,_⟩:=P.open_;have K:=dA (x:=x) (i:=i) (by omega);have J:=dA (x:=x) (i:=i+1) (by omega);generalize f:aT x i=u at *;generalize c:aT x (i+1)=k at *;clear f c;obtain⟨l,t⟩: ∃y,aC[i]?=some y:=⟨_,ao (by rw[e.2.2.2.2.1];omega)⟩;obtain⟨r,B⟩: ∃y,aC[i+1]?=some y:=⟨_,ao (by rw[e.2.2.2.2.1];omega)⟩;obtain⟨ow,vl,ul,X,Hl,g,T⟩:=(show aG w d l u (H (i+3))from e.2.2.2.2.2.1 i l u t K).open_;obtain⟨Q,vr,ur,pr,Hr,f,Ra⟩:=(show aG w d r k (H (i+4))from e.2.2.2.2.2.1 (i+1) r k B J).open_;have G:=bE.start e M g f;obtain⟨s,q⟩: ∃p,x.ps[i]?=some p:=⟨_,ao (by omega)⟩;have Ey:gP x i=s:=by unfold gP;rw[q];rfl
 rw[Ey];obtain⟨m,A⟩: ∃m,u.ps.length=m+1:=⟨u.ps.length-1,by omega⟩;obtain⟨z,L⟩: ∃p,u.ps[m]?=some p:=⟨_,ao (by omega)⟩;obtain⟨bn,on,cn,v,-,-,R,V,-⟩:=e.2.2.1.pair q;subst v;obtain⟨bl,ol,cl,v,-,-,-⟩:=g.2.2.1.pair L;subst v;obtain⟨Ar,cr,v,-⟩:=f.2.2.1.slice;rw[eS]at v;subst v;obtain⟨bk,ok,ck,v,-,-,r1⟩:=e.2.2.2.1.ptr t;obtain⟨a7,a8,a6,Re,-,-,U⟩:=e.2.2.2.1.ptr B;subst v;simp only[im,fj,nx,and_true,true_and]at Re;obtain⟨⟨rfl,rfl⟩,rfl⟩:=Re;obtain⟨Al,UX,v,-⟩:=g.2.2.2.1.slice;rw[eS]at v;subst v;obtain⟨YT,Rg,v,-⟩:=f.2.2.2.1.slice;rw[eS]at v;subst v;obtain⟨np,y⟩:=rl (x.ps.length);obtain⟨nr,E⟩:=rl (k.ps.length);obtain⟨nk,C⟩:=rl (aC.length);obtain⟨Ez,S⟩:=rl (X.length);obtain⟨Ct,o⟩:=rl (pr.length);obtain⟨nl,n⟩:=rl (u.ps.length);have iG:=e.2.2.2.2.1;have UY:=g.2.2.2.2.1;have W:=f.2.2.2.2.1;rw[y,C]at e;rw[n,S]at g;rw[E,o]at f;rw[y,C,n,S,E,o]at G;have tY:=(e.2.2.1.qI (i:=i) (by omega));have h:=DE e M g T f Ra t B K J q L ow Q;have j:=al (show np=x.ps.length/\nr=k.ps.length/\nk=aC.length/\Ez=X.length/\Ct=pr.length/\nl=u.ps.length/\u.ps.length=m+1/\aC.length=x.ks.length/\X.length=u.ks.length/\pr.length=k.ks.length/\i+1<x.ks.length/\x.ks.length=x.ps.length+1/\Z=i+1/\(d≠0->u.ks.length=u.ps.length+1)from⟨y.symm,E.symm,C.symm,S.symm,o.symm,n.symm,A,iG,UY,W,hi,am,I,Y⟩);have c:=al G;have HP:=al tY;obtain⟨⟨D,YU⟩,-,-⟩:=ae G.lH.1;have j1:(Z:Int)-1=(i:Int):=by omega
 have j2:(0:Int)<=(i:Int):=by omega
 have j3:(i:Int)<(nk:Int):=by omega
 have j4:(Z:Int)<(nk:Int):=by omega
 have j5:(0:Int)<=(Z:Int):=by omega
 have j6:(i:Int)<(np:Int):=by omega
 have j7:(nl:Int)-1=(m:Int):=by omega
 have j8:(0:Int)<=(m:Int):=by omega
 have j9:(m:Int)<(nl:Int):=by omega
 have a5:nl<=900:=by omega
 obtain⟨a1,a2⟩:=MX i (by omega);obtain⟨ap,a4⟩:=MX m (by omega);have ac:w.cell? ⟨bk,ok+Z,none⟩=some (r7 r):=by rw[I];exact U
 clear U P e M g T f Ra t B K J G q L A y E C S o n iG UY W tY I Ey aa Y ow Q;go_enter func243,ntmps243;go_wp2_with fail;go_quiet(fail);go_upto_region 1 with fail;have e:Below w.heap.size w (w.drewN nq):=aI (aw _ _) nq;generalize w.drewN nq=n at e⊢;have f:=(e.cell (aq _ _ R)).x R;have g:=(e.cell (aq _ _ V)).x V;have c:=al (c.o.below e);clear D YU r1 ac R V e;obtain⟨⟨e,-⟩,-,-⟩:=ae c.o.fJ.1;go_upto_region 2 with fail;clear e;obtain⟨⟨D,-⟩,-,-⟩:=ae c.o.lH.1;have U:=yk D f g;clear D f g;refine pw (S:=(fun W=>W.cell? ⟨a,0,none⟩=some (.slice (some ⟨bn,on,none⟩) np cn)/\W.cell? ⟨bn,on+i*2,none⟩=some (sd s.1)/\W.cell? ⟨bn,on+i*2+1,none⟩=some (sd s.2))) (by kernel_rfl) U (fun e=>?_);generalize Q:World.drew n=o at e⊢;have c:=al (c.o.below (w1:=o) (Q▸(aw _ _).drew));clear Q U;refine bq [0,1,2,3,5,6,7,8,9,10,11,12] ?_
 iterate 12 (refine ek (v:=?_) (fun _ ⟨R,V,J⟩=>?_) e ?_;rotate_left;(go_simp;try rfl);try simp only[xT])
 refine bt ?_;refine qn (rs:=[4,13]) (by kernel_rfl) (by simp) (dw (i:=4) rfl (fun L f=>?_) (dw (i:=13) rfl (fun L f=>?_) pt))
 focus
  obtain⟨⟨I,-⟩,-,-⟩:=ae c.o.gZ.1;go_simp;refine f.o _ _ (e) ?_;clear f L e I;intro e
  try simp only[xT]
  refine bC 13 (fun L f=>?_);go_simp;refine f.o _ _ (sV e (af _ _)) ?_;clear f L e;intro e
  try simp only[xT]
  obtain⟨B,q⟩:=rk o (so s.1.toArray s.2.toArray);have y: ∀O,¬Hr 1 o.heap.size O:=fun O g=>Nat.lt_irrefl _ (c.o.ZG g);generalize o.alloc (so s.1.toArray s.2.toArray)=W5 at q B e⊢;obtain⟨VB,D⟩:=rl (o.heap.size);rw[D]at q y⊢;have M:=AI q y;have c:=al (c.o.below B);clear q B D y
 rotate_left
 focus
  go_simp;refine f.o _ _ (sV e (af _ _)) ?_;clear f L e;intro e
  try simp only[xT]
  obtain⟨B,q⟩:=rk o (so s.1.toArray s.2.toArray);have y: ∀O,¬Hr 1 o.heap.size O:=fun O g=>Nat.lt_irrefl _ (c.o.ZG g);generalize o.alloc (so s.1.toArray s.2.toArray)=W5 at q B e⊢;obtain⟨VB,D⟩:=rl (o.heap.size);rw[D]at q y⊢;have M:=AI q y;have c:=al (c.o.below B);clear q B D y;refine bC 4 (fun L f=>?_);obtain⟨⟨I,-⟩,-,-⟩:=ae c.o.gZ.1;go_simp;refine f.o _ _ (e) ?_;clear f L e I;intro e
  try simp only[xT]
 all_goals
  refine bC 14 (fun L f=>?_);go_simp;refine(jn W5 (Hr 1) _ (k.ps.map aA) 0 _ rfl (aA s) VB c.o.gZ.2.1 (dq _) (by rw[eS];omega) (by rfl) (by simp[aA,Value.oneCell']) (dH _) M.o.1 M.o.2).m ?_;rintro N wn ⟨v6,rfl,G,eV⟩;rw[eI]at G;simp only[kn,fm,List.drop_zero]at G;obtain⟨A6,n,fM,-⟩:=G.slice;obtain⟨n6,fB⟩:=rl (((s::k.ps).map aA).length);rw[fB]at fM;subst fM;clear fB;have E:=AI G eV;clear G eV
  try go_simp
  refine f.o _ _ (iw e E.o.2 (fun g=>c.o.ZF g rfl) (fun g=>c.o.tL HP.o.1 g) (fun g=>c.o.tL HP.o.2 g)) ?_;clear f L e;intro e
  try simp only[xT]
  refine bq [15,16] ?_
  iterate 2 (refine ek (v:=?_) (fun _ ⟨R,V,J⟩=>?_) e ?_;rotate_left;(go_simp;try rfl);try simp only[xT])
  refine bt ?_;refine bC 17 (fun L f=>?_);obtain⟨⟨I,-⟩,rf,-⟩:=ae (E.o.2.heap c.o.gZ.1 (fun O g=>c.o.RX g rfl));go_simp;refine f.o _ _ (iw e (OnlyC.aR _ r 0 _) (fun N=>c.o.e02 N.1) (fun N=>c.o.KL HP.o.1 N.1) (fun N=>c.o.KL HP.o.2 N.1)) ?_;clear f L e I rf;intro e
  try simp only[xT]
  refine qe (by kernel_rfl) ?_ _;have dM:=c.o.p2 (aw _ _) E.o.2 E.o.1;clear e;generalize wn.setCell ⟨r,0,none⟩ (.slice A6 n6 n)=T at dM⊢;have c:=al dM;clear dM M E;obtain⟨t,K⟩:=(c.o.fJ.2.1.ln h.o.q.q.t.1).1;obtain⟨⟨c1,-⟩,-,-⟩:=ae c.o.lH.1;obtain⟨⟨C,-⟩,-,-⟩:=ae c.o.fJ.1;have U:=yv c1 C t K;clear c1 C t K;have t:=al (c.o.fJ.2.1.qI (i:=m) (by have:=j.o.q.d.1;omega));go_upto_region 3 with fail;refine pw (S:=(fun W=>W.cell? ⟨a,0,none⟩=some (.slice (some ⟨bn,on,none⟩) np cn)/\W.cell? ⟨l,0,none⟩=some (.slice (some ⟨bl,ol,none⟩) nl cl)/\W.cell? ⟨bl,ol+m*2,none⟩=some (sd z.1)/\W.cell? ⟨bl,ol+m*2+1,none⟩=some (sd z.2))) (by kernel_rfl) U (fun e=>?_);generalize Q:World.drew T=o at e⊢;have c:=al (c.o.below (w1:=o) (Q▸(aw _ _).drew));clear Q U;refine bq [0,1,2,3,4,5,6,7,8,9,10,11,12,13] ?_
  iterate 14 (refine ek (v:=?_) (fun _ ⟨R,V,J,K⟩=>?_) e ?_;rotate_left;(go_simp;try rfl);try simp only[xT])
  refine bt ?_;refine bC 14 (fun L f=>?_);obtain⟨⟨K,n⟩,J,T⟩:=c.o.lH.2.1.ln h.o.q.q.d.1;go_simp;refine f.o _ _ (xt e (c.o.lH.2.1.fE (i:=i) z.1 z.2 (by have:=j.o.q.q.d.1;have:=j.o.q.q.t.1;omega)).2 (fun g=>c.o.KJ g rfl) (fun g=>c.o.yJ g rfl) (fun g=>c.o.nO g t.o.1) (fun g=>c.o.nO g t.o.2)) ?_;clear f L e K n J T;intro e
  try simp only[xT]
  refine qe (by kernel_rfl) ?_ _;have n:=c.o.i0 (c.o.lH.2.1.fE (i:=i) z.1 z.2 (by have:=j.o.q.q.d.1;have:=j.o.q.q.t.1;omega)).2 (c.o.lH.2.1.fE (i:=i) z.1 z.2 (by have:=j.o.q.q.d.1;have:=j.o.q.q.t.1;omega)).1;clear e;generalize (o.setCell ⟨bn,on+i*2,none⟩ (sd z.1)).setCell ⟨bn,on+i*2+1,none⟩ (sd z.2)=J at n⊢;have c:=al n;clear n t;obtain⟨⟨C,-⟩,-,-⟩:=ae c.o.fJ.1;go_wp2_with fail;refine(lT J (Hl 1) _ (u.ps.map aA) m _ _ rfl (by simp) c.o.fJ.2.1 (by rw[eS];have:=j.o.q.d.1;omega) (by rw[eS];omega) (dH _)).m ?_;rintro N w9 ⟨v9,rfl,J,ez⟩;rw[<-mc,<-lr,<-ix]at J;have n:u.ps.drop (m+1)=[]:=eM (by have:=j.o.q.d.1;omega);rw[n,gr]at J;obtain⟨A9,c9,gD,-⟩:=J.slice;obtain⟨n9,fY⟩:=rl (((u.ps.take m).map aA).length);rw[fY]at gD;subst gD;clear fY n C;have T:=AI J ez;clear J ez;obtain⟨⟨C,-⟩,f2,-⟩:=ae (T.o.2.heap c.o.fJ.1 (fun O g=>c.o.DW g rfl));go_upto_region 5 with fail;clear C f2;have n:=c.o.p1 (aw _ _) T.o.2 (T.o.1.m (fun b O g=>.inl g));generalize w9.setCell ⟨l,0,none⟩ (.slice A9 n9 c9)=wA at n⊢;have c:=al n;clear n T;obtain⟨⟨-,C⟩,-,-⟩:=ae c.o.fJ.1;by_cases hd:d=0
  ·subst hd;have n:u.ks=[]:=h.o.q.q.q.1 rfl;have K:k.ks=[]:=h.o.q.q.q.2 rfl;have ed:Ez=0:=by rw[j.o.t.1,j.o.q.q.1,n];rfl
   subst ed;have jC:=al (dO wA l UX Al C);have HE:=AI n K;clear C n K;go_wp2_with fail;refine jC.o.m ?_;rintro N wZ ⟨rfl,G6⟩;subst G6;go_wp2_with fail
   first|refine et (du rfl _ _ _) rfl ?_|refine dj (du rfl _ _ _) rfl ?_
   obtain⟨n,K⟩:=HE.o;have hE:=gM h.o.1 h.o.2.1 (by have:=j.o.q.q.d.1;omega) h.o.d.1 h.o.t.1 h.o.q.1 h.o.q.2.1 c.o 0 0 (b8 _) (dq _) [] (fun _ _ _=>False) 0 0 (b8 _) (dq _) [] (fun _ _ _=>False) rfl h.o.q.d.1 h.o.q.t.1 (by simp) (by simp) (fun _ _ _ P=>P.elim) (fun _ _ _ P=>P.elim) (fun _ _ _ _ P=>P.elim) (fun _ _ _ _ P=>P.elim) (fun m p k A=>by simp at A) (fun m p k A=>by simp at A) (by simp[n]) (by simp[K]);rw[Eu j.o.q.d.1 h.o.q.q.t.1];refine⟨rfl,?_,hE.2⟩;have t:=hE.1;simp only[n,K,List.take_nil,List.drop_nil,kh,gr]at t;exact t
  ·have Y:=j.o.q.q.q.2 hd;obtain⟨n,jT⟩:=rm (m+1);have xy:X.length=n+1:=by have:=j.o.q.q.1;have:=j.o.q.d.1;omega
   obtain⟨K,aa⟩: ∃p,X[n]?=some p:=⟨_,ao (by omega)⟩;obtain⟨k0,ed⟩: ∃p,u.ks[n]?=some p:=⟨_,ao (by have:=j.o.q.q.1;omega)⟩;have Cu:=c.o;obtain⟨ac,ad,a3,v,-,-,-⟩:=Cu.fJ.2.2.ptr aa;simp only[im]at v;obtain⟨rfl,-,rfl⟩:=v;have S:Ez=n+1:=by rw[j.o.t.1];exact xy
   have jC:=al (fk wA l Ez UX _ (by omega) C);have c:=al Cu;have HM:=BE jT xy aa ed Y S (Cu.fJ.2.2.Ew (i:=n) (by omega));have q1:(m:Int)+1=(n:Int):=by omega
   have q2:n<=901:=by have:=j.o.q.d.1;omega
   obtain⟨q3,q4⟩:=MX n (by omega);have q5:(0:Int)<=(n:Int):=by omega
   have q6:(n:Int)<(Ez:Int):=by omega
   have q7:Ez<=902:=by omega
   clear Cu jT xy aa ed Y S hd C;go_wp2_with fail;refine jC.o.m ?_;rintro N wZ ⟨rfl,G6⟩;subst G6;clear jC;obtain⟨⟨-,c1⟩,-,-⟩:=ae c.o.fJ.1;have U:=ab c1 (c.o.fJ.2.2.Ev HM.o.d.1);clear c1;go_upto_region 6 with fail;refine pw (S:=(fun W=>W.cell? ⟨l,1,none⟩=some (.slice (some ⟨ac,ad,none⟩) Ez UX)/\W.cell? ⟨ac,ad+n,none⟩=some (r7 K))) (by kernel_rfl) U (fun e=>?_);generalize Q:World.drew wA=o at e⊢;have c:=al (c.o.below (w1:=o) (Q▸(aw _ _).drew));clear Q U;refine bq [0,1,2,3,5,6,7,8,9,10,11,12] ?_
   iterate 12 (refine ek (v:=?_) (fun _ ⟨R,V⟩=>?_) e ?_;rotate_left;(go_simp;try rfl);try simp only[xT])
   refine bt ?_;refine qn (rs:=[4,13]) (by kernel_rfl) (by simp) (dw (i:=4) rfl (fun L f=>?_) (dw (i:=13) rfl (fun L f=>?_) pt))
   focus
    obtain⟨⟨-,I⟩,-,-⟩:=ae c.o.gZ.1;go_simp;refine f.o _ _ (e) ?_;clear f L e I;intro e
    try simp only[xT]
    refine bC 13 (fun L f=>?_);go_simp;refine f.o _ _ (l7 e (af _ _)) ?_;clear f L e;intro e
    try simp only[xT]
    obtain⟨B,q⟩:=rk o (sz K);have y: ∀O,¬Hr 2 o.heap.size O:=fun O g=>Nat.lt_irrefl _ (c.o.RY g);generalize o.alloc (sz K)=W5 at q B e⊢;obtain⟨VB,D⟩:=rl (o.heap.size);rw[D]at q y⊢;have M:=AI q y;have c:=al (c.o.below B);clear q B D y
   rotate_left
   focus
    go_simp;refine f.o _ _ (l7 e (af _ _)) ?_;clear f L e;intro e
    try simp only[xT]
    obtain⟨B,q⟩:=rk o (sz K);have y: ∀O,¬Hr 2 o.heap.size O:=fun O g=>Nat.lt_irrefl _ (c.o.RY g);generalize o.alloc (sz K)=W5 at q B e⊢;obtain⟨VB,D⟩:=rl (o.heap.size);rw[D]at q y⊢;have M:=AI q y;have c:=al (c.o.below B);clear q B D y;refine bC 4 (fun L f=>?_);obtain⟨⟨-,I⟩,-,-⟩:=ae c.o.gZ.1;go_simp;refine f.o _ _ (e) ?_;clear f L e I;intro e
    try simp only[xT]
   all_goals
    refine bC 14 (fun L f=>?_);go_simp;refine(jo W5 (Hr 2) _ (pr.map aN) 0 _ rfl (aN K) VB c.o.gZ.2.2 (dq _) (by rw[eS];have:=j.o.q.q.2.1;omega) (by rfl) (by simp[aN,Value.oneCell']) (b7 _) M.o.1 M.o.2).m ?_;rintro N wn ⟨v6,rfl,G,eV⟩;rw[eI]at G;simp only[kn,fm,List.drop_zero]at G;obtain⟨B,y,fM,-⟩:=G.slice;obtain⟨D,fB⟩:=rl (((K::pr).map aN).length);rw[fB]at fM;subst fM;clear fB;have E:=AI G eV;clear G eV
    try go_simp
    refine f.o _ _ (dB e E.o.2 (fun g=>c.o.DX g rfl) (fun g=>c.o.tM HM.o.q.d g)) ?_;clear f L e;intro e
    try simp only[xT]
    refine bq [15,16] ?_
    iterate 2 (refine ek (v:=?_) (fun _ ⟨R,V⟩=>?_) e ?_;rotate_left;(go_simp;try rfl);try simp only[xT])
    refine bt ?_;refine bC 17 (fun L f=>?_);obtain⟨⟨-,I⟩,-,rf⟩:=ae (E.o.2.heap c.o.gZ.1 (fun O g=>c.o.DY g rfl));go_simp;refine f.o _ _ (dB e (OnlyC.aR _ r 1 _) (fun N=>c.o.e12 N.1) (fun N=>c.o.yL HM.o.q.d N.1)) ?_;clear f L e I rf;intro e
    try simp only[xT]
    refine qe (by kernel_rfl) ?_ _;have dM:=c.o.k2 (aw _ _) E.o.2 E.o.1;clear e;generalize wn.setCell ⟨r,1,none⟩ (.slice B D y)=e at dM⊢;have c:=al dM;clear dM M E;obtain⟨⟨-,C⟩,-,-⟩:=ae c.o.fJ.1;go_wp2_with fail;refine(ji e (Hl 2) _ (X.map aN) n _ _ (by simp) (by omega) c.o.fJ.2.2 (by rw[eS];have:=HM.o.2.1;omega) (by rw[eS];have:=HM.o.2.1;omega) (b7 _)).m ?_;rintro N w9 ⟨v9,rfl,J,ez⟩;rw[<-mc,<-lr,<-ix]at J;obtain⟨I,G,gD,-⟩:=J.slice;obtain⟨L,fY⟩:=rl (((X.take n++X.drop (n+1)).map aN).length);rw[fY]at gD;subst gD;clear fY C;have T:=AI J ez;clear J ez;obtain⟨⟨-,C⟩,-,f2⟩:=ae (T.o.2.heap c.o.fJ.1 (fun O g=>c.o.yK g rfl));go_wp2_with fail
    first|refine et (du rfl _ _ _) rfl ?_|refine dj (du rfl _ _ _) rfl ?_
    have q:=c.o.k1 (aw _ _) T.o.2 (T.o.1.m (fun b O g=>.inl g));obtain⟨jT,xy,aa,ed,Y,S,-⟩:=HM.o;have e:u.ks.length=n+1:=by rw[Y,j.o.q.d.1,jT]
    have o:bX w d K k0 (Hl (n+3)):=(h.o.d.1).2.2.2.2.2.1 n K k0 aa ed
    have hE:=gM h.o.1 h.o.2.1 (by have:=j.o.q.q.d.1;omega) h.o.d.1 h.o.t.1 h.o.q.1 h.o.q.2.1 q n (n+1) (by omega) (by omega) [] (fun _ _ _=>False) 0 0 (b8 _) (dq _) [(K,k0)] (rh (Hl (n+3)) (fun _ _=>False)) rfl h.o.q.d.1 h.o.q.t.1 (by simp) (by simp) (fun _ _ _ P=>P.elim) (fun f b O P=>match f,P with|0,P=>⟨n,b8 _,by omega,P⟩|1,P=>P.elim|_+2,P=>P.elim) (fun _ _ _ _ P=>P.elim)
     (fun f E b O t g=>by
      match f,t,E,g with
      |0,_,0,_=>rfl
      |1,t,_,_=>exact t.elim
      |_+2,t,_,_=>exact t.elim
      |0,_,1,g=>exact g.elim
      |0,_,_+2,g=>exact g.elim)
     (fun f p k A=>by simp at A)
     (fun f p k A=>by
      match f,A with
      |0,A=>simp only[iS,fj,me]at A;obtain⟨rfl,rfl⟩:=A;exact o
      |f+1,A=>simp at A)
     (fun N=>by have t:=h.o.q.q.q.1 N;rw[t]at e;simp at e) (fun N=>by have t:=h.o.q.q.q.1 N;rw[t]at e;simp at e)
    have b:d≠0:=fun N=>by have t:=h.o.q.q.q.1 N;rw[t]at e;simp at e
    rw[rI b j.o.q.d.1 h.o.q.q.t.1 (by rw[e,jT]) (jT▸ed)];refine⟨rfl,?_,hE.2⟩;have t:=hE.1;have f:u.ks.drop (n+1)=[]:=eM (by omega);simp only[f,kn,List.drop_zero,kh,lx,gr,fm,nh]at t;rw[jT]at t;exact t
end Go.Proofs.YtehccbdajiiaaaaGreatDoor
