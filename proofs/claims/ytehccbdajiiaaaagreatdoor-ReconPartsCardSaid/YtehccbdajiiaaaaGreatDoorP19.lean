import Derived.Test.YtehccbdajiiaaaaGreatDoorP18
namespace Go.Proofs.YtehccbdajiiaaaaGreatDoor
open Go.Proofs.Tryz
set_option maxRecDepth 100000
set_option maxHeartbeats 16000000
open Go.RowKit
theorem aZ.rK{w:World}{d a c g n m:Nat}{x:ND}{F:Nat->Nat->Prop}{k:Value}{h:List Nat}{H:Nat->Nat->Nat->Prop}(q:aZ w (aG w d) a x F k (.slice (some ⟨c,g,none⟩) n m) h H){j:Nat}(b:j<x.ks.length):
  ∃p A o,w.cell? ⟨c,g+j,none⟩=some (r7 p)/\w.cell? ⟨p,0,none⟩=some (.slice A (aT x j).ps.length o):=by
 obtain⟨p,e⟩: ∃y,h[j]?=some y:=⟨_,ao (by rw[q.2.2.2.2.1];exact b)⟩;have l:=q.2.2.2.2.2.1 j p (aT x j) e (dA b);obtain⟨s,r,t,u,f,-,i,-⟩:=aG.base l;obtain⟨A,o,rfl,-⟩:=i.slice;rw[eS]at f;exact⟨p,A,o,q.2.2.2.1.Ev e,(ae f).1.1⟩
theorem Cv(w:World)(d a i o lo hi:Nat)(x:ND)(F:Nat->Nat->Prop)(W:aG w (d+1) a x F)(z: ∀A D,F A D->A<w.heap.size)(c:vM d o i lo hi x)(r:1<=lo)(s:hi<=900)(f:2<=o)(cN:o<=16):
  Calls prog 216 #[r7 a,rv i,rv o] w fun P b=>P=.returned (.tuple #[])/\aG b (d+1) a (jJ d x i o) (fun A D=>F A D\/w.heap.size<=A)/\OnlyC F w b:=by
 have B:=c.1;have n:=c.2.1;have p:=c.2.2.1;have g:=c.2.2.2.1;have y:=c.2.2.2.2.2
 have m: ∀j,j<x.ks.length->(aT x j).ps.length<=900/\(aT x j).ks.length<=901/\(d≠0->(aT x j).ks.length=(aT x j).ps.length+1):=by
  intro j q
  have l: ∃h e,fw d o h e (aT x j)/\e<=900:=by
   by_cases P:j=i
   ·subst P;exact⟨_,_,y,by omega⟩
   ·exact⟨_,_,c.kid P q,by omega⟩
  obtain⟨h,e,b,t⟩:=l;have u:=b.len;refine⟨by omega,?_,fun O=>?_⟩
  ·cases d with
   |zero=>rw[b.none];simp
   |succ d=>rw[b.kids];omega
  ·obtain⟨k,rfl⟩: ∃k,d=k+1:=⟨d-1,by omega⟩;exact b.kids
 have u:=W;obtain⟨_,vp,vk,Y,H,e,_⟩:=W.open_;obtain⟨l0,q⟩: ∃G,Y[i]?=some G:=⟨_,ao (by rw[e.2.2.2.2.1];exact g)⟩;obtain⟨bk,ok,ck,b,-,-,-⟩:=e.2.2.2.1.ptr q;subst b;obtain⟨t,v⟩:=rl (Y.length);have k:=e.2.2.2.2.1;rw[v]at e k;obtain⟨⟨-,YU⟩,-,-⟩:=ae e.1;obtain⟨p0,A0,c0,k0,k1⟩:=aZ.rK e (j:=i) g;obtain⟨R,h⟩:=rl ((aT x i).ps.length);rw[h]at k1;obtain⟨E,j⟩: ∃E,o=E+1:=⟨o-1,by omega⟩;have b:=Cd u z e g p h j m c n s;have j0:(o:Int)-1=(E:Int):=by omega
 have j2:(0:Int)<=(i:Int):=by omega
 have j3:(i:Int)<(t:Int):=by omega
 obtain⟨y1,y2⟩:=MX E (by omega);have ac:t<=901:=by omega
 have C:t=x.ks.length:=k;have l:=m i g;have aa:=al r;clear u z e p m y c B n W q k v r s;by_cases c:E<=R
 ·have q1:(E:Int)<=(R:Int):=by omega
  have X:=al c;clear g j h C l c;go_enter func216,ntmps216;go_wp2_with fail
  first|refine et (du rfl _ _ _) rfl ?_|refine dj (du rfl _ _ _) rfl ?_
  have e:jJ d x i o=x:=by unfold jJ;rw[fi (by have:=b.o.q.2.1;have:=b.o.q.d.1;have:=X.o;omega)]
  rw[e];exact⟨rfl,b.o.1.m (fun A D g=>.inl g),OnlyC.refl _ _⟩
 ·have q1: ¬(E:Int)<=(R:Int):=by omega
  have X:=al c;have k:=b.o.q.d.1;have g:=b.o.q.2.1
  have e:jJ d x i o=if 0<i/\o-1<(aT x (i-1)).ps.length then uC x (i-1) (eo d (aT x (i-1)) (gP x (i-1)) (aT x i))
    else if i+1<x.ks.length/\o-1<(aT x (i+1)).ps.length then uC x i (gq d (aT x i) (gP x i) (aT x (i+1)))
    else if 0<i then uD x (i-1) (lR (aT x (i-1)) (gP x (i-1)) (aT x i))else uD x i (lR (aT x i) (gP x i) (aT x (i+1))):=by
   conv=>lhs;unfold jJ
   rw[ff (by omega)]
  have B:=al e;clear j h k g c e;by_cases s:0<i
  ·obtain⟨e,I⟩: ∃G,i=G+1:=⟨i-1,by omega⟩;obtain⟨p2,A2,c2,k2,k3⟩:=aZ.rK b.o.d.1 (j:=e) (by omega);obtain⟨T,y⟩:=rl ((aT x e).ps.length);rw[y]at k3;have q2:(0:Int)<(i:Int):=by omega
   have q3:(i:Int)-1=(e:Int):=by omega
   have q4:(0:Int)<=(e:Int):=by omega
   have q5:(e:Int)<(t:Int):=by omega
   obtain⟨y3,y4⟩:=MX e (by omega);have c:=AI I y;have A:=b.o.q.t.1 e (by omega);by_cases k:E<T
   ·have q6:(E:Int)<(T:Int):=by omega
    have Q:=al k;clear y I k s;go_enter func216,ntmps216;go_wp2_with fail;have j:=al (Ex w d a e i x F b.o.1 b.o.2.1 c.o.1 (by have:=c.o.1;omega) b.o.q.1 (by have:=b.o.q.q.2.1;have:=b.o.q.q.d;omega) (by have:=c.o.2;have:=Q.o;omega) A.1 (by rw[show e+1=i from c.o.1.symm];exact l.1) A.2.2 (by rw[show e+1=i from c.o.1.symm];exact l.2.1));refine j.o.m ?_;rintro P M ⟨rfl,h,f⟩;have g:=AI h f;clear h f j;go_wp2_with fail
    first|refine et (du rfl _ _ _) rfl ?_|refine dj (du rfl _ _ _) rfl ?_
    rw[B.o,fi ⟨by have:=c.o.1;omega,by rw[show i-1=e by have:=c.o.1;omega];have:=c.o.2;have:=Q.o;have:=b.o.q.d.1;omega⟩,show i-1=e by have:=c.o.1;omega];have n:=g.o.1;rw[show e+1=i from c.o.1.symm]at n;exact⟨rfl,n,g.o.2⟩
   ·have q6: ¬(E:Int)<(T:Int):=by omega
    have Q:=al k
    have G: ¬(0<i/\o-1<(aT x (i-1)).ps.length):=by rintro⟨_,D⟩;rw[show i-1=e by omega,y]at D;have:=b.o.q.d.1;omega
    have C:=al G;clear k G;obtain⟨q,p⟩:=rm (i+1);have q7:(i:Int)+1=(q:Int):=by omega
    obtain⟨y5,y6⟩:=MX q (by omega);have q8:(0:Int)<=(q:Int):=by omega
    by_cases k:i+1<x.ks.length
    ·obtain⟨p3,A3,c3,V,U⟩:=aZ.rK b.o.d.1 (j:=i+1) k;rw[<-p]at V;obtain⟨v,m⟩:=rl ((aT x (i+1)).ps.length);rw[m]at U;have Z:(q:Int)<(t:Int):=by omega
     have r:=b.o.q.t.1 (i+1) k;have z:=k;have L:=AI m p;by_cases u:E<v
     ·have S:(E:Int)<(v:Int):=by omega
      have K:=al u;clear y I s;clear m u k p;go_enter func216,ntmps216;go_wp2_with fail;have j:=al (rJ w d a i x F b.o.1 b.o.2.1 z b.o.q.1 (by have:=b.o.q.q.2.1;have:=b.o.q.q.d;omega) (by have:=L.o.1;have:=K.o;omega) l.1 r.1 (fun O=>by have:=r.2.2 O;omega) l.2.1 r.2.1);refine j.o.m ?_;rintro P M ⟨rfl,h,f⟩;have g:=AI h f;clear h f j;go_wp2_with fail
      first|refine et (du rfl _ _ _) rfl ?_|refine dj (du rfl _ _ _) rfl ?_
      rw[B.o,ff C.o,fi ⟨z,by have:=L.o.1;have:=K.o;have:=b.o.q.d.1;omega⟩];exact⟨rfl,g.o.1,g.o.2⟩
     ·have S: ¬(E:Int)<(v:Int):=by omega
      have N: ¬(i+1<x.ks.length/\o-1<(aT x (i+1)).ps.length):=by rintro⟨_,D⟩;rw[m]at D;have:=b.o.q.d.1;omega
      have J:=al N;clear y I s;clear m u k p N;go_enter func216,ntmps216;go_wp2_with fail;have j:=al (oN w d a e x F b.o.1 b.o.2.1 (by have:=c.o.1;omega) b.o.q.1 (by have:=b.o.q.q.2.1;have:=b.o.q.q.d;omega) A.1 (by rw[show e+1=i from c.o.1.symm];exact l.1) A.2.1 (by rw[show e+1=i from c.o.1.symm];exact l.2.1));refine j.o.m ?_;rintro P M ⟨rfl,h,f⟩;have g:=AI h f;clear h f j;go_wp2_with fail
      first|refine et (du rfl _ _ _) rfl ?_|refine dj (du rfl _ _ _) rfl ?_
      rw[B.o,ff C.o,ff J.o];rw[fi (by have:=c.o.1;omega),show i-1=e by have:=c.o.1;omega];have n:=g.o.1;rw[show e+1=i from c.o.1.symm]at n;exact⟨rfl,n,g.o.2⟩
    ·have Z: ¬(q:Int)<(t:Int):=by omega
     have J:=al (show ¬(i+1<x.ks.length/\o-1<(aT x (i+1)).ps.length)from fun W=>k W.1);clear y I s;clear k p;go_enter func216,ntmps216;go_wp2_with fail;have j:=al (oN w d a e x F b.o.1 b.o.2.1 (by have:=c.o.1;omega) b.o.q.1 (by have:=b.o.q.q.2.1;have:=b.o.q.q.d;omega) A.1 (by rw[show e+1=i from c.o.1.symm];exact l.1) A.2.1 (by rw[show e+1=i from c.o.1.symm];exact l.2.1));refine j.o.m ?_;rintro P M ⟨rfl,h,f⟩;have g:=AI h f;clear h f j;go_wp2_with fail
     first|refine et (du rfl _ _ _) rfl ?_|refine dj (du rfl _ _ _) rfl ?_
     rw[B.o,ff C.o,ff J.o];rw[fi (by have:=c.o.1;omega),show i-1=e by have:=c.o.1;omega];have n:=g.o.1;rw[show e+1=i from c.o.1.symm]at n;exact⟨rfl,n,g.o.2⟩
  ·have q2: ¬(0:Int)<(i:Int):=by omega
   have G: ¬(0<i/\o-1<(aT x (i-1)).ps.length):=fun W=>s W.1;have C:=al G;have c:=al s;clear G;obtain⟨q,p⟩:=rm (i+1);have q7:(i:Int)+1=(q:Int):=by omega
   obtain⟨y5,y6⟩:=MX q (by omega);have q8:(0:Int)<=(q:Int):=by omega
   by_cases k:i+1<x.ks.length
   ·obtain⟨p3,A3,c3,V,U⟩:=aZ.rK b.o.d.1 (j:=i+1) k;rw[<-p]at V;obtain⟨v,m⟩:=rl ((aT x (i+1)).ps.length);rw[m]at U;have Z:(q:Int)<(t:Int):=by omega
    have r:=b.o.q.t.1 (i+1) k;have z:=k;have L:=AI m p;by_cases u:E<v
    ·have S:(E:Int)<(v:Int):=by omega
     have K:=al u;clear s;clear m u k p;go_enter func216,ntmps216;go_wp2_with fail;have j:=al (rJ w d a i x F b.o.1 b.o.2.1 z b.o.q.1 (by have:=b.o.q.q.2.1;have:=b.o.q.q.d;omega) (by have:=L.o.1;have:=K.o;omega) l.1 r.1 (fun O=>by have:=r.2.2 O;omega) l.2.1 r.2.1);refine j.o.m ?_;rintro P M ⟨rfl,h,f⟩;have g:=AI h f;clear h f j;go_wp2_with fail
     first|refine et (du rfl _ _ _) rfl ?_|refine dj (du rfl _ _ _) rfl ?_
     rw[B.o,ff C.o,fi ⟨z,by have:=L.o.1;have:=K.o;have:=b.o.q.d.1;omega⟩];exact⟨rfl,g.o.1,g.o.2⟩
    ·have S: ¬(E:Int)<(v:Int):=by omega
     have N: ¬(i+1<x.ks.length/\o-1<(aT x (i+1)).ps.length):=by rintro⟨_,D⟩;rw[m]at D;have:=b.o.q.d.1;omega
     have J:=al N;clear s;clear m u k p N;go_enter func216,ntmps216;go_wp2_with fail;have j:=al (oN w d a i x F b.o.1 b.o.2.1 z b.o.q.1 (by have:=b.o.q.q.2.1;have:=b.o.q.q.d;omega) l.1 r.1 l.2.1 r.2.1);refine j.o.m ?_;rintro P M ⟨rfl,h,f⟩;have g:=AI h f;clear h f j;go_wp2_with fail
     first|refine et (du rfl _ _ _) rfl ?_|refine dj (du rfl _ _ _) rfl ?_
     rw[B.o,ff C.o,ff J.o];rw[ff c.o];have n:=g.o.1;exact⟨rfl,n,g.o.2⟩
   ·exfalso;have n:=b.o.q.q.1.1;have D:=b.o.q.1;have e:=aa.o;omega
def Cw(d o:Nat):Prop:= ∀(w:World) (e b a:Nat) (x:ND) (F:Nat->Nat->Prop),aG w d e x F->(∀c q,F c q->c<w.heap.size)->fw d o b a x->1<=b->a<=900->
 Calls prog 215 #[r7 e,rv o] w fun b a=>b=.returned (Rf (gi d x o).2)/\aG a d e (gi d x o).1 (fun c q=>F c q\/w.heap.size<=c)/\OnlyC F w a
theorem OS{w:World}{B:Nat}{d b v0 v1:Value}{t:TypeId}(h:w.heap[B]?=some (.cells #[d,b] t (0,0))):((w.setCell ⟨B,0,none⟩ v0).setCell ⟨B,1,none⟩ v1).heap[B]?=some (.cells #[v0,v1] t (0,0)):=by have a:=dd w B 0 _ _ v0 h;have c:=dd _ B 1 _ _ v1 a;simpa using c
theorem LA(o:Nat):Cw 0 o:=by
 intro F s lo W x O E u k I J;have j:=k.none;have B:=k.len;obtain⟨r,n⟩: ∃r,x.ps.length=r+1:=⟨x.ps.length-1,by omega⟩;obtain⟨z,g⟩: ∃p,x.ps[r]?=some p:=⟨_,ao (by omega)⟩
 have v:gi 0 x o=(.mk (x.ps.take r) [],z):=by show(ND.mk (x.ps.take (x.ps.length-1)) [],x.ps[x.ps.length-1]?.getD ([],[]))=_;rw[n,oE,g];rfl
 obtain⟨f,i⟩:=rk F (so (#[]) (#[]));have p:=E.below f;go_enter func215,ntmps215;go_upto_region 1 with fail;generalize F.alloc (so (#[]) (#[]))=h at f i p⊢;obtain⟨d,l⟩:=rl (F.heap.size);rw[l]at i⊢;obtain⟨G,R,N,L,H,c,-⟩:=p.open_;have a:L=[]:=de (by rw[c.2.2.2.2.1,j];rfl);subst a;obtain⟨bl,Y,Q,a,-,-,-⟩:=c.2.2.1.pair g;subst a;obtain⟨C,D,a,-⟩:=c.2.2.2.1.slice;have a:N=.slice C 0 D:=by simpa using a
 subst a;obtain⟨P,w⟩:=rl (x.ps.length);rw[w]at c;have A: ∀e q,O e q->e<h.heap.size:=fun e q b=>da (u e q b) f.size;have a:=B7 c u A f i l j g n v;obtain⟨⟨m,t⟩,-,-⟩:=ae c.1;have y:=al (dO h s D C t);have X:(P:Int)-1=(r:Int):=by omega
 have j2:(0:Int)<=(r:Int):=by omega
 have S:(r:Int)<(P:Int):=by omega
 have T:P<=900:=by omega
 obtain⟨V,y2⟩:=MX r (by omega);obtain⟨⟨K,M⟩,-,-⟩:=c.2.2.1.ln g;clear E u k I J j B n g v f i p l G c w A;go_wp2_with fail;refine y.o.m ?_;rintro f w2 ⟨rfl,c⟩;subst c;clear y;go_upto_region 4 with fail;obtain⟨g,i⟩:=rk h (so z.1.toArray z.2.toArray);generalize h.alloc (so z.1.toArray z.2.toArray)=B at g i⊢;obtain⟨v,j⟩:=rl (h.heap.size);rw[j]at i⊢;have h:=aZ.below (d:=0) a.o.1 g;clear m t K M;obtain⟨⟨m,-⟩,-,-⟩:=ae h.1;have c:=AN g i j h;clear g i j h;go_wp2_with fail;refine(lT B (H 1) _ (x.ps.map aA) r _ _ rfl (by simp) c.o.q.2.1 (by rw[eS];have:=a.o.q.q.1;omega) (by rw[eS];have:=a.o.q.q.1;omega) (dH _)).m ?_;rintro f k ⟨U,rfl,g,l⟩;rw[<-mc,<-lr,<-ix]at g;have u:x.ps.drop (r+1)=[]:=eM (by have:=a.o.q.q.1;omega);rw[u,gr]at g;obtain⟨j,i,p,-⟩:=g.slice;obtain⟨h,n⟩:=rl (((x.ps.take r).map aA).length);rw[n]at p;subst p;clear n u m;have n:=l.heap c.o.t.1 (fun q b=>a.o.1.own.2.1 1 0 s q (by decide) b (a.o.1.2.1 q));have p: ∀e,F.heap.size<=e-> ∀q,¬O e q:=fun e M q b=>by have:=a.o.2.1 e q b;omega
 have A:=l.heap (qS c.o.1 a.o.q.1) (fun q b=>p d (by have:=a.o.q.2.1;omega) q (a.o.1.own.1 1 _ q b));have y:=l.heap c.o.2.1 (fun q b=>p v (by have:=a.o.t.1.size;have:=c.o.d.1;omega) q (a.o.1.own.1 1 _ q b));have G: ¬d=s:=fun f=>p d (by have:=a.o.q.2.1;omega) 0 (a.o.1.own.1 0 _ 0 (f▸a.o.1.2.1 0));have I: ¬v=s:=fun f=>p v (by have:=a.o.t.1.size;have:=c.o.d.1;omega) 0 (a.o.1.own.1 0 _ 0 (f▸a.o.1.2.1 0));have u:=AM g l n;obtain⟨⟨m,-⟩,J,-⟩:=ae n;clear g l n;go_upto_region 5 with fail;have l:=(OnlyC.aR k s 0 (.slice j h i)).heap A (fun q f=>G f.1);have w:=(OnlyC.aR k s 0 (.slice j h i)).heap y (fun q f=>I f.1);have K:=c.o.t
 have g:=aZ.py (d:=0) (w':=k.setCell ⟨s,0,none⟩ (.slice j h i)) K (fun _=>a.o.q.d.1) (fun e q b=>da (a.o.d.1 e q b) c.o.1.size) (jm u.o.d (.slice j h i))
  ((u.o.2.1.m (fun e q _ b=>.inl b)).x (OnlyC.aR k s 0 (.slice j h i)) (fun e q _ f=>.inr f.1)) ((u.o.1.only (OnlyC.aR k s 0 (.slice j h i)) (fun e q b f=>a.o.1.own.2.2 1 e q (by decide) b f.1)).m (fun e q b=>.inl b))
 clear m J A y;generalize k.setCell ⟨s,0,none⟩ (.slice j h i)=n at l w g⊢;obtain⟨m,t⟩:=fo w;obtain⟨J,x1⟩:=fo l;have Z:n.frozen? ⟨d,0,none⟩=false:=frozen_of_heap l 0;have f1:n.frozen? ⟨d,1,none⟩=false:=frozen_of_heap l 1;have y:=AI g l;clear g l w;go_wp2_with fail;have A:=OS (v0:=sd z.1) (v1:=sd z.2) y.o.2;have l:Below F.heap.size F B:=a.o.t.1.x (c.o.1.m a.o.t.1.size);have w:OnlyC (fun e _=>e=d) n ((n.setCell ⟨d,0,none⟩ (sd z.1)).setCell ⟨d,1,none⟩ (sd z.2)):=((OnlyC.aR n d 0 _).m (fun e q _ f=>f.1)).x (OnlyC.aR _ d 1 _) (fun e q _ f=>f.1);refine dj (results_cell_row rfl _ _ _ _ _ _ _ rfl A underlying220 rfl (by kernel_rfl)) rfl ?_;rw[a.o.q.q.2];have g:=y.o.1;rw[a.o.q.d.1]at g;refine⟨rfl,?_,(((o0 l O).x g.2 (fun _ _ _ E=>E)).x w (fun e q M f=>by subst f;have:=a.o.q.2.1;omega))⟩;refine(g.1.only w (fun e q b f=>?_)).m (fun e q b=>b.imp id (fun E=>dp l.size E));subst f;have f:=a.o.q.2.1;have n:=pb a.o.q.1;have e:=c.o.1.size;rcases b with b|b
 ·have:=a.o.2.1 _ q b;omega
 ·omega
theorem SE(d o:Nat)(R:Cw d o)(O:2<=o)(X:o<=16):Cw (d+1) o:=by
 intro S a Y V x F E D i I J;have T:=i.len;have mM:=i.kids;obtain⟨m,U⟩: ∃m,x.ks.length=m+1:=⟨x.ks.length-1,by omega⟩;have K:x.ks.length-1=m:=by omega
 have G:gi (d+1) x o=(jJ d (qz x m (gi d (aT x m) o).1) m o,(gi d (aT x m) o).2):=by show(jJ d (qz x (x.ks.length-1) (gi d (aT x (x.ks.length-1)) o).1) (x.ks.length-1) o,(gi d (aT x (x.ks.length-1)) o).2)=_;rw[K]
 have t:=dA (x:=x) (i:=m) (by omega);have v:=i.2.2.2 _ (db t);have z:=(qV O v (by omega)).2;have L:=jZ i (i:=m) (by omega) (by rw[show o-1-1=o-2 by omega]at z;exact z);obtain⟨g,n⟩:=rk S (so (#[]) (#[]));have C:=E.below g;go_enter func215,ntmps215;go_upto_region 1 with fail;generalize S.alloc (so (#[]) (#[]))=k at g n C⊢;obtain⟨f,y⟩:=rl (S.heap.size);rw[y]at n⊢;obtain⟨-,vp,vk,N,H,e,-⟩:=C.open_;obtain⟨l,u⟩: ∃b,N[m]?=some b:=⟨_,ao (by rw[e.2.2.2.2.1];omega)⟩;obtain⟨bk,ok,W,b,-,-,Z⟩:=e.2.2.2.1.ptr u;subst b;obtain⟨r,M⟩:=rl (N.length);have Q:=e.2.2.2.2.1;rw[M]at e Q;have A: ∀h q,F h q->h<k.heap.size:=fun h q b=>da (D h q b) g.size;have j:=al (R k l (o-1) (2*o-1) (aT x m) (H (m+3)) (e.2.2.2.2.2.1 m l _ u t) (fun h q b=>A h q (e.own.1 _ h q b)) v (by omega) (by omega));obtain⟨⟨p,s⟩,B⟩: ∃c,(gi d (aT x m) o).2=c:=⟨_,rfl⟩;have c:=Dg e D A g n y u t L G B I J;obtain⟨⟨-,w⟩,-,-⟩:=ae e.1;have P:=al (fk k a r W _ (by omega) w);have j1:(r:Int)-1=(m:Int):=by omega
 have j2:(0:Int)<=(m:Int):=by omega
 have j3:(m:Int)<(r:Int):=by omega
 have j4:r<=901:=by omega
 obtain⟨y1,y2⟩:=MX m (by omega);rw[B]at j;unfold Rf at j;simp only at j;clear E D i I J T mM U K G t v z L g n C y u e Q M A B R;go_wp2_with fail;refine P.o.m ?_;rintro u L ⟨rfl,e⟩;subst e;clear P;go_wp2_with fail;refine j.o.m ?_;rintro u t ⟨rfl,y,e⟩;clear j w Z;have i:=c.o.1.Jo c.o.d.1 c.o.q.t.1 c.o.q.d.1 e y;obtain⟨g,j⟩:=rk t (so p.toArray s.toArray);have z: ∀h,S.heap.size<=h-> ∀q,¬F h q:=fun h B q b=>by have:=c.o.2.1 h q b;omega
 have n:=e.heap c.o.q.1 (fun q b=>z f (by have:=c.o.q.2.1;omega) q (c.o.1.own.1 _ _ q b));have v:=AN i g j n;clear i g j n y e z;go_upto_region 8 with fail;have e:=v.o;clear v;generalize t.alloc (so p.toArray s.toArray)=A at e⊢;obtain⟨i,g,j,n⟩:=e;obtain⟨I,y⟩:=rl (t.heap.size);rw[y]at j⊢;have z:=qS g n;have v:=i.1.bound.below g;have e:=By i.2 g j z y v;have D:S.heap.size<=k.heap.size:=c.o.t.1.size;have C:=al (Cv A d a m o Y V _ _ v (fun h q b=>da b.2 g.size) c.o.q.q.1 c.o.q.q.t.1 c.o.q.q.q O X);clear i g j n z v y;go_wp2_with fail;refine C.o.m ?_;rintro u g ⟨rfl,z,j⟩;clear C;have C:=pb c.o.q.1
 have v: ∀q,¬((F f q\/k.heap.size<=f)/\f<t.heap.size):=fun q b=>by
  rcases b.1 with i|i
  ·have:=c.o.2.1 _ q i;have:=c.o.q.2.1;omega
  ·omega
 have i:=j.heap e.o.t.1 v;have y:=j.heap e.o.d.1 (fun q b=>by have:=b.2;have:=e.o.q.1;omega);obtain⟨J,w⟩:=fo y;obtain⟨G,P⟩:=fo i;have K:g.frozen? ⟨f,0,none⟩=false:=frozen_of_heap i 0;have M:g.frozen? ⟨f,1,none⟩=false:=frozen_of_heap i 1;have n:=AN z j i v;clear z j i y v;go_wp2_with fail;have v:=OS (v0:=sd p) (v1:=sd s) n.o.d.1;have i:OnlyC (fun h _=>h=f) g ((g.setCell ⟨f,0,none⟩ (sd p)).setCell ⟨f,1,none⟩ (sd s)):=((OnlyC.aR g f 0 _).m (fun h q _ u=>u.1)).x (OnlyC.aR _ f 1 _) (fun h q _ u=>u.1);refine dj (results_cell_row rfl _ _ _ _ _ _ _ rfl v underlying220 rfl (by kernel_rfl)) rfl ?_;rw[c.o.q.q.2.1,c.o.q.q.d.1];have j:OnlyC F k A:=e.o.1.x (o0 e.o.2.1 F) (fun _ _ _ E=>E);have k:OnlyC F S g:=((o0 c.o.t.1 F).x j (fun _ _ _ E=>E)).x n.o.2.1 (fun h q B b=>b.1.elim id (fun E=>by omega));refine⟨rfl,(n.o.1.only i (fun h q b u=>?_)).m (fun h q b=>?_),k.x i (fun h q B u=>by subst u;have:=c.o.q.2.1;omega)⟩
 ·subst u;rcases b with b|b
  ·exact n.o.t q b
  ·have:=pb e.o.t.1;omega
 ·rcases b with b|b
  ·exact b.1.imp id (fun E=>by omega)
  ·have:=e.o.2.1.size;have:=e.o.1.size;exact .inr (by omega)
theorem JV{o:Nat}(b:2<=o)(a:o<=16): ∀d,Cw d o
 |0=>LA o
 |d+1=>SE d o (JV b a d) b a
def OT(d o:Nat)(key:List UInt8):Prop:= ∀(w:World) (c b a:Nat) (x:ND) (F:Nat->Nat->Prop),aG w d c x F->(∀e q,F e q->e<w.heap.size)->fw d o b a x->(1<=b\/d=0)->a<=900->Up (bz d x)->
 Calls prog 172 #[r7 c,sd key,rv o] w (GX d c (ng d x key o) F (look key (bz d x)) w)
theorem OU(o:Nat)(key:List UInt8):OT 0 o key:=by
 intro w T lo i x F S Q m _ V M;have E:=m.none;have U:=m.len;have N:=vY m M;have u:x.ps.length<=1000:=by omega
 have z:=eJ key x.ps;have f:=al (find_ok w F T x key S.base N u);obtain⟨X,i⟩:=rl (posOf key x.ps);rw[i]at f z;have d:=AS S Q E i u;by_cases a:hit key x.ps=true
 ·obtain⟨v,k⟩:=fQ a;rw[i]at k;have h:=AI a k;rw[a]at f;clear S Q m E U N u a i M V;go_enter func172,ntmps172;go_wp2_with fail;refine f.o.m ?_;rintro R p ⟨rfl,e⟩;have j:=d.o.1.below e;obtain⟨D,vp,O,L,H,b,-⟩:=j.open_;have G:L=[]:=de (by rw[b.2.2.2.2.1,d.o.d.1];rfl);subst G;obtain⟨bl,ol,cl,c,-,-,-⟩:=b.2.2.1.pair k;subst c;obtain⟨r,s,g,-⟩:=b.2.2.2.1.slice;have g:O=.slice r 0 s:=by simpa using g
  subst g;obtain⟨n,y⟩:=rl (x.ps.length);rw[y]at b z;have t:=(bd.1 k).1;have c:=AM b e y;obtain⟨⟨A,l⟩,-,-⟩:=ae b.1;have q:=al (dO p T s r l);obtain⟨⟨Y,Z⟩,-,-⟩:=b.2.2.1.ln k;have j2:(0:Int)<=(X:Int):=by omega
  have j3:(X:Int)<(n:Int):=by omega
  have j4:n<=1000:=by rw[<-y];exact d.o.q
  clear f j D b e y k t z;go_wp2_with fail;refine q.o.m ?_;rintro R W ⟨rfl,k⟩;subst k;go_wp2_with fail;refine q.o.m ?_;rintro R W ⟨rfl,k⟩;subst k;clear q l;go_wp2_with fail;have t:=(bd.1 h.o.2).1;refine(lT p (H 1) _ (x.ps.map aA) X _ _ rfl (by first|rfl|simp|omega) c.o.1.2.2.1 (by rw[eS];exact t) (by rw[eS];exact d.o.q) (dH _)).m ?_;rintro R J ⟨v9,rfl,z,I⟩;rw[<-mc,<-lr,<-ix]at z;obtain⟨C,B,P,-⟩:=z.slice;obtain⟨y,K⟩:=rl (((x.ps.take X++x.ps.drop (X+1)).map aA).length);rw[K]at P;subst P;clear K A Y Z t;have P:=I.heap c.o.1.1 (fun t a=>c.o.1.own.2.1 1 0 T t (by decide) a (c.o.1.2.1 t));have K:=AM z I P;obtain⟨⟨A,-⟩,zf,-⟩:=ae P;clear z I P;go_wp2_with fail
  go_ret2
  have Y: ∀z t,F z t->z<p.heap.size:=fun z t a=>da (d.o.2.1 z t a) c.o.2.1.size
  have I:=aZ.py (d:=0) (w':=J.setCell ⟨T,0,none⟩ (.slice C y B)) c.o.1 (fun _=>d.o.d.1) Y (jm K.o.d (.slice C y B))
   ((K.o.2.1.m (fun z t _ a=>.inl a)).x (OnlyC.aR J T 0 (.slice C y B)) (fun z t _ R=>.inr R.1)) ((K.o.1.only (OnlyC.aR J T 0 (.slice C y B)) (fun z t a R=>c.o.1.own.2.2 1 z t (by decide) a R.1)).m (fun z t a=>.inl a))
  rw[d.o.d.1]at I;have P:=d.o.t.1;rw[zO h.o.1,P];have Z:look key x.ps=some v:=sx (by rw[P];exact h.o.2);rw[show look key (bz 0 x)=some v from Z];exact⟨rfl,I.1.m (fun z t a=>a.imp id (fun S=>dp c.o.2.1.size S)),(o0 c.o.2.1 F).x I.2 (fun _ _ _ S=>S)⟩
 ·simp only[Bool.not_eq_true]at a;have h:=al a;rw[a]at f;clear S Q m E U N u a i M V;go_enter func172,ntmps172;go_wp2_with fail;refine f.o.m ?_;rintro R p ⟨rfl,e⟩;have j:=d.o.1.below e;obtain⟨D,vp,O,L,H,b,-⟩:=j.open_;have G:L=[]:=de (by rw[b.2.2.2.2.1,d.o.d.1];rfl);subst G;obtain⟨r,s,g,-⟩:=b.2.2.2.1.slice;have g:O=.slice r 0 s:=by simpa using g
  subst g;have c:=AI j e;obtain⟨⟨A,l⟩,-,-⟩:=ae b.1;have q:=al (dO p T s r l);clear f j D b e A l;go_wp2_with fail;refine q.o.m ?_;rintro R W ⟨rfl,k⟩;subst k;go_wp2_with fail
  go_ret2
  rw[vP h.o,show look key (bz 0 x)=none from Dz h.o];exact⟨rfl,c.o.1.m (fun z t a=>.inl a),o0 c.o.2 F⟩
theorem WB(d o:Nat)(key:List UInt8)(A:OT d o key)(C:2<=o)(I:o<=16)(w:World)(a lo hi:Nat)(x:ND)(F:Nat->Nat->Prop)(t:aG w (d+1) a x F)(B: ∀h q,F h q->h<w.heap.size)(e:fw (d+1) o lo hi x)(n:1<=lo)(p:hi<=900)(l:Up (bz (d+1) x))(b:hit key x.ps=false):
  Calls prog 172 #[r7 a,sd key,rv o] w (GX (d+1) a (ng (d+1) x key o) F (look key (bz (d+1) x)) w):=by
 have G:=e.len;have r:=e.kids;have z:=vY e l;have v:x.ps.length<=1000:=by omega
 have u:=eJ key x.ps;have k:=al (find_ok w F a x key t.base z v);rw[b]at k;have f:=dA (x:=x) (i:=posOf key x.ps) (by omega);have j:=e.2.2.2 _ (db f)
 have i:Up (bz d (aT x (posOf key x.ps))):=by have g:=l;rw[<-dL x]at g;exact Up.kid r g f
 have c:=(BI C key j (.inl (by omega)) i).2;have m:=jZ e (i:=posOf key x.ps) (by omega) (by rw[show o-1-1=o-2 by omega]at c;exact c)
 have s:look key (bz (d+1) x)=look key (bz d (aT x (posOf key x.ps))):=by have g:=l;rw[<-dL x]at g;rw[<-dL x];exact BJ r g b f
 rw[BH b,s];clear s c;obtain⟨s,y⟩:=rl (posOf key x.ps);rw[y]at k u f j i m⊢;have c:=BY t B f j i m n p A;clear t B e n p l b z f j i m y A;go_enter func172,ntmps172;go_wp2_with fail;refine k.o.m ?_;rintro K n ⟨rfl,i⟩;have E:=c.o.1.below i;obtain⟨-,M,S,B,T,e,-⟩:=E.open_;obtain⟨L,j⟩: ∃y,B[s]?=some y:=⟨_,ao (by rw[e.2.2.2.2.1];omega)⟩;obtain⟨O,Q,H,f,-,-,J⟩:=e.2.2.2.1.ptr j;subst f;obtain⟨m,z⟩:=rl (B.length);have D:=e.2.2.2.2.1;rw[z]at e D;have l: ∀h q,F h q->h<n.heap.size:=fun h q b=>da (c.o.2.1 h q b) i.size;have A:=al (c.o.q.q n L (o-1) (2*o-1) (aT x s) (T (s+3)) (e.2.2.2.2.2.1 s L _ j c.o.d.1) (fun h q b=>l h q (e.own.1 _ h q b)) c.o.t.1 (.inl (by omega)) (by omega) c.o.q.1);have f:=AN e i l j;obtain⟨⟨-,y⟩,-,-⟩:=ae e.1;have p:=al (fk n a m H _ (by omega) y);have R:(0:Int)<=(s:Int):=by omega
 have N:(s:Int)<(m:Int):=by omega
 have P:m<=1001:=by omega
 clear k E e i l j z D G r v u;go_wp2_with fail;refine p.o.m ?_;rintro K l ⟨rfl,e⟩;subst e;go_wp2_with fail;refine p.o.m ?_;rintro K l ⟨rfl,e⟩;subst e;clear p;go_wp2_with fail;refine A.o.m ?_;rintro K l ⟨rfl,p,u⟩;obtain⟨D,e⟩:=rl ((⟨((look key (bz d (aT x s))).getD []).toArray⟩:ByteArray));obtain⟨E,i⟩:=rl ((look key (bz d (aT x s))).isSome);rw[e,i];have v:=AI e i;have k:=f.o.1.Jo f.o.d.1 c.o.d.1 f.o.t u p;have j:=k.1.bound;have r:=AI k.2 j;have z:=al (Cv l d a s o lo hi _ _ j (fun h q b=>b.2) c.o.q.2.1 c.o.q.d.1 c.o.q.t.1 C I);clear A y J k j p u e i;go_wp2_with fail;refine z.o.m ?_;rintro K k ⟨rfl,i,e⟩;have j:=AI i e;clear z i e;go_wp2_with fail
 go_ret2
 have i:=f.o.2.1.size;have e:=r.o.1.size;refine⟨by rw[v.o.1,v.o.2];rfl,j.o.1.m (fun h q b=>?_),((o0 f.o.2.1 F).x r.o.1 (fun _ _ _ t=>t)).x j.o.2 (fun h q p b=>b.1.elim id (fun t=>by omega))⟩;rcases b with b|b
 ·exact b.1.imp id (fun t=>by omega)
 ·exact .inr (by omega)
theorem SG(d o:Nat)(key:List UInt8)(G:2<=o)(S:o<=16)(w:World)(a lo hi:Nat)(x:ND)(F:Nat->Nat->Prop)(u:aG w (d+1) a x F)(C: ∀j q,F j q->j<w.heap.size)(c:fw (d+1) o lo hi x)(p:1<=lo)(s:hi<=900)(n:Up (bz (d+1) x))(b:hit key x.ps=true):
  Calls prog 172 #[r7 a,sd key,rv o] w (GX (d+1) a (ng (d+1) x key o) F (look key (bz (d+1) x)) w):=by
 have aa:=c.len;have Y:=c.kids;have B:=vY c n;have K:x.ps.length<=1000:=by omega
 have J:=eJ key x.ps;obtain⟨v,f⟩:=fQ b
 have A:look key (bz (d+1) x)=some v:=by have L:=n;rw[<-dL x]at L⊢;exact vQ Y L b f
 have k:=al (find_ok w F a x key u.base B K);rw[b]at k;have h:=dA (x:=x) (i:=posOf key x.ps) (by omega);have g:=c.2.2.2 _ (db h);have l:=(qV G g (by omega)).2;rw[Dy b,A];obtain⟨i,y⟩:=rl (posOf key x.ps);rw[y]at k J h g l f⊢;obtain⟨⟨m,r⟩,W⟩: ∃e,(gi d (aT x i) o).2=e:=⟨_,rfl⟩;rw[W];have ac:=(bd.1 f).1;have t:fw (d+1) o lo hi (ot x i (m,r)):=⟨by simp[ot];omega,by simp[ot];omega,by simp[ot];omega,c.2.2.2⟩;have z:=jZ t (i:=i) (by show i<x.ks.length;omega) (by rw[show o-1-1=o-2 by omega]at l;exact l);have e:=BY u C h g f z p s W;clear u C c p s n b B h g l z y f t A;go_enter func172,ntmps172;go_wp2_with fail;refine k.o.m ?_;rintro Z s ⟨rfl,h⟩;have V:=e.o.1.below h;obtain⟨-,vp,vk,R,H,g,-⟩:=V.open_;obtain⟨l,C⟩: ∃y,R[i]?=some y:=⟨_,ao (by rw[g.2.2.2.2.1];omega)⟩;obtain⟨y,A,P,c,-,-,X⟩:=g.2.2.2.1.ptr C;subst c;obtain⟨n,t,cn,c,-,-,E,I,-⟩:=g.2.2.1.pair e.o.q.1;subst c;obtain⟨z,Q⟩:=rl (R.length);obtain⟨U,D⟩:=rl (x.ps.length);have f:=g.2.2.2.2.1;have N:=g.2.2.2.1.Ew (i:=i) (by rw[f];omega);rw[Q]at g f;rw[D]at g;have M: ∀j q,F j q->j<s.heap.size:=fun j q b=>da (e.o.2.1 j q b) h.size;have c:=By g h M C N D;obtain⟨⟨T,p⟩,-,-⟩:=ae g.1;have B:=al (fk s a z P _ (by omega) p);have j2:(0:Int)<=(i:Int):=by omega
 have j3:(i:Int)<(z:Int):=by omega
 have j4:z<=1001:=by omega
 have j5:(i:Int)<(U:Int):=by omega
 have O:=yk T p X;clear k V g h M C Q f aa Y K J N D ac;go_wp2_with fail;refine B.o.m ?_;rintro Z V ⟨rfl,g⟩;subst g;go_wp2_with fail;refine B.o.m ?_;rintro Z V ⟨rfl,g⟩;subst g;clear B;go_upto_region 11 with fail;clear T p X E I;refine pw (S:=(fun g=>g.cell? ⟨a,0,none⟩=some (.slice (some ⟨n,t,none⟩) U cn)/\g.cell? ⟨a,1,none⟩=some (.slice (some ⟨y,A,none⟩) z P)/\g.cell? ⟨y,A+i,none⟩=some (r7 l))) (by kernel_rfl) O (fun g=>?_);generalize p:World.drew s=B at g⊢;have k:Below s.heap.size s B:=p▸(aw _ _).drew;have h:=AI (aZ.below (d:=d+1) c.o.1 k) k;clear p O k;refine bq [0,1,2,3,4,5,6,7,8,9,10,11,12] ?_
 iterate 13 (refine ek (v:=?_) (fun _ ⟨E,I,D⟩=>?_) g ?_;rotate_left;(go_simp;try rfl);try simp only[xT])
 refine bt ?_;refine bC 13 (fun M p=>?_);go_simp;refine(JV G S d B l (o-1) (2*o-1) (aT x i) (H (i+3)) (h.o.1.2.2.2.2.2.1 i l _ c.o.t.1 e.o.d.1) (fun j q b=>da (c.o.d.1 j q (c.o.1.own.1 _ j q b)) h.o.2.size) e.o.t.1 (by omega) (by omega)).m ?_;rintro Z N ⟨rfl,B,C⟩;have k:=AI B C;clear B C;rw[e.o.q.q];unfold Rf;simp only
 try go_simp
 refine p.o _ _ (iw g k.o.2 (c.o.1.own.2.1 0 (i+3) a 0 (by omega) (c.o.1.2.1 0)) (c.o.1.own.2.1 0 (i+3) a 1 (by omega) (c.o.1.2.1 1)) (c.o.1.own.2.1 2 (i+3) y (A+i) (by omega) c.o.q.1)) ?_;clear p M g;intro g
 try simp only[xT]
 refine ml 14 (v:=?_) (fun C B=>?_) g ?_;rotate_left
 ·obtain⟨E,I,D⟩:=B;go_simp;try rfl
 try simp only[xT]
 refine bC 15 (fun M p=>?_);have B:=(h.o.1.2.2.1.only k.o.2 (fun j q=>c.o.1.own.2.1 1 (i+3) j q (by omega)));obtain⟨⟨J,D⟩,C,K⟩:=B.ln e.o.q.1;go_simp;refine p.o _ _ (iw g ((h.o.1.2.2.1.only k.o.2 (fun j q=>c.o.1.own.2.1 1 (i+3) j q (by omega))).fE (i:=i) m r (bd.1 e.o.q.1).1).2 (fun b=>c.o.1.own.2.2 1 a 0 (by decide) b rfl) (fun b=>c.o.1.own.2.2 1 a 1 (by decide) b rfl) (fun b=>c.o.1.own.2.1 1 2 y (A+i) (by decide) b c.o.q.1)) ?_;clear p M g B J D C K;intro g
 try simp only[xT]
 refine qe (by kernel_rfl) ?_ _;clear g;have D:=h.o.1.Jo (fun j q b=>da (c.o.d.1 j q b) h.o.2.size) e.o.d.1 c.o.t.1 k.o.2 k.o.1;obtain⟨-,Y,aa,X,J,f,-⟩:=D.1.bound.open_;have M:=k.o.2.heap h.o.1.1 (fun q b=>c.o.1.own.2.1 0 (i+3) a q (by omega) (c.o.1.2.1 q) b);have K:=f.1.symm.x M;simp only[fj,Obj.cells.injEq,Array.mk.injEq,List.cons.injEq,and_true]at K;obtain⟨g,T⟩:=K;subst g;have g:=f.2.2.1.fE (i:=i) m r (bd.1 e.o.q.1).1;have B:=f.py (w':=((N.setCell ⟨n,t+i*2,none⟩ (sd m)).setCell ⟨n,t+i*2+1,none⟩ (sd r))) (fun Z=>by omega) (fun j q b=>b.2) (g.2.heap f.1 (fun q b=>f.own.2.1 1 0 a q (by decide) b (f.2.1 q))) (g.2.m (fun _ _ _ b=>.inl b)) (g.1.m (fun _ _ b=>.inl b));generalize ((N.setCell ⟨n,t+i*2,none⟩ (sd m)).setCell ⟨n,t+i*2+1,none⟩ (sd r))=O at B⊢;have C:=B.1.bound;have Q:=al (Cv O d a i o lo hi _ _ C (fun j q b=>b.2) e.o.q.2.1 e.o.q.d.1 e.o.q.t.1 G S);have p:=AM D.2 B.2 C;clear D f M T g B C;go_wp2_with fail;refine Q.o.m ?_;rintro Z C ⟨rfl,g,f⟩;have J:=AI g f;clear Q g f;go_wp2_with fail
 go_ret2
 have M:=c.o.2.1.size;have B:=p.o.1.size;have D:=p.o.2.1.size;have Q:=h.o.2.size;have g:OnlyC F w O:=(((o0 c.o.2.1 F).x (o0 h.o.2 F) (fun _ _ _ u=>u)).x p.o.1 (fun _ _ _ u=>u)).x p.o.2.1 (fun j q f b=>b.1.elim id (fun u=>by omega));refine⟨rfl,J.o.1.m (fun j q b=>?_),g.x J.o.2 (fun j q f b=>b.1.elim (fun u=>u.1.elim id (fun u=>by omega)) (fun u=>by omega))⟩;rcases b with b|b
 ·rcases b.1 with b|b
  ·exact b.1.imp id (fun u=>by omega)
  ·exact .inr (by omega)
 ·exact .inr (by omega)
theorem OV{o:Nat}(d:2<=o)(a:o<=16)(key:List UInt8): ∀l,OT l o key
 |0=>OU o key
 |l+1=>fun w m b g x F k i h c e j=>by
  have f:1<=b:=by rcases c with k|k;exact k;omega
  by_cases c:hit key x.ps=true
  ·exact SG l o key d a w m b g x F k i h f e j c
  ·simp only[Bool.not_eq_true]at c;exact WB l o key (OV d a key l) d a w m b g x F k i h f e j c
def OW(T o:Nat)(l:List Pr)(key:List UInt8)(F:Nat->Nat->Prop)(w:World)(e:Ending)(w':World):Prop:=
 e=.returned (.tuple #[.string ⟨((look key l).getD []).toArray⟩,rv (if(look key l).isSome then 0 else 14)])/\bM w' T o (del key l) (fun b q=>F b q\/w.heap.size<=b)/\OnlyC F w w'
theorem vw{w b:World}{T o d r:Nat}{l:List Pr}{y:ND}{F a:Nat->Nat->Prop}{key:List UInt8}{cnt:Int}(f:Up l)(s:2<=o)(i:o<=16)(k: ∀q,F T q)
  (h:b.heap[T]?=some (ta o cnt r)) (j:cnt=(del key l).length) (n:aG b d r y a) (p: ∀c q,a c q->F c q\/w.heap.size<=c) (m: ∀q,¬a T q)
  (g:fw d o (if d=0 then 0 else 1) (2*o-1) y) (e:bz d y=del key l):bM b T o (del key l) (fun c q=>F c q\/w.heap.size<=c):=by
 subst j;exact⟨d,r,y,a,h,n,g,e,by rw[del_eq];exact fR f,⟨s,i⟩,p,fun q=>.inl (k q),m⟩
theorem AL{o:Nat}(key:List UInt8): ∀{d lo hi:Nat} {x:ND},fw d o lo hi x->Up (bz d x)->look key (bz d x)=none->ng d x key o=x
 |0,lo,hi,x,hw,hu,hl=>by
  by_cases a:hit key x.ps=true
  ·obtain⟨v,f⟩:=fQ a;have b:look key x.ps=some v:=sx f;rw[show look key (bz 0 x)=look key x.ps from rfl,b]at hl;cases hl
  ·exact vP (by simpa using a)
 |d+1,lo,hi,x,hw,hu,hl=>by
  have g:=hw.kids;have j:=eJ key x.ps;have e:=dA (x:=x) (i:=posOf key x.ps) (by omega);have c:=hu;rw[<-dL x]at c;by_cases a:hit key x.ps=true
  ·obtain⟨v,f⟩:=fQ a;have b:=vQ g c a f;rw[dL,hl]at b;cases b
  ·simp only[Bool.not_eq_true]at a;have b:=BJ g c a e;rw[dL,hl]at b;have f:=hw.2.2.2 _ (db e);have h:=AL key f (Up.kid g c e) b.symm
   have i:qz x (posOf key x.ps) (aT x (posOf key x.ps))=x:=by unfold qz;rw[<-dP e,dL]
   rw[BH a,h,i];unfold jJ;rw[fi f.len.1]
theorem Cx{key:List UInt8}{l:List Pr}(h:(look key l).isSome=false):(del key l)=l:=by
 rw[del_eq];refine gU ?_;rw[look_eq]at h
 cases e:ay key l with
 |none=>rfl
 |some v=>rw[e]at h;simp at h
theorem Cy{key:List UInt8}{l:List Pr}(h:(look key l).isSome=true):(del key l).length+1=l.length:=by
 rw[del_eq];rw[look_eq]at h
 cases e:ay key l with
 |none=>rw[e]at h;simp at h
 |some v=>exact qX e
theorem xB(w:World)(T o:Nat)(l:List Pr)(F:Nat->Nat->Prop)(key:List UInt8)(n:bM w T o l F)(A: ∀j q,F j q->j<w.heap.size)(m:1<=key.length)(p:key.length<=64)(s:l.length<=1000000):
  Calls prog 121 #[r7 T,sd key] w (OW T o l key F w):=by
 obtain⟨L,Y,K,I,e,z,c,b,d,⟨g,x⟩,i,r,t⟩:=n;obtain⟨⟨y,-,G⟩,-,-⟩:=eO e;have u:=ab y G;have v:=al (nj w T ⟨key.toArray⟩ (by exact m) (by exact p));have h:=BI g key c (by by_cases k:L=0;exact .inr k;exact .inl (by rw[ff k];exact b8 _)) (by rw[b];exact d);rw[b]at h;have f:=al h;have a:=Cp e z c b d g x i r t A s;clear e z c b d g x i r t A s m p y G h;go_enter func121,ntmps121;go_wp2_with fail;refine v.o.m ?_;rintro k w1 ⟨rfl,Z⟩;obtain rfl:w=w1:=Z.symm;clear v;go_upto_region 4 with fail;refine pw (S:=(fun W=>W.cell? ⟨T,0,none⟩=some (rv o)/\W.cell? ⟨T,2,none⟩=some (r7 Y))) (by kernel_rfl) u (fun c=>?_);generalize b:World.drew w=d at c⊢;have i:=al (show aG d L Y K I/\d.heap[T]?=some (ta o l.length Y)/\Below w.heap.size w d from b▸⟨a.o.2.1.below (aw _ _).drew,a.o.1,(aw _ _).drew⟩);clear b u;refine bq [0,1,2,3,4,5,6,7,8] ?_
 iterate 9 (refine ek (v:=?_) (fun _ ⟨M,m⟩=>?_) c ?_;rotate_left;(go_simp;try rfl);try simp only[xT])
 refine bt ?_;refine bC 9 (fun p h=>?_);go_simp;refine(OV a.o.q.2.1 a.o.q.d.1 key L d Y _ _ K I i.o.1 (fun j q b=>da (a.o.q.q.d.1 j q (a.o.q.t.1 j q b)) i.o.d.size) a.o.d.1 (by by_cases k:L=0;exact .inr k;exact .inl (by rw[ff k];exact b8 _)) (by have:=a.o.q.d.1;omega) (by rw[a.o.t.1];exact a.o.q.1)).m ?_;rintro k x ⟨rfl,g,e⟩;have t:=AI g e;clear g e;rw[a.o.t.1]
 try go_simp
 refine h.o _ _ (dB c t.o.2 (a.o.q.q.2.1 0) (a.o.q.q.2.1 2)) ?_;clear h p c;intro c
 try simp only[xT]
 refine bq [10,11,12,13,14] ?_
 iterate 5 (refine ek (v:=?_) (fun _ ⟨M,m⟩=>?_) c ?_;rotate_left;(go_simp;try rfl);try simp only[xT])
 refine bt ?_;refine qe (by kernel_rfl) ?_ _;clear c;obtain⟨b0,e⟩:=rl ((look key l).isSome);obtain⟨M,c⟩:=rl ((⟨((look key l).getD []).toArray⟩:ByteArray));rw[c,e];have h:=AI c e;clear c e;have m:=t.o.2.heap i.o.2.1 a.o.q.q.2.1;have e:OnlyC F w x:=(o0 i.o.d F).x t.o.2 (fun j q _ b=>a.o.q.t.1 j q b);have c:T<w.heap.size:=pb a.o.1;have nZ:=al c;clear c;have c: ∀q,¬(I T q\/d.heap.size<=T):=fun q b=>b.elim (a.o.q.q.2.1 q) (fun n=>by have:=nZ.o;have:=i.o.d.size;omega);have g:=AM m e c;clear m e c
 cases b0 with
 |false=>
  go_wp2_with fail
  go_ret2
  have e:=Cx h.o.2;have c:look key l=none:=by cases k:look key l with|none=>rfl|some B=>have d:=h.o.2;rw[k]at d;simp at d
  have r:=AL (o:=o) key a.o.d.1 (by rw[a.o.t.1];exact a.o.q.1) (by rw[a.o.t.1];exact c);have p:=t.o.1;rw[r]at p;have m:=vw (F:=F) (w:=w) (cnt:=(l.length:Int)) a.o.q.1 a.o.q.2.1 a.o.q.d.1 a.o.q.q.1 g.o.1 (by rw[e]) p (fun j q b=>b.elim (fun n=>.inl (a.o.q.t.1 j q n)) (fun n=>.inr (dp i.o.d.size n))) g.o.d a.o.d.1 (by rw[e];exact a.o.t.1);refine⟨?_,m,g.o.2.1⟩;rw[c];rfl
 |true=>
  obtain⟨⟨-,s,-⟩,e,-⟩:=eO g.o.1;have il:(l.length:Int)<=1000000:=by have:=a.o.q.q.t;omega
  have c:=Cy h.o.2;have ap:(1:Int)<=(l.length:Int):=by omega
  have C:=al c;clear c;go_upto_region 8 with fail;have r:=JR g.o.1 (rv ((l.length:Int)-1));have p:=(t.o.1.only (OnlyC.aR x T 1 (rv ((l.length:Int)-1))) (fun j q b k=>by have D:=k.1;rw[D]at b;exact g.o.d q b)).bound;have y:=g.o.2.1.x (OnlyC.aR x T 1 (rv ((l.length:Int)-1))) (fun j q _ k=>by obtain⟨rfl,rfl⟩:=k;exact a.o.q.q.1 _);clear s e;generalize x.setCell ⟨T,1,none⟩ (rv ((l.length:Int)-1))=s at r p y⊢;obtain⟨A,am,ad,R,N,e,-⟩:=p.open_;obtain⟨A3,c3,c,-⟩:=e.2.2.1.slice;rw[eS]at c;subst c;obtain⟨A4,W,c,-⟩:=e.2.2.2.1.slice;rw[eS]at c;subst c;obtain⟨P,u⟩:=rl ((ng L K key o).ps.length);obtain⟨v,V⟩:=rl (R.length);rw[u,V]at e;obtain⟨⟨z0,S⟩,-,-⟩:=ae e.1;obtain⟨⟨-,-,G⟩,-,ac⟩:=eO r;have c:=BE r p y A e u V;have z:look key l=some ((look key l).getD []):=by cases k:look key l with|none=>have d:=h.o.2;rw[k]at d;simp at d|some B=>rfl
  have GZ:=al z;clear r p y A e u z;by_cases X:P=0
  ·subst X;by_cases Q:v=0
   ·have r:L=0:=by
     cases L with
     |zero=>rfl
     |succ e=>have d:=f.o.2.kids;have p:=c.o.q.1.2.2.2.2.1;have J:=c.o.q.d;have H:=c.o.q.2.1;omega
    have u:=al r;subst Q;have E:=al (dO s Y W A4 S);clear r;go_wp2_with fail;refine E.o.m ?_;rintro k wL ⟨rfl,A⟩;subst A;go_wp2_with fail
    go_ret2
    have m:=vw (F:=F) (w:=w) (cnt:=(l.length:Int)-1) a.o.q.1 a.o.q.2.1 a.o.q.d.1 a.o.q.q.1 c.o.1 (by have:=C.o;omega) c.o.2.1 (fun j q b=>b.1.elim (fun n=>.inl (a.o.q.t.1 j q n)) (fun n=>.inr (dp i.o.d.size n))) (fun q b=>g.o.d q b.1) (f.o.2.re (by rw[fi (u.o)];exact dq _) f.o.2.len.2) f.o.1;exact⟨by rw[h.o.1,h.o.2];rfl,m,c.o.d.1⟩
   ·obtain⟨e,rfl⟩: ∃e,L=e+1:=by
     cases L with
     |zero=>exfalso;have d:=f.o.2.none;have p:=c.o.q.1.2.2.2.2.1;have J:=c.o.q.d;rw[d]at p;simp at p;subst p;simp at J;omega
     |succ e=>exact⟨e,rfl⟩
    obtain⟨z,B⟩: ∃y,R[0]?=some y:=⟨_,ao (by have:=c.o.q.d;omega)⟩;obtain⟨r,U⟩: ∃y,(ng (e+1) K key o).ks[0]?=some y:=⟨_,ao (by have:=f.o.2.kids;omega)⟩;obtain⟨bk,ok,ck,O,-,-,r1⟩:=c.o.q.1.2.2.2.1.ptr B;simp only[im]at O;obtain⟨rfl,-,rfl⟩:=O;rw[mT]at r1;have u:=AI B U;have j1:(0:Int)<(v:Int):=by omega
    have j2:v<=1000000:=by have d:=f.o.2.kids;have p:=c.o.q.1.2.2.2.2.1;have J:=c.o.q.d;have H:=c.o.q.2.1;omega
    have E:=al (fk s Y v W _ (by omega) S);clear B U Q;go_wp2_with fail;refine E.o.m ?_;rintro k wL ⟨rfl,A⟩;subst A;go_wp2_with fail
    go_ret2
    have aa:=c.o.q.1.2.2.2.2.2.1 0 z r u.o.1 u.o.2;have A:=f.o.q r (db u.o.2);have B:=fun j q (b:N 3 j q)=>c.o.q.1.own.1 3 j q b;have U:=(show aG s e z r (N 3)from aa).only (OnlyC.aR s T 2 (r7 z)) (fun j q b k=>by have D:=k.1;rw[D]at b;exact g.o.d q (B _ q b).1)
    have Q:(ng (e+1) K key o).ks=[r]:=by
     have d:=f.o.2.kids;have H:=c.o.q.2.1;rw[H]at d
     match hq:(ng (e+1) K key o).ks,d with
     |[y],_=>have y:=u.o.2;rw[hq]at y;simpa using y
    have D:bz e r=del key l:=by rw[<-f.o.1];have y:(ng (e+1) K key o).ps=[]:=de c.o.q.2.1;show _=flat ((ng (e+1) K key o).ks.map (bz e)) (ng (e+1) K key o).ps;rw[Q,y];rfl
    have m:=vw (F:=F) (w:=w) (cnt:=(l.length:Int)-1) a.o.q.1 a.o.q.2.1 a.o.q.d.1 a.o.q.q.1 (Cr c.o.1 (r7 z)) (by have:=C.o;omega) U (fun j q b=>(B j q b).1.elim (fun n=>.inl (a.o.q.t.1 j q n)) (fun n=>.inr (dp i.o.d.size n))) (fun q b=>g.o.d q (B _ q b).1) (A.re (by have d:=A.len.1;have:=a.o.q.2.1;split<;>omega) A.len.2) D;exact⟨by rw[h.o.1,h.o.2];rfl,m,c.o.d.1.x (OnlyC.aR s T 2 _) (fun j q _ k=>by obtain⟨rfl,rfl⟩:=k;exact a.o.q.q.1 _)⟩
  ·have r:((P:Int)==0)=false:=by rw[beq_eq_false_iff_ne];omega
   have e:=al X;go_wp2_with fail
   go_ret2
   have m:=vw (F:=F) (w:=w) (cnt:=(l.length:Int)-1) a.o.q.1 a.o.q.2.1 a.o.q.d.1 a.o.q.q.1 c.o.1 (by have:=C.o;omega) c.o.2.1 (fun j q b=>b.1.elim (fun n=>.inl (a.o.q.t.1 j q n)) (fun n=>.inr (dp i.o.d.size n))) (fun q b=>g.o.d q b.1) (f.o.2.re (by have d:=c.o.q.2.1;have p:=e.o;split<;>omega) f.o.2.len.2) f.o.1;exact⟨by rw[h.o.1,h.o.2];rfl,m,c.o.d.1⟩
def xC:Nat->World->Value->Nat
 |0,_,_=>0
 |f+1,w,.pointer (some ⟨p,_,_⟩)=>match w.cell? ⟨p,1,none⟩with
  |some (.slice (some ad) (_+1) _)=>match w.cell? ad with
   |some q=>xC f w q+1
   |none=>0
  |_=>0
 |_+1,_,_=>0
theorem mN{w:World}{o:Nat}: ∀(d f lo:Nat) (p:Nat) (x:ND) (K:Nat->Nat->Prop),aG w d p x K->fw d o lo (2*o-1) x->d<=f->xC f w (r7 p)=d
 |0,0,_,_,_,_,_,_,_=>rfl
 |0,f+1,lo,p,x,K,h,hw,_=>by
  obtain⟨g,n,k,b,H,a,_⟩:=h.open_;have c:b=[]:=de (by rw[a.2.2.2.2.1,g rfl];rfl);subst c;obtain⟨A,s,e,_⟩:=a.2.2.2.1.slice;have e:k=.slice A 0 s:=by simpa using e
  subst e;have c:=(ae a.1).1.2;simp only[xC,c]
 |d+1,0,_,_,_,_,_,_,hf=>by omega
 |d+1,f+1,lo,p,x,K,h,hw,hf=>by obtain⟨g,n,k,b,H,a,_⟩:=h.open_;have u:=hw.kids;obtain⟨l,i⟩: ∃l,x.ks[0]?=some l:=⟨_,ao (by omega)⟩;obtain⟨m,e⟩: ∃m,b[0]?=some m:=⟨_,ao (by rw[a.2.2.2.2.1];omega)⟩;obtain⟨y,v,s,rfl,_,_,j⟩:=a.2.2.2.1.ptr e;have c:=(ae a.1).1.2;have r:=mN d f _ m l _ (show aG w d m l _ from a.2.2.2.2.2.1 0 m l e i) (hw.2.2.2 l (db i)) (by omega);obtain⟨t,q⟩: ∃t,b.length=t+1:=⟨b.length-1,by have:=(bd.1 e).1;omega⟩;rw[q]at c;rw[mT]at j;simp only[xC,c,j,r]
def kOf(c:Option Pr):List UInt8:=(c.map Prod.fst).getD []
def vOf(c:Option Pr):List UInt8:=(c.map Prod.snd).getD []
def YX(c:Option Pr):Int:=if c.isSome then 0 else 14
def U4(o c:Nat)(key:List UInt8)(l:List Pr)(w:World)(k v e q:Value)(a:World):Prop:=
 ∃(d p f:Nat) (x:ND) (b:Nat->Nat->Prop) (g:Option Pr),k=.string ⟨(kOf g).toArray⟩/\v=.string ⟨(vOf g).toArray⟩/\e=rv (YX g)/\q=r7 p/\aG a d p x b/\fw d o f (2*o-1) x/\Up (bz d x)/\(ceil key (bz d x)).or g=ceil key l/\Below w.heap.size w a/\d<=c
def aam(key:List UInt8)(l:List Pr)(w:World)(e:Ending)(w':World):Prop:=
 e=.returned (.tuple #[.string ⟨(kOf (ceil key l)).toArray⟩,.string ⟨(vOf (ceil key l)).toArray⟩,rv (YX (ceil key l))])/\Below w.heap.size w w'
theorem xD{o d:Nat}{key:List UInt8}{x:ND}{lo:Nat}(b:fw d o lo (2*o-1) x)(a:Up (bz d x))(h:d=0\/hit key x.ps=true):ceil key (bz d x)=x.ps[posOf key x.ps]?:=by
 cases d with
 |zero=>exact mD _
 |succ d=>
  rcases h with h|h
  ·omega
  ·rw[<-dL x]at a⊢;exact Dr b.kids a h
theorem AO{o d:Nat}{key:List UInt8}{x k:ND}{lo:Nat}(b:fw (d+1) o lo (2*o-1) x)(a:Up (bz (d+1) x))(e:x.ks[posOf key x.ps]?=some k)(c:Option Pr):(ceil key (bz (d+1) x)).or c=(ceil key (bz d k)).or (x.ps[posOf key x.ps]?.or c):=by have:=BD (d:=d) (ps:=x.ps) (ks:=x.ks) b.kids (by rw[dL];exact a) e;rw[dL]at this;rw[this,Option.or_assoc]
theorem JW(w:World)(T o:Nat)(l:List Pr)(F:Nat->Nat->Prop)(key:List UInt8)(h:bM w T o l F):Calls prog 182 #[r7 T,sd key] w (aam key l w):=by
 obtain⟨K,r,x0,K0,f,c,d,a,b,⟨g,cN⟩,-,-,-⟩:=h;have c2:w.cell? ⟨T,2,none⟩=some (r7 r):=by simp[World.cell?,f]
 have H0:=al (show U4 o K key l w (.string ⟨#[]⟩) (.string ⟨#[]⟩) (rv 14) (r7 r) w from⟨K,r,_,x0,K0,none,rfl,rfl,rfl,rfl,c,d,a▸b,by rw[a,Option.or_none],aw _ _,b8 _⟩);clear f c d a b g;go_enter func182,ntmps182;go_wp2_with fail
 go_step3
 go_wp2_with fail
 go_step3
 go_wp2_with fail
 go_loopw [4,5,6,7] (fun k v e q wr=>U4 o K key l w k v e q wr) (fun _ _ _ q wr=>xC K wr q)
 case atStart=>exact H0.o
 case round=>
  obtain⟨d,p,lo,Q,KK,c,rfl,rfl,rfl,rfl,z,g,m,f,u,B⟩:=hrel;have am:Q.ps.length<=1000:=by have:=g.len;omega
  have a:=al (find_ok wr KK p Q key z.base (vY g m) am);have ac:=eJ key Q.ps;obtain⟨M,x⟩:=rl (posOf key Q.ps);rw[x]at a ac;have i:=BE z g m f u B x;clear z g m f u B x;go_wp2_with fail;refine a.o.m ?_;rintro e G ⟨rfl,s⟩;clear a;have y:=i.o.1.below s;obtain⟨D,vp,vk,aC,H,b,-⟩:=y.open_;obtain⟨A,cp,U,-⟩:=b.2.2.1.slice;rw[eS]at U;subst U;obtain⟨A2,Y,J,-⟩:=b.2.2.2.1.slice;rw[eS]at J;subst J;obtain⟨C,t⟩:=rl (aC.length);rw[t]at b;obtain⟨⟨z0,R⟩,-,-⟩:=ae b.1;have a:=AS y D b s t;obtain⟨n,j⟩:=rl (Q.ps.length);rw[j]at z0 ac;have V:=al j;clear y D b s t j;by_cases ad:M<n
  ·obtain⟨X,t⟩: ∃X,Q.ps[posOf key Q.ps]?=some X:=⟨_,ao (by rw[i.o.q.d,V.o];exact ad)⟩;have S:=al t;have j:=t;rw[i.o.q.d]at j;obtain⟨b,a0,a1,U,-,-,y0,y1,-⟩:=a.o.d.1.2.2.1.pair j;rw[V.o]at U;simp only[im,true_and]at U;obtain⟨rfl,rfl⟩:=U;have i1:(0:Int)<=(M:Int):=by omega
   have i3:(M:Int)<(n:Int):=by omega
   obtain⟨bh,s⟩:=rl (hit key Q.ps);have y:=al s;rw[s];clear t j s
   cases bh with
   |true=>
    go_wp2_with fail;go_quiet(fail);go_wp2_with fail;rw[fs]
    go_ret3
    obtain⟨z,g,m,f,u,B,x⟩:=i.o;have L:=xD (key:=key) g m (.inr y.o);rw[S.o]at L;rw[L]at f;have f:(some X).or c=ceil key l:=f;refine⟨by rw[<-f];rfl,?_⟩;exact i.o.q.1.x (Below.m (aI a.o.t.1 _) i.o.q.1.size)
   |false=>
    clear y;go_wp2_with fail;go_quiet(fail);by_cases I:d=0
    ·have ed:C=0:=by rw[<-a.o.q,a.o.d.1.2.2.2.2.1,a.o.2.1 I];rfl
     subst ed;have O:=al (dO (G.drewN nq) p Y A2 (by exact R));have HD:=al I;clear I R;go_wp2_with fail;refine O.o.m ?_;rintro e Z ⟨rfl,E⟩;have aa:=al E;clear E;go_wp2_with fail;rw[fs]
     go_ret3
     obtain⟨z,g,m,f,u,B,x⟩:=i.o;have L:=xD (key:=key) g m (.inl HD.o);rw[S.o]at L;rw[L]at f;have f:(some X).or c=ceil key l:=f;refine⟨by rw[<-f];rfl,?_⟩;exact i.o.q.1.x (Below.m (aa.o▸(aI a.o.t.1 _)) i.o.q.1.size)
    ·obtain⟨s,rfl⟩: ∃s,d=s+1:=⟨d-1,by omega⟩;have N:=i.o.2.1.kids;have D:M<Q.ks.length:=by rw[N,V.o];omega
     obtain⟨k,W⟩: ∃k,Q.ks[M]?=some k:=⟨_,ao D⟩;obtain⟨t,P⟩: ∃y,aC[M]?=some y:=⟨_,ao (by rw[a.o.d.1.2.2.2.2.1];exact D)⟩;have ap:M<C:=by rw[<-a.o.q,a.o.d.1.2.2.2.2.1];exact D
     obtain⟨bk,ok,a',J,-,-,r2⟩:=a.o.d.1.2.2.2.1.ptr P;simp only[a.o.q,im,true_and]at J;obtain⟨rfl,rfl⟩:=J;have Es:C<=1001:=by rw[<-a.o.q,a.o.d.1.2.2.2.2.1,N];omega
     have O:=al (fk (G.drewN nq) p C Y _ (by omega) (by exact R));have j:=AI W P;clear W P N D I;have i1:(0:Int)<=(M:Int):=by omega
     have i2:(M:Int)<(C:Int):=by omega
     go_wp2_with fail;refine O.o.m ?_;rintro e Z ⟨rfl,E⟩;subst E;go_wp2_with fail;go_roundw
     case rel=>
      obtain⟨z,g,m,f,u,B,x⟩:=i.o;refine⟨s,t,_,k,_,(some X),rfl,rfl,rfl,rfl,(show aG G s t k _ from a.o.d.1.2.2.2.2.2.1 M t k j.o.2 j.o.1).below ?_,g.2.2.2 k (db j.o.1),Up.kid g.kids (by rwa[<-dL Q]at m) j.o.1,?_,u.x (Below.m (aI a.o.t.1 _) u.size),by omega⟩
      ·exact aI (aw _ _) _
      ·rw[AO g m (by rw[x];exact j.o.1),S.o]at f;exact f
     case measure=>obtain⟨z,g,m,f,u,B,x⟩:=i.o;rw[mN (o:=o) (s+1) K _ p Q KK z g B];rw[mN (o:=o) s K _ t k _ (aG.below (show aG G s t k _ from a.o.d.1.2.2.2.2.2.1 M t k j.o.2 j.o.1) (aI (Below.refl _ _) _)) (g.2.2.2 k (List.mem_of_getElem? j.o.1)) (by omega)];omega
  ·have b:Q.ps[posOf key Q.ps]?=none:=List.getElem?_eq_none (by rw[i.o.q.d,V.o];omega);have X:hit key Q.ps=false:=by unfold hit;rw[b]
   have S:=al b;have i3: ¬(M:Int)<(n:Int):=by omega
   rw[X];clear b X ad;by_cases I:d=0
   ·have ed:C=0:=by rw[<-a.o.q,a.o.d.1.2.2.2.2.1,a.o.2.1 I];rfl
    subst ed;have O:=al (dO (G) p Y A2 (by exact R));have HD:=al I;clear I R;go_wp2_with fail;refine O.o.m ?_;rintro e Z ⟨rfl,E⟩;have aa:=al E;clear E;go_wp2_with fail;rw[fs]
    go_ret3
    obtain⟨z,g,m,f,u,B,x⟩:=i.o;have L:=xD (key:=key) g m (.inl HD.o);rw[S.o]at L;rw[L]at f;have f:(none:Option Pr).or c=ceil key l:=f;refine⟨by rw[<-f];rfl,?_⟩;exact i.o.q.1.x (Below.m (aa.o▸a.o.t.1) i.o.q.1.size)
   ·obtain⟨s,rfl⟩: ∃s,d=s+1:=⟨d-1,by omega⟩;have N:=i.o.2.1.kids;have D:M<Q.ks.length:=by rw[N,V.o];omega
    obtain⟨k,W⟩: ∃k,Q.ks[M]?=some k:=⟨_,ao D⟩;obtain⟨t,P⟩: ∃y,aC[M]?=some y:=⟨_,ao (by rw[a.o.d.1.2.2.2.2.1];exact D)⟩;have ap:M<C:=by rw[<-a.o.q,a.o.d.1.2.2.2.2.1];exact D
    obtain⟨bk,ok,a',J,-,-,r2⟩:=a.o.d.1.2.2.2.1.ptr P;simp only[a.o.q,im,true_and]at J;obtain⟨rfl,rfl⟩:=J;have Es:C<=1001:=by rw[<-a.o.q,a.o.d.1.2.2.2.2.1,N];omega
    have O:=al (fk (G) p C Y _ (by omega) (by exact R));have j:=AI W P;clear W P N D I;have i1:(0:Int)<=(M:Int):=by omega
    have i2:(M:Int)<(C:Int):=by omega
    go_wp2_with fail;refine O.o.m ?_;rintro e Z ⟨rfl,E⟩;obtain rfl:G=Z:=E;go_wp2_with fail;go_roundw
    case rel=>
     obtain⟨z,g,m,f,u,B,x⟩:=i.o;refine⟨s,t,_,k,_,c,rfl,rfl,rfl,rfl,(show aG G s t k _ from a.o.d.1.2.2.2.2.2.1 M t k j.o.2 j.o.1).below ?_,g.2.2.2 k (db j.o.1),Up.kid g.kids (by rwa[<-dL Q]at m) j.o.1,?_,u.x (Below.m a.o.t.1 u.size),by omega⟩
     ·exact aw _ _
     ·rw[AO g m (by rw[x];exact j.o.1),S.o]at f;exact f
    case measure=>obtain⟨z,g,m,f,u,B,x⟩:=i.o;rw[mN (o:=o) (s+1) K _ p Q KK z g B];rw[mN (o:=o) s K _ t k _ (aG.below (show aG G s t k _ from a.o.d.1.2.2.2.2.2.1 M t k j.o.2 j.o.1) (Below.refl _ _)) (g.2.2.2 k (List.mem_of_getElem? j.o.1)) (by omega)];omega
def OY(key:List UInt8)(l:List Pr)(w:World)(e:Ending)(w':World):Prop:=
 e=.returned (.tuple #[.string ⟨((look key l).getD []).toArray⟩,rv (if(look key l).isSome then 0 else 14)])/\Below w.heap.size w w'
theorem G9(w:World)(T o:Nat)(l:List Pr)(F:Nat->Nat->Prop)(key:List UInt8)(h:bM w T o l F)(c:1<=key.length)(b:key.length<=64):Calls prog 127 #[r7 T,sd key] w (OY key l w):=by
 have a:=AI (nj w T ⟨key.toArray⟩ (by exact c) (by exact b)) (JW w T o l F key h);clear h c b;go_enter func127,ntmps127;go_wp2_with fail;refine a.o.1.m ?_;rintro e i ⟨rfl,f⟩;obtain rfl:w=i:=f.symm;go_wp2_with fail;refine a.o.2.m ?_;rintro e k ⟨rfl,b⟩;have d:=al b;clear b a
 cases hc:ceil key l with
 |none=>
  have c:=al (pg hc);unfold YX;simp only[oj];clear hc;go_wp2_with fail
  go_ret2
  exact⟨by rw[c.o];rfl,d.o⟩
 |some q=>
  have c:=al (iV hc);unfold YX kOf vOf;simp only[oe,Option.map_some,Option.getD_some,if_true];clear hc;obtain⟨a,g⟩:=q;by_cases b:a=key
  ·subst b;go_wp2_with fail
   go_ret2
   refine⟨?_,d.o⟩;rw[show look a l=some g by simpa using c.o];rfl
  ·have j: ¬(⟨a.toArray⟩:ByteArray)=⟨key.toArray⟩:=fun e=>b (by injection e with e;simpa using e);have m: ¬a.toArray=key.toArray:=fun e=>b (by simpa using e);have n:(a==key)=false:=beq_eq_false_iff_ne.2 b;have h:=al b;go_wp2_with fail
   go_ret2
   refine⟨?_,d.o⟩;rw[show look key l=none by simpa[h.o]using c.o];rfl
theorem Ha(w:World)(T o:Nat)(l:List Pr)(F:Nat->Nat->Prop)(h:bM w T o l F):Calls prog 72 #[r7 T] w fun e a=>e=.returned (rv l.length)/\w=a:=by
 obtain⟨d,r,x,K,a,-⟩:=h;have b:w.cell? ⟨T,1,none⟩=some (rv l.length):=by simp[World.cell?,a]
 clear a;go_enter func72,ntmps72;go_wp2_with fail;go_ret
 exact⟨rfl,rfl⟩
end Go.Proofs.YtehccbdajiiaaaaGreatDoor
