import Derived.Test.YtehccbdajiiaaaaGreatDoorS15
namespace Go.Proofs.YtehccbdajiiaaaaGreatDoor
open Go.Proofs.Tryz
set_option maxRecDepth 100000
set_option maxHeartbeats 16000000
open Go.RowKit
theorem aY.se{w:World}{d a f e m n:Nat}{x:ND}{F:Nat->Nat->Prop}{i:Value}{b:List Nat}{H:Nat->Nat->Nat->Prop}(o:aY w (aB w d) a x F i (.slice (some ⟨f,e,none⟩) m n) b H){j:Nat}(c:j<x.ks.length):
  ∃p A q,w.cell? ⟨f,e+j,none⟩=some (rv p)/\w.cell? ⟨p,0,none⟩=some (.slice A (aT x j).ps.length q):=by
 obtain⟨p,h⟩: ∃y,b[j]?=some y:=⟨_,ao (by rw[o.2.2.2.2.1];exact c)⟩;have k:=o.2.2.2.2.2.1 j p (aT x j) h (dD c);obtain⟨t,s,r,u,g,-,l,-⟩:=aB.base k;obtain⟨A,q,rfl,-⟩:=l.slice;rw[fa]at g;exact⟨p,A,q,o.2.2.2.1.E9 h,(af g).1.1⟩
theorem CX(w:World)(d a i o lo hi:Nat)(x:ND)(F:Nat->Nat->Prop)(W:aB w (d+1) a x F)(u: ∀A D,F A D->A<w.heap.size)(c:wP d o i lo hi x)(s:1<=lo)(n:hi<=900)(f:2<=o)(cj:o<=16):
  Calls prog 216 #[rv a,rm i,rm o] w fun P b=>P=.returned (.tuple #[])/\aB b (d+1) a (jP d x i o) (fun A D=>F A D\/w.heap.size<=A)/\OnlyC F w b:=by
 have B:=c.1;have r:=c.2.1;have q:=c.2.2.1;have g:=c.2.2.2.1;have t:=c.2.2.2.2.2
 have m: ∀j,j<x.ks.length->(aT x j).ps.length<=900/\(aT x j).ks.length<=901/\(d≠0->(aT x j).ks.length=(aT x j).ps.length+1):=by
  intro j p
  have l: ∃h e,fD d o h e (aT x j)/\e<=900:=by
   by_cases P:j=i
   ·subst P;exact⟨_,_,t,by omega⟩
   ·exact⟨_,_,c.kid P p,by omega⟩
  obtain⟨h,e,b,v⟩:=l;have y:=b.len;refine⟨by omega,?_,fun O=>?_⟩
  ·cases d with
   |zero=>rw[b.none];simp
   |succ d=>rw[b.kids];omega
  ·obtain⟨k,rfl⟩: ∃k,d=k+1:=⟨d-1,by omega⟩;exact b.kids
 have z:=W;obtain⟨_,vp,vk,X,H,e,_⟩:=W.open_;obtain⟨l0,p⟩: ∃G,X[i]?=some G:=⟨_,ao (by rw[e.2.2.2.2.1];exact g)⟩;obtain⟨bk,ok,ck,b,-,-,-⟩:=e.2.2.2.1.ptr p;subst b;obtain⟨y,v⟩:=rk (X.length);have j:=e.2.2.2.2.1;rw[v]at e j;obtain⟨⟨-,ZX⟩,-,-⟩:=af e.1;obtain⟨p0,A0,c0,k0,k1⟩:=aY.se e (j:=i) g;obtain⟨Q,h⟩:=rk ((aT x i).ps.length);rw[h]at k1;obtain⟨E,l⟩: ∃E,o=E+1:=⟨o-1,by omega⟩;have b:=BY z u e g q h l m c r n;have j0:(o:Int)-1=(E:Int):=by omega
 have j2:(0:Int)<=(i:Int):=by omega
 have j3:(i:Int)<(y:Int):=by omega
 obtain⟨y1,y2⟩:=KE E (by omega);have ac:y<=901:=by omega
 have C:y=x.ks.length:=j;have k:=m i g;have aa:=al s;clear z u e q m t c B r W p j v s n;by_cases c:E<=Q
 ·have q1:(E:Int)<=(Q:Int):=by omega
  have Y:=al c;clear g l h C k c;go_enter func216,ntmps216;go_wp2_with fail
  first|refine ew (du rfl _ _ _) rfl ?_|refine dj (du rfl _ _ _) rfl ?_
  have e:jP d x i o=x:=by unfold jP;rw[ff (by have:=b.o.q.2.1;have:=b.o.q.d.1;have:=Y.o;omega)]
  rw[e];exact⟨rfl,b.o.1.m (fun A D g=>.inl g),OnlyC.refl _ _⟩
 ·have q1: ¬(E:Int)<=(Q:Int):=by omega
  have Y:=al c;have j:=b.o.q.d.1;have g:=b.o.q.2.1
  have e:jP d x i o=if 0<i/\o-1<(aT x (i-1)).ps.length then uX x (i-1) (eH d (aT x (i-1)) (gV x (i-1)) (aT x i))
    else if i+1<x.ks.length/\o-1<(aT x (i+1)).ps.length then uX x i (gA d (aT x i) (gV x i) (aT x (i+1)))
    else if 0<i then uY x (i-1) (l6 (aT x (i-1)) (gV x (i-1)) (aT x i))else uY x i (l6 (aT x i) (gV x i) (aT x (i+1))):=by
   conv=>lhs;unfold jP
   rw[fb (by omega)]
  have B:=al e;clear l h j g c e;by_cases s:0<i
  ·obtain⟨e,J⟩: ∃G,i=G+1:=⟨i-1,by omega⟩;obtain⟨p2,A2,c2,k2,k3⟩:=aY.se b.o.d.1 (j:=e) (by omega);obtain⟨T,t⟩:=rk ((aT x e).ps.length);rw[t]at k3;have q2:(0:Int)<(i:Int):=by omega
   have q3:(i:Int)-1=(e:Int):=by omega
   have q4:(0:Int)<=(e:Int):=by omega
   have q5:(e:Int)<(y:Int):=by omega
   obtain⟨y3,y4⟩:=KE e (by omega);have c:=AD J t;have z:=b.o.q.t.1 e (by omega);by_cases l:E<T
   ·have q6:(E:Int)<(T:Int):=by omega
    have R:=al l;clear t J l s;go_enter func216,ntmps216;go_wp2_with fail;have h:=al (Fb w d a e i x F b.o.1 b.o.2.1 c.o.1 (by have:=c.o.1;omega) b.o.q.1 (by have:=b.o.q.q.2.1;have:=b.o.q.q.d;omega) (by have:=c.o.2;have:=R.o;omega) z.1 (by rw[show e+1=i from c.o.1.symm];exact k.1) z.2.2 (by rw[show e+1=i from c.o.1.symm];exact k.2.1));refine h.o.m ?_;rintro P L ⟨rfl,j,f⟩;have g:=AD j f;clear j f h;go_wp2_with fail
    first|refine ew (du rfl _ _ _) rfl ?_|refine dj (du rfl _ _ _) rfl ?_
    rw[B.o,ff ⟨by have:=c.o.1;omega,by rw[show i-1=e by have:=c.o.1;omega];have:=c.o.2;have:=R.o;have:=b.o.q.d.1;omega⟩,show i-1=e by have:=c.o.1;omega];have n:=g.o.1;rw[show e+1=i from c.o.1.symm]at n;exact⟨rfl,n,g.o.2⟩
   ·have q6: ¬(E:Int)<(T:Int):=by omega
    have R:=al l
    have I: ¬(0<i/\o-1<(aT x (i-1)).ps.length):=by rintro⟨_,C⟩;rw[show i-1=e by omega,t]at C;have:=b.o.q.d.1;omega
    have D:=al I;clear l I;obtain⟨q,p⟩:=rl (i+1);have q7:(i:Int)+1=(q:Int):=by omega
    obtain⟨y5,y6⟩:=KE q (by omega);have q8:(0:Int)<=(q:Int):=by omega
    by_cases l:i+1<x.ks.length
    ·obtain⟨p3,A3,c3,U,S⟩:=aY.se b.o.d.1 (j:=i+1) l;rw[<-p]at U;obtain⟨v,m⟩:=rk ((aT x (i+1)).ps.length);rw[m]at S;have Z:(q:Int)<(y:Int):=by omega
     have r:=b.o.q.t.1 (i+1) l;have A:=l;have N:=AD m p;by_cases u:E<v
     ·have V:(E:Int)<(v:Int):=by omega
      have K:=al u;clear t J s;clear m u l p;go_enter func216,ntmps216;go_wp2_with fail;have h:=al (r9 w d a i x F b.o.1 b.o.2.1 A b.o.q.1 (by have:=b.o.q.q.2.1;have:=b.o.q.q.d;omega) (by have:=N.o.1;have:=K.o;omega) k.1 r.1 (fun O=>by have:=r.2.2 O;omega) k.2.1 r.2.1);refine h.o.m ?_;rintro P L ⟨rfl,j,f⟩;have g:=AD j f;clear j f h;go_wp2_with fail
      first|refine ew (du rfl _ _ _) rfl ?_|refine dj (du rfl _ _ _) rfl ?_
      rw[B.o,fb D.o,ff ⟨A,by have:=N.o.1;have:=K.o;have:=b.o.q.d.1;omega⟩];exact⟨rfl,g.o.1,g.o.2⟩
     ·have V: ¬(E:Int)<(v:Int):=by omega
      have M: ¬(i+1<x.ks.length/\o-1<(aT x (i+1)).ps.length):=by rintro⟨_,C⟩;rw[m]at C;have:=b.o.q.d.1;omega
      have G:=al M;clear t J s;clear m u l p M;go_enter func216,ntmps216;go_wp2_with fail;have h:=al (px w d a e x F b.o.1 b.o.2.1 (by have:=c.o.1;omega) b.o.q.1 (by have:=b.o.q.q.2.1;have:=b.o.q.q.d;omega) z.1 (by rw[show e+1=i from c.o.1.symm];exact k.1) z.2.1 (by rw[show e+1=i from c.o.1.symm];exact k.2.1));refine h.o.m ?_;rintro P L ⟨rfl,j,f⟩;have g:=AD j f;clear j f h;go_wp2_with fail
      first|refine ew (du rfl _ _ _) rfl ?_|refine dj (du rfl _ _ _) rfl ?_
      rw[B.o,fb D.o,fb G.o];rw[ff (by have:=c.o.1;omega),show i-1=e by have:=c.o.1;omega];have n:=g.o.1;rw[show e+1=i from c.o.1.symm]at n;exact⟨rfl,n,g.o.2⟩
    ·have Z: ¬(q:Int)<(y:Int):=by omega
     have G:=al (show ¬(i+1<x.ks.length/\o-1<(aT x (i+1)).ps.length)from fun W=>l W.1);clear t J s;clear l p;go_enter func216,ntmps216;go_wp2_with fail;have h:=al (px w d a e x F b.o.1 b.o.2.1 (by have:=c.o.1;omega) b.o.q.1 (by have:=b.o.q.q.2.1;have:=b.o.q.q.d;omega) z.1 (by rw[show e+1=i from c.o.1.symm];exact k.1) z.2.1 (by rw[show e+1=i from c.o.1.symm];exact k.2.1));refine h.o.m ?_;rintro P L ⟨rfl,j,f⟩;have g:=AD j f;clear j f h;go_wp2_with fail
     first|refine ew (du rfl _ _ _) rfl ?_|refine dj (du rfl _ _ _) rfl ?_
     rw[B.o,fb D.o,fb G.o];rw[ff (by have:=c.o.1;omega),show i-1=e by have:=c.o.1;omega];have n:=g.o.1;rw[show e+1=i from c.o.1.symm]at n;exact⟨rfl,n,g.o.2⟩
  ·have q2: ¬(0:Int)<(i:Int):=by omega
   have I: ¬(0<i/\o-1<(aT x (i-1)).ps.length):=fun W=>s W.1;have D:=al I;have c:=al s;clear I;obtain⟨q,p⟩:=rl (i+1);have q7:(i:Int)+1=(q:Int):=by omega
   obtain⟨y5,y6⟩:=KE q (by omega);have q8:(0:Int)<=(q:Int):=by omega
   by_cases l:i+1<x.ks.length
   ·obtain⟨p3,A3,c3,U,S⟩:=aY.se b.o.d.1 (j:=i+1) l;rw[<-p]at U;obtain⟨v,m⟩:=rk ((aT x (i+1)).ps.length);rw[m]at S;have Z:(q:Int)<(y:Int):=by omega
    have r:=b.o.q.t.1 (i+1) l;have A:=l;have N:=AD m p;by_cases u:E<v
    ·have V:(E:Int)<(v:Int):=by omega
     have K:=al u;clear s;clear m u l p;go_enter func216,ntmps216;go_wp2_with fail;have h:=al (r9 w d a i x F b.o.1 b.o.2.1 A b.o.q.1 (by have:=b.o.q.q.2.1;have:=b.o.q.q.d;omega) (by have:=N.o.1;have:=K.o;omega) k.1 r.1 (fun O=>by have:=r.2.2 O;omega) k.2.1 r.2.1);refine h.o.m ?_;rintro P L ⟨rfl,j,f⟩;have g:=AD j f;clear j f h;go_wp2_with fail
     first|refine ew (du rfl _ _ _) rfl ?_|refine dj (du rfl _ _ _) rfl ?_
     rw[B.o,fb D.o,ff ⟨A,by have:=N.o.1;have:=K.o;have:=b.o.q.d.1;omega⟩];exact⟨rfl,g.o.1,g.o.2⟩
    ·have V: ¬(E:Int)<(v:Int):=by omega
     have M: ¬(i+1<x.ks.length/\o-1<(aT x (i+1)).ps.length):=by rintro⟨_,C⟩;rw[m]at C;have:=b.o.q.d.1;omega
     have G:=al M;clear s;clear m u l p M;go_enter func216,ntmps216;go_wp2_with fail;have h:=al (px w d a i x F b.o.1 b.o.2.1 A b.o.q.1 (by have:=b.o.q.q.2.1;have:=b.o.q.q.d;omega) k.1 r.1 k.2.1 r.2.1);refine h.o.m ?_;rintro P L ⟨rfl,j,f⟩;have g:=AD j f;clear j f h;go_wp2_with fail
     first|refine ew (du rfl _ _ _) rfl ?_|refine dj (du rfl _ _ _) rfl ?_
     rw[B.o,fb D.o,fb G.o];rw[fb c.o];have n:=g.o.1;exact⟨rfl,n,g.o.2⟩
   ·exfalso;have n:=b.o.q.q.1.1;have C:=b.o.q.1;have e:=aa.o;omega
def CY(d o:Nat):Prop:= ∀(w:World) (e b a:Nat) (x:ND) (F:Nat->Nat->Prop),aB w d e x F->(∀c q,F c q->c<w.heap.size)->fD d o b a x->1<=b->a<=900->
 Calls prog 215 #[rv e,rm o] w fun b a=>b=.returned (Sy (gw d x o).2)/\aB a d e (gw d x o).1 (fun c q=>F c q\/w.heap.size<=c)/\OnlyC F w a
theorem PH{w:World}{B:Nat}{d a v0 v1:Value}{t:TypeId}(h:w.heap[B]?=some (.cells #[d,a] t (0,0))):((w.setCell ⟨B,0,none⟩ v0).setCell ⟨B,1,none⟩ v1).heap[B]?=some (.cells #[v0,v1] t (0,0)):=by have c:=dp w B 0 _ _ v0 h;have b:=dp _ B 1 _ _ v1 c;simpa using b
theorem Mk(o:Nat):CY 0 o:=by
 intro E s T V x O F l t J G;have j:=t.none;have B:=t.len;obtain⟨r,n⟩: ∃r,x.ps.length=r+1:=⟨x.ps.length-1,by omega⟩;obtain⟨z,g⟩: ∃p,x.ps[r]?=some p:=⟨_,ao (by omega)⟩
 have u:gw 0 x o=(.mk (x.ps.take r) [],z):=by show(ND.mk (x.ps.take (x.ps.length-1)) [],x.ps[x.ps.length-1]?.getD ([],[]))=_;rw[n,ox,g];rfl
 obtain⟨f,i⟩:=rj E (sh (#[]) (#[]));have p:=F.below f;go_enter func215,ntmps215;go_upto_region 1 with fail;generalize E.alloc (sh (#[]) (#[]))=h at f i p⊢;obtain⟨c,k⟩:=rk (E.heap.size);rw[k]at i⊢;obtain⟨I,R,M,K,H,d,-⟩:=p.open_;have a:K=[]:=de (by rw[d.2.2.2.2.1,j];rfl);subst a;obtain⟨Y,ol,X,a,-,-,-⟩:=d.2.2.1.pair g;subst a;obtain⟨C,D,a,-⟩:=d.2.2.2.1.slice;have a:M=.slice C 0 D:=by simpa using a
 subst a;obtain⟨P,y⟩:=rk (x.ps.length);rw[y]at d;have v: ∀e q,O e q->e<h.heap.size:=fun e q b=>da (l e q b) f.size;have a:=BT d l v f i k j g n u;obtain⟨⟨m,w⟩,-,-⟩:=af d.1;have A:=al (ek h s D C w);have j1:(P:Int)-1=(r:Int):=by omega
 have Z:(0:Int)<=(r:Int):=by omega
 have j3:(r:Int)<(P:Int):=by omega
 have j4:P<=900:=by omega
 obtain⟨y1,W⟩:=KE r (by omega);obtain⟨⟨L,N⟩,-,-⟩:=d.2.2.1.lF g;clear F l t J G j B n g u f i p k I d y v;go_wp2_with fail;refine A.o.m ?_;rintro f Q ⟨rfl,d⟩;subst d;clear A;go_upto_region 4 with fail;obtain⟨i,g⟩:=rj h (sh z.1.toArray z.2.toArray);generalize h.alloc (sh z.1.toArray z.2.toArray)=B at i g⊢;obtain⟨u,j⟩:=rk (h.heap.size);rw[j]at g⊢;have h:=aY.below (d:=0) a.o.1 i;clear m w L N;obtain⟨⟨m,-⟩,-,-⟩:=af h.1;have d:=AI i g j h;clear i g j h;go_wp2_with fail;refine(l8 B (H 1) _ (x.ps.map ay) r _ _ rfl (by simp) d.o.q.2.1 (by rw[fa];have:=a.o.q.q.1;omega) (by rw[fa];have:=a.o.q.q.1;omega) (dL _)).m ?_;rintro f l ⟨S,rfl,i,k⟩;rw[<-mc,<-lx,<-gR]at i;have n:x.ps.drop (r+1)=[]:=eR (by have:=a.o.q.q.1;omega);rw[n,fs]at i;obtain⟨g,j,t,-⟩:=i.slice;obtain⟨h,p⟩:=rk (((x.ps.take r).map ay).length);rw[p]at t;subst t;clear p n m;have n:=k.heap d.o.t.1 (fun q b=>a.o.1.own.2.1 1 0 s q (by decide) b (a.o.1.2.1 q));have p: ∀e,E.heap.size<=e-> ∀q,¬O e q:=fun e L q b=>by have:=a.o.2.1 e q b;omega
 have y:=k.heap (qt d.o.1 a.o.q.1) (fun q b=>p c (by have:=a.o.q.2.1;omega) q (a.o.1.own.1 1 _ q b));have A:=k.heap d.o.2.1 (fun q b=>p u (by have:=a.o.t.1.size;have:=d.o.d.1;omega) q (a.o.1.own.1 1 _ q b));have G: ¬c=s:=fun f=>p c (by have:=a.o.q.2.1;omega) 0 (a.o.1.own.1 0 _ 0 (f▸a.o.1.2.1 0));have I: ¬u=s:=fun f=>p u (by have:=a.o.t.1.size;have:=d.o.d.1;omega) 0 (a.o.1.own.1 0 _ 0 (f▸a.o.1.2.1 0));have v:=AF i k n;obtain⟨⟨m,-⟩,N,-⟩:=af n;clear i k n;go_upto_region 5 with fail;have k:=(OnlyC.aR l s 0 (.slice g h j)).heap y (fun q f=>G f.1);have t:=(OnlyC.aR l s 0 (.slice g h j)).heap A (fun q f=>I f.1);have J:=d.o.t
 have i:=aY.pP (d:=0) (w':=l.setCell ⟨s,0,none⟩ (.slice g h j)) J (fun _=>a.o.q.d.1) (fun e q b=>da (a.o.d.1 e q b) d.o.1.size) (ju v.o.d (.slice g h j))
  ((v.o.2.1.m (fun e q _ b=>.inl b)).x (OnlyC.aR l s 0 (.slice g h j)) (fun e q _ f=>.inr f.1)) ((v.o.1.only (OnlyC.aR l s 0 (.slice g h j)) (fun e q b f=>a.o.1.own.2.2 1 e q (by decide) b f.1)).m (fun e q b=>.inl b))
 clear m N y A;generalize l.setCell ⟨s,0,none⟩ (.slice g h j)=n at k t i⊢;obtain⟨m,w⟩:=fA t;obtain⟨N,x1⟩:=fA k;have f0:n.frozen? ⟨c,0,none⟩=false:=frozen_of_heap k 0;have U:n.frozen? ⟨c,1,none⟩=false:=frozen_of_heap k 1;have y:=AD i k;clear i k t;go_wp2_with fail;have A:=PH (v0:=r7 z.1) (v1:=r7 z.2) y.o.2;have k:Below E.heap.size E B:=a.o.t.1.x (d.o.1.m a.o.t.1.size);have t:OnlyC (fun e _=>e=c) n ((n.setCell ⟨c,0,none⟩ (r7 z.1)).setCell ⟨c,1,none⟩ (r7 z.2)):=((OnlyC.aR n c 0 _).m (fun e q _ f=>f.1)).x (OnlyC.aR _ c 1 _) (fun e q _ f=>f.1);refine dj (results_cell_row rfl _ _ _ _ _ _ _ rfl A underlying220 rfl (by kernel_rfl)) rfl ?_;rw[a.o.q.q.2];have i:=y.o.1;rw[a.o.q.d.1]at i;refine⟨rfl,?_,(((oS k O).x i.2 (fun _ _ _ F=>F)).x t (fun e q L f=>by subst f;have:=a.o.q.2.1;omega))⟩;refine(i.1.only t (fun e q b f=>?_)).m (fun e q b=>b.imp id (fun F=>dd k.size F));subst f;have e:=a.o.q.2.1;have f:=oT a.o.q.1;have n:=d.o.1.size;rcases b with b|b
 ·have:=a.o.2.1 _ q b;omega
 ·omega
theorem TM(d o:Nat)(Q:CY d o)(P:2<=o)(cj:o<=16):CY (d+1) o:=by
 intro S a U Y x F E w j K I;have T:=j.len;have W:=j.kids;obtain⟨m,X⟩: ∃m,x.ks.length=m+1:=⟨x.ks.length-1,by omega⟩;have J:x.ks.length-1=m:=by omega
 have G:gw (d+1) x o=(jP d (qO x m (gw d (aT x m) o).1) m o,(gw d (aT x m) o).2):=by show(jP d (qO x (x.ks.length-1) (gw d (aT x (x.ks.length-1)) o).1) (x.ks.length-1) o,(gw d (aT x (x.ks.length-1)) o).2)=_;rw[J]
 have p:=dD (x:=x) (i:=m) (by omega);have A:=j.2.2.2 _ (db p);have C:=(rJ P A (by omega)).2;have L:=kH j (i:=m) (by omega) (by rw[show o-1-1=o-2 by omega]at C;exact C);obtain⟨g,n⟩:=rj S (sh (#[]) (#[]));have y:=E.below g;go_enter func215,ntmps215;go_upto_region 1 with fail;generalize S.alloc (sh (#[]) (#[]))=k at g n y⊢;obtain⟨e,v⟩:=rk (S.heap.size);rw[v]at n⊢;obtain⟨-,vp,vk,M,H,f,-⟩:=y.open_;obtain⟨l,t⟩: ∃b,M[m]?=some b:=⟨_,ao (by rw[f.2.2.2.2.1];omega)⟩;obtain⟨bk,ok,V,b,-,-,Z⟩:=f.2.2.2.1.ptr t;subst b;obtain⟨u,O⟩:=rk (M.length);have N:=f.2.2.2.2.1;rw[O]at f N;have z: ∀h q,F h q->h<k.heap.size:=fun h q b=>da (w h q b) g.size;have i:=al (Q k l (o-1) (2*o-1) (aT x m) (H (m+3)) (f.2.2.2.2.2.1 m l _ t p) (fun h q b=>z h q (f.own.1 _ h q b)) A (by omega) (by omega));obtain⟨⟨r,s⟩,D⟩: ∃c,(gw d (aT x m) o).2=c:=⟨_,rfl⟩;have c:=B9 f w z g n v t p L G D K I;obtain⟨⟨-,B⟩,-,-⟩:=af f.1;have R:=al (fy k a u V _ (by omega) B);have j1:(u:Int)-1=(m:Int):=by omega
 have j2:(0:Int)<=(m:Int):=by omega
 have j3:(m:Int)<(u:Int):=by omega
 have j4:u<=901:=by omega
 obtain⟨y1,y2⟩:=KE m (by omega);rw[D]at i;unfold Sy at i;simp only at i;clear E w j K I T W X J G p A C L g n y v t f N O z D Q;go_wp2_with fail;refine R.o.m ?_;rintro t I ⟨rfl,f⟩;subst f;clear R;go_wp2_with fail;refine i.o.m ?_;rintro t p ⟨rfl,w,f⟩;clear i B Z;have j:=c.o.1.Ka c.o.d.1 c.o.q.t.1 c.o.q.d.1 f w;obtain⟨g,i⟩:=rj p (sh r.toArray s.toArray);have v: ∀h,S.heap.size<=h-> ∀q,¬F h q:=fun h z q b=>by have:=c.o.2.1 h q b;omega
 have n:=f.heap c.o.q.1 (fun q b=>v e (by have:=c.o.q.2.1;omega) q (c.o.1.own.1 _ _ q b));have y:=AI j g i n;clear j g i n w f v;go_upto_region 8 with fail;have f:=y.o;clear y;generalize p.alloc (sh r.toArray s.toArray)=A at f⊢;obtain⟨j,g,i,n⟩:=f;obtain⟨J,w⟩:=rk (p.heap.size);rw[w]at i⊢;have y:=qt g n;have v:=j.1.bound.below g;have f:=AN j.2 g i y w v;have D:S.heap.size<=k.heap.size:=c.o.t.1.size;have C:=al (CX A d a m o U Y _ _ v (fun h q b=>da b.2 g.size) c.o.q.q.1 c.o.q.q.t.1 c.o.q.q.q P cj);clear j g i n y v w;go_wp2_with fail;refine C.o.m ?_;rintro t g ⟨rfl,y,j⟩;clear C;have C:=oT c.o.q.1
 have v: ∀q,¬((F e q\/k.heap.size<=e)/\e<p.heap.size):=fun q b=>by
  rcases b.1 with i|i
  ·have:=c.o.2.1 _ q i;have:=c.o.q.2.1;omega
  ·omega
 have i:=j.heap f.o.t.1 v;have w:=j.heap f.o.d.1 (fun q b=>by have:=b.2;have:=f.o.q.1;omega);obtain⟨N,B⟩:=fA w;obtain⟨G,L⟩:=fA i;have O:g.frozen? ⟨e,0,none⟩=false:=frozen_of_heap i 0;have K:g.frozen? ⟨e,1,none⟩=false:=frozen_of_heap i 1;have n:=AI y j i v;clear y j i w v;go_wp2_with fail;have w:=PH (v0:=r7 r) (v1:=r7 s) n.o.d.1;have i:OnlyC (fun h _=>h=e) g ((g.setCell ⟨e,0,none⟩ (r7 r)).setCell ⟨e,1,none⟩ (r7 s)):=((OnlyC.aR g e 0 _).m (fun h q _ t=>t.1)).x (OnlyC.aR _ e 1 _) (fun h q _ t=>t.1);refine dj (results_cell_row rfl _ _ _ _ _ _ _ rfl w underlying220 rfl (by kernel_rfl)) rfl ?_;rw[c.o.q.q.2.1,c.o.q.q.d.1];have v:OnlyC F k A:=f.o.1.x (oS f.o.2.1 F) (fun _ _ _ E=>E);have j:OnlyC F S g:=((oS c.o.t.1 F).x v (fun _ _ _ E=>E)).x n.o.2.1 (fun h q z b=>b.1.elim id (fun E=>by omega));refine⟨rfl,(n.o.1.only i (fun h q b t=>?_)).m (fun h q b=>?_),j.x i (fun h q z t=>by subst t;have:=c.o.q.2.1;omega)⟩
 ·subst t;rcases b with b|b
  ·exact n.o.t q b
  ·have:=oT f.o.t.1;omega
 ·rcases b with b|b
  ·exact b.1.imp id (fun E=>by omega)
  ·have:=f.o.2.1.size;have:=f.o.1.size;exact .inr (by omega)
theorem KI{o:Nat}(a:2<=o)(b:o<=16): ∀d,CY d o
 |0=>Mk o
 |d+1=>TM d o (KI a b d) a b
def PI(d o:Nat)(key:List UInt8):Prop:= ∀(w:World) (c b a:Nat) (x:ND) (F:Nat->Nat->Prop),aB w d c x F->(∀e q,F e q->e<w.heap.size)->fD d o b a x->(1<=b\/d=0)->a<=900->Up (aZ d x)->
 Calls prog 172 #[rv c,r7 key,rm o] w (Ij d c (nB d x key o) F (look key (aZ d x)) w)
theorem PJ(o:Nat)(key:List UInt8):PI 0 o key:=by
 intro w T lo j x F S K p _ V P;have G:=p.none;have U:=p.len;have N:=xm p P;have u:x.ps.length<=1000:=by omega
 have z:=eT key x.ps;have f:=al (find_ok w F T x key S.base N u);obtain⟨X,j⟩:=rk (posOf key x.ps);rw[j]at f z;have d:=AM S K G j u;by_cases a:hit key x.ps=true
 ·obtain⟨v,i⟩:=gh a;rw[j]at i;have k:=AD a i;rw[a]at f;clear S K p G U N u a j P V;go_enter func172,ntmps172;go_wp2_with fail;refine f.o.m ?_;rintro R l ⟨rfl,e⟩;have h:=d.o.1.below e;obtain⟨E,vp,Q,I,H,b,-⟩:=h.open_;have D:I=[]:=de (by rw[b.2.2.2.2.1,d.o.d.1];rfl);subst D;obtain⟨bl,ol,cl,c,-,-,-⟩:=b.2.2.1.pair i;subst c;obtain⟨m,q,g,-⟩:=b.2.2.2.1.slice;have g:Q=.slice m 0 q:=by simpa using g
  subst g;obtain⟨n,y⟩:=rk (x.ps.length);rw[y]at b z;have t:=(aw.1 i).1;have c:=AF b e y;obtain⟨⟨B,r⟩,-,-⟩:=af b.1;have s:=al (ek l T q m r);obtain⟨⟨Y,Z⟩,-,-⟩:=b.2.2.1.lF i;have j2:(0:Int)<=(X:Int):=by omega
  have j3:(X:Int)<(n:Int):=by omega
  have j4:n<=1000:=by rw[<-y];exact d.o.q
  clear f h E b e y i t z;go_wp2_with fail;refine s.o.m ?_;rintro R W ⟨rfl,i⟩;subst i;go_wp2_with fail;refine s.o.m ?_;rintro R W ⟨rfl,i⟩;subst i;clear s r;go_wp2_with fail;have t:=(aw.1 k.o.2).1;refine(l8 l (H 1) _ (x.ps.map ay) X _ _ rfl (by first|rfl|simp|omega) c.o.1.2.2.1 (by rw[fa];exact t) (by rw[fa];exact d.o.q) (dL _)).m ?_;rintro R O ⟨v9,rfl,A,M⟩;rw[<-mc,<-lx,<-gR]at A;obtain⟨y,C,L,-⟩:=A.slice;obtain⟨z,J⟩:=rk (((x.ps.take X++x.ps.drop (X+1)).map ay).length);rw[J]at L;subst L;clear J B Y Z t;have J:=M.heap c.o.1.1 (fun t a=>c.o.1.own.2.1 1 0 T t (by decide) a (c.o.1.2.1 t));have L:=AF A M J;obtain⟨⟨B,-⟩,zf,-⟩:=af J;clear A M J;go_wp2_with fail
  go_ret2
  have Y: ∀A t,F A t->A<l.heap.size:=fun A t a=>da (d.o.2.1 A t a) c.o.2.1.size
  have J:=aY.pP (d:=0) (w':=O.setCell ⟨T,0,none⟩ (.slice y z C)) c.o.1 (fun _=>d.o.d.1) Y (ju L.o.d (.slice y z C))
   ((L.o.2.1.m (fun A t _ a=>.inl a)).x (OnlyC.aR O T 0 (.slice y z C)) (fun A t _ R=>.inr R.1)) ((L.o.1.only (OnlyC.aR O T 0 (.slice y z C)) (fun A t a R=>c.o.1.own.2.2 1 A t (by decide) a R.1)).m (fun A t a=>.inl a))
  rw[d.o.d.1]at J;have M:=d.o.t.1;rw[AK k.o.1,M];have Z:look key x.ps=some v:=tj (by rw[M];exact k.o.2);rw[show look key (aZ 0 x)=some v from Z];exact⟨rfl,J.1.m (fun A t a=>a.imp id (fun S=>dd c.o.2.1.size S)),(oS c.o.2.1 F).x J.2 (fun _ _ _ S=>S)⟩
 ·simp only[Bool.not_eq_true]at a;have k:=al a;rw[a]at f;clear S K p G U N u a j P V;go_enter func172,ntmps172;go_wp2_with fail;refine f.o.m ?_;rintro R l ⟨rfl,e⟩;have h:=d.o.1.below e;obtain⟨E,vp,Q,I,H,b,-⟩:=h.open_;have D:I=[]:=de (by rw[b.2.2.2.2.1,d.o.d.1];rfl);subst D;obtain⟨m,q,g,-⟩:=b.2.2.2.1.slice;have g:Q=.slice m 0 q:=by simpa using g
  subst g;have c:=AD h e;obtain⟨⟨B,r⟩,-,-⟩:=af b.1;have s:=al (ek l T q m r);clear f h E b e B r;go_wp2_with fail;refine s.o.m ?_;rintro R W ⟨rfl,i⟩;subst i;go_wp2_with fail
  go_ret2
  rw[wT k.o,show look key (aZ 0 x)=none from Ej k.o];exact⟨rfl,c.o.1.m (fun A t a=>.inl a),oS c.o.2 F⟩
theorem XO(d o:Nat)(key:List UInt8)(B:PI d o key)(E:2<=o)(J:o<=16)(w:World)(a lo hi:Nat)(x:ND)(F:Nat->Nat->Prop)(t:aB w (d+1) a x F)(z: ∀h q,F h q->h<w.heap.size)(e:fD (d+1) o lo hi x)(r:1<=lo)(p:hi<=900)(l:Up (aZ (d+1) x))(b:hit key x.ps=false):
  Calls prog 172 #[rv a,r7 key,rm o] w (Ij (d+1) a (nB (d+1) x key o) F (look key (aZ (d+1) x)) w):=by
 have G:=e.len;have n:=e.kids;have A:=xm e l;have v:x.ps.length<=1000:=by omega
 have u:=eT key x.ps;have j:=al (find_ok w F a x key t.base A v);rw[b]at j;have f:=dD (x:=x) (i:=posOf key x.ps) (by omega);have k:=e.2.2.2 _ (db f)
 have i:Up (aZ d (aT x (posOf key x.ps))):=by have g:=l;rw[<-dU x]at g;exact Up.kid n g f
 have c:=(Cu E key k (.inl (by omega)) i).2;have m:=kH e (i:=posOf key x.ps) (by omega) (by rw[show o-1-1=o-2 by omega]at c;exact c)
 have s:look key (aZ (d+1) x)=look key (aZ d (aT x (posOf key x.ps))):=by have g:=l;rw[<-dU x]at g;rw[<-dU x];exact Cv n g b f
 rw[Ct b,s];clear s c;obtain⟨s,y⟩:=rk (posOf key x.ps);rw[y]at j u f k i m⊢;have c:=BE t z f k i m r p B;clear t z e r p l b A f k i m y B;go_enter func172,ntmps172;go_wp2_with fail;refine j.o.m ?_;rintro K m ⟨rfl,i⟩;have z:=c.o.1.below i;obtain⟨-,M,O,y,T,e,-⟩:=z.open_;obtain⟨L,k⟩: ∃f,y[s]?=some f:=⟨_,ao (by rw[e.2.2.2.2.1];omega)⟩;obtain⟨P,N,H,f,-,-,I⟩:=e.2.2.2.1.ptr k;subst f;obtain⟨r,C⟩:=rk (y.length);have A:=e.2.2.2.2.1;rw[C]at e A;have l: ∀h q,F h q->h<m.heap.size:=fun h q b=>da (c.o.2.1 h q b) i.size;have B:=al (c.o.q.q m L (o-1) (2*o-1) (aT x s) (T (s+3)) (e.2.2.2.2.2.1 s L _ k c.o.d.1) (fun h q b=>l h q (e.own.1 _ h q b)) c.o.t.1 (.inl (by omega)) (by omega) c.o.q.1);have f:=AI e i l k;obtain⟨⟨-,D⟩,-,-⟩:=af e.1;have p:=al (fy m a r H _ (by omega) D);have Q:(0:Int)<=(s:Int):=by omega
 have S:(s:Int)<(r:Int):=by omega
 have R:r<=1001:=by omega
 clear j z e i l k C A G n v u;go_wp2_with fail;refine p.o.m ?_;rintro K k ⟨rfl,e⟩;subst e;go_wp2_with fail;refine p.o.m ?_;rintro K k ⟨rfl,e⟩;subst e;clear p;go_wp2_with fail;refine B.o.m ?_;rintro K k ⟨rfl,p,v⟩;obtain⟨A,e⟩:=rk ((⟨((look key (aZ d (aT x s))).getD []).toArray⟩:ByteArray));obtain⟨C,i⟩:=rk ((look key (aZ d (aT x s))).isSome);rw[e,i];have n:=AD e i;have l:=f.o.1.Ka f.o.d.1 c.o.d.1 f.o.t v p;have j:=l.1.bound;have u:=AD l.2 j;have z:=al (CX k d a s o lo hi _ _ j (fun h q b=>b.2) c.o.q.2.1 c.o.q.d.1 c.o.q.t.1 E J);clear B D I l j p v e i;go_wp2_with fail;refine z.o.m ?_;rintro K p ⟨rfl,j,e⟩;have i:=AD j e;clear z j e;go_wp2_with fail
 go_ret2
 have j:=f.o.2.1.size;have l:=u.o.1.size;refine⟨by rw[n.o.1,n.o.2];rfl,i.o.1.m (fun h q b=>?_),((oS f.o.2.1 F).x u.o.1 (fun _ _ _ t=>t)).x i.o.2 (fun h q e b=>b.1.elim id (fun t=>by omega))⟩;rcases b with b|b
 ·exact b.1.imp id (fun t=>by omega)
 ·exact .inr (by omega)
theorem TP(d o:Nat)(key:List UInt8)(J:2<=o)(V:o<=16)(w:World)(a lo hi:Nat)(x:ND)(F:Nat->Nat->Prop)(u:aB w (d+1) a x F)(A: ∀j q,F j q->j<w.heap.size)(c:fD (d+1) o lo hi x)(t:1<=lo)(n:hi<=900)(m:Up (aZ (d+1) x))(b:hit key x.ps=true):
  Calls prog 172 #[rv a,r7 key,rm o] w (Ij (d+1) a (nB (d+1) x key o) F (look key (aZ (d+1) x)) w):=by
 have aa:=c.len;have R:=c.kids;have B:=xm c m;have N:x.ps.length<=1000:=by omega
 have G:=eT key x.ps;obtain⟨v,f⟩:=gh b
 have C:look key (aZ (d+1) x)=some v:=by have M:=m;rw[<-dU x]at M⊢;exact wU R M b f
 have k:=al (find_ok w F a x key u.base B N);rw[b]at k;have h:=dD (x:=x) (i:=posOf key x.ps) (by omega);have g:=c.2.2.2 _ (db h);have l:=(rJ J g (by omega)).2;rw[Ei b,C];obtain⟨i,y⟩:=rk (posOf key x.ps);rw[y]at k G h g l f⊢;obtain⟨⟨p,r⟩,Y⟩: ∃e,(gw d (aT x i) o).2=e:=⟨_,rfl⟩;rw[Y];have ac:=(aw.1 f).1;have s:fD (d+1) o lo hi (oP x i (p,r)):=⟨by simp[oP];omega,by simp[oP];omega,by simp[oP];omega,c.2.2.2⟩;have z:=kH s (i:=i) (by show i<x.ks.length;omega) (by rw[show o-1-1=o-2 by omega]at l;exact l);have e:=BE u A h g f z t n Y;clear u A c t n m b B h g l z y f s C;go_enter func172,ntmps172;go_wp2_with fail;refine k.o.m ?_;rintro Z n ⟨rfl,h⟩;have P:=e.o.1.below h;obtain⟨-,vp,vk,O,H,g,-⟩:=P.open_;obtain⟨l,A⟩: ∃y,O[i]?=some y:=⟨_,ao (by rw[g.2.2.2.2.1];omega)⟩;obtain⟨z,y,Q,c,-,-,T⟩:=g.2.2.2.1.ptr A;subst c;obtain⟨s,t,cn,c,-,-,D,I,-⟩:=g.2.2.1.pair e.o.q.1;subst c;obtain⟨B,S⟩:=rk (O.length);obtain⟨U,m⟩:=rk (x.ps.length);have f:=g.2.2.2.2.1;have L:=g.2.2.2.1.Fa (i:=i) (by rw[f];omega);rw[S]at g f;rw[m]at g;have K: ∀j q,F j q->j<n.heap.size:=fun j q b=>da (e.o.2.1 j q b) h.size;have c:=AN g h K A L m;obtain⟨⟨X,C⟩,-,-⟩:=af g.1;have E:=al (fy n a B Q _ (by omega) C);have j2:(0:Int)<=(i:Int):=by omega
 have j3:(i:Int)<(B:Int):=by omega
 have j4:B<=1001:=by omega
 have j5:(i:Int)<(U:Int):=by omega
 have W:=xF X C T;clear k P g h K A S f aa R N G L m ac;go_wp2_with fail;refine E.o.m ?_;rintro Z S ⟨rfl,g⟩;subst g;go_wp2_with fail;refine E.o.m ?_;rintro Z S ⟨rfl,g⟩;subst g;clear E;go_upto_region 11 with fail;clear X C T D I;refine pt (S:=(fun g=>g.cell? ⟨a,0,none⟩=some (.slice (some ⟨s,t,none⟩) U cn)/\g.cell? ⟨a,1,none⟩=some (.slice (some ⟨z,y,none⟩) B Q)/\g.cell? ⟨z,y+i,none⟩=some (rv l))) (by kernel_rfl) W (fun g=>?_);generalize m:World.drew n=A at g⊢;have k:Below n.heap.size n A:=m▸(bd _ _).drew;have h:=AD (aY.below (d:=d+1) c.o.1 k) k;clear m W k;refine bj [0,1,2,3,4,5,6,7,8,9,10,11,12] ?_
 iterate 13 (refine dZ (v:=?_) (fun _ ⟨D,I,E⟩=>?_) g ?_;rotate_left;(go_simp;try rfl);try simp only[xr])
 refine bq ?_;refine bA 13 (fun L m=>?_);go_simp;refine(KI J V d A l (o-1) (2*o-1) (aT x i) (H (i+3)) (h.o.1.2.2.2.2.2.1 i l _ c.o.t.1 e.o.d.1) (fun j q b=>da (c.o.d.1 j q (c.o.1.own.1 _ j q b)) h.o.2.size) e.o.t.1 (by omega) (by omega)).m ?_;rintro Z N ⟨rfl,A,C⟩;have k:=AD A C;clear A C;rw[e.o.q.q];unfold Sy;simp only
 try go_simp
 refine m.o _ _ (iE g k.o.2 (c.o.1.own.2.1 0 (i+3) a 0 (by omega) (c.o.1.2.1 0)) (c.o.1.own.2.1 0 (i+3) a 1 (by omega) (c.o.1.2.1 1)) (c.o.1.own.2.1 2 (i+3) z (y+i) (by omega) c.o.q.1)) ?_;clear m L g;intro g
 try simp only[xr]
 refine lA 14 (v:=?_) (fun C A=>?_) g ?_;rotate_left
 ·obtain⟨D,I,E⟩:=A;go_simp;try rfl
 try simp only[xr]
 refine bA 15 (fun L m=>?_);have A:=(h.o.1.2.2.1.only k.o.2 (fun j q=>c.o.1.own.2.1 1 (i+3) j q (by omega)));obtain⟨⟨C,G⟩,E,K⟩:=A.lF e.o.q.1;go_simp;refine m.o _ _ (iE g ((h.o.1.2.2.1.only k.o.2 (fun j q=>c.o.1.own.2.1 1 (i+3) j q (by omega))).fK (i:=i) p r (aw.1 e.o.q.1).1).2 (fun b=>c.o.1.own.2.2 1 a 0 (by decide) b rfl) (fun b=>c.o.1.own.2.2 1 a 1 (by decide) b rfl) (fun b=>c.o.1.own.2.1 1 2 z (y+i) (by decide) b c.o.q.1)) ?_;clear m L g A C G E K;intro g
 try simp only[xr]
 refine pw (by kernel_rfl) ?_ _;clear g;have G:=h.o.1.Ka (fun j q b=>da (c.o.d.1 j q b) h.o.2.size) e.o.d.1 c.o.t.1 k.o.2 k.o.1;obtain⟨-,aa,W,X,E,f,-⟩:=G.1.bound.open_;have L:=k.o.2.heap h.o.1.1 (fun q b=>c.o.1.own.2.1 0 (i+3) a q (by omega) (c.o.1.2.1 q) b);have K:=f.1.symm.x L;simp only[fi,Obj.cells.injEq,Array.mk.injEq,List.cons.injEq,and_true]at K;obtain⟨g,T⟩:=K;subst g;have g:=f.2.2.1.fK (i:=i) p r (aw.1 e.o.q.1).1;have A:=f.pP (w':=((N.setCell ⟨s,t+i*2,none⟩ (r7 p)).setCell ⟨s,t+i*2+1,none⟩ (r7 r))) (fun Z=>by omega) (fun j q b=>b.2) (g.2.heap f.1 (fun q b=>f.own.2.1 1 0 a q (by decide) b (f.2.1 q))) (g.2.m (fun _ _ _ b=>.inl b)) (g.1.m (fun _ _ b=>.inl b));generalize ((N.setCell ⟨s,t+i*2,none⟩ (r7 p)).setCell ⟨s,t+i*2+1,none⟩ (r7 r))=P at A⊢;have C:=A.1.bound;have R:=al (CX P d a i o lo hi _ _ C (fun j q b=>b.2) e.o.q.2.1 e.o.q.d.1 e.o.q.t.1 J V);have m:=AF G.2 A.2 C;clear G f L T g A C;go_wp2_with fail;refine R.o.m ?_;rintro Z T ⟨rfl,g,f⟩;have E:=AD g f;clear R g f;go_wp2_with fail
 go_ret2
 have G:=c.o.2.1.size;have L:=m.o.1.size;have C:=m.o.2.1.size;have A:=h.o.2.size;have g:OnlyC F w P:=(((oS c.o.2.1 F).x (oS h.o.2 F) (fun _ _ _ u=>u)).x m.o.1 (fun _ _ _ u=>u)).x m.o.2.1 (fun j q f b=>b.1.elim id (fun u=>by omega));refine⟨rfl,E.o.1.m (fun j q b=>?_),g.x E.o.2 (fun j q f b=>b.1.elim (fun u=>u.1.elim id (fun u=>by omega)) (fun u=>by omega))⟩;rcases b with b|b
 ·rcases b.1 with b|b
  ·exact b.1.imp id (fun u=>by omega)
  ·exact .inr (by omega)
 ·exact .inr (by omega)
theorem PL{o:Nat}(c:2<=o)(b:o<=16)(key:List UInt8): ∀l,PI l o key
 |0=>PJ o key
 |l+1=>fun w m d j x F k g i a e h=>by
  have f:1<=d:=by rcases a with k|k;exact k;omega
  by_cases a:hit key x.ps=true
  ·exact TP l o key c b w m d j x F k g i f e h a
  ·simp only[Bool.not_eq_true]at a;exact XO l o key (PL c b key l) c b w m d j x F k g i f e h a
def PM(T o:Nat)(l:List Pr)(key:List UInt8)(F:Nat->Nat->Prop)(w:World)(e:Ending)(w':World):Prop:=
 e=.returned (.tuple #[.string ⟨((look key l).getD []).toArray⟩,rm (if(look key l).isSome then 0 else 14)])/\bM w' T o (del key l) (fun b q=>F b q\/w.heap.size<=b)/\OnlyC F w w'
theorem vU{w b:World}{T o d r:Nat}{l:List Pr}{y:ND}{F a:Nat->Nat->Prop}{key:List UInt8}{cnt:Int}(f:Up l)(j:2<=o)(n:o<=16)(k: ∀q,F T q)
  (m:b.heap[T]?=some (sv o cnt r)) (s:cnt=(del key l).length) (h:aB b d r y a) (i: ∀c q,a c q->F c q\/w.heap.size<=c) (p: ∀q,¬a T q)
  (e:fD d o (if d=0 then 0 else 1) (2*o-1) y) (g:aZ d y=del key l):bM b T o (del key l) (fun c q=>F c q\/w.heap.size<=c):=by
 subst s;exact⟨d,r,y,a,m,h,e,g,by rw[del_eq];exact gi f,⟨j,n⟩,i,fun q=>.inl (k q),p⟩
theorem Br{o:Nat}(key:List UInt8): ∀{d lo hi:Nat} {x:ND},fD d o lo hi x->Up (aZ d x)->look key (aZ d x)=none->nB d x key o=x
 |0,lo,hi,x,hw,hu,hl=>by
  by_cases a:hit key x.ps=true
  ·obtain⟨v,f⟩:=gh a;have b:look key x.ps=some v:=tj f;rw[show look key (aZ 0 x)=look key x.ps from rfl,b]at hl;cases hl
  ·exact wT (by simpa using a)
 |d+1,lo,hi,x,hw,hu,hl=>by
  have g:=hw.kids;have j:=eT key x.ps;have e:=dD (x:=x) (i:=posOf key x.ps) (by omega);have c:=hu;rw[<-dU x]at c;by_cases a:hit key x.ps=true
  ·obtain⟨v,f⟩:=gh a;have b:=wU g c a f;rw[dU,hl]at b;cases b
  ·simp only[Bool.not_eq_true]at a;have b:=Cv g c a e;rw[dU,hl]at b;have f:=hw.2.2.2 _ (db e);have i:=Br key f (Up.kid g c e) b.symm
   have h:qO x (posOf key x.ps) (aT x (posOf key x.ps))=x:=by unfold qO;rw[<-ez e,dU]
   rw[Ct a,i,h];unfold jP;rw[ff f.len.1]
theorem CZ{key:List UInt8}{l:List Pr}(h:(look key l).isSome=false):(del key l)=l:=by
 rw[del_eq];refine ic ?_;rw[look_eq]at h
 cases e:aA key l with
 |none=>rfl
 |some v=>rw[e]at h;simp at h
theorem C0{key:List UInt8}{l:List Pr}(h:(look key l).isSome=true):(del key l).length+1=l.length:=by
 rw[del_eq];rw[look_eq]at h
 cases e:aA key l with
 |none=>rw[e]at h;simp at h
 |some v=>exact rL e
theorem x9(w:World)(T o:Nat)(l:List Pr)(F:Nat->Nat->Prop)(key:List UInt8)(n:bM w T o l F)(x: ∀j q,F j q->j<w.heap.size)(m:1<=key.length)(i:key.length<=64)(s:l.length<=1000000):
  Calls prog 121 #[rv T,r7 key] w (PM T o l key F w):=by
 obtain⟨K,Y,L,G,e,v,d,b,c,⟨g,A⟩,p,r,y⟩:=n;obtain⟨⟨t,-,I⟩,-,-⟩:=eW e;have u:=ab t I;have z:=al (nD w T ⟨key.toArray⟩ (by exact m) (by exact i));have h:=Cu g key d (by by_cases k:K=0;exact .inr k;exact .inl (by rw[fb k];exact b8 _)) (by rw[b];exact c);rw[b]at h;have f:=al h;have a:=B7 e v d b c g A p r y x s;clear e v d b c g A p r y x s m i t I h;go_enter func121,ntmps121;go_wp2_with fail;refine z.o.m ?_;rintro k w1 ⟨rfl,Z⟩;obtain rfl:w=w1:=Z.symm;clear z;go_upto_region 4 with fail;refine pt (S:=(fun W=>W.cell? ⟨T,0,none⟩=some (rm o)/\W.cell? ⟨T,2,none⟩=some (rv Y))) (by kernel_rfl) u (fun c=>?_);generalize b:World.drew w=d at c⊢;have i:=al (show aB d K Y L G/\d.heap[T]?=some (sv o l.length Y)/\Below w.heap.size w d from b▸⟨a.o.2.1.below (bd _ _).drew,a.o.1,(bd _ _).drew⟩);clear b u;refine bj [0,1,2,3,4,5,6,7,8] ?_
 iterate 9 (refine dZ (v:=?_) (fun _ ⟨M,m⟩=>?_) c ?_;rotate_left;(go_simp;try rfl);try simp only[xr])
 refine bq ?_;refine bA 9 (fun p g=>?_);go_simp;refine(PL a.o.q.2.1 a.o.q.d.1 key K d Y _ _ L G i.o.1 (fun j q b=>da (a.o.q.q.d.1 j q (a.o.q.t.1 j q b)) i.o.d.size) a.o.d.1 (by by_cases k:K=0;exact .inr k;exact .inl (by rw[fb k];exact b8 _)) (by have:=a.o.q.d.1;omega) (by rw[a.o.t.1];exact a.o.q.1)).m ?_;rintro k v ⟨rfl,h,e⟩;have r:=AD h e;clear h e;rw[a.o.t.1]
 try go_simp
 refine g.o _ _ (dF c r.o.2 (a.o.q.q.2.1 0) (a.o.q.q.2.1 2)) ?_;clear g p c;intro c
 try simp only[xr]
 refine bj [10,11,12,13,14] ?_
 iterate 5 (refine dZ (v:=?_) (fun _ ⟨M,m⟩=>?_) c ?_;rotate_left;(go_simp;try rfl);try simp only[xr])
 refine bq ?_;refine pw (by kernel_rfl) ?_ _;clear c;obtain⟨b0,e⟩:=rk ((look key l).isSome);obtain⟨M,c⟩:=rk ((⟨((look key l).getD []).toArray⟩:ByteArray));rw[c,e];have h:=AD c e;clear c e;have m:=r.o.2.heap i.o.2.1 a.o.q.q.2.1;have e:OnlyC F w v:=(oS i.o.d F).x r.o.2 (fun j q _ b=>a.o.q.t.1 j q b);have c:T<w.heap.size:=oT a.o.1;have oI:=al c;clear c;have c: ∀q,¬(G T q\/d.heap.size<=T):=fun q b=>b.elim (a.o.q.q.2.1 q) (fun n=>by have:=oI.o;have:=i.o.d.size;omega);have g:=AF m e c;clear m e c
 cases b0 with
 |false=>
  go_wp2_with fail
  go_ret2
  have d:=CZ h.o.2;have c:look key l=none:=by cases k:look key l with|none=>rfl|some B=>have e:=h.o.2;rw[k]at e;simp at e
  have s:=Br (o:=o) key a.o.d.1 (by rw[a.o.t.1];exact a.o.q.1) (by rw[a.o.t.1];exact c);have p:=r.o.1;rw[s]at p;have m:=vU (F:=F) (w:=w) (cnt:=(l.length:Int)) a.o.q.1 a.o.q.2.1 a.o.q.d.1 a.o.q.q.1 g.o.1 (by rw[d]) p (fun j q b=>b.elim (fun n=>.inl (a.o.q.t.1 j q n)) (fun n=>.inr (dd i.o.d.size n))) g.o.d a.o.d.1 (by rw[d];exact a.o.t.1);refine⟨?_,m,g.o.2.1⟩;rw[c];rfl
 |true=>
  obtain⟨⟨-,t,-⟩,d,-⟩:=eW g.o.1;have il:(l.length:Int)<=1000000:=by have:=a.o.q.q.t;omega
  have c:=C0 h.o.2;have ad:(1:Int)<=(l.length:Int):=by omega
  have C:=al c;clear c;go_upto_region 8 with fail;have s:=KD g.o.1 (rm ((l.length:Int)-1));have p:=(r.o.1.only (OnlyC.aR v T 1 (rm ((l.length:Int)-1))) (fun j q b k=>by have H:=k.1;rw[H]at b;exact g.o.d q b)).bound;have x:=g.o.2.1.x (OnlyC.aR v T 1 (rm ((l.length:Int)-1))) (fun j q _ k=>by obtain⟨rfl,rfl⟩:=k;exact a.o.q.q.1 _);clear t d;generalize v.setCell ⟨T,1,none⟩ (rm ((l.length:Int)-1))=t at s p x⊢;obtain⟨A,am,ac,Q,U,d,-⟩:=p.open_;obtain⟨A3,c3,c,-⟩:=d.2.2.1.slice;rw[fa]at c;subst c;obtain⟨A4,W,c,-⟩:=d.2.2.2.1.slice;rw[fa]at c;subst c;obtain⟨R,u⟩:=rk ((nB K L key o).ps.length);obtain⟨z,N⟩:=rk (Q.length);rw[u,N]at d;obtain⟨⟨z0,S⟩,-,-⟩:=af d.1;obtain⟨⟨-,-,I⟩,-,ap⟩:=eW s;have c:=AS s p x A d u N;have y:look key l=some ((look key l).getD []):=by cases k:look key l with|none=>have e:=h.o.2;rw[k]at e;simp at e|some B=>rfl
  have Il:=al y;clear s p x A d u y;by_cases X:R=0
  ·subst X;by_cases P:z=0
   ·have s:K=0:=by
     cases K with
     |zero=>rfl
     |succ d=>have e:=f.o.2.kids;have p:=c.o.q.1.2.2.2.2.1;have E:=c.o.q.d;have J:=c.o.q.2.1;omega
    have u:=al s;subst P;have D:=al (ek t Y W A4 S);clear s;go_wp2_with fail;refine D.o.m ?_;rintro k wL ⟨rfl,B⟩;subst B;go_wp2_with fail
    go_ret2
    have m:=vU (F:=F) (w:=w) (cnt:=(l.length:Int)-1) a.o.q.1 a.o.q.2.1 a.o.q.d.1 a.o.q.q.1 c.o.1 (by have:=C.o;omega) c.o.2.1 (fun j q b=>b.1.elim (fun n=>.inl (a.o.q.t.1 j q n)) (fun n=>.inr (dd i.o.d.size n))) (fun q b=>g.o.d q b.1) (f.o.2.re (by rw[ff (u.o)];exact dq _) f.o.2.len.2) f.o.1;exact⟨by rw[h.o.1,h.o.2];rfl,m,c.o.d.1⟩
   ·obtain⟨d,rfl⟩: ∃d,K=d+1:=by
     cases K with
     |zero=>exfalso;have e:=f.o.2.none;have p:=c.o.q.1.2.2.2.2.1;have E:=c.o.q.d;rw[e]at p;simp at p;subst p;simp at E;omega
     |succ d=>exact⟨d,rfl⟩
    obtain⟨x,A⟩: ∃y,Q[0]?=some y:=⟨_,ao (by have:=c.o.q.d;omega)⟩;obtain⟨s,O⟩: ∃y,(nB (d+1) L key o).ks[0]?=some y:=⟨_,ao (by have:=f.o.2.kids;omega)⟩;obtain⟨bk,ok,ck,V,-,-,r1⟩:=c.o.q.1.2.2.2.1.ptr A;simp only[ix]at V;obtain⟨rfl,-,rfl⟩:=V;rw[mS]at r1;have u:=AD A O;have j1:(0:Int)<(z:Int):=by omega
    have j2:z<=1000000:=by have e:=f.o.2.kids;have p:=c.o.q.1.2.2.2.2.1;have E:=c.o.q.d;have J:=c.o.q.2.1;omega
    have D:=al (fy t Y z W _ (by omega) S);clear A O P;go_wp2_with fail;refine D.o.m ?_;rintro k wL ⟨rfl,B⟩;subst B;go_wp2_with fail
    go_ret2
    have P:=c.o.q.1.2.2.2.2.2.1 0 x s u.o.1 u.o.2;have A:=f.o.q s (db u.o.2);have B:=fun j q (b:U 3 j q)=>c.o.q.1.own.1 3 j q b;have O:=(show aB t d x s (U 3)from P).only (OnlyC.aR t T 2 (rv x)) (fun j q b k=>by have H:=k.1;rw[H]at b;exact g.o.d q (B _ q b).1)
    have aa:(nB (d+1) L key o).ks=[s]:=by
     have e:=f.o.2.kids;have J:=c.o.q.2.1;rw[J]at e
     match hq:(nB (d+1) L key o).ks,e with
     |[y],_=>have y:=u.o.2;rw[hq]at y;simpa using y
    have H:aZ d s=del key l:=by rw[<-f.o.1];have y:(nB (d+1) L key o).ps=[]:=de c.o.q.2.1;show _=flat ((nB (d+1) L key o).ks.map (aZ d)) (nB (d+1) L key o).ps;rw[aa,y];rfl
    have m:=vU (F:=F) (w:=w) (cnt:=(l.length:Int)-1) a.o.q.1 a.o.q.2.1 a.o.q.d.1 a.o.q.q.1 (CS c.o.1 (rv x)) (by have:=C.o;omega) O (fun j q b=>(B j q b).1.elim (fun n=>.inl (a.o.q.t.1 j q n)) (fun n=>.inr (dd i.o.d.size n))) (fun q b=>g.o.d q (B _ q b).1) (A.re (by have e:=A.len.1;have:=a.o.q.2.1;split<;>omega) A.len.2) H;exact⟨by rw[h.o.1,h.o.2];rfl,m,c.o.d.1.x (OnlyC.aR t T 2 _) (fun j q _ k=>by obtain⟨rfl,rfl⟩:=k;exact a.o.q.q.1 _)⟩
  ·have s:((R:Int)==0)=false:=by rw[beq_eq_false_iff_ne];omega
   have d:=al X;go_wp2_with fail
   go_ret2
   have m:=vU (F:=F) (w:=w) (cnt:=(l.length:Int)-1) a.o.q.1 a.o.q.2.1 a.o.q.d.1 a.o.q.q.1 c.o.1 (by have:=C.o;omega) c.o.2.1 (fun j q b=>b.1.elim (fun n=>.inl (a.o.q.t.1 j q n)) (fun n=>.inr (dd i.o.d.size n))) (fun q b=>g.o.d q b.1) (f.o.2.re (by have e:=c.o.q.2.1;have p:=d.o;split<;>omega) f.o.2.len.2) f.o.1;exact⟨by rw[h.o.1,h.o.2];rfl,m,c.o.d.1⟩
def ye:Nat->World->Value->Nat
 |0,_,_=>0
 |f+1,w,.pointer (some ⟨p,_,_⟩)=>match w.cell? ⟨p,1,none⟩with
  |some (.slice (some ad) (_+1) _)=>match w.cell? ad with
   |some q=>ye f w q+1
   |none=>0
  |_=>0
 |_+1,_,_=>0
theorem mV{w:World}{o:Nat}: ∀(d m lo:Nat) (p:Nat) (x:ND) (K:Nat->Nat->Prop),aB w d p x K->fD d o lo (2*o-1) x->d<=m->ye m w (rv p)=d
 |0,0,_,_,_,_,_,_,_=>rfl
 |0,m+1,lo,p,x,K,h,hw,_=>by
  obtain⟨f,n,j,b,H,a,_⟩:=h.open_;have c:b=[]:=de (by rw[a.2.2.2.2.1,f rfl];rfl);subst c;obtain⟨A,s,e,_⟩:=a.2.2.2.1.slice;have e:j=.slice A 0 s:=by simpa using e
  subst e;have c:=(af a.1).1.2;simp only[ye,c]
 |d+1,0,_,_,_,_,_,_,hf=>by omega
 |d+1,m+1,lo,p,x,K,h,hw,hf=>by obtain⟨f,n,j,b,H,a,_⟩:=h.open_;have u:=hw.kids;obtain⟨k,g⟩: ∃k,x.ks[0]?=some k:=⟨_,ao (by omega)⟩;obtain⟨l,e⟩: ∃l,b[0]?=some l:=⟨_,ao (by rw[a.2.2.2.2.1];omega)⟩;obtain⟨v,t,s,rfl,_,_,i⟩:=a.2.2.2.1.ptr e;have c:=(af a.1).1.2;have q:=mV d m _ l k _ (show aB w d l k _ from a.2.2.2.2.2.1 0 l k e g) (hw.2.2.2 k (db g)) (by omega);obtain⟨r,m⟩: ∃r,b.length=r+1:=⟨b.length-1,by have:=(aw.1 e).1;omega⟩;rw[m]at c;rw[mS]at i;simp only[ye,c,i,q]
def kOf(c:Option Pr):List UInt8:=(c.map Prod.fst).getD []
def vOf(c:Option Pr):List UInt8:=(c.map Prod.snd).getD []
def Z0(c:Option Pr):Int:=if c.isSome then 0 else 14
def V4(o b:Nat)(key:List UInt8)(l:List Pr)(w:World)(k v e q:Value)(a:World):Prop:=
 ∃(d p c:Nat) (x:ND) (f:Nat->Nat->Prop) (g:Option Pr),k=.string ⟨(kOf g).toArray⟩/\v=.string ⟨(vOf g).toArray⟩/\e=rm (Z0 g)/\q=rv p/\aB a d p x f/\fD d o c (2*o-1) x/\Up (aZ d x)/\(ceil key (aZ d x)).or g=ceil key l/\Below w.heap.size w a/\d<=b
def aaQ(key:List UInt8)(l:List Pr)(w:World)(e:Ending)(w':World):Prop:=
 e=.returned (.tuple #[.string ⟨(kOf (ceil key l)).toArray⟩,.string ⟨(vOf (ceil key l)).toArray⟩,rm (Z0 (ceil key l))])/\Below w.heap.size w w'
theorem yg{o d:Nat}{key:List UInt8}{x:ND}{lo:Nat}(b:fD d o lo (2*o-1) x)(a:Up (aZ d x))(h:d=0\/hit key x.ps=true):ceil key (aZ d x)=x.ps[posOf key x.ps]?:=by
 cases d with
 |zero=>exact mK _
 |succ d=>
  rcases h with h|h
  ·omega
  ·rw[<-dU x]at a⊢;exact Ea b.kids a h
theorem Bt{o d:Nat}{key:List UInt8}{x k:ND}{lo:Nat}(e:fD (d+1) o lo (2*o-1) x)(a:Up (aZ (d+1) x))(b:x.ks[posOf key x.ps]?=some k)(c:Option Pr):(ceil key (aZ (d+1) x)).or c=(ceil key (aZ d k)).or (x.ps[posOf key x.ps]?.or c):=by have:=Cq (d:=d) (ps:=x.ps) (ks:=x.ks) e.kids (by rw[dU];exact a) b;rw[dU]at this;rw[this,Option.or_assoc]
theorem KJ(w:World)(T o:Nat)(l:List Pr)(F:Nat->Nat->Prop)(key:List UInt8)(h:bM w T o l F):Calls prog 182 #[rv T,r7 key] w (aaQ key l w):=by
 obtain⟨J,r,x0,K0,f,d,c,a,b,⟨g,cj⟩,-,-,-⟩:=h;have c2:w.cell? ⟨T,2,none⟩=some (rv r):=by simp[World.cell?,f]
 have H0:=al (show V4 o J key l w (.string ⟨#[]⟩) (.string ⟨#[]⟩) (rm 14) (rv r) w from⟨J,r,_,x0,K0,none,rfl,rfl,rfl,rfl,d,c,a▸b,by rw[a,Option.or_none],bd _ _,b8 _⟩);clear f d c a b g;go_enter func182,ntmps182;go_wp2_with fail
 go_step3
 go_wp2_with fail
 go_step3
 go_wp2_with fail
 go_loopw [4,5,6,7] (fun k v e q wr=>V4 o J key l w k v e q wr) (fun _ _ _ q wr=>ye J wr q)
 case atStart=>exact H0.o
 case round=>
  obtain⟨d,p,lo,Q,KK,c,rfl,rfl,rfl,rfl,z,g,m,f,t,B⟩:=hrel;have am:Q.ps.length<=1000:=by have:=g.len;omega
  have a:=al (find_ok wr KK p Q key z.base (xm g m) am);have ac:=eT key Q.ps;obtain⟨M,x⟩:=rk (posOf key Q.ps);rw[x]at a ac;have i:=AS z g m f t B x;clear z g m f t B x;go_wp2_with fail;refine a.o.m ?_;rintro e I ⟨rfl,s⟩;clear a;have y:=i.o.1.below s;obtain⟨D,vp,vk,aC,H,b,-⟩:=y.open_;obtain⟨A,cp,U,-⟩:=b.2.2.1.slice;rw[fa]at U;subst U;obtain⟨A2,Y,L,-⟩:=b.2.2.2.1.slice;rw[fa]at L;subst L;obtain⟨C,u⟩:=rk (aC.length);rw[u]at b;obtain⟨⟨z0,S⟩,-,-⟩:=af b.1;have a:=AM y D b s u;obtain⟨n,j⟩:=rk (Q.ps.length);rw[j]at z0 ac;have V:=al j;clear y D b s u j;by_cases ad:M<n
  ·obtain⟨W,u⟩: ∃W,Q.ps[posOf key Q.ps]?=some W:=⟨_,ao (by rw[i.o.q.d,V.o];exact ad)⟩;have R:=al u;have j:=u;rw[i.o.q.d]at j;obtain⟨b,a0,a1,U,-,-,y0,y1,-⟩:=a.o.d.1.2.2.1.pair j;rw[V.o]at U;simp only[ix,true_and]at U;obtain⟨rfl,rfl⟩:=U;have i1:(0:Int)<=(M:Int):=by omega
   have i3:(M:Int)<(n:Int):=by omega
   obtain⟨bh,s⟩:=rk (hit key Q.ps);have y:=al s;rw[s];clear u j s
   cases bh with
   |true=>
    go_wp2_with fail;go_quiet(fail);go_wp2_with fail;rw[gx]
    go_ret3
    obtain⟨z,g,m,f,t,B,x⟩:=i.o;have K:=yg (key:=key) g m (.inr y.o);rw[R.o]at K;rw[K]at f;have f:(some W).or c=ceil key l:=f;refine⟨by rw[<-f];rfl,?_⟩;exact i.o.q.1.x (Below.m (aH a.o.t.1 _) i.o.q.1.size)
   |false=>
    clear y;go_wp2_with fail;go_quiet(fail);by_cases G:d=0
    ·have dN:C=0:=by rw[<-a.o.q,a.o.d.1.2.2.2.2.1,a.o.2.1 G];rfl
     subst dN;have O:=al (ek (I.drewN nq) p Y A2 (by exact S));have HD:=al G;clear G S;go_wp2_with fail;refine O.o.m ?_;rintro e Z ⟨rfl,D⟩;have aa:=al D;clear D;go_wp2_with fail;rw[gx]
     go_ret3
     obtain⟨z,g,m,f,t,B,x⟩:=i.o;have K:=yg (key:=key) g m (.inl HD.o);rw[R.o]at K;rw[K]at f;have f:(some W).or c=ceil key l:=f;refine⟨by rw[<-f];rfl,?_⟩;exact i.o.q.1.x (Below.m (aa.o▸(aH a.o.t.1 _)) i.o.q.1.size)
    ·obtain⟨s,rfl⟩: ∃s,d=s+1:=⟨d-1,by omega⟩;have N:=i.o.2.1.kids;have E:M<Q.ks.length:=by rw[N,V.o];omega
     obtain⟨k,X⟩: ∃k,Q.ks[M]?=some k:=⟨_,ao E⟩;obtain⟨u,P⟩: ∃y,aC[M]?=some y:=⟨_,ao (by rw[a.o.d.1.2.2.2.2.1];exact E)⟩;have ap:M<C:=by rw[<-a.o.q,a.o.d.1.2.2.2.2.1];exact E
     obtain⟨bk,ok,a',L,-,-,r2⟩:=a.o.d.1.2.2.2.1.ptr P;simp only[a.o.q,ix,true_and]at L;obtain⟨rfl,rfl⟩:=L;have E6:C<=1001:=by rw[<-a.o.q,a.o.d.1.2.2.2.2.1,N];omega
     have O:=al (fy (I.drewN nq) p C Y _ (by omega) (by exact S));have j:=AD X P;clear X P N E G;have i1:(0:Int)<=(M:Int):=by omega
     have i2:(M:Int)<(C:Int):=by omega
     go_wp2_with fail;refine O.o.m ?_;rintro e Z ⟨rfl,D⟩;subst D;go_wp2_with fail;go_roundw
     case rel=>
      obtain⟨z,g,m,f,t,B,x⟩:=i.o;refine⟨s,u,_,k,_,(some W),rfl,rfl,rfl,rfl,(show aB I s u k _ from a.o.d.1.2.2.2.2.2.1 M u k j.o.2 j.o.1).below ?_,g.2.2.2 k (db j.o.1),Up.kid g.kids (by rwa[<-dU Q]at m) j.o.1,?_,t.x (Below.m (aH a.o.t.1 _) t.size),by omega⟩
      ·exact aH (bd _ _) _
      ·rw[Bt g m (by rw[x];exact j.o.1),R.o]at f;exact f
     case measure=>obtain⟨z,g,m,f,t,B,x⟩:=i.o;rw[mV (o:=o) (s+1) J _ p Q KK z g B];rw[mV (o:=o) s J _ u k _ (aB.below (show aB I s u k _ from a.o.d.1.2.2.2.2.2.1 M u k j.o.2 j.o.1) (aH (Below.refl _ _) _)) (g.2.2.2 k (List.mem_of_getElem? j.o.1)) (by omega)];omega
  ·have b:Q.ps[posOf key Q.ps]?=none:=List.getElem?_eq_none (by rw[i.o.q.d,V.o];omega);have W:hit key Q.ps=false:=by unfold hit;rw[b]
   have R:=al b;have i3: ¬(M:Int)<(n:Int):=by omega
   rw[W];clear b W ad;by_cases G:d=0
   ·have dN:C=0:=by rw[<-a.o.q,a.o.d.1.2.2.2.2.1,a.o.2.1 G];rfl
    subst dN;have O:=al (ek (I) p Y A2 (by exact S));have HD:=al G;clear G S;go_wp2_with fail;refine O.o.m ?_;rintro e Z ⟨rfl,D⟩;have aa:=al D;clear D;go_wp2_with fail;rw[gx]
    go_ret3
    obtain⟨z,g,m,f,t,B,x⟩:=i.o;have K:=yg (key:=key) g m (.inl HD.o);rw[R.o]at K;rw[K]at f;have f:(none:Option Pr).or c=ceil key l:=f;refine⟨by rw[<-f];rfl,?_⟩;exact i.o.q.1.x (Below.m (aa.o▸a.o.t.1) i.o.q.1.size)
   ·obtain⟨s,rfl⟩: ∃s,d=s+1:=⟨d-1,by omega⟩;have N:=i.o.2.1.kids;have E:M<Q.ks.length:=by rw[N,V.o];omega
    obtain⟨k,X⟩: ∃k,Q.ks[M]?=some k:=⟨_,ao E⟩;obtain⟨u,P⟩: ∃y,aC[M]?=some y:=⟨_,ao (by rw[a.o.d.1.2.2.2.2.1];exact E)⟩;have ap:M<C:=by rw[<-a.o.q,a.o.d.1.2.2.2.2.1];exact E
    obtain⟨bk,ok,a',L,-,-,r2⟩:=a.o.d.1.2.2.2.1.ptr P;simp only[a.o.q,ix,true_and]at L;obtain⟨rfl,rfl⟩:=L;have E6:C<=1001:=by rw[<-a.o.q,a.o.d.1.2.2.2.2.1,N];omega
    have O:=al (fy (I) p C Y _ (by omega) (by exact S));have j:=AD X P;clear X P N E G;have i1:(0:Int)<=(M:Int):=by omega
    have i2:(M:Int)<(C:Int):=by omega
    go_wp2_with fail;refine O.o.m ?_;rintro e Z ⟨rfl,D⟩;obtain rfl:I=Z:=D;go_wp2_with fail;go_roundw
    case rel=>
     obtain⟨z,g,m,f,t,B,x⟩:=i.o;refine⟨s,u,_,k,_,c,rfl,rfl,rfl,rfl,(show aB I s u k _ from a.o.d.1.2.2.2.2.2.1 M u k j.o.2 j.o.1).below ?_,g.2.2.2 k (db j.o.1),Up.kid g.kids (by rwa[<-dU Q]at m) j.o.1,?_,t.x (Below.m a.o.t.1 t.size),by omega⟩
     ·exact bd _ _
     ·rw[Bt g m (by rw[x];exact j.o.1),R.o]at f;exact f
    case measure=>obtain⟨z,g,m,f,t,B,x⟩:=i.o;rw[mV (o:=o) (s+1) J _ p Q KK z g B];rw[mV (o:=o) s J _ u k _ (aB.below (show aB I s u k _ from a.o.d.1.2.2.2.2.2.1 M u k j.o.2 j.o.1) (Below.refl _ _)) (g.2.2.2 k (List.mem_of_getElem? j.o.1)) (by omega)];omega
def PO(key:List UInt8)(l:List Pr)(w:World)(e:Ending)(w':World):Prop:=
 e=.returned (.tuple #[.string ⟨((look key l).getD []).toArray⟩,rm (if(look key l).isSome then 0 else 14)])/\Below w.heap.size w w'
theorem Ir(w:World)(T o:Nat)(l:List Pr)(F:Nat->Nat->Prop)(key:List UInt8)(h:bM w T o l F)(c:1<=key.length)(b:key.length<=64):Calls prog 127 #[rv T,r7 key] w (PO key l w):=by
 have a:=AD (nD w T ⟨key.toArray⟩ (by exact c) (by exact b)) (KJ w T o l F key h);clear h c b;go_enter func127,ntmps127;go_wp2_with fail;refine a.o.1.m ?_;rintro e i ⟨rfl,f⟩;obtain rfl:w=i:=f.symm;go_wp2_with fail;refine a.o.2.m ?_;rintro e k ⟨rfl,b⟩;have d:=al b;clear b a
 cases hc:ceil key l with
 |none=>
  have c:=al (pK hc);unfold Z0;simp only[nx];clear hc;go_wp2_with fail
  go_ret2
  exact⟨by rw[c.o];rfl,d.o⟩
 |some q=>
  have c:=al (iX hc);unfold Z0 kOf vOf;simp only[mT,Option.map_some,oy,if_true];clear hc;obtain⟨b,g⟩:=q;by_cases a:b=key
  ·subst a;go_wp2_with fail
   go_ret2
   refine⟨?_,d.o⟩;rw[show look b l=some g by simpa using c.o];rfl
  ·have j: ¬(⟨b.toArray⟩:ByteArray)=⟨key.toArray⟩:=fun e=>a (by injection e with e;simpa using e);have m: ¬b.toArray=key.toArray:=fun e=>a (by simpa using e);have n:(b==key)=false:=beq_eq_false_iff_ne.2 a;have h:=al a;go_wp2_with fail
   go_ret2
   refine⟨?_,d.o⟩;rw[show look key l=none by simpa[h.o]using c.o];rfl
theorem Iu(w:World)(T o:Nat)(l:List Pr)(F:Nat->Nat->Prop)(h:bM w T o l F):Calls prog 72 #[rv T] w fun e a=>e=.returned (rm l.length)/\w=a:=by
 obtain⟨d,r,x,K,a,-⟩:=h;have b:w.cell? ⟨T,1,none⟩=some (rm l.length):=by simp[World.cell?,a]
 clear a;go_enter func72,ntmps72;go_wp2_with fail;go_ret
 exact⟨rfl,rfl⟩
end Go.Proofs.YtehccbdajiiaaaaGreatDoor
