import Derived.Test.YtehccbdajiiaaaaGreatDoorS31
import Derived.Test.YtehccbdajiiaaaaGreatDoorS46
namespace Go.Proofs.YtehccbdajiiaaaaGreatDoor
open Go.Proofs.Tryz
set_option maxRecDepth 100000
set_option maxHeartbeats 16000000
open Go.RowKit
section
open Go.RowKit Go.Maps
theorem GK: ∀(N:Nat) (l:List Nat),l.Nodup->(∀x∈l,x<N)->l.length<=N
 |0,l,_,h=>by
  cases l with
  |nil=>exact b8 _
  |cons x l=>exact absurd (h x (by simp)) (by omega)
 |N+1,l,hn,h=>by
  have d:=GK N (l.erase N) (hn.erase N) (fun x a=>by
   have c:=h x (List.mem_of_mem_erase a);have b:x≠N:=fun e=>(by subst e;exact(hn.mem_erase_iff.1 a).1 rfl)
   omega)
  have a:l.length<=(l.erase N).length+1:=by rw[List.length_erase];split<;>omega
  omega
theorem Ci{wl:ot}(b:dR wl)(h: ∀q∈wl,∃v,aQ v/\q.1=Lib.itoa v):wl.length<=2199023255553:=by
 have f:=GK 2199023255553 ((wl.map Prod.fst).map fun k=>(NB k+1099511627776).toNat) (by
  unfold List.Nodup;rw[List.pairwise_map];refine List.Pairwise.imp_of_mem (fun{d e} c g a i=>a ?_) (gW b);obtain⟨p,d,rfl⟩:=ep.1 c;obtain⟨q,e,rfl⟩:=ep.1 g;obtain⟨v,a,c⟩:=h p d;obtain⟨u,b,g⟩:=h q e;rw[c,g]at i⊢;rw[qb a,qb b]at i;unfold aQ at a b
  rw[show v=u by omega]) (fun x g=>by
  obtain⟨k,e,rfl⟩:=ep.1 g;obtain⟨p,d,rfl⟩:=ep.1 e;obtain⟨v,a,c⟩:=h p d;rw[c,qb a];unfold aQ at a
  omega)
 simp only[fa]at f;omega
theorem GL{wl:ot}(a:dR wl)(h: ∀q∈wl,∃v,aQ v/\q.1=Lib.itoa v):wl.length<=2305843009213693952:=dd (Ci a h) (by decide)
theorem JR{w:World}{c:String}{b:Nat}{v:Array Value}(d:prog.globalNamed c=some b)(h:w.var? prog c=some v):b<w.heap.size:=by
 unfold World.var? at h;rw[d]at h;simp only[Option.bind_some]at h;rcases Nat.lt_or_ge b w.heap.size with a|a
 ·exact a
 ·rw[Array.getElem?_eq_none a]at h;cases h
theorem GM{w w':World}{S:Nat->Prop}{a:String}{b:Nat}{v:Array Value}(c:prog.globalNamed a=some b)(h:w.var? prog a=some v)(e:Only S w w')(f: ¬S b):w'.var? prog a=some v:=by have d:=JR c h;unfold World.var? at h⊢;rw[c]at h⊢;simp only[Option.bind_some]at h⊢;rw[e.block _ d f];exact h
def Vk(k:Nat):Prop:=k=3\/k=4
theorem mH.only{w w':World}{S:Nat->Prop}(i:mH w)(a:Only S w w')(b: ∀k,Vk k-> ¬S k):mH w':=by obtain⟨⟨c,d,f⟩,e,g,h⟩:=i;exact⟨⟨c,d,GM Tryz.Vh f a (b _ (.inl rfl))⟩,e,g,GM Tryz.Vi h a (b _ (.inr rfl))⟩
theorem mH.lt{w:World}(h:mH w): ∀k,Vk k->k<w.heap.size:=by
 obtain⟨⟨c,d,a⟩,e,f,b⟩:=h;rintro k (rfl|rfl)
 ·exact JR Tryz.Vh a
 ·exact JR Tryz.Vi b
def KB(B T o m:Nat)(most:Int)(FT:Nat->Nat->Prop)(l:az)(Z:Nat->Prop)(r:az)(w:World):Prop:=
 ∃a n g c,ni w B T most o l a FT m n g c/\aW a l=r/\df r/\(r.length:Int)<=most/\(∀q∈a,∃v,aQ v/\q.1=Lib.itoa v)/\fB w/\
  (¬Z B/\ ¬Z m/\ ¬Z 5/\(∀b,c b-> ¬Z b)/\ ∀b q,FT b q-> ¬Z b)/\(∀b q,FT b q->b<w.heap.size)/\mH w/\(∀k,Vk k-> ¬Z k)/\m≠5/\ ∀k,Vk k->k≠m
section
variable{B T o m:Nat}{most:Int}{FT:Nat->Nat->Prop}{l:az}
theorem KB.ok:uh (KB B T o m most FT l) where
 only:=by rintro Z r w J K k ⟨x,G,H,u,c,v,t,A,z,i,⟨s,j,h,f,d⟩,g,n,q,y⟩ D;exact⟨x,G,H,u,c.only D (fun e=>s (k _ e)) (fun e=>j (k _ e)) (fun E b e=>f E b (k _ e)) (fun E F b e=>d E F b (k _ e)),v,t,A,z,i.only D (fun e=>h (k _ e)),⟨s,j,h,f,d⟩,fun E F b=>da (g E F b) D.size,n.only D (fun C a e=>q C a (k _ e)),q,y⟩
 oM:=by
  rintro Z r w E ⟨x,G,H,u,c,v,t,A,z,i,⟨s,j,h,f,d⟩,g,n,q,y⟩ b;refine⟨x,G,H,u,c,v,t,A,z,i,⟨fun e=>?_,fun e=>?_,fun e=>?_,fun C a e=>?_,fun C F a e=>?_⟩,g,n,fun C a e=>?_,y⟩
  ·rcases e with e|e
   ·exact s e
   ·have:=aM c.blk;omega
  ·rcases e with e|e
   ·exact j e
   ·have:=c.map.lt;omega
  ·rcases e with e|e
   ·exact h e
   ·have:=i.lt;omega
  ·rcases e with e|e
   ·exact f C a e
   ·have:=(c.bR C a).2.2.1;omega
  ·rcases e with e|e
   ·exact d C F a e
   ·have:=g C F a;omega
  ·rcases e with e|e
   ·exact q C a e
   ·have:=n.lt C a;omega
 back:=by rintro Z I r w p ⟨x,G,H,u,c,v,t,A,z,i,⟨s,j,h,f,d⟩,g,n,q,y⟩;exact⟨x,G,H,u,c,v,t,A,z,i,⟨fun e=>s (p _ e),fun e=>j (p _ e),fun e=>h (p _ e),fun E b e=>f E b (p _ e),fun E F b e=>d E F b (p _ e)⟩,g,n,fun C a e=>q C a (p _ e),y⟩
theorem KB.tab:UO (KB B T o m most FT l):=fun Z r w h=>by obtain⟨_,_,_,_,_,_,_,_,_,a,_⟩:=h;exact a
theorem KB.errs{Z:Nat->Prop}{r:az}{w:World}(h:KB B T o m most FT l Z r w):mH w:=by obtain⟨_,_,_,_,_,_,_,_,_,_,_,_,a,_⟩:=h;exact a
theorem KB.rows{Z:Nat->Prop}{r:az}{w:World}(h:KB B T o m most FT l Z r w):df r:=by obtain⟨_,_,_,_,_,_,a,_⟩:=h;exact a
theorem RX{k:List UInt8}(h:dY k=0):1<=k.length/\k.length<=16:=by
 unfold dY at h;split at h
 ·cases h
 ·omega
theorem KB.get:Ge (rv B) (KB B T o m most FT l) (fun r k=>aA k r):=by rintro Z r w k ⟨d,n,g,e,a,c,_⟩ b;have:=p6 w B T o most l d FT _ k (RX b) a.at_;rw[kF a.up a.tab.up,c]at this;exact this
theorem KB.find{Z:Nat->Prop}{r:az}{w:World}(x:KB B T o m most FT l Z r w)(c n:Nat)(lo hi:Int)(i:c<4)(g:I6 lo)(e:I6 hi)(d:lo<=hi)(j:n<=1000):
  Calls prog 166 #[rv B,rm (c:Int),rm lo,rm hi,rm (n:Int)] w (BU ((cU c lo hi r).take n) w):=by
 obtain⟨h,p,y,s,a,b,k,v,t,q,u,f,_⟩:=x;have:=Jk w B T o most l h FT _ c n lo hi a.at_ f i g e d j (by rw[b];have:=a.tab.KW;omega);rwa[b]at this
end
end
section
open Go.RowKit Go.Maps
section
variable{B T o m:Nat}{most:Int}{FT:Nat->Nat->Prop}{l:az}{Z:Nat->Prop}{r:az}{w:World}
theorem KB.RY(h:KB B T o m most FT l Z r w){k:List UInt8}(c:1<=k.length/\k.length<=16)(e:Int)(now:Rw)(x:Option Rw)(g:e=9/\x=some now\/e=10/\x=none):
  Calls prog 162 #[rm e,rv B,r7 k,now.val] w (Yo (iz k (aA k r) x) w):=by
 obtain⟨d,n,p,j,a,i,_⟩:=h;have b:=kF (k:=k) a.up a.tab.up;rw[i]at b
 cases hq:aA k r with
 |none=>
  rcases g with⟨rfl,rfl⟩|⟨rfl,rfl⟩
  ·exact kG w B T o most l d FT _ k c a.at_ false true Rw.zero now (fun _=>rfl) (b.x hq) 9 rfl
  ·exact kG w B T o most l d FT _ k c a.at_ false false Rw.zero now (fun _=>rfl) (b.x hq) 10 rfl
 |some f=>
  rcases g with⟨rfl,rfl⟩|⟨rfl,rfl⟩
  ·exact kG w B T o most l d FT _ k c a.at_ true true f now (fun h=>by cases h) (b.x hq) 9 rfl
  ·exact kG w B T o most l d FT _ k c a.at_ true false f now (fun h=>by cases h) (b.x hq) 10 rfl
theorem KB.to(N:KB B T o m most FT l Z r w){w':World}{wl d:ot}{n:Nat}{g:Value->Option Value}{e:Nat->Prop}(_M:ni w B T most o l wl FT m n g e)(j: ∀b q,FT b q-> ¬Z b/\b<w.heap.size)(y: ∀b,e b-> ¬Z b)
  (C: ∀L,Z L->L<w.heap.size) (H:K2 w w' B T o most l d FT m e) {c:az} (I:aW d l=c) (s:df c) (p:(c.length:Int)<=most) (F: ∀q∈d,∃v,aQ v/\q.1=Lib.itoa v):KB B T o m most FT l Z c w':=by
 obtain⟨_,_,_,_,_,_,_,_,_,G,⟨K,x,u,_,_⟩,_,J,D,k,h⟩:=N;obtain⟨v,A,t,z,E,f⟩:=H;refine⟨d,v,A,t,z,I,s,p,F,G.only f (fun a=>k a.symm),⟨K,x,u,fun b a i=>?_,fun b q a=>(j b q a).1⟩,fun b q a=>da (j b q a).2 f.size,J.only f (fun L q=>h L q),D,k,h⟩;rcases E b a with a|a
 ·exact y b a i
 ·have:=C b i;omega
def LB(B T o m:Nat)(most:Int)(FT:Nat->Nat->Prop)(l:az)(Z:Nat->Prop)(r:az)(w:World)(k:List UInt8)(x:Rw)(e:Ending)(w':World):Prop:=
 if aA k r=none/\most<=(r.length:Int)then e=.returned (rm 16)/\Below w.heap.size w w' else e=.returned (rm 0)/\KB B T o m most FT l Z (cO (k,x) r) w'/\Only (fun j=>j=m) w w'
theorem KB.put(G:KB B T o m most FT l Z r w)(y: ∀H,Z H->H<w.heap.size){v:Int}(f:aQ v){x:Rw}(p: ∀c,aQ (x.aO c)):
  Calls prog 164 #[rv B,.string ⟨(Lib.itoa v).toArray⟩,x.val] w (LB B T o m most FT l Z r w (Lib.itoa v) x):=by
 have u:=G;obtain⟨D,S,U,z,b,A,k,E,j,N,⟨Q,L,K,s,q⟩,g,P,M,O,J⟩:=G;have i:=LW b.up b.tab.up (Lib.itoa v) x;refine(M5 w B T o m S most l D FT U z (Lib.itoa v) x (jC f) (fun c=>by have:=p c;unfold aQ at this;unfold I6;omega) b g (GL b.up j)).m ?_;intro V R a;unfold sA at a;unfold LB;rw[A]at a i;split at a
 ·rename_i d;rw[ff d];exact a
 ·rename_i d;rw[fb d];have n:=a.2;refine⟨a.1,u.to b (fun I F h=>⟨q I F h,g I F h⟩) s y n i (k.ins ⟨⟨v,f,rfl⟩,p⟩) ?_ (fun F e=>?_),by obtain⟨_,_,_,_,_,C⟩:=n;exact C⟩
  ·rw[lg k.1]
   cases hk:aA (Lib.itoa v) r with
   |none=>have: ¬most<=(r.length:Int):=fun t=>d ⟨hk,t⟩;simp;omega
   |some W=>simpa using E
  ·rcases iu e with rfl|e
   ·exact⟨v,f,rfl⟩
   ·exact j F e
def WQ(B T o m:Nat)(most:Int)(FT:Nat->Nat->Prop)(l:az)(Z:Nat->Prop)(r:az)(w:World)(k:List UInt8)(e:Ending)(w':World):Prop:=
 (∃n,e=.returned (rm n))/\KB B T o m most FT l Z (eZ k r) w'/\Only (fun j=>j=m) w w'
theorem KB.del(A:KB B T o m most FT l Z r w)(q: ∀D,Z D->D<w.heap.size){v:Int}(j:aQ v):
  Calls prog 165 #[rv B,.string ⟨(Lib.itoa v).toArray⟩] w (WQ B T o m most FT l Z r w (Lib.itoa v)):=by
 have g:=A;obtain⟨y,O,P,t,b,u,s,N,h,J,⟨M,H,G,n,k⟩,p,L,I,K,F⟩:=A;have f:=LX b.up b.tab.up (Lib.itoa v);refine(M6 w B T o m O most l y FT P t (Lib.itoa v) (jC j) b (GL b.up h)).m ?_;intro Q z a;unfold wu at a;unfold WQ;rw[u]at a f;split at a
 ·rename_i d;rw[ic d];exact⟨⟨_,a.1⟩,KB.ok.only Z r w z (fun _=>False) (fun _ A=>A.elim) g (oB a.2 _),oB a.2 _⟩
 ·rename_i d;have i:=a.2;refine⟨⟨_,a.1⟩,g.to b (fun E C e=>⟨k E C e,p E C e⟩) n q i f s.del ?_ (fun C c=>?_),by obtain⟨_,_,_,_,_,x⟩:=i;exact x⟩
  ·cases hk:aA (Lib.itoa v) r with
   |none=>exact absurd hk d
   |some R=>have:=rL hk;omega
  ·rcases iu c with rfl|c
   ·exact⟨v,j,rfl⟩
   ·exact h C c
end
end
section
open Go.RowKit Go.Maps
theorem KB.new{w w':World}{B T o:Nat}{most:Int}{l:az}{FT:Nat->Nat->Prop}(h:iI w' B T most o l [] FT (fun f=>w.heap.size<=f))(b:Below w.heap.size w w')(i: ∀f q,FT f q->f<w.heap.size)(g:df l)(d:fB w)(e:mH w):
  ∃m,w.heap.size<=m/\KB B T o m most FT l (fun _=>False) l w':=by
 obtain⟨m,r,s,k,c,n,j,p⟩:=h;refine⟨m,j,[],r,s,k,c,rfl,g,c.tab.len,fun q a=>by simp at a,d.below b,⟨fun h=>h,fun h=>h,fun h=>h,fun _ _ h=>h,fun _ _ _ h=>h⟩,fun f q a=>da (i f q a) b.size,e.below b,fun _ _ h=>h,fun f=>?_,fun q a f=>?_⟩
 ·have:=d.lt;omega
 ·have:=e.lt q a;omega
end
section
variable{c:RC}{K:(Nat->Prop)->az->World->Prop}{w:World}{s:PS az}
theorem zo(f:Nat->Int)(a:Nat)(u v:Int):oL (oL f a u) a v=oL f a v:=by
 funext i
 unfold oL;split<;>rfl
def ab4(c:Nat):Option Rw->Int
 |some r=>eK (r.aO c)
 |none=>0
theorem RZ(a:Cl->Bool)(x:aX)(s:PS az){s':PS az}{r:Option Rw}{n:Int}{b:Nat}(f:x.b=(b:Int))(h:rowP a (fun r k=>aA k r) b s=(s',r,n)):
  GC a x s=if n=0 then fZ x s' (ab4 x.c.toNat r)else(s',n):=by
 unfold rowP at h;unfold GC fN;simp only[f,iS];obtain⟨j,d,g⟩: ∃u v,aV a s.cl [iG (s.bD b)]=(u,v):=⟨_,_,rfl⟩;rw[g]at h⊢;injection h with e h;injection h with i c;subst e i c;simp only;by_cases c:d=0
 ·subst c;simp only[if_true];cases aA (Lib.itoa (s.bD b)) s.rows<;>rfl
 ·simp[c]
theorem Vl(d:c.Fit)(h:uh K)(g:UO K)(k:Ge c.b K (fun r o=>aA o r))(v:MI c K w s)(x:aX)(a b cc:Nat)(z:a<8)(U:b<8)(aa:cc<4)(j:x.a=(a:Int))(e:x.b=(b:Int))(f:x.c=(cc:Int)):
  Calls prog 107 #[rv c.M,x.val] w (lZ c K (GC c.ok x s) w):=by
 have H:=v.at_ d h x;have m:=al (fun i r S=>RZ (s:=s) (s':=i) (r:=r) (n:=S) c.ok x e);obtain⟨dk,xa,xb,xc,X⟩:=x;simp only at j e f H;subst j e f;unfold aX.val;simp only;have f:=AI d h g k;have i1:(0:Int)<=(a:Int):=by omega
 have i2:(a:Int)<8:=by omega
 have j1:(0:Int)<=(cc:Int):=by omega
 have j2:(cc:Int)<4:=by omega
 go_enter func107,ntmps107;go_upto_region 1 with fail;generalize w.alloc (sa dk (a:Int) (b:Int) (cc:Int) X)=e at H⊢;obtain⟨O,n⟩:=rk (w.heap.size);rw[n]at H⊢;have l:=H.box;have o2:e.cell? ⟨O,2,none⟩=some (rm (b:Int)):=by simp[World.cell?,l]
 have j:=al (Rf d h g k H.mi b U);obtain⟨i,r,S,e⟩: ∃i r S,rowP c.ok (fun r o=>aA o r) b s=(i,r,S):=⟨_,_,_,rfl⟩;rw[e]at j;have P:=al (m.o _ _ _ e);have A:=al H;clear v l n e d h g k H m;go_wp2_with fail;refine j.o.m ?_;rintro e N ⟨rfl,g,d⟩;have p:=d.heap A.o.box (fun v=>A.o.off (f.o.1.sub _ v));obtain⟨⟨l,n,m,k⟩,o⟩: ∃q,r.getD .zero=q:=⟨_,rfl⟩;simp only[o,Rw.val];have u:=AI g d p o;clear g d p j o;go_upto_region 2 with fail;obtain⟨j,t⟩:=rj N (r8 l n m k);generalize N.alloc (r8 l n m k)=d at j t⊢;have M:=u.o.1.below f.o.1 f.o.2.1 j;have C:=qt j u.o.d.1;have L:Only c.W w d:=((oB A.o.Ce c.W).x u.o.2.1 (fun _ _ v=>v)).x (oB j c.W) (fun _ _ v=>v);obtain⟨V,I⟩:=rk (N.heap.size);rw[I]at t⊢;have F: ¬V=c.M:=fun e=>by obtain⟨_,p,_⟩:=u.o.1;have:=p.lt;omega
 have G:=A.o.ne f.o.1;have g:=AI M L F G;by_cases B:S=0
 ·subst B;have y:=al (P.o.x (ff rfl));obtain⟨f3,q,_⟩:=M;have m3:=q.bD z;have mf:=q.free (18+a);have Q:d.cell? ⟨O,1,none⟩=some (rm (a:Int)):=by simp[World.cell?,C]
  have D:d.cell? ⟨O,3,none⟩=some (rm (cc:Int)):=by simp[World.cell?,C]
  have H:d.cell? ⟨V,cc,none⟩=some (rm ((Rw.mk l n m k).aO cc)):=by rcases(show cc=0\/cc=1\/cc=2\/cc=3 by omega)with rfl|rfl|rfl|rfl<;>(unfold World.cell?;rw[t];rfl)
  have E:=AF Q D H;clear q C L j t I F G D H;go_upto_region 4 with fail
  go_still_tail 6,(by kernel_rfl)
  change wpList _ _ _ _ _ d.drew;have J:=al ((g.o.1.drew f.o.1 f.o.2.1).jL f.o.1 f.o.2.1 z (v:=0) ⟨by decide,by decide⟩)
  cases r with
  |none=>
   go_wp2_with fail;go_ret
   rw[y.o];refine⟨rfl,?_,g.o.2.1.x ((ma d 1 c.M (18+a) _).wD f.o.1) (fun _ _ v=>v)⟩;unfold fZ;exact J.o
  |some q=>
   have o:q=⟨l,n,m,k⟩:=u.o.t;subst o;simp only[mT];go_upto_region 6 with fail;have H:Only c.W w (d.setCell ⟨c.M,18+a,none⟩ (rm 0)).drew:=g.o.2.1.x ((ma d 1 c.M (18+a) _).wD f.o.1) (fun _ _ v=>v)
   have o: ∀q,((d.setCell ⟨c.M,18+a,none⟩ q).drew.cell? ⟨O,1,none⟩=some (rm (a:Int))/\(d.setCell ⟨c.M,18+a,none⟩ q).drew.cell? ⟨O,3,none⟩=some (rm (cc:Int))/\(d.setCell ⟨c.M,18+a,none⟩ q).drew.cell? ⟨V,cc,none⟩=some (rm ((Rw.mk l n m k).aO cc))):=fun q=>
    ⟨(ma d 1 c.M (18+a) q).cell E.o.1 g.o.t,(ma d 1 c.M (18+a) q).cell E.o.2.1 g.o.t,(ma d 1 c.M (18+a) q).cell E.o.d g.o.d.1⟩
   have o:=o (rm 0);have q:MI c K (d.setCell ⟨c.M,18+a,none⟩ (rm 0)).drew {i with bD:=oL i.bD a 0}:=J.o;have Z:(d.setCell ⟨c.M,18+a,none⟩ (rm 0)).drew.cell? ⟨c.M,18+a,none⟩=some (rm 0):=by obtain⟨_,p,_⟩:=q;have:=p.bD z;simpa[RC.ms,oL]using this
   have f5:(d.setCell ⟨c.M,18+a,none⟩ (rm 0)).drew.frozen? ⟨c.M,18+a,none⟩=false:=by obtain⟨_,p,_⟩:=q;exact p.free _
   generalize (d.setCell ⟨c.M,18+a,none⟩ (rm 0)).drew=w5 at H o q Z f5⊢;have R:=AD q H;obtain⟨D,d⟩:=rk ((Rw.mk l n m k).aO cc);rw[d]at o;have Y:=al d;have T:=al (fun W=>pG W D);clear q H J d Q m3 mf E;refine pt (S:=(fun W=>W.cell? ⟨O,1,none⟩=some (rm (a:Int))/\W.cell? ⟨O,3,none⟩=some (rm (cc:Int))/\W.cell? ⟨V,cc,none⟩=some (rm D))) (by kernel_rfl) o (fun d=>?_);refine bj [0,1,2,3,4,5,6,8,9] ?_
   iterate 9 (refine dZ (v:=?_) (fun _ ⟨H,J,E⟩=>?_) d ?_;rotate_left;(go_simp;try rfl);try simp only[xr])
   refine bq ?_;refine bA 7 (fun K h=>?_);go_simp;refine(T.o _).m ?_;rintro e Q ⟨rfl,rfl⟩
   try go_simp
   refine h.o _ _ (d) ?_;clear h K d;intro d
   try simp only[xr]
   refine lA 10 (v:=?_) (fun W q=>?_) d ?_;rotate_left
   ·obtain⟨H,J,E⟩:=q;go_simp;try rfl
   try simp only[xr]
   refine bA 11 (fun K h=>?_);go_simp;refine h.o _ _ (⟨(bg _ c.M (18+a) _).cell d.1 g.o.t,(bg _ c.M (18+a) _).cell d.2.1 g.o.t,(bg _ c.M (18+a) _).cell d.2.2 g.o.d.1⟩) ?_;clear h K d;intro d
   try simp only[xr]
   refine pw (by kernel_rfl) ?_ _;clear d o;go_wp2_with fail;go_ret
   rw[y.o,gL];have d:=(R.o.1.drew f.o.1 f.o.2.1).jL f.o.1 f.o.2.1 z (nv D);refine⟨rfl,?_,R.o.2.x ((ma w5 1 c.M (18+a) _).wD f.o.1) (fun _ _ v=>v)⟩;unfold fZ ab4;simp only[iS,Y.o];rw[<-zo i.bD a 0 (eK D)];exact d
 ·have d:(S==0)=false:=by simpa using B
  have y:=al (P.o.x (fb B));clear B M C L j t I F G;go_wp2_with fail;go_ret
  rw[y.o];exact⟨rfl,g.o.1,g.o.2.1⟩
end
section
variable{c:RC}{B T o m:Nat}{most:Int}{FT:Nat->Nat->Prop}{l:az}{w:World}{s:PS az}
def jT(c:Nat)(lo hi:Int):Cl:=⟨false,c,[],lo,hi⟩
theorem zq{c:Nat}{lo hi:Int}(e:c<4)(d:aQ lo)(b:aQ hi)(h:lo<=hi):Good [jT c lo hi]:=by intro x a;rw[gk]at a;subst a;unfold aQ at d b;refine⟨?_,⟨by unfold jT lq;simp;omega,by unfold jT lq;simp;omega,by unfold jT lq;simp;omega,by unfold jT maxLen;simp⟩⟩;unfold Ok EL jT;simp;omega
theorem aQ.i6{v:Int}(h:aQ v):I6 v:=by unfold aQ at h;unfold I6;omega
theorem R3{lo n:Int}(h:aQ lo)(a:0<=n):lo<=eK (lo+n):=by unfold aQ at h;unfold eK;omega
theorem JS(a:Cl->Bool)(x:aX)(s:PS az){b cc:Nat}{lo hi n:Int}{cl':List Cl}(f:x.b=(b:Int))(e:x.c=(cc:Int))(d:s.bD b=lo)(c:hi=eK (s.bD b+x.n))(h:aV a s.cl [jT cc lo hi]=(cl',n)):
  sM a x s=if n=0 then fZ x {s with cl:=cl'} ((min (cU cc lo hi s.rows).length 16:Nat):Int)else({s with cl:=cl'},n):=by
 subst d;subst c;unfold sM fN;simp only[f,e,iS];unfold jT at h;rw[h]
theorem NM(f:c.Fit)(p:c.b=rv B)(G:MI c (KB B T o m most FT l) w s)(x:aX)(a b cc:Nat)(Q:a<8)(H:b<8)(P:cc<4)(h:x.a=(a:Int))(i:x.b=(b:Int))(d:x.c=(cc:Int))(e:0<=x.n/\x.n<=1099511627776):
  Calls prog 111 #[rv c.M,x.val] w (lZ c (KB B T o m most FT l) (sM c.ok x s) w):=by
 have g:=G.at_ f KB.ok x;have r: ∀j,aQ (s.bD j):=by obtain⟨_,_,_,_,_,_,_,h7⟩:=G;exact h7.1
 have n: ∀F,c.S F->F<w.heap.size:=by obtain⟨_,_,_,_,_,_,h6,_⟩:=G;exact h6
 obtain⟨Y,xa,xb,xc,j⟩:=x;simp only at h i d g e;subst h i d;unfold aX.val;simp only;have d:=AM f p n r e;have i1:(0:Int)<=(a:Int):=by omega
 have i2:(a:Int)<8:=by omega
 have j1:(0:Int)<=(b:Int):=by omega
 have j2:(b:Int)<8:=by omega
 go_enter func111,ntmps111;go_upto_region 1 with fail;generalize w.alloc (sa Y (a:Int) (b:Int) (cc:Int) j)=k at g⊢;obtain⟨O,q⟩:=rk (w.heap.size);rw[q]at g⊢;have h:=g.box;have u:k.cell? ⟨O,2,none⟩=some (rm (b:Int)):=by simp[World.cell?,h]
 have v:=g.bD H;have i:=al g;clear G h q f p n r e g
 go_region
 go_upto_region 2 with fail;have r:=al (bd k.heap.size k).drew;have g:=r.o;generalize k.drew=n at r g⊢;have h:=qt g i.o.box;have J:n.cell? ⟨O,3,none⟩=some (rm (cc:Int)):=by simp[World.cell?,h]
 have C:n.cell? ⟨O,4,none⟩=some (rm j):=by simp[World.cell?,h]
 obtain⟨f,e⟩:=rk (s.bD b);rw[e];have A:IntKind.i64.wrap (f+j)=f+j:=by rw[me];have:=d.o.t.1 b;rw[e]at this;unfold aQ at this;have:=d.o.q;omega
 obtain⟨S0,V⟩:=rk (f+j);rw[V]at A;have t:=AD e V;have z:=al (fun W=>pG W S0);clear u v g h e;go_wp2_with fail;refine(z.o _).m ?_;rintro e w' ⟨rfl,rfl⟩;obtain⟨g,q⟩:=rk (max (-1099511627776) (min S0 1099511627776));rw[q];have h:g=eK (s.bD b+j):=by rw[<-q,<-t.o.2,<-t.o.1];rfl
 have u:aQ f:=t.o.1▸d.o.t.1 b;have y:aQ g:=by rw[h];exact nv _
 have v:f<=g:=by rw[h,t.o.1];exact R3 u d.o.q.1
 have p:=AI u y v h;clear q h u y v z C A;obtain⟨q,h⟩:=rj n (sd false (cc:Int) (#[]) f g);have D:=AD q h;clear q h;go_wp2_with fail;have S:=D.o;generalize n.alloc (sd false (cc:Int) (#[]) f g)=v at S⊢;obtain⟨q,h⟩:=S;obtain⟨X,C⟩:=rk (n.heap.size);rw[C]at h⊢;have u:Below k.heap.size k v:=r.o.x (q.m r.o.size);have E:Below w.heap.size w v:=i.o.Ce.x (u.m i.o.Ce.size);have v:=i.o.mi.below d.o.1 KB.ok u;have A:=mr (l:=[jT cc f g]) (F:=fun F=> ¬c.S F) h rfl (fun k=>by have n:=d.o.d.1 X k;have k:=i.o.Ce.size;have v:=r.o.size;omega) (by simp[maxLen]);have F:=qt u i.o.box;have y:=al (nu d.o.1 KB.ok v [jT cc f g] _ A (by simp) (zq P p.o.1 p.o.2.1 p.o.d.1));obtain⟨aa,n,k⟩: ∃z I,aV c.ok s.cl [jT cc f g]=(z,I):=⟨_,_,rfl⟩;rw[k]at y;have z:=JS (x:=⟨Y,a,b,cc,j⟩) c.ok s rfl rfl t.o.1 p.o.t k;have Z:=AF E F i.o.off;clear D q h C u E v A F k;refine y.o.m ?_;rintro e k ⟨rfl,u,F⟩;have C:=i.o.ne d.o.1;have E:=F.heap Z.o.2.1 C;have v:Only c.W w k:=(oB Z.o.1 c.W).x (F.wD d.o.1) (fun _ _ G=>G);by_cases D:n=0
 ·subst D;have I:=al (z.x (ff rfl));have q:=AI u v E C;clear z y F v C;go_upto_region 6 with fail;have GZ:=u;obtain⟨f4,h,_⟩:=GZ;have M:k.cell? ⟨c.M,26,none⟩=some (rv B)/\k.cell? ⟨O,3,none⟩=some (rm (cc:Int)):=⟨by have:=h.b;simp only[RC.ms]at this;rw[d.o.2.1]at this;exact this,by simp[World.cell?,E]⟩;clear h u E J
  have HF:=al (show ∀W,Below k.heap.size k W->Calls prog 166 #[rv B,rm (cc:Int),rm f,rm g,rm 16] W (BU ((cU cc f g s.rows).take 16) W)from fun W H=>by
   have A:=q.o.1.below d.o.1 KB.ok H;obtain⟨_,_,_,_,_,h,_⟩:=A
   exact KB.find (Z:=c.Z) h cc 16 f g P p.o.1.i6 p.o.2.1.i6 p.o.d.1 (by omega))
  refine pt (S:=(fun W=>Below k.heap.size k W/\W.cell? ⟨c.M,26,none⟩=some (rv B)/\W.cell? ⟨O,3,none⟩=some (rm (cc:Int)))) (by kernel_rfl) ⟨(bd _ _).drew,M⟩ (fun h=>?_);refine bj [0,1,2,3,4,5,6,7] ?_
  iterate 8 (refine dZ (v:=?_) (fun _ ⟨R,U,N⟩=>?_) h ?_;rotate_left;(go_simp;try rfl);try simp only[xr])
  refine bq ?_;refine bA 8 (fun K J=>?_);go_simp;refine(HF.o _ h.1).m ?_;rintro e wn ⟨A,cp,rfl,-,L⟩
  try go_simp
  refine J.o _ _ (tQ h L) ?_;clear J K h L;intro h
  try simp only[xr]
  refine bj [9,10,11,12,13] ?_
  iterate 5 (refine dZ (v:=?_) (fun _ ⟨R,U,N⟩=>?_) h ?_;rotate_left;(go_simp;try rfl);try simp only[xr])
  refine bq ?_;refine pw (by kernel_rfl) ?_ _;have N:=al h.1;clear h M
  rename World=>w5
  have J:=q.o.1.below d.o.1 KB.ok N.o;have U:=qt N.o q.o.d.1;obtain⟨f5,h,-⟩:=id J;have r5:=h.bD Q;have f5:=h.free (18+a);have o5:w5.cell? ⟨O,1,none⟩=some (rm (a:Int)):=by simp[World.cell?,U]
  have W:=al J;obtain⟨L,M⟩:=rk (min 16 (cU cc f g s.rows).length);rw[M];have R:=al M;clear h J U M;go_upto_region 7 with fail
  go_still_tail 8,(by kernel_rfl)
  change wpList _ _ _ _ _ w5.drew;go_wp2_with fail;go_ret
  rw[I.o];have J:aQ (L:Int):=by have:=R.o;unfold aQ;omega
  have h:=(W.o.drew d.o.1 KB.ok).jL d.o.1 KB.ok Q J;refine⟨rfl,?_,(q.o.2.1.x (oB N.o c.W) (fun _ _ G=>G)).x ((ma w5 1 c.M (18+a) _).wD d.o.1) (fun _ _ G=>G)⟩;unfold fZ;rw[Nat.min_comm,R.o];exact h
 ·have h:(n==0)=false:=by simpa using D
  have I:=al (z.x (fb D));have q:=AD u v;clear D z y F v C u E;go_wp2_with fail;go_ret
  rw[I.o];exact⟨rfl,q.o.1,q.o.2⟩
end
section
variable{c:RC}{B T o m:Nat}{most:Int}{FT:Nat->Nat->Prop}{l:az}{w:World}{s:PS az}
def ZA:List (List UInt8)->Int
 |k::_=>NB k
 |[]=> -1
theorem NN(a:Cl->Bool)(x:aX)(s:PS az){b cc:Nat}{v n:Int}{cl':List Cl}(e:x.b=(b:Int))(d:x.c=(cc:Int))(c:s.bD b=v)(h:aV a s.cl [jT cc v v]=(cl',n)):
  zh a x s=if n=0 then fZ x {s with cl:=cl'} (ZA (cU cc v v s.rows))else({s with cl:=cl'},n):=by
 subst c;unfold zh fN;simp only[e,d,iS];unfold jT at h;rw[h];simp only;cases cU cc (s.bD b) (s.bD b) s.rows<;>rfl
theorem Vn{r:az}(h:df r){cc:Nat}{v:Int}:aQ (ZA (cU cc v v r)):=by
 cases hh:cU cc v v r with
 |nil=>exact⟨by decide,by decide⟩
 |cons k a=>exact h.num (by rw[hh];rfl)
theorem Vo{r:az}(h:df r){cc:Nat}{v:Int}{k:List UInt8}{ks:List (List UInt8)}(c:cU cc v v r=k::ks):k.length<=1000:=by obtain⟨q,a,_⟩:=(kI h.1 h.fit).1 (show k∈cU cc v v r by rw[c];simp);obtain⟨⟨n,b,e⟩,_⟩:=h.2 _ a;simp only at e;rw[e];have:=(jC b).2;omega
theorem R4(d:c.Fit)(j:c.b=rv B)(G:MI c (KB B T o m most FT l) w s)(x:aX)(a b cc:Nat)(I:a<8)(t:b<8)(ac:cc<4)(i:x.a=(a:Int))(e:x.b=(b:Int))(f:x.c=(cc:Int)):
  Calls prog 110 #[rv c.M,x.val] w (lZ c (KB B T o m most FT l) (zh c.ok x s) w):=by
 have g:=G.at_ d KB.ok x;have p: ∀h,aQ (s.bD h):=by obtain⟨_,_,_,_,_,_,_,h7⟩:=G;exact h7.1
 have h: ∀H,c.S H->H<w.heap.size:=by obtain⟨_,_,_,_,_,_,D,_⟩:=G;exact D
 obtain⟨dk,xa,xb,xc,xn⟩:=x;simp only at i e f g;subst i e f;unfold aX.val;simp only;have f:=AI d j h p;have i1:(0:Int)<=(a:Int):=by omega
 have i2:(a:Int)<8:=by omega
 have j1:(0:Int)<=(b:Int):=by omega
 have j2:(b:Int)<8:=by omega
 go_enter func110,ntmps110;go_upto_region 1 with fail;generalize w.alloc (sa dk (a:Int) (b:Int) (cc:Int) xn)=e at g⊢;obtain⟨O,n⟩:=rk (w.heap.size);rw[n]at g⊢;have k:=g.box;have r:e.cell? ⟨O,2,none⟩=some (rm (b:Int)):=by simp[World.cell?,k]
 have q:=g.bD t;have i:=al g;clear G k n d j h p g
 go_region
 go_upto_region 2 with fail;have C:=al (bd e.heap.size e).drew;have g:=C.o;generalize e.drew=h at C g⊢;have j:=qt g i.o.box;have z:h.cell? ⟨O,3,none⟩=some (rm (cc:Int)):=by simp[World.cell?,j]
 obtain⟨v,d⟩:=rk (s.bD b);rw[d];have E:=al (show aQ v/\s.bD b=v from⟨d▸f.o.t b,d⟩);clear r q g j d;obtain⟨g,d⟩:=rj h (sd false (cc:Int) (#[]) v v);have p:=AD g d;clear g d;go_wp2_with fail;have N8:=p.o;generalize h.alloc (sd false (cc:Int) (#[]) v v)=j at N8⊢;obtain⟨g,d⟩:=N8;obtain⟨X,q⟩:=rk (h.heap.size);rw[q]at d⊢;have h:Below e.heap.size e j:=C.o.x (g.m C.o.size);have r:Below w.heap.size w j:=i.o.Ce.x (h.m i.o.Ce.size);have j:=i.o.mi.below f.o.1 KB.ok h;have k:=mr (l:=[jT cc v v]) (F:=fun H=> ¬c.S H) d rfl (fun e=>by have n:=f.o.d.1 X e;have e:=i.o.Ce.size;have j:=C.o.size;omega) (by simp[maxLen]);have u:=qt h i.o.box;have M:=al (nu f.o.1 KB.ok j [jT cc v v] _ k (by simp) (zq ac E.o.1 E.o.1 (eL _)));obtain⟨ap,n,e⟩: ∃A y,aV c.ok s.cl [jT cc v v]=(A,y):=⟨_,_,rfl⟩;rw[e]at M;have S:=NN (x:=⟨dk,a,b,cc,xn⟩) c.ok s rfl rfl E.o.2 e;have H3:=AF r u i.o.off;clear p g d q h r j k u e;refine M.o.m ?_;rintro e h ⟨rfl,y,R⟩;have U:=i.o.ne f.o.1;have V:=R.heap H3.o.2.1 U;have J:Only c.W w h:=(oB H3.o.1 c.W).x (R.wD f.o.1) (fun _ _ G=>G);by_cases Q:n=0
 ·subst Q;have N:=al (S.x (ff rfl));have k:=AI y J V U;clear S M R J U z;go_upto_region 5 with fail;obtain⟨r,z,-⟩:=id y;have L:h.cell? ⟨O,1,none⟩=some (rm (a:Int)):=by simp[World.cell?,V]
  have A:=z.bD I;have r:=z.free (18+a);clear z y V
  go_still_tail 6,(by kernel_rfl)
  change wpList _ _ _ _ _ h.drew;go_upto_region 6 with fail;have d:MI c (KB B T o m most FT l) (h.setCell ⟨c.M,18+a,none⟩ (rm (-1))).drew {s with cl:=ap,bD:=oL s.bD a (-1)}:=(k.o.1.drew f.o.1 KB.ok).jL f.o.1 KB.ok I (v:= -1) ⟨by decide,by decide⟩;have j:Only c.W w (h.setCell ⟨c.M,18+a,none⟩ (rm (-1))).drew:=k.o.2.1.x ((ma h 1 c.M (18+a) _).wD f.o.1) (fun _ _ G=>G);have g:(h.setCell ⟨c.M,18+a,none⟩ (rm (-1))).drew.heap[O]?=_:=(ma h 1 c.M (18+a) (rm (-1))).heap k.o.d.1 k.o.t;generalize (h.setCell ⟨c.M,18+a,none⟩ (rm (-1))).drew=p at d j g⊢;obtain⟨f5,q,-⟩:=id d;have F:p.cell? ⟨c.M,26,none⟩=some (rv B)/\p.cell? ⟨O,3,none⟩=some (rm (cc:Int)):=⟨by have:=q.b;simp only[RC.ms]at this;rw[f.o.2.1]at this;exact this,by simp[World.cell?,g]⟩;have u:=AF d j g;clear q d j g A r L
  have HF:=al (show ∀W,Below p.heap.size p W->Calls prog 166 #[rv B,rm (cc:Int),rm v,rm v,rm 1] W (BU ((cU cc v v s.rows).take 1) W)from fun W t=>by
   have d:=u.o.1.below f.o.1 KB.ok t;obtain⟨_,_,_,_,_,g,_⟩:=d
   exact KB.find (Z:=c.Z) g cc 1 v v ac E.o.1.i6 E.o.1.i6 (eL _) (by omega))
  refine pt (S:=(fun W=>Below p.heap.size p W/\W.cell? ⟨c.M,26,none⟩=some (rv B)/\W.cell? ⟨O,3,none⟩=some (rm (cc:Int)))) (by kernel_rfl) ⟨(bd _ _).drew,F⟩ (fun d=>?_);refine bj [0,1,2,3,4,5,6,7] ?_
  iterate 8 (refine dZ (v:=?_) (fun _ ⟨s0,s1,g⟩=>?_) d ?_;rotate_left;(go_simp;try rfl);try simp only[xr])
  refine bq ?_;refine bA 8 (fun K j=>?_);go_simp;refine(HF.o _ d.1).m ?_;rintro e wn ⟨A,cp,rfl,r,q⟩;have HO:=al r;clear r
  try go_simp
  refine j.o _ _ (tQ d q) ?_;clear j K d q;intro d
  try simp only[xr]
  refine bj [9,10,11,12,13] ?_
  iterate 5 (refine dZ (v:=?_) (fun _ ⟨s0,s1,g⟩=>?_) d ?_;rotate_left;(go_simp;try rfl);try simp only[xr])
  refine bq ?_;refine pw (by kernel_rfl) ?_ _;have MQ:=al d.1;clear d F
  rename World=>w6
  have D:=u.o.1.below f.o.1 KB.ok MQ.o;have Z:=qt MQ.o u.o.d;have DW:=u.o.2.1.x (oB MQ.o c.W) (fun _ _ G=>G);have o6:w6.cell? ⟨O,1,none⟩=some (rm (a:Int)):=by simp[World.cell?,Z]
  obtain⟨_,_,_,_,_,g,_⟩:=id D;have Y:=KB.rows g;have aa:=KB.tab _ _ _ g;have ad:=KB.errs g;clear g;have R5:=Vn Y (cc:=cc) (v:=v);simp only at R5;obtain⟨L,P⟩:=rk (cU cc v v s.rows);rw[P]at HO⊢;have WR:aQ (ZA L):=by rw[<-P];exact R5
  have g:=AS D DW Z P WR aa ad;have am:=al Y;clear D DW Z Y aa ad R5 WR P
  cases L with
  |nil=>
   go_wp2_with fail;go_ret
   rw[N.o,g.o.t.1];exact⟨rfl,g.o.1,g.o.2.1⟩
  |cons H D=>
   have kg:min 1 (H::D).length=1:=by simp
   rw[kg];have P:=Vo am.o g.o.t.1;have r:=HO.o;obtain⟨D,rfl,Z⟩:=QH (j:=0) (k:=H) r rfl;have Y:=(r.lt D rfl).1;clear r;have r: ¬D=c.M:=fun e=>by have aa:p.heap.size<=D:=Y;obtain⟨_,z,_⟩:=u.o.1;have:=z.lt;omega
   have F:w6.cell? ⟨O,1,none⟩=some (rm (a:Int))/\w6.cell? ⟨D,0,none⟩=some (r7 H):=⟨o6,Z⟩;have HN:=al (show ∀W,Below w6.heap.size w6 W->Calls prog 167 #[r7 H] W (ab3 (jm H) W)from fun W t=>DK W H P (g.o.q.2.1.below t) (g.o.q.d.below t));have HG:=al r;clear o6 Z Y kg P r;go_upto_region 8 with fail;refine pt (S:=(fun W=>W.cell? ⟨O,1,none⟩=some (rm (a:Int))/\W.cell? ⟨D,0,none⟩=some (r7 H))) (by kernel_rfl) F (fun d=>?_);refine bj [0,1,2,3,4,5,10,11] ?_
   iterate 8 (refine dZ (v:=?_) (fun _ ⟨s0,s1⟩=>?_) d ?_;rotate_left;(go_simp;try rfl);try simp only[xr])
   refine bq ?_;refine bA 6 (fun K j=>?_);go_simp;refine(HN.o _ ((bd _ _).drew)).m ?_;rintro e wn ⟨rfl,q⟩;have p:=((bd w6.heap.size w6).drew).x (q.m (b8 _));have r:=g.o.1.below f.o.1 KB.ok p;obtain⟨_,H,-⟩:=id r;have W:=H.bD I;have Y:=H.free (18+a);have P:=AD r p;clear H r p
   try go_simp
   refine j.o _ _ (⟨(q.cell (aq _ _ d.1)).x d.1,(q.cell (aq _ _ d.2)).x d.2⟩) ?_;clear j K d q;intro d
   try simp only[xr]
   refine bj [7,8,9,12] ?_
   iterate 4 (refine dZ (v:=?_) (fun _ ⟨s0,s1⟩=>?_) d ?_;rotate_left;(go_simp;try rfl);try simp only[xr])
   refine bq ?_;refine bA 13 (fun K j=>?_);go_simp;refine j.o _ _ (⟨(bg _ c.M (18+a) _).cell d.1 k.o.t,(bg _ c.M (18+a) _).cell d.2 HG.o⟩) ?_;clear j K d;intro d
   try simp only[xr]
   refine pw (by kernel_rfl) ?_ _;clear d F;go_wp2_with fail;go_ret
   rw[N.o,g.o.t.1];refine⟨rfl,?_,(g.o.2.1.x (oB P.o.2 c.W) (fun _ _ G=>G)).x ((bg wn c.M (18+a) _).wD f.o.1) (fun _ _ G=>G)⟩;have d:=P.o.1.jL f.o.1 KB.ok I g.o.q.1;simp only[zo]at d;exact d
 ·have d:(n==0)=false:=by simpa using Q
  have N:=al (S.x (fb Q));have k:=AD y J;clear Q S M R J U y V;go_wp2_with fail;go_ret
  rw[N.o];exact⟨rfl,k.o.1,k.o.2⟩
end
theorem R6{w:World}{base n:Nat}{F:Nat->Prop}{v:Value}{l:List Cl}(k:w.ownsRow base 68 5 v n (N5 l))(b:l.length=n)(d: ∀a,base<=a->F a):eI w F v l:=by
 rcases k.2 with⟨rfl,u⟩|⟨m,o,p,rfl,f,r,e,g,s,z⟩
 ·have:l=[]:=de (by omega);subst this;subst b;exact bI.nil 5 _ _
 ·refine⟨_,_,_,rfl,by simpa using b,e,g,fun _=>⟨m,0,rfl,d m f,fun i x a j A c=>?_⟩⟩;have y:i<n:=by have:=(aw.1 a).1;simpa[b]using this
  have q:=dK l x (db a);have t:j<5:=by have:=(aw.1 c).1;omega
  have h:=jX (dK l) i x a j A c;have a:=k.cellAt (i*5+j) (by omega);rw[ie,a];exact h
theorem qd{c:Nat}(i:c<4){old now:Option Rw}(d: ∀r,old=some r-> ∀c,aQ (r.aO c))(e: ∀r,now=some r-> ∀c,aQ (r.aO c)):Good (vg c old now):=by
 have b: ∀{v:Int},aQ v->Good [(⟨true,c,[],v,v⟩:Cl)]:=fun{v} f x a=>by rw[gk]at a;subst a;unfold aQ at f;refine⟨?_,⟨by unfold lq;simp;omega,by unfold lq;simp;omega,by unfold lq;simp;omega,by unfold maxLen;simp⟩⟩;unfold Ok EL;simp;omega
 intro x a;unfold vg at a;split at a
 ·rename_i g h;split at a
  ·simp at a
  ·simp only[List.mem_cons,List.not_mem_nil,or_false]at a;rcases a with rfl|rfl
   ·exact b (d g rfl c) _ (by simp)
   ·exact b (e h rfl c) _ (by simp)
 ·rename_i g;exact b (d g rfl c) _ a
 ·rename_i h;exact b (e h rfl c) _ a
 ·simp at a
theorem zr{n:Int}(h:aQ n){old now:Option Rw}(b: ∀r,old=some r-> ∀c,aQ (r.aO c))(d: ∀r,now=some r-> ∀c,aQ (r.aO c)):Good (iz (Lib.itoa n) old now):=by
 have e: ∀{k:List UInt8},dY k=0->k.length<=16->Good [(⟨true,-1,k,0,0⟩:Cl)]:=fun{k} f g x a=>by rw[gk]at a;subst a;refine⟨?_,⟨by unfold lq;simp,by unfold lq;simp,by unfold lq;simp,by unfold maxLen;simp only;omega⟩⟩;unfold Ok EL;simp[f]
 intro x a;unfold iz at a;simp only[List.mem_cons,List.mem_append]at a;rcases a with rfl|a|a|a|a|a
 ·exact e (yu h) (jC h).2 _ (by simp)
 ·split at a
  ·simp at a
  ·exact e (k:=[35]) (by decide) (by decide) _ a
 ·exact qd (by decide) b d x a
 ·exact qd (by decide) b d x a
 ·exact qd (by decide) b d x a
 ·exact qd (by decide) b d x a
theorem Cj(k:List UInt8)(old now:Option Rw):(iz k old now).length<=10:=by rw[<-xH];exact qU k old now 4
section
variable{c:RC}{B T o m:Nat}{most:Int}{FT:Nat->Nat->Prop}{l:az}{w:World}{s:PS az}
theorem MI.rows{K:(Nat->Prop)->az->World->Prop}{w':World}(t:MI c K w s)(g:c.S m)(l:m≠c.M)(a:Only (fun j=>j=m) w w'){r:az}(b:K c.Z r w'):MI c K w' {s with rows:=r}:=by obtain⟨q,i,j,f,o,p,h,n⟩:=t;have d: ∀k,k=m->c.S k:=fun k e=>e▸g;exact⟨q,i.only a (fun e=>l e.symm),j.only a d,f.only a d,o.only a (fun k b e=>b (d k e)),b,fun k b=>da (h k b) a.size,n⟩
theorem R7(a:Cl->Bool)(x:aX)(s:PS az){b:Nat}{v n:Int}{cl':List Cl}(c:x.b=(b:Int))(d:s.bD b=v)(h:aV a s.cl (iz (Lib.itoa v) (aA (Lib.itoa v) s.rows) none)=(cl',n)):
  GF a x s=if n=0 then({s with cl:=cl',rows:=eZ (Lib.itoa v) s.rows},0)else({s with cl:=cl'},n):=by
 subst d;unfold GF fN;simp only[c,iS];rw[h]
theorem Vp(g:c.Fit)(p:c.b=rv B)(G:c.S m)(D:c.W m)(y:m≠c.M)(z:MI c (KB B T o m most FT l) w s)(x:aX)(b:Nat)(O:b<8)(a:x.b=(b:Int)):
  Calls prog 109 #[rv c.M,x.val] w (lZ c (KB B T o m most FT l) (GF c.ok x s) w):=by
 have H:=z.at_ g KB.ok x;have h: ∀i,aQ (s.bD i):=by obtain⟨_,_,_,_,_,_,_,P⟩:=z;exact P.1
 have n: ∀k,c.S k->k<w.heap.size:=by obtain⟨_,_,_,_,_,_,Q,_⟩:=z;exact Q
 have j:df s.rows:=by obtain⟨_,_,_,_,_,d,_⟩:=z;exact KB.rows d
 obtain⟨M,I,V,L,E⟩:=x;simp only at a H;subst a;unfold aX.val;simp only;have a:=By g p n h j G D y;have j1:(0:Int)<=(b:Int):=by omega
 have j2:(b:Int)<8:=by omega
 go_enter func109,ntmps109;go_upto_region 1 with fail;generalize w.alloc (sa M I (b:Int) L E)=e at H⊢;obtain⟨U,F⟩:=rk (w.heap.size);rw[F]at H⊢;have u:=H.box;obtain⟨A,f⟩:=rk (s.bD b);have J:e.cell? ⟨U,2,none⟩=some (rm (b:Int))/\e.cell? ⟨c.M,18+b,none⟩=some (rm A):=⟨by simp[World.cell?,u],f▸H.bD O⟩;have i:aQ A:=f▸h b;have q:=al (show ∀W,Below e.heap.size e W->Calls prog 161 #[rm A] W fun C t=>C=.returned (.string ⟨(Lib.itoa A).toArray⟩)/\Below W.heap.size W t from fun W t=>Dz W A i.i64 (by have v:=H.mi.below g KB.ok t;obtain⟨_,_,_,_,_,d,_⟩:=v;exact KB.tab _ _ _ d));have v:=al H;have t:=AD i f;clear z u F g p n h H j G D y i f;refine pt (S:=(fun W=>Below e.heap.size e W/\W.cell? ⟨U,2,none⟩=some (rm (b:Int))/\W.cell? ⟨c.M,18+b,none⟩=some (rm A))) (by kernel_rfl) ⟨(bd _ _).drew,J⟩ (fun e=>?_);refine bj [0,1,2,3,4,5,6] ?_
 iterate 7 (refine dZ (v:=?_) (fun _ ⟨i,j,h⟩=>?_) e ?_;rotate_left;(go_simp;try rfl);try simp only[xr])
 refine bq ?_;refine bA 7 (fun K f=>?_);go_simp;refine(q.o _ e.1).m ?_;rintro C Y ⟨rfl,g⟩
 try go_simp
 refine f.o _ _ (tQ e g) ?_;clear f K e g;intro e
 try simp only[xr]
 refine lA 8 (v:=?_) (fun g f=>?_) e ?_;rotate_left
 ·obtain⟨i,j,h⟩:=f;go_simp;try rfl
 try simp only[xr]
 refine pw (by kernel_rfl) ?_ _;have F:=al e.1;clear e J
 rename World=>w2
 have n:=v.o.mi.below a.o.1 KB.ok F.o;have p:=v.o.Ce.x (F.o.m v.o.Ce.size);obtain⟨k,d⟩:=rk (Lib.itoa A);rw[d];have j:1<=k.length/\k.length<=16:=d▸jC t.o.1;obtain⟨f2,h,_,_,_,f,_⟩:=id n;have G:w2.cell? ⟨c.M,26,none⟩=some (rv B):=by have:=h.b;simp only[RC.ms]at this;rw[a.o.2.1]at this;exact this
 have i:=al (KB.RY f j 10 ⟨0,0,0,0⟩ none (.inr ⟨rfl,rfl⟩));have g:=zr t.o.1 (old:=aA k s.rows) (now:=none) (fun r e c=>by have:=(aD a.o.q.1.1).1 e;exact(a.o.q.1.2 _ this).2 c) (fun r e=>by cases e);rw[d]at g;have e:=AI n p g d;clear n p g j h f d q;unfold Rw.val at i;go_wp2_with fail;refine i.o.m ?_;rintro C w3 ⟨X,rfl,u,g⟩;have D:=e.o.1.below a.o.1 KB.ok g;have y:=R6 (F:=fun k=> ¬c.S k) u rfl (fun k d h=>by have j:=a.o.d.1 k h;have n:=e.o.2.1.size;omega);have j:=al (nu a.o.1 KB.ok D _ _ y (by have:=Cj k (aA k s.rows) none;omega) e.o.d.1);obtain⟨N,S,h⟩: ∃q p,aV c.ok s.cl (iz k (aA k s.rows) none)=(q,p):=⟨_,_,rfl⟩;rw[h]at j;have q:=R7 (x:=⟨M,I,b,L,E⟩) (cl':=N) (n:=S) c.ok s rfl t.o.2 (by rw[e.o.t];exact h);rw[e.o.t]at q;have R:=al (e.o.2.1.x (g.m e.o.2.1.size));have p:=al q;clear D y h u g i G q;go_wp2_with fail;refine j.o.m ?_;rintro C G ⟨rfl,g,y⟩;have i:Only c.W w G:=(oB R.o c.W).x (y.wD a.o.1) (fun _ _ z=>z);by_cases q:S=0
 ·subst q;have u:=al (p.o.x (ff rfl));have h:=AD g i;obtain⟨f4,H,_,_,_,f,D,_⟩:=id g;have Z:G.cell? ⟨c.M,26,none⟩=some (rv B):=by have:=H.b;simp only[RC.ms]at this;rw[a.o.2.1]at this;exact this
  have J:=al (KB.del f (fun k d=>D k (a.o.1.YX k d)) t.o.1);rw[e.o.t]at J;clear H f D g i y p j;go_wp2_with fail;refine J.o.m ?_;rintro C W ⟨⟨nn,rfl⟩,D,f⟩;have H:=AD (h.o.1.rows a.o.q.2.1 a.o.q.t f D) (h.o.2.x (f.m (fun k _ C=>C▸a.o.q.d.1)) (fun _ _ z=>z));clear D f;go_wp2_with fail;go_ret
  rw[u.o];exact⟨rfl,H.o.1,H.o.2⟩
 ·have f:(S==0)=false:=by simpa using q
  have u:=al (p.o.x (fb q));have h:=AD g i;clear q p j y i g;go_wp2_with fail;go_ret
  rw[u.o];exact⟨rfl,h.o.1,h.o.2⟩
end
theorem Sb{W:World}{e d f b c:Addr}{v1 v2 v3 v4 v5:Value}(h:W.cell? e=some v1/\W.cell? d=some v2/\W.cell? f=some v3/\W.cell? b=some v4/\W.cell? c=some v5)(o:Obj):(W.alloc o).cell? e=some v1/\(W.alloc o).cell? d=some v2/\(W.alloc o).cell? f=some v3/\(W.alloc o).cell? b=some v4/\(W.alloc o).cell? c=some v5:=
 have a:=ae W o
 ⟨(a.cell (aq _ _ h.1)).x h.1,(a.cell (aq _ _ h.2.1)).x h.2.1,(a.cell (aq _ _ h.2.2.1)).x h.2.2.1,(a.cell (aq _ _ h.2.2.2.1)).x h.2.2.2.1,(a.cell (aq _ _ h.2.2.2.2)).x h.2.2.2.2⟩
theorem ZE{c W a:World}{e g f d i:Addr}{v1 v2 v3 v4 v5:Value}(h:Below c.heap.size c W/\W.cell? e=some v1/\W.cell? g=some v2/\W.cell? f=some v3/\W.cell? d=some v4/\W.cell? i=some v5)(b:Below W.heap.size W a):Below c.heap.size c a/\a.cell? e=some v1/\a.cell? g=some v2/\a.cell? f=some v3/\a.cell? d=some v4/\a.cell? i=some v5:=
 ⟨h.1.x (b.m h.1.size),(b.cell (aq _ _ h.2.1)).x h.2.1,(b.cell (aq _ _ h.2.2.1)).x h.2.2.1,(b.cell (aq _ _ h.2.2.2.1)).x h.2.2.2.1,(b.cell (aq _ _ h.2.2.2.2.1)).x h.2.2.2.2.1,(b.cell (aq _ _ h.2.2.2.2.2)).x h.2.2.2.2.2⟩
theorem Sc(most:Int)(c:Cl->Bool)(x:aX)(s:PS az){a b:Nat}{v n:Int}{q:Rw}{cl':List Cl}(e:x.a=(a:Int))(g:x.b=(b:Int))(f:s.bD b=v)(d:zg s.bD a=q)(h:aV c s.cl (iz (Lib.itoa v) (aA (Lib.itoa v) s.rows) (some q))=(cl',n)):
  GD most c x s=if n=0 then(if aA (Lib.itoa v) s.rows=none/\most<=(s.rows.length:Int)then({s with cl:=cl'},16)else({s with cl:=cl',rows:=cO (Lib.itoa v,q) s.rows},0))else({s with cl:=cl'},n):=by
 subst f;subst d;unfold GD fN;simp only[e,g,iS];rw[h]
theorem Tryz.JT(w:World)(M a:Nat)(g:a<5):(Instr.sliceAt 149 (.pointer (some ⟨M,18,none⟩)) (some (rm (a:Int))) (some (rm ((a:Int)+4))) none).run prog w=.ok (.slice (some ⟨M,18+a,none⟩) 4 (8-a)) w:=by
 have b:prog.arrayLen 149=8:=by kernel_rfl
 have f: ∀W,(sizeOf (prog.elem 149)).run prog W=.ok 1 W:=fun W=>by kernel_rfl
 have h:=run_sliceAt_array_lh (P:=prog) w 149 ⟨M,18,none⟩ (by kernel_rfl) .i64 .i64 (a:Int) ((a:Int)+4) (by omega) (by omega) (by rw[b];omega);rw[h,f,b];have c:((a:Int)+4).toNat=a+4:=by omega
 have e:((a:Int)).toNat=a:=by omega
 simp only[Result.andThen,slicedAt,c,e,fb (show ¬8=a by omega)];have d:a+4-a=4:=by omega
 rw[d];simp[Addr.add]
theorem Tryz.Vq(w:World)(a:Option Addr)(n:Nat):(Instr.arrayAt 109 (.slice a 4 n)).run prog w=.ok (.pointer a) w:=run_arrayAt w 109 3 4 a 4 n (by kernel_rfl) (b8 _)
section
variable{c:RC}{B T o m:Nat}{most:Int}{FT:Nat->Nat->Prop}{l:az}{w:World}{s:PS az}
theorem Vr(g:c.Fit)(p:c.b=rv B)(A:c.S m)(y:c.W m)(v:m≠c.M)(G:MI c (KB B T o m most FT l) w s)(x:aX)(a b:Nat)(ha:a<5)(hb:b<8)(e:x.a=(a:Int))(d:x.b=(b:Int)):
  Calls prog 108 #[rv c.M,x.val] w (lZ c (KB B T o m most FT l) (GD most c.ok x s) w):=by
 have H:=G.at_ g KB.ok x;have h: ∀i,aQ (s.bD i):=by obtain⟨_,_,_,_,_,_,_,h7⟩:=G;exact h7.1
 have k: ∀u,c.S u->u<w.heap.size:=by obtain⟨_,_,_,_,_,_,h6,_⟩:=G;exact h6
 have n:df s.rows:=by obtain⟨_,_,_,_,_,j,_⟩:=G;exact KB.rows j
 obtain⟨dk,xa,xb,xc,xn⟩:=x;simp only at e d H;subst e d;unfold aX.val;simp only;have e:=By g p k h n A y v;have j1:(0:Int)<=(b:Int):=by omega
 have j2:(b:Int)<8:=by omega
 go_enter func108,ntmps108;go_upto_region 1 with fail;generalize w.alloc (sa dk (a:Int) (b:Int) xc xn)=d at H⊢;obtain⟨O,z⟩:=rk (w.heap.size);rw[z]at H⊢;have t:=H.box;obtain⟨Y,f⟩:=rk (s.bD b);have q:d.cell? ⟨O,2,none⟩=some (rm (b:Int))/\d.cell? ⟨c.M,18+b,none⟩=some (rm Y):=⟨by simp[World.cell?,t],f▸H.bD hb⟩;have i:aQ Y:=f▸h b;have J:=al (show ∀W,Below d.heap.size d W->Calls prog 161 #[rm Y] W fun X C=>X=.returned (.string ⟨(Lib.itoa Y).toArray⟩)/\Below W.heap.size W C from fun W Q=>Dz W Y i.i64 (by have C:=H.mi.below g KB.ok Q;obtain⟨_,_,_,_,_,j,_⟩:=C;exact KB.tab _ _ _ j));have L:=al H;have P:=AD i f;clear G t z g p k h H n A y v i f;refine pt (S:=(fun W=>Below d.heap.size d W/\W.cell? ⟨O,2,none⟩=some (rm (b:Int))/\W.cell? ⟨c.M,18+b,none⟩=some (rm Y))) (by kernel_rfl) ⟨(bd _ _).drew,q⟩ (fun d=>?_);refine bj [0,1,2,3,4,5,6] ?_
 iterate 7 (refine dZ (v:=?_) (fun _ ⟨M,N,I⟩=>?_) d ?_;rotate_left;(go_simp;try rfl);try simp only[xr])
 refine bq ?_;refine bA 7 (fun K k=>?_);go_simp;refine(J.o _ d.1).m ?_;rintro X wn ⟨rfl,y⟩
 try go_simp
 refine k.o _ _ (tQ d y) ?_;clear k K d y;intro d
 try simp only[xr]
 refine lA 8 (v:=?_) (fun g f=>?_) d ?_;rotate_left
 ·obtain⟨M,N,I⟩:=f;go_simp;try rfl
 try simp only[xr]
 refine pw (by kernel_rfl) ?_ _;have U:=al d.1;clear d q
 rename World=>w2
 have F:=L.o.mi.below e.o.1 KB.ok U.o;have E:=qt U.o L.o.box;have H:=L.o.Ce.x (U.o.m L.o.Ce.size);obtain⟨u,j⟩:=rk (Lib.itoa Y);rw[j];obtain⟨f2,t,_⟩:=id F;obtain⟨f,v⟩:=rk (s.bD a);obtain⟨i,D⟩:=rk (s.bD (a+1));obtain⟨g,z⟩:=rk (s.bD (a+2));obtain⟨h,A⟩:=rk (s.bD (a+3));have n:zg s.bD a=⟨f,i,g,h⟩:=by unfold zg;rw[v,D,z,A]
 have q:w2.cell? ⟨O,1,none⟩=some (rm (a:Int))/\w2.cell? ⟨c.M,18+a,none⟩=some (rm f)/\w2.cell? ⟨c.M,18+a+1,none⟩=some (rm i)/\w2.cell? ⟨c.M,18+a+2,none⟩=some (rm g)/\w2.cell? ⟨c.M,18+a+3,none⟩=some (rm h):=
  ⟨by simp[World.cell?,E],v▸t.bD (show a<8 by omega),by have:=t.bD (show a+1<8 by omega);simp only[RC.ms]at this;rw[D]at this;exact this,by have:=t.bD (show a+2<8 by omega);simp only[RC.ms]at this;rw[z]at this;exact this,by have:=t.bD (show a+3<8 by omega);simp only[RC.ms]at this;rw[A]at this;exact this⟩
 have i1:(0:Int)<=(a:Int):=by omega
 have i2:(a:Int)<=4:=by omega
 have p:=AM F H j E n;clear F H t j J E n v D z A;have z:IntKind.i64.wrap ((a:Int)+4)=(a:Int)+4:=by rw[me];omega
 have v:=fun W=>Tryz.JT W c.M a ha;have t:=fun W A n=>Tryz.Vq W A n;go_upto_region 2 with fail;refine pt (S:=(fun W=>W.cell? ⟨O,1,none⟩=some (rm (a:Int))/\W.cell? ⟨c.M,18+a,none⟩=some (rm f)/\W.cell? ⟨c.M,18+a+1,none⟩=some (rm i)/\W.cell? ⟨c.M,18+a+2,none⟩=some (rm g)/\W.cell? ⟨c.M,18+a+3,none⟩=some (rm h))) (by kernel_rfl) q (fun d=>?_);refine bj [0,1,2,3,4,5,6,7,8,9,10] ?_
 iterate 11 (refine dZ (v:=?_) (fun _ ⟨M,N,I,s3,s4⟩=>?_) d ?_;rotate_left;(go_simp;try rfl);try simp only[xr])
 refine bq ?_;refine bA 11 (fun K k=>?_);go_simp;refine k.o _ _ (Sb d _) ?_;clear k K d;intro d
 try simp only[xr]
 refine bA 12 (fun K k=>?_);go_simp;refine k.o _ _ (Sb q _) ?_;clear k K d;intro d
 try simp only[xr]
 refine pw (by kernel_rfl) ?_ _;clear d q v t z;have H:=(ae w2 (r8 f i g h)).drew;have E:(w2.alloc (r8 f i g h)).drew.heap[w2.heap.size]?=_:=an w2 (r8 f i g h);generalize (w2.alloc (r8 f i g h)).drew=t at H E⊢;obtain⟨V,hV⟩:=rk (w2.heap.size);rw[hV]at E⊢;go_upto_region 3 with fail;have J:=p.o.1.below e.o.1 KB.ok H;have qj:=p.o.2.1.x (H.m p.o.2.1.size);have Z: ¬V=c.M:=fun X=>by obtain⟨_,hm,_⟩:=p.o.1;have:=hm.lt;omega
 obtain⟨f3,vB,_,_,_,R,_⟩:=id J;obtain⟨⟨z,A,D,F⟩,-⟩:=cP E;have q:t.cell? ⟨c.M,26,none⟩=some (rv B)/\t.cell? ⟨V,0,none⟩=some (rm f)/\t.cell? ⟨V,1,none⟩=some (rm i)/\t.cell? ⟨V,2,none⟩=some (rm g)/\t.cell? ⟨V,3,none⟩=some (rm h):=⟨by have:=vB.b;simp only[RC.ms]at this;rw[e.o.2.1]at this;exact this,z,A,D,F⟩;have aa:1<=u.length/\u.length<=16:=p.o.d.1▸jC P.o.1;have S: ∀c,aQ ((Rw.mk f i g h).aO c):=fun c=>by rw[<-p.o.q];exact NC e.o.t.1 a c
 have GY:=al (show ∀W,Below t.heap.size t W->Calls prog 162 #[rm 9,rv B,r7 u,.agg #[rm f,rm i,rm g,rm h]] W (Yo (iz u (aA u s.rows) (some ⟨f,i,g,h⟩)) W)from fun W Q=>by
  have C:=J.below e.o.1 KB.ok Q;obtain⟨_,_,_,_,_,j,_⟩:=C
  exact KB.RY j aa 9 ⟨f,i,g,h⟩ (some ⟨f,i,g,h⟩) (.inl ⟨rfl,rfl⟩))
 have Q:=zr P.o.1 (old:=aA u s.rows) (now:=some ⟨f,i,g,h⟩) (fun r v c=>by have:=(aD e.o.q.1.1).1 v;exact(e.o.q.1.2 _ this).2 c) (fun r v c=>by injection v with v;subst v;exact S c);rw[p.o.d.1]at Q;have v:=AN J qj Q E Z S;clear H E hV J qj Z vB R aa Q S z A D F;refine pt (S:=(fun W=>Below t.heap.size t W/\W.cell? ⟨c.M,26,none⟩=some (rv B)/\W.cell? ⟨V,0,none⟩=some (rm f)/\W.cell? ⟨V,1,none⟩=some (rm i)/\W.cell? ⟨V,2,none⟩=some (rm g)/\W.cell? ⟨V,3,none⟩=some (rm h))) (by kernel_rfl) ⟨(bd _ _).drew,q⟩ (fun d=>?_);refine bj [0,1,2,3,4,5] ?_
 iterate 6 (refine dZ (v:=?_) (fun _ ⟨M,N,I,s3,s4,E⟩=>?_) d ?_;rotate_left;(go_simp;try rfl);try simp only[xr])
 refine bq ?_;refine bA 6 (fun K k=>?_);go_simp;refine(GY.o _ d.1).m ?_;rintro X wn ⟨cv,rfl,t,y⟩;have HO:=al (dI (base':=w.heap.size) t (fun J H=>dd (dd v.o.2.1.size d.1.size) (t.lt J H).1));clear t
 try go_simp
 refine k.o _ _ (ZE d y) ?_;clear k K d y;intro d
 try simp only[xr]
 refine bj [7,8,9,10,11] ?_
 iterate 5 (refine dZ (v:=?_) (fun _ ⟨M,N,I,s3,s4,E⟩=>?_) d ?_;rotate_left;(go_simp;try rfl);try simp only[xr])
 refine bq ?_;refine pw (by kernel_rfl) ?_ _;have S:=al d.1;clear d q
 rename World=>w4
 have y:=v.o.1.below e.o.1 KB.ok S.o;have t:=R6 (F:=fun u=> ¬c.S u) HO.o rfl (fun u j d=>by have k:=e.o.d.1 u d;omega);have E:=al (nu e.o.1 KB.ok y _ _ t (by have:=Cj u (aA u s.rows) (some ⟨f,i,g,h⟩);omega) v.o.d.1);obtain⟨aa,n,d⟩: ∃H k,aV c.ok s.cl (iz u (aA u s.rows) (some ⟨f,i,g,h⟩))=(H,k):=⟨_,_,rfl⟩;rw[d]at E;have k:=Sc (x:=⟨dk,a,b,xc,xn⟩) (cl':=aa) (n:=n) most c.ok s rfl rfl P.o.2 p.o.q (by rw[p.o.d.1];exact d);rw[p.o.d.1]at k;have I:=al k;have H4:=AD (v.o.2.1.x (S.o.m v.o.2.1.size)) (qt S.o v.o.t.1);clear y t d k GY;go_wp2_with fail;refine E.o.m ?_;rintro X d ⟨rfl,y,J⟩;have N:Only c.W w d:=(oB H4.o.1 c.W).x (J.wD e.o.1) (fun _ _ G=>G);by_cases M:n=0
 ·subst M;have H:=al (I.o.x (ff rfl));have Z:=J.heap H4.o.2 v.o.q.1;have t:=AD y N;obtain⟨f5,W,_,_,_,R,k,_⟩:=id y;obtain⟨⟨z,A,D,F⟩,-⟩:=cP Z;have q:d.cell? ⟨c.M,26,none⟩=some (rv B)/\d.cell? ⟨V,0,none⟩=some (rm f)/\d.cell? ⟨V,1,none⟩=some (rm i)/\d.cell? ⟨V,2,none⟩=some (rm g)/\d.cell? ⟨V,3,none⟩=some (rm h):=⟨by have:=W.b;simp only[RC.ms]at this;rw[e.o.2.1]at this;exact this,z,A,D,F⟩
  have Q:=al (show Calls prog 164 #[rv B,r7 u,.agg #[rm f,rm i,rm g,rm h]] d.drew (LB B T o m most FT l c.Z s.rows d.drew u ⟨f,i,g,h⟩)from by
   have C:=y.drew e.o.1 KB.ok;obtain⟨_,_,_,_,_,j,k,_⟩:=C;have:=KB.put j (fun u j=>k u (e.o.1.YX u j)) P.o.1 v.o.q.2;rw[p.o.d.1]at this
   exact this)
  clear W R k y N J I E Z z A D F;go_upto_region 9 with fail
  go_still_tail 6,(by kernel_rfl)
  change wpList _ _ _ _ _ d.drew;go_wp2_with fail;refine Q.o.m ?_;intro X F A;unfold LB at A;by_cases z:aA u s.rows=none/\most<=(s.rows.length:Int)
  ·rw[ff z]at A;obtain⟨rfl,C⟩:=A;have k:=AD z C;clear z C Q;go_wp2_with fail;go_ret
   rw[H.o,ff k.o.1];exact⟨rfl,(t.o.1.drew e.o.1 KB.ok).below e.o.1 KB.ok k.o.2,t.o.2.x (oB ((bd _ _).drew.x (k.o.2.m (b8 _))) c.W) (fun _ _ G=>G)⟩
  ·rw[fb z]at A;obtain⟨rfl,C,D⟩:=A;have k:=AF z C D;clear z C D Q;go_wp2_with fail;go_ret
   rw[H.o,fb k.o.1];refine⟨rfl,(t.o.1.drew e.o.1 KB.ok).rows e.o.q.2.1 e.o.q.t k.o.d k.o.2.1,?_⟩;exact(t.o.2.x (oB ((bd d.heap.size d).drew) c.W) (fun _ _ G=>G)).x (k.o.d.m (fun u _ X=>X▸e.o.q.d.1)) (fun _ _ G=>G)
 ·have k:(n==0)=false:=by simpa using M
  have H:=al (I.o.x (fb M));have t:=AD y N;clear M I E J N y;go_wp2_with fail;go_ret
  rw[H.o];exact⟨rfl,t.o.1,t.o.2⟩
end
section
variable{c:RC}{B T o m:Nat}{most:Int}{FT:Nat->Nat->Prop}{l:az}
theorem wJ{x:aX}(b:fp x=true){i:Nat}(hi:i<4)(d:oW x.d i=true)(a:EH x.d i=0){n:Nat}(c:CF x.d i=(n:Int)):(x.uz i).toNat<=n/\x.uz i=((x.uz i).toNat:Int):=by have:=kM b hi d;rw[a,c]at this;omega
theorem Vs(d:c.Fit)(n:c.b=rv B)(u:c.S m)(t:c.W m)(y:m≠c.M)(x:aX)(j:fp x=true)(H:1<=x.d/\x.d<=15)(I:x.d≠14){w:World}{s:PS az}(G:s.pc<=100)(k:MI c (KB B T o m most FT l) w s):
  Calls prog (Dy x.d.toNat) #[rv c.M,x.val] w (lZ c (KB B T o m most FT l) (sN most c.ok x s) w):=by
 have i:=KB.ok (B:=B) (T:=T) (o:=o) (m:=m) (most:=most) (FT:=FT) (l:=l);have E:0<=s.pc:=by obtain⟨_,_,_,_,_,_,_,C⟩:=k;exact C.2.2.1
 have v:Ge c.b (KB B T o m most FT l) (fun r a=>aA a r):=by rw[n];exact KB.get
 have f:=fun(b:oW x.d 0=true) (h:Nat) (e:CF x.d 0=(h:Int))=>wJ j (i:=0) (by decide) b (by unfold EH;simp) e;have g:=fun(b:oW x.d 1=true) (h:Nat) (e:CF x.d 1=(h:Int))=>wJ j (i:=1) (by decide) b (by unfold EH;simp) e;have q:=fun(b:oW x.d 2=true) (a:x.d≠1) (h:Nat) (e:CF x.d 2=(h:Int))=>wJ j (i:=2) (by decide) b (by unfold EH;simp[a]) e;have A:=fun(b:oW x.d 3=true) (h:Nat) (e:CF x.d 3=(h:Int))=>wJ j (i:=3) (by decide) b (by unfold EH;simp) e;simp only[aX.uz]at f g q A;obtain⟨D,F⟩: ∃D:Nat,x.d=(D:Int):=⟨x.d.toNat,by omega⟩;have z:x.d=1\/x.d=2\/x.d=3\/x.d=4\/x.d=5\/x.d=6\/x.d=7\/x.d=8\/x.d=9\/x.d=10\/x.d=11\/x.d=12\/x.d=13\/x.d=15:=by omega
 unfold sN;rcases z with e|e|e|e|e|e|e|e|e|e|e|e|e|e
 ·have a:=f (by rw[e];rfl) 7 (by rw[e];rfl);have h:=kM j (i:=2) (by decide) (by rw[e];rfl);rw[e]at h;rw[e];exact UQ d i k x x.a.toNat (by simp at a;omega) (by simp at a;omega) h
 ·have a:=f (by rw[e];rfl) 7 (by rw[e];rfl);have b:=g (by rw[e];rfl) 7 (by rw[e];rfl);rw[e];exact RI d i k x x.a.toNat x.b.toNat (by simp at a;omega) (by simp at b;omega) (by simp at a;omega) (by simp at b;omega)
 ·have a:=f (by rw[e];rfl) 7 (by rw[e];rfl);have b:=g (by rw[e];rfl) 7 (by rw[e];rfl);rw[e];exact Vc d i k x x.a.toNat x.b.toNat (by simp at a;omega) (by simp at b;omega) (by simp at a;omega) (by simp at b;omega)
 ·have a:=f (by rw[e];rfl) 7 (by rw[e];rfl);have b:=g (by rw[e];rfl) 7 (by rw[e];rfl);rw[e];exact Ve d i k x x.a.toNat x.b.toNat (by simp at a;omega) (by simp at b;omega) (by simp at a;omega) (by simp at b;omega)
 ·have a:=f (by rw[e];rfl) 7 (by rw[e];rfl);have b:=g (by rw[e];rfl) 7 (by rw[e];rfl);rw[e];exact Vd d i k x x.a.toNat x.b.toNat (by simp at a;omega) (by simp at b;omega) (by simp at a;omega) (by simp at b;omega)
 ·have a:=f (by rw[e];rfl) 7 (by rw[e];rfl);have b:=g (by rw[e];rfl) 7 (by rw[e];rfl);rw[e];exact RN d i k x x.a.toNat x.b.toNat (by simp at a;omega) (by simp at b;omega) (by simp at a;omega) (by simp at b;omega)
 ·have a:=f (by rw[e];rfl) 7 (by rw[e];rfl);have b:=g (by rw[e];rfl) 7 (by rw[e];rfl);rw[e];exact UR d i KB.tab v k x x.a.toNat x.b.toNat (by simp at a;omega) (by simp at b;omega) (by simp at a;omega) (by simp at b;omega)
 ·have a:=f (by rw[e];rfl) 7 (by rw[e];rfl);have b:=g (by rw[e];rfl) 7 (by rw[e];rfl);have h:=q (by rw[e];rfl) (by rw[e];decide) 3 (by rw[e];rfl);rw[e];exact Vl d i KB.tab v k x x.a.toNat x.b.toNat x.c.toNat (by simp at a;omega) (by simp at b;omega) (by simp at h;omega) (by simp at a;omega) (by simp at b;omega) (by simp at h;omega)
 ·have a:=f (by rw[e];rfl) 4 (by rw[e];rfl);have b:=g (by rw[e];rfl) 7 (by rw[e];rfl);rw[e];exact Vr d n u t y k x x.a.toNat x.b.toNat (by simp at a;omega) (by simp at b;omega) (by simp at a;omega) (by simp at b;omega)
 ·have b:=g (by rw[e];rfl) 7 (by rw[e];rfl);rw[e];exact Vp d n u t y k x x.b.toNat (by simp at b;omega) (by simp at b;omega)
 ·have a:=f (by rw[e];rfl) 7 (by rw[e];rfl);have b:=g (by rw[e];rfl) 7 (by rw[e];rfl);have h:=q (by rw[e];rfl) (by rw[e];decide) 3 (by rw[e];rfl);rw[e];exact R4 d n k x x.a.toNat x.b.toNat x.c.toNat (by simp at a;omega) (by simp at b;omega) (by simp at h;omega) (by simp at a;omega) (by simp at b;omega) (by simp at h;omega)
 ·have a:=f (by rw[e];rfl) 7 (by rw[e];rfl);have b:=g (by rw[e];rfl) 7 (by rw[e];rfl);have h:=q (by rw[e];rfl) (by rw[e];decide) 3 (by rw[e];rfl);have p:=kM j (i:=3) (by decide) (by rw[e];rfl);rw[e]at p;rw[e];exact NM d n k x x.a.toNat x.b.toNat x.c.toNat (by simp at a;omega) (by simp at b;omega) (by simp at h;omega) (by simp at a;omega) (by simp at b;omega) (by simp at h;omega) p
 ·have a:=f (by rw[e];rfl) 7 (by rw[e];rfl);have p:=kM j (i:=3) (by decide) (by rw[e];rfl);rw[e]at p;have b:0<=x.n/\x.n<=64:=p;rw[e];exact RO d i k x x.a.toNat (by simp at a;omega) (by simp at a;omega) ⟨b.1,by omega⟩
 ·have a:=f (by rw[e];rfl) 7 (by rw[e];rfl);rw[e];exact NG d i k x x.a.toNat (by simp at a;omega) (by simp at a;omega)
theorem Vt(most:Int)(a:Cl->Bool)(x:aX)(s:PS az)(b:x.d=13->0<=x.n):s.pc<=(sN most a x s).1.pc:=by
 by_cases h:x.d.toNat=13
 ·have e:(sN most a x s).1.pc=if s.bD x.a.toNat=0 then s.pc+x.n else s.pc:=by
   unfold sN;rw[h];rfl
  have:=b (by omega);rw[e];split<;>omega
 ·rw[Vg most a x s h];exact eL _
theorem LC(f:c.Fit)(u:c.b=rv B)(r:c.S m)(q:c.W m)(v:m≠c.M)(h:opsE c.ops=0): ∀(d fr tt:Nat),JN c.ops fr tt->tt<=c.ops.length->tt-fr<=d->yQ c (KB B T o m most FT l) (vE most c.fuel c.ok c.ops d) fr tt
 |0,fr,tt,_,_,hd,i,x,h1,h2,hx=>by omega
 |d+1,fr,tt,hcl,ht,hd,i,x,h1,h2,hx=>by
  obtain⟨F,z,A,-⟩:=Cf h;have j:=Lx h;have k:=db hx;have t:=A x k;have n:=RS (z x k);refine⟨n,fun s y=>?_⟩;by_cases a:x.d=14
  ·have g:=JO a;have G:=hcl i x h1 h2 hx g;have H:=(j i x hx g).1
   have e: ∀s,vE most c.fuel c.ok c.ops (d+1) x s=mG c.fuel c.ops (vE most c.fuel c.ok c.ops d) x s:=fun s=>by rw[vE];simp only;rw[ff a]
   have p:=kM t (i:=2) (by decide) (by rw[a];rfl);rw[a]at p;have I:0<=x.c/\x.c<=16:=p;rw[e];refine⟨fun w E=>?_,fun b=>?_⟩
   ·rw[show Dy x.d.toNat=Dy 14 by rw[a];rfl];exact RQ f KB.ok E x (i+1) x.n.toNat x.c.toNat (by rw[y];push_cast;rfl) (by omega) (by omega) (by omega) (by omega) (LC f u r q v h d (i+1) (i+1+x.n.toNat) (j.body hx g) (by omega) (by omega))
   ·unfold mG at b⊢;simp only at b⊢;split at b
    ·rename_i D;rw[ff D];show s.pc<=s.pc+x.n;omega
    ·rename_i D;exact absurd b D
  ·have e: ∀s,vE most c.fuel c.ok c.ops (d+1) x s=sN most c.ok x s:=fun s=>by
    rw[vE];simp only;rw[fb a]
   rw[e];refine⟨fun w E=>Vs f u r q v x t n a (by rw[y];omega) E,fun _=>Vt most c.ok x s fun C=>(j i x hx (JP C)).1⟩
theorem Ck{w:World}{F:Nat->Prop}(ops:List aX)(b f:Value)(args:List Int)(fuel:Int)(d:Value)(a:Cl->Bool)(h:az)
  (t:qi w (fun k=> ¬k=m) b ops) (i:opsE ops=0) (y:gy w) (n:Rd w F f (args.map (Value.int .i64))) (p:args.length<=8) (q: ∀e∈args,-1099511627776<=e/\e<=1099511627776)
  (v:0<=fuel/\fuel<=10000) (s:yO w (fun k=>k=m) d a) (j:KB B T o m most FT l (fun _=>False) h w):
  Calls prog 36 #[b,f,rv B,rm fuel,d] w (Zp (KB B T o m most FT l) (fun k=>k=m) (DG most fuel a ops args h) w):=by
 have z:m<w.heap.size:=by obtain⟨_,_,_,_,e,_⟩:=j;exact e.map.lt
 refine Zq (act:=vE most fuel a ops ops.length) w ops b f args B fuel d a h t i y n p q v s j KB.ok (fun k g=>by omega) (fun c g e u r _ x A k _=>?_);subst e;subst r;subst x;exact LC g u (g.sub _ (k m rfl)) (k m rfl) (fun e=>by have:=g.low;omega) i c.ops.length 0 c.ops.length (Lx i).whole (b8 _) (by omega)
end
section
open Go.RowKit Go.Maps
end
section
open Go.RowKit Go.Maps
end
end Go.Proofs.YtehccbdajiiaaaaGreatDoor
