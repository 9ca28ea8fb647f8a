import Derived.Test.YtehccbdajiiaaaaGreatDoorS31
import Derived.Test.YtehccbdajiiaaaaGreatDoorS46
namespace Go.Proofs.YtehccbdajiiaaaaGreatDoor
open Go.Proofs.Tryz
set_option maxRecDepth 100000
set_option maxHeartbeats 16000000
open Go.RowKit
section
open Go.RowKit Go.Maps
theorem GK: ∀(N:Nat) (l:List Nat),l.Nodup->(∀x∈l,x<N)->l.length<=N
 |0,l,_,h=>by
  cases l with
  |nil=>exact b8 _
  |cons x l=>exact absurd (h x (by simp)) (by omega)
 |N+1,l,hn,h=>by
  have d:=GK N (l.erase N) (hn.erase N) (fun x a=>by
   have b:=h x (List.mem_of_mem_erase a);have c:x≠N:=fun e=>(by subst e;exact(hn.mem_erase_iff.1 a).1 rfl)
   omega)
  have a:l.length<=(l.erase N).length+1:=by rw[List.length_erase];split<;>omega
  omega
theorem Ci{wl:ot}(b:dR wl)(h: ∀q∈wl,∃v,aQ v/\q.1=Lib.itoa v):wl.length<=2199023255553:=by
 have g:=GK 2199023255553 ((wl.map Prod.fst).map fun k=>(NB k+1099511627776).toNat) (by
  unfold List.Nodup;rw[List.pairwise_map];refine List.Pairwise.imp_of_mem (fun{e d} c f a i=>a ?_) (gW b);obtain⟨p,d,rfl⟩:=ep.1 c;obtain⟨q,e,rfl⟩:=ep.1 f;obtain⟨v,a,c⟩:=h p d;obtain⟨u,b,f⟩:=h q e;rw[c,f]at i⊢;rw[qb a,qb b]at i;unfold aQ at a b
  rw[show v=u by omega]) (fun x e=>by
  obtain⟨k,f,rfl⟩:=ep.1 e;obtain⟨p,d,rfl⟩:=ep.1 f;obtain⟨v,a,c⟩:=h p d;rw[c,qb a];unfold aQ at a
  omega)
 simp only[fa]at g;omega
theorem GL{wl:ot}(a:dR wl)(h: ∀q∈wl,∃v,aQ v/\q.1=Lib.itoa v):wl.length<=2305843009213693952:=dd (Ci a h) (by decide)
theorem JR{w:World}{c:String}{a:Nat}{v:Array Value}(d:prog.globalNamed c=some a)(h:w.var? prog c=some v):a<w.heap.size:=by
 unfold World.var? at h;rw[d]at h;simp only[Option.bind_some]at h;rcases Nat.lt_or_ge a w.heap.size with b|b
 ·exact b
 ·rw[Array.getElem?_eq_none b]at h;cases h
theorem GM{w w':World}{S:Nat->Prop}{a:String}{c:Nat}{v:Array Value}(b:prog.globalNamed a=some c)(h:w.var? prog a=some v)(f:Only S w w')(e: ¬S c):w'.var? prog a=some v:=by have d:=JR b h;unfold World.var? at h⊢;rw[b]at h⊢;simp only[Option.bind_some]at h⊢;rw[f.block _ d e];exact h
def Vk(k:Nat):Prop:=k=3\/k=4
theorem mH.only{w w':World}{S:Nat->Prop}(i:mH w)(b:Only S w w')(a: ∀k,Vk k-> ¬S k):mH w':=by obtain⟨⟨d,e,h⟩,f,g,c⟩:=i;exact⟨⟨d,e,GM Tryz.Vh h b (a _ (.inl rfl))⟩,f,g,GM Tryz.Vi c b (a _ (.inr rfl))⟩
theorem mH.lt{w:World}(h:mH w): ∀k,Vk k->k<w.heap.size:=by
 obtain⟨⟨c,d,b⟩,e,f,a⟩:=h;rintro k (rfl|rfl)
 ·exact JR Tryz.Vh b
 ·exact JR Tryz.Vi a
def KB(B T o m:Nat)(most:Int)(FT:Nat->Nat->Prop)(l:az)(Z:Nat->Prop)(r:az)(w:World):Prop:=
 ∃a n g c,ni w B T most o l a FT m n g c/\aW a l=r/\df r/\(r.length:Int)<=most/\(∀q∈a,∃v,aQ v/\q.1=Lib.itoa v)/\fB w/\
  (¬Z B/\ ¬Z m/\ ¬Z 5/\(∀b,c b-> ¬Z b)/\ ∀b q,FT b q-> ¬Z b)/\(∀b q,FT b q->b<w.heap.size)/\mH w/\(∀k,Vk k-> ¬Z k)/\m≠5/\ ∀k,Vk k->k≠m
section
variable{B T o m:Nat}{most:Int}{FT:Nat->Nat->Prop}{l:az}
theorem KB.ok:uh (KB B T o m most FT l) where
 only:=by rintro Z r w J K i ⟨z,G,H,A,c,t,x,y,v,j,⟨p,q,h,f,d⟩,g,k,n,u⟩ D;exact⟨z,G,H,A,c.only D (fun e=>p (i _ e)) (fun e=>q (i _ e)) (fun E b e=>f E b (i _ e)) (fun E F b e=>d E F b (i _ e)),t,x,y,v,j.only D (fun e=>h (i _ e)),⟨p,q,h,f,d⟩,fun E F b=>da (g E F b) D.size,k.only D (fun C a e=>n C a (i _ e)),n,u⟩
 oM:=by
  rintro Z r w E ⟨z,G,H,A,c,t,x,y,v,j,⟨p,q,h,f,d⟩,g,k,n,u⟩ b;refine⟨z,G,H,A,c,t,x,y,v,j,⟨fun e=>?_,fun e=>?_,fun e=>?_,fun C a e=>?_,fun C F a e=>?_⟩,g,k,fun C a e=>?_,u⟩
  ·rcases e with e|e
   ·exact p e
   ·have:=aM c.blk;omega
  ·rcases e with e|e
   ·exact q e
   ·have:=c.map.lt;omega
  ·rcases e with e|e
   ·exact h e
   ·have:=j.lt;omega
  ·rcases e with e|e
   ·exact f C a e
   ·have:=(c.bR C a).2.2.1;omega
  ·rcases e with e|e
   ·exact d C F a e
   ·have:=g C F a;omega
  ·rcases e with e|e
   ·exact n C a e
   ·have:=k.lt C a;omega
 back:=by rintro Z I r w s ⟨z,G,H,A,c,t,x,y,v,j,⟨p,q,h,f,d⟩,g,k,n,u⟩;exact⟨z,G,H,A,c,t,x,y,v,j,⟨fun e=>p (s _ e),fun e=>q (s _ e),fun e=>h (s _ e),fun E b e=>f E b (s _ e),fun E F b e=>d E F b (s _ e)⟩,g,k,fun C a e=>n C a (s _ e),u⟩
theorem KB.tab:UO (KB B T o m most FT l):=fun Z r w h=>by obtain⟨_,_,_,_,_,_,_,_,_,a,_⟩:=h;exact a
theorem KB.errs{Z:Nat->Prop}{r:az}{w:World}(h:KB B T o m most FT l Z r w):mH w:=by obtain⟨_,_,_,_,_,_,_,_,_,_,_,_,a,_⟩:=h;exact a
theorem KB.rows{Z:Nat->Prop}{r:az}{w:World}(h:KB B T o m most FT l Z r w):df r:=by obtain⟨_,_,_,_,_,_,a,_⟩:=h;exact a
theorem RX{k:List UInt8}(h:dY k=0):1<=k.length/\k.length<=16:=by
 unfold dY at h;split at h
 ·cases h
 ·omega
theorem KB.get:Ge (rv B) (KB B T o m most FT l) (fun r k=>aA k r):=by rintro Z r w k ⟨d,n,g,e,a,b,_⟩ c;have:=p6 w B T o most l d FT _ k (RX c) a.at_;rw[kF a.up a.tab.up,b]at this;exact this
theorem KB.find{Z:Nat->Prop}{r:az}{w:World}(x:KB B T o m most FT l Z r w)(c n:Nat)(lo hi:Int)(h:c<4)(d:I6 lo)(e:I6 hi)(g:lo<=hi)(i:n<=1000):
  Calls prog 166 #[rv B,rm (c:Int),rm lo,rm hi,rm (n:Int)] w (BU ((cU c lo hi r).take n) w):=by
 obtain⟨j,p,y,v,b,a,s,t,q,k,u,f,_⟩:=x;have:=Jk w B T o most l j FT _ c n lo hi b.at_ f h d e g i (by rw[a];have:=b.tab.KW;omega);rwa[a]at this
end
end
section
open Go.RowKit Go.Maps
section
variable{B T o m:Nat}{most:Int}{FT:Nat->Nat->Prop}{l:az}{Z:Nat->Prop}{r:az}{w:World}
theorem KB.RY(h:KB B T o m most FT l Z r w){k:List UInt8}(c:1<=k.length/\k.length<=16)(e:Int)(now:Rw)(x:Option Rw)(f:e=9/\x=some now\/e=10/\x=none):
  Calls prog 162 #[rm e,rv B,r7 k,now.val] w (Yo (iz k (aA k r) x) w):=by
 obtain⟨d,p,n,j,a,i,_⟩:=h;have b:=kF (k:=k) a.up a.tab.up;rw[i]at b
 cases hq:aA k r with
 |none=>
  rcases f with⟨rfl,rfl⟩|⟨rfl,rfl⟩
  ·exact kG w B T o most l d FT _ k c a.at_ false true Rw.zero now (fun _=>rfl) (b.x hq) 9 rfl
  ·exact kG w B T o most l d FT _ k c a.at_ false false Rw.zero now (fun _=>rfl) (b.x hq) 10 rfl
 |some g=>
  rcases f with⟨rfl,rfl⟩|⟨rfl,rfl⟩
  ·exact kG w B T o most l d FT _ k c a.at_ true true g now (fun h=>by cases h) (b.x hq) 9 rfl
  ·exact kG w B T o most l d FT _ k c a.at_ true false g now (fun h=>by cases h) (b.x hq) 10 rfl
theorem KB.to(N:KB B T o m most FT l Z r w){w':World}{wl d:ot}{n:Nat}{g:Value->Option Value}{f:Nat->Prop}(_M:ni w B T most o l wl FT m n g f)(k: ∀b q,FT b q-> ¬Z b/\b<w.heap.size)(u: ∀b,f b-> ¬Z b)
  (D: ∀L,Z L->L<w.heap.size) (y:K2 w w' B T o most l d FT m f) {c:az} (A:aW d l=c) (s:df c) (p:(c.length:Int)<=most) (F: ∀q∈d,∃v,aQ v/\q.1=Lib.itoa v):KB B T o m most FT l Z c w':=by
 obtain⟨_,_,_,_,_,_,_,_,_,E,⟨I,J,v,_,_⟩,_,x,z,i,h⟩:=N;obtain⟨H,K,t,C,G,e⟩:=y;refine⟨d,H,K,t,C,A,s,p,F,E.only e (fun a=>i a.symm),⟨I,J,v,fun b a j=>?_,fun b q a=>(k b q a).1⟩,fun b q a=>da (k b q a).2 e.size,x.only e (fun L q=>h L q),z,i,h⟩;rcases G b a with a|a
 ·exact u b a j
 ·have:=D b j;omega
def LB(B T o m:Nat)(most:Int)(FT:Nat->Nat->Prop)(l:az)(Z:Nat->Prop)(r:az)(w:World)(k:List UInt8)(x:Rw)(e:Ending)(w':World):Prop:=
 if aA k r=none/\most<=(r.length:Int)then e=.returned (rm 16)/\Below w.heap.size w w' else e=.returned (rm 0)/\KB B T o m most FT l Z (cO (k,x) r) w'/\Only (fun j=>j=m) w w'
theorem KB.put(I:KB B T o m most FT l Z r w)(C: ∀G,Z G->G<w.heap.size){v:Int}(e:aQ v){x:Rw}(h: ∀c,aQ (x.aO c)):
  Calls prog 164 #[rv B,.string ⟨(Lib.itoa v).toArray⟩,x.val] w (LB B T o m most FT l Z r w (Lib.itoa v) x):=by
 have E:=I;obtain⟨y,U,S,A,b,t,i,D,k,P,⟨Q,R,K,s,q⟩,g,M,N,L,J⟩:=I;have j:=LW b.up b.tab.up (Lib.itoa v) x;refine(M5 w B T o m U most l y FT S A (Lib.itoa v) x (jC e) (fun c=>by have:=h c;unfold aQ at this;unfold I6;omega) b g (GL b.up k)).m ?_;intro V O a;unfold sA at a;unfold LB;rw[t]at a j;split at a
 ·rename_i d;rw[ff d];exact a
 ·rename_i d;rw[fb d];have n:=a.2;refine⟨a.1,E.to b (fun H F p=>⟨q H F p,g H F p⟩) s C n j (i.ins ⟨⟨v,e,rfl⟩,h⟩) ?_ (fun F f=>?_),by obtain⟨_,_,_,_,_,z⟩:=n;exact z⟩
  ·rw[lg i.1]
   cases hk:aA (Lib.itoa v) r with
   |none=>have: ¬most<=(r.length:Int):=fun u=>d ⟨hk,u⟩;simp;omega
   |some W=>simpa using D
  ·rcases iu f with rfl|f
   ·exact⟨v,e,rfl⟩
   ·exact k F f
def WQ(B T o m:Nat)(most:Int)(FT:Nat->Nat->Prop)(l:az)(Z:Nat->Prop)(r:az)(w:World)(k:List UInt8)(e:Ending)(w':World):Prop:=
 (∃n,e=.returned (rm n))/\KB B T o m most FT l Z (eZ k r) w'/\Only (fun j=>j=m) w w'
theorem KB.del(C:KB B T o m most FT l Z r w)(z: ∀D,Z D->D<w.heap.size){v:Int}(e:aQ v):
  Calls prog 165 #[rv B,.string ⟨(Lib.itoa v).toArray⟩] w (WQ B T o m most FT l Z r w (Lib.itoa v)):=by
 have j:=C;obtain⟨u,P,O,y,b,q,s,L,g,K,⟨M,N,G,p,n⟩,k,I,J,H,F⟩:=C;have f:=LX b.up b.tab.up (Lib.itoa v);refine(M6 w B T o m P most l u FT O y (Lib.itoa v) (jC e) b (GL b.up g)).m ?_;intro Q t a;unfold wu at a;unfold WQ;rw[q]at a f;split at a
 ·rename_i c;rw[ic c];exact⟨⟨_,a.1⟩,KB.ok.only Z r w t (fun _=>False) (fun _ C=>C.elim) j (oB a.2 _),oB a.2 _⟩
 ·rename_i c;have i:=a.2;refine⟨⟨_,a.1⟩,j.to b (fun E A h=>⟨n E A h,k E A h⟩) p z i f s.del ?_ (fun A d=>?_),by obtain⟨_,_,_,_,_,x⟩:=i;exact x⟩
  ·cases hk:aA (Lib.itoa v) r with
   |none=>exact absurd hk c
   |some R=>have:=rL hk;omega
  ·rcases iu d with rfl|d
   ·exact⟨v,e,rfl⟩
   ·exact g A d
end
end
section
open Go.RowKit Go.Maps
theorem KB.new{w w':World}{B T o:Nat}{most:Int}{l:az}{FT:Nat->Nat->Prop}(h:iI w' B T most o l [] FT (fun f=>w.heap.size<=f))(b:Below w.heap.size w w')(i: ∀f q,FT f q->f<w.heap.size)(g:df l)(c:fB w)(d:mH w):
  ∃m,w.heap.size<=m/\KB B T o m most FT l (fun _=>False) l w':=by
 obtain⟨m,s,r,k,e,n,j,p⟩:=h;refine⟨m,j,[],s,r,k,e,rfl,g,e.tab.len,fun q a=>by simp at a,c.below b,⟨fun h=>h,fun h=>h,fun h=>h,fun _ _ h=>h,fun _ _ _ h=>h⟩,fun f q a=>da (i f q a) b.size,d.below b,fun _ _ h=>h,fun f=>?_,fun q a f=>?_⟩
 ·have:=c.lt;omega
 ·have:=d.lt q a;omega
end
section
variable{c:RC}{K:(Nat->Prop)->az->World->Prop}{w:World}{s:PS az}
theorem zo(f:Nat->Int)(a:Nat)(u v:Int):oL (oL f a u) a v=oL f a v:=by
 funext i
 unfold oL;split<;>rfl
def ab4(c:Nat):Option Rw->Int
 |some r=>eK (r.aO c)
 |none=>0
theorem RZ(a:Cl->Bool)(x:aX)(s:PS az){s':PS az}{r:Option Rw}{n:Int}{b:Nat}(i:x.b=(b:Int))(h:rowP a (fun r k=>aA k r) b s=(s',r,n)):
  GC a x s=if n=0 then fZ x s' (ab4 x.c.toNat r)else(s',n):=by
 unfold rowP at h;unfold GC fN;simp only[i,iS];obtain⟨j,f,e⟩: ∃u v,aV a s.cl [iG (s.bD b)]=(u,v):=⟨_,_,rfl⟩;rw[e]at h⊢;injection h with g h;injection h with c d;subst g c d;simp only;by_cases c:f=0
 ·subst c;simp only[if_true];cases aA (Lib.itoa (s.bD b)) s.rows<;>rfl
 ·simp[c]
theorem Vl(d:c.Fit)(h:uh K)(j:UO K)(e:Ge c.b K (fun r o=>aA o r))(v:MI c K w s)(x:aX)(a b cc:Nat)(A:a<8)(hb:b<8)(aa:cc<4)(g:x.a=(a:Int))(f:x.b=(b:Int))(k:x.c=(cc:Int)):
  Calls prog 107 #[rv c.M,x.val] w (lZ c K (GC c.ok x s) w):=by
 have H:=v.at_ d h x;have m:=al (fun i r S=>RZ (s:=s) (s':=i) (r:=r) (n:=S) c.ok x f);obtain⟨U,xa,xb,xc,xn⟩:=x;simp only at g f k H;subst g f k;unfold aX.val;simp only;have f:=AI d h j e;have i1:(0:Int)<=(a:Int):=by omega
 have i2:(a:Int)<8:=by omega
 have j1:(0:Int)<=(cc:Int):=by omega
 have j2:(cc:Int)<4:=by omega
 go_enter func107,ntmps107;go_upto_region 1 with fail;generalize w.alloc (sa U (a:Int) (b:Int) (cc:Int) xn)=g at H⊢;obtain⟨O,n⟩:=rk (w.heap.size);rw[n]at H⊢;have l:=H.box;have o2:g.cell? ⟨O,2,none⟩=some (rm (b:Int)):=by simp[World.cell?,l]
 have g:=al (Rf d h j e H.mi b hb);obtain⟨i,r,S,k⟩: ∃i r S,rowP c.ok (fun r o=>aA o r) b s=(i,r,S):=⟨_,_,_,rfl⟩;rw[k]at g;have R:=al (m.o _ _ _ k);have E:=al H;clear v l n k d h j e H m;go_wp2_with fail;refine g.o.m ?_;rintro e H ⟨rfl,j,d⟩;have p:=d.heap E.o.box (fun v=>E.o.off (f.o.1.sub _ v));obtain⟨⟨n,k,m,l⟩,o⟩: ∃q,r.getD .zero=q:=⟨_,rfl⟩;simp only[o,Rw.val];have q:=AI j d p o;clear j d p g o;go_upto_region 2 with fail;obtain⟨j,p⟩:=rj H (r8 n k m l);generalize H.alloc (r8 n k m l)=d at j p⊢;have J:=q.o.1.below f.o.1 f.o.2.1 j;have C:=qt j q.o.d.1;have I:Only c.W w d:=((oB E.o.Ce c.W).x q.o.2.1 (fun _ _ v=>v)).x (oB j c.W) (fun _ _ v=>v);obtain⟨V,G⟩:=rk (H.heap.size);rw[G]at p⊢;have F: ¬V=c.M:=fun e=>by obtain⟨_,t,_⟩:=q.o.1;have:=t.lt;omega
 have N:=E.o.ne f.o.1;have g:=AI J I F N;by_cases D:S=0
 ·subst D;have y:=al (R.o.x (ff rfl));obtain⟨f3,u,_⟩:=J;have Y:=u.bD A;have mf:=u.free (18+a);have Q:d.cell? ⟨O,1,none⟩=some (rm (a:Int)):=by simp[World.cell?,C]
  have L:d.cell? ⟨O,3,none⟩=some (rm (cc:Int)):=by simp[World.cell?,C]
  have B:d.cell? ⟨V,cc,none⟩=some (rm ((Rw.mk n k m l).aO cc)):=by rcases(show cc=0\/cc=1\/cc=2\/cc=3 by omega)with rfl|rfl|rfl|rfl<;>(unfold World.cell?;rw[p];rfl)
  have z:=AF Q L B;clear u C I j p G F N L B;go_upto_region 4 with fail
  go_still_tail 6,(by kernel_rfl)
  change wpList _ _ _ _ _ d.drew;have L:=al ((g.o.1.drew f.o.1 f.o.2.1).jL f.o.1 f.o.2.1 A (v:=0) ⟨by decide,by decide⟩)
  cases r with
  |none=>
   go_wp2_with fail;go_ret
   rw[y.o];refine⟨rfl,?_,g.o.2.1.x ((ma d 1 c.M (18+a) _).wD f.o.1) (fun _ _ v=>v)⟩;unfold fZ;exact L.o
  |some u=>
   have o:u=⟨n,k,m,l⟩:=q.o.t;subst o;simp only[mT];go_upto_region 6 with fail;have M:Only c.W w (d.setCell ⟨c.M,18+a,none⟩ (rm 0)).drew:=g.o.2.1.x ((ma d 1 c.M (18+a) _).wD f.o.1) (fun _ _ v=>v)
   have o: ∀u,((d.setCell ⟨c.M,18+a,none⟩ u).drew.cell? ⟨O,1,none⟩=some (rm (a:Int))/\(d.setCell ⟨c.M,18+a,none⟩ u).drew.cell? ⟨O,3,none⟩=some (rm (cc:Int))/\(d.setCell ⟨c.M,18+a,none⟩ u).drew.cell? ⟨V,cc,none⟩=some (rm ((Rw.mk n k m l).aO cc))):=fun u=>
    ⟨(ma d 1 c.M (18+a) u).cell z.o.1 g.o.t,(ma d 1 c.M (18+a) u).cell z.o.2.1 g.o.t,(ma d 1 c.M (18+a) u).cell z.o.d g.o.d.1⟩
   have o:=o (rm 0);have u:MI c K (d.setCell ⟨c.M,18+a,none⟩ (rm 0)).drew {i with bD:=oL i.bD a 0}:=L.o;have m5:(d.setCell ⟨c.M,18+a,none⟩ (rm 0)).drew.cell? ⟨c.M,18+a,none⟩=some (rm 0):=by obtain⟨_,t,_⟩:=u;have:=t.bD A;simpa[RC.ms,oL]using this
   have Z:(d.setCell ⟨c.M,18+a,none⟩ (rm 0)).drew.frozen? ⟨c.M,18+a,none⟩=false:=by obtain⟨_,t,_⟩:=u;exact t.free _
   generalize (d.setCell ⟨c.M,18+a,none⟩ (rm 0)).drew=X at M o u m5 Z⊢;have P:=AD u M;obtain⟨B,d⟩:=rk ((Rw.mk n k m l).aO cc);rw[d]at o;have ny:=al d;have T:=al (fun W=>pG W B);clear u M L d Q Y mf z;refine pt (S:=(fun W=>W.cell? ⟨O,1,none⟩=some (rm (a:Int))/\W.cell? ⟨O,3,none⟩=some (rm (cc:Int))/\W.cell? ⟨V,cc,none⟩=some (rm B))) (by kernel_rfl) o (fun d=>?_);refine bj [0,1,2,3,4,5,6,8,9] ?_
   iterate 9 (refine dZ (v:=?_) (fun _ ⟨M,L,z⟩=>?_) d ?_;rotate_left;(go_simp;try rfl);try simp only[xr])
   refine bq ?_;refine bA 7 (fun K h=>?_);go_simp;refine(T.o _).m ?_;rintro e Q ⟨rfl,rfl⟩
   try go_simp
   refine h.o _ _ (d) ?_;clear h K d;intro d
   try simp only[xr]
   refine lA 10 (v:=?_) (fun W u=>?_) d ?_;rotate_left
   ·obtain⟨M,L,z⟩:=u;go_simp;try rfl
   try simp only[xr]
   refine bA 11 (fun K h=>?_);go_simp;refine h.o _ _ (⟨(bg _ c.M (18+a) _).cell d.1 g.o.t,(bg _ c.M (18+a) _).cell d.2.1 g.o.t,(bg _ c.M (18+a) _).cell d.2.2 g.o.d.1⟩) ?_;clear h K d;intro d
   try simp only[xr]
   refine pw (by kernel_rfl) ?_ _;clear d o;go_wp2_with fail;go_ret
   rw[y.o,gL];have d:=(P.o.1.drew f.o.1 f.o.2.1).jL f.o.1 f.o.2.1 A (nv B);refine⟨rfl,?_,P.o.2.x ((ma X 1 c.M (18+a) _).wD f.o.1) (fun _ _ v=>v)⟩;unfold fZ ab4;simp only[iS,ny.o];rw[<-zo i.bD a 0 (eK B)];exact d
 ·have d:(S==0)=false:=by simpa using D
  have y:=al (R.o.x (fb D));clear D J C I j p G F N;go_wp2_with fail;go_ret
  rw[y.o];exact⟨rfl,g.o.1,g.o.2.1⟩
end
section
variable{c:RC}{B T o m:Nat}{most:Int}{FT:Nat->Nat->Prop}{l:az}{w:World}{s:PS az}
def jT(c:Nat)(lo hi:Int):Cl:=⟨false,c,[],lo,hi⟩
theorem zq{c:Nat}{lo hi:Int}(e:c<4)(d:aQ lo)(b:aQ hi)(h:lo<=hi):Good [jT c lo hi]:=by intro x a;rw[gk]at a;subst a;unfold aQ at d b;refine⟨?_,⟨by unfold jT lq;simp;omega,by unfold jT lq;simp;omega,by unfold jT lq;simp;omega,by unfold jT maxLen;simp⟩⟩;unfold Ok EL jT;simp;omega
theorem aQ.i6{v:Int}(h:aQ v):I6 v:=by unfold aQ at h;unfold I6;omega
theorem R3{lo n:Int}(h:aQ lo)(a:0<=n):lo<=eK (lo+n):=by unfold aQ at h;unfold eK;omega
theorem JS(a:Cl->Bool)(x:aX)(s:PS az){b cc:Nat}{lo hi n:Int}{cl':List Cl}(f:x.b=(b:Int))(e:x.c=(cc:Int))(c:s.bD b=lo)(d:hi=eK (s.bD b+x.n))(h:aV a s.cl [jT cc lo hi]=(cl',n)):
  sM a x s=if n=0 then fZ x {s with cl:=cl'} ((min (cU cc lo hi s.rows).length 16:Nat):Int)else({s with cl:=cl'},n):=by
 subst c;subst d;unfold sM fN;simp only[f,e,iS];unfold jT at h;rw[h]
theorem NM(f:c.Fit)(j:c.b=rv B)(G:MI c (KB B T o m most FT l) w s)(x:aX)(a b cc:Nat)(R:a<8)(I:b<8)(P:cc<4)(d:x.a=(a:Int))(g:x.b=(b:Int))(h:x.c=(cc:Int))(e:0<=x.n/\x.n<=1099511627776):
  Calls prog 111 #[rv c.M,x.val] w (lZ c (KB B T o m most FT l) (sM c.ok x s) w):=by
 have H:=G.at_ f KB.ok x;have q: ∀i,aQ (s.bD i):=by obtain⟨_,_,_,_,_,_,_,h7⟩:=G;exact h7.1
 have p: ∀D,c.S D->D<w.heap.size:=by obtain⟨_,_,_,_,_,_,h6,_⟩:=G;exact h6
 obtain⟨Q,xa,xb,xc,k⟩:=x;simp only at d g h H e;subst d g h;unfold aX.val;simp only;have d:=AM f j p q e;have i1:(0:Int)<=(a:Int):=by omega
 have i2:(a:Int)<8:=by omega
 have j1:(0:Int)<=(b:Int):=by omega
 have j2:(b:Int)<8:=by omega
 go_enter func111,ntmps111;go_upto_region 1 with fail;generalize w.alloc (sa Q (a:Int) (b:Int) (cc:Int) k)=h at H⊢;obtain⟨O,n⟩:=rk (w.heap.size);rw[n]at H⊢;have g:=H.box;have v:h.cell? ⟨O,2,none⟩=some (rm (b:Int)):=by simp[World.cell?,g]
 have u:=H.bD I;have i:=al H;clear G g n f j p q e H
 go_region
 go_upto_region 2 with fail;have r:=al (bd h.heap.size h).drew;have g:=r.o;generalize h.drew=n at r g⊢;have j:=qt g i.o.box;have H:n.cell? ⟨O,3,none⟩=some (rm (cc:Int)):=by simp[World.cell?,j]
 have C:n.cell? ⟨O,4,none⟩=some (rm k):=by simp[World.cell?,j]
 obtain⟨f,e⟩:=rk (s.bD b);rw[e];have A:IntKind.i64.wrap (f+k)=f+k:=by rw[me];have:=d.o.t.1 b;rw[e]at this;unfold aQ at this;have:=d.o.q;omega
 obtain⟨U,Z⟩:=rk (f+k);rw[Z]at A;have t:=AD e Z;have z:=al (fun W=>pG W U);clear v u g j e;go_wp2_with fail;refine(z.o _).m ?_;rintro e w' ⟨rfl,rfl⟩;obtain⟨g,u⟩:=rk (max (-1099511627776) (min U 1099511627776));rw[u];have p:g=eK (s.bD b+k):=by rw[<-u,<-t.o.2,<-t.o.1];rfl
 have q:aQ f:=t.o.1▸d.o.t.1 b;have y:aQ g:=by rw[p];exact nv _
 have v:f<=g:=by rw[p,t.o.1];exact R3 q d.o.q.1
 have j:=AI q y v p;clear u p q y v z C A;obtain⟨q,p⟩:=rj n (sd false (cc:Int) (#[]) f g);have F:=AD q p;clear q p;go_wp2_with fail;have Y:=F.o;generalize n.alloc (sd false (cc:Int) (#[]) f g)=v at Y⊢;obtain⟨q,p⟩:=Y;obtain⟨X,E⟩:=rk (n.heap.size);rw[E]at p⊢;have u:Below h.heap.size h v:=r.o.x (q.m r.o.size);have C:Below w.heap.size w v:=i.o.Ce.x (u.m i.o.Ce.size);have h:=i.o.mi.below d.o.1 KB.ok u;have A:=mr (l:=[jT cc f g]) (F:=fun D=> ¬c.S D) p rfl (fun n=>by have v:=d.o.d.1 X n;have n:=i.o.Ce.size;have h:=r.o.size;omega) (by simp[maxLen]);have D:=qt u i.o.box;have v:=al (nu d.o.1 KB.ok h [jT cc f g] _ A (by simp) (zq P j.o.1 j.o.2.1 j.o.d.1));obtain⟨aa,n,y⟩: ∃z J,aV c.ok s.cl [jT cc f g]=(z,J):=⟨_,_,rfl⟩;rw[y]at v;have z:=JS (x:=⟨Q,a,b,cc,k⟩) c.ok s rfl rfl t.o.1 j.o.t y;have S:=AF C D i.o.off;clear F q p E u C h A D y;refine v.o.m ?_;rintro e p ⟨rfl,u,y⟩;have F:=i.o.ne d.o.1;have C:=y.heap S.o.2.1 F;have E:Only c.W w p:=(oB S.o.1 c.W).x (y.wD d.o.1) (fun _ _ G=>G);by_cases D:n=0
 ·subst D;have M:=al (z.x (ff rfl));have q:=AI u E C F;clear z v y E F;go_upto_region 6 with fail;have GZ:=u;obtain⟨f4,h,_⟩:=GZ;have J:p.cell? ⟨c.M,26,none⟩=some (rv B)/\p.cell? ⟨O,3,none⟩=some (rm (cc:Int)):=⟨by have:=h.b;simp only[RC.ms]at this;rw[d.o.2.1]at this;exact this,by simp[World.cell?,C]⟩;clear h u C H
  have HF:=al (show ∀W,Below p.heap.size p W->Calls prog 166 #[rv B,rm (cc:Int),rm f,rm g,rm 16] W (BU ((cU cc f g s.rows).take 16) W)from fun W I=>by
   have A:=q.o.1.below d.o.1 KB.ok I;obtain⟨_,_,_,_,_,h,_⟩:=A
   exact KB.find (Z:=c.Z) h cc 16 f g P j.o.1.i6 j.o.2.1.i6 j.o.d.1 (by omega))
  refine pt (S:=(fun W=>Below p.heap.size p W/\W.cell? ⟨c.M,26,none⟩=some (rv B)/\W.cell? ⟨O,3,none⟩=some (rm (cc:Int)))) (by kernel_rfl) ⟨(bd _ _).drew,J⟩ (fun h=>?_);refine bj [0,1,2,3,4,5,6,7] ?_
  iterate 8 (refine dZ (v:=?_) (fun _ ⟨W,V,N⟩=>?_) h ?_;rotate_left;(go_simp;try rfl);try simp only[xr])
  refine bq ?_;refine bA 8 (fun K H=>?_);go_simp;refine(HF.o _ h.1).m ?_;rintro e wn ⟨A,cp,rfl,-,L⟩
  try go_simp
  refine H.o _ _ (tQ h L) ?_;clear H K h L;intro h
  try simp only[xr]
  refine bj [9,10,11,12,13] ?_
  iterate 5 (refine dZ (v:=?_) (fun _ ⟨W,V,N⟩=>?_) h ?_;rotate_left;(go_simp;try rfl);try simp only[xr])
  refine bq ?_;refine pw (by kernel_rfl) ?_ _;have H:=al h.1;clear h J
  rename World=>w5
  have N:=q.o.1.below d.o.1 KB.ok H.o;have V:=qt H.o q.o.d.1;obtain⟨f5,h,-⟩:=id N;have r5:=h.bD R;have f5:=h.free (18+a);have o5:w5.cell? ⟨O,1,none⟩=some (rm (a:Int)):=by simp[World.cell?,V]
  have H5:=al N;obtain⟨L,J⟩:=rk (min 16 (cU cc f g s.rows).length);rw[J];have W:=al J;clear h N V J;go_upto_region 7 with fail
  go_still_tail 8,(by kernel_rfl)
  change wpList _ _ _ _ _ w5.drew;go_wp2_with fail;go_ret
  rw[M.o];have h:aQ (L:Int):=by have:=W.o;unfold aQ;omega
  have J:=(H5.o.drew d.o.1 KB.ok).jL d.o.1 KB.ok R h;refine⟨rfl,?_,(q.o.2.1.x (oB H.o c.W) (fun _ _ G=>G)).x ((ma w5 1 c.M (18+a) _).wD d.o.1) (fun _ _ G=>G)⟩;unfold fZ;rw[Nat.min_comm,W.o];exact J
 ·have h:(n==0)=false:=by simpa using D
  have M:=al (z.x (fb D));have q:=AD u E;clear D z v y E F u C;go_wp2_with fail;go_ret
  rw[M.o];exact⟨rfl,q.o.1,q.o.2⟩
end
section
variable{c:RC}{B T o m:Nat}{most:Int}{FT:Nat->Nat->Prop}{l:az}{w:World}{s:PS az}
def ZA:List (List UInt8)->Int
 |k::_=>NB k
 |[]=> -1
theorem NN(a:Cl->Bool)(x:aX)(s:PS az){b cc:Nat}{v n:Int}{cl':List Cl}(e:x.b=(b:Int))(d:x.c=(cc:Int))(c:s.bD b=v)(h:aV a s.cl [jT cc v v]=(cl',n)):
  zh a x s=if n=0 then fZ x {s with cl:=cl'} (ZA (cU cc v v s.rows))else({s with cl:=cl'},n):=by
 subst c;unfold zh fN;simp only[e,d,iS];unfold jT at h;rw[h];simp only;cases cU cc (s.bD b) (s.bD b) s.rows<;>rfl
theorem Vn{r:az}(h:df r){cc:Nat}{v:Int}:aQ (ZA (cU cc v v r)):=by
 cases hh:cU cc v v r with
 |nil=>exact⟨by decide,by decide⟩
 |cons k a=>exact h.num (by rw[hh];rfl)
theorem Vo{r:az}(h:df r){cc:Nat}{v:Int}{k:List UInt8}{ks:List (List UInt8)}(b:cU cc v v r=k::ks):k.length<=1000:=by obtain⟨q,c,_⟩:=(kI h.1 h.fit).1 (show k∈cU cc v v r by rw[b];simp);obtain⟨⟨n,a,e⟩,_⟩:=h.2 _ c;simp only at e;rw[e];have:=(jC a).2;omega
theorem R4(e:c.Fit)(i:c.b=rv B)(G:MI c (KB B T o m most FT l) w s)(x:aX)(a b cc:Nat)(I:a<8)(t:b<8)(aa:cc<4)(d:x.a=(a:Int))(f:x.b=(b:Int))(h:x.c=(cc:Int)):
  Calls prog 110 #[rv c.M,x.val] w (lZ c (KB B T o m most FT l) (zh c.ok x s) w):=by
 have g:=G.at_ e KB.ok x;have p: ∀j,aQ (s.bD j):=by obtain⟨_,_,_,_,_,_,_,h7⟩:=G;exact h7.1
 have k: ∀H,c.S H->H<w.heap.size:=by obtain⟨_,_,_,_,_,_,z,_⟩:=G;exact z
 obtain⟨dk,xa,xb,xc,xn⟩:=x;simp only at d f h g;subst d f h;unfold aX.val;simp only;have f:=AI e i k p;have i1:(0:Int)<=(a:Int):=by omega
 have i2:(a:Int)<8:=by omega
 have j1:(0:Int)<=(b:Int):=by omega
 have j2:(b:Int)<8:=by omega
 go_enter func110,ntmps110;go_upto_region 1 with fail;generalize w.alloc (sa dk (a:Int) (b:Int) (cc:Int) xn)=d at g⊢;obtain⟨O,n⟩:=rk (w.heap.size);rw[n]at g⊢;have h:=g.box;have r:d.cell? ⟨O,2,none⟩=some (rm (b:Int)):=by simp[World.cell?,h]
 have q:=g.bD t;have j:=al g;clear G h n e i k p g
 go_region
 go_upto_region 2 with fail;have u:=al (bd d.heap.size d).drew;have g:=u.o;generalize d.drew=h at u g⊢;have i:=qt g j.o.box;have D:h.cell? ⟨O,3,none⟩=some (rm (cc:Int)):=by simp[World.cell?,i]
 obtain⟨v,e⟩:=rk (s.bD b);rw[e];have C:=al (show aQ v/\s.bD b=v from⟨e▸f.o.t b,e⟩);clear r q g i e;obtain⟨g,e⟩:=rj h (sd false (cc:Int) (#[]) v v);have q:=AD g e;clear g e;go_wp2_with fail;have N8:=q.o;generalize h.alloc (sd false (cc:Int) (#[]) v v)=i at N8⊢;obtain⟨g,e⟩:=N8;obtain⟨X,y⟩:=rk (h.heap.size);rw[y]at e⊢;have h:Below d.heap.size d i:=u.o.x (g.m u.o.size);have p:Below w.heap.size w i:=j.o.Ce.x (h.m j.o.Ce.size);have d:=j.o.mi.below f.o.1 KB.ok h;have k:=mr (l:=[jT cc v v]) (F:=fun H=> ¬c.S H) e rfl (fun i=>by have n:=f.o.d.1 X i;have i:=j.o.Ce.size;have d:=u.o.size;omega) (by simp[maxLen]);have r:=qt h j.o.box;have N:=al (nu f.o.1 KB.ok d [jT cc v v] _ k (by simp) (zq aa C.o.1 C.o.1 (eL _)));obtain⟨ap,n,i⟩: ∃E A,aV c.ok s.cl [jT cc v v]=(E,A):=⟨_,_,rfl⟩;rw[i]at N;have M:=NN (x:=⟨dk,a,b,cc,xn⟩) c.ok s rfl rfl C.o.2 i;have H3:=AF p r j.o.off;clear q g e y h p d k r i;refine N.o.m ?_;rintro e h ⟨rfl,y,P⟩;have V:=j.o.ne f.o.1;have R:=P.heap H3.o.2.1 V;have U:Only c.W w h:=(oB H3.o.1 c.W).x (P.wD f.o.1) (fun _ _ G=>G);by_cases S:n=0
 ·subst S;have J:=al (M.x (ff rfl));have k:=AI y U R V;clear M N P U V D;go_upto_region 5 with fail;obtain⟨r,D,-⟩:=id y;have L:h.cell? ⟨O,1,none⟩=some (rm (a:Int)):=by simp[World.cell?,R]
  have A:=D.bD I;have r:=D.free (18+a);clear D y R
  go_still_tail 6,(by kernel_rfl)
  change wpList _ _ _ _ _ h.drew;go_upto_region 6 with fail;have g:MI c (KB B T o m most FT l) (h.setCell ⟨c.M,18+a,none⟩ (rm (-1))).drew {s with cl:=ap,bD:=oL s.bD a (-1)}:=(k.o.1.drew f.o.1 KB.ok).jL f.o.1 KB.ok I (v:= -1) ⟨by decide,by decide⟩;have i:Only c.W w (h.setCell ⟨c.M,18+a,none⟩ (rm (-1))).drew:=k.o.2.1.x ((ma h 1 c.M (18+a) _).wD f.o.1) (fun _ _ G=>G);have d:(h.setCell ⟨c.M,18+a,none⟩ (rm (-1))).drew.heap[O]?=_:=(ma h 1 c.M (18+a) (rm (-1))).heap k.o.d.1 k.o.t;generalize (h.setCell ⟨c.M,18+a,none⟩ (rm (-1))).drew=q at g i d⊢;obtain⟨f5,p,-⟩:=id g;have E:q.cell? ⟨c.M,26,none⟩=some (rv B)/\q.cell? ⟨O,3,none⟩=some (rm (cc:Int)):=⟨by have:=p.b;simp only[RC.ms]at this;rw[f.o.2.1]at this;exact this,by simp[World.cell?,d]⟩;have F:=AF g i d;clear p g i d A r L
  have HF:=al (show ∀W,Below q.heap.size q W->Calls prog 166 #[rv B,rm (cc:Int),rm v,rm v,rm 1] W (BU ((cU cc v v s.rows).take 1) W)from fun W t=>by
   have g:=F.o.1.below f.o.1 KB.ok t;obtain⟨_,_,_,_,_,d,_⟩:=g
   exact KB.find (Z:=c.Z) d cc 1 v v aa C.o.1.i6 C.o.1.i6 (eL _) (by omega))
  refine pt (S:=(fun W=>Below q.heap.size q W/\W.cell? ⟨c.M,26,none⟩=some (rv B)/\W.cell? ⟨O,3,none⟩=some (rm (cc:Int)))) (by kernel_rfl) ⟨(bd _ _).drew,E⟩ (fun d=>?_);refine bj [0,1,2,3,4,5,6,7] ?_
  iterate 8 (refine dZ (v:=?_) (fun _ ⟨s0,s1,g⟩=>?_) d ?_;rotate_left;(go_simp;try rfl);try simp only[xr])
  refine bq ?_;refine bA 8 (fun K i=>?_);go_simp;refine(HF.o _ d.1).m ?_;rintro e wn ⟨A,cp,rfl,r,p⟩;have HO:=al r;clear r
  try go_simp
  refine i.o _ _ (tQ d p) ?_;clear i K d p;intro d
  try simp only[xr]
  refine bj [9,10,11,12,13] ?_
  iterate 5 (refine dZ (v:=?_) (fun _ ⟨s0,s1,g⟩=>?_) d ?_;rotate_left;(go_simp;try rfl);try simp only[xr])
  refine bq ?_;refine pw (by kernel_rfl) ?_ _;have MQ:=al d.1;clear d E
  rename World=>w6
  have z:=F.o.1.below f.o.1 KB.ok MQ.o;have k6:=qt MQ.o F.o.d;have DW:=F.o.2.1.x (oB MQ.o c.W) (fun _ _ G=>G);have o6:w6.cell? ⟨O,1,none⟩=some (rm (a:Int)):=by simp[World.cell?,k6]
  obtain⟨_,_,_,_,_,g,_⟩:=id z;have Y:=KB.rows g;have ac:=KB.tab _ _ _ g;have ad:=KB.errs g;clear g;have Z:=Vn Y (cc:=cc) (v:=v);simp only at Z;obtain⟨L,Q⟩:=rk (cU cc v v s.rows);rw[Q]at HO⊢;have WR:aQ (ZA L):=by rw[<-Q];exact Z
  have g:=AS z DW k6 Q WR ac ad;have am:=al Y;clear z DW k6 Y ac ad Z WR Q
  cases L with
  |nil=>
   go_wp2_with fail;go_ret
   rw[J.o,g.o.t.1];exact⟨rfl,g.o.1,g.o.2.1⟩
  |cons H z=>
   have kg:min 1 (H::z).length=1:=by simp
   rw[kg];have Q:=Vo am.o g.o.t.1;have r:=HO.o;obtain⟨z,rfl,Z⟩:=QH (j:=0) (k:=H) r rfl;have Y:=(r.lt z rfl).1;clear r;have r: ¬z=c.M:=fun e=>by have ac:q.heap.size<=z:=Y;obtain⟨_,D,_⟩:=F.o.1;have:=D.lt;omega
   have E:w6.cell? ⟨O,1,none⟩=some (rm (a:Int))/\w6.cell? ⟨z,0,none⟩=some (r7 H):=⟨o6,Z⟩;have HN:=al (show ∀W,Below w6.heap.size w6 W->Calls prog 167 #[r7 H] W (ab3 (jm H) W)from fun W t=>DK W H Q (g.o.q.2.1.below t) (g.o.q.d.below t));have HG:=al r;clear o6 Z Y kg Q r;go_upto_region 8 with fail;refine pt (S:=(fun W=>W.cell? ⟨O,1,none⟩=some (rm (a:Int))/\W.cell? ⟨z,0,none⟩=some (r7 H))) (by kernel_rfl) E (fun d=>?_);refine bj [0,1,2,3,4,5,10,11] ?_
   iterate 8 (refine dZ (v:=?_) (fun _ ⟨s0,s1⟩=>?_) d ?_;rotate_left;(go_simp;try rfl);try simp only[xr])
   refine bq ?_;refine bA 6 (fun K i=>?_);go_simp;refine(HN.o _ ((bd _ _).drew)).m ?_;rintro e wn ⟨rfl,p⟩;have q:=((bd w6.heap.size w6).drew).x (p.m (b8 _));have H:=g.o.1.below f.o.1 KB.ok q;obtain⟨_,r,-⟩:=id H;have W:=r.bD I;have Y:=r.free (18+a);have Q:=AD H q;clear r H q
   try go_simp
   refine i.o _ _ (⟨(p.cell (aq _ _ d.1)).x d.1,(p.cell (aq _ _ d.2)).x d.2⟩) ?_;clear i K d p;intro d
   try simp only[xr]
   refine bj [7,8,9,12] ?_
   iterate 4 (refine dZ (v:=?_) (fun _ ⟨s0,s1⟩=>?_) d ?_;rotate_left;(go_simp;try rfl);try simp only[xr])
   refine bq ?_;refine bA 13 (fun K i=>?_);go_simp;refine i.o _ _ (⟨(bg _ c.M (18+a) _).cell d.1 k.o.t,(bg _ c.M (18+a) _).cell d.2 HG.o⟩) ?_;clear i K d;intro d
   try simp only[xr]
   refine pw (by kernel_rfl) ?_ _;clear d E;go_wp2_with fail;go_ret
   rw[J.o,g.o.t.1];refine⟨rfl,?_,(g.o.2.1.x (oB Q.o.2 c.W) (fun _ _ G=>G)).x ((bg wn c.M (18+a) _).wD f.o.1) (fun _ _ G=>G)⟩;have d:=Q.o.1.jL f.o.1 KB.ok I g.o.q.1;simp only[zo]at d;exact d
 ·have d:(n==0)=false:=by simpa using S
  have J:=al (M.x (fb S));have k:=AD y U;clear S M N P U V y R;go_wp2_with fail;go_ret
  rw[J.o];exact⟨rfl,k.o.1,k.o.2⟩
end
theorem R6{w:World}{base n:Nat}{F:Nat->Prop}{v:Value}{l:List Cl}(m:w.ownsRow base 68 5 v n (N5 l))(a:l.length=n)(d: ∀k,base<=k->F k):eI w F v l:=by
 rcases m.2 with⟨rfl,y⟩|⟨k,q,o,rfl,f,r,h,e,t,u⟩
 ·have:l=[]:=de (by omega);subst this;subst a;exact bI.nil 5 _ _
 ·refine⟨_,_,_,rfl,by simpa using a,h,e,fun _=>⟨k,0,rfl,d k f,fun i x b j A c=>?_⟩⟩;have z:i<n:=by have:=(aw.1 b).1;simpa[a]using this
  have p:=dK l x (db b);have s:j<5:=by have:=(aw.1 c).1;omega
  have g:=jX (dK l) i x b j A c;have b:=m.cellAt (i*5+j) (by omega);rw[ie,b];exact g
theorem qd{c:Nat}(i:c<4){old now:Option Rw}(e: ∀r,old=some r-> ∀c,aQ (r.aO c))(d: ∀r,now=some r-> ∀c,aQ (r.aO c)):Good (vg c old now):=by
 have b: ∀{v:Int},aQ v->Good [(⟨true,c,[],v,v⟩:Cl)]:=fun{v} f x a=>by rw[gk]at a;subst a;unfold aQ at f;refine⟨?_,⟨by unfold lq;simp;omega,by unfold lq;simp;omega,by unfold lq;simp;omega,by unfold maxLen;simp⟩⟩;unfold Ok EL;simp;omega
 intro x a;unfold vg at a;split at a
 ·rename_i h g;split at a
  ·simp at a
  ·simp only[List.mem_cons,List.not_mem_nil,or_false]at a;rcases a with rfl|rfl
   ·exact b (e h rfl c) _ (by simp)
   ·exact b (d g rfl c) _ (by simp)
 ·rename_i h;exact b (e h rfl c) _ a
 ·rename_i g;exact b (d g rfl c) _ a
 ·simp at a
theorem zr{n:Int}(h:aQ n){old now:Option Rw}(d: ∀r,old=some r-> ∀c,aQ (r.aO c))(b: ∀r,now=some r-> ∀c,aQ (r.aO c)):Good (iz (Lib.itoa n) old now):=by
 have e: ∀{k:List UInt8},dY k=0->k.length<=16->Good [(⟨true,-1,k,0,0⟩:Cl)]:=fun{k} f g x a=>by rw[gk]at a;subst a;refine⟨?_,⟨by unfold lq;simp,by unfold lq;simp,by unfold lq;simp,by unfold maxLen;simp only;omega⟩⟩;unfold Ok EL;simp[f]
 intro x a;unfold iz at a;simp only[List.mem_cons,List.mem_append]at a;rcases a with rfl|a|a|a|a|a
 ·exact e (yu h) (jC h).2 _ (by simp)
 ·split at a
  ·simp at a
  ·exact e (k:=[35]) (by decide) (by decide) _ a
 ·exact qd (by decide) d b x a
 ·exact qd (by decide) d b x a
 ·exact qd (by decide) d b x a
 ·exact qd (by decide) d b x a
theorem Cj(k:List UInt8)(old now:Option Rw):(iz k old now).length<=10:=by rw[<-xH];exact qU k old now 4
section
variable{c:RC}{B T o m:Nat}{most:Int}{FT:Nat->Nat->Prop}{l:az}{w:World}{s:PS az}
theorem MI.rows{K:(Nat->Prop)->az->World->Prop}{w':World}(q:MI c K w s)(i:c.S m)(h:m≠c.M)(a:Only (fun j=>j=m) w w'){r:az}(b:K c.Z r w'):MI c K w' {s with rows:=r}:=by obtain⟨t,o,f,j,l,p,g,n⟩:=q;have d: ∀k,k=m->c.S k:=fun k e=>e▸i;exact⟨t,o.only a (fun e=>h e.symm),f.only a d,j.only a d,l.only a (fun k b e=>b (d k e)),b,fun k b=>da (g k b) a.size,n⟩
theorem R7(a:Cl->Bool)(x:aX)(s:PS az){b:Nat}{v n:Int}{cl':List Cl}(d:x.b=(b:Int))(c:s.bD b=v)(h:aV a s.cl (iz (Lib.itoa v) (aA (Lib.itoa v) s.rows) none)=(cl',n)):
  GF a x s=if n=0 then({s with cl:=cl',rows:=eZ (Lib.itoa v) s.rows},0)else({s with cl:=cl'},n):=by
 subst c;unfold GF fN;simp only[d,iS];rw[h]
theorem Vp(g:c.Fit)(q:c.b=rv B)(F:c.S m)(D:c.W m)(v:m≠c.M)(z:MI c (KB B T o m most FT l) w s)(x:aX)(b:Nat)(P:b<8)(a:x.b=(b:Int)):
  Calls prog 109 #[rv c.M,x.val] w (lZ c (KB B T o m most FT l) (GF c.ok x s) w):=by
 have H:=z.at_ g KB.ok x;have i: ∀d,aQ (s.bD d):=by obtain⟨_,_,_,_,_,_,_,Q⟩:=z;exact Q.1
 have u: ∀k,c.S k->k<w.heap.size:=by obtain⟨_,_,_,_,_,_,R,_⟩:=z;exact R
 have j:df s.rows:=by obtain⟨_,_,_,_,_,d,_⟩:=z;exact KB.rows d
 obtain⟨E,I,xb,M,G⟩:=x;simp only at a H;subst a;unfold aX.val;simp only;have a:=By g q u i j F D v;have X:(0:Int)<=(b:Int):=by omega
 have j2:(b:Int)<8:=by omega
 go_enter func109,ntmps109;go_upto_region 1 with fail;generalize w.alloc (sa E I (b:Int) M G)=e at H⊢;obtain⟨U,t⟩:=rk (w.heap.size);rw[t]at H⊢;have p:=H.box;obtain⟨A,f⟩:=rk (s.bD b);have J:e.cell? ⟨U,2,none⟩=some (rm (b:Int))/\e.cell? ⟨c.M,18+b,none⟩=some (rm A):=⟨by simp[World.cell?,p],f▸H.bD P⟩;have h:aQ A:=f▸i b;have L:=al (show ∀W,Below e.heap.size e W->Calls prog 161 #[rm A] W fun C n=>C=.returned (.string ⟨(Lib.itoa A).toArray⟩)/\Below W.heap.size W n from fun W n=>Dz W A h.i64 (by have y:=H.mi.below g KB.ok n;obtain⟨_,_,_,_,_,d,_⟩:=y;exact KB.tab _ _ _ d));have y:=al H;have n:=AD h f;clear z p t g q u i H j F D v h f;refine pt (S:=(fun W=>Below e.heap.size e W/\W.cell? ⟨U,2,none⟩=some (rm (b:Int))/\W.cell? ⟨c.M,18+b,none⟩=some (rm A))) (by kernel_rfl) ⟨(bd _ _).drew,J⟩ (fun e=>?_);refine bj [0,1,2,3,4,5,6] ?_
 iterate 7 (refine dZ (v:=?_) (fun _ ⟨j,i,h⟩=>?_) e ?_;rotate_left;(go_simp;try rfl);try simp only[xr])
 refine bq ?_;refine bA 7 (fun K f=>?_);go_simp;refine(L.o _ e.1).m ?_;rintro C wn ⟨rfl,g⟩
 try go_simp
 refine f.o _ _ (tQ e g) ?_;clear f K e g;intro e
 try simp only[xr]
 refine lA 8 (v:=?_) (fun g f=>?_) e ?_;rotate_left
 ·obtain⟨j,i,h⟩:=f;go_simp;try rfl
 try simp only[xr]
 refine pw (by kernel_rfl) ?_ _;have H:=al e.1;clear e J
 rename World=>w2
 have p:=y.o.mi.below a.o.1 KB.ok H.o;have q:=y.o.Ce.x (H.o.m y.o.Ce.size);obtain⟨k,d⟩:=rk (Lib.itoa A);rw[d];have j:1<=k.length/\k.length<=16:=d▸jC n.o.1;obtain⟨W,i,_,_,_,f,_⟩:=id p;have F:w2.cell? ⟨c.M,26,none⟩=some (rv B):=by have:=i.b;simp only[RC.ms]at this;rw[a.o.2.1]at this;exact this
 have h:=al (KB.RY f j 10 ⟨0,0,0,0⟩ none (.inr ⟨rfl,rfl⟩));have g:=zr n.o.1 (old:=aA k s.rows) (now:=none) (fun r e c=>by have:=(aD a.o.q.1.1).1 e;exact(a.o.q.1.2 _ this).2 c) (fun r e=>by cases e);rw[d]at g;have e:=AI p q g d;clear p q g j i f d L;unfold Rw.val at h;go_wp2_with fail;refine h.o.m ?_;rintro C Z ⟨Y,rfl,u,g⟩;have D:=e.o.1.below a.o.1 KB.ok g;have v:=R6 (F:=fun k=> ¬c.S k) u rfl (fun k d i=>by have j:=a.o.d.1 k i;have p:=e.o.2.1.size;omega);have i:=al (nu a.o.1 KB.ok D _ _ v (by have:=Cj k (aA k s.rows) none;omega) e.o.d.1);obtain⟨N,S,t⟩: ∃q j,aV c.ok s.cl (iz k (aA k s.rows) none)=(q,j):=⟨_,_,rfl⟩;rw[t]at i;have q:=R7 (x:=⟨E,I,b,M,G⟩) (cl':=N) (n:=S) c.ok s rfl n.o.2 (by rw[e.o.t];exact t);rw[e.o.t]at q;have O:=al (e.o.2.1.x (g.m e.o.2.1.size));have j:=al q;clear D v t u g h F q;go_wp2_with fail;refine i.o.m ?_;rintro C J ⟨rfl,g,u⟩;have t:Only c.W w J:=(oB O.o c.W).x (u.wD a.o.1) (fun _ _ z=>z);by_cases q:S=0
 ·subst q;have v:=al (j.o.x (ff rfl));have h:=AD g t;obtain⟨f4,L,_,_,_,f,D,_⟩:=id g;have b4:J.cell? ⟨c.M,26,none⟩=some (rv B):=by have:=L.b;simp only[RC.ms]at this;rw[a.o.2.1]at this;exact this
  have F:=al (KB.del f (fun k d=>D k (a.o.1.YX k d)) n.o.1);rw[e.o.t]at F;clear L f D g t u j i;go_wp2_with fail;refine F.o.m ?_;rintro C V ⟨⟨nn,rfl⟩,D,f⟩;have L:=AD (h.o.1.rows a.o.q.2.1 a.o.q.t f D) (h.o.2.x (f.m (fun k _ C=>C▸a.o.q.d.1)) (fun _ _ z=>z));clear D f;go_wp2_with fail;go_ret
  rw[v.o];exact⟨rfl,L.o.1,L.o.2⟩
 ·have f:(S==0)=false:=by simpa using q
  have v:=al (j.o.x (fb q));have h:=AD g t;clear q j i u t g;go_wp2_with fail;go_ret
  rw[v.o];exact⟨rfl,h.o.1,h.o.2⟩
end
theorem Sb{W:World}{d c b e f:Addr}{v1 v2 v3 v4 v5:Value}(h:W.cell? d=some v1/\W.cell? c=some v2/\W.cell? b=some v3/\W.cell? e=some v4/\W.cell? f=some v5)(o:Obj):(W.alloc o).cell? d=some v1/\(W.alloc o).cell? c=some v2/\(W.alloc o).cell? b=some v3/\(W.alloc o).cell? e=some v4/\(W.alloc o).cell? f=some v5:=
 have a:=ae W o
 ⟨(a.cell (aq _ _ h.1)).x h.1,(a.cell (aq _ _ h.2.1)).x h.2.1,(a.cell (aq _ _ h.2.2.1)).x h.2.2.1,(a.cell (aq _ _ h.2.2.2.1)).x h.2.2.2.1,(a.cell (aq _ _ h.2.2.2.2)).x h.2.2.2.2⟩
theorem ZE{c W a:World}{d i g e f:Addr}{v1 v2 v3 v4 v5:Value}(h:Below c.heap.size c W/\W.cell? d=some v1/\W.cell? i=some v2/\W.cell? g=some v3/\W.cell? e=some v4/\W.cell? f=some v5)(b:Below W.heap.size W a):Below c.heap.size c a/\a.cell? d=some v1/\a.cell? i=some v2/\a.cell? g=some v3/\a.cell? e=some v4/\a.cell? f=some v5:=
 ⟨h.1.x (b.m h.1.size),(b.cell (aq _ _ h.2.1)).x h.2.1,(b.cell (aq _ _ h.2.2.1)).x h.2.2.1,(b.cell (aq _ _ h.2.2.2.1)).x h.2.2.2.1,(b.cell (aq _ _ h.2.2.2.2.1)).x h.2.2.2.2.1,(b.cell (aq _ _ h.2.2.2.2.2)).x h.2.2.2.2.2⟩
theorem Sc(most:Int)(c:Cl->Bool)(x:aX)(s:PS az){a b:Nat}{v n:Int}{q:Rw}{cl':List Cl}(f:x.a=(a:Int))(g:x.b=(b:Int))(d:s.bD b=v)(e:zg s.bD a=q)(h:aV c s.cl (iz (Lib.itoa v) (aA (Lib.itoa v) s.rows) (some q))=(cl',n)):
  GD most c x s=if n=0 then(if aA (Lib.itoa v) s.rows=none/\most<=(s.rows.length:Int)then({s with cl:=cl'},16)else({s with cl:=cl',rows:=cO (Lib.itoa v,q) s.rows},0))else({s with cl:=cl'},n):=by
 subst d;subst e;unfold GD fN;simp only[f,g,iS];rw[h]
theorem Tryz.JT(w:World)(M a:Nat)(g:a<5):(Instr.sliceAt 149 (.pointer (some ⟨M,18,none⟩)) (some (rm (a:Int))) (some (rm ((a:Int)+4))) none).run prog w=.ok (.slice (some ⟨M,18+a,none⟩) 4 (8-a)) w:=by
 have b:prog.arrayLen 149=8:=by kernel_rfl
 have c: ∀W,(sizeOf (prog.elem 149)).run prog W=.ok 1 W:=fun W=>by kernel_rfl
 have h:=run_sliceAt_array_lh (P:=prog) w 149 ⟨M,18,none⟩ (by kernel_rfl) .i64 .i64 (a:Int) ((a:Int)+4) (by omega) (by omega) (by rw[b];omega);rw[h,c,b];have f:((a:Int)+4).toNat=a+4:=by omega
 have d:((a:Int)).toNat=a:=by omega
 simp only[Result.andThen,slicedAt,f,d,fb (show ¬8=a by omega)];have e:a+4-a=4:=by omega
 rw[e];simp[Addr.add]
theorem Tryz.Vq(w:World)(a:Option Addr)(n:Nat):(Instr.arrayAt 109 (.slice a 4 n)).run prog w=.ok (.pointer a) w:=run_arrayAt w 109 3 4 a 4 n (by kernel_rfl) (b8 _)
section
variable{c:RC}{B T o m:Nat}{most:Int}{FT:Nat->Nat->Prop}{l:az}{w:World}{s:PS az}
theorem Vr(f:c.Fit)(p:c.b=rv B)(A:c.S m)(y:c.W m)(v:m≠c.M)(G:MI c (KB B T o m most FT l) w s)(x:aX)(a b:Nat)(ha:a<5)(hb:b<8)(d:x.a=(a:Int))(e:x.b=(b:Int)):
  Calls prog 108 #[rv c.M,x.val] w (lZ c (KB B T o m most FT l) (GD most c.ok x s) w):=by
 have H:=G.at_ f KB.ok x;have i: ∀g,aQ (s.bD g):=by obtain⟨_,_,_,_,_,_,_,h7⟩:=G;exact h7.1
 have t: ∀u,c.S u->u<w.heap.size:=by obtain⟨_,_,_,_,_,_,h6,_⟩:=G;exact h6
 have n:df s.rows:=by obtain⟨_,_,_,_,_,j,_⟩:=G;exact KB.rows j
 obtain⟨dk,xa,xb,xc,xn⟩:=x;simp only at d e H;subst d e;unfold aX.val;simp only;have g:=By f p t i n A y v;have j1:(0:Int)<=(b:Int):=by omega
 have j2:(b:Int)<8:=by omega
 go_enter func108,ntmps108;go_upto_region 1 with fail;generalize w.alloc (sa dk (a:Int) (b:Int) xc xn)=d at H⊢;obtain⟨O,z⟩:=rk (w.heap.size);rw[z]at H⊢;have k:=H.box;obtain⟨Z,e⟩:=rk (s.bD b);have q:d.cell? ⟨O,2,none⟩=some (rm (b:Int))/\d.cell? ⟨c.M,18+b,none⟩=some (rm Z):=⟨by simp[World.cell?,k],e▸H.bD hb⟩;have h:aQ Z:=e▸i b;have L:=al (show ∀W,Below d.heap.size d W->Calls prog 161 #[rm Z] W fun Y C=>Y=.returned (.string ⟨(Lib.itoa Z).toArray⟩)/\Below W.heap.size W C from fun W Q=>Dz W Z h.i64 (by have F:=H.mi.below f KB.ok Q;obtain⟨_,_,_,_,_,j,_⟩:=F;exact KB.tab _ _ _ j));have N:=al H;have P:=AD h e;clear G k z f p t i H n A y v h e;refine pt (S:=(fun W=>Below d.heap.size d W/\W.cell? ⟨O,2,none⟩=some (rm (b:Int))/\W.cell? ⟨c.M,18+b,none⟩=some (rm Z))) (by kernel_rfl) ⟨(bd _ _).drew,q⟩ (fun d=>?_);refine bj [0,1,2,3,4,5,6] ?_
 iterate 7 (refine dZ (v:=?_) (fun _ ⟨M,J,I⟩=>?_) d ?_;rotate_left;(go_simp;try rfl);try simp only[xr])
 refine bq ?_;refine bA 7 (fun K k=>?_);go_simp;refine(L.o _ d.1).m ?_;rintro Y wn ⟨rfl,A⟩
 try go_simp
 refine k.o _ _ (tQ d A) ?_;clear k K d A;intro d
 try simp only[xr]
 refine lA 8 (v:=?_) (fun f e=>?_) d ?_;rotate_left
 ·obtain⟨M,J,I⟩:=e;go_simp;try rfl
 try simp only[xr]
 refine pw (by kernel_rfl) ?_ _;have X:=al d.1;clear d q
 rename World=>w2
 have E:=N.o.mi.below g.o.1 KB.ok X.o;have C:=qt X.o N.o.box;have H:=N.o.Ce.x (X.o.m N.o.Ce.size);obtain⟨u,j⟩:=rk (Lib.itoa Z);rw[j];obtain⟨f2,t,_⟩:=id E;obtain⟨f,y⟩:=rk (s.bD a);obtain⟨h,D⟩:=rk (s.bD (a+1));obtain⟨e,v⟩:=rk (s.bD (a+2));obtain⟨i,z⟩:=rk (s.bD (a+3));have n:zg s.bD a=⟨f,h,e,i⟩:=by unfold zg;rw[y,D,v,z]
 have q:w2.cell? ⟨O,1,none⟩=some (rm (a:Int))/\w2.cell? ⟨c.M,18+a,none⟩=some (rm f)/\w2.cell? ⟨c.M,18+a+1,none⟩=some (rm h)/\w2.cell? ⟨c.M,18+a+2,none⟩=some (rm e)/\w2.cell? ⟨c.M,18+a+3,none⟩=some (rm i):=
  ⟨by simp[World.cell?,C],y▸t.bD (show a<8 by omega),by have:=t.bD (show a+1<8 by omega);simp only[RC.ms]at this;rw[D]at this;exact this,by have:=t.bD (show a+2<8 by omega);simp only[RC.ms]at this;rw[v]at this;exact this,by have:=t.bD (show a+3<8 by omega);simp only[RC.ms]at this;rw[z]at this;exact this⟩
 have i1:(0:Int)<=(a:Int):=by omega
 have i2:(a:Int)<=4:=by omega
 have p:=AM E H j C n;clear E H t j L C n y D v z;have y:IntKind.i64.wrap ((a:Int)+4)=(a:Int)+4:=by rw[me];omega
 have v:=fun W=>Tryz.JT W c.M a ha;have t:=fun W z n=>Tryz.Vq W z n;go_upto_region 2 with fail;refine pt (S:=(fun W=>W.cell? ⟨O,1,none⟩=some (rm (a:Int))/\W.cell? ⟨c.M,18+a,none⟩=some (rm f)/\W.cell? ⟨c.M,18+a+1,none⟩=some (rm h)/\W.cell? ⟨c.M,18+a+2,none⟩=some (rm e)/\W.cell? ⟨c.M,18+a+3,none⟩=some (rm i))) (by kernel_rfl) q (fun d=>?_);refine bj [0,1,2,3,4,5,6,7,8,9,10] ?_
 iterate 11 (refine dZ (v:=?_) (fun _ ⟨M,J,I,s3,s4⟩=>?_) d ?_;rotate_left;(go_simp;try rfl);try simp only[xr])
 refine bq ?_;refine bA 11 (fun K k=>?_);go_simp;refine k.o _ _ (Sb d _) ?_;clear k K d;intro d
 try simp only[xr]
 refine bA 12 (fun K k=>?_);go_simp;refine k.o _ _ (Sb q _) ?_;clear k K d;intro d
 try simp only[xr]
 refine pw (by kernel_rfl) ?_ _;clear d q v t y;have H:=(ae w2 (r8 f h e i)).drew;have y:(w2.alloc (r8 f h e i)).drew.heap[w2.heap.size]?=_:=an w2 (r8 f h e i);generalize (w2.alloc (r8 f h e i)).drew=t at H y⊢;obtain⟨V,hV⟩:=rk (w2.heap.size);rw[hV]at y⊢;go_upto_region 3 with fail;have L:=p.o.1.below g.o.1 KB.ok H;have qj:=p.o.2.1.x (H.m p.o.2.1.size);have U: ¬V=c.M:=fun Y=>by obtain⟨_,hm,_⟩:=p.o.1;have:=hm.lt;omega
 obtain⟨f3,vB,_,_,_,S,_⟩:=id L;obtain⟨⟨E,D,z,C⟩,-⟩:=cP y;have q:t.cell? ⟨c.M,26,none⟩=some (rv B)/\t.cell? ⟨V,0,none⟩=some (rm f)/\t.cell? ⟨V,1,none⟩=some (rm h)/\t.cell? ⟨V,2,none⟩=some (rm e)/\t.cell? ⟨V,3,none⟩=some (rm i):=⟨by have:=vB.b;simp only[RC.ms]at this;rw[g.o.2.1]at this;exact this,E,D,z,C⟩;have aa:1<=u.length/\u.length<=16:=p.o.d.1▸jC P.o.1;have R: ∀c,aQ ((Rw.mk f h e i).aO c):=fun c=>by rw[<-p.o.q];exact NC g.o.t.1 a c
 have GY:=al (show ∀W,Below t.heap.size t W->Calls prog 162 #[rm 9,rv B,r7 u,.agg #[rm f,rm h,rm e,rm i]] W (Yo (iz u (aA u s.rows) (some ⟨f,h,e,i⟩)) W)from fun W Q=>by
  have F:=L.below g.o.1 KB.ok Q;obtain⟨_,_,_,_,_,j,_⟩:=F
  exact KB.RY j aa 9 ⟨f,h,e,i⟩ (some ⟨f,h,e,i⟩) (.inl ⟨rfl,rfl⟩))
 have Q:=zr P.o.1 (old:=aA u s.rows) (now:=some ⟨f,h,e,i⟩) (fun r v c=>by have:=(aD g.o.q.1.1).1 v;exact(g.o.q.1.2 _ this).2 c) (fun r v c=>by injection v with v;subst v;exact R c);rw[p.o.d.1]at Q;have v:=AN L qj Q y U R;clear H y hV L qj U vB S aa Q R E D z C;refine pt (S:=(fun W=>Below t.heap.size t W/\W.cell? ⟨c.M,26,none⟩=some (rv B)/\W.cell? ⟨V,0,none⟩=some (rm f)/\W.cell? ⟨V,1,none⟩=some (rm h)/\W.cell? ⟨V,2,none⟩=some (rm e)/\W.cell? ⟨V,3,none⟩=some (rm i))) (by kernel_rfl) ⟨(bd _ _).drew,q⟩ (fun d=>?_);refine bj [0,1,2,3,4,5] ?_
 iterate 6 (refine dZ (v:=?_) (fun _ ⟨M,J,I,s3,s4,H⟩=>?_) d ?_;rotate_left;(go_simp;try rfl);try simp only[xr])
 refine bq ?_;refine bA 6 (fun K k=>?_);go_simp;refine(GY.o _ d.1).m ?_;rintro Y wn ⟨cv,rfl,t,A⟩;have HO:=al (dI (base':=w.heap.size) t (fun L y=>dd (dd v.o.2.1.size d.1.size) (t.lt L y).1));clear t
 try go_simp
 refine k.o _ _ (ZE d A) ?_;clear k K d A;intro d
 try simp only[xr]
 refine bj [7,8,9,10,11] ?_
 iterate 5 (refine dZ (v:=?_) (fun _ ⟨M,J,I,s3,s4,H⟩=>?_) d ?_;rotate_left;(go_simp;try rfl);try simp only[xr])
 refine bq ?_;refine pw (by kernel_rfl) ?_ _;have U:=al d.1;clear d q
 rename World=>w4
 have y:=v.o.1.below g.o.1 KB.ok U.o;have t:=R6 (F:=fun u=> ¬c.S u) HO.o rfl (fun u j d=>by have k:=g.o.d.1 u d;omega);have L:=al (nu g.o.1 KB.ok y _ _ t (by have:=Cj u (aA u s.rows) (some ⟨f,h,e,i⟩);omega) v.o.d.1);obtain⟨aa,n,k⟩: ∃A d,aV c.ok s.cl (iz u (aA u s.rows) (some ⟨f,h,e,i⟩))=(A,d):=⟨_,_,rfl⟩;rw[k]at L;have d:=Sc (x:=⟨dk,a,b,xc,xn⟩) (cl':=aa) (n:=n) most c.ok s rfl rfl P.o.2 p.o.q (by rw[p.o.d.1];exact k);rw[p.o.d.1]at d;have I:=al d;have H4:=AD (v.o.2.1.x (U.o.m v.o.2.1.size)) (qt U.o v.o.t.1);clear y t k d GY;go_wp2_with fail;refine L.o.m ?_;rintro Y d ⟨rfl,y,H⟩;have Q:Only c.W w d:=(oB H4.o.1 c.W).x (H.wD g.o.1) (fun _ _ G=>G);by_cases M:n=0
 ·subst M;have J:=al (I.o.x (ff rfl));have W:=H.heap H4.o.2 v.o.q.1;have t:=AD y Q;obtain⟨f5,A,_,_,_,S,k,_⟩:=id y;obtain⟨⟨E,D,z,C⟩,-⟩:=cP W;have q:d.cell? ⟨c.M,26,none⟩=some (rv B)/\d.cell? ⟨V,0,none⟩=some (rm f)/\d.cell? ⟨V,1,none⟩=some (rm h)/\d.cell? ⟨V,2,none⟩=some (rm e)/\d.cell? ⟨V,3,none⟩=some (rm i):=⟨by have:=A.b;simp only[RC.ms]at this;rw[g.o.2.1]at this;exact this,E,D,z,C⟩
  have R:=al (show Calls prog 164 #[rv B,r7 u,.agg #[rm f,rm h,rm e,rm i]] d.drew (LB B T o m most FT l c.Z s.rows d.drew u ⟨f,h,e,i⟩)from by
   have F:=y.drew g.o.1 KB.ok;obtain⟨_,_,_,_,_,j,k,_⟩:=F;have:=KB.put j (fun u j=>k u (g.o.1.YX u j)) P.o.1 v.o.q.2;rw[p.o.d.1]at this
   exact this)
  clear A S k y Q H I L W E D z C;go_upto_region 9 with fail
  go_still_tail 6,(by kernel_rfl)
  change wpList _ _ _ _ _ d.drew;go_wp2_with fail;refine R.o.m ?_;intro Y E A;unfold LB at A;by_cases z:aA u s.rows=none/\most<=(s.rows.length:Int)
  ·rw[ff z]at A;obtain⟨rfl,C⟩:=A;have k:=AD z C;clear z C R;go_wp2_with fail;go_ret
   rw[J.o,ff k.o.1];exact⟨rfl,(t.o.1.drew g.o.1 KB.ok).below g.o.1 KB.ok k.o.2,t.o.2.x (oB ((bd _ _).drew.x (k.o.2.m (b8 _))) c.W) (fun _ _ G=>G)⟩
  ·rw[fb z]at A;obtain⟨rfl,C,D⟩:=A;have k:=AF z C D;clear z C D R;go_wp2_with fail;go_ret
   rw[J.o,fb k.o.1];refine⟨rfl,(t.o.1.drew g.o.1 KB.ok).rows g.o.q.2.1 g.o.q.t k.o.d k.o.2.1,?_⟩;exact(t.o.2.x (oB ((bd d.heap.size d).drew) c.W) (fun _ _ G=>G)).x (k.o.d.m (fun u _ Y=>Y▸g.o.q.d.1)) (fun _ _ G=>G)
 ·have k:(n==0)=false:=by simpa using M
  have J:=al (I.o.x (fb M));have t:=AD y Q;clear M I L H Q y;go_wp2_with fail;go_ret
  rw[J.o];exact⟨rfl,t.o.1,t.o.2⟩
end
section
variable{c:RC}{B T o m:Nat}{most:Int}{FT:Nat->Nat->Prop}{l:az}
theorem wJ{x:aX}(c:fp x=true){i:Nat}(hi:i<4)(a:oW x.d i=true)(b:EH x.d i=0){n:Nat}(d:CF x.d i=(n:Int)):(x.uz i).toNat<=n/\x.uz i=((x.uz i).toNat:Int):=by have:=kM c hi a;rw[b,d]at this;omega
theorem Vs(d:c.Fit)(n:c.b=rv B)(v:c.S m)(u:c.W m)(y:m≠c.M)(x:aX)(j:fp x=true)(H:1<=x.d/\x.d<=15)(I:x.d≠14){w:World}{s:PS az}(E:s.pc<=100)(k:MI c (KB B T o m most FT l) w s):
  Calls prog (Dy x.d.toNat) #[rv c.M,x.val] w (lZ c (KB B T o m most FT l) (sN most c.ok x s) w):=by
 have i:=KB.ok (B:=B) (T:=T) (o:=o) (m:=m) (most:=most) (FT:=FT) (l:=l);have G:0<=s.pc:=by obtain⟨_,_,_,_,_,_,_,C⟩:=k;exact C.2.2.1
 have t:Ge c.b (KB B T o m most FT l) (fun r a=>aA a r):=by rw[n];exact KB.get
 have f:=fun(b:oW x.d 0=true) (h:Nat) (e:CF x.d 0=(h:Int))=>wJ j (i:=0) (by decide) b (by unfold EH;simp) e;have g:=fun(b:oW x.d 1=true) (h:Nat) (e:CF x.d 1=(h:Int))=>wJ j (i:=1) (by decide) b (by unfold EH;simp) e;have q:=fun(b:oW x.d 2=true) (a:x.d≠1) (h:Nat) (e:CF x.d 2=(h:Int))=>wJ j (i:=2) (by decide) b (by unfold EH;simp[a]) e;have A:=fun(b:oW x.d 3=true) (h:Nat) (e:CF x.d 3=(h:Int))=>wJ j (i:=3) (by decide) b (by unfold EH;simp) e;simp only[aX.uz]at f g q A;obtain⟨D,F⟩: ∃D:Nat,x.d=(D:Int):=⟨x.d.toNat,by omega⟩;have z:x.d=1\/x.d=2\/x.d=3\/x.d=4\/x.d=5\/x.d=6\/x.d=7\/x.d=8\/x.d=9\/x.d=10\/x.d=11\/x.d=12\/x.d=13\/x.d=15:=by omega
 unfold sN;rcases z with e|e|e|e|e|e|e|e|e|e|e|e|e|e
 ·have a:=f (by rw[e];rfl) 7 (by rw[e];rfl);have h:=kM j (i:=2) (by decide) (by rw[e];rfl);rw[e]at h;rw[e];exact UQ d i k x x.a.toNat (by simp at a;omega) (by simp at a;omega) h
 ·have a:=f (by rw[e];rfl) 7 (by rw[e];rfl);have b:=g (by rw[e];rfl) 7 (by rw[e];rfl);rw[e];exact RI d i k x x.a.toNat x.b.toNat (by simp at a;omega) (by simp at b;omega) (by simp at a;omega) (by simp at b;omega)
 ·have a:=f (by rw[e];rfl) 7 (by rw[e];rfl);have b:=g (by rw[e];rfl) 7 (by rw[e];rfl);rw[e];exact Vc d i k x x.a.toNat x.b.toNat (by simp at a;omega) (by simp at b;omega) (by simp at a;omega) (by simp at b;omega)
 ·have a:=f (by rw[e];rfl) 7 (by rw[e];rfl);have b:=g (by rw[e];rfl) 7 (by rw[e];rfl);rw[e];exact Ve d i k x x.a.toNat x.b.toNat (by simp at a;omega) (by simp at b;omega) (by simp at a;omega) (by simp at b;omega)
 ·have a:=f (by rw[e];rfl) 7 (by rw[e];rfl);have b:=g (by rw[e];rfl) 7 (by rw[e];rfl);rw[e];exact Vd d i k x x.a.toNat x.b.toNat (by simp at a;omega) (by simp at b;omega) (by simp at a;omega) (by simp at b;omega)
 ·have a:=f (by rw[e];rfl) 7 (by rw[e];rfl);have b:=g (by rw[e];rfl) 7 (by rw[e];rfl);rw[e];exact RN d i k x x.a.toNat x.b.toNat (by simp at a;omega) (by simp at b;omega) (by simp at a;omega) (by simp at b;omega)
 ·have a:=f (by rw[e];rfl) 7 (by rw[e];rfl);have b:=g (by rw[e];rfl) 7 (by rw[e];rfl);rw[e];exact UR d i KB.tab t k x x.a.toNat x.b.toNat (by simp at a;omega) (by simp at b;omega) (by simp at a;omega) (by simp at b;omega)
 ·have a:=f (by rw[e];rfl) 7 (by rw[e];rfl);have b:=g (by rw[e];rfl) 7 (by rw[e];rfl);have h:=q (by rw[e];rfl) (by rw[e];decide) 3 (by rw[e];rfl);rw[e];exact Vl d i KB.tab t k x x.a.toNat x.b.toNat x.c.toNat (by simp at a;omega) (by simp at b;omega) (by simp at h;omega) (by simp at a;omega) (by simp at b;omega) (by simp at h;omega)
 ·have a:=f (by rw[e];rfl) 4 (by rw[e];rfl);have b:=g (by rw[e];rfl) 7 (by rw[e];rfl);rw[e];exact Vr d n v u y k x x.a.toNat x.b.toNat (by simp at a;omega) (by simp at b;omega) (by simp at a;omega) (by simp at b;omega)
 ·have b:=g (by rw[e];rfl) 7 (by rw[e];rfl);rw[e];exact Vp d n v u y k x x.b.toNat (by simp at b;omega) (by simp at b;omega)
 ·have a:=f (by rw[e];rfl) 7 (by rw[e];rfl);have b:=g (by rw[e];rfl) 7 (by rw[e];rfl);have h:=q (by rw[e];rfl) (by rw[e];decide) 3 (by rw[e];rfl);rw[e];exact R4 d n k x x.a.toNat x.b.toNat x.c.toNat (by simp at a;omega) (by simp at b;omega) (by simp at h;omega) (by simp at a;omega) (by simp at b;omega) (by simp at h;omega)
 ·have a:=f (by rw[e];rfl) 7 (by rw[e];rfl);have b:=g (by rw[e];rfl) 7 (by rw[e];rfl);have h:=q (by rw[e];rfl) (by rw[e];decide) 3 (by rw[e];rfl);have p:=kM j (i:=3) (by decide) (by rw[e];rfl);rw[e]at p;rw[e];exact NM d n k x x.a.toNat x.b.toNat x.c.toNat (by simp at a;omega) (by simp at b;omega) (by simp at h;omega) (by simp at a;omega) (by simp at b;omega) (by simp at h;omega) p
 ·have a:=f (by rw[e];rfl) 7 (by rw[e];rfl);have p:=kM j (i:=3) (by decide) (by rw[e];rfl);rw[e]at p;have b:0<=x.n/\x.n<=64:=p;rw[e];exact RO d i k x x.a.toNat (by simp at a;omega) (by simp at a;omega) ⟨b.1,by omega⟩
 ·have a:=f (by rw[e];rfl) 7 (by rw[e];rfl);rw[e];exact NG d i k x x.a.toNat (by simp at a;omega) (by simp at a;omega)
theorem Vt(most:Int)(a:Cl->Bool)(x:aX)(s:PS az)(b:x.d=13->0<=x.n):s.pc<=(sN most a x s).1.pc:=by
 by_cases h:x.d.toNat=13
 ·have e:(sN most a x s).1.pc=if s.bD x.a.toNat=0 then s.pc+x.n else s.pc:=by
   unfold sN;rw[h];rfl
  have:=b (by omega);rw[e];split<;>omega
 ·rw[Vg most a x s h];exact eL _
theorem LC(e:c.Fit)(r:c.b=rv B)(t:c.S m)(q:c.W m)(y:m≠c.M)(f:opsE c.ops=0): ∀(d fr tt:Nat),JN c.ops fr tt->tt<=c.ops.length->tt-fr<=d->yQ c (KB B T o m most FT l) (vE most c.fuel c.ok c.ops d) fr tt
 |0,fr,tt,_,_,hd,i,x,h1,h2,hx=>by omega
 |d+1,fr,tt,hcl,ht,hd,i,x,h1,h2,hx=>by
  obtain⟨F,z,A,-⟩:=Cf f;have j:=Lx f;have p:=db hx;have u:=A x p;have n:=RS (z x p);refine⟨n,fun s v=>?_⟩;by_cases a:x.d=14
  ·have g:=JO a;have G:=hcl i x h1 h2 hx g;have H:=(j i x hx g).1
   have h: ∀s,vE most c.fuel c.ok c.ops (d+1) x s=mG c.fuel c.ops (vE most c.fuel c.ok c.ops d) x s:=fun s=>by rw[vE];simp only;rw[ff a]
   have k:=kM u (i:=2) (by decide) (by rw[a];rfl);rw[a]at k;have I:0<=x.c/\x.c<=16:=k;rw[h];refine⟨fun w E=>?_,fun b=>?_⟩
   ·rw[show Dy x.d.toNat=Dy 14 by rw[a];rfl];exact RQ e KB.ok E x (i+1) x.n.toNat x.c.toNat (by rw[v];push_cast;rfl) (by omega) (by omega) (by omega) (by omega) (LC e r t q y f d (i+1) (i+1+x.n.toNat) (j.body hx g) (by omega) (by omega))
   ·unfold mG at b⊢;simp only at b⊢;split at b
    ·rename_i D;rw[ff D];show s.pc<=s.pc+x.n;omega
    ·rename_i D;exact absurd b D
  ·have h: ∀s,vE most c.fuel c.ok c.ops (d+1) x s=sN most c.ok x s:=fun s=>by
    rw[vE];simp only;rw[fb a]
   rw[h];refine⟨fun w E=>Vs e r t q y x u n a (by rw[v];omega) E,fun _=>Vt most c.ok x s fun C=>(j i x hx (JP C)).1⟩
theorem Ck{w:World}{F:Nat->Prop}(ops:List aX)(b h:Value)(args:List Int)(fuel:Int)(d:Value)(a:Cl->Bool)(f:az)
  (t:qi w (fun k=> ¬k=m) b ops) (g:opsE ops=0) (y:gy w) (n:Rd w F h (args.map (Value.int .i64))) (p:args.length<=8) (q: ∀e∈args,-1099511627776<=e/\e<=1099511627776)
  (s:0<=fuel/\fuel<=10000) (x:yO w (fun k=>k=m) d a) (j:KB B T o m most FT l (fun _=>False) f w):
  Calls prog 36 #[b,h,rv B,rm fuel,d] w (Zp (KB B T o m most FT l) (fun k=>k=m) (DG most fuel a ops args f) w):=by
 have A:m<w.heap.size:=by obtain⟨_,_,_,_,i,_⟩:=j;exact i.map.lt
 refine Zq (act:=vE most fuel a ops ops.length) w ops b h args B fuel d a f t g y n p q s x j KB.ok (fun k e=>by omega) (fun c e i r v _ u z k _=>?_);subst i;subst v;subst u;exact LC e r (e.sub _ (k m rfl)) (k m rfl) (fun i=>by have:=e.low;omega) g c.ops.length 0 c.ops.length (Lx g).whole (b8 _) (by omega)
end
section
open Go.RowKit Go.Maps
theorem Sd{w:World}{F:Nat->Prop}{v:Value}{l:List Cl}{g:Nat}{a b d:Int}{A:Option Addr}{n c:Nat}{t:TypeId}(C:eI w F v l)(q:w.heap[g]?=some (.cells #[rm a,rm b,.slice A n c,rm d] t (0,0))):eI w (fun k=>F k/\k≠g) v l:=by
 obtain⟨p,m,y,x,f,s,u,r⟩:=C;refine⟨p,m,y,x,f,s,u,fun e=>?_⟩;obtain⟨j,o,z,i,h⟩:=r e;refine⟨j,o,z,⟨i,fun e=>?_⟩,h⟩;subst e;obtain⟨B,k⟩: ∃B,l[0]?=some B:=⟨_,ao (by simp at f;omega)⟩;have e:=h 0 B.cells (by simp[k]) 0 (.bool B.wr) rfl;rw[World.cell?,q]at e
 match o with
 |0=>simp at e
 |1=>simp at e
 |2=>simp at e
 |3=>simp at e
 |o+4=>simp at e
end
section
open Go.RowKit Go.Maps
def Vu(p:PS az×Int):Int:=if p.2=0 then p.1.bD 0 else p.1.value
def adT(p:PS az×Int)(w:World)(e:Ending)(w':World):Prop:=
 ∃f,e=.returned (.tuple #[.agg #[rm (Vu p),rm p.1.steps,f,rm p.2],rm 0])/\eI w' (fun _=>True) f (bC p.1.cl)/\(bC p.1.cl).length<=64/\Good p.1.cl/\Below w.heap.size w w'
theorem GN{w:World}{B T o m:Nat}{most:Int}{FT:Nat->Nat->Prop}{l r:az}{Z:Nat->Prop}(j:KB B T o m most FT l Z r w):Calls prog 44 #[rv B] w fun e a=>e=.returned (.tuple #[])/\Only (fun k=>k=m) w a:=by
 obtain⟨h,n,k,i,a,-⟩:=j;have g:w.cell? ⟨B,1,none⟩=some (.map (some m)):=by simp[World.cell?,a.blk]
 obtain⟨f,e,c,b⟩:=a.map.clear underlying138 0;have d:=al b;clear a c b;go_enter func44,ntmps44;go_wp2_with fail;exact ew (du rfl _ _ _) rfl ⟨rfl,d.o⟩
theorem JU{w:World}{F G:Nat->Prop}{T o:Nat}{most:Int}{l:az}{FT:Nat->Nat->Prop}(ops:List aX)(z C:Value)(args:List Int)(fuel:Int)
  (t:qi w G z ops) (j: ∀E,G E->E<w.heap.size) (k:opsE ops=0) (p:gy w) (b:Rd w F C (args.map (Value.int .i64))) (i:args.length<=8) (h: ∀n∈args,-1099511627776<=n/\n<=1099511627776)
  (q:0<=fuel/\fuel<=10000) (x:bz w T most o l FT) (r: ∀I K,FT I K->I<w.heap.size) (f:df l) (g:fB w) (n:mH w):
  Calls prog 19 #[z,C,rv T,rm fuel] w (adT (DG most fuel (fun _=>true) ops args l) w):=by
 obtain⟨e,d⟩:=rj w (th 0 0 0);have a:=AD e d;have y:=B9 t j k p b i h q x r f g n;clear t j k p b i h q x r f g n e d;go_enter func19,ntmps19;go_upto_region 1 with fail;generalize w.alloc (th 0 0 0)=u at a⊢;obtain⟨W,d⟩:=rk (w.heap.size);have e:W<u.heap.size:=by have:=(cq.1 a.o.2).1;omega
 have s:=AD d e;clear e;rw[d];clear d;have L:=al (yF u T o most l FT (y.o.q.q.1.below a.o.1) (fun I K d=>da (y.o.q.q.2.1 I K d) a.o.1.size));go_wp2_with fail;refine L.o.m ?_;rintro D M ⟨B,rfl,J,v⟩;obtain⟨t,j,k,p,b,i,h,q,x,r,f,g,n⟩:=y.o;have u:=a.o.1.x (v.m a.o.1.size);obtain⟨m,A,H⟩:=KB.new J v (fun I K d=>da (r I K d) a.o.1.size) f (g.below a.o.1) (n.below a.o.1);have I:w.heap.size<=m:=dd a.o.1.size A;have K:=al (Ck ops z C args fuel (.pointer none) (fun _=>true) l (bI.m (bI.below t u) (fun E e D=>by have:=j E e;omega)) k (p.below u) (b.below u) i h q (.inl ⟨rfl,fun _=>rfl⟩) H);have d:=AI u v A I;clear t j k p b i h q x r f g n u H A I J v L y;go_wp2_with fail;refine K.o.m ?_;rintro D u ⟨X,rfl,f,q,t,p,A⟩;obtain⟨J,c,rfl,I,H⟩:=f.slice;obtain⟨y,h⟩:=rk (DG most fuel (fun _=>true) ops args l);rw[h]at f q t p⊢;obtain⟨n,r⟩:=rk (Vu y);rw[show(if y.2=0 then y.1.bD 0 else y.1.value)=n from r];obtain⟨x,k⟩:=rk (y.2);obtain⟨v,j⟩:=rk (y.1.steps);obtain⟨L,g⟩:=rk ((bC y.1.cl).length);rw[k,j,g];rw[g]at f;have b:=By f q t h r k j g;have i:=AD p A;clear f q t p A h r k j g K I H;go_wp2_with fail;obtain⟨j,k⟩:=rj u (tb n v J L c x);obtain⟨V,r⟩:=rk (u.heap.size);rw[r]at k⊢;generalize u.alloc (tb n v J L c x)=g at j k⊢;have p:=KB.ok.only _ _ _ _ _ (fun _ f=>f.elim) i.o.1 (qS j);have f:=qt j (i.o.2.heap (qt d.o.2.1 a.o.2) (fun D=>by have:=d.o.d.1;have:=s.o.2;have:=s.o.1;omega));rw[s.o.1]at f;have q:Below w.heap.size w g:=(d.o.1.x (i.o.2.aH d.o.1.size (fun E e D=>by have:=d.o.t;omega))).x (j.m (dd d.o.1.size i.o.2.size));have g:=AM f k (bI.below b.o.1 j) q (show m<V by have:=i.o.2.size;obtain⟨_,_,_,_,t,_⟩:=i.o.1;have:=t.map.lt;omega);clear j k r f q;refine(GN p).m ?_;rintro D r ⟨rfl,j⟩;have f:=j.heap g.o.1 (fun D=>by have:=d.o.d.1;have:=s.o.2;omega);have q:=j.heap g.o.2.1 (fun D=>by have:=g.o.q;omega);obtain⟨⟨I,A,t,S⟩,Q,R,O,P⟩:=cP f;obtain⟨⟨N,H,U,K⟩,-⟩:=cP q;have k:=AD f j;clear f q j p;go_wp2_with fail;have h:=iH (v0:=rm n) (v1:=rm v) (v2:=.slice J L c) (v3:=rm x) k.o.1;have f:=g.o.t.1.x (k.o.2.aH g.o.t.1.size (fun E e D=>by have:=d.o.t;omega));refine dj (ax rfl _ _ _ _ _ _ _ rfl h.1 underlying60 rfl (by kernel_rfl)) rfl ⟨.slice J L c,?_,?_,?_,?_,?_⟩
 ·rw[b.o.t.1,b.o.q.1,b.o.q.2.1,b.o.q.d.1];rfl
 ·rw[b.o.t.1];have j:=Sd g.o.d.1 g.o.1;exact bI.m (bI.only (bI.only j k.o.2 (fun E e=>e.1)) h.2 (fun E e=>e.2)) (fun _ _=>trivial)
 ·rw[b.o.t.1];exact b.o.2.1
 ·rw[b.o.t.1];exact b.o.d.1
 ·exact f.x (h.2.aH f.size (fun E e D=>by have:=s.o.1;omega))
end
end Go.Proofs.YtehccbdajiiaaaaGreatDoor
