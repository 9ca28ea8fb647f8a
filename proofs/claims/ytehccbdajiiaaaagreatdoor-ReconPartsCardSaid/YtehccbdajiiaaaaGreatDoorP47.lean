import Derived.Test.YtehccbdajiiaaaaGreatDoorP41
import Derived.Test.YtehccbdajiiaaaaGreatDoorP45
namespace Go.Proofs.YtehccbdajiiaaaaGreatDoor
open Go.Proofs.Tryz
set_option maxRecDepth 100000
set_option maxHeartbeats 16000000
open Go.RowKit
section
open Go.RowKit Go.Maps
theorem FN: ∀(N:Nat) (l:List Nat),l.Nodup->(∀x∈l,x<N)->l.length<=N
 |0,l,_,h=>by
  cases l with
  |nil=>exact b8 _
  |cons x l=>exact absurd (h x (by simp)) (by omega)
 |N+1,l,hn,h=>by
  have b:=FN N (l.erase N) (hn.erase N) (fun x a=>by
   have c:=h x (List.mem_of_mem_erase a);have d:x≠N:=fun e=>(by subst e;exact(hn.mem_erase_iff.1 a).1 rfl)
   omega)
  have a:l.length<=(l.erase N).length+1:=by rw[List.length_erase];split<;>omega
  omega
theorem Bw{wl:nS}(b:dK wl)(h: ∀q∈wl,∃v,aO v/\q.1=Lib.itoa v):wl.length<=2199023255553:=by
 have e:=FN 2199023255553 ((wl.map Prod.fst).map fun k=>(Mx k+1099511627776).toNat) (by
  unfold List.Nodup;rw[List.pairwise_map];refine List.Pairwise.imp_of_mem (fun{f c} d g a i=>a ?_) (gS b);obtain⟨p,c,rfl⟩:=eh.1 d;obtain⟨q,f,rfl⟩:=eh.1 g;obtain⟨v,a,d⟩:=h p c;obtain⟨u,b,g⟩:=h q f;rw[d,g]at i⊢;rw[pS a,pS b]at i;unfold aO at a b
  rw[show v=u by omega]) (fun x g=>by
  obtain⟨k,f,rfl⟩:=eh.1 g;obtain⟨p,c,rfl⟩:=eh.1 f;obtain⟨v,a,d⟩:=h p c;rw[d,pS a];unfold aO at a
  omega)
 simp only[eS]at e;omega
theorem FO{wl:nS}(a:dK wl)(h: ∀q∈wl,∃v,aO v/\q.1=Lib.itoa v):wl.length<=2305843009213693952:=dp (Bw a h) (by decide)
theorem I1{w:World}{c:String}{a:Nat}{v:Array Value}(d:prog.globalNamed c=some a)(h:w.var? prog c=some v):a<w.heap.size:=by
 unfold World.var? at h;rw[d]at h;simp only[Option.bind_some]at h;rcases Nat.lt_or_ge a w.heap.size with b|b
 ·exact b
 ·rw[Array.getElem?_eq_none b]at h;cases h
theorem FP{w w':World}{S:Nat->Prop}{a:String}{c:Nat}{v:Array Value}(b:prog.globalNamed a=some c)(h:w.var? prog a=some v)(f:Only S w w')(e: ¬S c):w'.var? prog a=some v:=by have d:=I1 b h;unfold World.var? at h⊢;rw[b]at h⊢;simp only[Option.bind_some]at h⊢;rw[f.block _ d e];exact h
def Uh(k:Nat):Prop:=k=3\/k=4
theorem mz.only{w w':World}{S:Nat->Prop}(i:mz w)(b:Only S w w')(a: ∀k,Uh k-> ¬S k):mz w':=by obtain⟨⟨d,h,c⟩,e,g,f⟩:=i;exact⟨⟨d,h,FP Tryz.Ue c b (a _ (.inl rfl))⟩,e,g,FP Tryz.Uf f b (a _ (.inr rfl))⟩
theorem mz.lt{w:World}(h:mz w): ∀k,Uh k->k<w.heap.size:=by
 obtain⟨⟨c,f,a⟩,d,e,b⟩:=h;rintro k (rfl|rfl)
 ·exact I1 Tryz.Ue a
 ·exact I1 Tryz.Uf b
def KB(B T o m:Nat)(most:Int)(FT:Nat->Nat->Prop)(l:az)(Z:Nat->Prop)(r:az)(w:World):Prop:=
 ∃a n g c,mP w B T most o l a FT m n g c/\aY a l=r/\dv r/\(r.length:Int)<=most/\(∀q∈a,∃v,aO v/\q.1=Lib.itoa v)/\fp w/\
  (¬Z B/\ ¬Z m/\ ¬Z 5/\(∀b,c b-> ¬Z b)/\ ∀b q,FT b q-> ¬Z b)/\(∀b q,FT b q->b<w.heap.size)/\mz w/\(∀k,Uh k-> ¬Z k)/\m≠5/\ ∀k,Uh k->k≠m
section
variable{B T o m:Nat}{most:Int}{FT:Nat->Nat->Prop}{l:az}
theorem KB.ok:tF (KB B T o m most FT l) where
 only:=by rintro Z r w J K i ⟨t,H,G,v,c,u,y,A,z,n,⟨j,s,h,d,g⟩,f,p,q,x⟩ D;exact⟨t,H,G,v,c.only D (fun e=>j (i _ e)) (fun e=>s (i _ e)) (fun E b e=>d E b (i _ e)) (fun E F b e=>g E F b (i _ e)),u,y,A,z,n.only D (fun e=>h (i _ e)),⟨j,s,h,d,g⟩,fun E F b=>da (f E F b) D.size,p.only D (fun C a e=>q C a (i _ e)),q,x⟩
 om:=by
  rintro Z r w E ⟨t,H,G,v,c,u,y,A,z,n,⟨j,s,h,d,g⟩,f,p,q,x⟩ b;refine⟨t,H,G,v,c,u,y,A,z,n,⟨fun e=>?_,fun e=>?_,fun e=>?_,fun C a e=>?_,fun C F a e=>?_⟩,f,p,fun C a e=>?_,x⟩
  ·rcases e with e|e
   ·exact j e
   ·have:=aP c.blk;omega
  ·rcases e with e|e
   ·exact s e
   ·have:=c.map.lt;omega
  ·rcases e with e|e
   ·exact h e
   ·have:=n.lt;omega
  ·rcases e with e|e
   ·exact d C a e
   ·have:=(c.bR C a).2.2.1;omega
  ·rcases e with e|e
   ·exact g C F a e
   ·have:=f C F a;omega
  ·rcases e with e|e
   ·exact q C a e
   ·have:=p.lt C a;omega
 back:=by rintro Z I r w k ⟨t,H,G,v,c,u,y,A,z,n,⟨j,s,h,d,g⟩,f,p,q,x⟩;exact⟨t,H,G,v,c,u,y,A,z,n,⟨fun e=>j (k _ e),fun e=>s (k _ e),fun e=>h (k _ e),fun E b e=>d E b (k _ e),fun E F b e=>g E F b (k _ e)⟩,f,p,fun C a e=>q C a (k _ e),x⟩
theorem KB.tab:TA (KB B T o m most FT l):=fun Z r w h=>by obtain⟨_,_,_,_,_,_,_,_,_,a,_⟩:=h;exact a
theorem KB.errs{Z:Nat->Prop}{r:az}{w:World}(h:KB B T o m most FT l Z r w):mz w:=by obtain⟨_,_,_,_,_,_,_,_,_,_,_,_,a,_⟩:=h;exact a
theorem KB.rows{Z:Nat->Prop}{r:az}{w:World}(h:KB B T o m most FT l Z r w):dv r:=by obtain⟨_,_,_,_,_,_,a,_⟩:=h;exact a
theorem QK{k:List UInt8}(h:dN k=0):1<=k.length/\k.length<=16:=by
 unfold dN at h;split at h
 ·cases h
 ·omega
theorem KB.get:E9 (r7 B) (KB B T o m most FT l) (fun r k=>ay k r):=by rintro Z r w k ⟨b,n,g,e,a,c,_⟩ d;have:=pM w B T o most l b FT _ k (QK d) a.at_;rw[jY a.up a.tab.up,c]at this;exact this
theorem KB.find{Z:Nat->Prop}{r:az}{w:World}(x:KB B T o m most FT l Z r w)(c n:Nat)(lo hi:Int)(i:c<4)(f:I6 lo)(g:I6 hi)(e:lo<=hi)(h:n<=1000):
  Calls prog 166 #[r7 B,rv (c:Int),rv lo,rv hi,rv (n:Int)] w (Bo ((cO c lo hi r).take n) w):=by
 obtain⟨j,s,y,p,a,b,q,v,t,u,k,d,_⟩:=x;have:=IM w B T o most l j FT _ c n lo hi a.at_ d i f g e h (by rw[b];have:=a.tab.J3;omega);rwa[b]at this
end
end
section
open Go.RowKit Go.Maps
section
variable{B T o m:Nat}{most:Int}{FT:Nat->Nat->Prop}{l:az}{Z:Nat->Prop}{r:az}{w:World}
theorem KB.QL(h:KB B T o m most FT l Z r w){k:List UInt8}(d:1<=k.length/\k.length<=16)(e:Int)(now:Rw)(x:Option Rw)(g:e=9/\x=some now\/e=10/\x=none):
  Calls prog 162 #[rv e,r7 B,sd k,now.val] w (Xd (ig k (ay k r) x) w):=by
 obtain⟨c,n,p,j,a,i,_⟩:=h;have b:=jY (k:=k) a.up a.tab.up;rw[i]at b
 cases hq:ay k r with
 |none=>
  rcases g with⟨rfl,rfl⟩|⟨rfl,rfl⟩
  ·exact jX w B T o most l c FT _ k d a.at_ false true Rw.zero now (fun _=>rfl) (b.x hq) 9 rfl
  ·exact jX w B T o most l c FT _ k d a.at_ false false Rw.zero now (fun _=>rfl) (b.x hq) 10 rfl
 |some f=>
  rcases g with⟨rfl,rfl⟩|⟨rfl,rfl⟩
  ·exact jX w B T o most l c FT _ k d a.at_ true true f now (fun h=>by cases h) (b.x hq) 9 rfl
  ·exact jX w B T o most l c FT _ k d a.at_ true false f now (fun h=>by cases h) (b.x hq) 10 rfl
theorem KB.to(N:KB B T o m most FT l Z r w){w':World}{wl c:nS}{n:Nat}{g:Value->Option Value}{e:Nat->Prop}(_M:mP w B T most o l wl FT m n g e)(i: ∀b q,FT b q-> ¬Z b/\b<w.heap.size)(K: ∀b,e b-> ¬Z b)
  (E: ∀L,Z L->L<w.heap.size) (x:J8 w w' B T o most l c FT m e) {d:az} (F:aY c l=d) (s:dv d) (p:(d.length:Int)<=most) (v: ∀q∈c,∃a,aO a/\q.1=Lib.itoa a):KB B T o m most FT l Z d w':=by
 obtain⟨_,_,_,_,_,_,_,_,_,I,⟨C,z,A,_,_⟩,_,J,y,j,h⟩:=N;obtain⟨u,H,t,D,G,f⟩:=x;refine⟨c,u,H,t,D,F,s,p,v,I.only f (fun a=>j a.symm),⟨C,z,A,fun b a k=>?_,fun b q a=>(i b q a).1⟩,fun b q a=>da (i b q a).2 f.size,J.only f (fun L q=>h L q),y,j,h⟩;rcases G b a with a|a
 ·exact K b a k
 ·have:=E b k;omega
def Ks(B T o m:Nat)(most:Int)(FT:Nat->Nat->Prop)(l:az)(Z:Nat->Prop)(r:az)(w:World)(k:List UInt8)(x:Rw)(e:Ending)(w':World):Prop:=
 if ay k r=none/\most<=(r.length:Int)then e=.returned (rv 16)/\Below w.heap.size w w' else e=.returned (rv 0)/\KB B T o m most FT l Z (cK (k,x) r) w'/\Only (fun j=>j=m) w w'
theorem KB.put(I:KB B T o m most FT l Z r w)(D: ∀H,Z H->H<w.heap.size){v:Int}(f:aO v){x:Rw}(k: ∀c,aO (x.aL c)):
  Calls prog 164 #[r7 B,.string ⟨(Lib.itoa v).toArray⟩,x.val] w (Ks B T o m most FT l Z r w (Lib.itoa v) x):=by
 have C:=I;obtain⟨t,U,S,y,b,u,i,E,j,Q,⟨O,M,N,q,s⟩,g,R,L,P,J⟩:=I;have h:=KT b.up b.tab.up (Lib.itoa v) x;refine(LZ w B T o m U most l t FT S y (Lib.itoa v) x (jy f) (fun c=>by have:=k c;unfold aO at this;unfold I6;omega) b g (FO b.up j)).m ?_;intro V K a;unfold rQ at a;unfold Ks;rw[u]at a h;split at a
 ·rename_i d;rw[fi d];exact a
 ·rename_i d;rw[ff d];have p:=a.2;refine⟨a.1,C.to b (fun G F n=>⟨s G F n,g G F n⟩) q D p h (i.ins ⟨⟨v,f,rfl⟩,k⟩) ?_ (fun F e=>?_),by obtain⟨_,_,_,_,_,z⟩:=p;exact z⟩
  ·rw[kE i.1]
   cases hk:ay (Lib.itoa v) r with
   |none=>have: ¬most<=(r.length:Int):=fun A=>d ⟨hk,A⟩;simp;omega
   |some W=>simpa using E
  ·rcases ia e with rfl|e
   ·exact⟨v,f,rfl⟩
   ·exact j F e
def VF(B T o m:Nat)(most:Int)(FT:Nat->Nat->Prop)(l:az)(Z:Nat->Prop)(r:az)(w:World)(k:List UInt8)(e:Ending)(w':World):Prop:=
 (∃n,e=.returned (rv n))/\KB B T o m most FT l Z (eU k r) w'/\Only (fun j=>j=m) w w'
theorem KB.del(C:KB B T o m most FT l Z r w)(z: ∀E,Z E->E<w.heap.size){v:Int}(g:aO v):
  Calls prog 165 #[r7 B,.string ⟨(Lib.itoa v).toArray⟩] w (VF B T o m most FT l Z r w (Lib.itoa v)):=by
 have h:=C;obtain⟨q,P,O,t,b,s,x,N,f,L,⟨J,H,I,k,p⟩,n,M,G,K,F⟩:=C;have e:=KU b.up b.tab.up (Lib.itoa v);refine(L1 w B T o m P most l q FT O t (Lib.itoa v) (jy g) b (FO b.up f)).m ?_;intro Q u a;unfold vF at a;unfold VF;rw[s]at a e;split at a
 ·rename_i d;rw[gU d];exact⟨⟨_,a.1⟩,KB.ok.only Z r w u (fun _=>False) (fun _ C=>C.elim) h (oS a.2 _),oS a.2 _⟩
 ·rename_i d;have j:=a.2;refine⟨⟨_,a.1⟩,h.to b (fun D A i=>⟨p D A i,n D A i⟩) k z j e x.del ?_ (fun A c=>?_),by obtain⟨_,_,_,_,_,y⟩:=j;exact y⟩
  ·cases hk:ay (Lib.itoa v) r with
   |none=>exact absurd hk d
   |some R=>have:=qX hk;omega
  ·rcases ia c with rfl|c
   ·exact⟨v,g,rfl⟩
   ·exact f A c
end
end
section
open Go.RowKit Go.Maps
theorem KB.new{w w':World}{B T o:Nat}{most:Int}{l:az}{FT:Nat->Nat->Prop}(h:iC w' B T most o l [] FT (fun f=>w.heap.size<=f))(b:Below w.heap.size w w')(j: ∀f q,FT f q->f<w.heap.size)(g:dv l)(e:fp w)(d:mz w):
  ∃m,w.heap.size<=m/\KB B T o m most FT l (fun _=>False) l w':=by
 obtain⟨m,s,r,i,c,n,k,p⟩:=h;refine⟨m,k,[],s,r,i,c,rfl,g,c.tab.len,fun q a=>by simp at a,e.below b,⟨fun h=>h,fun h=>h,fun h=>h,fun _ _ h=>h,fun _ _ _ h=>h⟩,fun f q a=>da (j f q a) b.size,d.below b,fun _ _ h=>h,fun q=>?_,fun f a q=>?_⟩
 ·have:=e.lt;omega
 ·have:=d.lt f a;omega
end
section
variable{c:RC}{K:(Nat->Prop)->az->World->Prop}{w:World}{s:PS az}
theorem yu(f:Nat->Int)(a:Nat)(u v:Int):og (og f a u) a v=og f a v:=by
 funext i
 unfold og;split<;>rfl
def abD(c:Nat):Option Rw->Int
 |some r=>eA (r.aL c)
 |none=>0
theorem QM(a:Cl->Bool)(x:aX)(s:PS az){s':PS az}{r:Option Rw}{n:Int}{b:Nat}(f:x.b=(b:Int))(h:rowP a (fun r k=>ay k r) b s=(s',r,n)):
  FI a x s=if n=0 then fP x s' (abD x.c.toNat r)else(s',n):=by
 unfold rowP at h;unfold FI fH;simp only[f,iv];obtain⟨j,e,i⟩: ∃u v,aV a s.cl [iB (s.bA b)]=(u,v):=⟨_,_,rfl⟩;rw[i]at h⊢;injection h with c h;injection h with g d;subst c g d;simp only;by_cases c:e=0
 ·subst c;simp only[if_true];cases ay (Lib.itoa (s.bA b)) s.rows<;>rfl
 ·simp[c]
theorem Ui(d:c.Fit)(h:tF K)(g:TA K)(e:E9 c.b K (fun r o=>ay o r))(v:MI c K w s)(x:aX)(a b cc:Nat)(z:a<8)(hb:b<8)(aa:cc<4)(k:x.a=(a:Int))(f:x.b=(b:Int))(j:x.c=(cc:Int)):
  Calls prog 107 #[r7 c.M,x.val] w (lO c K (FI c.ok x s) w):=by
 have H:=v.at_ d h x;have n:=al (fun i r S=>QM (s:=s) (s':=i) (r:=r) (n:=S) c.ok x f);obtain⟨dk,xa,xb,xc,Z⟩:=x;simp only at k f j H;subst k f j;unfold aX.val;simp only;have f:=AN d h g e;have i1:(0:Int)<=(a:Int):=by omega
 have i2:(a:Int)<8:=by omega
 have j1:(0:Int)<=(cc:Int):=by omega
 have j2:(cc:Int)<4:=by omega
 go_enter func107,ntmps107;go_upto_region 1 with fail;generalize w.alloc (sh dk (a:Int) (b:Int) (cc:Int) Z)=j at H⊢;obtain⟨O,l⟩:=rl (w.heap.size);rw[l]at H⊢;have m:=H.box;have o2:j.cell? ⟨O,2,none⟩=some (rv (b:Int)):=by simp[World.cell?,m]
 have j:=al (PU d h g e H.mi b hb);obtain⟨i,r,S,k⟩: ∃i r S,rowP c.ok (fun r o=>ay o r) b s=(i,r,S):=⟨_,_,_,rfl⟩;rw[k]at j;have P:=al (n.o _ _ _ k);have E:=al H;clear v m l k d h g e H n;go_wp2_with fail;refine j.o.m ?_;rintro e L ⟨rfl,g,d⟩;have p:=d.heap E.o.box (fun v=>E.o.off (f.o.1.sub _ v));obtain⟨⟨m,l,n,o⟩,k⟩: ∃q,r.getD .zero=q:=⟨_,rfl⟩;simp only[k,Rw.val];have q:=AN g d p k;clear g d p j k;go_upto_region 2 with fail;obtain⟨j,u⟩:=rk L (sg m l n o);generalize L.alloc (sg m l n o)=d at j u⊢;have H:=q.o.1.below f.o.1 f.o.2.1 j;have A:=qS j q.o.d.1;have I:Only c.W w d:=((oS E.o.Br c.W).x q.o.2.1 (fun _ _ v=>v)).x (oS j c.W) (fun _ _ v=>v);obtain⟨V,J⟩:=rl (L.heap.size);rw[J]at u⊢;have G: ¬V=c.M:=fun e=>by obtain⟨_,t,_⟩:=q.o.1;have:=t.lt;omega
 have N:=E.o.ne f.o.1;have g:=AN H I G N;by_cases C:S=0
 ·subst C;have y:=al (P.o.x (fi rfl));obtain⟨f3,p,_⟩:=H;have m3:=p.bA z;have mf:=p.free (18+a);have R:d.cell? ⟨O,1,none⟩=some (rv (a:Int)):=by simp[World.cell?,A]
  have F:d.cell? ⟨O,3,none⟩=some (rv (cc:Int)):=by simp[World.cell?,A]
  have D:d.cell? ⟨V,cc,none⟩=some (rv ((Rw.mk m l n o).aL cc)):=by rcases(show cc=0\/cc=1\/cc=2\/cc=3 by omega)with rfl|rfl|rfl|rfl<;>(unfold World.cell?;rw[u];rfl)
  have B:=AM R F D;clear p A I j u J G N F D;go_upto_region 4 with fail
  go_still_tail 6,(by kernel_rfl)
  change wpList _ _ _ _ _ d.drew;have M:=al ((g.o.1.drew f.o.1 f.o.2.1).jE f.o.1 f.o.2.1 z (v:=0) ⟨by decide,by decide⟩)
  cases r with
  |none=>
   go_wp2_with fail;go_ret
   rw[y.o];refine⟨rfl,?_,g.o.2.1.x ((lV d 1 c.M (18+a) _).uV f.o.1) (fun _ _ v=>v)⟩;unfold fP;exact M.o
  |some p=>
   have k:p=⟨m,l,n,o⟩:=q.o.t;subst k;simp only[oe];go_upto_region 6 with fail;have F:Only c.W w (d.setCell ⟨c.M,18+a,none⟩ (rv 0)).drew:=g.o.2.1.x ((lV d 1 c.M (18+a) _).uV f.o.1) (fun _ _ v=>v)
   have k: ∀p,((d.setCell ⟨c.M,18+a,none⟩ p).drew.cell? ⟨O,1,none⟩=some (rv (a:Int))/\(d.setCell ⟨c.M,18+a,none⟩ p).drew.cell? ⟨O,3,none⟩=some (rv (cc:Int))/\(d.setCell ⟨c.M,18+a,none⟩ p).drew.cell? ⟨V,cc,none⟩=some (rv ((Rw.mk m l n o).aL cc))):=fun p=>
    ⟨(lV d 1 c.M (18+a) p).cell B.o.1 g.o.t,(lV d 1 c.M (18+a) p).cell B.o.2.1 g.o.t,(lV d 1 c.M (18+a) p).cell B.o.d g.o.d.1⟩
   have k:=k (rv 0);have p:MI c K (d.setCell ⟨c.M,18+a,none⟩ (rv 0)).drew {i with bA:=og i.bA a 0}:=M.o;have T:(d.setCell ⟨c.M,18+a,none⟩ (rv 0)).drew.cell? ⟨c.M,18+a,none⟩=some (rv 0):=by obtain⟨_,t,_⟩:=p;have:=t.bA z;simpa[RC.ms,og]using this
   have X:(d.setCell ⟨c.M,18+a,none⟩ (rv 0)).drew.frozen? ⟨c.M,18+a,none⟩=false:=by obtain⟨_,t,_⟩:=p;exact t.free _
   generalize (d.setCell ⟨c.M,18+a,none⟩ (rv 0)).drew=U at F k p T X⊢;have Q:=AI p F;obtain⟨D,d⟩:=rl ((Rw.mk m l n o).aL cc);rw[d]at k;have mW:=al d;have Y:=al (fun W=>oX W D);clear p F M d R m3 mf B;refine pw (S:=(fun W=>W.cell? ⟨O,1,none⟩=some (rv (a:Int))/\W.cell? ⟨O,3,none⟩=some (rv (cc:Int))/\W.cell? ⟨V,cc,none⟩=some (rv D))) (by kernel_rfl) k (fun d=>?_);refine bq [0,1,2,3,4,5,6,8,9] ?_
   iterate 9 (refine ek (v:=?_) (fun _ ⟨B,F,M⟩=>?_) d ?_;rotate_left;(go_simp;try rfl);try simp only[xT])
   refine bt ?_;refine bC 7 (fun K h=>?_);go_simp;refine(Y.o _).m ?_;rintro e W ⟨rfl,rfl⟩
   try go_simp
   refine h.o _ _ (d) ?_;clear h K d;intro d
   try simp only[xT]
   refine ml 10 (v:=?_) (fun R p=>?_) d ?_;rotate_left
   ·obtain⟨B,F,M⟩:=p;go_simp;try rfl
   try simp only[xT]
   refine bC 11 (fun K h=>?_);go_simp;refine h.o _ _ (⟨(bg _ c.M (18+a) _).cell d.1 g.o.t,(bg _ c.M (18+a) _).cell d.2.1 g.o.t,(bg _ c.M (18+a) _).cell d.2.2 g.o.d.1⟩) ?_;clear h K d;intro d
   try simp only[xT]
   refine qe (by kernel_rfl) ?_ _;clear d k;go_wp2_with fail;go_ret
   rw[y.o,gJ];have d:=(Q.o.1.drew f.o.1 f.o.2.1).jE f.o.1 f.o.2.1 z (mV D);refine⟨rfl,?_,Q.o.2.x ((lV U 1 c.M (18+a) _).uV f.o.1) (fun _ _ v=>v)⟩;unfold fP abD;simp only[iv,mW.o];rw[<-yu i.bA a 0 (eA D)];exact d
 ·have d:(S==0)=false:=by simpa using C
  have y:=al (P.o.x (ff C));clear C H A I j u J G N;go_wp2_with fail;go_ret
  rw[y.o];exact⟨rfl,g.o.1,g.o.2.1⟩
end
section
variable{c:RC}{B T o m:Nat}{most:Int}{FT:Nat->Nat->Prop}{l:az}{w:World}{s:PS az}
def jM(c:Nat)(lo hi:Int):Cl:=⟨false,c,[],lo,hi⟩
theorem yw{c:Nat}{lo hi:Int}(e:c<4)(b:aO lo)(d:aO hi)(h:lo<=hi):Good [jM c lo hi]:=by intro x a;rw[fl]at a;subst a;unfold aO at b d;refine⟨?_,⟨by unfold jM kK;simp;omega,by unfold jM kK;simp;omega,by unfold jM kK;simp;omega,by unfold jM maxLen;simp⟩⟩;unfold Ok D9 jM;simp;omega
theorem aO.i6{v:Int}(h:aO v):I6 v:=by unfold aO at h;unfold I6;omega
theorem QN{lo n:Int}(h:aO lo)(a:0<=n):lo<=eA (lo+n):=by unfold aO at h;unfold eA;omega
theorem I2(a:Cl->Bool)(x:aX)(s:PS az){b cc:Nat}{lo hi n:Int}{cl':List Cl}(f:x.b=(b:Int))(e:x.c=(cc:Int))(d:s.bA b=lo)(c:hi=eA (s.bA b+x.n))(h:aV a s.cl [jM cc lo hi]=(cl',n)):
  rY a x s=if n=0 then fP x {s with cl:=cl'} ((min (cO cc lo hi s.rows).length 16:Nat):Int)else({s with cl:=cl'},n):=by
 subst d;subst c;unfold rY fH;simp only[f,e,iv];unfold jM at h;rw[h]
theorem MG(f:c.Fit)(q:c.b=r7 B)(G:MI c (KB B T o m most FT l) w s)(x:aX)(a b cc:Nat)(R:a<8)(N:b<8)(O:cc<4)(g:x.a=(a:Int))(h:x.b=(b:Int))(d:x.c=(cc:Int))(e:0<=x.n/\x.n<=1099511627776):
  Calls prog 111 #[r7 c.M,x.val] w (lO c (KB B T o m most FT l) (rY c.ok x s) w):=by
 have H:=G.at_ f KB.ok x;have n: ∀i,aO (s.bA i):=by obtain⟨_,_,_,_,_,_,_,h7⟩:=G;exact h7.1
 have p: ∀E,c.S E->E<w.heap.size:=by obtain⟨_,_,_,_,_,_,h6,_⟩:=G;exact h6
 obtain⟨Y,xa,xb,xc,k⟩:=x;simp only at g h d H e;subst g h d;unfold aX.val;simp only;have d:=AS f q p n e;have i1:(0:Int)<=(a:Int):=by omega
 have i2:(a:Int)<8:=by omega
 have j1:(0:Int)<=(b:Int):=by omega
 have j2:(b:Int)<8:=by omega
 go_enter func111,ntmps111;go_upto_region 1 with fail;generalize w.alloc (sh Y (a:Int) (b:Int) (cc:Int) k)=j at H⊢;obtain⟨Z,g⟩:=rl (w.heap.size);rw[g]at H⊢;have h:=H.box;have r:j.cell? ⟨Z,2,none⟩=some (rv (b:Int)):=by simp[World.cell?,h]
 have v:=H.bA N;have i:=al H;clear G h g f q p n e H
 go_region
 go_upto_region 2 with fail;have t:=al (aw j.heap.size j).drew;have g:=t.o;generalize j.drew=n at t g⊢;have h:=qS g i.o.box;have I:n.cell? ⟨Z,3,none⟩=some (rv (cc:Int)):=by simp[World.cell?,h]
 have C:n.cell? ⟨Z,4,none⟩=some (rv k):=by simp[World.cell?,h]
 obtain⟨f,e⟩:=rl (s.bA b);rw[e];have A:IntKind.i64.wrap (f+k)=f+k:=by rw[lP];have:=d.o.t.1 b;rw[e]at this;unfold aO at this;have:=d.o.q;omega
 obtain⟨V,U⟩:=rl (f+k);rw[U]at A;have u:=AI e U;have z:=al (fun W=>oX W V);clear r v g h e;go_wp2_with fail;refine(z.o _).m ?_;rintro e w' ⟨rfl,rfl⟩;obtain⟨g,r⟩:=rl (max (-1099511627776) (min V 1099511627776));rw[r];have h:g=eA (s.bA b+k):=by rw[<-r,<-u.o.2,<-u.o.1];rfl
 have p:aO f:=u.o.1▸d.o.t.1 b;have v:aO g:=by rw[h];exact mV _
 have y:f<=g:=by rw[h,u.o.1];exact QN p d.o.q.1
 have q:=AN p v y h;clear r h p v y z C A;obtain⟨p,h⟩:=rk n (sl false (cc:Int) (#[]) f g);have F:=AI p h;clear p h;go_wp2_with fail;have Q:=F.o;generalize n.alloc (sl false (cc:Int) (#[]) f g)=v at Q⊢;obtain⟨p,h⟩:=Q;obtain⟨X,D⟩:=rl (n.heap.size);rw[D]at h⊢;have r:Below j.heap.size j v:=t.o.x (p.m t.o.size);have A:Below w.heap.size w v:=i.o.Br.x (r.m i.o.Br.size);have j:=i.o.mi.below d.o.1 KB.ok r;have z:=ma (l:=[jM cc f g]) (F:=fun E=> ¬c.S E) h rfl (fun n=>by have v:=d.o.d.1 X n;have n:=i.o.Br.size;have j:=t.o.size;omega) (by simp[maxLen]);have E:=qS r i.o.box;have y:=al (mS d.o.1 KB.ok j [jM cc f g] _ z (by simp) (yw O q.o.1 q.o.2.1 q.o.d.1));obtain⟨aa,n,v⟩: ∃H C,aV c.ok s.cl [jM cc f g]=(H,C):=⟨_,_,rfl⟩;rw[v]at y;have C:=I2 (x:=⟨Y,a,b,cc,k⟩) c.ok s rfl rfl u.o.1 q.o.t v;have P:=AM A E i.o.off;clear F p h D r A j z E v;refine y.o.m ?_;rintro e p ⟨rfl,r,v⟩;have E:=i.o.ne d.o.1;have z:=v.heap P.o.2.1 E;have F:Only c.W w p:=(oS P.o.1 c.W).x (v.uV d.o.1) (fun _ _ G=>G);by_cases D:n=0
 ·subst D;have H:=al (C.x (fi rfl));have j:=AN r F z E;clear C y v F E;go_upto_region 6 with fail;have FZ:=r;obtain⟨f4,h,_⟩:=FZ;have J:p.cell? ⟨c.M,26,none⟩=some (r7 B)/\p.cell? ⟨Z,3,none⟩=some (rv (cc:Int)):=⟨by have:=h.b;simp only[RC.ms]at this;rw[d.o.2.1]at this;exact this,by simp[World.cell?,z]⟩;clear h r z I
  have HF:=al (show ∀W,Below p.heap.size p W->Calls prog 166 #[r7 B,rv (cc:Int),rv f,rv g,rv 16] W (Bo ((cO cc f g s.rows).take 16) W)from fun W N=>by
   have A:=j.o.1.below d.o.1 KB.ok N;obtain⟨_,_,_,_,_,h,_⟩:=A
   exact KB.find (Z:=c.Z) h cc 16 f g O q.o.1.i6 q.o.2.1.i6 q.o.d.1 (by omega))
  refine pw (S:=(fun W=>Below p.heap.size p W/\W.cell? ⟨c.M,26,none⟩=some (r7 B)/\W.cell? ⟨Z,3,none⟩=some (rv (cc:Int)))) (by kernel_rfl) ⟨(aw _ _).drew,J⟩ (fun h=>?_);refine bq [0,1,2,3,4,5,6,7] ?_
  iterate 8 (refine ek (v:=?_) (fun _ ⟨M,S,W⟩=>?_) h ?_;rotate_left;(go_simp;try rfl);try simp only[xT])
  refine bt ?_;refine bC 8 (fun K L=>?_);go_simp;refine(HF.o _ h.1).m ?_;rintro e wn ⟨A,cp,rfl,-,I⟩
  try go_simp
  refine L.o _ _ (sQ h I) ?_;clear L K h I;intro h
  try simp only[xT]
  refine bq [9,10,11,12,13] ?_
  iterate 5 (refine ek (v:=?_) (fun _ ⟨M,S,W⟩=>?_) h ?_;rotate_left;(go_simp;try rfl);try simp only[xT])
  refine bt ?_;refine qe (by kernel_rfl) ?_ _;have I:=al h.1;clear h J
  rename World=>w5
  have J:=j.o.1.below d.o.1 KB.ok I.o;have S:=qS I.o j.o.d.1;obtain⟨f5,M,-⟩:=id J;have r5:=M.bA R;have f5:=M.free (18+a);have o5:w5.cell? ⟨Z,1,none⟩=some (rv (a:Int)):=by simp[World.cell?,S]
  have H5:=al J;obtain⟨L,h⟩:=rl (min 16 (cO cc f g s.rows).length);rw[h];have W:=al h;clear M J S h;go_upto_region 7 with fail
  go_still_tail 8,(by kernel_rfl)
  change wpList _ _ _ _ _ w5.drew;go_wp2_with fail;go_ret
  rw[H.o];have J:aO (L:Int):=by have:=W.o;unfold aO;omega
  have h:=(H5.o.drew d.o.1 KB.ok).jE d.o.1 KB.ok R J;refine⟨rfl,?_,(j.o.2.1.x (oS I.o c.W) (fun _ _ G=>G)).x ((lV w5 1 c.M (18+a) _).uV d.o.1) (fun _ _ G=>G)⟩;unfold fP;rw[Nat.min_comm,W.o];exact h
 ·have h:(n==0)=false:=by simpa using D
  have H:=al (C.x (ff D));have j:=AI r F;clear D C y v F E r z;go_wp2_with fail;go_ret
  rw[H.o];exact⟨rfl,j.o.1,j.o.2⟩
end
section
variable{c:RC}{B T o m:Nat}{most:Int}{FT:Nat->Nat->Prop}{l:az}{w:World}{s:PS az}
def Yy:List (List UInt8)->Int
 |k::_=>Mx k
 |[]=> -1
theorem MH(a:Cl->Bool)(x:aX)(s:PS az){b cc:Nat}{v n:Int}{cl':List Cl}(e:x.b=(b:Int))(d:x.c=(cc:Int))(c:s.bA b=v)(h:aV a s.cl [jM cc v v]=(cl',n)):
  yn a x s=if n=0 then fP x {s with cl:=cl'} (Yy (cO cc v v s.rows))else({s with cl:=cl'},n):=by
 subst c;unfold yn fH;simp only[e,d,iv];unfold jM at h;rw[h];simp only;cases cO cc (s.bA b) (s.bA b) s.rows<;>rfl
theorem Uk{r:az}(h:dv r){cc:Nat}{v:Int}:aO (Yy (cO cc v v r)):=by
 cases hh:cO cc v v r with
 |nil=>exact⟨by decide,by decide⟩
 |cons k a=>exact h.num (by rw[hh];rfl)
theorem Ul{r:az}(h:dv r){cc:Nat}{v:Int}{k:List UInt8}{ks:List (List UInt8)}(c:cO cc v v r=k::ks):k.length<=1000:=by obtain⟨q,a,_⟩:=(kg h.1 h.fit).1 (show k∈cO cc v v r by rw[c];simp);obtain⟨⟨n,b,e⟩,_⟩:=h.2 _ a;simp only at e;rw[e];have:=(jy b).2;omega
theorem QO(d:c.Fit)(p:c.b=r7 B)(G:MI c (KB B T o m most FT l) w s)(x:aX)(a b cc:Nat)(U:a<8)(t:b<8)(ac:cc<4)(f:x.a=(a:Int))(h:x.b=(b:Int))(e:x.c=(cc:Int)):
  Calls prog 110 #[r7 c.M,x.val] w (lO c (KB B T o m most FT l) (yn c.ok x s) w):=by
 have g:=G.at_ d KB.ok x;have j: ∀i,aO (s.bA i):=by obtain⟨_,_,_,_,_,_,_,h7⟩:=G;exact h7.1
 have n: ∀H,c.S H->H<w.heap.size:=by obtain⟨_,_,_,_,_,_,u,_⟩:=G;exact u
 obtain⟨dk,xa,xb,xc,xn⟩:=x;simp only at f h e g;subst f h e;unfold aX.val;simp only;have f:=AN d p n j;have i1:(0:Int)<=(a:Int):=by omega
 have i2:(a:Int)<8:=by omega
 have j1:(0:Int)<=(b:Int):=by omega
 have j2:(b:Int)<8:=by omega
 go_enter func110,ntmps110;go_upto_region 1 with fail;generalize w.alloc (sh dk (a:Int) (b:Int) (cc:Int) xn)=e at g⊢;obtain⟨O,i⟩:=rl (w.heap.size);rw[i]at g⊢;have h:=g.box;have q:e.cell? ⟨O,2,none⟩=some (rv (b:Int)):=by simp[World.cell?,h]
 have r:=g.bA t;have k:=al g;clear G h i d p n j g
 go_region
 go_upto_region 2 with fail;have D:=al (aw e.heap.size e).drew;have g:=D.o;generalize e.drew=h at D g⊢;have i:=qS g k.o.box;have A:h.cell? ⟨O,3,none⟩=some (rv (cc:Int)):=by simp[World.cell?,i]
 obtain⟨v,d⟩:=rl (s.bA b);rw[d];have F:=al (show aO v/\s.bA b=v from⟨d▸f.o.t b,d⟩);clear q r g i d;obtain⟨g,d⟩:=rk h (sl false (cc:Int) (#[]) v v);have y:=AI g d;clear g d;go_wp2_with fail;have M5:=y.o;generalize h.alloc (sl false (cc:Int) (#[]) v v)=i at M5⊢;obtain⟨g,d⟩:=M5;obtain⟨X,q⟩:=rl (h.heap.size);rw[q]at d⊢;have h:Below e.heap.size e i:=D.o.x (g.m D.o.size);have p:Below w.heap.size w i:=k.o.Br.x (h.m k.o.Br.size);have i:=k.o.mi.below f.o.1 KB.ok h;have j:=ma (l:=[jM cc v v]) (F:=fun H=> ¬c.S H) d rfl (fun e=>by have n:=f.o.d.1 X e;have e:=k.o.Br.size;have i:=D.o.size;omega) (by simp[maxLen]);have r:=qS h k.o.box;have S:=al (mS f.o.1 KB.ok i [jM cc v v] _ j (by simp) (yw ac F.o.1 F.o.1 (eE _)));obtain⟨ap,n,e⟩: ∃C z,aV c.ok s.cl [jM cc v v]=(C,z):=⟨_,_,rfl⟩;rw[e]at S;have N:=MH (x:=⟨dk,a,b,cc,xn⟩) c.ok s rfl rfl F.o.2 e;have H3:=AM p r k.o.off;clear y g d q h p i j r e;refine S.o.m ?_;rintro e h ⟨rfl,C,I⟩;have Q:=k.o.ne f.o.1;have M:=I.heap H3.o.2.1 Q;have R:Only c.W w h:=(oS H3.o.1 c.W).x (I.uV f.o.1) (fun _ _ G=>G);by_cases P:n=0
 ·subst P;have J:=al (N.x (fi rfl));have j:=AN C R M Q;clear N S I R Q A;go_upto_region 5 with fail;obtain⟨r,y,-⟩:=id C;have A:h.cell? ⟨O,1,none⟩=some (rv (a:Int)):=by simp[World.cell?,M]
  have L:=y.bA U;have r:=y.free (18+a);clear y C M
  go_still_tail 6,(by kernel_rfl)
  change wpList _ _ _ _ _ h.drew;go_upto_region 6 with fail;have g:MI c (KB B T o m most FT l) (h.setCell ⟨c.M,18+a,none⟩ (rv (-1))).drew {s with cl:=ap,bA:=og s.bA a (-1)}:=(j.o.1.drew f.o.1 KB.ok).jE f.o.1 KB.ok U (v:= -1) ⟨by decide,by decide⟩;have i:Only c.W w (h.setCell ⟨c.M,18+a,none⟩ (rv (-1))).drew:=j.o.2.1.x ((lV h 1 c.M (18+a) _).uV f.o.1) (fun _ _ G=>G);have d:(h.setCell ⟨c.M,18+a,none⟩ (rv (-1))).drew.heap[O]?=_:=(lV h 1 c.M (18+a) (rv (-1))).heap j.o.d.1 j.o.t;generalize (h.setCell ⟨c.M,18+a,none⟩ (rv (-1))).drew=q at g i d⊢;obtain⟨f5,p,-⟩:=id g;have E:q.cell? ⟨c.M,26,none⟩=some (r7 B)/\q.cell? ⟨O,3,none⟩=some (rv (cc:Int)):=⟨by have:=p.b;simp only[RC.ms]at this;rw[f.o.2.1]at this;exact this,by simp[World.cell?,d]⟩;have z:=AM g i d;clear p g i d L r A
  have HF:=al (show ∀W,Below q.heap.size q W->Calls prog 166 #[r7 B,rv (cc:Int),rv v,rv v,rv 1] W (Bo ((cO cc v v s.rows).take 1) W)from fun W t=>by
   have d:=z.o.1.below f.o.1 KB.ok t;obtain⟨_,_,_,_,_,g,_⟩:=d
   exact KB.find (Z:=c.Z) g cc 1 v v ac F.o.1.i6 F.o.1.i6 (eE _) (by omega))
  refine pw (S:=(fun W=>Below q.heap.size q W/\W.cell? ⟨c.M,26,none⟩=some (r7 B)/\W.cell? ⟨O,3,none⟩=some (rv (cc:Int)))) (by kernel_rfl) ⟨(aw _ _).drew,E⟩ (fun d=>?_);refine bq [0,1,2,3,4,5,6,7] ?_
  iterate 8 (refine ek (v:=?_) (fun _ ⟨Z,s1,g⟩=>?_) d ?_;rotate_left;(go_simp;try rfl);try simp only[xT])
  refine bt ?_;refine bC 8 (fun K i=>?_);go_simp;refine(HF.o _ d.1).m ?_;rintro e wn ⟨A,cp,rfl,r,p⟩;have HO:=al r;clear r
  try go_simp
  refine i.o _ _ (sQ d p) ?_;clear i K d p;intro d
  try simp only[xT]
  refine bq [9,10,11,12,13] ?_
  iterate 5 (refine ek (v:=?_) (fun _ ⟨Z,s1,g⟩=>?_) d ?_;rotate_left;(go_simp;try rfl);try simp only[xT])
  refine bt ?_;refine qe (by kernel_rfl) ?_ _;have Lh:=al d.1;clear d E
  rename World=>w6
  have u:=z.o.1.below f.o.1 KB.ok Lh.o;have k6:=qS Lh.o z.o.d;have Dd:=z.o.2.1.x (oS Lh.o c.W) (fun _ _ G=>G);have o6:w6.cell? ⟨O,1,none⟩=some (rv (a:Int)):=by simp[World.cell?,k6]
  obtain⟨_,_,_,_,_,g,_⟩:=id u;have Y:=KB.rows g;have aa:=KB.tab _ _ _ g;have ad:=KB.errs g;clear g;have QP:=Uk Y (cc:=cc) (v:=v);simp only at QP;obtain⟨L,V⟩:=rl (cO cc v v s.rows);rw[V]at HO⊢;have VG:aO (Yy L):=by rw[<-V];exact QP
  have g:=BE u Dd k6 V VG aa ad;have am:=al Y;clear u Dd k6 Y aa ad QP VG V
  cases L with
  |nil=>
   go_wp2_with fail;go_ret
   rw[J.o,g.o.t.1];exact⟨rfl,g.o.1,g.o.2.1⟩
  |cons H u=>
   have jT:min 1 (H::u).length=1:=by simp
   rw[jT];have Y:=Ul am.o g.o.t.1;have r:=HO.o;obtain⟨u,rfl,y0⟩:=Qp (j:=0) (k:=H) r rfl;have V:=(r.lt u rfl).1;clear r;have r: ¬u=c.M:=fun e=>by have aa:q.heap.size<=u:=V;obtain⟨_,y,_⟩:=z.o.1;have:=y.lt;omega
   have E:w6.cell? ⟨O,1,none⟩=some (rv (a:Int))/\w6.cell? ⟨u,0,none⟩=some (sd H):=⟨o6,y0⟩;have HN:=al (show ∀W,Below w6.heap.size w6 W->Calls prog 167 #[sd H] W (abB (jc H) W)from fun W t=>C4 W H Y (g.o.q.2.1.below t) (g.o.q.d.below t));have HG:=al r;clear o6 y0 V jT Y r;go_upto_region 8 with fail;refine pw (S:=(fun W=>W.cell? ⟨O,1,none⟩=some (rv (a:Int))/\W.cell? ⟨u,0,none⟩=some (sd H))) (by kernel_rfl) E (fun d=>?_);refine bq [0,1,2,3,4,5,10,11] ?_
   iterate 8 (refine ek (v:=?_) (fun _ ⟨Z,s1⟩=>?_) d ?_;rotate_left;(go_simp;try rfl);try simp only[xT])
   refine bt ?_;refine bC 6 (fun K i=>?_);go_simp;refine(HN.o _ ((aw _ _).drew)).m ?_;rintro e wn ⟨rfl,p⟩;have q:=((aw w6.heap.size w6).drew).x (p.m (b8 _));have H:=g.o.1.below f.o.1 KB.ok q;obtain⟨_,r,-⟩:=id H;have Y:=r.bA U;have W:=r.free (18+a);have V:=AI H q;clear r H q
   try go_simp
   refine i.o _ _ (⟨(p.cell (aq _ _ d.1)).x d.1,(p.cell (aq _ _ d.2)).x d.2⟩) ?_;clear i K d p;intro d
   try simp only[xT]
   refine bq [7,8,9,12] ?_
   iterate 4 (refine ek (v:=?_) (fun _ ⟨Z,s1⟩=>?_) d ?_;rotate_left;(go_simp;try rfl);try simp only[xT])
   refine bt ?_;refine bC 13 (fun K i=>?_);go_simp;refine i.o _ _ (⟨(bg _ c.M (18+a) _).cell d.1 j.o.t,(bg _ c.M (18+a) _).cell d.2 HG.o⟩) ?_;clear i K d;intro d
   try simp only[xT]
   refine qe (by kernel_rfl) ?_ _;clear d E;go_wp2_with fail;go_ret
   rw[J.o,g.o.t.1];refine⟨rfl,?_,(g.o.2.1.x (oS V.o.2 c.W) (fun _ _ G=>G)).x ((bg wn c.M (18+a) _).uV f.o.1) (fun _ _ G=>G)⟩;have d:=V.o.1.jE f.o.1 KB.ok U g.o.q.1;simp only[yu]at d;exact d
 ·have d:(n==0)=false:=by simpa using P
  have J:=al (N.x (ff P));have j:=AI C R;clear P N S I R Q C M;go_wp2_with fail;go_ret
  rw[J.o];exact⟨rfl,j.o.1,j.o.2⟩
end
theorem QQ{w:World}{base n:Nat}{F:Nat->Prop}{v:Value}{l:List Cl}(m:w.ownsRow base 68 5 v n (M4 l))(a:l.length=n)(g: ∀k,base<=k->F k):cz w F v l:=by
 rcases m.2 with⟨rfl,t⟩|⟨k,q,r,rfl,f,o,d,e,y,z⟩
 ·have:l=[]:=de (by omega);subst this;subst a;exact bJ.nil 5 _ _
 ·refine⟨_,_,_,rfl,by simpa using a,d,e,fun _=>⟨k,0,rfl,g k f,fun i x b j A c=>?_⟩⟩;have u:i<n:=by have:=(bd.1 b).1;simpa[a]using this
  have p:=df l x (db b);have s:j<5:=by have:=(bd.1 c).1;omega
  have h:=jP (df l) i x b j A c;have b:=m.cellAt (i*5+j) (by omega);rw[gR,b];exact h
theorem pT{c:Nat}(i:c<4){old now:Option Rw}(e: ∀r,old=some r-> ∀c,aO (r.aL c))(d: ∀r,now=some r-> ∀c,aO (r.aL c)):Good (uG c old now):=by
 have b: ∀{v:Int},aO v->Good [(⟨true,c,[],v,v⟩:Cl)]:=fun{v} f x a=>by rw[fl]at a;subst a;unfold aO at f;refine⟨?_,⟨by unfold kK;simp;omega,by unfold kK;simp;omega,by unfold kK;simp;omega,by unfold maxLen;simp⟩⟩;unfold Ok D9;simp;omega
 intro x a;unfold uG at a;split at a
 ·rename_i g h;split at a
  ·simp at a
  ·simp only[List.mem_cons,List.not_mem_nil,or_false]at a;rcases a with rfl|rfl
   ·exact b (e g rfl c) _ (by simp)
   ·exact b (d h rfl c) _ (by simp)
 ·rename_i g;exact b (e g rfl c) _ a
 ·rename_i h;exact b (d h rfl c) _ a
 ·simp at a
theorem yx{n:Int}(h:aO n){old now:Option Rw}(d: ∀r,old=some r-> ∀c,aO (r.aL c))(b: ∀r,now=some r-> ∀c,aO (r.aL c)):Good (ig (Lib.itoa n) old now):=by
 have e: ∀{k:List UInt8},dN k=0->k.length<=16->Good [(⟨true,-1,k,0,0⟩:Cl)]:=fun{k} f g x a=>by rw[fl]at a;subst a;refine⟨?_,⟨by unfold kK;simp,by unfold kK;simp,by unfold kK;simp,by unfold maxLen;simp only;omega⟩⟩;unfold Ok D9;simp[f]
 intro x a;unfold ig at a;simp only[List.mem_cons,List.mem_append]at a;rcases a with rfl|a|a|a|a|a
 ·exact e (xQ h) (jy h).2 _ (by simp)
 ·split at a
  ·simp at a
  ·exact e (k:=[35]) (by decide) (by decide) _ a
 ·exact pT (by decide) d b x a
 ·exact pT (by decide) d b x a
 ·exact pT (by decide) d b x a
 ·exact pT (by decide) d b x a
theorem Bx(k:List UInt8)(old now:Option Rw):(ig k old now).length<=10:=by rw[<-wQ];exact qE k old now 4
section
variable{c:RC}{B T o m:Nat}{most:Int}{FT:Nat->Nat->Prop}{l:az}{w:World}{s:PS az}
theorem MI.rows{K:(Nat->Prop)->az->World->Prop}{w':World}(t:MI c K w s)(o:c.S m)(i:m≠c.M)(b:Only (fun j=>j=m) w w'){r:az}(a:K c.Z r w'):MI c K w' {s with rows:=r}:=by obtain⟨q,f,h,j,n,p,l,g⟩:=t;have d: ∀k,k=m->c.S k:=fun k e=>e▸o;exact⟨q,f.only b (fun e=>i e.symm),h.only b d,j.only b d,n.only b (fun k a e=>a (d k e)),a,fun k a=>da (l k a) b.size,g⟩
theorem QR(a:Cl->Bool)(x:aX)(s:PS az){b:Nat}{v n:Int}{cl':List Cl}(d:x.b=(b:Int))(c:s.bA b=v)(h:aV a s.cl (ig (Lib.itoa v) (ay (Lib.itoa v) s.rows) none)=(cl',n)):
  FK a x s=if n=0 then({s with cl:=cl',rows:=eU (Lib.itoa v) s.rows},0)else({s with cl:=cl'},n):=by
 subst c;unfold FK fH;simp only[d,iv];rw[h]
theorem Um(g:c.Fit)(L:c.b=r7 B)(D:c.S m)(q:c.W m)(n:m≠c.M)(z:MI c (KB B T o m most FT l) w s)(x:aX)(b:Nat)(R:b<8)(a:x.b=(b:Int)):
  Calls prog 109 #[r7 c.M,x.val] w (lO c (KB B T o m most FT l) (FK c.ok x s) w):=by
 have H:=z.at_ g KB.ok x;have i: ∀d,aO (s.bA d):=by obtain⟨_,_,_,_,_,_,_,Q⟩:=z;exact Q.1
 have G: ∀k,c.S k->k<w.heap.size:=by obtain⟨_,_,_,_,_,_,P,_⟩:=z;exact P
 have j:dv s.rows:=by obtain⟨_,_,_,_,_,d,_⟩:=z;exact KB.rows d
 obtain⟨M,E,xb,I,J⟩:=x;simp only at a H;subst a;unfold aX.val;simp only;have a:=BT g L G i j D q n;have Z:(0:Int)<=(b:Int):=by omega
 have X:(b:Int)<8:=by omega
 go_enter func109,ntmps109;go_upto_region 1 with fail;generalize w.alloc (sh M E (b:Int) I J)=e at H⊢;obtain⟨U,u⟩:=rl (w.heap.size);rw[u]at H⊢;have F:=H.box;obtain⟨C,f⟩:=rl (s.bA b);have v:e.cell? ⟨U,2,none⟩=some (rv (b:Int))/\e.cell? ⟨c.M,18+b,none⟩=some (rv C):=⟨by simp[World.cell?,F],f▸H.bA R⟩;have h:aO C:=f▸i b;have p:=al (show ∀W,Below e.heap.size e W->Calls prog 161 #[rv C] W fun A t=>A=.returned (.string ⟨(Lib.itoa C).toArray⟩)/\Below W.heap.size W t from fun W y=>CO W C h.i64 (by have t:=H.mi.below g KB.ok y;obtain⟨_,_,_,_,_,d,_⟩:=t;exact KB.tab _ _ _ d));have y:=al H;have t:=AI h f;clear z F u g L G i H j D q n h f;refine pw (S:=(fun W=>Below e.heap.size e W/\W.cell? ⟨U,2,none⟩=some (rv (b:Int))/\W.cell? ⟨c.M,18+b,none⟩=some (rv C))) (by kernel_rfl) ⟨(aw _ _).drew,v⟩ (fun e=>?_);refine bq [0,1,2,3,4,5,6] ?_
 iterate 7 (refine ek (v:=?_) (fun _ ⟨h,i,j⟩=>?_) e ?_;rotate_left;(go_simp;try rfl);try simp only[xT])
 refine bt ?_;refine bC 7 (fun K g=>?_);go_simp;refine(p.o _ e.1).m ?_;rintro A wn ⟨rfl,f⟩
 try go_simp
 refine g.o _ _ (sQ e f) ?_;clear g K e f;intro e
 try simp only[xT]
 refine ml 8 (v:=?_) (fun g f=>?_) e ?_;rotate_left
 ·obtain⟨h,i,j⟩:=f;go_simp;try rfl
 try simp only[xT]
 refine qe (by kernel_rfl) ?_ _;have F:=al e.1;clear e v
 rename World=>w2
 have n:=y.o.mi.below a.o.1 KB.ok F.o;have q:=y.o.Br.x (F.o.m y.o.Br.size);obtain⟨k,d⟩:=rl (Lib.itoa C);rw[d];have j:1<=k.length/\k.length<=16:=d▸jy t.o.1;obtain⟨f2,i,_,_,_,f,_⟩:=id n;have G:w2.cell? ⟨c.M,26,none⟩=some (r7 B):=by have:=i.b;simp only[RC.ms]at this;rw[a.o.2.1]at this;exact this
 have h:=al (KB.QL f j 10 ⟨0,0,0,0⟩ none (.inr ⟨rfl,rfl⟩));have g:=yx t.o.1 (old:=ay k s.rows) (now:=none) (fun r e c=>by have:=(aD a.o.q.1.1).1 e;exact(a.o.q.1.2 _ this).2 c) (fun r e=>by cases e);rw[d]at g;have e:=AN n q g d;clear n q g j i f d p;unfold Rw.val at h;go_wp2_with fail;refine h.o.m ?_;rintro A V ⟨Y,rfl,u,g⟩;have D:=e.o.1.below a.o.1 KB.ok g;have v:=QQ (F:=fun k=> ¬c.S k) u rfl (fun k d i=>by have j:=a.o.d.1 k i;have n:=e.o.2.1.size;omega);have i:=al (mS a.o.1 KB.ok D _ _ v (by have:=Bx k (ay k s.rows) none;omega) e.o.d.1);obtain⟨N,S,q⟩: ∃p j,aV c.ok s.cl (ig k (ay k s.rows) none)=(p,j):=⟨_,_,rfl⟩;rw[q]at i;have j:=QR (x:=⟨M,E,b,I,J⟩) (cl':=N) (n:=S) c.ok s rfl t.o.2 (by rw[e.o.t];exact q);rw[e.o.t]at j;have O:=al (e.o.2.1.x (g.m e.o.2.1.size));have p:=al j;clear D v q u g h G j;go_wp2_with fail;refine i.o.m ?_;rintro A H ⟨rfl,g,u⟩;have q:Only c.W w H:=(oS O.o c.W).x (u.uV a.o.1) (fun _ _ z=>z);by_cases j:S=0
 ·subst j;have v:=al (p.o.x (fi rfl));have h:=AI g q;obtain⟨f4,L,_,_,_,f,D,_⟩:=id g;have b4:H.cell? ⟨c.M,26,none⟩=some (r7 B):=by have:=L.b;simp only[RC.ms]at this;rw[a.o.2.1]at this;exact this
  have G:=al (KB.del f (fun k d=>D k (a.o.1.XB k d)) t.o.1);rw[e.o.t]at G;clear L f D g q u p i;go_wp2_with fail;refine G.o.m ?_;rintro A W ⟨⟨nn,rfl⟩,D,f⟩;have L:=AI (h.o.1.rows a.o.q.2.1 a.o.q.t f D) (h.o.2.x (f.m (fun k _ A=>A▸a.o.q.d.1)) (fun _ _ z=>z));clear D f;go_wp2_with fail;go_ret
  rw[v.o];exact⟨rfl,L.o.1,L.o.2⟩
 ·have f:(S==0)=false:=by simpa using j
  have v:=al (p.o.x (ff j));have h:=AI g q;clear j p i u q g;go_wp2_with fail;go_ret
  rw[v.o];exact⟨rfl,h.o.1,h.o.2⟩
end
theorem QV{W:World}{e c f d b:Addr}{v1 v2 v3 v4 v5:Value}(h:W.cell? e=some v1/\W.cell? c=some v2/\W.cell? f=some v3/\W.cell? d=some v4/\W.cell? b=some v5)(o:Obj):(W.alloc o).cell? e=some v1/\(W.alloc o).cell? c=some v2/\(W.alloc o).cell? f=some v3/\(W.alloc o).cell? d=some v4/\(W.alloc o).cell? b=some v5:=
 have a:=af W o
 ⟨(a.cell (aq _ _ h.1)).x h.1,(a.cell (aq _ _ h.2.1)).x h.2.1,(a.cell (aq _ _ h.2.2.1)).x h.2.2.1,(a.cell (aq _ _ h.2.2.2.1)).x h.2.2.2.1,(a.cell (aq _ _ h.2.2.2.2)).x h.2.2.2.2⟩
theorem YA{c W a:World}{i g f e d:Addr}{v1 v2 v3 v4 v5:Value}(h:Below c.heap.size c W/\W.cell? i=some v1/\W.cell? g=some v2/\W.cell? f=some v3/\W.cell? e=some v4/\W.cell? d=some v5)(b:Below W.heap.size W a):Below c.heap.size c a/\a.cell? i=some v1/\a.cell? g=some v2/\a.cell? f=some v3/\a.cell? e=some v4/\a.cell? d=some v5:=
 ⟨h.1.x (b.m h.1.size),(b.cell (aq _ _ h.2.1)).x h.2.1,(b.cell (aq _ _ h.2.2.1)).x h.2.2.1,(b.cell (aq _ _ h.2.2.2.1)).x h.2.2.2.1,(b.cell (aq _ _ h.2.2.2.2.1)).x h.2.2.2.2.1,(b.cell (aq _ _ h.2.2.2.2.2)).x h.2.2.2.2.2⟩
theorem QW(most:Int)(c:Cl->Bool)(x:aX)(s:PS az){a b:Nat}{v n:Int}{q:Rw}{cl':List Cl}(e:x.a=(a:Int))(g:x.b=(b:Int))(f:s.bA b=v)(d:ym s.bA a=q)(h:aV c s.cl (ig (Lib.itoa v) (ay (Lib.itoa v) s.rows) (some q))=(cl',n)):
  FJ most c x s=if n=0 then(if ay (Lib.itoa v) s.rows=none/\most<=(s.rows.length:Int)then({s with cl:=cl'},16)else({s with cl:=cl',rows:=cK (Lib.itoa v,q) s.rows},0))else({s with cl:=cl'},n):=by
 subst f;subst d;unfold FJ fH;simp only[e,g,iv];rw[h]
theorem Tryz.I3(w:World)(M a:Nat)(g:a<5):(Instr.sliceAt 149 (.pointer (some ⟨M,18,none⟩)) (some (rv (a:Int))) (some (rv ((a:Int)+4))) none).run prog w=.ok (.slice (some ⟨M,18+a,none⟩) 4 (8-a)) w:=by
 have b:prog.arrayLen 149=8:=by kernel_rfl
 have d: ∀W,(sizeOf (prog.elem 149)).run prog W=.ok 1 W:=fun W=>by kernel_rfl
 have h:=run_sliceAt_array_lh (P:=prog) w 149 ⟨M,18,none⟩ (by kernel_rfl) .i64 .i64 (a:Int) ((a:Int)+4) (by omega) (by omega) (by rw[b];omega);rw[h,d,b];have f:((a:Int)+4).toNat=a+4:=by omega
 have c:((a:Int)).toNat=a:=by omega
 simp only[Result.andThen,slicedAt,f,c,ff (show ¬8=a by omega)];have e:a+4-a=4:=by omega
 rw[e];simp[Addr.add]
theorem Tryz.Un(w:World)(a:Option Addr)(n:Nat):(Instr.arrayAt 109 (.slice a 4 n)).run prog w=.ok (.pointer a) w:=run_arrayAt w 109 3 4 a 4 n (by kernel_rfl) (b8 _)
section
variable{c:RC}{B T o m:Nat}{most:Int}{FT:Nat->Nat->Prop}{l:az}{w:World}{s:PS az}
theorem Uo(f:c.Fit)(C:c.b=r7 B)(p:c.S m)(v:c.W m)(k:m≠c.M)(G:MI c (KB B T o m most FT l) w s)(x:aX)(a b:Nat)(ha:a<5)(hb:b<8)(d:x.a=(a:Int))(e:x.b=(b:Int)):
  Calls prog 108 #[r7 c.M,x.val] w (lO c (KB B T o m most FT l) (FJ most c.ok x s) w):=by
 have H:=G.at_ f KB.ok x;have i: ∀g,aO (s.bA g):=by obtain⟨_,_,_,_,_,_,_,h7⟩:=G;exact h7.1
 have z: ∀u,c.S u->u<w.heap.size:=by obtain⟨_,_,_,_,_,_,h6,_⟩:=G;exact h6
 have n:dv s.rows:=by obtain⟨_,_,_,_,_,j,_⟩:=G;exact KB.rows j
 obtain⟨dk,xa,xb,xc,xn⟩:=x;simp only at d e H;subst d e;unfold aX.val;simp only;have g:=BT f C z i n p v k;have j1:(0:Int)<=(b:Int):=by omega
 have j2:(b:Int)<8:=by omega
 go_enter func108,ntmps108;go_upto_region 1 with fail;generalize w.alloc (sh dk (a:Int) (b:Int) xc xn)=d at H⊢;obtain⟨O,y⟩:=rl (w.heap.size);rw[y]at H⊢;have t:=H.box;obtain⟨Y,e⟩:=rl (s.bA b);have q:d.cell? ⟨O,2,none⟩=some (rv (b:Int))/\d.cell? ⟨c.M,18+b,none⟩=some (rv Y):=⟨by simp[World.cell?,t],e▸H.bA hb⟩;have h:aO Y:=e▸i b;have J:=al (show ∀W,Below d.heap.size d W->Calls prog 161 #[rv Y] W fun X A=>X=.returned (.string ⟨(Lib.itoa Y).toArray⟩)/\Below W.heap.size W A from fun W Q=>CO W Y h.i64 (by have A:=H.mi.below f KB.ok Q;obtain⟨_,_,_,_,_,j,_⟩:=A;exact KB.tab _ _ _ j));have N:=al H;have P:=AI h e;clear G t y f C z i H n p v k h e;refine pw (S:=(fun W=>Below d.heap.size d W/\W.cell? ⟨O,2,none⟩=some (rv (b:Int))/\W.cell? ⟨c.M,18+b,none⟩=some (rv Y))) (by kernel_rfl) ⟨(aw _ _).drew,q⟩ (fun d=>?_);refine bq [0,1,2,3,4,5,6] ?_
 iterate 7 (refine ek (v:=?_) (fun _ ⟨I,L,M⟩=>?_) d ?_;rotate_left;(go_simp;try rfl);try simp only[xT])
 refine bt ?_;refine bC 7 (fun K p=>?_);go_simp;refine(J.o _ d.1).m ?_;rintro X wn ⟨rfl,y⟩
 try go_simp
 refine p.o _ _ (sQ d y) ?_;clear p K d y;intro d
 try simp only[xT]
 refine ml 8 (v:=?_) (fun f e=>?_) d ?_;rotate_left
 ·obtain⟨I,L,M⟩:=e;go_simp;try rfl
 try simp only[xT]
 refine qe (by kernel_rfl) ?_ _;have U:=al d.1;clear d q
 rename World=>w2
 have C:=N.o.mi.below g.o.1 KB.ok U.o;have D:=qS U.o N.o.box;have H:=N.o.Br.x (U.o.m N.o.Br.size);obtain⟨u,j⟩:=rl (Lib.itoa Y);rw[j];obtain⟨f2,t,_⟩:=id C;obtain⟨f,z⟩:=rl (s.bA a);obtain⟨e,F⟩:=rl (s.bA (a+1));obtain⟨h,v⟩:=rl (s.bA (a+2));obtain⟨i,E⟩:=rl (s.bA (a+3));have n:ym s.bA a=⟨f,e,h,i⟩:=by unfold ym;rw[z,F,v,E]
 have q:w2.cell? ⟨O,1,none⟩=some (rv (a:Int))/\w2.cell? ⟨c.M,18+a,none⟩=some (rv f)/\w2.cell? ⟨c.M,18+a+1,none⟩=some (rv e)/\w2.cell? ⟨c.M,18+a+2,none⟩=some (rv h)/\w2.cell? ⟨c.M,18+a+3,none⟩=some (rv i):=
  ⟨by simp[World.cell?,D],z▸t.bA (show a<8 by omega),by have:=t.bA (show a+1<8 by omega);simp only[RC.ms]at this;rw[F]at this;exact this,by have:=t.bA (show a+2<8 by omega);simp only[RC.ms]at this;rw[v]at this;exact this,by have:=t.bA (show a+3<8 by omega);simp only[RC.ms]at this;rw[E]at this;exact this⟩
 have i1:(0:Int)<=(a:Int):=by omega
 have i2:(a:Int)<=4:=by omega
 have k:=AS C H j D n;clear C H t j J D n z F v E;have z:IntKind.i64.wrap ((a:Int)+4)=(a:Int)+4:=by rw[lP];omega
 have v:=fun W=>Tryz.I3 W c.M a ha;have t:=fun W C n=>Tryz.Un W C n;go_upto_region 2 with fail;refine pw (S:=(fun W=>W.cell? ⟨O,1,none⟩=some (rv (a:Int))/\W.cell? ⟨c.M,18+a,none⟩=some (rv f)/\W.cell? ⟨c.M,18+a+1,none⟩=some (rv e)/\W.cell? ⟨c.M,18+a+2,none⟩=some (rv h)/\W.cell? ⟨c.M,18+a+3,none⟩=some (rv i))) (by kernel_rfl) q (fun d=>?_);refine bq [0,1,2,3,4,5,6,7,8,9,10] ?_
 iterate 11 (refine ek (v:=?_) (fun _ ⟨I,L,M,s3,s4⟩=>?_) d ?_;rotate_left;(go_simp;try rfl);try simp only[xT])
 refine bt ?_;refine bC 11 (fun K p=>?_);go_simp;refine p.o _ _ (QV d _) ?_;clear p K d;intro d
 try simp only[xT]
 refine bC 12 (fun K p=>?_);go_simp;refine p.o _ _ (QV q _) ?_;clear p K d;intro d
 try simp only[xT]
 refine qe (by kernel_rfl) ?_ _;clear d q v t z;have H:=(af w2 (sg f e h i)).drew;have E:(w2.alloc (sg f e h i)).drew.heap[w2.heap.size]?=_:=an w2 (sg f e h i);generalize (w2.alloc (sg f e h i)).drew=t at H E⊢;obtain⟨V,hV⟩:=rl (w2.heap.size);rw[hV]at E⊢;go_upto_region 3 with fail;have J:=k.o.1.below g.o.1 KB.ok H;have gF:=k.o.2.1.x (H.m k.o.2.1.size);have Zh: ¬V=c.M:=fun X=>by obtain⟨_,hm,_⟩:=k.o.1;have:=hm.lt;omega
 obtain⟨f3,uN,_,_,_,R,_⟩:=id J;obtain⟨⟨D,F,C,z⟩,-⟩:=cX E;have q:t.cell? ⟨c.M,26,none⟩=some (r7 B)/\t.cell? ⟨V,0,none⟩=some (rv f)/\t.cell? ⟨V,1,none⟩=some (rv e)/\t.cell? ⟨V,2,none⟩=some (rv h)/\t.cell? ⟨V,3,none⟩=some (rv i):=⟨by have:=uN.b;simp only[RC.ms]at this;rw[g.o.2.1]at this;exact this,D,F,C,z⟩;have Z:1<=u.length/\u.length<=16:=k.o.d.1▸jy P.o.1;have S: ∀c,aO ((Rw.mk f e h i).aL c):=fun c=>by rw[<-k.o.q];exact My g.o.t.1 a c
 have FY:=al (show ∀W,Below t.heap.size t W->Calls prog 162 #[rv 9,r7 B,sd u,.agg #[rv f,rv e,rv h,rv i]] W (Xd (ig u (ay u s.rows) (some ⟨f,e,h,i⟩)) W)from fun W Q=>by
  have A:=J.below g.o.1 KB.ok Q;obtain⟨_,_,_,_,_,j,_⟩:=A
  exact KB.QL j Z 9 ⟨f,e,h,i⟩ (some ⟨f,e,h,i⟩) (.inl ⟨rfl,rfl⟩))
 have Q:=yx P.o.1 (old:=ay u s.rows) (now:=some ⟨f,e,h,i⟩) (fun r v c=>by have:=(aD g.o.q.1.1).1 v;exact(g.o.q.1.2 _ this).2 c) (fun r v c=>by injection v with v;subst v;exact S c);rw[k.o.d.1]at Q;have v:=By J gF Q E Zh S;clear H E hV J gF Zh uN R Z Q S D F C z;refine pw (S:=(fun W=>Below t.heap.size t W/\W.cell? ⟨c.M,26,none⟩=some (r7 B)/\W.cell? ⟨V,0,none⟩=some (rv f)/\W.cell? ⟨V,1,none⟩=some (rv e)/\W.cell? ⟨V,2,none⟩=some (rv h)/\W.cell? ⟨V,3,none⟩=some (rv i))) (by kernel_rfl) ⟨(aw _ _).drew,q⟩ (fun d=>?_);refine bq [0,1,2,3,4,5] ?_
 iterate 6 (refine ek (v:=?_) (fun _ ⟨I,L,M,s3,s4,E⟩=>?_) d ?_;rotate_left;(go_simp;try rfl);try simp only[xT])
 refine bt ?_;refine bC 6 (fun K p=>?_);go_simp;refine(FY.o _ d.1).m ?_;rintro X wn ⟨cv,rfl,t,y⟩;have HO:=al (dF (base':=w.heap.size) t (fun J H=>dp (dp v.o.2.1.size d.1.size) (t.lt J H).1));clear t
 try go_simp
 refine p.o _ _ (YA d y) ?_;clear p K d y;intro d
 try simp only[xT]
 refine bq [7,8,9,10,11] ?_
 iterate 5 (refine ek (v:=?_) (fun _ ⟨I,L,M,s3,s4,E⟩=>?_) d ?_;rotate_left;(go_simp;try rfl);try simp only[xT])
 refine bt ?_;refine qe (by kernel_rfl) ?_ _;have S:=al d.1;clear d q
 rename World=>w4
 have y:=v.o.1.below g.o.1 KB.ok S.o;have t:=QQ (F:=fun u=> ¬c.S u) HO.o rfl (fun u j d=>by have p:=g.o.d.1 u d;omega);have L:=al (mS g.o.1 KB.ok y _ _ t (by have:=Bx u (ay u s.rows) (some ⟨f,e,h,i⟩);omega) v.o.d.1);obtain⟨aa,n,p⟩: ∃E d,aV c.ok s.cl (ig u (ay u s.rows) (some ⟨f,e,h,i⟩))=(E,d):=⟨_,_,rfl⟩;rw[p]at L;have d:=QW (x:=⟨dk,a,b,xc,xn⟩) (cl':=aa) (n:=n) most c.ok s rfl rfl P.o.2 k.o.q (by rw[k.o.d.1];exact p);rw[k.o.d.1]at d;have J:=al d;have H4:=AI (v.o.2.1.x (S.o.m v.o.2.1.size)) (qS S.o v.o.t.1);clear y t p d FY;go_wp2_with fail;refine L.o.m ?_;rintro X d ⟨rfl,y,M⟩;have E:Only c.W w d:=(oS H4.o.1 c.W).x (M.uV g.o.1) (fun _ _ G=>G);by_cases I:n=0
 ·subst I;have H:=al (J.o.x (fi rfl));have W:=M.heap H4.o.2 v.o.q.1;have t:=AI y E;obtain⟨f5,Z,_,_,_,R,p,_⟩:=id y;obtain⟨⟨D,F,C,z⟩,-⟩:=cX W;have q:d.cell? ⟨c.M,26,none⟩=some (r7 B)/\d.cell? ⟨V,0,none⟩=some (rv f)/\d.cell? ⟨V,1,none⟩=some (rv e)/\d.cell? ⟨V,2,none⟩=some (rv h)/\d.cell? ⟨V,3,none⟩=some (rv i):=⟨by have:=Z.b;simp only[RC.ms]at this;rw[g.o.2.1]at this;exact this,D,F,C,z⟩
  have Q:=al (show Calls prog 164 #[r7 B,sd u,.agg #[rv f,rv e,rv h,rv i]] d.drew (Ks B T o m most FT l c.Z s.rows d.drew u ⟨f,e,h,i⟩)from by
   have A:=y.drew g.o.1 KB.ok;obtain⟨_,_,_,_,_,j,p,_⟩:=A;have:=KB.put j (fun u j=>p u (g.o.1.XB u j)) P.o.1 v.o.q.2;rw[k.o.d.1]at this
   exact this)
  clear Z R p y E M J L W D F C z;go_upto_region 9 with fail
  go_still_tail 6,(by kernel_rfl)
  change wpList _ _ _ _ _ d.drew;go_wp2_with fail;refine Q.o.m ?_;intro X F A;unfold Ks at A;by_cases z:ay u s.rows=none/\most<=(s.rows.length:Int)
  ·rw[fi z]at A;obtain⟨rfl,C⟩:=A;have p:=AI z C;clear z C Q;go_wp2_with fail;go_ret
   rw[H.o,fi p.o.1];exact⟨rfl,(t.o.1.drew g.o.1 KB.ok).below g.o.1 KB.ok p.o.2,t.o.2.x (oS ((aw _ _).drew.x (p.o.2.m (b8 _))) c.W) (fun _ _ G=>G)⟩
  ·rw[ff z]at A;obtain⟨rfl,C,D⟩:=A;have p:=AM z C D;clear z C D Q;go_wp2_with fail;go_ret
   rw[H.o,ff p.o.1];refine⟨rfl,(t.o.1.drew g.o.1 KB.ok).rows g.o.q.2.1 g.o.q.t p.o.d p.o.2.1,?_⟩;exact(t.o.2.x (oS ((aw d.heap.size d).drew) c.W) (fun _ _ G=>G)).x (p.o.d.m (fun u _ X=>X▸g.o.q.d.1)) (fun _ _ G=>G)
 ·have p:(n==0)=false:=by simpa using I
  have H:=al (J.o.x (ff I));have t:=AI y E;clear I J L M E y;go_wp2_with fail;go_ret
  rw[H.o];exact⟨rfl,t.o.1,t.o.2⟩
end
section
variable{c:RC}{B T o m:Nat}{most:Int}{FT:Nat->Nat->Prop}{l:az}
theorem vI{x:aX}(d:eZ x=true){i:Nat}(hi:i<4)(a:oF x.d i=true)(b:D5 x.d i=0){n:Nat}(c:BX x.d i=(n:Int)):(x.tP i).toNat<=n/\x.tP i=((x.tP i).toNat:Int):=by have:=ko d hi a;rw[b,c]at this;omega
theorem Uq(d:c.Fit)(n:c.b=r7 B)(v:c.S m)(y:c.W m)(u:m≠c.M)(x:aX)(j:eZ x=true)(H:1<=x.d/\x.d<=15)(I:x.d≠14){w:World}{s:PS az}(E:s.pc<=100)(k:MI c (KB B T o m most FT l) w s):
  Calls prog (CN x.d.toNat) #[r7 c.M,x.val] w (lO c (KB B T o m most FT l) (rZ most c.ok x s) w):=by
 have i:=KB.ok (B:=B) (T:=T) (o:=o) (m:=m) (most:=most) (FT:=FT) (l:=l);have G:0<=s.pc:=by obtain⟨_,_,_,_,_,_,_,C⟩:=k;exact C.2.2.1
 have t:E9 c.b (KB B T o m most FT l) (fun r a=>ay a r):=by rw[n];exact KB.get
 have f:=fun(e:oF x.d 0=true) (h:Nat) (b:BX x.d 0=(h:Int))=>vI j (i:=0) (by decide) e (by unfold D5;simp) b;have g:=fun(e:oF x.d 1=true) (h:Nat) (b:BX x.d 1=(h:Int))=>vI j (i:=1) (by decide) e (by unfold D5;simp) b;have q:=fun(e:oF x.d 2=true) (a:x.d≠1) (h:Nat) (b:BX x.d 2=(h:Int))=>vI j (i:=2) (by decide) e (by unfold D5;simp[a]) b;have A:=fun(e:oF x.d 3=true) (h:Nat) (b:BX x.d 3=(h:Int))=>vI j (i:=3) (by decide) e (by unfold D5;simp) b;simp only[aX.tP]at f g q A;obtain⟨D,F⟩: ∃D:Nat,x.d=(D:Int):=⟨x.d.toNat,by omega⟩;have z:x.d=1\/x.d=2\/x.d=3\/x.d=4\/x.d=5\/x.d=6\/x.d=7\/x.d=8\/x.d=9\/x.d=10\/x.d=11\/x.d=12\/x.d=13\/x.d=15:=by omega
 unfold rZ;rcases z with e|e|e|e|e|e|e|e|e|e|e|e|e|e
 ·have a:=f (by rw[e];rfl) 7 (by rw[e];rfl);have h:=ko j (i:=2) (by decide) (by rw[e];rfl);rw[e]at h;rw[e];exact TB d i k x x.a.toNat (by simp at a;omega) (by simp at a;omega) h
 ·have a:=f (by rw[e];rfl) 7 (by rw[e];rfl);have b:=g (by rw[e];rfl) 7 (by rw[e];rfl);rw[e];exact Qy d i k x x.a.toNat x.b.toNat (by simp at a;omega) (by simp at b;omega) (by simp at a;omega) (by simp at b;omega)
 ·have a:=f (by rw[e];rfl) 7 (by rw[e];rfl);have b:=g (by rw[e];rfl) 7 (by rw[e];rfl);rw[e];exact T9 d i k x x.a.toNat x.b.toNat (by simp at a;omega) (by simp at b;omega) (by simp at a;omega) (by simp at b;omega)
 ·have a:=f (by rw[e];rfl) 7 (by rw[e];rfl);have b:=g (by rw[e];rfl) 7 (by rw[e];rfl);rw[e];exact Ub d i k x x.a.toNat x.b.toNat (by simp at a;omega) (by simp at b;omega) (by simp at a;omega) (by simp at b;omega)
 ·have a:=f (by rw[e];rfl) 7 (by rw[e];rfl);have b:=g (by rw[e];rfl) 7 (by rw[e];rfl);rw[e];exact Ua d i k x x.a.toNat x.b.toNat (by simp at a;omega) (by simp at b;omega) (by simp at a;omega) (by simp at b;omega)
 ·have a:=f (by rw[e];rfl) 7 (by rw[e];rfl);have b:=g (by rw[e];rfl) 7 (by rw[e];rfl);rw[e];exact QB d i k x x.a.toNat x.b.toNat (by simp at a;omega) (by simp at b;omega) (by simp at a;omega) (by simp at b;omega)
 ·have a:=f (by rw[e];rfl) 7 (by rw[e];rfl);have b:=g (by rw[e];rfl) 7 (by rw[e];rfl);rw[e];exact TC d i KB.tab t k x x.a.toNat x.b.toNat (by simp at a;omega) (by simp at b;omega) (by simp at a;omega) (by simp at b;omega)
 ·have a:=f (by rw[e];rfl) 7 (by rw[e];rfl);have b:=g (by rw[e];rfl) 7 (by rw[e];rfl);have h:=q (by rw[e];rfl) (by rw[e];decide) 3 (by rw[e];rfl);rw[e];exact Ui d i KB.tab t k x x.a.toNat x.b.toNat x.c.toNat (by simp at a;omega) (by simp at b;omega) (by simp at h;omega) (by simp at a;omega) (by simp at b;omega) (by simp at h;omega)
 ·have a:=f (by rw[e];rfl) 4 (by rw[e];rfl);have b:=g (by rw[e];rfl) 7 (by rw[e];rfl);rw[e];exact Uo d n v y u k x x.a.toNat x.b.toNat (by simp at a;omega) (by simp at b;omega) (by simp at a;omega) (by simp at b;omega)
 ·have b:=g (by rw[e];rfl) 7 (by rw[e];rfl);rw[e];exact Um d n v y u k x x.b.toNat (by simp at b;omega) (by simp at b;omega)
 ·have a:=f (by rw[e];rfl) 7 (by rw[e];rfl);have b:=g (by rw[e];rfl) 7 (by rw[e];rfl);have h:=q (by rw[e];rfl) (by rw[e];decide) 3 (by rw[e];rfl);rw[e];exact QO d n k x x.a.toNat x.b.toNat x.c.toNat (by simp at a;omega) (by simp at b;omega) (by simp at h;omega) (by simp at a;omega) (by simp at b;omega) (by simp at h;omega)
 ·have a:=f (by rw[e];rfl) 7 (by rw[e];rfl);have b:=g (by rw[e];rfl) 7 (by rw[e];rfl);have h:=q (by rw[e];rfl) (by rw[e];decide) 3 (by rw[e];rfl);have p:=ko j (i:=3) (by decide) (by rw[e];rfl);rw[e]at p;rw[e];exact MG d n k x x.a.toNat x.b.toNat x.c.toNat (by simp at a;omega) (by simp at b;omega) (by simp at h;omega) (by simp at a;omega) (by simp at b;omega) (by simp at h;omega) p
 ·have a:=f (by rw[e];rfl) 7 (by rw[e];rfl);have p:=ko j (i:=3) (by decide) (by rw[e];rfl);rw[e]at p;have b:0<=x.n/\x.n<=64:=p;rw[e];exact QC d i k x x.a.toNat (by simp at a;omega) (by simp at a;omega) ⟨b.1,by omega⟩
 ·have a:=f (by rw[e];rfl) 7 (by rw[e];rfl);rw[e];exact MA d i k x x.a.toNat (by simp at a;omega) (by simp at a;omega)
theorem Ur(most:Int)(a:Cl->Bool)(x:aX)(s:PS az)(b:x.d=13->0<=x.n):s.pc<=(rZ most a x s).1.pc:=by
 by_cases h:x.d.toNat=13
 ·have e:(rZ most a x s).1.pc=if s.bA x.a.toNat=0 then s.pc+x.n else s.pc:=by
   unfold rZ;rw[h];rfl
  have:=b (by omega);rw[e];split<;>omega
 ·rw[Ud most a x s h];exact eE _
theorem Kt(g:c.Fit)(u:c.b=r7 B)(t:c.S m)(y:c.W m)(q:m≠c.M)(f:opsE c.ops=0): ∀(d fr tt:Nat),IY c.ops fr tt->tt<=c.ops.length->tt-fr<=d->xY c (KB B T o m most FT l) (uQ most c.fuel c.ok c.ops d) fr tt
 |0,fr,tt,_,_,hd,i,x,h1,h2,hx=>by omega
 |d+1,fr,tt,hcl,ht,hd,i,x,h1,h2,hx=>by
  obtain⟨F,z,A,-⟩:=Bt f;have e:=Kq f;have k:=db hx;have v:=A x k;have p:=QF (z x k);refine⟨p,fun s r=>?_⟩;by_cases a:x.d=14
  ·have j:=IZ a;have G:=hcl i x h1 h2 hx j;have H:=(e i x hx j).1
   have h: ∀s,uQ most c.fuel c.ok c.ops (d+1) x s=mr c.fuel c.ops (uQ most c.fuel c.ok c.ops d) x s:=fun s=>by rw[uQ];simp only;rw[fi a]
   have n:=ko v (i:=2) (by decide) (by rw[a];rfl);rw[a]at n;have I:0<=x.c/\x.c<=16:=n;rw[h];refine⟨fun w D=>?_,fun b=>?_⟩
   ·rw[show CN x.d.toNat=CN 14 by rw[a];rfl];exact QE g KB.ok D x (i+1) x.n.toNat x.c.toNat (by rw[r];push_cast;rfl) (by omega) (by omega) (by omega) (by omega) (Kt g u t y q f d (i+1) (i+1+x.n.toNat) (e.body hx j) (by omega) (by omega))
   ·unfold mr at b⊢;simp only at b⊢;split at b
    ·rename_i E;rw[fi E];show s.pc<=s.pc+x.n;omega
    ·rename_i E;exact absurd b E
  ·have h: ∀s,uQ most c.fuel c.ok c.ops (d+1) x s=rZ most c.ok x s:=fun s=>by
    rw[uQ];simp only;rw[ff a]
   rw[h];refine⟨fun w D=>Uq g u t y q x v p a (by rw[r];omega) D,fun _=>Ur most c.ok x s fun C=>(e i x hx (I0 C)).1⟩
theorem yz{w:World}{F T:Nat->Prop}{T':Nat}(ops:List aX)(b e:Value)(args:List Int)(fuel:Int)(d:Value)(a:Cl->Bool)(h:az)
  (u:nV w (fun k=> ¬T k) b ops) (f:opsE ops=0) (s:fK w) (p:Rd w F e (args.map (Value.int .i64))) (q:args.length<=8) (r: ∀n∈args,-1099511627776<=n/\n<=1099511627776)
  (A:0<=fuel/\fuel<=10000) (y:uo w T d a) (j: ∀k,T k->k<w.heap.size) (n:T m) (z:KB B T' o m most FT l (fun _=>False) h w):
  Calls prog 36 #[b,e,r7 B,rv fuel,d] w (Ym (KB B T' o m most FT l) T (fun k=>k=m) (r9 most fuel a ops args h) w):=by
 refine T5 (act:=uQ most fuel a ops ops.length) w ops b e args B fuel d a h u f s p q r A y z KB.ok j (fun k g=>by subst g;exact n) (fun c g k t v _ x C i _=>?_);subst k;subst v;subst x;exact Kt g t (g.sub _ (i m rfl)) (i m rfl) (fun i=>by have:=g.low;have:=j m n;omega) f c.ops.length 0 c.ops.length (Kq f).whole (b8 _) (by omega)
theorem MJ{w:World}{F:Nat->Prop}(ops:List aX)(a d:Value)(args:List Int)(fuel:Int)(b:Value)(c:Cl->Bool)(e:az)
  (q:nV w (fun k=> ¬k=m) a ops) (n:opsE ops=0) (p:fK w) (g:Rd w F d (args.map (Value.int .i64))) (h:args.length<=8) (i: ∀f∈args,-1099511627776<=f/\f<=1099511627776)
  (s:0<=fuel/\fuel<=10000) (r:uo w (fun k=>k=m) b c) (f:KB B T o m most FT l (fun _=>False) e w):
  Calls prog 36 #[a,d,r7 B,rv fuel,b] w (adi (KB B T o m most FT l) (fun k=>k=m) (r9 most fuel c ops args e) w):=
 yz (T':=T) ops a d args fuel b c e q n p g h i s r (fun k j=>by obtain⟨_,_,_,_,j,_⟩:=f;have:=j.map.lt;omega) rfl f
end
section
open Go.RowKit Go.Maps
theorem QX{w:World}{F:Nat->Prop}{v:Value}{l:List Cl}{h:Nat}{a b d:Int}{A:Option Addr}{n c:Nat}{t:TypeId}(C:cz w F v l)(k:w.heap[h]?=some (.cells #[rv a,rv b,.slice A n c,rv d] t (0,0))):cz w (fun e=>F e/\e≠h) v l:=by
 obtain⟨u,q,m,i,f,p,z,r⟩:=C;refine⟨u,q,m,i,f,p,z,fun e=>?_⟩;obtain⟨y,o,j,x,g⟩:=r e;refine⟨y,o,j,⟨x,fun e=>?_⟩,g⟩;subst e;obtain⟨B,s⟩: ∃B,l[0]?=some B:=⟨_,ao (by simp at f;omega)⟩;have e:=g 0 B.cells (by simp[s]) 0 (.bool B.wr) rfl;rw[World.cell?,k]at e
 match o with
 |0=>simp at e
 |1=>simp at e
 |2=>simp at e
 |3=>simp at e
 |o+4=>simp at e
end
section
open Go.RowKit Go.Maps
def MK(p:PS az×Int):Int:=if p.2=0 then p.1.bA 0 else p.1.value
def ads(p:PS az×Int)(w:World)(e:Ending)(w':World):Prop:=
 ∃f,e=.returned (.tuple #[.agg #[rv (MK p),rv p.1.steps,f,rv p.2],rv 0])/\cz w' (fun _=>True) f (aW p.1.cl)/\(aW p.1.cl).length<=64/\Good p.1.cl/\Below w.heap.size w w'
def adt(V:Nat->Prop)(p:PS az×Int)(w:World)(e:Ending)(w':World):Prop:=
 ∃f,e=.returned (.tuple #[.agg #[rv (MK p),rv p.1.steps,f,rv p.2],rv 0])/\cz w' (fun k=> ¬V k) f (aW p.1.cl)/\(aW p.1.cl).length<=64/\Good p.1.cl/\Below w.heap.size w w'
theorem FQ{w:World}{B T o m:Nat}{most:Int}{FT:Nat->Nat->Prop}{l r:az}{Z:Nat->Prop}(j:KB B T o m most FT l Z r w):Calls prog 44 #[r7 B] w fun e a=>e=.returned (.tuple #[])/\Only (fun k=>k=m) w a:=by
 obtain⟨f,n,k,g,a,-⟩:=j;have h:w.cell? ⟨B,1,none⟩=some (.map (some m)):=by simp[World.cell?,a.blk]
 obtain⟨i,e,d,b⟩:=a.map.clear underlying138 0;have c:=al b;clear a d b;go_enter func44,ntmps44;go_wp2_with fail;exact et (du rfl _ _ _) rfl ⟨rfl,c.o⟩
theorem uB{w:World}{F G V:Nat->Prop}{T o:Nat}{most:Int}{l:az}{FT:Nat->Nat->Prop}(ops:List aX)(D I:Value)(args:List Int)(fuel:Int)
  (y:nV w G D ops) (q: ∀k,G k->k<w.heap.size) (t:opsE ops=0) (u:fK w) (g:Rd w F I (args.map (Value.int .i64))) (h:args.length<=8) (i: ∀n∈args,-1099511627776<=n/\n<=1099511627776)
  (x:0<=fuel/\fuel<=10000) (A:bK w T most o l FT) (s: ∀H K,FT H K->H<w.heap.size) (p:dv l) (j:fp w) (r:mz w) (d: ∀k,V k->k<w.heap.size/\ ¬G k):
  Calls prog 19 #[D,I,r7 T,rv fuel] w (adt V (r9 most fuel (fun _=>true) ops args l) w):=by
 obtain⟨e,a⟩:=rk w (th 0 0 0);have b:=AI e a;have C:=DE y q t u g h i x A s p j r d;clear y q t u g h i x A s p j r d e a;go_enter func19,ntmps19;go_upto_region 1 with fail;generalize w.alloc (th 0 0 0)=f at b⊢;obtain⟨X,a⟩:=rl (w.heap.size);have e:X<f.heap.size:=by have:=(cq.1 b.o.2).1;omega
 have v:=AI a e;clear e;rw[a];clear a;have N:=al (xS f T o most l FT (C.o.q.q.1.below b.o.1) (fun H K a=>da (C.o.q.q.2.1 H K a) b.o.1.size));go_wp2_with fail;refine N.o.m ?_;rintro n P ⟨B,rfl,L,z⟩;obtain⟨y,q,t,u,g,h,i,x,A,s,p,j,r,d⟩:=C.o;have f:=b.o.1.x (z.m b.o.1.size);obtain⟨m,J,E⟩:=KB.new L z (fun H K a=>da (s H K a) b.o.1.size) p (j.below b.o.1) (r.below b.o.1);have K:w.heap.size<=m:=dp b.o.1.size J;have M:=al (yz (T:=fun k=>V k\/k=m) ops D I args fuel (.pointer none) (fun _=>true) l (bJ.m (bJ.below y f) (fun k a n=>by have:=q k a;rcases n with n|n;exact(d k n).2 a;omega)) t (u.below f) (g.below f) h i x (.inl ⟨rfl,fun _=>rfl⟩) (fun k a=>by rcases a with a|a;exact da (d k a).1 f.size;(obtain⟨_,_,_,_,H,_⟩:=E;have:=H.map.lt;omega)) (.inr rfl) E);have e:=AN f z J K;clear y q t u g h i x A s p j r d f E J K L z N C;go_wp2_with fail;refine M.o.m ?_;rintro n u ⟨Z,rfl,f,r,z,p,C⟩;obtain⟨K,c,rfl,E,J⟩:=f.slice;obtain⟨A,h⟩:=rl (r9 most fuel (fun _=>true) ops args l);rw[h]at f r z p⊢;obtain⟨q,s⟩:=rl (MK A);rw[show(if A.2=0 then A.1.bA 0 else A.1.value)=q from s];obtain⟨x,t⟩:=rl (A.2);obtain⟨y,j⟩:=rl (A.1.steps);obtain⟨L,g⟩:=rl ((aW A.1.cl).length);rw[t,j,g];rw[g]at f;have d:=BT f r z h s t j g;have i:=AI p C;clear f r z p C h s t j g M E J;go_wp2_with fail;obtain⟨j,p⟩:=rk u (tb q y K L c x);obtain⟨Y,t⟩:=rl (u.heap.size);rw[t]at p⊢;generalize u.alloc (tb q y K L c x)=g at j p⊢;have r:=KB.ok.only _ _ _ _ _ (fun _ z=>z.elim) i.o.1 (ri j);have f:=qS j (i.o.2.heap (qS e.o.2.1 b.o.2) (fun n=>by have:=e.o.d.1;have:=v.o.2;have:=v.o.1;omega));rw[v.o.1]at f;have s:Below w.heap.size w g:=(e.o.1.x (i.o.2.aI e.o.1.size (fun k a n=>by have:=e.o.t;omega))).x (j.m (dp e.o.1.size i.o.2.size));have g:=AS f p (bJ.below d.o.1 j) s (show m<Y by have:=i.o.2.size;obtain⟨_,_,_,_,H,_⟩:=i.o.1;have:=H.map.lt;omega);clear j p t f s;refine(FQ r).m ?_;rintro n C ⟨rfl,j⟩;have f:=j.heap g.o.1 (fun n=>by have:=e.o.d.1;have:=v.o.2;omega);have s:=j.heap g.o.2.1 (fun n=>by have:=g.o.q;omega);obtain⟨⟨R,W,H,M⟩,N,S,E,U⟩:=cX f;obtain⟨⟨Q,t,J,O⟩,-⟩:=cX s;have p:=AI f j;clear f s j r;go_wp2_with fail;have h:=iy (v0:=rv q) (v1:=rv y) (v2:=.slice K L c) (v3:=rv x) p.o.1;have f:=g.o.t.1.x (p.o.2.aI g.o.t.1.size (fun k a n=>by have:=e.o.t;omega));refine dj (ax rfl _ _ _ _ _ _ _ rfl h.1 underlying60 rfl (by kernel_rfl)) rfl ⟨.slice K L c,?_,?_,?_,?_,?_⟩
 ·rw[d.o.t.1,d.o.q.1,d.o.q.2.1,d.o.q.d.1];rfl
 ·rw[d.o.t.1];have j:=QX g.o.d.1 g.o.1;exact bJ.m (bJ.only (bJ.only j p.o.2 (fun k a n=>a.1 (.inr n))) h.2 (fun k a=>a.2)) (fun k a z=>a.1 (.inl z))
 ·rw[d.o.t.1];exact d.o.2.1
 ·rw[d.o.t.1];exact d.o.d.1
 ·exact f.x (h.2.aI f.size (fun k a n=>by have:=v.o.1;omega))
theorem I4{w:World}{F G:Nat->Prop}{T o:Nat}{most:Int}{l:az}{FT:Nat->Nat->Prop}(ops:List aX)(a b:Value)(args:List Int)(fuel:Int)
  (p:nV w G a ops) (i: ∀k,G k->k<w.heap.size) (j:opsE ops=0) (k:fK w) (c:Rd w F b (args.map (Value.int .i64))) (e:args.length<=8) (f: ∀n∈args,-1099511627776<=n/\n<=1099511627776)
  (t:0<=fuel/\fuel<=10000) (s:bK w T most o l FT) (q: ∀d g,FT d g->d<w.heap.size) (g:dv l) (d:fp w) (n:mz w):
  Calls prog 19 #[a,b,r7 T,rv fuel] w (ads (r9 most fuel (fun _=>true) ops args l) w):=
 (uB (V:=fun _=>False) ops a b args fuel p i j k c e f t s q g d n (fun _ h=>h.elim)).m (fun _x _u ⟨v,h,m,r⟩=>⟨v,h,bJ.m m (fun _ _=>trivial),r⟩)
end
end Go.Proofs.YtehccbdajiiaaaaGreatDoor
