import Derived.Test.YtehccbdajiiaaaaGreatDoorS09
import Derived.Test.YtehccbdajiiaaaaGreatDoorS12
namespace Go.Proofs.YtehccbdajiiaaaaGreatDoor
open Go.Proofs.Tryz
set_option maxRecDepth 100000
set_option maxHeartbeats 16000000
open Go.RowKit
def jA(r:Rw):Nat->List UInt8
 |0=>[]
 |c+1=>jA r c++oV (qx (r.aO c))
theorem yh(r:Rw):jA r 4=dO r:=by simp[jA,dO,Rw.aO]
theorem yi(r:Rw): ∀k,(jA r k).length<=10*k
 |0=>by simp[jA]
 |k+1=>by have b:=yi r k;have a:=jc (qx (r.aO k));simp only[jA,gr];omega
theorem Mn(r:Rw){k:Nat}(b:k<4): ∃a,dO r=jA r k++(oV (qx (r.aO k))++a)/\dO r=jA r (k+1)++a:=by
 rw[<-yh]
 match k,b with
 |0,_=>exact⟨oV (qx (r.aO 1))++oV (qx (r.aO 2))++oV (qx (r.aO 3)),by simp[jA],by simp[jA]⟩
 |1,_=>exact⟨oV (qx (r.aO 2))++oV (qx (r.aO 3)),by simp[jA],by simp[jA]⟩
 |2,_=>exact⟨oV (qx (r.aO 3)),by simp[jA],by simp[jA]⟩
 |3,_=>exact⟨[],by simp[jA],by simp[jA]⟩
theorem TR{n:Int}(h:I6 n)(a:List UInt8):mR (oV (qx n)++a)=some (n,a):=by have b:=O6 h.1 (by have:=h.2;omega);have:=Tk 9 0 0 (qx n) a rfl (by simpa using b) (.inl rfl);unfold mR oV;rw[this];simp[Ty]
theorem eG{w:World}{R:Nat}{r:Rw}{t:TypeId}(h:w.heap[R]?=some (.cells #[rm r.a,rm r.b,rm r.c,rm r.d] t (0,0))){k:Nat}(a:k<4):w.cell? ⟨R,k,none⟩=some (rm (r.aO k)):=by
 match k,a with
 |0,_|1,_|2,_|3,_=>simp[World.cell?,h,Rw.aO]
theorem PQ{w:World}{R:Nat}{cs:Array Value}{t:TypeId}(h:w.heap[R]?=some (.cells cs t (0,0)))(k:Nat):w.frozen? ⟨R,k,none⟩=false:=by simp[World.frozen?,h]
theorem Bu(w:World)(r:Rw)(o: ∀C,I6 (r.aO C)):Calls prog 124 #[r.val] w (Ki 5 ((dO r).map B8) w):=by
 obtain⟨b,c,d,a⟩:=r;unfold Rw.val;obtain⟨j,e⟩:=rj w (r8 b c d a);have B:=al o;go_enter func124,ntmps124;go_upto_region 1 with fail;generalize w.alloc (r8 b c d a)=g at j e⊢;obtain⟨R,q⟩:=rk (w.heap.size);rw[q]at e⊢;obtain⟨h,l⟩:=rj g (.cells #[.slice none 0 0] 281);have m:=qt h e;go_upto_region 2 with fail;generalize g.alloc (.cells #[.slice none 0 0] 281)=f at h l m⊢;obtain⟨W,p⟩:=rk (g.heap.size);rw[p]at l⊢;have n:R<W:=by have:=aM e;omega
 have H:=al (show Below w.heap.size w f/\zP f (fun k=>W<=k) W []/\f.heap[R]?=some (r8 b c d a)/\R<W/\w.heap.size<=R from
  ⟨j.x (h.m j.size),⟨_,l,b8 _,dy _ _ _ _,fun t g=>by simp[Value.ownBlock]at g⟩,m,n,by omega⟩)
 clear j e q h l m p o n;go_wp2_with fail
 go_loopw [7] (fun i wr=> ∃k:Nat,k<=4/\i=rm (k:Int)/\zP wr (fun k=>W<=k) W (jA ⟨b,c,d,a⟩ k)/\Only (fun k=>W<=k) f wr) (fun i _=>4-(intOf i).toNat)
 case atStart=>exact⟨0,by decide,rfl,H.o.2.1,oE _ _⟩
 case round=>
  obtain⟨k,z,rfl,h,e⟩:=hrel;by_cases v:k<4
  ·have p:=e.heap H.o.d.1 (fun u=>by have:=H.o.t.1;omega);have o:=eG (r:=⟨b,c,d,a⟩) p v;have F:(0:Int)<=(k:Int):=by omega
   have J:(k:Int)<4:=by omega
   obtain⟨D,m⟩:=rk (Rw.aO ⟨b,c,d,a⟩ k);have j:=B.o k;rw[m]at o j;have q:=yi ⟨b,c,d,a⟩ k;have l:=al (Xu wr _ W _ h D j.1 (by have:=j.2;omega) (by omega));have n:=AD m e;clear h e p m j q;go_wp2_with fail;refine l.o.m ?_;rintro L j ⟨rfl,q,K,s,m⟩
   have p:=al (show zP j (fun k=>W<=k) W (jA ⟨b,c,d,a⟩ (k+1))/\Only (fun k=>W<=k) f j from by
    have I:=n.o.2.size;have E:=aM H.o.2.1.choose_spec.1;refine⟨?_,n.o.2.x q (fun _ _ u=>u)⟩;rw[show jA ⟨b,c,d,a⟩ (k+1)=jA ⟨b,c,d,a⟩ k++oV (qx D) by rw[jA,n.o.1]];obtain⟨f,A,G,y,x⟩:=s
    exact⟨f,A,b8 _,y,fun t g=>by rcases m t (x t g)with u|u<;>omega⟩)
   clear q s m o;go_wp2_with fail;go_roundw
   case rel=>exact⟨k+1,by omega,by go_num,p.o.1,p.o.2⟩
   case measure=>simp[intOf];omega
  ·obtain rfl:k=4:=by omega
   have l:=AD (L5 wr _ W _ h (by have:=yi ⟨b,c,d,a⟩ 4;omega)) e;clear h e;go_wp2_with fail;refine l.o.1.m ?_;rintro L j ⟨A,C,rfl,f,h⟩;have e:=AD f h;clear f h;go_wp2_with fail;go_ret
   have f:Below w.heap.size w wr:=H.o.1.x (l.o.2.aH H.o.1.size (fun k z u=>by have:=H.o.t;omega));rw[yh]at e⊢;refine⟨A,C,by simp,dI e.o.1 (fun t g=>by have:=(e.o.1.lt t g).1;have:=f.size;omega),f.x (e.o.2.m f.size)⟩
def nO(r:Rw)(k:Nat):Rw:=⟨if 0<k then r.a else 0,if 1<k then r.b else 0,if 2<k then r.c else 0,if 3<k then r.d else 0⟩
theorem PT(r:Rw){k:Nat}(a:k<4):(#[rm (nO r k).a,rm (nO r k).b,rm (nO r k).c,rm (nO r k).d]:Array Value).setIfInBounds k (rm (r.aO k))= #[rm (nO r (k+1)).a,rm (nO r (k+1)).b,rm (nO r (k+1)).c,rm (nO r (k+1)).d]:=by
 match k,a with
 |0,_|1,_|2,_|3,_=>simp[nO,Rw.aO]
theorem Bv(w:World)(v:Value)(r:Rw)(F:Nat->Prop)(a: ∀T,I6 (r.aO T))(f:Rd w F v ((dO r).map B8)):
  Calls prog 76 #[v] w fun z b=>z=.returned (.tuple #[r.val,rm 0])/\Below w.heap.size w b:=by
 obtain⟨b,c⟩:=rj w (r8 0 0 0 0);have M:=al a;have e:=f.below b;obtain⟨Y,X,T,rfl,_⟩:=id f;clear a f;go_enter func76,ntmps76;go_upto_region 1 with fail;generalize w.alloc (r8 0 0 0 0)=a at b c e⊢;obtain⟨R,g⟩:=rk (w.heap.size);rw[g]at c⊢;have d:=al (Kn a F _ (dO r) e (by have:=oY r;omega));have a:=AF b c g;clear b c g e;go_wp2_with fail;refine d.o.m ?_;rintro z c ⟨y,rfl,b,e⟩;obtain⟨g,l⟩:=rj c (r8 0 0 0 0)
 have h:=al (show Below w.heap.size w (c.alloc (r8 0 0 0 0))/\bt (c.alloc (r8 0 0 0 0)) (fun k=>R<k/\k<c.heap.size) y (dO r) 0/\
   (c.alloc (r8 0 0 0 0)).heap[R]?=some (r8 0 0 0 0)/\R<c.heap.size/\w.heap.size<=R from by
  have t:=aM a.o.2.1;obtain⟨s,x,j,p,o,n⟩:=e.bound
  exact⟨(a.o.1.x (b.m a.o.1.size)).x (g.m (dd a.o.1.size b.size)),(show bt c (fun k=>R<k/\k<c.heap.size) y (dO r) 0 from⟨s,x,⟨by omega,j.2⟩,p,o,fun q m=>⟨⟨by have:=(n q m).1.1;omega,(n q m).1.2⟩,(n q m).2⟩⟩).below g,
   qt (b.x (g.m b.size)) a.o.2.1,by have:=b.size;omega,by have:=a.o.d;omega⟩)
 clear b e g d;go_upto_region 4 with fail;generalize c.alloc (r8 0 0 0 0)=q at h l⊢;obtain⟨B,b⟩:=rk (c.heap.size);rw[b]at h l⊢;have L:=al l;clear b l a;go_wp2_with fail
 go_loopw [14] (fun i wr=> ∃k:Nat,k<=4/\i=rm (k:Int)/\bt wr (fun k=>R<k/\k<B) y (dO r) (jA r k).length/\Only (fun k=>R<k) q wr/\
   wr.heap[B]?=some (r8 ((nO r k).a) ((nO r k).b) ((nO r k).c) ((nO r k).d))) (fun i _=>4-(intOf i).toNat)
 case atStart=>exact⟨0,by decide,rfl,h.o.2.1,oE _ _,L.o⟩
 case round=>
  obtain⟨k,P,rfl,e,m,n⟩:=hrel;have U:y<B:=by obtain⟨s,x,j,_⟩:=e;exact j.2
  have J:R<y:=by obtain⟨s,x,j,_⟩:=e;exact j.1
  by_cases p:k<4
  ·have d:=al (O8 wr _ y _ _ e);have g:=AD m n;have V:(0:Int)<=(k:Int):=by omega
   have W:(k:Int)<4:=by omega
   obtain⟨v,f⟩:=rk (r.aO k);have t:=al f;clear e m n f;go_wp2_with fail;refine d.o.m ?_;rintro z b ⟨a,H⟩;obtain⟨I,C,G⟩:=Mn r p;have D:(dO r).drop (jA r k).length=oV (qx (r.aO k))++I:=by rw[C,List.drop_left]
   rw[D,TR (M.o k),t.o]at H;obtain⟨rfl,E,A,K,o⟩:=H
   have u:E=(jA r (k+1)).length:=by
    have O:E<=(dO r).length:=by obtain⟨_,_,_,l,_⟩:=o;exact l
    have N:=eE List.length A;have f:=eE List.length G;rw[my]at N;rw[gr]at f;omega
   subst u;have f:=a.heap g.o.2 (fun z=>by omega);have Q:=eG (r:=nO r k) f p;have N:=PQ f k
   have O:=al (show bt (b.setCell ⟨B,k,none⟩ (rm v)) (fun k=>R<k/\k<B) y (dO r) (jA r (k+1)).length/\Only (fun k=>R<k) q (b.setCell ⟨B,k,none⟩ (rm v))/\
     (b.setCell ⟨B,k,none⟩ (rm v)).heap[B]?=some (r8 ((nO r (k+1)).a) ((nO r (k+1)).b) ((nO r (k+1)).c) ((nO r (k+1)).d))from by
    refine⟨o.only (bg b B k _) (fun S u z=>by omega),(g.o.1.x (a.m (fun S _ u=>by subst u;exact J)) (fun _ _ l=>l)).x (bg b B k _) (fun S _ u=>by omega),?_⟩
    rw[heap_setCell_same b B k _ _ (rm v) f,<-t.o,PT r p])
   clear a D C G A K o f d g t;go_wp2_with fail;go_roundw
   case rel=>exact⟨k+1,by omega,by go_num,O.o⟩
   case measure=>simp[intOf];omega
  ·obtain rfl:k=4:=by omega
   have d:=al (Km wr _ y _ _ e);have g:=AD m n;have o:(dO r).length-(jA r 4).length=0:=by rw[yh];omega
   rw[o]at d;clear e m n o;go_wp2_with fail;refine d.o.m ?_;rintro z b ⟨rfl,a⟩;have f:=a.heap g.o.2 (fun l=>l);have o:=a.heap (g.o.1.heap h.o.d.1 (fun z=>by omega)) (fun l=>l);simp only[nO,show(0:Nat)<4 by decide,show(1:Nat)<4 by decide,show(2:Nat)<4 by decide,show(3:Nat)<4 by decide,if_true]at f;obtain⟨⟨G,S,I,C⟩,-⟩:=cP f;obtain⟨⟨Q,N,H,V⟩,D,E,K,O⟩:=cP o;obtain⟨e,m,n,t⟩:=r;have A: ¬B=R:=by omega
   have u:=AD o (show Only (fun k=>R<k) q b from g.o.1.x a (fun _ _ l=>l.elim));clear f o a d g;go_wp2_with fail;have f:=Bj (v0:=rm e) (v1:=rm m) (v2:=rm n) (v3:=rm t) u.o.1;have a:=(((bg b R 0 (rm e)).setCell (p:=⟨R,1,none⟩) (fun _=>rfl) (rm m)).setCell (p:=⟨R,2,none⟩) (fun _=>rfl) (rm n)).setCell (p:=⟨R,3,none⟩) (fun _=>rfl) (rm t);have d:=AD f a;clear f a;generalize ((((b.setCell ⟨R,0,none⟩ (rm e)).setCell ⟨R,1,none⟩ (rm m)).setCell ⟨R,2,none⟩ (rm n)).setCell ⟨R,3,none⟩ (rm t))=a at d⊢;refine dj (ax rfl _ _ _ _ _ _ _ rfl d.o.1 underlying109 rfl (by kernel_rfl)) rfl ⟨rfl,?_⟩;exact h.o.1.x (((u.o.2.mono (T:=fun k=>R<=k) (fun k _ l=>by omega)).x (d.o.2.mono (T:=fun k=>R<=k) (fun k _ l=>by omega)) (fun _ _ l=>l)).aH h.o.1.size (fun k P l=>by have:=h.o.q;omega))
def Ch.cells(x:Ch):List Value:=[rm (x.aO:Int),rm x.v,r7 x.k,.bool x.add]
def zZ(l:List Ch):List Value:=(l.map Ch.cells).flatten
theorem TS(l m:List Ch):zZ (l++m)=zZ l++zZ m:=by simp[zZ]
theorem tV(l:List Ch): ∀y∈l.map Ch.cells,y.length=4:=by intro y a;obtain⟨x,_,rfl⟩:=ep.1 a;rfl
theorem XR(l:List Ch): ∀u∈(l.map Ch.cells).flatten,u.oneCell'=true:=by intro u a;obtain⟨y,b,a⟩:=List.mem_flatten.1 a;obtain⟨x,_,rfl⟩:=ep.1 b;simp only[Ch.cells,List.mem_cons,List.not_mem_nil,or_false]at a;rcases a with rfl|rfl|rfl|rfl<;>rfl
theorem Tryz.XS:(prog.info? 275).map (fun i=>(i.zero,i.size,i.bytes))=some (some (.agg #[rm 0,rm 0,.string ⟨#[]⟩,.bool false]),4,40):=by kernel_rfl
def lG(w:World)(v:Value):Option Rw->Prop
 |none=>v=.pointer none
 |some r=> ∃b,v=rv b/\w.heap[b]?=some (r8 r.a r.b r.c r.d)
theorem lH(w:World)(base:Nat)(v f:Value)(l m:List Ch)(F:Nat->Prop)(b:w.ownsRow base 275 4 v l.length (zZ l))(c:bI 4 w F f (m.map Ch.cells))(e:l.length+m.length<=1000)(d:base<=w.heap.size):
  Calls prog 217 #[v,f] w fun h g=> ∃a,h=.returned a/\g.ownsRow base 275 4 a (l++m).length (zZ (l++m))/\Only (fun k=>v.ownBlock=some k) w g/\(a.ownBlock=v.ownBlock\/a.ownBlock=some w.heap.size):=by
 obtain⟨k,j,i,h,g⟩:=eh Tryz.XS;obtain⟨A,q,rfl⟩:=ai b;obtain⟨o,p,n,rfl,_⟩:=id c;have H:=AI b c e d;clear b c e d;go_enter func217,ntmps217;go_wp2_with (at_builtin;go_loud (refine eA _ rfl _ _ 269 rfl base 275 k _ 4 40 underlying269 j i h g rfl (by decide) _ l.length (zZ l) rfl H.o.1 F _ (m.map Ch.cells) rfl H.o.2.1 (tV m) (XR m) (by have:=H.o.d.1;simp;omega) (by have:=H.o.d.1;simp[maxLen];omega) H.o.t ?_);intro a e c b d);go_ret
 refine⟨a,rfl,?_,Only.of_grownBy b,d⟩;rw[TS,gr];have a:=c;rw[fa]at a;exact a
theorem C3{w:World}{X:Nat}{x:Ch}{t:TypeId}(h:w.heap[X]?=some (.cells #[rm (x.aO:Int),rm x.v,r7 x.k,.bool x.add] t (0,0))):bI 4 w (fun _=>True) (.slice (some ⟨X,0,none⟩) 1 1) ([x].map Ch.cells):=by refine⟨_,1,1,rfl,rfl,b8 _,by simp[maxLen],fun _=>⟨X,0,rfl,trivial,fun i y c j u b=>?_⟩⟩;have a:=jX (k:=4) (xs:=[x].map Ch.cells) (tV [x]) i y c j u b;rw[World.cell?,h];have b:(#[rm (x.aO:Int),rm x.v,r7 x.k,.bool x.add]:Array Value).toList=([x].map Ch.cells).flatten:=rfl;rw[<-b]at a;simpa using a
def jB(k:List UInt8)(old now:Option Rw)(c:Nat):List Ch:=
 (match old with
  |some o=>[⟨c,o.aO c,k,false⟩]
  |none=>[])++(match now with
  |some n=>[⟨c,n.aO c,k,true⟩]
  |none=>[])
theorem pT{k:List UInt8}{old now:Option Rw}{c:Nat}(h: ∀o n,old=some o->now=some n->o.aO c≠n.aO c):NY k old now c=jB k old now c:=by
 unfold NY jB;split
 ·rename_i o n;rw[fb (h o n rfl rfl)];rfl
 ·rfl
 ·rfl
 ·rfl
def ChP(l:List Ch)(w:World)(e:Ending)(w':World):Prop:= ∃v,e=.returned v/\w'.ownsRow w.heap.size 275 4 v l.length (zZ l)/\Below w.heap.size w w'
theorem Mo(w:World)(k:List UInt8)(c:Nat)(h:c<4)(g:Nat)(n:Rw)(b:w.heap[g]?=some (r8 n.a n.b n.c n.d)):Calls prog 218 #[rm (c:Int),r7 k,.pointer none,rv g] w (ChP (jB k none (some n) c) w):=by
 have q:(0:Int)<=(c:Int):=by omega
 have p:(c:Int)<4:=by omega
 have l:=eG b h;obtain⟨y,a⟩:=rk (n.aO c);rw[a]at l;have H:=AD b a;clear b a;go_enter func218,ntmps218;have b:w.ownsRow w.heap.size 275 4 (.slice none 0 0) ([]:List Ch).length (zZ []):=dy _ _ _ _;have a:=AD b (bd w.heap.size w);clear b;obtain⟨b,f⟩:=rj w (sE (c:Int) y k.toArray true);have e:=bE a.o.1 b;have d:=AD (lH (w.alloc (sE (c:Int) y k.toArray true)) w.heap.size (.slice none 0 0) (.slice (some ⟨w.heap.size,0,none⟩) 1 1) [] [⟨c,y,k,true⟩] (fun _=>True) e (C3 f) (by simp) (by have:=a.o.2.size;have:=b.size;omega)) b;clear b f e;go_wp2_with fail;refine d.o.1.m ?_;rintro u j ⟨r,rfl,b,e,i⟩;obtain⟨t,o,rfl⟩:=ai b;have f:=AD b (show Below w.heap.size w j from(a.o.2.x (d.o.2.m a.o.2.size)).x (e.aH (dd a.o.2.size d.o.2.size) (fun k s m=>?_)));rotate_left
 ·simp[Value.ownBlock]at m
 clear b e i d;go_wp2_with fail;go_ret
 refine⟨_,rfl,?_,f.o.2⟩;have m:=f.o.1;unfold jB;simp only[H.o.2];exact m
theorem Mq(w:World)(k:List UInt8)(c:Nat)(i:c<4)(g:Nat)(o:Rw)(a:w.heap[g]?=some (r8 o.a o.b o.c o.d)):Calls prog 218 #[rm (c:Int),r7 k,rv g,.pointer none] w (ChP (jB k (some o) none c) w):=by
 have q:(0:Int)<=(c:Int):=by omega
 have p:(c:Int)<4:=by omega
 have j:=eG a i;obtain⟨x,b⟩:=rk (o.aO c);rw[b]at j;have H:=AD a b;clear a b;go_enter func218,ntmps218;have a:w.ownsRow w.heap.size 275 4 (.slice none 0 0) ([]:List Ch).length (zZ []):=dy _ _ _ _;have e:=AD a (bd w.heap.size w);clear a;obtain⟨b,f⟩:=rj w (sE (c:Int) x k.toArray false);have d:=bE e.o.1 b;have a:=AD (lH (w.alloc (sE (c:Int) x k.toArray false)) w.heap.size (.slice none 0 0) (.slice (some ⟨w.heap.size,0,none⟩) 1 1) [] [⟨c,x,k,false⟩] (fun _=>True) d (C3 f) (by simp) (by have:=e.o.2.size;have:=b.size;omega)) b;clear b f d;go_wp2_with fail;refine a.o.1.m ?_;rintro u l ⟨n,rfl,b,d,h⟩;obtain⟨r,s,rfl⟩:=ai b;have f:=AD b (show Below w.heap.size w l from a.o.2.x (d.aH a.o.2.size (fun k t m=>by simp[Value.ownBlock]at m)));clear b d h a;go_wp2_with fail;go_ret
 refine⟨_,rfl,?_,f.o.2⟩;have m:=f.o.1;unfold jB;simp only[H.o.2];exact m
theorem Mr(w:World)(k:List UInt8)(c:Nat)(l:c<4)(q:Nat)(o:Rw)(e:w.heap[q]?=some (r8 o.a o.b o.c o.d))(j:Nat)(n:Rw)(b:w.heap[j]?=some (r8 n.a n.b n.c n.d)):Calls prog 218 #[rm (c:Int),r7 k,rv q,rv j] w (ChP (jB k (some o) (some n) c) w):=by
 have B:(0:Int)<=(c:Int):=by omega
 have E:(c:Int)<4:=by omega
 have u:=eG e l;obtain⟨y,d⟩:=rk (o.aO c);rw[d]at u;have i:=eG b l;obtain⟨z,a⟩:=rk (n.aO c);rw[a]at i;have H:=AI e d b a;clear e d b a;go_enter func218,ntmps218;have a:w.ownsRow w.heap.size 275 4 (.slice none 0 0) ([]:List Ch).length (zZ []):=dy _ _ _ _;have p:=AD a (bd w.heap.size w);clear a;obtain⟨b,f⟩:=rj w (sE (c:Int) y k.toArray false);have e:=bE p.o.1 b;have a:=AD (lH (w.alloc (sE (c:Int) y k.toArray false)) w.heap.size (.slice none 0 0) (.slice (some ⟨w.heap.size,0,none⟩) 1 1) [] [⟨c,y,k,false⟩] (fun _=>True) e (C3 f) (by simp) (by have:=p.o.2.size;have:=b.size;omega)) b;clear b f e;go_wp2_with fail;refine a.o.1.m ?_;rintro F g ⟨A,rfl,h,m,s⟩;obtain⟨v,x,rfl⟩:=ai h;simp only[fj,gn,lp,ie]at h⊢;have d:=AD h (show Below w.heap.size w g from a.o.2.x (m.aH a.o.2.size (fun k t r=>by simp[Value.ownBlock]at r)));clear h m s a;have i:g.cell? ⟨j,c,none⟩=some (rm z):=(d.o.2.cell (p:=⟨j,c,none⟩) (aq w _ i)).x i;obtain⟨b,f⟩:=rj g (sE (c:Int) z k.toArray true);have e:=bE d.o.1 b;have a:=AD (lH (g.alloc (sE (c:Int) z k.toArray true)) w.heap.size (.slice v 1 x) (.slice (some ⟨g.heap.size,0,none⟩) 1 1) [⟨c,y,k,false⟩] [⟨c,z,k,true⟩] (fun _=>True) e (C3 f) (by simp) (by have:=d.o.2.size;have:=b.size;omega)) b;clear b f e;go_wp2_with fail;refine a.o.1.m ?_;rintro F m ⟨s,rfl,b,f,h⟩;obtain⟨C,D,rfl⟩:=ai b;have e:=AD b (show Below w.heap.size w m from(d.o.2.x (a.o.2.m d.o.2.size)).x (f.aH (dd d.o.2.size a.o.2.size) (fun k t r=>?_)));rotate_left
 ·have:=(d.o.1.lt k r).1;omega
 clear b f h a;go_wp2_with fail;go_ret
 refine⟨_,rfl,?_,e.o.2⟩;have r:=e.o.1;unfold jB;simp only[H.o.2.1,H.o.t];exact r
def TT(l:List Ch)(w:World)(e:Ending)(w':World):Prop:= ∃v,e=.returned (.tuple #[v,rm 0])/\w'.ownsRow w.heap.size 275 4 v l.length (zZ l)/\Below w.heap.size w w'
theorem aaT{o n:Rw}(h:o.a=n.a/\o.b=n.b/\o.c=n.c/\o.d=n.d):o=n:=by cases o;cases n;simp only at h;obtain⟨rfl,rfl,rfl,rfl⟩:=h;rfl
theorem KL{k:List UInt8}{o n:Rw}{c:Nat}(h:o.aO c=n.aO c):NY k (some o) (some n) c=[]:=ff h
theorem KM{k:List UInt8}(o:Rw): ∀c,jt k (some o) (some o) c=[]
 |0=>rfl
 |c+1=>by rw[jt,KM o c,KL rfl];rfl
theorem Iw(w:World)(k:List UInt8)(d:1<=k.length/\k.length<=16)(o:Nat)(n:Rw)(c:w.heap[o]?=some (r8 n.a n.b n.c n.d)):Calls prog 174 #[r7 k,.pointer none,rv o] w (TT (L8 k none (some n)) w):=by
 have b:dY k=0:=by unfold dY;rw[fb (by omega)]
 have a:=al (eB w k);rw[b]at a;have C:=al c;clear b d c;go_enter func174,ntmps174;go_wp2_with fail;refine a.o.m ?_;rintro G J ⟨rfl,rfl⟩;clear a;go_wp2_with fail;go_quiet(fail);go_wp2_with fail
 go_loopw [10,33] (fun v i wr=> ∃c:Nat,c<=4/\i=rm (c:Int)/\wr.ownsRow w.heap.size 275 4 v (jt k none (some n) c).length (zZ (jt k none (some n) c))/\Below w.heap.size w wr) (fun _ i _=>4-(intOf i).toNat)
 case atStart=>exact⟨0,by decide,rfl,dy _ _ _ _,Only.aH ((oE (fun _=>False) w).drewN _) (b8 _) (fun _ _ q=>q)⟩
 case round=>
  obtain⟨c,I,rfl,b,e⟩:=hrel;obtain⟨K,y,rfl⟩:=ai b;by_cases r:c<4
  ·have x:(0:Int)<=(c:Int):=by omega
   have D:(c:Int)<4:=by omega
   have a:=AD b e;have f:=rS k none (some n) c;obtain⟨N,d⟩:=rk ((jt k none (some n) c).length);rw[d]at f;have h:=AD d f;rw[d];clear b f d;go_wp2_with fail;go_quiet(fail);have j: ∀n,Below w.heap.size w (wr.drewN n):=fun n=>Only.aH ((qS e).drewN n) (b8 _) (fun _ _ q=>q);go_wp2_with fail;refine(Mo _ k c r o n (qt (j _) C.o)).m ?_;rintro G g ⟨H,rfl,m,f⟩;obtain⟨z,B,rfl⟩:=ai m;obtain⟨A,d⟩:=rk ((jB k none (some n) c).length);have E:A<=2:=by rw[<-d,<-pT (fun L n p F=>by cases p)];exact vQ k none (some n) c
   have t:bI 4 g (fun _=>True) (.slice z (jB k none (some n) c).length B) ((jB k none (some n) c).map Ch.cells):=bI.bO m (tV _) (by decide) (fun _ _=>trivial);have u:g.ownsRow w.heap.size 275 4 (.slice K (jt k none (some n) c).length y) (jt k none (some n) c).length (zZ (jt k none (some n) c)):=bE (aJ a.o.1 ((oE (fun _=>False) wr).drewN _) (fun _ _ q=>q)) f;have l:=al (lH g w.heap.size _ _ (jt k none (some n) c) (jB k none (some n) c) (fun _=>True) u t (by rw[h.o.1,d];have:=h.o.2;omega) (by have:=a.o.2.size;have:=f.size;simp at this;omega));have s:=al (show Below w.heap.size w g from(j _).x (f.m (j _).size));rw[h.o.1]at l;rw[d]at l;rw[d];clear m f t u e j d E x D;go_wp2_with fail;refine l.o.m ?_;rintro G f ⟨D,rfl,d,m,x⟩;obtain⟨u,t,rfl⟩:=ai d
   have j:=al (show f.ownsRow w.heap.size 275 4 (.slice u (jt k none (some n) c++jB k none (some n) c).length t) (jt k none (some n) (c+1)).length (zZ (jt k none (some n) (c+1)))/\Below w.heap.size w f from by
    have G:jt k none (some n) (c+1)=jt k none (some n) c++jB k none (some n) c:=by rw[jt,pT (fun L n p F=>by cases p)]
    refine⟨by rw[G];exact d,s.o.x (m.aH s.o.size (fun E p q=>?_))⟩;have r:=(a.o.1.lt E (by rw[h.o.1];exact q)).1
    omega)
   clear d m x l;go_wp2_with fail;go_roundw
   case rel=>exact⟨c+1,by omega,by go_num,by rw[<-gr];exact j.o.1,j.o.2⟩
   case measure=>simp[intOf];omega
  ·obtain rfl:c=4:=by omega
   have a:=AD b e;clear b e;go_wp2_with fail
   go_ret2
   exact⟨_,rfl,a.o.1,a.o.2⟩
theorem Iy(w:World)(k:List UInt8)(d:1<=k.length/\k.length<=16)(n:Nat)(o:Rw)(c:w.heap[n]?=some (r8 o.a o.b o.c o.d)):Calls prog 174 #[r7 k,rv n,.pointer none] w (TT (L8 k (some o) none) w):=by
 have b:dY k=0:=by unfold dY;rw[fb (by omega)]
 have a:=al (eB w k);rw[b]at a;have D:=al c;clear b d c;go_enter func174,ntmps174;go_wp2_with fail;refine a.o.m ?_;rintro H K ⟨rfl,rfl⟩;clear a;go_wp2_with fail;go_quiet(fail);go_wp2_with fail
 go_loopw [10,33] (fun v i wr=> ∃c:Nat,c<=4/\i=rm (c:Int)/\wr.ownsRow w.heap.size 275 4 v (jt k (some o) none c).length (zZ (jt k (some o) none c))/\Below w.heap.size w wr) (fun _ i _=>4-(intOf i).toNat)
 case atStart=>exact⟨0,by decide,rfl,dy _ _ _ _,Only.aH ((oE (fun _=>False) w).drewN _) (b8 _) (fun _ _ q=>q)⟩
 case round=>
  obtain⟨c,J,rfl,b,e⟩:=hrel;obtain⟨L,z,rfl⟩:=ai b;by_cases r:c<4
  ·have y:(0:Int)<=(c:Int):=by omega
   have E:(c:Int)<4:=by omega
   have a:=AD b e;have f:=rS k (some o) none c;obtain⟨N,d⟩:=rk ((jt k (some o) none c).length);rw[d]at f;have h:=AD d f;rw[d];clear b f d;go_wp2_with fail;go_quiet(fail);have j: ∀x,Below w.heap.size w (wr.drewN x):=fun x=>Only.aH ((qS e).drewN x) (b8 _) (fun _ _ q=>q);go_wp2_with fail;refine(Mq _ k c r n o (qt (j _) D.o)).m ?_;rintro H g ⟨I,rfl,m,f⟩;obtain⟨A,C,rfl⟩:=ai m;obtain⟨B,d⟩:=rk ((jB k (some o) none c).length);have F:B<=2:=by rw[<-d,<-pT (fun o x G p=>by cases p)];exact vQ k (some o) none c
   have t:bI 4 g (fun _=>True) (.slice A (jB k (some o) none c).length C) ((jB k (some o) none c).map Ch.cells):=bI.bO m (tV _) (by decide) (fun _ _=>trivial);have u:g.ownsRow w.heap.size 275 4 (.slice L (jt k (some o) none c).length z) (jt k (some o) none c).length (zZ (jt k (some o) none c)):=bE (aJ a.o.1 ((oE (fun _=>False) wr).drewN _) (fun _ _ q=>q)) f;have l:=al (lH g w.heap.size _ _ (jt k (some o) none c) (jB k (some o) none c) (fun _=>True) u t (by rw[h.o.1,d];have:=h.o.2;omega) (by have:=a.o.2.size;have:=f.size;simp at this;omega));have s:=al (show Below w.heap.size w g from(j _).x (f.m (j _).size));rw[h.o.1]at l;rw[d]at l;rw[d];clear m f t u e j d F y E;go_wp2_with fail;refine l.o.m ?_;rintro H f ⟨E,rfl,d,m,y⟩;obtain⟨u,t,rfl⟩:=ai d
   have j:=al (show f.ownsRow w.heap.size 275 4 (.slice u (jt k (some o) none c++jB k (some o) none c).length t) (jt k (some o) none (c+1)).length (zZ (jt k (some o) none (c+1)))/\Below w.heap.size w f from by
    have H:jt k (some o) none (c+1)=jt k (some o) none c++jB k (some o) none c:=by rw[jt,pT (fun o x G p=>by cases p)]
    refine⟨by rw[H];exact d,s.o.x (m.aH s.o.size (fun x p q=>?_))⟩;have r:=(a.o.1.lt x (by rw[h.o.1];exact q)).1
    omega)
   clear d m y l;go_wp2_with fail;go_roundw
   case rel=>exact⟨c+1,by omega,by go_num,by rw[<-gr];exact j.o.1,j.o.2⟩
   case measure=>simp[intOf];omega
  ·obtain rfl:c=4:=by omega
   have a:=AD b e;clear b e;go_wp2_with fail
   go_ret2
   exact⟨_,rfl,a.o.1,a.o.2⟩
theorem Iz(w:World)(k:List UInt8)(f:1<=k.length/\k.length<=16)(x:Nat)(o:Rw)(e:w.heap[x]?=some (r8 o.a o.b o.c o.d))(y:Nat)(n:Rw)(c:w.heap[y]?=some (r8 n.a n.b n.c n.d)):Calls prog 174 #[r7 k,rv x,rv y] w (TT (L8 k (some o) (some n)) w):=by
 have b:dY k=0:=by unfold dY;rw[fb (by omega)]
 have a:=al (eB w k);rw[b]at a;have d:=AD e c;clear b f e c;go_enter func174,ntmps174;go_wp2_with fail;refine a.o.m ?_;rintro O T ⟨rfl,rfl⟩;clear a;go_wp2_with fail;obtain⟨⟨g,p,j,e⟩,-⟩:=cP d.o.1;obtain⟨⟨r,f,l,m⟩,-⟩:=cP d.o.2;have b:=fun(w:World)=>eq4 w o.a o.b o.c o.d n.a n.b n.c n.d;have D:=Tryz.Ph;by_cases a:o=n
 ·subst a;go_quiet(fail);go_wp2_with fail
  go_ret2
  refine⟨_,rfl,?_,Only.aH ((oE (fun _=>False) w).drewN _) (b8 _) (fun _ _ h=>h)⟩;unfold L8;rw[KM];exact dy _ _ _ _
 ·have c:(decide (o.a=n.a)&&(decide (o.b=n.b)&&(decide (o.c=n.c)&&decide (o.d=n.d))))=false:=by
   rw[Bool.eq_false_iff];intro h;simp only[mu,decide_eq_true_eq]at h;exact a (aaT h)
  clear a;go_quiet(fail);clear g p j e r f l m b D c;go_wp2_with fail
  go_loopw [10,33] (fun v i wr=> ∃c:Nat,c<=4/\i=rm (c:Int)/\wr.ownsRow w.heap.size 275 4 v (jt k (some o) (some n) c).length (zZ (jt k (some o) (some n) c))/\Below w.heap.size w wr) (fun _ i _=>4-(intOf i).toNat)
  case atStart=>exact⟨0,by decide,rfl,dy _ _ _ _,Only.aH ((oE (fun _=>False) w).drewN _) (b8 _) (fun _ _ h=>h)⟩
  case round=>
   obtain⟨c,R,rfl,e,a⟩:=hrel;obtain⟨U,H,rfl⟩:=ai e;by_cases p:c<4
   ·have G:(0:Int)<=(c:Int):=by omega
    have K:(c:Int)<4:=by omega
    have b:=AD e a;have g:=rS k (some o) (some n) c;obtain⟨V,f⟩:=rk ((jt k (some o) (some n) c).length);rw[f]at g;have j:=AD f g;rw[f];clear e g f;have E:=eG (qt a d.o.1) p;have r:=eG (qt a d.o.2) p;obtain⟨P,g⟩:=rk (o.aO c);obtain⟨Q,f⟩:=rk (n.aO c);rw[g]at E;rw[f]at r;by_cases m:P=Q
    ·subst m;have q:=al (show o.aO c=n.aO c from g.x f.symm);clear g f;go_wp2_with fail;go_quiet(fail);go_wp2_with fail;go_roundw
     case rel=>refine⟨c+1,by omega,by go_num,?_,Only.aH ((qS a).drewN _) (b8 _) (fun _ _ h=>h)⟩;rw[jt,KL q.o,fs,<-j.o.1];exact aJ b.o.1 ((oE (fun _=>False) wr).drewN _) (fun _ _ h=>h)
     case measure=>simp[intOf];omega
    ·have q:=al (show o.aO c≠n.aO c from by rw[g,f];exact m);have L:(P==Q)=false:=by simpa using m
     clear g f;go_wp2_with fail;go_quiet(fail);have g: ∀n,Below w.heap.size w (wr.drewN n):=fun n=>Only.aH ((qS a).drewN n) (b8 _) (fun _ _ h=>h);go_wp2_with fail;refine(Mr _ k c p x o (qt (g _) d.o.1) y n (qt (g _) d.o.2)).m ?_;rintro O t ⟨S,rfl,u,l⟩;obtain⟨I,M,rfl⟩:=ai u;obtain⟨J,f⟩:=rk ((jB k (some o) (some n) c).length);have N:J<=2:=by rw[<-f,<-pT (fun o n z A=>by cases z;cases A;exact q.o)];exact vQ k (some o) (some n) c
     have F:bI 4 t (fun _=>True) (.slice I (jB k (some o) (some n) c).length M) ((jB k (some o) (some n) c).map Ch.cells):=bI.bO u (tV _) (by decide) (fun _ _=>trivial);have B:t.ownsRow w.heap.size 275 4 (.slice U (jt k (some o) (some n) c).length H) (jt k (some o) (some n) c).length (zZ (jt k (some o) (some n) c)):=bE (aJ b.o.1 ((oE (fun _=>False) wr).drewN _) (fun _ _ h=>h)) l;have s:=al (lH t w.heap.size _ _ (jt k (some o) (some n) c) (jB k (some o) (some n) c) (fun _=>True) B F (by rw[j.o.1,f];have:=j.o.2;omega) (by have:=b.o.2.size;have:=l.size;simp at this;omega));have C:=al (show Below w.heap.size w t from(g _).x (l.m (g _).size));rw[j.o.1]at s;rw[f]at s;rw[f];clear E r m L u l F B a g f N G K;go_wp2_with fail;refine s.o.m ?_;rintro O g ⟨E,rfl,f,m,B⟩;obtain⟨r,u,rfl⟩:=ai f
     have l:=al (show g.ownsRow w.heap.size 275 4 (.slice r (jt k (some o) (some n) c++jB k (some o) (some n) c).length u) (jt k (some o) (some n) (c+1)).length (zZ (jt k (some o) (some n) (c+1)))/\Below w.heap.size w g from by
      have O:jt k (some o) (some n) (c+1)=jt k (some o) (some n) c++jB k (some o) (some n) c:=by rw[jt,pT (fun o n z A=>by cases z;cases A;exact q.o)]
      refine⟨by rw[O];exact f,C.o.x (m.aH C.o.size (fun z D h=>?_))⟩;have p:=(b.o.1.lt z (by rw[j.o.1];exact h)).1
      omega)
     clear f m B s;go_wp2_with fail;go_roundw
     case rel=>exact⟨c+1,by omega,by go_num,by rw[<-gr];exact l.o.1,l.o.2⟩
     case measure=>simp[intOf];omega
   ·obtain rfl:c=4:=by omega
    have b:=AD e a;clear e a;go_wp2_with fail
    go_ret2
    exact⟨_,rfl,b.o.1,b.o.2⟩
theorem PV(a b:List UInt8):(⟨a.toArray⟩:ByteArray)++⟨b.toArray⟩=⟨(a++b).toArray⟩:=by apply ByteArray.ext;simp
def PW(n k:Nat):List Value:=List.replicate (8-k) (.int .u8 0)++(be k (n%256^k)).map B8
theorem TU{n k:Nat}(a:k<=8):(PW n k).length=8:=by simp[PW,G6];omega
theorem TV(n:Nat){k j:Nat}(f:k+j=7):(PW n k).toArray.setIfInBounds j (B8 (UInt8.ofNat (n/256^k%256)))=(PW n (k+1)).toArray:=by
 have b:8-k=j+1:=by omega
 have a:8-(k+1)=j:=by omega
 have d:be (k+1) (n%256^(k+1))=UInt8.ofNat (n/256^k%256)::be k (n%256^k):=by
  rw[be];have e:n%256^(k+1)/256^k=n/256^k%256:=by rw[Nat.pow_succ,Nat.mod_mul_right_div_self]
  have c:n%256^(k+1)%256^k=n%256^k:=Nat.mod_mod_of_dvd _ (Nat.pow_dvd_pow 256 (by omega));rw[e,c]
 unfold PW;rw[b,a,d,List.replicate_succ',List.setIfInBounds_toArray];congr 1;rw[kh,List.set_append_right _ _ (by simp),List.length_replicate,Nat.sub_self];simp
theorem aaU{w:World}{B:Nat}{b l g i e h c p v0 v1 v2 v3 v4 v5 v6 v7:Value}{t:TypeId}(q:w.heap[B]?=some (.cells #[b,l,g,i,e,h,c,p] t (0,0))):
  ((((((((w.setCell ⟨B,0,none⟩ v0).setCell ⟨B,1,none⟩ v1).setCell ⟨B,2,none⟩ v2).setCell ⟨B,3,none⟩ v3).setCell ⟨B,4,none⟩ v4).setCell ⟨B,5,none⟩ v5).setCell ⟨B,6,none⟩ v6).setCell ⟨B,7,none⟩ v7).heap[B]?=some (.cells #[v0,v1,v2,v3,v4,v5,v6,v7] t (0,0)):=by
 have k:=dp w B 0 _ t v0 q;have m:=dp _ B 1 _ t v1 k;have n:=dp _ B 2 _ t v2 m;have f:=dp _ B 3 _ t v3 n;have d:=dp _ B 4 _ t v4 f;have j:=dp _ B 5 _ t v5 d;have o:=dp _ B 6 _ t v6 j;have a:=dp _ B 7 _ t v7 o;simpa using a
theorem PX{α:Type}{l:List α}(h:l.length=8): ∃a b c d e f g i,l=[a,b,c,d,e,f,g,i]:=by
 match l,h with
 |[a,b,c,d,e,f,g,i],_=>exact⟨a,b,c,d,e,f,g,i,rfl⟩
theorem XU(n:Int)(a:I6 n):(PW (n+9223372036854775808).toNat 8)=(pfx n).map B8:=by
 unfold PW pfx;rw[Nat.mod_eq_of_lt]
 ·rfl
 ·have:=a.1;have:=a.2;rw[show(256:Nat)^8=18446744073709551616 by decide];omega
theorem Ms(w:World)(n:Int)(a:I6 n):Calls prog 246 #[rm n] w fun A b=>A=.returned (.agg ((pfx n).map B8).toArray)/\Below w.heap.size w b:=by
 obtain⟨N,g⟩:=rk ((n+9223372036854775808).toNat);have v:N<18446744073709551616:=by have:=a.1;have:=a.2;omega
 have x:=al (show IntKind.u64.wrap (IntKind.u64.wrap n+9223372036854775808)=(N:Int) by rw[IntKind.wrap_u64,IntKind.wrap_u64];have:=a.1;have:=a.2;omega);have s:=al (XU n a);rw[g]at s;obtain⟨c,b⟩:=rj w (.cells #[.int .u8 0,.int .u8 0,.int .u8 0,.int .u8 0,.int .u8 0,.int .u8 0,.int .u8 0,.int .u8 0] 346);go_enter func246,ntmps246;go_upto_region 1 with fail;generalize w.alloc (.cells #[.int .u8 0,.int .u8 0,.int .u8 0,.int .u8 0,.int .u8 0,.int .u8 0,.int .u8 0,.int .u8 0] 346)=j at c b⊢;obtain⟨R,l⟩:=rk (w.heap.size);rw[l]at b⊢;obtain⟨e,f⟩:=rj j (.cells #[.int .u8 0,.int .u8 0,.int .u8 0,.int .u8 0,.int .u8 0,.int .u8 0,.int .u8 0,.int .u8 0] 346);have h:=qt e b;go_upto_region 2 with fail;generalize j.alloc (.cells #[.int .u8 0,.int .u8 0,.int .u8 0,.int .u8 0,.int .u8 0,.int .u8 0,.int .u8 0,.int .u8 0] 346)=d at e f h⊢;obtain⟨B,k⟩:=rk (j.heap.size);rw[k]at f⊢;have j:R<B:=by have:=aM b;omega
 have H:=al (show Below w.heap.size w d/\d.heap[B]?=some (.cells (PW N 0).toArray 346 (0,0))/\d.heap[R]?=some (.cells #[.int .u8 0,.int .u8 0,.int .u8 0,.int .u8 0,.int .u8 0,.int .u8 0,.int .u8 0,.int .u8 0] 346 (0,0))/\R<B/\w.heap.size<=R from
  ⟨c.x (e.m c.size),f,h,j,by omega⟩)
 have z:=AD g v;clear c b l e f h k j g a;go_wp2_with fail
 go_loopw [4,9] (fun n i wr=> ∃k M:Nat,k<=8/\i=rm (k:Int)/\n=.int .u64 (M:Int)/\N/256^k=M/\wr.heap[B]?=some (.cells (PW N k).toArray 346 (0,0))/\Only (fun k=>k=B) d wr) (fun _ i _=>8-(intOf i).toNat)
 case atStart=>exact⟨0,N,by decide,rfl,by rw[x.o],by simp,H.o.2.1,oE _ _⟩
 case round=>
  obtain⟨k,M,t,rfl,rfl,o,b,c⟩:=hrel;by_cases E:k<8
  ·obtain⟨j,r⟩: ∃j,k+j=7:=⟨7-k,by omega⟩;have D:(7:Int)-(k:Int)=(j:Int):=by omega
   have h:N/256^k<18446744073709551616:=Nat.lt_of_le_of_lt (Nat.div_le_self _ _) z.o.2;have e:N/256^k/256=N/256^(k+1):=by rw[Nat.pow_succ,Nat.div_div_eq_div_mul]
   obtain⟨P,l⟩:=rk (B8 (UInt8.ofNat (N/256^k%256)));have a:=TV N r;rw[o]at h e a l;obtain⟨m,f⟩:=rk (M%256);have O:m<256:=by omega
   have G:bits .and .u64 (M:Int) 255=(m:Int):=by have:=u64_and_nat M 255 h (by decide);rw[show((255:Nat):Int)=255 from rfl]at this;rw[this,<-f];congr 1;exact Nat.and_two_pow_sub_one_eq_mod M 8
   have L:(m:Int)%256=(m:Int):=by omega
   have u:B8 (UInt8.ofNat m)=.int .u8 (m:Int):=by simp[B8];omega
   rw[f]at a l;rw[u]at a;obtain⟨y,q⟩: ∃g,(PW N k).toArray[j]?=some g:=⟨_,fl (by simp[TU t];omega)⟩;have K:wr.cell? ⟨B,j,none⟩=some y:=by simp[World.cell?,b,q]
   have J:wr.frozen? ⟨B,j,none⟩=false:=by simp[World.frozen?,b]
   have F:(0:Int)<=(j:Int):=by omega
   have I:(j:Int)<8:=by omega
   have C:k<=7:=by omega
   have g:=al (show(wr.setCell ⟨B,j,none⟩ (.int .u8 (m:Int))).heap[B]?=some (.cells (PW N (k+1)).toArray 346 (0,0))/\Only (fun k=>k=B) d (wr.setCell ⟨B,j,none⟩ (.int .u8 (m:Int)))/\M/256=N/256^(k+1)from by
    refine⟨?_,c.x (bg wr B j _) (fun _ _ p=>p),e⟩
    rw[heap_setCell_same wr B j _ _ (.int .u8 (m:Int)) b,a])
   clear b c a q e o f h l u r;go_wp2_with fail;go_roundw
   case rel=>exact⟨k+1,M/256,by omega,by go_num,by simp,g.o.d.symm,g.o.1,g.o.2.1⟩
   case measure=>simp[intOf];omega
  ·obtain rfl:k=8:=by omega
   have a:=c.heap H.o.d.1 (fun A=>by have:=H.o.t.1;omega);rw[s.o]at b;obtain⟨e,m,f,d,j,h,l,g,o⟩:=PX (cu n);have r:=al o;rw[o]at b;simp only[kt,kb,B8]at b;have W:wr.cell? ⟨B,0,none⟩=some (.int .u8 e.toNat):=by simp[World.cell?,b]
   have U:wr.cell? ⟨B,1,none⟩=some (.int .u8 m.toNat):=by simp[World.cell?,b]
   have u:wr.cell? ⟨B,2,none⟩=some (.int .u8 f.toNat):=by simp[World.cell?,b]
   have D:wr.cell? ⟨B,3,none⟩=some (.int .u8 d.toNat):=by simp[World.cell?,b]
   have A:wr.cell? ⟨B,4,none⟩=some (.int .u8 j.toNat):=by simp[World.cell?,b]
   have S:wr.cell? ⟨B,5,none⟩=some (.int .u8 h.toNat):=by simp[World.cell?,b]
   have K:wr.cell? ⟨B,6,none⟩=some (.int .u8 l.toNat):=by simp[World.cell?,b]
   have Y:wr.cell? ⟨B,7,none⟩=some (.int .u8 g.toNat):=by simp[World.cell?,b]
   have C:wr.cell? ⟨R,0,none⟩=some (.int .u8 0):=by simp[World.cell?,a]
   have J:wr.cell? ⟨R,1,none⟩=some (.int .u8 0):=by simp[World.cell?,a]
   have P:wr.cell? ⟨R,2,none⟩=some (.int .u8 0):=by simp[World.cell?,a]
   have Z:wr.cell? ⟨R,3,none⟩=some (.int .u8 0):=by simp[World.cell?,a]
   have V:wr.cell? ⟨R,4,none⟩=some (.int .u8 0):=by simp[World.cell?,a]
   have O:wr.cell? ⟨R,5,none⟩=some (.int .u8 0):=by simp[World.cell?,a]
   have F:wr.cell? ⟨R,6,none⟩=some (.int .u8 0):=by simp[World.cell?,a]
   have G:wr.cell? ⟨R,7,none⟩=some (.int .u8 0):=by simp[World.cell?,a]
   have T:wr.frozen? ⟨R,0,none⟩=false:=by simp[World.frozen?,a]
   have X:wr.frozen? ⟨R,1,none⟩=false:=by simp[World.frozen?,a]
   have u2:wr.frozen? ⟨R,2,none⟩=false:=by simp[World.frozen?,a]
   have u3:wr.frozen? ⟨R,3,none⟩=false:=by simp[World.frozen?,a]
   have I:wr.frozen? ⟨R,4,none⟩=false:=by simp[World.frozen?,a]
   have y:wr.frozen? ⟨R,5,none⟩=false:=by simp[World.frozen?,a]
   have Q:wr.frozen? ⟨R,6,none⟩=false:=by simp[World.frozen?,a]
   have L:wr.frozen? ⟨R,7,none⟩=false:=by simp[World.frozen?,a]
   have q:=AD a c;clear b a c o;go_wp2_with fail;have b:=aaU (v0:=.int .u8 e.toNat) (v1:=.int .u8 m.toNat) (v2:=.int .u8 f.toNat) (v3:=.int .u8 d.toNat) (v4:=.int .u8 j.toNat) (v5:=.int .u8 h.toNat) (v6:=.int .u8 l.toNat) (v7:=.int .u8 g.toNat) q.o.1;have c:=(((((((bg wr R 0 (.int .u8 e.toNat)).setCell (p:=⟨R,1,none⟩) (fun _=>rfl) (.int .u8 m.toNat)).setCell (p:=⟨R,2,none⟩) (fun _=>rfl) (.int .u8 f.toNat)).setCell (p:=⟨R,3,none⟩) (fun _=>rfl) (.int .u8 d.toNat)).setCell (p:=⟨R,4,none⟩) (fun _=>rfl) (.int .u8 j.toNat)).setCell (p:=⟨R,5,none⟩) (fun _=>rfl) (.int .u8 h.toNat)).setCell (p:=⟨R,6,none⟩) (fun _=>rfl) (.int .u8 l.toNat)).setCell (p:=⟨R,7,none⟩) (fun _=>rfl) (.int .u8 g.toNat);have a:=AD b c;clear b c;generalize ((((((((wr.setCell ⟨R,0,none⟩ (.int .u8 e.toNat)).setCell ⟨R,1,none⟩ (.int .u8 m.toNat)).setCell ⟨R,2,none⟩ (.int .u8 f.toNat)).setCell ⟨R,3,none⟩ (.int .u8 d.toNat)).setCell ⟨R,4,none⟩ (.int .u8 j.toNat)).setCell ⟨R,5,none⟩ (.int .u8 h.toNat)).setCell ⟨R,6,none⟩ (.int .u8 l.toNat)).setCell ⟨R,7,none⟩ (.int .u8 g.toNat))=b at a⊢;refine dj (results_cell_row rfl _ _ _ _ _ _ _ rfl a.o.1 underlying346 rfl (by kernel_rfl)) rfl ⟨by rw[r.o];rfl,?_⟩;exact H.o.1.x ((q.o.2.mono (T:=fun k=>k=B\/k=R) (fun _ _ p=>.inl p)).x (a.o.2.mono (T:=fun k=>k=B\/k=R) (fun _ _ p=>.inr p)) (fun _ _ p=>p)|>.aH H.o.1.size (fun k t p=>by have:=H.o.t;omega))
theorem pU(w:World)(n:Int)(l:I6 n):Calls prog 219 #[rm n] w fun s a=>s=.returned (r7 (pfx n))/\Below w.heap.size w a:=by
 have i:=al (Ms w n l);obtain⟨c,f,g,b,a,d,e,h,k⟩:=PX (cu n);rw[k]at i⊢;simp only[kt,kb,B8]at i;have j:=fun(w:World) (F:Nat->Prop) (A:Option Addr) (m:Nat) (o:Rd w F (.slice A 8 m) ([c,f,g,b,a,d,e,h].map B8))=>vO (P:=prog) 53 9 5 underlying53 underlying5 underlying9 o;have q:=al j;clear k l j;go_enter func219,ntmps219;go_wp2_with fail;refine i.o.m ?_;rintro s k ⟨rfl,j⟩;obtain⟨l,p⟩:=rj k (.cells #[.int .u8 c.toNat,.int .u8 f.toNat,.int .u8 g.toNat,.int .u8 b.toNat,.int .u8 a.toNat,.int .u8 d.toNat,.int .u8 e.toNat,.int .u8 h.toNat] 346)
 have m:Rd (k.alloc (.cells #[.int .u8 c.toNat,.int .u8 f.toNat,.int .u8 g.toNat,.int .u8 b.toNat,.int .u8 a.toNat,.int .u8 d.toNat,.int .u8 e.toNat,.int .u8 h.toNat] 346)) (fun _=>True) (.slice (some ⟨k.heap.size,0,none⟩) 8 8) ([c,f,g,b,a,d,e,h].map B8):=by refine⟨_,8,8,rfl,rfl,b8 _,by simp[maxLen],fun _=>⟨_,0,rfl,trivial,fun r u o=>?_⟩⟩;rw[World.cell?,p];have r:(#[.int .u8 c.toNat,.int .u8 f.toNat,.int .u8 g.toNat,.int .u8 b.toNat,.int .u8 a.toNat,.int .u8 d.toNat,.int .u8 e.toNat,.int .u8 h.toNat]:Array Value).toList=[c,f,g,b,a,d,e,h].map B8:=rfl;rw[<-r]at o;simpa using o
 have t:=q.o _ _ _ _ m;have o:=al (j.x (l.m j.size));clear j l p m i q;go_wp2_with fail;go_ret
 exact⟨rfl,o.o⟩
theorem IA(w:World)(v:Int)(k:List UInt8)(g:I6 v)(f:1<=k.length/\k.length<=16):Calls prog 175 #[.agg #[.int .i64 v,.string ⟨k.toArray⟩]] w fun s a=>s=.returned (.tuple #[.string ⟨(dM v k).toArray⟩,.int .i64 0])/\Below w.heap.size w a:=by
 obtain⟨c,a⟩:=rj w (.cells #[.int .i64 v,.string ⟨k.toArray⟩] 273);have e:dY k=0:=by unfold dY;rw[fb (by omega)]
 go_enter func175,ntmps175;go_upto_region 1 with fail;generalize w.alloc (.cells #[.int .i64 v,.string ⟨k.toArray⟩] 273)=b at c a⊢;obtain⟨R,q⟩:=rk (w.heap.size);rw[q]at a⊢;have l:b.cell? ⟨R,0,none⟩=some (.int .i64 v):=by simp[World.cell?,a]
 have o:b.cell? ⟨R,1,none⟩=some (.string ⟨k.toArray⟩):=by simp[World.cell?,a]
 have d:=al (eB b k);rw[e]at d;have h:=al (ab c a);have j:=al g;have i:=al f;clear c a e g f;go_wp2_with fail;refine d.o.m ?_;rintro s g ⟨rfl,e⟩;obtain rfl:b=g:=e;clear d;go_wp2_with fail;have f:=al (fun w=>pU w v j.o);have t: ¬9223372036854775807<(pfx v).length+k.length:=by rw[cu];have:=i.o;omega
 refine pt (S:=(fun W=>Below b.heap.size b W/\W.cell? ⟨R,0,none⟩=some (.int .i64 v)/\W.cell? ⟨R,1,none⟩=some (.string ⟨k.toArray⟩))) (by kernel_rfl) ⟨(bd _ _).drew,l,o⟩ (fun a=>?_);refine bj [0,1,3,4] ?_
 iterate 4 (refine dZ (v:=?_) (fun r b=>?_) a ?_;rotate_left;(obtain⟨n,p,m⟩:=b;go_simp;try with_reducible rfl);try simp only[aj,ak,ar,au])
 refine bq ?_;refine bA 2 (fun K c=>?_);go_simp;refine(f.o _).m ?_;rintro s u ⟨rfl,d⟩
 try go_simp
 refine c.o _ _ (tQ a d) ?_;clear c K a d;intro a
 try simp only[aj,ak,ar,au]
 refine bj [5,6,7] ?_
 iterate 3 (refine dZ (v:=?_) (fun r b=>?_) a ?_;rotate_left;(obtain⟨n,p,m⟩:=b;go_simp;try with_reducible rfl);try simp only[aj,ak,ar,au])
 refine bq ?_;refine pw (by kernel_rfl) ?_ _;obtain⟨b,-,-⟩:=a;go_wp2_with fail
 go_ret2
 refine⟨?_,h.o.1.x (b.m h.o.1.size)⟩;unfold dM;rw[<-PV];rfl
end Go.Proofs.YtehccbdajiiaaaaGreatDoor
