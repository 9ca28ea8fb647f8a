import Derived.Test.YtehccbdajiiaaaaGreatDoorP13
import Derived.Test.YtehccbdajiiaaaaGreatDoorP15
namespace Go.Proofs.YtehccbdajiiaaaaGreatDoor
open Go.Proofs.Tryz
set_option maxRecDepth 100000
set_option maxHeartbeats 16000000
open Go.RowKit
def jt(r:Rw):Nat->List UInt8
 |0=>[]
 |c+1=>jt r c++oD (qf (r.aL c))
theorem xE(r:Rw):jt r 4=fX r:=by simp[jt,fX,Rw.aL]
theorem xG(r:Rw): ∀k,(jt r k).length<=10*k
 |0=>by simp[jt]
 |k+1=>by have a:=xG r k;have b:=ja (qf (r.aL k));simp only[jt,gk];omega
theorem LD(r:Rw){k:Nat}(b:k<4): ∃a,fX r=jt r k++(oD (qf (r.aL k))++a)/\fX r=jt r (k+1)++a:=by
 rw[<-xE]
 match k,b with
 |0,_=>exact⟨oD (qf (r.aL 1))++oD (qf (r.aL 2))++oD (qf (r.aL 3)),by simp[jt],by simp[jt]⟩
 |1,_=>exact⟨oD (qf (r.aL 2))++oD (qf (r.aL 3)),by simp[jt],by simp[jt]⟩
 |2,_=>exact⟨oD (qf (r.aL 3)),by simp[jt],by simp[jt]⟩
 |3,_=>exact⟨[],by simp[jt],by simp[jt]⟩
theorem SI{n:Int}(h:I6 n)(a:List UInt8):mL (oD (qf n)++a)=some (n,a):=by have b:=Oj h.1 (by have:=h.2;omega);have:=R6 9 0 0 (qf n) a rfl (by simpa using b) (.inl rfl);unfold mL oD;rw[this];simp[Su]
theorem dZ{w:World}{R:Nat}{r:Rw}{t:TypeId}(h:w.heap[R]?=some (.cells #[rv r.a,rv r.b,rv r.c,rv r.d] t (0,0))){k:Nat}(a:k<4):w.cell? ⟨R,k,none⟩=some (rv (r.aL k)):=by
 match k,a with
 |0,_|1,_|2,_|3,_=>simp[World.cell?,h,Rw.aL]
theorem OZ{w:World}{R:Nat}{cs:Array Value}{t:TypeId}(h:w.heap[R]?=some (.cells cs t (0,0)))(k:Nat):w.frozen? ⟨R,k,none⟩=false:=by simp[World.frozen?,h]
theorem AP(w:World)(r:Rw)(o: ∀C,I6 (r.aL C)):Calls prog 124 #[r.val] w (JE 5 ((fX r).map B8) w):=by
 obtain⟨d,c,b,a⟩:=r;unfold Rw.val;obtain⟨j,f⟩:=rk w (sg d c b a);have A:=al o;go_enter func124,ntmps124;go_upto_region 1 with fail;generalize w.alloc (sg d c b a)=g at j f⊢;obtain⟨R,p⟩:=rl (w.heap.size);rw[p]at f⊢;obtain⟨h,l⟩:=rk g (.cells #[.slice none 0 0] 281);have m:=qS h f;go_upto_region 2 with fail;generalize g.alloc (.cells #[.slice none 0 0] 281)=e at h l m⊢;obtain⟨W,q⟩:=rl (g.heap.size);rw[q]at l⊢;have n:R<W:=by have:=aP f;omega
 have H:=al (show Below w.heap.size w e/\yT e (fun k=>W<=k) W []/\e.heap[R]?=some (sg d c b a)/\R<W/\w.heap.size<=R from
  ⟨j.x (h.m j.size),⟨_,l,b8 _,ea _ _ _ _,fun t g=>by simp[Value.ownBlock]at g⟩,m,n,by omega⟩)
 clear j f p h l m q o n;go_wp2_with fail
 go_loopw [7] (fun i wr=> ∃k:Nat,k<=4/\i=rv (k:Int)/\yT wr (fun k=>W<=k) W (jt ⟨d,c,b,a⟩ k)/\Only (fun k=>W<=k) e wr) (fun i _=>4-(intOf i).toNat)
 case atStart=>exact⟨0,by decide,rfl,H.o.2.1,oT _ _⟩
 case round=>
  obtain⟨k,x,rfl,h,f⟩:=hrel;by_cases v:k<4
  ·have p:=f.heap H.o.d.1 (fun u=>by have:=H.o.t.1;omega);have o:=dZ (r:=⟨d,c,b,a⟩) p v;have J:(0:Int)<=(k:Int):=by omega
   have G:(k:Int)<4:=by omega
   obtain⟨D,n⟩:=rl (Rw.aL ⟨d,c,b,a⟩ k);have j:=A.o k;rw[n]at o j;have q:=xG ⟨d,c,b,a⟩ k;have l:=al (Wf wr _ W _ h D j.1 (by have:=j.2;omega) (by omega));have m:=AI n f;clear h f p n j q;go_wp2_with fail;refine l.o.m ?_;rintro L j ⟨rfl,q,I,p,n⟩
   have s:=al (show yT j (fun k=>W<=k) W (jt ⟨d,c,b,a⟩ (k+1))/\Only (fun k=>W<=k) e j from by
    have F:=m.o.2.size;have E:=aP H.o.2.1.choose_spec.1;refine⟨?_,m.o.2.x q (fun _ _ u=>u)⟩;rw[show jt ⟨d,c,b,a⟩ (k+1)=jt ⟨d,c,b,a⟩ k++oD (qf D) by rw[jt,m.o.1]];obtain⟨B,z,K,e,y⟩:=p
    exact⟨B,z,b8 _,e,fun t g=>by rcases n t (y t g)with u|u<;>omega⟩)
   clear q p n o;go_wp2_with fail;go_roundw
   case rel=>exact⟨k+1,by omega,by go_num,s.o.1,s.o.2⟩
   case measure=>simp[intOf];omega
  ·obtain rfl:k=4:=by omega
   have l:=AI (Lp wr _ W _ h (by have:=xG ⟨d,c,b,a⟩ 4;omega)) f;clear h f;go_wp2_with fail;refine l.o.1.m ?_;rintro L j ⟨m,C,rfl,f,h⟩;have e:=AI f h;clear f h;go_wp2_with fail;go_ret
   have f:Below w.heap.size w wr:=H.o.1.x (l.o.2.aI H.o.1.size (fun k x u=>by have:=H.o.t;omega));rw[xE]at e⊢;refine⟨m,C,by simp,dF e.o.1 (fun t g=>by have:=(e.o.1.lt t g).1;have:=f.size;omega),f.x (e.o.2.m f.size)⟩
def nC(r:Rw)(k:Nat):Rw:=⟨if 0<k then r.a else 0,if 1<k then r.b else 0,if 2<k then r.c else 0,if 3<k then r.d else 0⟩
theorem O1(r:Rw){k:Nat}(a:k<4):(#[rv (nC r k).a,rv (nC r k).b,rv (nC r k).c,rv (nC r k).d]:Array Value).setIfInBounds k (rv (r.aL k))= #[rv (nC r (k+1)).a,rv (nC r (k+1)).b,rv (nC r (k+1)).c,rv (nC r (k+1)).d]:=by
 match k,a with
 |0,_|1,_|2,_|3,_=>simp[nC,Rw.aL]
theorem LF(w:World)(v:Value)(r:Rw)(F:Nat->Prop)(a: ∀S,I6 (r.aL S))(g:Rd w F v ((fX r).map B8)):
  Calls prog 76 #[v] w fun z b=>z=.returned (.tuple #[r.val,rv 0])/\Below w.heap.size w b:=by
 obtain⟨b,c⟩:=rk w (sg 0 0 0 0);have O:=al a;have e:=g.below b;obtain⟨Y,X,S,rfl,_⟩:=id g;clear a g;go_enter func76,ntmps76;go_upto_region 1 with fail;generalize w.alloc (sg 0 0 0 0)=a at b c e⊢;obtain⟨R,f⟩:=rl (w.heap.size);rw[f]at c⊢;have d:=al (JL a F _ (fX r) e (by have:=rF r;omega));have a:=AM b c f;clear b c f e;go_wp2_with fail;refine d.o.m ?_;rintro z b ⟨y,rfl,c,e⟩;obtain⟨f,l⟩:=rk b (sg 0 0 0 0)
 have h:=al (show Below w.heap.size w (b.alloc (sg 0 0 0 0))/\bp (b.alloc (sg 0 0 0 0)) (fun k=>R<k/\k<b.heap.size) y (fX r) 0/\
   (b.alloc (sg 0 0 0 0)).heap[R]?=some (sg 0 0 0 0)/\R<b.heap.size/\w.heap.size<=R from by
  have s:=aP a.o.2.1;obtain⟨t,u,j,o,p,n⟩:=e.bound
  exact⟨(a.o.1.x (c.m a.o.1.size)).x (f.m (dp a.o.1.size c.size)),(show bp b (fun k=>R<k/\k<b.heap.size) y (fX r) 0 from⟨t,u,⟨by omega,j.2⟩,o,p,fun q m=>⟨⟨by have:=(n q m).1.1;omega,(n q m).1.2⟩,(n q m).2⟩⟩).below f,
   qS (c.x (f.m c.size)) a.o.2.1,by have:=c.size;omega,by have:=a.o.d;omega⟩)
 clear c e f d;go_upto_region 4 with fail;generalize b.alloc (sg 0 0 0 0)=x at h l⊢;obtain⟨B,c⟩:=rl (b.heap.size);rw[c]at h l⊢;have L:=al l;clear c l a;go_wp2_with fail
 go_loopw [14] (fun i wr=> ∃k:Nat,k<=4/\i=rv (k:Int)/\bp wr (fun k=>R<k/\k<B) y (fX r) (jt r k).length/\Only (fun k=>R<k) x wr/\
   wr.heap[B]?=some (sg ((nC r k).a) ((nC r k).b) ((nC r k).c) ((nC r k).d))) (fun i _=>4-(intOf i).toNat)
 case atStart=>exact⟨0,by decide,rfl,h.o.2.1,oT _ _,L.o⟩
 case round=>
  obtain⟨k,P,rfl,e,m,n⟩:=hrel;have U:y<B:=by obtain⟨t,u,j,_⟩:=e;exact j.2
  have K:R<y:=by obtain⟨t,u,j,_⟩:=e;exact j.1
  by_cases p:k<4
  ·have d:=al (Om wr _ y _ _ e);have f:=AI m n;have W:(0:Int)<=(k:Int):=by omega
   have V:(k:Int)<4:=by omega
   obtain⟨v,g⟩:=rl (r.aL k);have s:=al g;clear e m n g;go_wp2_with fail;refine d.o.m ?_;rintro z c ⟨a,D⟩;obtain⟨I,G,C⟩:=LD r p;have H:(fX r).drop (jt r k).length=oD (qf (r.aL k))++I:=by rw[G,List.drop_left]
   rw[H,SI (O.o k),s.o]at D;obtain⟨rfl,E,A,J,o⟩:=D
   have M:E=(jt r (k+1)).length:=by
    have N:E<=(fX r).length:=by obtain⟨_,_,_,l,_⟩:=o;exact l
    have q:=ew List.length A;have g:=ew List.length C;rw[nf]at q;rw[gk]at g;omega
   subst M;have g:=a.heap f.o.2 (fun z=>by omega);have Q:=dZ (r:=nC r k) g p;have M:=OZ g k
   have N:=al (show bp (c.setCell ⟨B,k,none⟩ (rv v)) (fun k=>R<k/\k<B) y (fX r) (jt r (k+1)).length/\Only (fun k=>R<k) x (c.setCell ⟨B,k,none⟩ (rv v))/\
     (c.setCell ⟨B,k,none⟩ (rv v)).heap[B]?=some (sg ((nC r (k+1)).a) ((nC r (k+1)).b) ((nC r (k+1)).c) ((nC r (k+1)).d))from by
    refine⟨o.only (bg c B k _) (fun T q z=>by omega),(f.o.1.x (a.m (fun T _ q=>by subst q;exact K)) (fun _ _ l=>l)).x (bg c B k _) (fun T _ q=>by omega),?_⟩
    rw[heap_setCell_same c B k _ _ (rv v) g,<-s.o,O1 r p])
   clear a H G C A J o g d f s;go_wp2_with fail;go_roundw
   case rel=>exact⟨k+1,by omega,by go_num,N.o⟩
   case measure=>simp[intOf];omega
  ·obtain rfl:k=4:=by omega
   have d:=al (JK wr _ y _ _ e);have f:=AI m n;have o:(fX r).length-(jt r 4).length=0:=by rw[xE];omega
   rw[o]at d;clear e m n o;go_wp2_with fail;refine d.o.m ?_;rintro z c ⟨rfl,a⟩;have g:=a.heap f.o.2 (fun l=>l);have o:=a.heap (f.o.1.heap h.o.d.1 (fun z=>by omega)) (fun l=>l);simp only[nC,show(0:Nat)<4 by decide,show(1:Nat)<4 by decide,show(2:Nat)<4 by decide,show(3:Nat)<4 by decide,if_true]at g;obtain⟨⟨C,J,G,V⟩,-⟩:=cX g;obtain⟨⟨Q,M,T,D⟩,I,E,N,H⟩:=cX o;obtain⟨q,m,e,n⟩:=r;have A: ¬B=R:=by omega
   have s:=AI o (show Only (fun k=>R<k) x c from f.o.1.x a (fun _ _ l=>l.elim));clear g o a d f;go_wp2_with fail;have f:=Au (v0:=rv q) (v1:=rv m) (v2:=rv e) (v3:=rv n) s.o.1;have a:=(((bg c R 0 (rv q)).setCell (p:=⟨R,1,none⟩) (fun _=>rfl) (rv m)).setCell (p:=⟨R,2,none⟩) (fun _=>rfl) (rv e)).setCell (p:=⟨R,3,none⟩) (fun _=>rfl) (rv n);have d:=AI f a;clear f a;generalize ((((c.setCell ⟨R,0,none⟩ (rv q)).setCell ⟨R,1,none⟩ (rv m)).setCell ⟨R,2,none⟩ (rv e)).setCell ⟨R,3,none⟩ (rv n))=a at d⊢;refine dj (ax rfl _ _ _ _ _ _ _ rfl d.o.1 underlying109 rfl (by kernel_rfl)) rfl ⟨rfl,?_⟩;exact h.o.1.x (((s.o.2.mono (T:=fun k=>R<=k) (fun k _ l=>by omega)).x (d.o.2.mono (T:=fun k=>R<=k) (fun k _ l=>by omega)) (fun _ _ l=>l)).aI h.o.1.size (fun k P l=>by have:=h.o.q;omega))
def Ch.cells(x:Ch):List Value:=[rv (x.aL:Int),rv x.v,sd x.k,.bool x.add]
def yX(l:List Ch):List Value:=(l.map Ch.cells).flatten
theorem SJ(l m:List Ch):yX (l++m)=yX l++yX m:=by simp[yX]
theorem sW(l:List Ch): ∀y∈l.map Ch.cells,y.length=4:=by intro y a;obtain⟨x,_,rfl⟩:=eh.1 a;rfl
theorem WE(l:List Ch): ∀u∈(l.map Ch.cells).flatten,u.oneCell'=true:=by intro u a;obtain⟨y,b,a⟩:=List.mem_flatten.1 a;obtain⟨x,_,rfl⟩:=eh.1 b;simp only[Ch.cells,List.mem_cons,List.not_mem_nil,or_false]at a;rcases a with rfl|rfl|rfl|rfl<;>rfl
theorem Tryz.WG:(prog.info? 275).map (fun i=>(i.zero,i.size,i.bytes))=some (some (.agg #[rv 0,rv 0,.string ⟨#[]⟩,.bool false]),4,40):=by kernel_rfl
def lq(w:World)(v:Value):Option Rw->Prop
 |none=>v=.pointer none
 |some r=> ∃b,v=r7 b/\w.heap[b]?=some (sg r.a r.b r.c r.d)
theorem lu(w:World)(base:Nat)(v f:Value)(l m:List Ch)(F:Nat->Prop)(b:w.ownsRow base 275 4 v l.length (yX l))(c:bJ 4 w F f (m.map Ch.cells))(d:l.length+m.length<=1000)(g:base<=w.heap.size):
  Calls prog 217 #[v,f] w fun h e=> ∃a,h=.returned a/\e.ownsRow base 275 4 a (l++m).length (yX (l++m))/\Only (fun k=>v.ownBlock=some k) w e/\(a.ownBlock=v.ownBlock\/a.ownBlock=some w.heap.size):=by
 obtain⟨k,j,h,i,e⟩:=ef Tryz.WG;obtain⟨A,q,rfl⟩:=ar b;obtain⟨o,p,n,rfl,_⟩:=id c;have H:=AN b c d g;clear b c d g;go_enter func217,ntmps217;go_wp2_with (at_builtin;go_loud (refine dS _ rfl _ _ 269 rfl base 275 k _ 4 40 underlying269 j h i e rfl (by decide) _ l.length (yX l) rfl H.o.1 F _ (m.map Ch.cells) rfl H.o.2.1 (sW m) (WE m) (by have:=H.o.d.1;simp;omega) (by have:=H.o.d.1;simp[maxLen];omega) H.o.t ?_);intro a g c b d);go_ret
 refine⟨a,rfl,?_,Only.of_grownBy b,d⟩;rw[SJ,gk];have a:=c;rw[eS]at a;exact a
theorem Cz{w:World}{X:Nat}{x:Ch}{t:TypeId}(h:w.heap[X]?=some (.cells #[rv (x.aL:Int),rv x.v,sd x.k,.bool x.add] t (0,0))):bJ 4 w (fun _=>True) (.slice (some ⟨X,0,none⟩) 1 1) ([x].map Ch.cells):=by refine⟨_,1,1,rfl,rfl,b8 _,by simp[maxLen],fun _=>⟨X,0,rfl,trivial,fun i y c j u b=>?_⟩⟩;have a:=jP (k:=4) (xs:=[x].map Ch.cells) (sW [x]) i y c j u b;rw[World.cell?,h];have b:(#[rv (x.aL:Int),rv x.v,sd x.k,.bool x.add]:Array Value).toList=([x].map Ch.cells).flatten:=rfl;rw[<-b]at a;simpa using a
def ju(k:List UInt8)(old now:Option Rw)(c:Nat):List Ch:=
 (match old with
  |some o=>[⟨c,o.aL c,k,false⟩]
  |none=>[])++(match now with
  |some n=>[⟨c,n.aL c,k,true⟩]
  |none=>[])
theorem pD{k:List UInt8}{old now:Option Rw}{c:Nat}(h: ∀o n,old=some o->now=some n->o.aL c≠n.aL c):MW k old now c=ju k old now c:=by
 unfold MW ju;split
 ·rename_i o n;rw[ff (h o n rfl rfl)];rfl
 ·rfl
 ·rfl
 ·rfl
def ChP(l:List Ch)(w:World)(e:Ending)(w':World):Prop:= ∃v,e=.returned v/\w'.ownsRow w.heap.size 275 4 v l.length (yX l)/\Below w.heap.size w w'
theorem LG(w:World)(k:List UInt8)(c:Nat)(l:c<4)(f:Nat)(n:Rw)(a:w.heap[f]?=some (sg n.a n.b n.c n.d)):Calls prog 218 #[rv (c:Int),sd k,.pointer none,r7 f] w (ChP (ju k none (some n) c) w):=by
 have o:(0:Int)<=(c:Int):=by omega
 have t:(c:Int)<4:=by omega
 have i:=dZ a l;obtain⟨y,b⟩:=rl (n.aL c);rw[b]at i;have H:=AI a b;clear a b;go_enter func218,ntmps218;have b:w.ownsRow w.heap.size 275 4 (.slice none 0 0) ([]:List Ch).length (yX []):=ea _ _ _ _;have a:=AI b (aw w.heap.size w);clear b;obtain⟨d,g⟩:=rk w (tc (c:Int) y k.toArray true);have e:=bD a.o.1 d;have b:=AI (lu (w.alloc (tc (c:Int) y k.toArray true)) w.heap.size (.slice none 0 0) (.slice (some ⟨w.heap.size,0,none⟩) 1 1) [] [⟨c,y,k,true⟩] (fun _=>True) e (Cz g) (by simp) (by have:=a.o.2.size;have:=d.size;omega)) d;clear d g e;go_wp2_with fail;refine b.o.1.m ?_;rintro u j ⟨r,rfl,d,e,h⟩;obtain⟨q,s,rfl⟩:=ar d;have g:=AI d (show Below w.heap.size w j from(a.o.2.x (b.o.2.m a.o.2.size)).x (e.aI (dp a.o.2.size b.o.2.size) (fun k p m=>?_)));rotate_left
 ·simp[Value.ownBlock]at m
 clear d e h b;go_wp2_with fail;go_ret
 refine⟨_,rfl,?_,g.o.2⟩;have m:=g.o.1;unfold ju;simp only[H.o.2];exact m
theorem LH(w:World)(k:List UInt8)(c:Nat)(l:c<4)(f:Nat)(o:Rw)(b:w.heap[f]?=some (sg o.a o.b o.c o.d)):Calls prog 218 #[rv (c:Int),sd k,r7 f,.pointer none] w (ChP (ju k (some o) none c) w):=by
 have p:(0:Int)<=(c:Int):=by omega
 have t:(c:Int)<4:=by omega
 have i:=dZ b l;obtain⟨x,a⟩:=rl (o.aL c);rw[a]at i;have H:=AI b a;clear b a;go_enter func218,ntmps218;have a:w.ownsRow w.heap.size 275 4 (.slice none 0 0) ([]:List Ch).length (yX []):=ea _ _ _ _;have e:=AI a (aw w.heap.size w);clear a;obtain⟨b,g⟩:=rk w (tc (c:Int) x k.toArray false);have d:=bD e.o.1 b;have a:=AI (lu (w.alloc (tc (c:Int) x k.toArray false)) w.heap.size (.slice none 0 0) (.slice (some ⟨w.heap.size,0,none⟩) 1 1) [] [⟨c,x,k,false⟩] (fun _=>True) d (Cz g) (by simp) (by have:=e.o.2.size;have:=b.size;omega)) b;clear b g d;go_wp2_with fail;refine a.o.1.m ?_;rintro u j ⟨q,rfl,b,d,h⟩;obtain⟨n,s,rfl⟩:=ar b;have g:=AI b (show Below w.heap.size w j from a.o.2.x (d.aI a.o.2.size (fun k r m=>by simp[Value.ownBlock]at m)));clear b d h a;go_wp2_with fail;go_ret
 refine⟨_,rfl,?_,g.o.2⟩;have m:=g.o.1;unfold ju;simp only[H.o.2];exact m
theorem LI(w:World)(k:List UInt8)(c:Nat)(q:c<4)(p:Nat)(o:Rw)(d:w.heap[p]?=some (sg o.a o.b o.c o.d))(i:Nat)(n:Rw)(b:w.heap[i]?=some (sg n.a n.b n.c n.d)):Calls prog 218 #[rv (c:Int),sd k,r7 p,r7 i] w (ChP (ju k (some o) (some n) c) w):=by
 have C:(0:Int)<=(c:Int):=by omega
 have B:(c:Int)<4:=by omega
 have t:=dZ d q;obtain⟨y,a⟩:=rl (o.aL c);rw[a]at t;have j:=dZ b q;obtain⟨z,e⟩:=rl (n.aL c);rw[e]at j;have H:=AN d a b e;clear d a b e;go_enter func218,ntmps218;have a:w.ownsRow w.heap.size 275 4 (.slice none 0 0) ([]:List Ch).length (yX []):=ea _ _ _ _;have m:=AI a (aw w.heap.size w);clear a;obtain⟨b,f⟩:=rk w (tc (c:Int) y k.toArray false);have e:=bD m.o.1 b;have a:=AI (lu (w.alloc (tc (c:Int) y k.toArray false)) w.heap.size (.slice none 0 0) (.slice (some ⟨w.heap.size,0,none⟩) 1 1) [] [⟨c,y,k,false⟩] (fun _=>True) e (Cz f) (by simp) (by have:=m.o.2.size;have:=b.size;omega)) b;clear b f e;go_wp2_with fail;refine a.o.1.m ?_;rintro F g ⟨A,rfl,h,l,x⟩;obtain⟨v,u,rfl⟩:=ar h;simp only[fm,jj,nF,gR]at h⊢;have d:=AI h (show Below w.heap.size w g from a.o.2.x (l.aI a.o.2.size (fun k s r=>by simp[Value.ownBlock]at r)));clear h l x a;have j:g.cell? ⟨i,c,none⟩=some (rv z):=(d.o.2.cell (p:=⟨i,c,none⟩) (aq w _ j)).x j;obtain⟨b,f⟩:=rk g (tc (c:Int) z k.toArray true);have e:=bD d.o.1 b;have a:=AI (lu (g.alloc (tc (c:Int) z k.toArray true)) w.heap.size (.slice v 1 u) (.slice (some ⟨g.heap.size,0,none⟩) 1 1) [⟨c,y,k,false⟩] [⟨c,z,k,true⟩] (fun _=>True) e (Cz f) (by simp) (by have:=d.o.2.size;have:=b.size;omega)) b;clear b f e;go_wp2_with fail;refine a.o.1.m ?_;rintro F h ⟨x,rfl,b,e,l⟩;obtain⟨D,E,rfl⟩:=ar b;have f:=AI b (show Below w.heap.size w h from(d.o.2.x (a.o.2.m d.o.2.size)).x (e.aI (dp d.o.2.size a.o.2.size) (fun k s r=>?_)));rotate_left
 ·have:=(d.o.1.lt k r).1;omega
 clear b e l a;go_wp2_with fail;go_ret
 refine⟨_,rfl,?_,f.o.2⟩;have r:=f.o.1;unfold ju;simp only[H.o.2.1,H.o.t];exact r
def SK(l:List Ch)(w:World)(e:Ending)(w':World):Prop:= ∃v,e=.returned (.tuple #[v,rv 0])/\w'.ownsRow w.heap.size 275 4 v l.length (yX l)/\Below w.heap.size w w'
theorem aap{o n:Rw}(h:o.a=n.a/\o.b=n.b/\o.c=n.c/\o.d=n.d):o=n:=by cases o;cases n;simp only at h;obtain⟨rfl,rfl,rfl,rfl⟩:=h;rfl
theorem JX{k:List UInt8}{o n:Rw}{c:Nat}(h:o.aL c=n.aL c):MW k (some o) (some n) c=[]:=fi h
theorem JY{k:List UInt8}(o:Rw): ∀c,jl k (some o) (some o) c=[]
 |0=>rfl
 |c+1=>by rw[jl,JY o c,JX rfl];rfl
theorem Hc(w:World)(k:List UInt8)(d:1<=k.length/\k.length<=16)(o:Nat)(n:Rw)(c:w.heap[o]?=some (sg n.a n.b n.c n.d)):Calls prog 174 #[sd k,.pointer none,r7 o] w (SK (Lr k none (some n)) w):=by
 have b:dN k=0:=by unfold dN;rw[ff (by omega)]
 have a:=al (dU w k);rw[b]at a;have B:=al c;clear b d c;go_enter func174,ntmps174;go_wp2_with fail;refine a.o.m ?_;rintro G I ⟨rfl,rfl⟩;clear a;go_wp2_with fail;go_quiet(fail);go_wp2_with fail
 go_loopw [10,33] (fun v i wr=> ∃c:Nat,c<=4/\i=rv (c:Int)/\wr.ownsRow w.heap.size 275 4 v (jl k none (some n) c).length (yX (jl k none (some n) c))/\Below w.heap.size w wr) (fun _ i _=>4-(intOf i).toNat)
 case atStart=>exact⟨0,by decide,rfl,ea _ _ _ _,Only.aI ((oT (fun _=>False) w).drewN _) (b8 _) (fun _ _ q=>q)⟩
 case round=>
  obtain⟨c,J,rfl,b,e⟩:=hrel;obtain⟨L,A,rfl⟩:=ar b;by_cases r:c<4
  ·have C:(0:Int)<=(c:Int):=by omega
   have z:(c:Int)<4:=by omega
   have a:=AI b e;have f:=rG k none (some n) c;obtain⟨N,d⟩:=rl ((jl k none (some n) c).length);rw[d]at f;have j:=AI d f;rw[d];clear b f d;go_wp2_with fail;go_quiet(fail);have l: ∀n,Below w.heap.size w (wr.drewN n):=fun n=>Only.aI ((ri e).drewN n) (b8 _) (fun _ _ q=>q);go_wp2_with fail;refine(LG _ k c r o n (qS (l _) B.o)).m ?_;rintro G g ⟨H,rfl,m,f⟩;obtain⟨E,F,rfl⟩:=ar m;obtain⟨y,d⟩:=rl ((ju k none (some n) c).length);have x:y<=2:=by rw[<-d,<-pD (fun K n p D=>by cases p)];exact vg k none (some n) c
   have t:bJ 4 g (fun _=>True) (.slice E (ju k none (some n) c).length F) ((ju k none (some n) c).map Ch.cells):=bJ.bO m (sW _) (by decide) (fun _ _=>trivial);have u:g.ownsRow w.heap.size 275 4 (.slice L (jl k none (some n) c).length A) (jl k none (some n) c).length (yX (jl k none (some n) c)):=bD (aQ a.o.1 ((oT (fun _=>False) wr).drewN _) (fun _ _ q=>q)) f;have h:=al (lu g w.heap.size _ _ (jl k none (some n) c) (ju k none (some n) c) (fun _=>True) u t (by rw[j.o.1,d];have:=j.o.2;omega) (by have:=a.o.2.size;have:=f.size;simp at this;omega));have s:=al (show Below w.heap.size w g from(l _).x (f.m (l _).size));rw[j.o.1]at h;rw[d]at h;rw[d];clear m f t u e l d x C z;go_wp2_with fail;refine h.o.m ?_;rintro G m ⟨z,rfl,d,l,t⟩;obtain⟨x,u,rfl⟩:=ar d
   have f:=al (show m.ownsRow w.heap.size 275 4 (.slice x (jl k none (some n) c++ju k none (some n) c).length u) (jl k none (some n) (c+1)).length (yX (jl k none (some n) (c+1)))/\Below w.heap.size w m from by
    have G:jl k none (some n) (c+1)=jl k none (some n) c++ju k none (some n) c:=by rw[jl,pD (fun K n p D=>by cases p)]
    refine⟨by rw[G];exact d,s.o.x (l.aI s.o.size (fun C p q=>?_))⟩;have r:=(a.o.1.lt C (by rw[j.o.1];exact q)).1
    omega)
   clear d l t h;go_wp2_with fail;go_roundw
   case rel=>exact⟨c+1,by omega,by go_num,by rw[<-gk];exact f.o.1,f.o.2⟩
   case measure=>simp[intOf];omega
  ·obtain rfl:c=4:=by omega
   have a:=AI b e;clear b e;go_wp2_with fail
   go_ret2
   exact⟨_,rfl,a.o.1,a.o.2⟩
theorem He(w:World)(k:List UInt8)(d:1<=k.length/\k.length<=16)(p:Nat)(o:Rw)(c:w.heap[p]?=some (sg o.a o.b o.c o.d)):Calls prog 174 #[sd k,r7 p,.pointer none] w (SK (Lr k (some o) none) w):=by
 have b:dN k=0:=by unfold dN;rw[ff (by omega)]
 have a:=al (dU w k);rw[b]at a;have C:=al c;clear b d c;go_enter func174,ntmps174;go_wp2_with fail;refine a.o.m ?_;rintro H J ⟨rfl,rfl⟩;clear a;go_wp2_with fail;go_quiet(fail);go_wp2_with fail
 go_loopw [10,33] (fun v i wr=> ∃c:Nat,c<=4/\i=rv (c:Int)/\wr.ownsRow w.heap.size 275 4 v (jl k (some o) none c).length (yX (jl k (some o) none c))/\Below w.heap.size w wr) (fun _ i _=>4-(intOf i).toNat)
 case atStart=>exact⟨0,by decide,rfl,ea _ _ _ _,Only.aI ((oT (fun _=>False) w).drewN _) (b8 _) (fun _ _ q=>q)⟩
 case round=>
  obtain⟨c,K,rfl,b,e⟩:=hrel;obtain⟨L,B,rfl⟩:=ar b;by_cases r:c<4
  ·have D:(0:Int)<=(c:Int):=by omega
   have A:(c:Int)<4:=by omega
   have a:=AI b e;have f:=rG k (some o) none c;obtain⟨N,d⟩:=rl ((jl k (some o) none c).length);rw[d]at f;have j:=AI d f;rw[d];clear b f d;go_wp2_with fail;go_quiet(fail);have l: ∀x,Below w.heap.size w (wr.drewN x):=fun x=>Only.aI ((ri e).drewN x) (b8 _) (fun _ _ q=>q);go_wp2_with fail;refine(LH _ k c r p o (qS (l _) C.o)).m ?_;rintro H g ⟨I,rfl,m,f⟩;obtain⟨F,G,rfl⟩:=ar m;obtain⟨z,d⟩:=rl ((ju k (some o) none c).length);have y:z<=2:=by rw[<-d,<-pD (fun o x E n=>by cases n)];exact vg k (some o) none c
   have t:bJ 4 g (fun _=>True) (.slice F (ju k (some o) none c).length G) ((ju k (some o) none c).map Ch.cells):=bJ.bO m (sW _) (by decide) (fun _ _=>trivial);have u:g.ownsRow w.heap.size 275 4 (.slice L (jl k (some o) none c).length B) (jl k (some o) none c).length (yX (jl k (some o) none c)):=bD (aQ a.o.1 ((oT (fun _=>False) wr).drewN _) (fun _ _ q=>q)) f;have h:=al (lu g w.heap.size _ _ (jl k (some o) none c) (ju k (some o) none c) (fun _=>True) u t (by rw[j.o.1,d];have:=j.o.2;omega) (by have:=a.o.2.size;have:=f.size;simp at this;omega));have s:=al (show Below w.heap.size w g from(l _).x (f.m (l _).size));rw[j.o.1]at h;rw[d]at h;rw[d];clear m f t u e l d y D A;go_wp2_with fail;refine h.o.m ?_;rintro H m ⟨A,rfl,d,l,t⟩;obtain⟨y,u,rfl⟩:=ar d
   have f:=al (show m.ownsRow w.heap.size 275 4 (.slice y (jl k (some o) none c++ju k (some o) none c).length u) (jl k (some o) none (c+1)).length (yX (jl k (some o) none (c+1)))/\Below w.heap.size w m from by
    have H:jl k (some o) none (c+1)=jl k (some o) none c++ju k (some o) none c:=by rw[jl,pD (fun o x E n=>by cases n)]
    refine⟨by rw[H];exact d,s.o.x (l.aI s.o.size (fun x n q=>?_))⟩;have r:=(a.o.1.lt x (by rw[j.o.1];exact q)).1
    omega)
   clear d l t h;go_wp2_with fail;go_roundw
   case rel=>exact⟨c+1,by omega,by go_num,by rw[<-gk];exact f.o.1,f.o.2⟩
   case measure=>simp[intOf];omega
  ·obtain rfl:c=4:=by omega
   have a:=AI b e;clear b e;go_wp2_with fail
   go_ret2
   exact⟨_,rfl,a.o.1,a.o.2⟩
theorem Hf(w:World)(k:List UInt8)(f:1<=k.length/\k.length<=16)(y:Nat)(o:Rw)(e:w.heap[y]?=some (sg o.a o.b o.c o.d))(x:Nat)(n:Rw)(c:w.heap[x]?=some (sg n.a n.b n.c n.d)):Calls prog 174 #[sd k,r7 y,r7 x] w (SK (Lr k (some o) (some n)) w):=by
 have b:dN k=0:=by unfold dN;rw[ff (by omega)]
 have a:=al (dU w k);rw[b]at a;have d:=AI e c;clear b f e c;go_enter func174,ntmps174;go_wp2_with fail;refine a.o.m ?_;rintro O S ⟨rfl,rfl⟩;clear a;go_wp2_with fail;obtain⟨⟨c,l,g,p⟩,-⟩:=cX d.o.1;obtain⟨⟨s,e,m,j⟩,-⟩:=cX d.o.2;have b:=fun(w:World)=>eq4 w o.a o.b o.c o.d n.a n.b n.c n.d;have C:=Tryz.Wj;by_cases a:o=n
 ·subst a;go_quiet(fail);go_wp2_with fail
  go_ret2
  refine⟨_,rfl,?_,Only.aI ((oT (fun _=>False) w).drewN _) (b8 _) (fun _ _ h=>h)⟩;unfold Lr;rw[JY];exact ea _ _ _ _
 ·have f:(decide (o.a=n.a)&&(decide (o.b=n.b)&&(decide (o.c=n.c)&&decide (o.d=n.d))))=false:=by
   rw[Bool.eq_false_iff];intro h;simp only[mw,decide_eq_true_eq]at h;exact a (aap h)
  clear a;go_quiet(fail);clear c l g p s e m j b C f;go_wp2_with fail
  go_loopw [10,33] (fun v i wr=> ∃c:Nat,c<=4/\i=rv (c:Int)/\wr.ownsRow w.heap.size 275 4 v (jl k (some o) (some n) c).length (yX (jl k (some o) (some n) c))/\Below w.heap.size w wr) (fun _ i _=>4-(intOf i).toNat)
  case atStart=>exact⟨0,by decide,rfl,ea _ _ _ _,Only.aI ((oT (fun _=>False) w).drewN _) (b8 _) (fun _ _ h=>h)⟩
  case round=>
   obtain⟨c,T,rfl,e,a⟩:=hrel;obtain⟨U,H,rfl⟩:=ar e;by_cases p:c<4
   ·have L:(0:Int)<=(c:Int):=by omega
    have K:(c:Int)<4:=by omega
    have b:=AI e a;have j:=rG k (some o) (some n) c;obtain⟨V,g⟩:=rl ((jl k (some o) (some n) c).length);rw[g]at j;have f:=AI g j;rw[g];clear e j g;have D:=dZ (qS a d.o.1) p;have s:=dZ (qS a d.o.2) p;obtain⟨P,j⟩:=rl (o.aL c);obtain⟨Q,g⟩:=rl (n.aL c);rw[j]at D;rw[g]at s;by_cases l:P=Q
    ·subst l;have r:=al (show o.aL c=n.aL c from j.x g.symm);clear j g;go_wp2_with fail;go_quiet(fail);go_wp2_with fail;go_roundw
     case rel=>refine⟨c+1,by omega,by go_num,?_,Only.aI ((ri a).drewN _) (b8 _) (fun _ _ h=>h)⟩;rw[jl,JX r.o,gr,<-f.o.1];exact aQ b.o.1 ((oT (fun _=>False) wr).drewN _) (fun _ _ h=>h)
     case measure=>simp[intOf];omega
    ·have r:=al (show o.aL c≠n.aL c from by rw[j,g];exact l);have J:(P==Q)=false:=by simpa using l
     clear j g;go_wp2_with fail;go_quiet(fail);have j: ∀n,Below w.heap.size w (wr.drewN n):=fun n=>Only.aI ((ri a).drewN n) (b8 _) (fun _ _ h=>h);go_wp2_with fail;refine(LI _ k c p y o (qS (j _) d.o.1) x n (qS (j _) d.o.2)).m ?_;rintro O t ⟨R,rfl,u,m⟩;obtain⟨M,N,rfl⟩:=ar u;obtain⟨G,g⟩:=rl ((ju k (some o) (some n) c).length);have I:G<=2:=by rw[<-g,<-pD (fun o n A z=>by cases A;cases z;exact r.o)];exact vg k (some o) (some n) c
     have F:bJ 4 t (fun _=>True) (.slice M (ju k (some o) (some n) c).length N) ((ju k (some o) (some n) c).map Ch.cells):=bJ.bO u (sW _) (by decide) (fun _ _=>trivial);have B:t.ownsRow w.heap.size 275 4 (.slice U (jl k (some o) (some n) c).length H) (jl k (some o) (some n) c).length (yX (jl k (some o) (some n) c)):=bD (aQ b.o.1 ((oT (fun _=>False) wr).drewN _) (fun _ _ h=>h)) m;have q:=al (lu t w.heap.size _ _ (jl k (some o) (some n) c) (ju k (some o) (some n) c) (fun _=>True) B F (by rw[f.o.1,g];have:=f.o.2;omega) (by have:=b.o.2.size;have:=m.size;simp at this;omega));have E:=al (show Below w.heap.size w t from(j _).x (m.m (j _).size));rw[f.o.1]at q;rw[g]at q;rw[g];clear D s l J u m F B a j g I L K;go_wp2_with fail;refine q.o.m ?_;rintro O m ⟨D,rfl,g,l,B⟩;obtain⟨u,s,rfl⟩:=ar g
     have j:=al (show m.ownsRow w.heap.size 275 4 (.slice u (jl k (some o) (some n) c++ju k (some o) (some n) c).length s) (jl k (some o) (some n) (c+1)).length (yX (jl k (some o) (some n) (c+1)))/\Below w.heap.size w m from by
      have O:jl k (some o) (some n) (c+1)=jl k (some o) (some n) c++ju k (some o) (some n) c:=by rw[jl,pD (fun o n A z=>by cases A;cases z;exact r.o)]
      refine⟨by rw[O];exact g,E.o.x (l.aI E.o.size (fun z C h=>?_))⟩;have p:=(b.o.1.lt z (by rw[f.o.1];exact h)).1
      omega)
     clear g l B q;go_wp2_with fail;go_roundw
     case rel=>exact⟨c+1,by omega,by go_num,by rw[<-gk];exact j.o.1,j.o.2⟩
     case measure=>simp[intOf];omega
   ·obtain rfl:c=4:=by omega
    have b:=AI e a;clear e a;go_wp2_with fail
    go_ret2
    exact⟨_,rfl,b.o.1,b.o.2⟩
theorem O3(a b:List UInt8):(⟨a.toArray⟩:ByteArray)++⟨b.toArray⟩=⟨(a++b).toArray⟩:=by apply ByteArray.ext;simp
def O4(n k:Nat):List Value:=List.replicate (8-k) (.int .u8 0)++(be k (n%256^k)).map B8
theorem SL{n k:Nat}(a:k<=8):(O4 n k).length=8:=by simp[O4,F7];omega
theorem SM(n:Nat){k j:Nat}(f:k+j=7):(O4 n k).toArray.setIfInBounds j (B8 (UInt8.ofNat (n/256^k%256)))=(O4 n (k+1)).toArray:=by
 have d:8-k=j+1:=by omega
 have a:8-(k+1)=j:=by omega
 have c:be (k+1) (n%256^(k+1))=UInt8.ofNat (n/256^k%256)::be k (n%256^k):=by
  rw[be];have b:n%256^(k+1)/256^k=n/256^k%256:=by rw[Nat.pow_succ,Nat.mod_mul_right_div_self]
  have e:n%256^(k+1)%256^k=n%256^k:=Nat.mod_mod_of_dvd _ (Nat.pow_dvd_pow 256 (by omega));rw[b,e]
 unfold O4;rw[d,a,c,List.replicate_succ',List.setIfInBounds_toArray];congr 1;rw[lz,List.set_append_right _ _ (by simp),List.length_replicate,Nat.sub_self];simp
theorem aaq{w:World}{B:Nat}{e d j p o g h k v0 v1 v2 v3 v4 v5 v6 v7:Value}{t:TypeId}(q:w.heap[B]?=some (.cells #[e,d,j,p,o,g,h,k] t (0,0))):
  ((((((((w.setCell ⟨B,0,none⟩ v0).setCell ⟨B,1,none⟩ v1).setCell ⟨B,2,none⟩ v2).setCell ⟨B,3,none⟩ v3).setCell ⟨B,4,none⟩ v4).setCell ⟨B,5,none⟩ v5).setCell ⟨B,6,none⟩ v6).setCell ⟨B,7,none⟩ v7).heap[B]?=some (.cells #[v0,v1,v2,v3,v4,v5,v6,v7] t (0,0)):=by
 have b:=dd w B 0 _ t v0 q;have i:=dd _ B 1 _ t v1 b;have c:=dd _ B 2 _ t v2 i;have l:=dd _ B 3 _ t v3 c;have n:=dd _ B 4 _ t v4 l;have m:=dd _ B 5 _ t v5 n;have f:=dd _ B 6 _ t v6 m;have a:=dd _ B 7 _ t v7 f;simpa using a
theorem O5{α:Type}{l:List α}(h:l.length=8): ∃a b c d e f g i,l=[a,b,c,d,e,f,g,i]:=by
 match l,h with
 |[a,b,c,d,e,f,g,i],_=>exact⟨a,b,c,d,e,f,g,i,rfl⟩
theorem WI(n:Int)(a:I6 n):(O4 (n+9223372036854775808).toNat 8)=(pfx n).map B8:=by
 unfold O4 pfx;rw[Nat.mod_eq_of_lt]
 ·rfl
 ·have:=a.1;have:=a.2;rw[show(256:Nat)^8=18446744073709551616 by decide];omega
theorem LJ(w:World)(n:Int)(a:I6 n):Calls prog 246 #[rv n] w fun A b=>A=.returned (.agg ((pfx n).map B8).toArray)/\Below w.heap.size w b:=by
 obtain⟨N,g⟩:=rl ((n+9223372036854775808).toNat);have v:N<18446744073709551616:=by have:=a.1;have:=a.2;omega
 have z:=al (show IntKind.u64.wrap (IntKind.u64.wrap n+9223372036854775808)=(N:Int) by rw[IntKind.wrap_u64,IntKind.wrap_u64];have:=a.1;have:=a.2;omega);have s:=al (WI n a);rw[g]at s;obtain⟨e,b⟩:=rk w (.cells #[.int .u8 0,.int .u8 0,.int .u8 0,.int .u8 0,.int .u8 0,.int .u8 0,.int .u8 0,.int .u8 0] 346);go_enter func246,ntmps246;go_upto_region 1 with fail;generalize w.alloc (.cells #[.int .u8 0,.int .u8 0,.int .u8 0,.int .u8 0,.int .u8 0,.int .u8 0,.int .u8 0,.int .u8 0] 346)=j at e b⊢;obtain⟨R,k⟩:=rl (w.heap.size);rw[k]at b⊢;obtain⟨c,f⟩:=rk j (.cells #[.int .u8 0,.int .u8 0,.int .u8 0,.int .u8 0,.int .u8 0,.int .u8 0,.int .u8 0,.int .u8 0] 346);have h:=qS c b;go_upto_region 2 with fail;generalize j.alloc (.cells #[.int .u8 0,.int .u8 0,.int .u8 0,.int .u8 0,.int .u8 0,.int .u8 0,.int .u8 0,.int .u8 0] 346)=d at c f h⊢;obtain⟨B,l⟩:=rl (j.heap.size);rw[l]at f⊢;have j:R<B:=by have:=aP b;omega
 have H:=al (show Below w.heap.size w d/\d.heap[B]?=some (.cells (O4 N 0).toArray 346 (0,0))/\d.heap[R]?=some (.cells #[.int .u8 0,.int .u8 0,.int .u8 0,.int .u8 0,.int .u8 0,.int .u8 0,.int .u8 0,.int .u8 0] 346 (0,0))/\R<B/\w.heap.size<=R from
  ⟨e.x (c.m e.size),f,h,j,by omega⟩)
 have x:=AI g v;clear e b k c f h l j g a;go_wp2_with fail
 go_loopw [4,9] (fun n i wr=> ∃k M:Nat,k<=8/\i=rv (k:Int)/\n=.int .u64 (M:Int)/\N/256^k=M/\wr.heap[B]?=some (.cells (O4 N k).toArray 346 (0,0))/\Only (fun k=>k=B) d wr) (fun _ i _=>8-(intOf i).toNat)
 case atStart=>exact⟨0,N,by decide,rfl,by rw[z.o],by simp,H.o.2.1,oT _ _⟩
 case round=>
  obtain⟨k,M,u,rfl,rfl,o,b,c⟩:=hrel;by_cases E:k<8
  ·obtain⟨j,r⟩: ∃j,k+j=7:=⟨7-k,by omega⟩;have D:(7:Int)-(k:Int)=(j:Int):=by omega
   have f:N/256^k<18446744073709551616:=Nat.lt_of_le_of_lt (Nat.div_le_self _ _) x.o.2;have h:N/256^k/256=N/256^(k+1):=by rw[Nat.pow_succ,Nat.div_div_eq_div_mul]
   obtain⟨P,g⟩:=rl (B8 (UInt8.ofNat (N/256^k%256)));have a:=SM N r;rw[o]at f h a g;obtain⟨m,l⟩:=rl (M%256);have J:m<256:=by omega
   have L:bits .and .u64 (M:Int) 255=(m:Int):=by have:=u64_and_nat M 255 f (by decide);rw[show((255:Nat):Int)=255 from rfl]at this;rw[this,<-l];congr 1;exact Nat.and_two_pow_sub_one_eq_mod M 8
   have G:(m:Int)%256=(m:Int):=by omega
   have t:B8 (UInt8.ofNat m)=.int .u8 (m:Int):=by simp[B8];omega
   rw[l]at a g;rw[t]at a;obtain⟨y,q⟩: ∃e,(O4 N k).toArray[j]?=some e:=⟨_,gd (by simp[SL u];omega)⟩;have I:wr.cell? ⟨B,j,none⟩=some y:=by simp[World.cell?,b,q]
   have F:wr.frozen? ⟨B,j,none⟩=false:=by simp[World.frozen?,b]
   have O:(0:Int)<=(j:Int):=by omega
   have K:(j:Int)<8:=by omega
   have C:k<=7:=by omega
   have e:=al (show(wr.setCell ⟨B,j,none⟩ (.int .u8 (m:Int))).heap[B]?=some (.cells (O4 N (k+1)).toArray 346 (0,0))/\Only (fun k=>k=B) d (wr.setCell ⟨B,j,none⟩ (.int .u8 (m:Int)))/\M/256=N/256^(k+1)from by
    refine⟨?_,c.x (bg wr B j _) (fun _ _ p=>p),h⟩
    rw[heap_setCell_same wr B j _ _ (.int .u8 (m:Int)) b,a])
   clear b c a q h o l f g t r;go_wp2_with fail;go_roundw
   case rel=>exact⟨k+1,M/256,by omega,by go_num,by simp,e.o.d.symm,e.o.1,e.o.2.1⟩
   case measure=>simp[intOf];omega
  ·obtain rfl:k=8:=by omega
   have a:=c.heap H.o.d.1 (fun A=>by have:=H.o.t.1;omega);rw[s.o]at b;obtain⟨e,j,g,m,d,l,f,h,o⟩:=O5 (cg n);have r:=al o;rw[o]at b;simp only[lx,kh,B8]at b;have V:wr.cell? ⟨B,0,none⟩=some (.int .u8 e.toNat):=by simp[World.cell?,b]
   have S:wr.cell? ⟨B,1,none⟩=some (.int .u8 j.toNat):=by simp[World.cell?,b]
   have Y:wr.cell? ⟨B,2,none⟩=some (.int .u8 g.toNat):=by simp[World.cell?,b]
   have t:wr.cell? ⟨B,3,none⟩=some (.int .u8 m.toNat):=by simp[World.cell?,b]
   have D:wr.cell? ⟨B,4,none⟩=some (.int .u8 d.toNat):=by simp[World.cell?,b]
   have L:wr.cell? ⟨B,5,none⟩=some (.int .u8 l.toNat):=by simp[World.cell?,b]
   have F:wr.cell? ⟨B,6,none⟩=some (.int .u8 f.toNat):=by simp[World.cell?,b]
   have X:wr.cell? ⟨B,7,none⟩=some (.int .u8 h.toNat):=by simp[World.cell?,b]
   have P:wr.cell? ⟨R,0,none⟩=some (.int .u8 0):=by simp[World.cell?,a]
   have J:wr.cell? ⟨R,1,none⟩=some (.int .u8 0):=by simp[World.cell?,a]
   have W:wr.cell? ⟨R,2,none⟩=some (.int .u8 0):=by simp[World.cell?,a]
   have O:wr.cell? ⟨R,3,none⟩=some (.int .u8 0):=by simp[World.cell?,a]
   have K:wr.cell? ⟨R,4,none⟩=some (.int .u8 0):=by simp[World.cell?,a]
   have T:wr.cell? ⟨R,5,none⟩=some (.int .u8 0):=by simp[World.cell?,a]
   have y6:wr.cell? ⟨R,6,none⟩=some (.int .u8 0):=by simp[World.cell?,a]
   have y:wr.cell? ⟨R,7,none⟩=some (.int .u8 0):=by simp[World.cell?,a]
   have I:wr.frozen? ⟨R,0,none⟩=false:=by simp[World.frozen?,a]
   have G:wr.frozen? ⟨R,1,none⟩=false:=by simp[World.frozen?,a]
   have C:wr.frozen? ⟨R,2,none⟩=false:=by simp[World.frozen?,a]
   have U:wr.frozen? ⟨R,3,none⟩=false:=by simp[World.frozen?,a]
   have Z:wr.frozen? ⟨R,4,none⟩=false:=by simp[World.frozen?,a]
   have A:wr.frozen? ⟨R,5,none⟩=false:=by simp[World.frozen?,a]
   have Q:wr.frozen? ⟨R,6,none⟩=false:=by simp[World.frozen?,a]
   have u7:wr.frozen? ⟨R,7,none⟩=false:=by simp[World.frozen?,a]
   have q:=AI a c;clear b a c o;go_wp2_with fail;have c:=aaq (v0:=.int .u8 e.toNat) (v1:=.int .u8 j.toNat) (v2:=.int .u8 g.toNat) (v3:=.int .u8 m.toNat) (v4:=.int .u8 d.toNat) (v5:=.int .u8 l.toNat) (v6:=.int .u8 f.toNat) (v7:=.int .u8 h.toNat) q.o.1;have b:=(((((((bg wr R 0 (.int .u8 e.toNat)).setCell (p:=⟨R,1,none⟩) (fun _=>rfl) (.int .u8 j.toNat)).setCell (p:=⟨R,2,none⟩) (fun _=>rfl) (.int .u8 g.toNat)).setCell (p:=⟨R,3,none⟩) (fun _=>rfl) (.int .u8 m.toNat)).setCell (p:=⟨R,4,none⟩) (fun _=>rfl) (.int .u8 d.toNat)).setCell (p:=⟨R,5,none⟩) (fun _=>rfl) (.int .u8 l.toNat)).setCell (p:=⟨R,6,none⟩) (fun _=>rfl) (.int .u8 f.toNat)).setCell (p:=⟨R,7,none⟩) (fun _=>rfl) (.int .u8 h.toNat);have a:=AI c b;clear c b;generalize ((((((((wr.setCell ⟨R,0,none⟩ (.int .u8 e.toNat)).setCell ⟨R,1,none⟩ (.int .u8 j.toNat)).setCell ⟨R,2,none⟩ (.int .u8 g.toNat)).setCell ⟨R,3,none⟩ (.int .u8 m.toNat)).setCell ⟨R,4,none⟩ (.int .u8 d.toNat)).setCell ⟨R,5,none⟩ (.int .u8 l.toNat)).setCell ⟨R,6,none⟩ (.int .u8 f.toNat)).setCell ⟨R,7,none⟩ (.int .u8 h.toNat))=b at a⊢;refine dj (results_cell_row rfl _ _ _ _ _ _ _ rfl a.o.1 underlying346 rfl (by kernel_rfl)) rfl ⟨by rw[r.o];rfl,?_⟩;exact H.o.1.x ((q.o.2.mono (T:=fun k=>k=B\/k=R) (fun _ _ p=>.inl p)).x (a.o.2.mono (T:=fun k=>k=B\/k=R) (fun _ _ p=>.inr p)) (fun _ _ p=>p)|>.aI H.o.1.size (fun k u p=>by have:=H.o.t;omega))
theorem pF(w:World)(n:Int)(k:I6 n):Calls prog 219 #[rv n] w fun s a=>s=.returned (.string ⟨(pfx n).toArray⟩)/\Below w.heap.size w a:=by
 have i:=al (LJ w n k);obtain⟨f,a,c,g,d,b,e,h,j⟩:=O5 (cg n);rw[j]at i⊢;simp only[lx,kh,B8]at i;have l:=fun(w:World) (F:Nat->Prop) (A:Option Addr) (m:Nat) (o:Rd w F (.slice A 8 m) ([f,a,c,g,d,b,e,h].map B8))=>uZ (P:=prog) 53 9 5 underlying53 underlying5 underlying9 o;have o:=al l;clear j k l;go_enter func219,ntmps219;go_wp2_with fail;refine i.o.m ?_;rintro s j ⟨rfl,k⟩;obtain⟨l,q⟩:=rk j (.cells #[.int .u8 f.toNat,.int .u8 a.toNat,.int .u8 c.toNat,.int .u8 g.toNat,.int .u8 d.toNat,.int .u8 b.toNat,.int .u8 e.toNat,.int .u8 h.toNat] 346)
 have p:Rd (j.alloc (.cells #[.int .u8 f.toNat,.int .u8 a.toNat,.int .u8 c.toNat,.int .u8 g.toNat,.int .u8 d.toNat,.int .u8 b.toNat,.int .u8 e.toNat,.int .u8 h.toNat] 346)) (fun _=>True) (.slice (some ⟨j.heap.size,0,none⟩) 8 8) ([f,a,c,g,d,b,e,h].map B8):=by refine⟨_,8,8,rfl,rfl,b8 _,by simp[maxLen],fun _=>⟨_,0,rfl,trivial,fun r u m=>?_⟩⟩;rw[World.cell?,q];have r:(#[.int .u8 f.toNat,.int .u8 a.toNat,.int .u8 c.toNat,.int .u8 g.toNat,.int .u8 d.toNat,.int .u8 b.toNat,.int .u8 e.toNat,.int .u8 h.toNat]:Array Value).toList=[f,a,c,g,d,b,e,h].map B8:=rfl;rw[<-r]at m;simpa using m
 have t:=o.o _ _ _ _ p;have m:=al (k.x (l.m k.size));clear k l q p i o;go_wp2_with fail;go_ret
 exact⟨rfl,m.o⟩
theorem Hg(w:World)(v:Int)(k:List UInt8)(h:I6 v)(f:1<=k.length/\k.length<=16):Calls prog 175 #[.agg #[rv v,sd k]] w fun q a=>q=.returned (.tuple #[.string ⟨(dI v k).toArray⟩,rv 0])/\Below w.heap.size w a:=by
 obtain⟨c,b⟩:=rk w (sr v k.toArray);have e:dN k=0:=by unfold dN;rw[ff (by omega)]
 go_enter func175,ntmps175;go_upto_region 1 with fail;generalize w.alloc (sr v k.toArray)=a at c b⊢;obtain⟨R,m⟩:=rl (w.heap.size);rw[m]at b⊢;have l:a.cell? ⟨R,0,none⟩=some (rv v):=by simp[World.cell?,b]
 have j:a.cell? ⟨R,1,none⟩=some (sd k):=by simp[World.cell?,b]
 have d:=al (dU a k);rw[e]at d;have g:=AI c b;have i:=al h;have n:=al f;clear c b e h f;go_wp2_with fail;refine d.o.m ?_;rintro q h ⟨rfl,e⟩;obtain rfl:a=h:=e;clear d;go_wp2_with fail;have d:=al (fun w=>pF w v i.o);have r: ¬9223372036854775807<(pfx v).length+k.length:=by rw[cg];have:=n.o;omega
 refine pw (S:=(fun W=>Below a.heap.size a W/\W.cell? ⟨R,0,none⟩=some (rv v)/\W.cell? ⟨R,1,none⟩=some (sd k))) (by kernel_rfl) ⟨(aw _ _).drew,l,j⟩ (fun a=>?_);refine bq [0,1,3,4] ?_
 iterate 4 (refine ek (v:=?_) (fun _ ⟨f,p,o⟩=>?_) a ?_;rotate_left;(go_simp;try rfl);try simp only[xT])
 refine bt ?_;refine bC 2 (fun K c=>?_);go_simp;refine(d.o _).m ?_;rintro q s ⟨rfl,b⟩
 try go_simp
 refine c.o _ _ (sQ a b) ?_;clear c K a b;intro a
 try simp only[xT]
 refine bq [5,6,7] ?_
 iterate 3 (refine ek (v:=?_) (fun _ ⟨f,p,o⟩=>?_) a ?_;rotate_left;(go_simp;try rfl);try simp only[xT])
 refine bt ?_;refine qe (by kernel_rfl) ?_ _;obtain⟨b,-,-⟩:=a;go_wp2_with fail
 go_ret2
 refine⟨?_,g.o.1.x (b.m g.o.1.size)⟩;unfold dI;rw[<-O3];rfl
end Go.Proofs.YtehccbdajiiaaaaGreatDoor
