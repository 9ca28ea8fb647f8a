import Derived.Test.YtehccbdajiiaaaaGreatDoorS39
import Derived.Test.YtehccbdajiiaaaaGreatDoorS43
import Derived.Laws.Rows
import Derived.Shelf.Spec.SlicesInsert
namespace Go.Proofs.YtehccbdajiiaaaaGreatDoor
open Go.Proofs.Tryz
set_option maxRecDepth 100000
set_option maxHeartbeats 16000000
open Go.RowKit
def Gz(f:Nat->Int):Nat->List Int->Nat->Int
 |_,[]=>f
 |i,x::l=>Gz (oL f i x) (i+1) l
theorem Lt(M:Nat): ∀(l:List Int) (i:Nat) (w:World) (s:MS),aK w M s->i+l.length<=8->aK (w.setCells M (18+i) (l.map (Value.int .i64))) M {s with bD:=Gz s.bD i l}/\Only (fun k=>k=M) w (w.setCells M (18+i) (l.map (Value.int .i64)))
 |[],_,w,_,h,_=>⟨h,oE _ w⟩
 |x::l,i,w,s,h,hl=>by have b:=h.jL (i:=i) (by simp at hl;omega) x;have a:=Lt M l (i+1) _ _ b (by simp at hl;omega);exact⟨a.1,(bg w M (18+i) _).x a.2 (fun _ _ h=>h)⟩
theorem RG{w:World}{F:Nat->Prop}{M:Nat}{s:MS}{v:Value}{l:List Int}(k:aK w M s)(e:Rd w F v (l.map (Value.int .i64)))(o:l.length<=8)(d:TypeId):
  (Builtin.copy_ #[94,94] d #[.slice (some ⟨M,18,none⟩) 8 8,v]).run prog w=.ok (rm l.length) (w.setCells M 18 (l.map (Value.int .i64))):=by
 obtain⟨A,q,c,rfl,i,n,m,h⟩:=e;have a:l.length=q:=by simpa using i
 subst a;have b:(prog.info? 3).map (·.size)=some 1:=by kernel_rfl
 by_cases g:l.length=0
 ·have a:l=[]:=de g;subst a;exact run_copy_none w _ _ _ 3 _ _ _ _ _ _ underlying94 b (by simp)
 ·obtain⟨p,r,rfl,_,f⟩:=h (by omega)
  have:=run_copy_cells (P:=prog) w 94 94 d 3 M 18 8 8 ⟨p,r,none⟩ l.length c (l.map (Value.int .i64)) underlying94 b (by simp[Nat.min_def];omega)
   (fun j u a=>by rw[ir];exact f j u a) (fun j a=>by rw[k.bD (i:=j) (by simp at a;omega)];rfl) (fun j _=>k.free _) (fun u a=>by
    obtain⟨x,_,rfl⟩:=ep.1 a
    rfl)
  simpa[goInt]using this
theorem pG(w:World)(n:Int):Calls prog 61 #[rm n] w fun e a=>e=.returned (rm (max (-1099511627776) (min n 1099511627776)))/\w=a:=by
 go_enter func61,ntmps61;go_wp2_with fail;go_ret
 exact⟨rfl,rfl⟩
def WK:Array Value:= #[.nilFunc,pZ 100,pZ 101,pZ 102,pZ 103,pZ 104,pZ 105,pZ 106,pZ 107,pZ 108,pZ 109,pZ 110,pZ 111,pZ 112,pZ 113,pZ 114]
theorem U9(w:World):Calls prog 62 #[] w fun e a=>e=.returned (.agg WK)/\Below w.heap.size w a:=by go_enter func62,ntmps62;go_wp2_with fail;exact dj (results_cell_row rfl _ _ _ _ _ _ _ rfl (an _ _) underlying147 rfl (by kernel_rfl)) rfl ⟨rfl,pR _ _⟩
theorem WL{w:World}{B:Nat}{d c a b v0 v1 v2 v3:Value}{t:TypeId}(h:w.heap[B]?=some (.cells #[d,c,a,b] t (0,0))):
  ((((w.setCell ⟨B,0,none⟩ v0).setCell ⟨B,1,none⟩ v1).setCell ⟨B,2,none⟩ v2).setCell ⟨B,3,none⟩ v3).heap[B]?=some (.cells #[v0,v1,v2,v3] t (0,0)):=Bj h
def Zp{R:Type}(K:(Nat->Prop)->R->World->Prop)(T:Nat->Prop)(p:PS R×Int)(w:World)(e:Ending)(w':World):Prop:=
 ∃f,e=.returned (.tuple #[.agg #[rm (if p.2=0 then p.1.bD 0 else p.1.value),rm p.1.steps,f,rm p.2],rm 0])/\eI w' (fun k=> ¬T k) f (bC p.1.cl)/\(bC p.1.cl).length<=64/\Good p.1.cl/\K (fun _=>False) p.1.rows w'/\Only T w w'
def lR{R:Type}(args:List Int)(r:R):PS R:=⟨0,Gz (fun _=>0) 0 args,0,[],0,r⟩
theorem GA: ∀(l:List Int) (i:Nat) (f:Nat->Int),(∀j,aQ (f j))->(∀n∈l,aQ n)-> ∀j,aQ (Gz f i l j)
 |[],_,_,h,_,j=>h j
 |x::l,i,f,h,hl,j=>GA l (i+1) _ (fun k=>by
   unfold oL;split
   ·exact hl x (by simp)
   ·exact h k) (fun n a=>hl n (by simp[a])) j
theorem JJ{R:Type}{args:List Int}(r:R)(h: ∀n∈args,aQ n):(lR args r).Fit:=
 ⟨GA args 0 _ (fun _=>⟨by decide,by decide⟩) h,⟨eL _,by show(0:Int)<=10000;decide⟩,eL _,by show(0:Int)<=1000;decide⟩
theorem Zq{R:Type}{K:(Nat->Prop)->R->World->Prop}{T F:Nat->Prop}{act:aX->PS R->PS R×Int}(w:World)(l:List aX)(am qK:Value)(args:List Int)(y:Nat)(fuel:Int)(W:Value)(ok:Cl->Bool)(g:R)
  (f:qi w (fun k=> ¬T k) am l) (s:opsE l=0) (r:gy w) (a:Rd w F qK (args.map (Value.int .i64))) (a8:args.length<=8) (j: ∀n∈args,-1099511627776<=n/\n<=1099511627776)
  (oC:0<=fuel/\fuel<=10000) (e:yO w T W ok) (m:K (fun _=>False) g w) (q:uh K) (p: ∀k,T k->k<w.heap.size)
  (t: ∀c:RC,c.Fit->c.ops=l->c.b=rv y->c.fuel=fuel->c.may=W->c.ok=ok->w.heap.size<=c.lo->(∀k,T k->c.W k)->(∀k,c.S k->T k\/w.heap.size<=k)->yQ c K act 0 l.length):
  Calls prog 36 #[am,qK,rv y,rm fuel,W] w (Zp K T (cK fuel l act l.length l.length (lR args g)) w):=by
 obtain⟨A,c,rfl,bb,a7⟩:=f.slice;obtain⟨A1,n1,c1,rfl,o,bh,a6,u⟩:=id a;have b:args.length=n1:=by simpa using o
 subst b;unfold maxLen at a7 a6
 obtain⟨v,rfl⟩: ∃v,W=.pointer v:=by
  rcases e with⟨h,_⟩|⟨P,_,_,h,_⟩
  ·exact⟨_,h⟩
  ·exact⟨_,h⟩
 have b:=pR w (th 0 0 0);have d:=an w (th 0 0 0)
 have a5:l.length<=64:=by
  unfold opsE at s;split at s
  ·cases s
  ·omega
 have L:=BT f s r a j e m q p t;clear f s r a j e m q p t u o;go_enter func36,ntmps36;go_upto_region 1 with fail;generalize w.alloc (th 0 0 0)=e at b d⊢;obtain⟨a,Y⟩:=rk (w.heap.size);rw[Y]at d⊢;have V:=AF Y b d;have G:=al (BM e _ _ l (bI.below L.o.1 b) (L.o.d.1.below b));rw[L.o.2.1]at G;clear Y b d;go_wp2_with fail;refine G.o.m ?_;rintro U w2 ⟨rfl,b⟩;have e:=V.o.2.1.x (b.m V.o.2.1.size);have d:=qt b V.o.d;have dh:=AD e d;clear b e d G;have u: ¬(8:Int)<(args.length:Int):=by omega
 go_wp2_with fail
 go_loop [31] (fun i=> ∃k:Nat,k<=args.length/\i=rm (k:Int)) (fun i=>args.length-(intOf i).toNat)
 case atStart=>exact⟨0,dq _,rfl⟩
 case round=>
  obtain⟨k,b,rfl⟩:=hrel;by_cases a1:k<args.length
  ·obtain⟨n,j⟩: ∃n,args[k]?=some n:=⟨_,ao a1⟩;have r:=L.o.t.1.below dh.o.1;obtain⟨E,D,C,t,_,_,_,m⟩:=r;injection t with e f d;subst e f d;obtain⟨H,I,rfl,_,f⟩:=m (by omega);have x:=f k (rm n) (by simp[j]);have o:=L.o.q.1 n (db j);have d:max (-1099511627776) (min n 1099511627776)=n:=by omega
   have e:=al (pG w2 n);rw[d]at e;have B:(0:Int)<=(k:Int):=by omega
   have z:(k:Int)<(args.length:Int):=by omega
   clear m f j o d;go_wp2_with fail;refine e.o.m ?_;rintro U J ⟨rfl,rfl⟩;go_wp2_with fail
   go_round
   case rel=>exact⟨k+1,by omega,by go_num⟩
   case measure=>simp[intOf];omega
  ·have N2:k=args.length:=by omega
   have z: ¬fuel<0:=by omega
   have x: ¬(10000:Int)<fuel:=by omega
   go_wp2_with fail;refine(U9 w2).m ?_;rintro U J ⟨rfl,e⟩;unfold WK;have d:=dh.o.1.x (e.m dh.o.1.size);have r:=qt e dh.o.2;have t:aK (J.alloc (.cells (MS.cells ⟨.slice A l.length c,0,fun _=>0,rv y,fuel,.pointer v,0,0,.slice none 0 0,0⟩) 151)) J.heap.size ⟨.slice A l.length c,0,fun _=>0,rv y,fuel,.pointer v,0,0,.slice none 0 0,0⟩:=an _ _;have f:=pR J (.cells (MS.cells ⟨.slice A l.length c,0,fun _=>0,rv y,fuel,.pointer v,0,0,.slice none 0 0,0⟩) 151);have o:=AM t (d.x (f.m d.size)) (qt f r) d.size (aM r);clear e d r t f z x u;unfold MS.cells pZ at o;simp only at o;unfold pZ;go_upto_region 17 with fail;generalize J.alloc (.cells #[.slice A l.length c,.nilFunc,.func (.func 100) #[] #[],.func (.func 101) #[] #[],.func (.func 102) #[] #[],.func (.func 103) #[] #[],.func (.func 104) #[] #[],.func (.func 105) #[] #[],.func (.func 106) #[] #[],.func (.func 107) #[] #[],.func (.func 108) #[] #[],.func (.func 109) #[] #[],.func (.func 110) #[] #[],.func (.func 111) #[] #[],.func (.func 112) #[] #[],.func (.func 113) #[] #[],.func (.func 114) #[] #[],rm 0,rm 0,rm 0,rm 0,rm 0,rm 0,rm 0,rm 0,rm 0,rv y,rm fuel,.pointer v,rm 0,rm 0,.slice none 0 0,rm 0] 151)=r at o⊢;obtain⟨M,d⟩:=rk (J.heap.size);rw[d]at o⊢;clear d;have Y:=V.o.1;have e:=RG (l:=args) (F:=F) (v:=.slice A1 args.length c1) o.o.1 (L.o.t.1.below o.o.2.1) a8 3;have f:=Lt M args 0 r _ o.o.1 (by omega);have d:=AD e f;clear e f;go_wp2_with fail;rw[d.o.1];have Z:=al d.o.2;clear d;generalize r.setCells M 18 (args.map (Value.int .i64))=f at Z⊢;have bc:a<M:=by have:=o.o.q;omega
   have Q:M<f.heap.size:=Z.o.1.lt;obtain⟨e,d⟩: ∃e:RC,e=⟨M,fun k=>T k\/k=a\/k=M,fun k=>T k\/k=M,fun k=>(False\/k=a)\/k=M,l,.slice A l.length c,rv y,fuel,.pointer v,ok,w.heap.size⟩:=⟨_,rfl⟩;have u:e.Fit:=by subst d;exact⟨.inr (.inr rfl),.inr rfl,fun k b=>b.elim .inl (fun h=>.inr (.inr h)),.inr rfl,fun k b=>b.elim (fun h=>h.elim (fun h=>h.elim) (fun h=>.inr (.inl h))) (fun h=>.inr (.inr h)),by show w.heap.size<=M;omega,a5,oC⟩
   have p:=L.o.q.q.1
   have B: ∀k,(¬T k/\k<w.heap.size)-> ¬e.S k:=by
    subst d;rintro k ⟨t,z⟩ (h|h|h)
    ·exact t h
    ·omega
    ·omega
   have E:Only (fun k=>k=M) r f:=Z.o.2;have I:Below w.heap.size w r:=o.o.2.1;have r:Only (fun k=>k=M) w f:=(oB I _).x E (fun _ _ h=>h);have q:=L.o.q.t.1;have C:K (fun k=>(False\/k=a)\/k=M) g f:=q.only _ g w f (fun k=>k=M) (fun k b=>.inr b) (q.oM _ _ _ _ (q.oM _ _ _ _ L.o.q.d.1 (by omega)) (by omega)) r;have D: ∀k,k=M->e.S k:=by subst d;intro k b;exact .inr (.inr b)
   have O:MI e K f (lR args g):=by
    refine⟨.slice none 0 0,?_,⟨by rw[show(lR args g).cl=[]from rfl,BI];exact bI.nil _ _ _,by rw[show(lR args g).cl=[]from rfl,BI];decide,fun x m=>by cases m⟩,?_,?_,(by subst d;exact C),?_,JJ g (fun n j=>by have:=L.o.q.1 n j;exact⟨by omega,by omega⟩)⟩
    ·subst d;exact Z.o.1
    ·rcases L.o.q.2.1 with⟨t,z⟩|⟨P,S,f,t,z,N,h4,X⟩
     ·subst d;exact .inl ⟨t,z⟩
     ·have H:=aq _ _ N;refine .inr ⟨P,S,f,by subst d;exact t,B P ⟨z,H⟩,r.cell N (fun U=>by have e':P=M:=U;have aa:P<w.heap.size:=H;omega),bI.only (bI.m (bI.bound h4 (dK _) (by decide)) B) r (fun k b U=>b (D k U)),by subst d;exact X⟩
    ·subst d;exact bI.only (bI.m (bI.bound L.o.1 (fun x m=>by obtain⟨f,_,rfl⟩:=ep.1 m;rfl) (by decide)) B) r (fun k b U=>b (D k U))
    ·subst d;rintro k (h|h|h)
     ·have:=p k h;have:=r.size;omega
     ·omega
     ·omega
   have z:yQ e K act 0 l.length:=by subst d;exact L.o.q.q.2 _ u rfl rfl rfl rfl rfl (b8 _) (fun k b=>.inl b) (fun k b=>b.elim .inl (fun h=>.inr (by omega)))
   have x:uh K:=q;have f:=Gh u x O 0 l.length (dq _) (by subst d;exact b8 _) z;have H:=(E.heap o.o.d.1 (by omega));have HB:=al f;have m:=AN d u C r H p;have a':e.M=M:=by subst d;rfl
   rw[a']at HB;clear O C r D q I E B p u d z x f H Q;go_wp2_with fail;obtain⟨d,n,O⟩: ∃d n,cK fuel l act l.length l.length (lR args g)=(d,n):=⟨_,_,rfl⟩;have f:cK e.fuel e.ops act (l.length:Int) (l.length-0) {(lR args g)with pc:=((0:Nat):Int)}=(d,n):=by rw[m.o.1];exact O
   rw[f]at HB;have G:=al O;clear O f;refine HB.o.m ?_;rintro U r ⟨rfl,a9,E⟩;have p:=m.o.q.2
   have H: ¬e.W a:=by
    rw[m.o.1];rintro(h|h)
    ·have:=p a h;omega
    ·omega
   have N:=E.heap m.o.q.1 H;obtain⟨f6,f,u,_,_,q,_,_⟩:=a9;obtain⟨C,B,rfl,fH,ba⟩:=u.1.slice;rw[a']at f;obtain⟨x,X⟩:=rk ((bC d.cl).length)
   have I:Only T w r:=by
    have t:Only e.W w r:=(m.o.t.1.m (fun k _ b=>by rw[m.o.1];exact .inr b)).x E (fun _ _ h=>h);refine t.m (fun k b h=>?_);rw[m.o.1]at h;rcases h with h|h
    ·exact h
    ·omega
   have ap:=al (show ∀(U:Ending) (z:World),Only (fun k=>k=M\/k=a) r z->cK fuel l act l.length l.length (lR args g)=(d,n)->U=.returned (.tuple #[.agg #[rm (if n=0 then d.bD 0 else d.value),rm d.steps,.slice C x B,rm n],rm 0])->Zp K T (cK fuel l act l.length l.length (lR args g)) w U z from fun U z t O s=>by
    rw[O]
    have P: ∀k,(k=M\/k=a)->e.S k:=by
     rw[m.o.1];rintro k (h|h)
     ·exact .inr (.inr h)
     ·exact .inr (.inl h)
    have D:=u.only t P;rw[<-X]at s;refine⟨_,s,bI.m D.1 (fun k b h=>b (by rw[m.o.1];exact .inl h)),D.2.1,D.2.2,?_,I.x t (fun k b h=>by omega)⟩
    exact L.o.q.t.1.back _ _ _ _ (fun k b=>b.elim) (L.o.q.t.1.only (fun k=>(False\/k=a)\/k=M) _ _ _ _ (fun k b=>b.elim .inr (fun h=>.inl (.inr h))) (by rw[m.o.1]at q;exact q) t))
   have a4:=al N;have bf:=al X;have a3:=al f;have D:=f.e;have P:=f.free 32;simp only[RC.ms]at D;clear q I u H E p N f;go_upto_region 19 with fail;have p:=a3.o.acY n;have I:=(bg r M 32 (rm n)).heap a4.o (by omega);have E:=bg r M 32 (rm n);clear D P;generalize r.setCell ⟨M,32,none⟩ (rm n)=w7 at p I E⊢;have D:=p.e;simp only at D;by_cases j:n=0
   ·subst j;have N:=p.bD (i:=0) (by decide);have P:=p.free 29;have u:=p.value;simp only[RC.ms]at N u;have H7:=AF p I E;clear p I E;go_upto_region 21 with fail;have f:=H7.o.1.setValue (d.bD 0);have q:=(bg w7 M 29 (rm (d.bD 0))).heap H7.o.2.1 (by omega);have H:=H7.o.d.x (bg w7 M 29 (rm (d.bD 0))) (fun _ _ h=>h);clear D N P u;generalize w7.setCell ⟨M,29,none⟩ (rm (d.bD 0))=S at f q H⊢;obtain⟨⟨z0,z1,z2,z3⟩,y0,y1,y2,y3⟩:=cP q;have aa:=f.value;have ac:=f.steps;have N:=f.foot;have ad:=f.e;simp only[RC.ms]at aa ac N ad;rw[X]at N;have H9:=al H;have K9:=al q;clear f q H;go_wp2_with fail;have Q:=WL (v0:=rm (d.bD 0)) (v1:=rm d.steps) (v2:=.slice C x B) (v3:=rm 0) K9.o;have P:=(((bg S a 0 (rm (d.bD 0))).setCell (p:=⟨a,1,none⟩) (fun _=>rfl) (rm d.steps)).setCell (p:=⟨a,2,none⟩) (fun _=>rfl) (.slice C x B)).setCell (p:=⟨a,3,none⟩) (fun _=>rfl) (rm 0);have u:=AD Q P;clear Q P;generalize ((((S.setCell ⟨a,0,none⟩ (rm (d.bD 0))).setCell ⟨a,1,none⟩ (rm d.steps)).setCell ⟨a,2,none⟩ (.slice C x B)).setCell ⟨a,3,none⟩ (rm 0))=z at u⊢;have t:Only (fun k=>k=M\/k=a) r z:=(H9.o.m (fun _ _ h=>.inl h)).x (u.o.2.m (fun _ _ h=>.inr h)) (fun _ _ h=>h);refine dj (ax rfl _ _ _ _ _ _ _ rfl u.o.1 underlying60 rfl (by kernel_rfl)) rfl ?_;exact ap.o _ _ t G.o rfl
   ·have nM:(n==0)=false:=by simpa using j
    have a2:=al j;go_upto_region 21 with fail;obtain⟨S,a0⟩:=rl (w7);rw[<-a0]at p I E⊢;have f:=p;have q:=I;have H:=E;clear D j p I E a0;obtain⟨⟨z0,z1,z2,z3⟩,y0,y1,y2,y3⟩:=cP q;have aa:=f.value;have ac:=f.steps;have N:=f.foot;have ad:=f.e;simp only[RC.ms]at aa ac N ad;rw[X]at N;have H9:=al H;have K9:=al q;clear f q H;go_wp2_with fail;have Q:=WL (v0:=rm d.value) (v1:=rm d.steps) (v2:=.slice C x B) (v3:=rm n) K9.o;have P:=(((bg S a 0 (rm d.value)).setCell (p:=⟨a,1,none⟩) (fun _=>rfl) (rm d.steps)).setCell (p:=⟨a,2,none⟩) (fun _=>rfl) (.slice C x B)).setCell (p:=⟨a,3,none⟩) (fun _=>rfl) (rm n);have u:=AD Q P;clear Q P;generalize ((((S.setCell ⟨a,0,none⟩ (rm d.value)).setCell ⟨a,1,none⟩ (rm d.steps)).setCell ⟨a,2,none⟩ (.slice C x B)).setCell ⟨a,3,none⟩ (rm n))=z at u⊢;have t:Only (fun k=>k=M\/k=a) r z:=(H9.o.m (fun _ _ h=>.inl h)).x (u.o.2.m (fun _ _ h=>.inr h)) (fun _ _ h=>h);refine dj (ax rfl _ _ _ _ _ _ _ rfl u.o.1 underlying60 rfl (by kernel_rfl)) rfl ?_;exact ap.o _ _ t G.o (by rw[fb a2.o];rfl)
def zg(f:Nat->Int)(a:Nat):Rw:=⟨f a,f (a+1),f (a+2),f (a+3)⟩
def fZ(x:aX)(s:PS az)(v:Int):PS az×Int:=({s with bD:=oL s.bD x.a.toNat v},0)
def fN(s:PS az)(p:List Cl×Int)(f:PS az->PS az×Int):PS az×Int:=
 if p.2=0 then f {s with cl:=p.1}else({s with cl:=p.1},p.2)
def GC(a:Cl->Bool)(x:aX)(s:PS az):PS az×Int:=
 fN s (aV a s.cl [iG (s.bD x.b.toNat)]) fun t=>fZ x t (match aA (Lib.itoa (s.bD x.b.toNat)) t.rows with
  |some r=>eK (r.aO x.c.toNat)
  |none=>0)
def GD(most:Int)(a:Cl->Bool)(x:aX)(s:PS az):PS az×Int:=
 let k:=Lib.itoa (s.bD x.b.toNat)
 let r:=zg s.bD x.a.toNat
 fN s (aV a s.cl (iz k (aA k s.rows) (some r))) fun t=>if aA k t.rows=none/\most<=(t.rows.length:Int)then(t,16)else({t with rows:=cO (k,r) t.rows},0)
def GF(a:Cl->Bool)(x:aX)(s:PS az):PS az×Int:=
 let k:=Lib.itoa (s.bD x.b.toNat)
 fN s (aV a s.cl (iz k (aA k s.rows) none)) fun t=>({t with rows:=eZ k t.rows},0)
def NB(k:List UInt8):Int:=(jm k).getD (-1)
def zh(a:Cl->Bool)(x:aX)(s:PS az):PS az×Int:=
 let v:=s.bD x.b.toNat
 fN s (aV a s.cl [⟨false,x.c,[],v,v⟩]) fun t=>fZ x t (match(cU x.c.toNat v v t.rows).head? with
  |some k=>NB k
  |none=> -1)
def sM(c:Cl->Bool)(x:aX)(s:PS az):PS az×Int:=
 let a:=s.bD x.b.toNat
 let b:=eK (a+x.n)
 fN s (aV c s.cl [⟨false,x.c,[],a,b⟩]) fun t=>fZ x t (min (cU x.c.toNat a b t.rows).length 16:Nat)
def sN(most:Int)(a:Cl->Bool)(x:aX)(s:PS az):PS az×Int:=
 match x.d.toNat with
 |1=>fZ x s x.c
 |2=>fZ x s (s.bD x.b.toNat)
 |3=>fZ x s (eK (s.bD x.a.toNat+s.bD x.b.toNat))
 |4=>fZ x s (eK (s.bD x.a.toNat-s.bD x.b.toNat))
 |5=>fZ x s (eK (s.bD x.a.toNat*s.bD x.b.toNat))
 |6=>fZ x s (if s.bD x.a.toNat<s.bD x.b.toNat then 1 else 0)
 |7=>oz a (fun l k=>aA k l) x s
 |8=>GC a x s
 |9=>GD most a x s
 |10=>GF a x s
 |11=>zh a x s
 |12=>sM a x s
 |13=>({s with pc:=if s.bD x.a.toNat=0 then s.pc+x.n else s.pc},0)
 |_=>({s with value:=s.bD x.a.toNat},19)
section
variable{R:Type}
def loopGo(fuel:Int)(a:PS R->PS R×Int):Nat->PS R->PS R×Int
 |0,s=>(s,0)
 |k+1,s=>
  if fuel<=s.steps then(s,20)
  else
   let p:=a {s with steps:=s.steps+1}
   if p.2=0 then loopGo fuel a k p.1 else p
def mG(fuel:Int)(ops:List aX)(act:aX->PS R->PS R×Int)(x:aX)(s:PS R):PS R×Int:=
 let p:=loopGo fuel (fun t=>cK fuel ops act (s.pc+x.n) x.n.toNat {t with pc:=s.pc}) x.c.toNat s
 if p.2=0 then({p.1 with pc:=s.pc+x.n},0)else p
end
def vE(most fuel:Int)(a:Cl->Bool)(ops:List aX):Nat->aX->PS az->PS az×Int
 |0=>sN most a
 |d+1=>fun x s=>if x.d=14 then mG fuel ops (vE most fuel a ops d) x s else sN most a x s
def DG(most fuel:Int)(a:Cl->Bool)(ops:List aX)(args:List Int)(rows:az):PS az×Int:=
 cK fuel ops (vE most fuel a ops ops.length) ops.length ops.length (lR args rows)
def WN(q:List UInt8×Rw):Prop:=(∃n,aQ n/\q.1=Lib.itoa n)/\ ∀c,aQ (q.2.aO c)
def df(l:az):Prop:=dR l/\ ∀q∈l,WN q
theorem df.fit{l:az}(h:df l):RowsFit l:=fun q a c=>by
 have:=(h.2 q a).2 c;unfold aQ at this;exact⟨by omega,by omega⟩
theorem df.ins{l:az}{q:List UInt8×Rw}(h:df l)(b:WN q):df (cO q l):=
 ⟨fk h.1,fun p a=>(iu a).elim (fun e=>by subst e;exact b) (h.2 p)⟩
theorem df.del{l:az}{k:List UInt8}(h:df l):df (eZ k l):=⟨gi h.1,fun p a=>h.2 p (mL a)⟩
theorem NC{f:Nat->Int}(h: ∀i,aQ (f i))(a c:Nat):aQ ((zg f a).aO c):=by
 match c with
 |0=>exact h _
 |1=>exact h _
 |2=>exact h _
 |_+3=>exact h _
theorem qb{n:Int}(h:aQ n):NB (Lib.itoa n)=n:=by unfold NB;rw[JI.2 ⟨rfl,by unfold aQ at h;unfold JH;omega⟩];rfl
theorem df.num{l:az}(h:df l){c:Nat}{lo hi:Int}{k:List UInt8}(b:(cU c lo hi l).head?=some k):aQ (NB k):=by obtain⟨r,d,_⟩:=(kI h.1 h.fit).1 (List.mem_of_head? b);obtain⟨⟨n,a,e⟩,_⟩:=h.2 _ d;simp only at e;rw[e,qb a];exact a
theorem pH(b:Cl->Bool): ∀(l a:List Cl),(aV b a l).2=0\/(aV b a l).2=21\/(aV b a l).2=23
 |[],a=>.inl rfl
 |c::l,a=>by
  rw[aV];split
  ·exact .inr (.inr rfl)
  ·split
   ·exact pH b l _
   ·exact .inr (.inl rfl)
theorem fI:known 0:=.inl rfl
theorem Lu:known 20:=.inr (.inr (.inl rfl))
theorem gK{b:Cl->Bool}{s:PS az}{a l:List Cl}{f:PS az->PS az×Int}(d: ∀t,known (f t).2):known (fN s (aV b a l) f).2:=by
 unfold fN;split
 ·exact d _
 ·rcases pH b l a with h|h|h
  ·rename_i c;exact absurd h c
  ·show known (aV b a l).2;rw[h];exact .inr (.inr (.inr (.inr (.inr rfl))))
  ·show known (aV b a l).2;rw[h];exact .inr (.inr (.inr (.inr (.inl rfl))))
theorem zi(most:Int)(a:Cl->Bool)(x:aX)(s:PS az):known (sN most a x s).2:=by
 unfold sN;split
 ·exact fI
 ·exact fI
 ·exact fI
 ·exact fI
 ·exact fI
 ·exact fI
 ·unfold oz;simp only;split
  ·exact fI
  ·show known (aV a s.cl [iG (s.bD x.b.toNat)]).2;rcases pH a [iG (s.bD x.b.toNat)] s.cl with h|h|h<;>rw[h]<;>unfold known<;>decide
 ·exact gK fun _=>fI
 ·refine gK fun t=>?_;split
  ·exact .inr (.inr (.inr (.inl rfl)))
  ·exact fI
 ·exact gK fun _=>fI
 ·exact gK fun _=>fI
 ·exact gK fun _=>fI
 ·exact fI
 ·exact .inr (.inl rfl)
section
variable{R:Type}{fuel:Int}{ops:List aX}
theorem oh{act:aX->PS R->PS R×Int}(h: ∀x s,known (act x s).2)(tt:Int): ∀(g:Nat) (s:PS R),known (cK fuel ops act tt g s).2
 |0,_=>fI
 |g+1,s=>by
  rw[cK];split
  ·split
   ·exact Lu
   ·split
    ·exact fI
    ·simp only;split
     ·exact oh h tt g _
     ·exact h _ _
  ·exact fI
theorem sO{a:PS R->PS R×Int}(h: ∀s,known (a s).2): ∀(k:Nat) (s:PS R),known (loopGo fuel a k s).2
 |0,_=>fI
 |k+1,s=>by
  rw[loopGo];split
  ·exact Lu
  ·simp only;split
   ·exact sO h k _
   ·exact h _
end
theorem zj(most fuel:Int)(a:Cl->Bool)(ops:List aX): ∀(d:Nat) (x:aX) (s:PS az),known (vE most fuel a ops d x s).2
 |0,x,s=>zi most a x s
 |d+1,x,s=>by
  show known (if x.d=14 then mG fuel ops (vE most fuel a ops d) x s else sN most a x s).2;split
  ·unfold mG;simp only;split
   ·exact fI
   ·exact sO (fun t=>oh (zj most fuel a ops d) _ _ _) _ _
  ·exact zi most a x s
theorem JK(most fuel:Int)(a:Cl->Bool)(ops:List aX)(args:List Int)(rows:az):known (DG most fuel a ops args rows).2:=oh (zj most fuel a ops _) _ _ _
theorem JL{q:Bool}{e:Int}(h:known e):1<=Aw q e/\Aw q e<=6:=by
 cases q with
 |true=>rcases h with rfl|rfl|rfl|rfl|rfl|rfl<;>decide
 |false=>show(1:Int)<=3/\(3:Int)<=6;decide
section
variable{c:RC}{K:(Nat->Prop)->az->World->Prop}{w:World}{s:PS az}
structure DI (c:RC) (K:(Nat->Prop)->az->World->Prop) (w w1:World) (O:Nat) (x:aX) (s:PS az):Prop where
 mi:MI c K w1 s
 Ce:Below w.heap.size w w1
 box:w1.heap[O]?=some (sa x.d x.a x.b x.c x.n)
 off: ¬c.S O
 old:w.heap.size=O
theorem MI.at_(h:MI c K w s)(a:c.Fit)(e:uh K)(x:aX):DI c K w (w.alloc (sa x.d x.a x.b x.c x.n)) w.heap.size x s:=
 ⟨h.below a e (ae _ _),ae _ _,an _ _,fun d=>by obtain⟨_,_,_,_,_,_,b,_⟩:=h;have:=b _ d;omega,rfl⟩
theorem DI.ne{w1:World}{O:Nat}{x:aX}(h:DI c K w w1 O x s)(a:c.Fit): ¬O=c.M:=fun e=>h.off (e▸a.own)
theorem DI.bD{w1:World}{O:Nat}{x:aX}(h:DI c K w w1 O x s){i:Nat}(hi:i<8):w1.cell? ⟨c.M,18+i,none⟩=some (rm (s.bD i)):=by obtain⟨f,a,_⟩:=h.mi;exact a.bD hi
theorem DI.free{w1:World}{O:Nat}{x:aX}(h:DI c K w w1 O x s)(i:Nat):w1.frozen? ⟨c.M,i,none⟩=false:=by obtain⟨f,a,_⟩:=h.mi;exact a.free i
theorem DI.put{w1 w2:World}{O:Nat}{x:aX}(h:DI c K w w1 O x s)(b:c.Fit)(d:uh K)(f:Below w1.heap.size w1 w2){a:Nat}(i:a<8)(k:x.a=(a:Int)){v:Int}(g:aQ v){e:Ending}(j:e=.returned (rm 0)):
  lZ c K (fZ x s v) w e (w2.setCell ⟨c.M,18+a,none⟩ (rm v)):=by
 subst j;unfold fZ;rw[k];exact⟨rfl,(h.mi.below b d f).jL b d i g,(oB (h.Ce.x (f.m h.Ce.size)) c.W).x ((bg w2 c.M (18+a) _).wD b) (fun _ _ h=>h)⟩
def RH(f:Nat->Int)(a b:Nat):Int:=if f a<f b then 1 else 0
theorem Vb(w:World)(q:Bool):Calls prog 159 #[.bool q] w fun e a=>e=.returned (rm (if q=true then 1 else 0))/\w=a:=by
 cases q
 ·exact Rh w
 ·exact Lg w
theorem RI(e:c.Fit)(f:uh K)(q:MI c K w s)(x:aX)(a b:Nat)(i:a<8)(m:b<8)(d:x.a=(a:Int))(g:x.b=(b:Int)):
  Calls prog 101 #[rv c.M,x.val] w (lZ c K (fZ x s (s.bD b)) w):=by
 have H:=q.at_ e f x;have j:aQ (s.bD b):=by obtain⟨_,_,_,_,_,_,_,o⟩:=q;exact o.1 b
 obtain⟨l,v,t,n,p⟩:=x;simp only at d g H;subst d g;unfold aX.val;simp only;have u:(0:Int)<=(a:Int):=by omega
 have E:(a:Int)<8:=by omega
 have y:(0:Int)<=(b:Int):=by omega
 have D:(b:Int)<8:=by omega
 go_enter func101,ntmps101;go_upto_region 1 with fail;generalize w.alloc (sa l (a:Int) (b:Int) n p)=g at H⊢;obtain⟨O,k⟩:=rk (w.heap.size);rw[k]at H⊢;have h:=H.box;have C:g.cell? ⟨O,1,none⟩=some (rm (a:Int)):=by simp[World.cell?,h]
 have B:g.cell? ⟨O,2,none⟩=some (rm (b:Int)):=by simp[World.cell?,h]
 have z:=H.bD m;have r:=H.bD i;have A:=H.free (18+a);have d:=AI H e f j;clear h H e f q k j
 go_still_tail 13,(by kernel_rfl)
 change wpList _ _ _ _ _ g.drew;go_wp2_with fail;go_ret
 exact d.o.1.put d.o.2.1 d.o.d.1 ((bd _ _).drew) i rfl d.o.t rfl
theorem RJ{f:Nat->Int}(h: ∀i,aQ (f i))(a b:Nat):IntKind.i64.wrap (f a+f b)=f a+f b/\IntKind.i64.wrap (f a-f b)=f a-f b:=by have d:=h a;have c:=h b;unfold aQ at d c;rw[me,me];omega
theorem gL(w:World)(a:Addr)(v:Value):(w.setCell a v).drew=w.drew.setCell a v:=rfl
theorem nv(n:Int):aQ (eK n):=by unfold aQ eK;omega
theorem Lv(w:World)(n:Int)(h:aQ n):Calls prog 198 #[rm n] w fun e a=>e=.returned (.int .u64 (n.natAbs:Int))/\w=a:=by
 unfold aQ at h;go_enter func198,ntmps198;go_wp2_with fail
 all_goals go_ret
 ·refine⟨eE Ending.returned (eE (Value.int .u64) ?_),rfl⟩;rw[IntKind.wrap_u64,IntKind.wrap_u64];omega
 ·refine⟨eE Ending.returned (eE (Value.int .u64) ?_),rfl⟩;show n=_;omega
theorem RM(w:World)(x y:Nat)(c:x<=1099511627776)(b:y<=1099511627776):Calls prog 197 #[.int .u64 x,.int .u64 y] w fun e a=>e=.returned (.tuple #[.int .u64 ((x*y/18446744073709551616:Nat):Int),.int .u64 ((x*y%18446744073709551616:Nat):Int)])/\a=w:=
 Any.bits_Mul64 Tryz.Ue x y (by omega) (by omega) w
theorem NF{a b:Int}:eK (a*b)=if(a<0)↔(b<0)then(if a.natAbs*b.natAbs<1099511627776 then((a.natAbs*b.natAbs:Nat):Int)else 1099511627776)else -(if a.natAbs*b.natAbs<1099511627776 then((a.natAbs*b.natAbs:Nat):Int)else 1099511627776):=by
 have h:=Int.natAbs_mul a b
 have g:(a<0↔b<0)->0<=a*b:=fun h=>by
  by_cases c:a<0
  ·exact Int.le_of_lt (Int.mul_pos_of_neg_of_neg c (h.1 c))
  ·exact Int.mul_nonneg (by omega) (by have: ¬b<0:=fun e=>c (h.2 e);omega)
 have f: ¬(a<0↔b<0)->a*b<=0:=fun h=>by
  by_cases c:a<0
  ·exact Int.mul_nonpos_of_nonpos_of_nonneg (by omega) (by have: ¬b<0:=fun e=>h ⟨fun _=>e,fun _=>c⟩;omega)
  ·have i:b<0:=Classical.byContradiction fun e=>h ⟨fun d=>absurd d c,fun d=>absurd d e⟩;exact Int.mul_nonpos_of_nonneg_of_nonpos (by omega) (by omega)
 rw[<-h];generalize a*b=p at *;unfold eK;split
 ·have:=g ‹_›;split<;>omega
 ·have:=f ‹_›;split<;>omega
theorem JM(w:World)(a b:Int)(h:aQ a)(i:aQ b):Calls prog 158 #[rm a,rm b] w fun p g=>p=.returned (rm (eK (a*b)))/\w=g:=by
 have d:a.natAbs<=1099511627776:=by unfold aQ at h;omega
 have o:b.natAbs<=1099511627776:=by unfold aQ at i;omega
 have x:=al (fun W=>Lv W a h);have v:=al (fun W=>Lv W b i);have l:=al (fun W=>RM W a.natAbs b.natAbs d o);have k:=al (NF (a:=a) (b:=b));obtain⟨R,c⟩:=rk (eK (a*b));rw[c]at k⊢;clear c;generalize a.natAbs*b.natAbs=q at l k;obtain⟨t,j⟩:=rk (q/18446744073709551616);obtain⟨n,m⟩:=rk (q%18446744073709551616);rw[j,m]at l;have c:q<1099511627776↔t=0/\n<1099511627776:=by omega
 have f:q<1099511627776->q=n:=by omega
 have e:=AD c f;clear c f j m d o;go_enter func158,ntmps158;go_wp2_with fail;refine(x.o _).m ?_;rintro p g ⟨rfl,rfl⟩;go_wp2_with fail;refine(v.o _).m ?_;rintro p g ⟨rfl,rfl⟩;go_wp2_with fail;refine(l.o _).m ?_;rintro p g ⟨rfl,rfl⟩;go_upto_region 3 with fail;obtain⟨L,r⟩: ∃L:Int,(n:Int)=L:=⟨_,rfl⟩;obtain⟨Z,s⟩: ∃L:Int,(t:Int)=L:=⟨_,rfl⟩;rw[r,s];obtain⟨E,c⟩: ∃E:Int,(if q<1099511627776 then(q:Int)else 1099511627776)=E:=⟨_,rfl⟩;have o:=k.o;rw[c]at o;have j:=al o;have z:0<=L:=by omega
 have y:0<=Z:=by omega
 have m:Z=0/\L<1099511627776->E=L:=fun u=>by have d:=e.o.1.2 ⟨by omega,by omega⟩;rw[ff d]at c;have:=e.o.2 d;omega
 have f: ¬(Z=0/\L<1099511627776)->E=1099511627776:=fun u=>by
  have d: ¬q<1099511627776:=fun q=>by have:=e.o.1.1 q;exact u ⟨by omega,by omega⟩
  rw[fb d]at c;exact c.symm
 clear e k l r s c o
 have c: ∀p:Int,p=E-> ∀q:Bool,(!decide (a<0)==decide (b<0))=q->R=if q=true then -p else p:=by rintro _ rfl q e;rw[j.o];by_cases h:a<0<;>by_cases i:b<0<;>simp[h,i]at e⊢ <;>subst e<;>simp
 have e:=al c;have r:IntKind.i64.wrap (-1099511627776)= -1099511627776:=by decide
 clear c;by_cases k:Z=0
 ·subst k;by_cases l:L<1099511627776
  ·have o:wrap64 L=L:=by unfold wrap64;omega
   have s:wrap64 (-L)= -L:=by unfold wrap64;omega
   have c:=al (m ⟨rfl,l⟩);clear m f j;go_wp2_with fail
   ·go_ret
    exact⟨eE Ending.returned (eE (Value.int .i64) (e.o L c.o.symm true ‹_›).symm),rfl⟩
   ·go_ret
    exact⟨eE Ending.returned (eE (Value.int .i64) (e.o L c.o.symm false ‹_›).symm),rfl⟩
  ·have c:=al (f (fun u=>l u.2));clear m f j;go_wp2_with fail
   ·go_ret
    exact⟨eE Ending.returned (eE (Value.int .i64) (e.o 1099511627776 c.o.symm true ‹_›).symm),rfl⟩
   ·go_ret
    exact⟨eE Ending.returned (eE (Value.int .i64) (e.o 1099511627776 c.o.symm false ‹_›).symm),rfl⟩
 ·have c:=al (f (fun u=>k u.1));clear m f j;go_wp2_with fail
  ·go_ret
   exact⟨eE Ending.returned (eE (Value.int .i64) (e.o 1099511627776 c.o.symm true ‹_›).symm),rfl⟩
  ·go_ret
   exact⟨eE Ending.returned (eE (Value.int .i64) (e.o 1099511627776 c.o.symm false ‹_›).symm),rfl⟩
theorem Vc(d:c.Fit)(e:uh K)(A:MI c K w s)(x:aX)(a b:Nat)(h:a<8)(r:b<8)(i:x.a=(a:Int))(f:x.b=(b:Int)):
  Calls prog 102 #[rv c.M,x.val] w (lZ c K (fZ x s (eK (s.bD a+s.bD b))) w):=by
 have H:=A.at_ d e x;have g: ∀j,aQ (s.bD j):=by obtain⟨_,_,_,_,_,_,_,t⟩:=A;exact t.1
 obtain⟨p,C,F,z,u⟩:=x;simp only at i f H;subst i f;unfold aX.val;simp only;have G:(0:Int)<=(a:Int):=by omega
 have E:(a:Int)<8:=by omega
 have I:(0:Int)<=(b:Int):=by omega
 have D:(b:Int)<8:=by omega
 go_enter func102,ntmps102;go_upto_region 1 with fail;generalize w.alloc (sa p (a:Int) (b:Int) z u)=f at H⊢;obtain⟨O,i⟩:=rk (w.heap.size);rw[i]at H⊢;have m:=H.box;have o:=H.ne d;have l:f.cell? ⟨O,1,none⟩=some (rm (a:Int))/\f.cell? ⟨O,2,none⟩=some (rm (b:Int)):=by simp[World.cell?,m]
 have J:=H.bD r;have B:=H.bD h;have L:=H.free (18+a);obtain⟨n,k⟩:=rk (s.bD a+s.bD b);have q:=al k;have y:=(RJ g a b).1;rw[k]at y⊢;have j:=nv n;have v:=al (fun W=>pG W n);have f:=AM H d e j o;clear m H d e A i g j o;refine pt (S:=(fun W=>W.cell? ⟨O,1,none⟩=some (rm (a:Int))/\W.cell? ⟨O,2,none⟩=some (rm (b:Int)))) (by kernel_rfl) l (fun d=>?_);refine bj [0,1,2,3,4,5,6,7,8,10,11,12,13,14,15,19,20] ?_
 iterate 17 (refine dZ (v:=?_) (fun _ ⟨i,j⟩=>?_) d ?_;rotate_left;(go_simp;try rfl);try simp only[xr])
 refine bq ?_;refine qe (rs:=[9,16]) (by kernel_rfl) (by simp) (cX (i:=9) rfl (fun K e=>?_) (cX (i:=16) rfl (fun K e=>?_) ph))
 focus
  go_simp;refine e.o _ _ (d) ?_;clear e K d;intro d
  try simp only[xr]
  refine bA 16 (fun K e=>?_)
 rotate_left
 focus
  go_simp;refine e.o _ _ (d) ?_;clear e K d;intro d
  try simp only[xr]
  refine bA 9 (fun K e=>?_)
 all_goals
  go_simp;refine e.o _ _ (d) ?_;clear e K d;intro d
  try simp only[xr]
  refine lA 17 (v:=?_) (fun m g=>?_) d ?_;rotate_left
  ·obtain⟨i,j⟩:=g;go_simp;try rfl
  try simp only[xr]
  refine bA 18 (fun K e=>?_);go_simp;refine(v.o _).m ?_;rintro A o ⟨rfl,rfl⟩
  try go_simp
  refine e.o _ _ (d) ?_;clear e K d;intro d
  try simp only[xr]
  refine lA 21 (v:=?_) (fun m g=>?_) d ?_;rotate_left
  ·obtain⟨i,j⟩:=g;go_simp;try rfl
  try simp only[xr]
  refine bA 22 (fun K e=>?_);go_simp;refine e.o _ _ (⟨(bg _ c.M (18+a) _).cell d.1 f.o.q,(bg _ c.M (18+a) _).cell d.2 f.o.q⟩) ?_;clear e K d;intro d
  try simp only[xr]
  refine pw (by kernel_rfl) ?_ _;clear d l;go_wp2_with fail;go_ret
  have d:=q.o;subst d;rw[gL];exact f.o.1.put f.o.2.1 f.o.d.1 ((bd _ _).drew) h rfl f.o.t.1 rfl
theorem RN(d:c.Fit)(e:uh K)(A:MI c K w s)(x:aX)(a b:Nat)(h:a<8)(q:b<8)(g:x.a=(a:Int))(f:x.b=(b:Int)):
  Calls prog 105 #[rv c.M,x.val] w (lZ c K (fZ x s (RH s.bD a b)) w):=by
 have H:=A.at_ d e x;have t: ∀i,aQ (s.bD i):=by obtain⟨_,_,_,_,_,_,_,r⟩:=A;exact r.1
 obtain⟨o,C,G,y,u⟩:=x;simp only at g f H;subst g f;unfold aX.val;simp only;have F:(0:Int)<=(a:Int):=by omega
 have E:(a:Int)<8:=by omega
 have I:(0:Int)<=(b:Int):=by omega
 have D:(b:Int)<8:=by omega
 go_enter func105,ntmps105;go_upto_region 1 with fail;generalize w.alloc (sa o (a:Int) (b:Int) y u)=f at H⊢;obtain⟨O,g⟩:=rk (w.heap.size);rw[g]at H⊢;have l:=H.box;have n:=H.ne d;have j:f.cell? ⟨O,1,none⟩=some (rm (a:Int))/\f.cell? ⟨O,2,none⟩=some (rm (b:Int)):=by simp[World.cell?,l]
 have J:=H.bD q;have B:=H.bD h;have L:=H.free (18+a);obtain⟨z,v⟩: ∃z:Bool,decide (s.bD a<s.bD b)=z:=⟨_,rfl⟩;obtain⟨m,f⟩: ∃i:Int,(if z=true then 1 else 0)=i:=⟨_,rfl⟩;have p:=al (show RH s.bD a b=m by unfold RH;rw[<-f,<-v];simp only[decide_eq_true_eq]);have i:aQ m:=by rw[<-f];split<;>exact⟨by decide,by decide⟩
 have k:=al (fun W=>Vb W z);rw[f]at k;clear f;have f:=AM H d e i n;clear l H d e A g t i n;refine pt (S:=(fun W=>W.cell? ⟨O,1,none⟩=some (rm (a:Int))/\W.cell? ⟨O,2,none⟩=some (rm (b:Int)))) (by kernel_rfl) j (fun d=>?_);refine bj [0,1,2,3,4,5,6,7,8,10,11,12,13,14,15,19,20] ?_
 iterate 17 (refine dZ (v:=?_) (fun _ ⟨i,l⟩=>?_) d ?_;rotate_left;(go_simp;try rfl);try simp only[xr])
 refine bq ?_;refine qe (rs:=[9,16]) (by kernel_rfl) (by simp) (cX (i:=9) rfl (fun K e=>?_) (cX (i:=16) rfl (fun K e=>?_) ph))
 focus
  go_simp;refine e.o _ _ (d) ?_;clear e K d;intro d
  try simp only[xr]
  refine bA 16 (fun K e=>?_)
 rotate_left
 focus
  go_simp;refine e.o _ _ (d) ?_;clear e K d;intro d
  try simp only[xr]
  refine bA 9 (fun K e=>?_)
 all_goals
  go_simp;refine e.o _ _ (d) ?_;clear e K d;intro d
  try simp only[xr]
  refine lA 17 (v:=?_) (fun n g=>?_) d ?_;rotate_left
  ·obtain⟨i,l⟩:=g;go_simp;try rfl
  try simp only[xr]
  refine bA 18 (fun K e=>?_);go_simp;refine(k.o _).m ?_;rintro A t ⟨rfl,rfl⟩
  try go_simp
  refine e.o _ _ (d) ?_;clear e K d;intro d
  try simp only[xr]
  refine lA 21 (v:=?_) (fun n g=>?_) d ?_;rotate_left
  ·obtain⟨i,l⟩:=g;go_simp;try rfl
  try simp only[xr]
  refine bA 22 (fun K e=>?_);go_simp;refine e.o _ _ (⟨(bg _ c.M (18+a) _).cell d.1 f.o.q,(bg _ c.M (18+a) _).cell d.2 f.o.q⟩) ?_;clear e K d;intro d
  try simp only[xr]
  refine pw (by kernel_rfl) ?_ _;clear d j;go_wp2_with fail;go_ret
  have d:=p.o;subst d;rw[gL];exact f.o.1.put f.o.2.1 f.o.d.1 ((bd _ _).drew) h rfl f.o.t.1 rfl
theorem Vd(e:c.Fit)(d:uh K)(y:MI c K w s)(x:aX)(a b:Nat)(h:a<8)(q:b<8)(i:x.a=(a:Int))(f:x.b=(b:Int)):
  Calls prog 104 #[rv c.M,x.val] w (lZ c K (fZ x s (eK (s.bD a*s.bD b))) w):=by
 have H:=y.at_ e d x;have g: ∀j,aQ (s.bD j):=by obtain⟨_,_,_,_,_,_,_,r⟩:=y;exact r.1
 obtain⟨o,A,D,u,t⟩:=x;simp only at i f H;subst i f;unfold aX.val;simp only;have E:(0:Int)<=(a:Int):=by omega
 have C:(a:Int)<8:=by omega
 have F:(0:Int)<=(b:Int):=by omega
 have B:(b:Int)<8:=by omega
 go_enter func104,ntmps104;go_upto_region 1 with fail;generalize w.alloc (sa o (a:Int) (b:Int) u t)=f at H⊢;obtain⟨O,i⟩:=rk (w.heap.size);rw[i]at H⊢;have m:=H.box;have n:=H.ne e;have k:f.cell? ⟨O,1,none⟩=some (rm (a:Int))/\f.cell? ⟨O,2,none⟩=some (rm (b:Int)):=by simp[World.cell?,m]
 have G:=H.bD q;have z:=H.bD h;have I:=H.free (18+a);obtain⟨v,f⟩:=rk (eK (s.bD a*s.bD b));have p:=al f;have j:aQ v:=by rw[<-f];exact nv _
 have l:=al (fun W=>JM W (s.bD a) (s.bD b) (g a) (g b));rw[f]at l;clear f;have f:=AM H e d j n;clear m H e d y i g j n;refine pt (S:=(fun W=>W.cell? ⟨O,1,none⟩=some (rm (a:Int))/\W.cell? ⟨O,2,none⟩=some (rm (b:Int)))) (by kernel_rfl) k (fun e=>?_);refine bj [0,1,2,3,4,5,6,7,8,10,11,12,13,14,15,18,19] ?_
 iterate 17 (refine dZ (v:=?_) (fun _ ⟨i,j⟩=>?_) e ?_;rotate_left;(go_simp;try rfl);try simp only[xr])
 refine bq ?_;refine qe (rs:=[9,16]) (by kernel_rfl) (by simp) (cX (i:=9) rfl (fun K d=>?_) (cX (i:=16) rfl (fun K d=>?_) ph))
 focus
  go_simp;refine d.o _ _ (e) ?_;clear d K e;intro e
  try simp only[xr]
  refine bA 16 (fun K d=>?_)
 rotate_left
 focus
  go_simp;refine d.o _ _ (e) ?_;clear d K e;intro e
  try simp only[xr]
  refine bA 9 (fun K d=>?_)
 all_goals
  go_simp;refine d.o _ _ (e) ?_;clear d K e;intro e
  try simp only[xr]
  refine bA 17 (fun K d=>?_);go_simp;refine(l.o _).m ?_;rintro y n ⟨rfl,rfl⟩
  try go_simp
  refine d.o _ _ (e) ?_;clear d K e;intro e
  try simp only[xr]
  refine lA 20 (v:=?_) (fun m g=>?_) e ?_;rotate_left
  ·obtain⟨i,j⟩:=g;go_simp;try rfl
  try simp only[xr]
  refine bA 21 (fun K d=>?_);go_simp;refine d.o _ _ (⟨(bg _ c.M (18+a) _).cell e.1 f.o.q,(bg _ c.M (18+a) _).cell e.2 f.o.q⟩) ?_;clear d K e;intro e
  try simp only[xr]
  refine pw (by kernel_rfl) ?_ _;clear e k;go_wp2_with fail;go_ret
  have d:=p.o;subst d;rw[gL];exact f.o.1.put f.o.2.1 f.o.d.1 ((bd _ _).drew) h rfl f.o.t.1 rfl
theorem Ve(d:c.Fit)(e:uh K)(A:MI c K w s)(x:aX)(a b:Nat)(h:a<8)(r:b<8)(i:x.a=(a:Int))(f:x.b=(b:Int)):
  Calls prog 103 #[rv c.M,x.val] w (lZ c K (fZ x s (eK (s.bD a-s.bD b))) w):=by
 have H:=A.at_ d e x;have g: ∀j,aQ (s.bD j):=by obtain⟨_,_,_,_,_,_,_,t⟩:=A;exact t.1
 obtain⟨p,C,F,z,u⟩:=x;simp only at i f H;subst i f;unfold aX.val;simp only;have G:(0:Int)<=(a:Int):=by omega
 have E:(a:Int)<8:=by omega
 have I:(0:Int)<=(b:Int):=by omega
 have D:(b:Int)<8:=by omega
 go_enter func103,ntmps103;go_upto_region 1 with fail;generalize w.alloc (sa p (a:Int) (b:Int) z u)=f at H⊢;obtain⟨O,i⟩:=rk (w.heap.size);rw[i]at H⊢;have m:=H.box;have o:=H.ne d;have l:f.cell? ⟨O,1,none⟩=some (rm (a:Int))/\f.cell? ⟨O,2,none⟩=some (rm (b:Int)):=by simp[World.cell?,m]
 have J:=H.bD r;have B:=H.bD h;have L:=H.free (18+a);obtain⟨n,k⟩:=rk (s.bD a-s.bD b);have q:=al k;have y:=(RJ g a b).2;rw[k]at y⊢;have j:=nv n;have v:=al (fun W=>pG W n);have f:=AM H d e j o;clear m H d e A i g j o;refine pt (S:=(fun W=>W.cell? ⟨O,1,none⟩=some (rm (a:Int))/\W.cell? ⟨O,2,none⟩=some (rm (b:Int)))) (by kernel_rfl) l (fun d=>?_);refine bj [0,1,2,3,4,5,6,7,8,10,11,12,13,14,15,19,20] ?_
 iterate 17 (refine dZ (v:=?_) (fun _ ⟨i,j⟩=>?_) d ?_;rotate_left;(go_simp;try rfl);try simp only[xr])
 refine bq ?_;refine qe (rs:=[9,16]) (by kernel_rfl) (by simp) (cX (i:=9) rfl (fun K e=>?_) (cX (i:=16) rfl (fun K e=>?_) ph))
 focus
  go_simp;refine e.o _ _ (d) ?_;clear e K d;intro d
  try simp only[xr]
  refine bA 16 (fun K e=>?_)
 rotate_left
 focus
  go_simp;refine e.o _ _ (d) ?_;clear e K d;intro d
  try simp only[xr]
  refine bA 9 (fun K e=>?_)
 all_goals
  go_simp;refine e.o _ _ (d) ?_;clear e K d;intro d
  try simp only[xr]
  refine lA 17 (v:=?_) (fun m g=>?_) d ?_;rotate_left
  ·obtain⟨i,j⟩:=g;go_simp;try rfl
  try simp only[xr]
  refine bA 18 (fun K e=>?_);go_simp;refine(v.o _).m ?_;rintro A o ⟨rfl,rfl⟩
  try go_simp
  refine e.o _ _ (d) ?_;clear e K d;intro d
  try simp only[xr]
  refine lA 21 (v:=?_) (fun m g=>?_) d ?_;rotate_left
  ·obtain⟨i,j⟩:=g;go_simp;try rfl
  try simp only[xr]
  refine bA 22 (fun K e=>?_);go_simp;refine e.o _ _ (⟨(bg _ c.M (18+a) _).cell d.1 f.o.q,(bg _ c.M (18+a) _).cell d.2 f.o.q⟩) ?_;clear e K d;intro d
  try simp only[xr]
  refine pw (by kernel_rfl) ?_ _;clear d l;go_wp2_with fail;go_ret
  have d:=q.o;subst d;rw[gL];exact f.o.1.put f.o.2.1 f.o.d.1 ((bd _ _).drew) h rfl f.o.t.1 rfl
theorem RO(hc:c.Fit)(hK:uh K)(h:MI c K w s)(x:aX)(a:Nat)(ha:a<8)(kJ:x.a=(a:Int))(hn:0<=x.n/\s.pc+x.n<=1000):
  Calls prog 112 #[.pointer (some ⟨c.M,0,none⟩),x.val] w (lZ c K ({s with pc:=if s.bD a=0 then s.pc+x.n else s.pc},0) w):=by
 have H:=h.at_ hc hK x;obtain⟨dk,xa,xb,xc,xn⟩:=x;simp only at kJ H hn;subst kJ;unfold aX.val;simp only;have i1:(0:Int)<=(a:Int):=by omega
 have i2:(a:Int)<8:=by omega
 go_enter func112,ntmps112;go_upto_region 1 with fail;generalize w.alloc (.cells #[.int .i64 dk,.int .i64 (a:Int),.int .i64 xb,.int .i64 xc,.int .i64 xn] 64)=w1 at H⊢;obtain⟨O,hO⟩:=rk (w.heap.size);rw[hO]at H⊢;have k0:=H.box;have o1:w1.cell? ⟨O,1,none⟩=some (.int .i64 (a:Int)):=by simp[World.cell?,k0]
 have o4:w1.cell? ⟨O,4,none⟩=some (.int .i64 xn):=by simp[World.cell?,k0]
 have r1:=H.bD ha;have f1:=H.free 17;have VF:=H.mi;have hpc:w1.cell? ⟨c.M,17,none⟩=some (.int .i64 s.pc):=by obtain⟨_,hm,_⟩:=H.mi;exact hm.pc
 have hfit:s.Fit:=by obtain⟨_,_,_,_,_,_,_,h7⟩:=h;exact h7
 have hw:IntKind.i64.wrap (s.pc+xn)=s.pc+xn:=by rw[me];have:=hfit.2.2;omega
 have HH:=al (ab H (ab hc (ab hK (ab hn hfit))));clear k0 H hc hK h hO hn hfit VF;by_cases hz:s.bD a=0
 ·rw[hz]at r1;have HZ:=al hz;clear hz
  go_region
  go_upto_region 2 with fail;have hb2:=(bd w1.heap.size w1).drew;have o4':w1.drew.cell? ⟨O,4,none⟩=some (.int .i64 xn):=o4;have adN:w1.drew.cell? ⟨c.M,17,none⟩=some (.int .i64 s.pc):=hpc;have f1':w1.drew.frozen? ⟨c.M,17,none⟩=false:=f1;clear o1 o4 hpc f1 r1;generalize w1.drew=w2 at hb2 o4' adN f1'⊢;have HB:=al hb2;clear hb2
  go_still_tail 9,(by kernel_rfl)
  change wpList _ _ _ _ _ w2.drew;go_wp2_with fail;go_ret
  obtain⟨H,hc,hK,hn,hfit⟩:=HH.o;have hb2:=HB.o.drew;rw[gL];exact⟨rfl,(H.mi.below hc hK hb2).turn hc hK (bg w2.drew c.M 17 _) (fun f hm=>hm.KS _) rfl rfl ⟨hfit.1,hfit.2.1,by have:=hfit.2.2;show 0<=s.pc+xn;omega,hn.2⟩,(oB (H.Ce.x (hb2.m H.Ce.size)) c.W).x ((bg w2.drew c.M 17 _).wD hc) (fun _ _ h=>h)⟩
 ·have HZ:=al hz;go_wp2_with fail
  go_region
  go_wp2_with fail;go_ret
  obtain⟨H,hc,hK,hn,hfit⟩:=HH.o;have hb2:=(bd w1.heap.size w1).drew;exact⟨rfl,H.mi.below hc hK hb2,oB (H.Ce.x (hb2.m H.Ce.size)) c.W⟩
theorem NG(b:c.Fit)(e:uh K)(j:MI c K w s)(x:aX)(a:Nat)(n:a<8)(d:x.a=(a:Int)):
  Calls prog 114 #[rv c.M,x.val] w (lZ c K ({s with value:=s.bD a},19) w):=by
 have H:=j.at_ b e x;obtain⟨o,y,l,p,q⟩:=x;simp only at d H;subst d;unfold aX.val;simp only;have u:(0:Int)<=(a:Int):=by omega
 have B:(a:Int)<8:=by omega
 go_enter func114,ntmps114;go_upto_region 1 with fail;generalize w.alloc (sa o (a:Int) l p q)=d at H⊢;obtain⟨O,i⟩:=rk (w.heap.size);rw[i]at H⊢;have h:=H.box;have A:d.cell? ⟨O,1,none⟩=some (rm (a:Int)):=by simp[World.cell?,h]
 have t:=H.bD n;have g:s.Fit:=by obtain⟨_,_,_,_,_,_,_,r⟩:=j;exact r
 have m:=AI H b e g;have k:=H.mi;obtain⟨C,f,-⟩:=k;have z:=f.free 29;have v:d.cell? ⟨c.M,29,none⟩=some (rm s.value):=f.value;clear h H b e j i g f
 go_still_tail 11,(by kernel_rfl)
 change wpList _ _ _ _ _ d.drew;go_wp2_with fail;go_ret
 obtain⟨H,b,e,g⟩:=m.o;have h:=(bd d.heap.size d).drew;exact⟨rfl,(H.mi.below b e h).turn b e (bg d.drew c.M 29 _) (fun C f=>f.setValue _) rfl rfl g,(oB (H.Ce.x (h.m H.Ce.size)) c.W).x ((bg d.drew c.M 29 _).wD b) (fun _ _ j=>j)⟩
end
section
variable{c:RC}{K:(Nat->Prop)->az->World->Prop}{w:World}{s:PS az}
theorem RP{R:Type}{fuel:Int}{a:PS R->PS R×Int}{k:Nat}{t:PS R}(h:fuel<=t.steps):loopGo fuel a (k+1) t=(t,20):=by rw[loopGo,ff h]
theorem Vf{R:Type}{fuel:Int}{a:PS R->PS R×Int}{k:Nat}{t u:PS R}{n:Int}(h: ¬fuel<=t.steps)(b:a {t with steps:=t.steps+1}=(u,n)):loopGo fuel a (k+1) t=if n=0 then loopGo fuel a k u else(u,n):=by rw[loopGo,fb h,b]
def adO(c:RC)(K:(Nat->Prop)->az->World->Prop)(b:PS az->PS az×Int)(w:World)(O C:Nat)(x:aX)(s:PS az)(i:Value)(a:World):Prop:=
 ∃(k:Nat) (t:PS az),k<=C/\i=rm (k:Int)/\MI c K a t/\Only c.W w a/\a.heap[O]?=some (sa x.d x.a x.b x.c x.n)/\loopGo c.fuel b C s=loopGo c.fuel b (C-k) t
theorem RQ{act:aX->PS az->PS az×Int}(f:c.Fit)(g:uh K)(h:MI c K w s)(x:aX)(fr N C:Nat)(d:s.pc=(fr:Int))(a:x.n=(N:Int))(e:x.c=(C:Int))(o:C<=1000)(y:fr+N<=c.ops.length)(r:yQ c K act fr (fr+N)):
  Calls prog 113 #[rv c.M,x.val] w (lZ c K (mG c.fuel c.ops act x s) w):=by
 have z:=f.ops;have H:=h.at_ f g x;have b:mG c.fuel c.ops act x s=if(loopGo c.fuel (fun t=>cK c.fuel c.ops act (s.pc+x.n) x.n.toNat {t with pc:=s.pc}) x.c.toNat s).2=0 then({(loopGo c.fuel (fun t=>cK c.fuel c.ops act (s.pc+x.n) x.n.toNat {t with pc:=s.pc}) x.c.toNat s).1 with pc:=s.pc+x.n},0)else loopGo c.fuel (fun t=>cK c.fuel c.ops act (s.pc+x.n) x.n.toNat {t with pc:=s.pc}) x.c.toNat s:=rfl
 obtain⟨u,j⟩:=rk ((fun t:PS az=>cK c.fuel c.ops act (s.pc+x.n) x.n.toNat {t with pc:=s.pc}));rw[j]at b
 have k: ∀t:PS az,u t=cK c.fuel c.ops act ((fr:Int)+(N:Int)) (fr+N-fr) {t with pc:=(fr:Int)}:=fun t=>by rw[<-j,d,a];simp only[iS];rw[show fr+N-fr=N by omega]
 obtain⟨l,n,q,V,S⟩:=x;simp only at a e H b;subst a e;rw[iS,d]at b;unfold aX.val;simp only
 have J:=al (show ∀(W:World) (t:PS az),MI c K W t->Calls prog 63 #[rv c.M,rm (fr:Int),rm ((fr:Int)+(N:Int))] W (lZ c K (u t) W)from fun W t a=>by
  have h:=Gh f g a fr (fr+N) (by omega) y r;rw[Int.natCast_add]at h;rw[k]
  exact h)
 have a:=AN f g b k o (show fr+N<=64 from by omega);go_enter func113,ntmps113;go_upto_region 1 with fail;generalize w.alloc (sa l n q (C:Int) (N:Int))=e at H⊢;obtain⟨O,v⟩:=rk (w.heap.size);rw[v]at H⊢;have p:=H.box;have T:e.cell? ⟨O,3,none⟩=some (rm (C:Int)):=by simp[World.cell?,p]
 have R:e.cell? ⟨c.M,17,none⟩=some (rm (fr:Int)):=by obtain⟨_,e,_⟩:=H.mi;have:=e.pc;simp only[RC.ms]at this;rw[d]at this;exact this
 have m:=AD H d;clear h p v f g H b j k z y r d o;go_wp2_with fail
 go_loopw [14] (fun i wr=>adO c K u w O C ⟨l,n,q,C,N⟩ s i wr) (fun i _=>C-(intOf i).toNat)
 case atStart=>exact⟨0,s,dq _,rfl,m.o.1.mi,oB m.o.1.Ce c.W,m.o.1.box,rfl⟩
 case round=>
  obtain⟨B,t,U,rfl,d,A,k,b⟩:=hrel
  rename World=>wr
  have z:=AI d A k b;have F:wr.cell? ⟨O,4,none⟩=some (rm (N:Int)):=by simp[World.cell?,k]
  by_cases I:B<C
  ·obtain⟨P,v⟩: ∃P,C-B=P+1:=⟨C-B-1,by omega⟩;rw[v]at b;by_cases o:c.fuel<=t.steps
   ·have y:=al (Gc a.o.1 a.o.2.1 d o);have f:=al (show mG c.fuel c.ops act ⟨l,n,q,C,N⟩ s=(t,20) by rw[a.o.d.1,b,RP o];rfl);clear d A k b v o;go_wp2_with fail;refine y.o.m ?_;rintro Q D ⟨rfl,g,j⟩;have r:=AD g j;clear g j;go_wp2_with fail;go_ret
    rw[f.o];exact⟨rfl,r.o.1,z.o.2.1.x r.o.2 (fun _ _ h=>h)⟩
   ·have y:=al (Gb a.o.1 a.o.2.1 d (by omega));obtain⟨M,H,G⟩: ∃M H,u {t with steps:=t.steps+1}=(M,H):=⟨_,_,rfl⟩;rw[Vf o G]at b;have p:=AF b G v;have E:=al (show B+1<=C/\wrap64 ((B:Int)+1)=((B+1:Nat):Int)from⟨I,by have:=a.o.q.1;unfold wrap64;omega⟩);have L:IntKind.i64.wrap ((fr:Int)+(N:Int))=(fr:Int)+(N:Int):=by rw[me];have:=a.o.q.2;omega
    clear d A b v o G F;go_wp2_with fail;refine y.o.m ?_;rintro Q D ⟨rfl,g,j⟩;have v:=j.heap k (fun h=>m.o.1.off (a.o.1.sub _ h));have F:D.cell? ⟨O,4,none⟩=some (rm (N:Int)):=by simp[World.cell?,v]
    have r:=AF g j v;have o:=al (J.o D _ g);rw[p.o.2.1]at o;clear g j v k y;go_wp2_with fail;refine o.o.m ?_;rintro Q G ⟨rfl,g,v⟩;simp only at g;have y:=v.heap r.o.d (fun h=>m.o.1.off (a.o.1.sub _ h));have j:=AF g ((z.o.2.1.x r.o.2.1 (fun _ _ h=>h)).x v (fun _ _ h=>h)) y;clear g v y o F;by_cases g:H=0
    ·subst g;have f:=al (p.o.1.x (ff rfl));go_wp2_with fail;go_roundw
     case rel=>exact⟨B+1,M,E.o.1,eE _ E.o.2,j.o.1,j.o.2.1,j.o.d,by rw[f.o,show C-(B+1)=P by have:=p.o.d;omega]⟩
     case measure=>rw[E.o.2];simp only[intOf,iS];have:=p.o.d;omega
    ·have o:(H==0)=false:=by simpa using g
     have f:=al (show mG c.fuel c.ops act ⟨l,n,q,C,N⟩ s=(M,H) by rw[a.o.d.1,p.o.1,fb g,fb g]);clear g;go_wp2_with fail;go_ret
     rw[f.o];exact⟨rfl,j.o.1,j.o.2.1⟩
  ·have g:B=C:=by omega
   subst g;have f:=al (show mG c.fuel c.ops act ⟨l,n,q,B,N⟩ s=({t with pc:=(fr:Int)+(N:Int)},0) by rw[a.o.d.1,b,Nat.sub_self];rfl);have L:IntKind.i64.wrap ((fr:Int)+(N:Int))=(fr:Int)+(N:Int):=by rw[me];have:=a.o.q.2;omega
   obtain⟨v,e,-⟩:=id d;have p:=e.free 17;have r:wr.cell? ⟨c.M,17,none⟩=some (rm t.pc):=e.pc;have g:t.Fit:=by obtain⟨_,_,_,_,_,_,_,o⟩:=d;exact o
   have j:=al g;clear d A k b e g;go_wp2_with fail;go_ret
   rw[f.o];refine⟨rfl,z.o.1.turn a.o.1 a.o.2.1 (bg wr c.M 17 _) (fun v e=>e.KS _) rfl rfl ⟨j.o.1,j.o.2.1,by show(0:Int)<=(fr:Int)+(N:Int);omega,by show(fr:Int)+(N:Int)<=1000;have:=a.o.q.2;omega⟩,z.o.2.1.x ((bg wr c.M 17 _).wD a.o.1) (fun _ _ h=>h)⟩
end
theorem Cf{l:List aX}(h:opsE l=0):l.length<=64/\(∀o∈l,fo o=true)/\(∀o∈l,fp o=true)/\jr l=true:=by
 unfold opsE at h;split at h
 ·cases h
 ·rename_i d;split at h
  ·cases h
  ·rename_i a;split at h
   ·cases h
   ·rename_i b;split at h
    ·cases h
    ·rename_i c;simp only[Bool.not_eq_false]at a b c;exact⟨by omega,List.all_eq_true.1 a,List.all_eq_true.1 b,c⟩
theorem kM{o:aX}(h:fp o=true){i:Nat}(hi:i<4)(a:oW o.d i=true):EH o.d i<=o.uz i/\o.uz i<=CF o.d i:=by unfold fp at h;have:=List.all_eq_true.1 h i (List.mem_range.2 hi);rw[a]at this;simpa using this
theorem RS{o:aX}(h:fo o=true):1<=o.d/\o.d<=15:=by unfold fo at h;rw[mu]at h;exact of_decide_eq_true h.1
def GG(ops:List aX):Prop:= ∀(i:Nat) (o:aX),ops[i]?=some o->o.holds=true->0<=o.n/\i+1+o.n.toNat<=ops.length/\ ∀(j:Nat) (a:aX),i<j->j<i+1+o.n.toNat->ops[j]?=some a->a.holds=true->j+1+a.n.toNat<=i+1+o.n.toNat
def JN(ops:List aX)(fr tt:Nat):Prop:= ∀(j:Nat) (o:aX),fr<=j->j<tt->ops[j]?=some o->o.holds=true->j+1+o.n.toNat<=tt
theorem GG.body{ops:List aX}(h:GG ops){i:Nat}{o:aX}(d:ops[i]?=some o)(a:o.holds=true):JN ops (i+1) (i+1+o.n.toNat):=fun j c b=>(h i o d a).2.2 j c b
theorem GG.whole{ops:List aX}(h:GG ops):JN ops 0 ops.length:=fun j o _ _ b a=>(h j o b a).2.1
theorem NH{c:Nat}{b:List Int}(h:b.Pairwise fun a d=>a≥d)(d: ∀e∈b,e<=(c:Int)):(∀e∈b,mB c b<=e)/\mB c b<=(c:Int):=by
 unfold mB
 cases hz:b.getLast? with
 |none=>rw[List.getLast?_eq_none_iff]at hz;subst hz;exact⟨fun e a=>by simp at a,eL _⟩
 |some z=>
  obtain⟨f,rfl⟩:=List.getLast?_eq_some_iff.1 hz;rw[List.pairwise_append]at h;refine⟨fun e a=>?_,d z (by simp)⟩;rcases dr.1 a with a|a
  ·exact h.2.2 e a z (by simp)
  ·rw[gk]at a;rw[a];exact eL _
theorem NI{l:List aX}{i j:Nat}{o:aX}(b:l[i]?=some o)(c:o.holds=true)(a:i<j)(d:(j:Int)<eN i o):eN i o∈opens l j:=by unfold opens;rw[List.mem_map];refine⟨(o,i),List.mem_filter.2 ⟨?_,by simp[c,d]⟩,rfl⟩;rw[List.mem_zipIdx_iff_getElem?];simp only;rw[lP,ff a];exact b
theorem Lx{l:List aX}(t:opsE l=0):GG l:=by
 obtain⟨_,_,p,q⟩:=Cf t
 have m: ∀(i:Nat) (o:aX),l[i]?=some o->o.holds=true->0<=o.n:=by
  intro i o b a
  have e:oW o.d 3=true:=by unfold aX.holds at a;simp only[Bool.or_eq_true,beq_iff_eq]at a;rcases a with k|k<;>rw[k]<;>decide
  have:=(kM (p o (db b)) (i:=3) (by decide) e).1;have f:EH o.d 3=0:=by unfold EH;rw[fb (by omega)]
  rw[f]at this;exact this
 have n: ∀(i:Nat) (o:aX),l[i]?=some o->o.holds=true->(∀k∈opens l i,eN i o<=k)/\eN i o<=(l.length:Int):=by
  intro i o b a;have r:=(aw.1 b).1;have d:=gD (k:=i+1) q (by omega);rw[cz b,mu]at d;obtain⟨h,e⟩:=EI i (by omega) d.1;have f:=NH h (fun k j=>(e k j).2);have g:=d.2;unfold eU at g;rw[mu,Bool.or_eq_true,a]at g
  have c:eN i o<=mB l.length (opens l i):=by
   rcases g.2 with c|c
   ·simp at c
   ·exact of_decide_eq_true c
  exact⟨fun k j=>Int.le_trans c (f.1 k j),Int.le_trans c f.2⟩
 intro i o b a;have k:=m i o b a;have d:=n i o b a;unfold eN at d;refine⟨k,by omega,fun r g j s c f=>?_⟩;have h:=(n r g c f).1 (eN i o) (NI b a j (by unfold eN;omega));have e:=m r g c f;unfold eN at h;omega
theorem JO{x:aX}(h:x.d=14):x.holds=true:=by unfold aX.holds;rw[h];rfl
theorem JP{x:aX}(h:x.d=13):x.holds=true:=by unfold aX.holds;rw[h];rfl
theorem NJ(b:Cl->Bool)(a:az->List UInt8->Option Rw)(x:aX)(s:PS az):(oz b a x s).1.pc=s.pc:=by unfold oz rowP;simp only;split<;>rfl
theorem lS(s:PS az)(p:List Cl×Int)(f:PS az->PS az×Int)(a: ∀t,(f t).1.pc=t.pc):(fN s p f).1.pc=s.pc:=by
 unfold fN;split
 ·rw[a]
 ·rfl
theorem Vg(most:Int)(a:Cl->Bool)(x:aX)(s:PS az)(h:x.d.toNat≠13):(sN most a x s).1.pc=s.pc:=by
 unfold sN;split
 ·rfl
 ·rfl
 ·rfl
 ·rfl
 ·rfl
 ·rfl
 ·exact NJ _ _ _ _
 ·unfold GC;exact lS _ _ _ fun t=>rfl
 ·unfold GD;refine lS _ _ _ fun t=>?_;split<;>rfl
 ·unfold GF;exact lS _ _ _ fun t=>rfl
 ·unfold zh;exact lS _ _ _ fun t=>rfl
 ·unfold sM;exact lS _ _ _ fun t=>rfl
 ·rename_i e;exact absurd e h
 ·rfl
end Go.Proofs.YtehccbdajiiaaaaGreatDoor
