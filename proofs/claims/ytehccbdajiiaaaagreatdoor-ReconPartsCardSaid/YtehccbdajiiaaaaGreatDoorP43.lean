import Derived.Test.YtehccbdajiiaaaaGreatDoorP34
import Derived.Test.YtehccbdajiiaaaaGreatDoorP38
import Derived.Laws.Rows
import Derived.Shelf.Spec.SlicesInsert
namespace Go.Proofs.YtehccbdajiiaaaaGreatDoor
open Go.Proofs.Tryz
set_option maxRecDepth 100000
set_option maxHeartbeats 16000000
open Go.RowKit
def FD(f:Nat->Int):Nat->List Int->Nat->Int
 |_,[]=>f
 |i,x::l=>FD (og f i x) (i+1) l
theorem Kn(M:Nat): ∀(l:List Int) (i:Nat) (w:World) (s:MS),aK w M s->i+l.length<=8->aK (w.setCells M (18+i) (l.map (Value.int .i64))) M {s with bA:=FD s.bA i l}/\Only (fun k=>k=M) w (w.setCells M (18+i) (l.map (Value.int .i64)))
 |[],_,w,_,h,_=>⟨h,oT _ w⟩
 |x::l,i,w,s,h,hl=>by have b:=h.jE (i:=i) (by simp at hl;omega) x;have a:=Kn M l (i+1) _ _ b (by simp at hl;omega);exact⟨a.1,(bg w M (18+i) _).x a.2 (fun _ _ h=>h)⟩
theorem Qw{w:World}{F:Nat->Prop}{M:Nat}{s:MS}{v:Value}{l:List Int}(k:aK w M s)(h:Rd w F v (l.map (Value.int .i64)))(o:l.length<=8)(d:TypeId):
  (Builtin.copy_ #[94,94] d #[.slice (some ⟨M,18,none⟩) 8 8,v]).run prog w=.ok (rv l.length) (w.setCells M 18 (l.map (Value.int .i64))):=by
 obtain⟨A,q,c,rfl,g,n,m,f⟩:=h;have a:l.length=q:=by simpa using g
 subst a;have b:(prog.info? 3).map (·.size)=some 1:=by kernel_rfl
 by_cases e:l.length=0
 ·have a:l=[]:=de e;subst a;exact run_copy_none w _ _ _ 3 _ _ _ _ _ _ underlying94 b (by simp)
 ·obtain⟨r,p,rfl,_,i⟩:=f (by omega)
  have:=run_copy_cells (P:=prog) w 94 94 d 3 M 18 8 8 ⟨r,p,none⟩ l.length c (l.map (Value.int .i64)) underlying94 b (by simp[Nat.min_def];omega)
   (fun j u a=>by rw[ie];exact i j u a) (fun j a=>by rw[k.bA (i:=j) (by simp at a;omega)];rfl) (fun j _=>k.free _) (fun u a=>by
    obtain⟨x,_,rfl⟩:=eh.1 a
    rfl)
  simpa[goInt]using this
theorem oX(w:World)(n:Int):Calls prog 61 #[rv n] w fun e a=>e=.returned (rv (max (-1099511627776) (min n 1099511627776)))/\w=a:=by
 go_enter func61,ntmps61;go_wp2_with fail;go_ret
 exact⟨rfl,rfl⟩
def Vz:Array Value:= #[.nilFunc,pK 100,pK 101,pK 102,pK 103,pK 104,pK 105,pK 106,pK 107,pK 108,pK 109,pK 110,pK 111,pK 112,pK 113,pK 114]
theorem T4(w:World):Calls prog 62 #[] w fun e a=>e=.returned (.agg Vz)/\Below w.heap.size w a:=by go_enter func62,ntmps62;go_wp2_with fail;exact dj (results_cell_row rfl _ _ _ _ _ _ _ rfl (an _ _) underlying147 rfl (by kernel_rfl)) rfl ⟨rfl,pA _ _⟩
theorem VA{w:World}{B:Nat}{c b d a v0 v1 v2 v3:Value}{t:TypeId}(h:w.heap[B]?=some (.cells #[c,b,d,a] t (0,0))):
  ((((w.setCell ⟨B,0,none⟩ v0).setCell ⟨B,1,none⟩ v1).setCell ⟨B,2,none⟩ v2).setCell ⟨B,3,none⟩ v3).heap[B]?=some (.cells #[v0,v1,v2,v3] t (0,0)):=Au h
def adi{R:Type}(K:(Nat->Prop)->R->World->Prop)(T:Nat->Prop)(p:PS R×Int)(w:World)(e:Ending)(w':World):Prop:=
 ∃f,e=.returned (.tuple #[.agg #[rv (if p.2=0 then p.1.bA 0 else p.1.value),rv p.1.steps,f,rv p.2],rv 0])/\cz w' (fun k=> ¬T k) f (aW p.1.cl)/\(aW p.1.cl).length<=64/\Good p.1.cl/\K (fun _=>False) p.1.rows w'/\Only T w w'
def Ym{R:Type}(K:(Nat->Prop)->R->World->Prop)(T D:Nat->Prop)(p:PS R×Int)(w:World)(e:Ending)(w':World):Prop:=
 ∃f,e=.returned (.tuple #[.agg #[rv (if p.2=0 then p.1.bA 0 else p.1.value),rv p.1.steps,f,rv p.2],rv 0])/\cz w' (fun k=> ¬T k) f (aW p.1.cl)/\(aW p.1.cl).length<=64/\Good p.1.cl/\K (fun _=>False) p.1.rows w'/\Only D w w'
def lF{R:Type}(args:List Int)(r:R):PS R:=⟨0,FD (fun _=>0) 0 args,0,[],0,r⟩
theorem FH: ∀(l:List Int) (i:Nat) (f:Nat->Int),(∀j,aO (f j))->(∀n∈l,aO n)-> ∀j,aO (FD f i l j)
 |[],_,_,h,_,j=>h j
 |x::l,i,f,h,hl,j=>FH l (i+1) _ (fun k=>by
   unfold og;split
   ·exact hl x (by simp)
   ·exact h k) (fun n a=>hl n (by simp[a])) j
theorem IU{R:Type}{args:List Int}(r:R)(h: ∀n∈args,aO n):(lF args r).Fit:=
 ⟨FH args 0 _ (fun _=>⟨by decide,by decide⟩) h,⟨eE _,by show(0:Int)<=10000;decide⟩,eE _,by show(0:Int)<=1000;decide⟩
theorem T5{R:Type}{K:(Nat->Prop)->R->World->Prop}{T D F:Nat->Prop}{act:aX->PS R->PS R×Int}(w:World)(l:List aX)(am iT:Value)(args:List Int)(z:Nat)(fuel:Int)(W:Value)(ok:Cl->Bool)(g:R)
  (f:nV w (fun k=> ¬T k) am l) (q:opsE l=0) (o:fK w) (a:Rd w F iT (args.map (Value.int .i64))) (a9:args.length<=8) (m: ∀n∈args,-1099511627776<=n/\n<=1099511627776)
  (iF:0<=fuel/\fuel<=10000) (e:uo w T W ok) (p:K (fun _=>False) g w) (r:tF K) (j: ∀k,T k->k<w.heap.size) (u: ∀k,D k->T k)
  (t: ∀c:RC,c.Fit->c.ops=l->c.b=r7 z->c.fuel=fuel->c.may=W->c.ok=ok->w.heap.size<=c.lo->(∀k,D k->c.W k)->(∀k,c.S k->T k\/w.heap.size<=k)->xY c K act 0 l.length):
  Calls prog 36 #[am,iT,r7 z,rv fuel,W] w (Ym K T D (cH fuel l act l.length l.length (lF args g)) w):=by
 obtain⟨A,c,rfl,bb,a1⟩:=f.slice;obtain⟨A1,n1,c1,rfl,s,ba,a3,x⟩:=id a;have b:args.length=n1:=by simpa using s
 subst b;unfold maxLen at a1 a3
 obtain⟨v,rfl⟩: ∃v,W=.pointer v:=by
  rcases e with⟨h,_⟩|⟨Q,_,_,h,_⟩
  ·exact⟨_,h⟩
  ·exact⟨_,h⟩
 have b:=pA w (th 0 0 0);have d:=an w (th 0 0 0)
 have a7:l.length<=64:=by
  unfold opsE at q;split at q
  ·cases q
  ·omega
 have H:=Cd f q o a m e p r j t u;clear f q o a m e p r j t u x s;go_enter func36,ntmps36;go_upto_region 1 with fail;generalize w.alloc (th 0 0 0)=e at b d⊢;obtain⟨a,X⟩:=rl (w.heap.size);rw[X]at d⊢;have Z:=AM X b d;have L:=al (Az e _ _ l (bJ.below H.o.1 b) (H.o.d.1.below b));rw[H.o.2.1]at L;clear X b d;go_wp2_with fail;refine L.o.m ?_;rintro V w2 ⟨rfl,b⟩;have d:=Z.o.2.1.x (b.m Z.o.2.1.size);have e:=qS b Z.o.d;have fu:=AI d e;clear b d e L;have u: ¬(8:Int)<(args.length:Int):=by omega
 go_wp2_with fail
 go_loop [31] (fun i=> ∃k:Nat,k<=args.length/\i=rv (k:Int)) (fun i=>args.length-(intOf i).toNat)
 case atStart=>exact⟨0,dq _,rfl⟩
 case round=>
  obtain⟨k,b,rfl⟩:=hrel;by_cases a5:k<args.length
  ·obtain⟨n,p⟩: ∃n,args[k]?=some n:=⟨_,ao a5⟩;have s:=H.o.t.1.below fu.o.1;obtain⟨I,B,y,t,_,_,_,m⟩:=s;injection t with e d f;subst e d f;obtain⟨M,J,rfl,_,e⟩:=m (by omega);have x:=e k (rv n) (by simp[p]);have o:=H.o.q.1 n (db p);have d:max (-1099511627776) (min n 1099511627776)=n:=by omega
   have f:=al (oX w2 n);rw[d]at f;have C:(0:Int)<=(k:Int):=by omega
   have E:(k:Int)<(args.length:Int):=by omega
   clear m e p o d;go_wp2_with fail;refine f.o.m ?_;rintro V G ⟨rfl,rfl⟩;go_wp2_with fail
   go_round
   case rel=>exact⟨k+1,by omega,by go_num⟩
   case measure=>simp[intOf];omega
  ·have MZ:k=args.length:=by omega
   have y: ¬fuel<0:=by omega
   have x: ¬(10000:Int)<fuel:=by omega
   go_wp2_with fail;refine(T4 w2).m ?_;rintro V G ⟨rfl,e⟩;unfold Vz;have d:=fu.o.1.x (e.m fu.o.1.size);have s:=qS e fu.o.2;have t:aK (G.alloc (.cells (MS.cells ⟨.slice A l.length c,0,fun _=>0,r7 z,fuel,.pointer v,0,0,.slice none 0 0,0⟩) 151)) G.heap.size ⟨.slice A l.length c,0,fun _=>0,r7 z,fuel,.pointer v,0,0,.slice none 0 0,0⟩:=an _ _;have f:=pA G (.cells (MS.cells ⟨.slice A l.length c,0,fun _=>0,r7 z,fuel,.pointer v,0,0,.slice none 0 0,0⟩) 151);have o:=AS t (d.x (f.m d.size)) (qS f s) d.size (aP s);clear e d s t f y x u;unfold MS.cells pK at o;simp only at o;unfold pK;go_upto_region 17 with fail;generalize G.alloc (.cells #[.slice A l.length c,.nilFunc,.func (.func 100) #[] #[],.func (.func 101) #[] #[],.func (.func 102) #[] #[],.func (.func 103) #[] #[],.func (.func 104) #[] #[],.func (.func 105) #[] #[],.func (.func 106) #[] #[],.func (.func 107) #[] #[],.func (.func 108) #[] #[],.func (.func 109) #[] #[],.func (.func 110) #[] #[],.func (.func 111) #[] #[],.func (.func 112) #[] #[],.func (.func 113) #[] #[],.func (.func 114) #[] #[],rv 0,rv 0,rv 0,rv 0,rv 0,rv 0,rv 0,rv 0,rv 0,r7 z,rv fuel,.pointer v,rv 0,rv 0,.slice none 0 0,rv 0] 151)=s at o⊢;obtain⟨M,d⟩:=rl (G.heap.size);rw[d]at o⊢;clear d;have X:=Z.o.1;have e:=Qw (l:=args) (F:=F) (v:=.slice A1 args.length c1) o.o.1 (H.o.t.1.below o.o.2.1) a9 3;have f:=Kn M args 0 s _ o.o.1 (by omega);have d:=AI e f;clear e f;go_wp2_with fail;rw[d.o.1];have H6:=al d.o.2;clear d;generalize s.setCells M 18 (args.map (Value.int .i64))=f at H6⊢;have bc:a<M:=by have:=o.o.q;omega
   have S:M<f.heap.size:=H6.o.1.lt;obtain⟨e,d⟩: ∃e:RC,e=⟨M,fun k=>T k\/k=a\/k=M,fun k=>D k\/k=M,fun k=>(False\/k=a)\/k=M,l,.slice A l.length c,r7 z,fuel,.pointer v,ok,w.heap.size⟩:=⟨_,rfl⟩;have u:e.Fit:=by subst d;exact⟨.inr (.inr rfl),.inr rfl,fun k b=>b.elim (fun h=>.inl (H.o.q.q.d k h)) (fun h=>.inr (.inr h)),.inr rfl,fun k b=>b.elim (fun h=>h.elim (fun h=>h.elim) (fun h=>.inr (.inl h))) (fun h=>.inr (.inr h)),by show w.heap.size<=M;omega,a7,iF⟩
   have j:=H.o.q.q.1
   have B: ∀k,(¬T k/\k<w.heap.size)-> ¬e.S k:=by
    subst d;rintro k ⟨t,y⟩ (h|h|h)
    ·exact t h
    ·omega
    ·omega
   have I:Only (fun k=>k=M) s f:=H6.o.2;have J:Below w.heap.size w s:=o.o.2.1;have s:Only (fun k=>k=M) w f:=(oS J _).x I (fun _ _ h=>h);have r:=H.o.q.t.1;have C:K (fun k=>(False\/k=a)\/k=M) g f:=r.only _ g w f (fun k=>k=M) (fun k b=>.inr b) (r.om _ _ _ _ (r.om _ _ _ _ H.o.q.d.1 (by omega)) (by omega)) s;have E: ∀k,k=M->e.S k:=by subst d;intro k b;exact .inr (.inr b)
   have O:MI e K f (lF args g):=by
    refine⟨.slice none 0 0,?_,⟨by rw[show(lF args g).cl=[]from rfl,pL];exact bJ.nil _ _ _,by rw[show(lF args g).cl=[]from rfl,pL];decide,fun x m=>by cases m⟩,?_,?_,(by subst d;exact C),?_,IU g (fun n p=>by have:=H.o.q.1 n p;exact⟨by omega,by omega⟩)⟩
    ·subst d;exact H6.o.1
    ·rcases H.o.q.2.1 with⟨t,y⟩|⟨Q,U,f,t,y,P,h4,Y⟩
     ·subst d;exact .inl ⟨t,y⟩
     ·have N:=aq _ _ P;refine .inr ⟨Q,U,f,by subst d;exact t,B Q ⟨y,N⟩,s.cell P (fun V=>by have e':Q=M:=V;have aa:Q<w.heap.size:=N;omega),bJ.only (bJ.m (bJ.bound h4 (df _) (by decide)) B) s (fun k b V=>b (E k V)),by subst d;exact Y⟩
    ·subst d;exact bJ.only (bJ.m (bJ.bound H.o.1 (fun x m=>by obtain⟨y,_,rfl⟩:=eh.1 m;rfl) (by decide)) B) s (fun k b V=>b (E k V))
    ·subst d;rintro k (h|h|h)
     ·have:=j k h;have:=s.size;omega
     ·omega
     ·omega
   have N:xY e K act 0 l.length:=by subst d;exact H.o.q.q.2.1 _ u rfl rfl rfl rfl rfl (b8 _) (fun k b=>.inl b) (fun k b=>b.elim .inl (fun h=>.inr (by omega)))
   have x:tF K:=r;have f:=Fe u x O 0 l.length (dq _) (by subst d;exact b8 _) N;have y:=(I.heap o.o.d.1 (by omega));have HB:=al f;have m:=By d u C s y j;have a':e.M=M:=by subst d;rfl
   rw[a']at HB;clear O C s E r J I B j u d N x f y S;go_wp2_with fail;obtain⟨d,n,U⟩: ∃d n,cH fuel l act l.length l.length (lF args g)=(d,n):=⟨_,_,rfl⟩;have f:cH e.fuel e.ops act (l.length:Int) (l.length-0) {(lF args g)with pc:=((0:Nat):Int)}=(d,n):=by rw[m.o.1];exact U
   rw[f]at HB;have L:=al U;clear U f;refine HB.o.m ?_;rintro V s ⟨rfl,a6,E⟩;have j:=m.o.q.2
   have N: ¬e.W a:=by
    rw[m.o.1];rintro(h|h)
    ·have:=j a (H.o.q.q.d a h);omega
    ·omega
   have P:=E.heap m.o.q.1 N;obtain⟨f6,f,J,_,_,r,_,_⟩:=a6;obtain⟨B,u,rfl,fB,bh⟩:=J.1.slice;rw[a']at f;obtain⟨x,Y⟩:=rl ((aW d.cl).length)
   have O:Only D w s:=by
    have t:Only e.W w s:=(m.o.t.1.m (fun k _ b=>by rw[m.o.1];exact .inr b)).x E (fun _ _ h=>h);refine t.m (fun k b h=>?_);rw[m.o.1]at h;rcases h with h|h
    ·exact h
    ·omega
   have a0:=al (show ∀(V:Ending) (t:World),Only (fun k=>k=M\/k=a) s t->cH fuel l act l.length l.length (lF args g)=(d,n)->V=.returned (.tuple #[.agg #[rv (if n=0 then d.bA 0 else d.value),rv d.steps,.slice B x u,rv n],rv 0])->Ym K T D (cH fuel l act l.length l.length (lF args g)) w V t from fun V t y U q=>by
    rw[U]
    have I: ∀k,(k=M\/k=a)->e.S k:=by
     rw[m.o.1];rintro k (h|h)
     ·exact .inr (.inr h)
     ·exact .inr (.inl h)
    have C:=J.only y I;rw[<-Y]at q;refine⟨_,q,bJ.m C.1 (fun k b h=>b (by rw[m.o.1];exact .inl h)),C.2.1,C.2.2,?_,O.x y (fun k b h=>by omega)⟩
    exact H.o.q.t.1.back _ _ _ _ (fun k b=>b.elim) (H.o.q.t.1.only (fun k=>(False\/k=a)\/k=M) _ _ _ _ (fun k b=>b.elim .inr (fun h=>.inl (.inr h))) (by rw[m.o.1]at r;exact r) y))
   have a8:=al P;have bf:=al Y;have a4:=al f;have I:=f.e;have C:=f.free 32;simp only[RC.ms]at I;clear r O J N E j P f;go_upto_region 19 with fail;have j:=a4.o.acz n;have E:=(bg s M 32 (rv n)).heap a8.o (by omega);have N:=bg s M 32 (rv n);clear I C;generalize s.setCell ⟨M,32,none⟩ (rv n)=w7 at j E N⊢;have I:=j.e;simp only at I;by_cases p:n=0
   ·subst p;have C:=j.bA (i:=0) (by decide);have P:=j.free 29;have O:=j.value;simp only[RC.ms]at C O;have H7:=AM j E N;clear j E N;go_upto_region 21 with fail;have f:=H7.o.1.setValue (d.bA 0);have r:=(bg w7 M 29 (rv (d.bA 0))).heap H7.o.2.1 (by omega);have J:=H7.o.d.x (bg w7 M 29 (rv (d.bA 0))) (fun _ _ h=>h);clear I C P O;generalize w7.setCell ⟨M,29,none⟩ (rv (d.bA 0))=Q at f r J⊢;obtain⟨⟨z0,z1,z2,z3⟩,y0,y1,y2,y3⟩:=cX r;have aa:=f.value;have ac:=f.steps;have O:=f.foot;have ad:=f.e;simp only[RC.ms]at aa ac O ad;rw[Y]at O;have H9:=al J;have K9:=al r;clear f r J;go_wp2_with fail;have S:=VA (v0:=rv (d.bA 0)) (v1:=rv d.steps) (v2:=.slice B x u) (v3:=rv 0) K9.o;have P:=(((bg Q a 0 (rv (d.bA 0))).setCell (p:=⟨a,1,none⟩) (fun _=>rfl) (rv d.steps)).setCell (p:=⟨a,2,none⟩) (fun _=>rfl) (.slice B x u)).setCell (p:=⟨a,3,none⟩) (fun _=>rfl) (rv 0);have C:=AI S P;clear S P;generalize ((((Q.setCell ⟨a,0,none⟩ (rv (d.bA 0))).setCell ⟨a,1,none⟩ (rv d.steps)).setCell ⟨a,2,none⟩ (.slice B x u)).setCell ⟨a,3,none⟩ (rv 0))=t at C⊢;have y:Only (fun k=>k=M\/k=a) s t:=(H9.o.m (fun _ _ h=>.inl h)).x (C.o.2.m (fun _ _ h=>.inr h)) (fun _ _ h=>h);refine dj (ax rfl _ _ _ _ _ _ _ rfl C.o.1 underlying60 rfl (by kernel_rfl)) rfl ?_;exact a0.o _ _ y L.o rfl
   ·have oL:(n==0)=false:=by simpa using p
    have a2:=al p;go_upto_region 21 with fail;obtain⟨Q,ap⟩:=rm (w7);rw[<-ap]at j E N⊢;have f:=j;have r:=E;have J:=N;clear I p j E N ap;obtain⟨⟨z0,z1,z2,z3⟩,y0,y1,y2,y3⟩:=cX r;have aa:=f.value;have ac:=f.steps;have O:=f.foot;have ad:=f.e;simp only[RC.ms]at aa ac O ad;rw[Y]at O;have H9:=al J;have K9:=al r;clear f r J;go_wp2_with fail;have S:=VA (v0:=rv d.value) (v1:=rv d.steps) (v2:=.slice B x u) (v3:=rv n) K9.o;have P:=(((bg Q a 0 (rv d.value)).setCell (p:=⟨a,1,none⟩) (fun _=>rfl) (rv d.steps)).setCell (p:=⟨a,2,none⟩) (fun _=>rfl) (.slice B x u)).setCell (p:=⟨a,3,none⟩) (fun _=>rfl) (rv n);have C:=AI S P;clear S P;generalize ((((Q.setCell ⟨a,0,none⟩ (rv d.value)).setCell ⟨a,1,none⟩ (rv d.steps)).setCell ⟨a,2,none⟩ (.slice B x u)).setCell ⟨a,3,none⟩ (rv n))=t at C⊢;have y:Only (fun k=>k=M\/k=a) s t:=(H9.o.m (fun _ _ h=>.inl h)).x (C.o.2.m (fun _ _ h=>.inr h)) (fun _ _ h=>h);refine dj (ax rfl _ _ _ _ _ _ _ rfl C.o.1 underlying60 rfl (by kernel_rfl)) rfl ?_;exact a0.o _ _ y L.o (by rw[ff a2.o];rfl)
def ym(f:Nat->Int)(a:Nat):Rw:=⟨f a,f (a+1),f (a+2),f (a+3)⟩
def fP(x:aX)(s:PS az)(v:Int):PS az×Int:=({s with bA:=og s.bA x.a.toNat v},0)
def fH(s:PS az)(p:List Cl×Int)(f:PS az->PS az×Int):PS az×Int:=
 if p.2=0 then f {s with cl:=p.1}else({s with cl:=p.1},p.2)
def FI(a:Cl->Bool)(x:aX)(s:PS az):PS az×Int:=
 fH s (aV a s.cl [iB (s.bA x.b.toNat)]) fun t=>fP x t (match ay (Lib.itoa (s.bA x.b.toNat)) t.rows with
  |some r=>eA (r.aL x.c.toNat)
  |none=>0)
def FJ(most:Int)(a:Cl->Bool)(x:aX)(s:PS az):PS az×Int:=
 let k:=Lib.itoa (s.bA x.b.toNat)
 let r:=ym s.bA x.a.toNat
 fH s (aV a s.cl (ig k (ay k s.rows) (some r))) fun t=>if ay k t.rows=none/\most<=(t.rows.length:Int)then(t,16)else({t with rows:=cK (k,r) t.rows},0)
def FK(a:Cl->Bool)(x:aX)(s:PS az):PS az×Int:=
 let k:=Lib.itoa (s.bA x.b.toNat)
 fH s (aV a s.cl (ig k (ay k s.rows) none)) fun t=>({t with rows:=eU k t.rows},0)
def Mx(k:List UInt8):Int:=(jc k).getD (-1)
def yn(a:Cl->Bool)(x:aX)(s:PS az):PS az×Int:=
 let v:=s.bA x.b.toNat
 fH s (aV a s.cl [⟨false,x.c,[],v,v⟩]) fun t=>fP x t (match(cO x.c.toNat v v t.rows).head? with
  |some k=>Mx k
  |none=> -1)
def rY(c:Cl->Bool)(x:aX)(s:PS az):PS az×Int:=
 let a:=s.bA x.b.toNat
 let b:=eA (a+x.n)
 fH s (aV c s.cl [⟨false,x.c,[],a,b⟩]) fun t=>fP x t (min (cO x.c.toNat a b t.rows).length 16:Nat)
def rZ(most:Int)(a:Cl->Bool)(x:aX)(s:PS az):PS az×Int:=
 match x.d.toNat with
 |1=>fP x s x.c
 |2=>fP x s (s.bA x.b.toNat)
 |3=>fP x s (eA (s.bA x.a.toNat+s.bA x.b.toNat))
 |4=>fP x s (eA (s.bA x.a.toNat-s.bA x.b.toNat))
 |5=>fP x s (eA (s.bA x.a.toNat*s.bA x.b.toNat))
 |6=>fP x s (if s.bA x.a.toNat<s.bA x.b.toNat then 1 else 0)
 |7=>nU a (fun l k=>ay k l) x s
 |8=>FI a x s
 |9=>FJ most a x s
 |10=>FK a x s
 |11=>yn a x s
 |12=>rY a x s
 |13=>({s with pc:=if s.bA x.a.toNat=0 then s.pc+x.n else s.pc},0)
 |_=>({s with value:=s.bA x.a.toNat},19)
section
variable{R:Type}
def loopGo(fuel:Int)(a:PS R->PS R×Int):Nat->PS R->PS R×Int
 |0,s=>(s,0)
 |k+1,s=>
  if fuel<=s.steps then(s,20)
  else
   let p:=a {s with steps:=s.steps+1}
   if p.2=0 then loopGo fuel a k p.1 else p
def mr(fuel:Int)(ops:List aX)(act:aX->PS R->PS R×Int)(x:aX)(s:PS R):PS R×Int:=
 let p:=loopGo fuel (fun t=>cH fuel ops act (s.pc+x.n) x.n.toNat {t with pc:=s.pc}) x.c.toNat s
 if p.2=0 then({p.1 with pc:=s.pc+x.n},0)else p
end
def uQ(most fuel:Int)(a:Cl->Bool)(ops:List aX):Nat->aX->PS az->PS az×Int
 |0=>rZ most a
 |d+1=>fun x s=>if x.d=14 then mr fuel ops (uQ most fuel a ops d) x s else rZ most a x s
def r9(most fuel:Int)(a:Cl->Bool)(ops:List aX)(args:List Int)(rows:az):PS az×Int:=
 cH fuel ops (uQ most fuel a ops ops.length) ops.length ops.length (lF args rows)
def VD(q:List UInt8×Rw):Prop:=(∃n,aO n/\q.1=Lib.itoa n)/\ ∀c,aO (q.2.aL c)
def dv(l:az):Prop:=dK l/\ ∀q∈l,VD q
theorem dv.fit{l:az}(h:dv l):RowsFit l:=fun q a c=>by
 have:=(h.2 q a).2 c;unfold aO at this;exact⟨by omega,by omega⟩
theorem dv.ins{l:az}{q:List UInt8×Rw}(h:dv l)(a:VD q):dv (cK q l):=
 ⟨eX h.1,fun p b=>(ia b).elim (fun e=>by subst e;exact a) (h.2 p)⟩
theorem dv.del{l:az}{k:List UInt8}(h:dv l):dv (eU k l):=⟨fR h.1,fun p a=>h.2 p (mE a)⟩
theorem My{f:Nat->Int}(h: ∀i,aO (f i))(a c:Nat):aO ((ym f a).aL c):=by
 match c with
 |0=>exact h _
 |1=>exact h _
 |2=>exact h _
 |_+3=>exact h _
theorem pS{n:Int}(h:aO n):Mx (Lib.itoa n)=n:=by unfold Mx;rw[Gx.2 ⟨rfl,by unfold aO at h;unfold Gv;omega⟩];rfl
theorem dv.num{l:az}(h:dv l){c:Nat}{lo hi:Int}{k:List UInt8}(d:(cO c lo hi l).head?=some k):aO (Mx k):=by obtain⟨r,b,_⟩:=(kg h.1 h.fit).1 (List.mem_of_head? d);obtain⟨⟨n,a,e⟩,_⟩:=h.2 _ b;simp only at e;rw[e,pS a];exact a
theorem oY(a:Cl->Bool): ∀(l cl:List Cl),(aV a cl l).2=0\/(aV a cl l).2=21\/(aV a cl l).2=23
 |[],cl=>.inl rfl
 |c::l,cl=>by
  rw[aV];split
  ·exact .inr (.inr rfl)
  ·split
   ·exact oY a l _
   ·exact .inr (.inl rfl)
theorem fC:known 0:=.inl rfl
theorem Ko:known 20:=.inr (.inr (.inl rfl))
theorem gI{a:Cl->Bool}{s:PS az}{cl l:List Cl}{f:PS az->PS az×Int}(c: ∀t,known (f t).2):known (fH s (aV a cl l) f).2:=by
 unfold fH;split
 ·exact c _
 ·rcases oY a l cl with h|h|h
  ·rename_i b;exact absurd h b
  ·show known (aV a cl l).2;rw[h];exact .inr (.inr (.inr (.inr (.inr rfl))))
  ·show known (aV a cl l).2;rw[h];exact .inr (.inr (.inr (.inr (.inl rfl))))
theorem yo(most:Int)(a:Cl->Bool)(x:aX)(s:PS az):known (rZ most a x s).2:=by
 unfold rZ;split
 ·exact fC
 ·exact fC
 ·exact fC
 ·exact fC
 ·exact fC
 ·exact fC
 ·unfold nU;simp only;split
  ·exact fC
  ·show known (aV a s.cl [iB (s.bA x.b.toNat)]).2;rcases oY a [iB (s.bA x.b.toNat)] s.cl with h|h|h<;>rw[h]<;>unfold known<;>decide
 ·exact gI fun _=>fC
 ·refine gI fun t=>?_;split
  ·exact .inr (.inr (.inr (.inl rfl)))
  ·exact fC
 ·exact gI fun _=>fC
 ·exact gI fun _=>fC
 ·exact gI fun _=>fC
 ·exact fC
 ·exact .inr (.inl rfl)
section
variable{R:Type}{fuel:Int}{ops:List aX}
theorem nN{act:aX->PS R->PS R×Int}(h: ∀x s,known (act x s).2)(tt:Int): ∀(g:Nat) (s:PS R),known (cH fuel ops act tt g s).2
 |0,_=>fC
 |g+1,s=>by
  rw[cH];split
  ·split
   ·exact Ko
   ·split
    ·exact fC
    ·simp only;split
     ·exact nN h tt g _
     ·exact h _ _
  ·exact fC
theorem se{a:PS R->PS R×Int}(h: ∀s,known (a s).2): ∀(k:Nat) (s:PS R),known (loopGo fuel a k s).2
 |0,_=>fC
 |k+1,s=>by
  rw[loopGo];split
  ·exact Ko
  ·simp only;split
   ·exact se h k _
   ·exact h _
end
theorem yq(most fuel:Int)(a:Cl->Bool)(ops:List aX): ∀(d:Nat) (x:aX) (s:PS az),known (uQ most fuel a ops d x s).2
 |0,x,s=>yo most a x s
 |d+1,x,s=>by
  show known (if x.d=14 then mr fuel ops (uQ most fuel a ops d) x s else rZ most a x s).2;split
  ·unfold mr;simp only;split
   ·exact fC
   ·exact se (fun t=>nN (yq most fuel a ops d) _ _ _) _ _
  ·exact yo most a x s
theorem IV(most fuel:Int)(a:Cl->Bool)(ops:List aX)(args:List Int)(rows:az):known (r9 most fuel a ops args rows).2:=nN (yq most fuel a ops _) _ _ _
theorem IW{q:Bool}{e:Int}(h:known e):1<=zh q e/\zh q e<=6:=by
 cases q with
 |true=>rcases h with rfl|rfl|rfl|rfl|rfl|rfl<;>decide
 |false=>show(1:Int)<=3/\(3:Int)<=6;decide
section
variable{c:RC}{K:(Nat->Prop)->az->World->Prop}{w:World}{s:PS az}
structure C0 (c:RC) (K:(Nat->Prop)->az->World->Prop) (w w1:World) (O:Nat) (x:aX) (s:PS az):Prop where
 mi:MI c K w1 s
 Br:Below w.heap.size w w1
 box:w1.heap[O]?=some (sh x.d x.a x.b x.c x.n)
 off: ¬c.S O
 old:w.heap.size=O
theorem MI.at_(h:MI c K w s)(e:c.Fit)(b:tF K)(x:aX):C0 c K w (w.alloc (sh x.d x.a x.b x.c x.n)) w.heap.size x s:=
 ⟨h.below e b (af _ _),af _ _,an _ _,fun a=>by obtain⟨_,_,_,_,_,_,d,_⟩:=h;have:=d _ a;omega,rfl⟩
theorem C0.ne{w1:World}{O:Nat}{x:aX}(h:C0 c K w w1 O x s)(a:c.Fit): ¬O=c.M:=fun e=>h.off (e▸a.own)
theorem C0.bA{w1:World}{O:Nat}{x:aX}(h:C0 c K w w1 O x s){i:Nat}(hi:i<8):w1.cell? ⟨c.M,18+i,none⟩=some (rv (s.bA i)):=by obtain⟨f,a,_⟩:=h.mi;exact a.bA hi
theorem C0.free{w1:World}{O:Nat}{x:aX}(h:C0 c K w w1 O x s)(i:Nat):w1.frozen? ⟨c.M,i,none⟩=false:=by obtain⟨f,a,_⟩:=h.mi;exact a.free i
theorem C0.put{w1 w2:World}{O:Nat}{x:aX}(h:C0 c K w w1 O x s)(b:c.Fit)(f:tF K)(d:Below w1.heap.size w1 w2){a:Nat}(i:a<8)(k:x.a=(a:Int)){v:Int}(j:aO v){e:Ending}(g:e=.returned (rv 0)):
  lO c K (fP x s v) w e (w2.setCell ⟨c.M,18+a,none⟩ (rv v)):=by
 subst g;unfold fP;rw[k];exact⟨rfl,(h.mi.below b f d).jE b f i j,(oS (h.Br.x (d.m h.Br.size)) c.W).x ((bg w2 c.M (18+a) _).uV b) (fun _ _ h=>h)⟩
def Qx(f:Nat->Int)(a b:Nat):Int:=if f a<f b then 1 else 0
theorem T8(w:World)(q:Bool):Calls prog 159 #[.bool q] w fun e a=>e=.returned (rv (if q=true then 1 else 0))/\w=a:=by
 cases q
 ·exact PW w
 ·exact Kc w
theorem Qy(e:c.Fit)(h:tF K)(q:MI c K w s)(x:aX)(a b:Nat)(i:a<8)(o:b<8)(f:x.a=(a:Int))(d:x.b=(b:Int)):
  Calls prog 101 #[r7 c.M,x.val] w (lO c K (fP x s (s.bA b)) w):=by
 have H:=q.at_ e h x;have j:aO (s.bA b):=by obtain⟨_,_,_,_,_,_,_,l⟩:=q;exact l.1 b
 obtain⟨m,z,v,p,n⟩:=x;simp only at f d H;subst f d;unfold aX.val;simp only;have r:(0:Int)<=(a:Int):=by omega
 have u:(a:Int)<8:=by omega
 have B:(0:Int)<=(b:Int):=by omega
 have t:(b:Int)<8:=by omega
 go_enter func101,ntmps101;go_upto_region 1 with fail;generalize w.alloc (sh m (a:Int) (b:Int) p n)=f at H⊢;obtain⟨O,k⟩:=rl (w.heap.size);rw[k]at H⊢;have g:=H.box;have A:f.cell? ⟨O,1,none⟩=some (rv (a:Int)):=by simp[World.cell?,g]
 have C:f.cell? ⟨O,2,none⟩=some (rv (b:Int)):=by simp[World.cell?,g]
 have y:=H.bA o;have D:=H.bA i;have E:=H.free (18+a);have d:=AN H e h j;clear g H e h q k j
 go_still_tail 13,(by kernel_rfl)
 change wpList _ _ _ _ _ f.drew;go_wp2_with fail;go_ret
 exact d.o.1.put d.o.2.1 d.o.d.1 ((aw _ _).drew) i rfl d.o.t rfl
theorem Qz{f:Nat->Int}(h: ∀i,aO (f i))(a b:Nat):IntKind.i64.wrap (f a+f b)=f a+f b/\IntKind.i64.wrap (f a-f b)=f a-f b:=by have d:=h a;have c:=h b;unfold aO at d c;rw[lP,lP];omega
theorem gJ(w:World)(a:Addr)(v:Value):(w.setCell a v).drew=w.drew.setCell a v:=rfl
theorem mV(n:Int):aO (eA n):=by unfold aO eA;omega
theorem Kp(w:World)(n:Int)(h:aO n):Calls prog 198 #[rv n] w fun e a=>e=.returned (.int .u64 (n.natAbs:Int))/\w=a:=by
 unfold aO at h;go_enter func198,ntmps198;go_wp2_with fail
 all_goals go_ret
 ·refine⟨ew Ending.returned (ew (Value.int .u64) ?_),rfl⟩;rw[IntKind.wrap_u64,IntKind.wrap_u64];omega
 ·refine⟨ew Ending.returned (ew (Value.int .u64) ?_),rfl⟩;show n=_;omega
theorem QA(w:World)(x y:Nat)(c:x<=1099511627776)(b:y<=1099511627776):Calls prog 197 #[.int .u64 x,.int .u64 y] w fun e a=>e=.returned (.tuple #[.int .u64 ((x*y/18446744073709551616:Nat):Int),.int .u64 ((x*y%18446744073709551616:Nat):Int)])/\a=w:=
 Any.bits_Mul64 Tryz.TR x y (by omega) (by omega) w
theorem Mz{a b:Int}:eA (a*b)=if(a<0)↔(b<0)then(if a.natAbs*b.natAbs<1099511627776 then((a.natAbs*b.natAbs:Nat):Int)else 1099511627776)else -(if a.natAbs*b.natAbs<1099511627776 then((a.natAbs*b.natAbs:Nat):Int)else 1099511627776):=by
 have h:=Int.natAbs_mul a b
 have f:(a<0↔b<0)->0<=a*b:=fun h=>by
  by_cases c:a<0
  ·exact Int.le_of_lt (Int.mul_pos_of_neg_of_neg c (h.1 c))
  ·exact Int.mul_nonneg (by omega) (by have: ¬b<0:=fun e=>c (h.2 e);omega)
 have g: ¬(a<0↔b<0)->a*b<=0:=fun h=>by
  by_cases c:a<0
  ·exact Int.mul_nonpos_of_nonpos_of_nonneg (by omega) (by have: ¬b<0:=fun e=>h ⟨fun _=>e,fun _=>c⟩;omega)
  ·have i:b<0:=Classical.byContradiction fun e=>h ⟨fun d=>absurd d c,fun d=>absurd d e⟩;exact Int.mul_nonpos_of_nonneg_of_nonpos (by omega) (by omega)
 rw[<-h];generalize a*b=p at *;unfold eA;split
 ·have:=f ‹_›;split<;>omega
 ·have:=g ‹_›;split<;>omega
theorem IX(w:World)(a b:Int)(i:aO a)(l:aO b):Calls prog 158 #[rv a,rv b] w fun p j=>p=.returned (rv (eA (a*b)))/\w=j:=by
 have d:a.natAbs<=1099511627776:=by unfold aO at i;omega
 have o:b.natAbs<=1099511627776:=by unfold aO at l;omega
 have v:=al (fun W=>Kp W a i);have x:=al (fun W=>Kp W b l);have m:=al (fun W=>QA W a.natAbs b.natAbs d o);have k:=al (Mz (a:=a) (b:=b));obtain⟨R,c⟩:=rl (eA (a*b));rw[c]at k⊢;clear c;generalize a.natAbs*b.natAbs=q at m k;obtain⟨s,f⟩:=rl (q/18446744073709551616);obtain⟨n,c⟩:=rl (q%18446744073709551616);rw[f,c]at m;have h:q<1099511627776↔s=0/\n<1099511627776:=by omega
 have g:q<1099511627776->q=n:=by omega
 have e:=AI h g;clear h g f c d o;go_enter func158,ntmps158;go_wp2_with fail;refine(v.o _).m ?_;rintro p j ⟨rfl,rfl⟩;go_wp2_with fail;refine(x.o _).m ?_;rintro p j ⟨rfl,rfl⟩;go_wp2_with fail;refine(m.o _).m ?_;rintro p j ⟨rfl,rfl⟩;go_upto_region 3 with fail;obtain⟨L,r⟩: ∃L:Int,(n:Int)=L:=⟨_,rfl⟩;obtain⟨Z,t⟩: ∃L:Int,(s:Int)=L:=⟨_,rfl⟩;rw[r,t];obtain⟨E,c⟩: ∃E:Int,(if q<1099511627776 then(q:Int)else 1099511627776)=E:=⟨_,rfl⟩;have o:=k.o;rw[c]at o;have g:=al o;have z:0<=L:=by omega
 have y:0<=Z:=by omega
 have h:Z=0/\L<1099511627776->E=L:=fun u=>by have d:=e.o.1.2 ⟨by omega,by omega⟩;rw[fi d]at c;have:=e.o.2 d;omega
 have f: ¬(Z=0/\L<1099511627776)->E=1099511627776:=fun u=>by
  have d: ¬q<1099511627776:=fun q=>by have:=e.o.1.1 q;exact u ⟨by omega,by omega⟩
  rw[ff d]at c;exact c.symm
 clear e k m r t c o
 have c: ∀p:Int,p=E-> ∀q:Bool,(!decide (a<0)==decide (b<0))=q->R=if q=true then -p else p:=by rintro _ rfl q e;rw[g.o];by_cases i:a<0<;>by_cases l:b<0<;>simp[i,l]at e⊢ <;>subst e<;>simp
 have e:=al c;have r:IntKind.i64.wrap (-1099511627776)= -1099511627776:=by decide
 clear c;by_cases k:Z=0
 ·subst k;by_cases m:L<1099511627776
  ·have t:wrap64 L=L:=by unfold wrap64;omega
   have o:wrap64 (-L)= -L:=by unfold wrap64;omega
   have c:=al (h ⟨rfl,m⟩);clear h f g;go_wp2_with fail
   ·go_ret
    exact⟨ew Ending.returned (ew (Value.int .i64) (e.o L c.o.symm true ‹_›).symm),rfl⟩
   ·go_ret
    exact⟨ew Ending.returned (ew (Value.int .i64) (e.o L c.o.symm false ‹_›).symm),rfl⟩
  ·have c:=al (f (fun u=>m u.2));clear h f g;go_wp2_with fail
   ·go_ret
    exact⟨ew Ending.returned (ew (Value.int .i64) (e.o 1099511627776 c.o.symm true ‹_›).symm),rfl⟩
   ·go_ret
    exact⟨ew Ending.returned (ew (Value.int .i64) (e.o 1099511627776 c.o.symm false ‹_›).symm),rfl⟩
 ·have c:=al (f (fun u=>k u.1));clear h f g;go_wp2_with fail
  ·go_ret
   exact⟨ew Ending.returned (ew (Value.int .i64) (e.o 1099511627776 c.o.symm true ‹_›).symm),rfl⟩
  ·go_ret
   exact⟨ew Ending.returned (ew (Value.int .i64) (e.o 1099511627776 c.o.symm false ‹_›).symm),rfl⟩
theorem T9(d:c.Fit)(e:tF K)(A:MI c K w s)(x:aX)(a b:Nat)(l:a<8)(y:b<8)(g:x.a=(a:Int))(f:x.b=(b:Int)):
  Calls prog 102 #[r7 c.M,x.val] w (lO c K (fP x s (eA (s.bA a+s.bA b))) w):=by
 have H:=A.at_ d e x;have k: ∀i,aO (s.bA i):=by obtain⟨_,_,_,_,_,_,_,q⟩:=A;exact q.1
 obtain⟨u,I,B,r,z⟩:=x;simp only at g f H;subst g f;unfold aX.val;simp only;have F:(0:Int)<=(a:Int):=by omega
 have C:(a:Int)<8:=by omega
 have J:(0:Int)<=(b:Int):=by omega
 have E:(b:Int)<8:=by omega
 go_enter func102,ntmps102;go_upto_region 1 with fail;generalize w.alloc (sh u (a:Int) (b:Int) r z)=f at H⊢;obtain⟨O,g⟩:=rl (w.heap.size);rw[g]at H⊢;have h:=H.box;have m:=H.ne d;have i:f.cell? ⟨O,1,none⟩=some (rv (a:Int))/\f.cell? ⟨O,2,none⟩=some (rv (b:Int)):=by simp[World.cell?,h]
 have G:=H.bA y;have L:=H.bA l;have D:=H.free (18+a);obtain⟨n,j⟩:=rl (s.bA a+s.bA b);have t:=al j;have p:=(Qz k a b).1;rw[j]at p⊢;have o:=mV n;have v:=al (fun W=>oX W n);have f:=AS H d e o m;clear h H d e A g k o m;refine pw (S:=(fun W=>W.cell? ⟨O,1,none⟩=some (rv (a:Int))/\W.cell? ⟨O,2,none⟩=some (rv (b:Int)))) (by kernel_rfl) i (fun d=>?_);refine bq [0,1,2,3,4,5,6,7,8,10,11,12,13,14,15,19,20] ?_
 iterate 17 (refine ek (v:=?_) (fun _ ⟨h,k⟩=>?_) d ?_;rotate_left;(go_simp;try rfl);try simp only[xT])
 refine bt ?_;refine qn (rs:=[9,16]) (by kernel_rfl) (by simp) (dw (i:=9) rfl (fun K e=>?_) (dw (i:=16) rfl (fun K e=>?_) pt))
 focus
  go_simp;refine e.o _ _ (d) ?_;clear e K d;intro d
  try simp only[xT]
  refine bC 16 (fun K e=>?_)
 rotate_left
 focus
  go_simp;refine e.o _ _ (d) ?_;clear e K d;intro d
  try simp only[xT]
  refine bC 9 (fun K e=>?_)
 all_goals
  go_simp;refine e.o _ _ (d) ?_;clear e K d;intro d
  try simp only[xT]
  refine ml 17 (v:=?_) (fun m g=>?_) d ?_;rotate_left
  ·obtain⟨h,k⟩:=g;go_simp;try rfl
  try simp only[xT]
  refine bC 18 (fun K e=>?_);go_simp;refine(v.o _).m ?_;rintro A o ⟨rfl,rfl⟩
  try go_simp
  refine e.o _ _ (d) ?_;clear e K d;intro d
  try simp only[xT]
  refine ml 21 (v:=?_) (fun m g=>?_) d ?_;rotate_left
  ·obtain⟨h,k⟩:=g;go_simp;try rfl
  try simp only[xT]
  refine bC 22 (fun K e=>?_);go_simp;refine e.o _ _ (⟨(bg _ c.M (18+a) _).cell d.1 f.o.q,(bg _ c.M (18+a) _).cell d.2 f.o.q⟩) ?_;clear e K d;intro d
  try simp only[xT]
  refine qe (by kernel_rfl) ?_ _;clear d i;go_wp2_with fail;go_ret
  have d:=t.o;subst d;rw[gJ];exact f.o.1.put f.o.2.1 f.o.d.1 ((aw _ _).drew) l rfl f.o.t.1 rfl
theorem QB(g:c.Fit)(e:tF K)(B:MI c K w s)(x:aX)(a b:Nat)(k:a<8)(v:b<8)(f:x.a=(a:Int))(d:x.b=(b:Int)):
  Calls prog 105 #[r7 c.M,x.val] w (lO c K (fP x s (Qx s.bA a b)) w):=by
 have H:=B.at_ g e x;have r: ∀i,aO (s.bA i):=by obtain⟨_,_,_,_,_,_,_,p⟩:=B;exact p.1
 obtain⟨u,J,C,q,y⟩:=x;simp only at f d H;subst f d;unfold aX.val;simp only;have G:(0:Int)<=(a:Int):=by omega
 have D:(a:Int)<8:=by omega
 have L:(0:Int)<=(b:Int):=by omega
 have F:(b:Int)<8:=by omega
 go_enter func105,ntmps105;go_upto_region 1 with fail;generalize w.alloc (sh u (a:Int) (b:Int) q y)=d at H⊢;obtain⟨O,h⟩:=rl (w.heap.size);rw[h]at H⊢;have j:=H.box;have l:=H.ne g;have i:d.cell? ⟨O,1,none⟩=some (rv (a:Int))/\d.cell? ⟨O,2,none⟩=some (rv (b:Int)):=by simp[World.cell?,j]
 have I:=H.bA v;have M:=H.bA k;have E:=H.free (18+a);obtain⟨A,z⟩: ∃A:Bool,decide (s.bA a<s.bA b)=A:=⟨_,rfl⟩;obtain⟨m,d⟩: ∃f:Int,(if A=true then 1 else 0)=f:=⟨_,rfl⟩;have t:=al (show Qx s.bA a b=m by unfold Qx;rw[<-d,<-z];simp only[decide_eq_true_eq]);have o:aO m:=by rw[<-d];split<;>exact⟨by decide,by decide⟩
 have n:=al (fun W=>T8 W A);rw[d]at n;clear d;have f:=AS H g e o l;clear j H g e B h r o l;refine pw (S:=(fun W=>W.cell? ⟨O,1,none⟩=some (rv (a:Int))/\W.cell? ⟨O,2,none⟩=some (rv (b:Int)))) (by kernel_rfl) i (fun d=>?_);refine bq [0,1,2,3,4,5,6,7,8,10,11,12,13,14,15,19,20] ?_
 iterate 17 (refine ek (v:=?_) (fun _ ⟨h,j⟩=>?_) d ?_;rotate_left;(go_simp;try rfl);try simp only[xT])
 refine bt ?_;refine qn (rs:=[9,16]) (by kernel_rfl) (by simp) (dw (i:=9) rfl (fun K e=>?_) (dw (i:=16) rfl (fun K e=>?_) pt))
 focus
  go_simp;refine e.o _ _ (d) ?_;clear e K d;intro d
  try simp only[xT]
  refine bC 16 (fun K e=>?_)
 rotate_left
 focus
  go_simp;refine e.o _ _ (d) ?_;clear e K d;intro d
  try simp only[xT]
  refine bC 9 (fun K e=>?_)
 all_goals
  go_simp;refine e.o _ _ (d) ?_;clear e K d;intro d
  try simp only[xT]
  refine ml 17 (v:=?_) (fun l g=>?_) d ?_;rotate_left
  ·obtain⟨h,j⟩:=g;go_simp;try rfl
  try simp only[xT]
  refine bC 18 (fun K e=>?_);go_simp;refine(n.o _).m ?_;rintro r o ⟨rfl,rfl⟩
  try go_simp
  refine e.o _ _ (d) ?_;clear e K d;intro d
  try simp only[xT]
  refine ml 21 (v:=?_) (fun l g=>?_) d ?_;rotate_left
  ·obtain⟨h,j⟩:=g;go_simp;try rfl
  try simp only[xT]
  refine bC 22 (fun K e=>?_);go_simp;refine e.o _ _ (⟨(bg _ c.M (18+a) _).cell d.1 f.o.q,(bg _ c.M (18+a) _).cell d.2 f.o.q⟩) ?_;clear e K d;intro d
  try simp only[xT]
  refine qe (by kernel_rfl) ?_ _;clear d i;go_wp2_with fail;go_ret
  have d:=t.o;subst d;rw[gJ];exact f.o.1.put f.o.2.1 f.o.d.1 ((aw _ _).drew) k rfl f.o.t.1 rfl
theorem Ua(g:c.Fit)(e:tF K)(z:MI c K w s)(x:aX)(a b:Nat)(l:a<8)(v:b<8)(f:x.a=(a:Int))(d:x.b=(b:Int)):
  Calls prog 104 #[r7 c.M,x.val] w (lO c K (fP x s (eA (s.bA a*s.bA b))) w):=by
 have H:=z.at_ g e x;have h: ∀i,aO (s.bA i):=by obtain⟨_,_,_,_,_,_,_,p⟩:=z;exact p.1
 obtain⟨t,G,A,q,y⟩:=x;simp only at f d H;subst f d;unfold aX.val;simp only;have E:(0:Int)<=(a:Int):=by omega
 have B:(a:Int)<8:=by omega
 have I:(0:Int)<=(b:Int):=by omega
 have D:(b:Int)<8:=by omega
 go_enter func104,ntmps104;go_upto_region 1 with fail;generalize w.alloc (sh t (a:Int) (b:Int) q y)=d at H⊢;obtain⟨O,j⟩:=rl (w.heap.size);rw[j]at H⊢;have k:=H.box;have m:=H.ne g;have i:d.cell? ⟨O,1,none⟩=some (rv (a:Int))/\d.cell? ⟨O,2,none⟩=some (rv (b:Int)):=by simp[World.cell?,k]
 have F:=H.bA v;have J:=H.bA l;have C:=H.free (18+a);obtain⟨u,d⟩:=rl (eA (s.bA a*s.bA b));have r:=al d;have o:aO u:=by rw[<-d];exact mV _
 have n:=al (fun W=>IX W (s.bA a) (s.bA b) (h a) (h b));rw[d]at n;clear d;have f:=AS H g e o m;clear k H g e z j h o m;refine pw (S:=(fun W=>W.cell? ⟨O,1,none⟩=some (rv (a:Int))/\W.cell? ⟨O,2,none⟩=some (rv (b:Int)))) (by kernel_rfl) i (fun d=>?_);refine bq [0,1,2,3,4,5,6,7,8,10,11,12,13,14,15,18,19] ?_
 iterate 17 (refine ek (v:=?_) (fun _ ⟨h,j⟩=>?_) d ?_;rotate_left;(go_simp;try rfl);try simp only[xT])
 refine bt ?_;refine qn (rs:=[9,16]) (by kernel_rfl) (by simp) (dw (i:=9) rfl (fun K e=>?_) (dw (i:=16) rfl (fun K e=>?_) pt))
 focus
  go_simp;refine e.o _ _ (d) ?_;clear e K d;intro d
  try simp only[xT]
  refine bC 16 (fun K e=>?_)
 rotate_left
 focus
  go_simp;refine e.o _ _ (d) ?_;clear e K d;intro d
  try simp only[xT]
  refine bC 9 (fun K e=>?_)
 all_goals
  go_simp;refine e.o _ _ (d) ?_;clear e K d;intro d
  try simp only[xT]
  refine bC 17 (fun K e=>?_);go_simp;refine(n.o _).m ?_;rintro o m ⟨rfl,rfl⟩
  try go_simp
  refine e.o _ _ (d) ?_;clear e K d;intro d
  try simp only[xT]
  refine ml 20 (v:=?_) (fun k g=>?_) d ?_;rotate_left
  ·obtain⟨h,j⟩:=g;go_simp;try rfl
  try simp only[xT]
  refine bC 21 (fun K e=>?_);go_simp;refine e.o _ _ (⟨(bg _ c.M (18+a) _).cell d.1 f.o.q,(bg _ c.M (18+a) _).cell d.2 f.o.q⟩) ?_;clear e K d;intro d
  try simp only[xT]
  refine qe (by kernel_rfl) ?_ _;clear d i;go_wp2_with fail;go_ret
  have d:=r.o;subst d;rw[gJ];exact f.o.1.put f.o.2.1 f.o.d.1 ((aw _ _).drew) l rfl f.o.t.1 rfl
theorem Ub(d:c.Fit)(e:tF K)(A:MI c K w s)(x:aX)(a b:Nat)(l:a<8)(y:b<8)(g:x.a=(a:Int))(f:x.b=(b:Int)):
  Calls prog 103 #[r7 c.M,x.val] w (lO c K (fP x s (eA (s.bA a-s.bA b))) w):=by
 have H:=A.at_ d e x;have k: ∀i,aO (s.bA i):=by obtain⟨_,_,_,_,_,_,_,q⟩:=A;exact q.1
 obtain⟨u,I,B,r,z⟩:=x;simp only at g f H;subst g f;unfold aX.val;simp only;have F:(0:Int)<=(a:Int):=by omega
 have C:(a:Int)<8:=by omega
 have J:(0:Int)<=(b:Int):=by omega
 have E:(b:Int)<8:=by omega
 go_enter func103,ntmps103;go_upto_region 1 with fail;generalize w.alloc (sh u (a:Int) (b:Int) r z)=f at H⊢;obtain⟨O,g⟩:=rl (w.heap.size);rw[g]at H⊢;have h:=H.box;have m:=H.ne d;have i:f.cell? ⟨O,1,none⟩=some (rv (a:Int))/\f.cell? ⟨O,2,none⟩=some (rv (b:Int)):=by simp[World.cell?,h]
 have G:=H.bA y;have L:=H.bA l;have D:=H.free (18+a);obtain⟨n,j⟩:=rl (s.bA a-s.bA b);have t:=al j;have p:=(Qz k a b).2;rw[j]at p⊢;have o:=mV n;have v:=al (fun W=>oX W n);have f:=AS H d e o m;clear h H d e A g k o m;refine pw (S:=(fun W=>W.cell? ⟨O,1,none⟩=some (rv (a:Int))/\W.cell? ⟨O,2,none⟩=some (rv (b:Int)))) (by kernel_rfl) i (fun d=>?_);refine bq [0,1,2,3,4,5,6,7,8,10,11,12,13,14,15,19,20] ?_
 iterate 17 (refine ek (v:=?_) (fun _ ⟨h,k⟩=>?_) d ?_;rotate_left;(go_simp;try rfl);try simp only[xT])
 refine bt ?_;refine qn (rs:=[9,16]) (by kernel_rfl) (by simp) (dw (i:=9) rfl (fun K e=>?_) (dw (i:=16) rfl (fun K e=>?_) pt))
 focus
  go_simp;refine e.o _ _ (d) ?_;clear e K d;intro d
  try simp only[xT]
  refine bC 16 (fun K e=>?_)
 rotate_left
 focus
  go_simp;refine e.o _ _ (d) ?_;clear e K d;intro d
  try simp only[xT]
  refine bC 9 (fun K e=>?_)
 all_goals
  go_simp;refine e.o _ _ (d) ?_;clear e K d;intro d
  try simp only[xT]
  refine ml 17 (v:=?_) (fun m g=>?_) d ?_;rotate_left
  ·obtain⟨h,k⟩:=g;go_simp;try rfl
  try simp only[xT]
  refine bC 18 (fun K e=>?_);go_simp;refine(v.o _).m ?_;rintro A o ⟨rfl,rfl⟩
  try go_simp
  refine e.o _ _ (d) ?_;clear e K d;intro d
  try simp only[xT]
  refine ml 21 (v:=?_) (fun m g=>?_) d ?_;rotate_left
  ·obtain⟨h,k⟩:=g;go_simp;try rfl
  try simp only[xT]
  refine bC 22 (fun K e=>?_);go_simp;refine e.o _ _ (⟨(bg _ c.M (18+a) _).cell d.1 f.o.q,(bg _ c.M (18+a) _).cell d.2 f.o.q⟩) ?_;clear e K d;intro d
  try simp only[xT]
  refine qe (by kernel_rfl) ?_ _;clear d i;go_wp2_with fail;go_ret
  have d:=t.o;subst d;rw[gJ];exact f.o.1.put f.o.2.1 f.o.d.1 ((aw _ _).drew) l rfl f.o.t.1 rfl
theorem QC(e:c.Fit)(g:tF K)(q:MI c K w s)(x:aX)(a:Nat)(A:a<8)(b:x.a=(a:Int))(h:0<=x.n/\s.pc+x.n<=1000):
  Calls prog 112 #[r7 c.M,x.val] w (lO c K ({s with pc:=if s.bA a=0 then s.pc+x.n else s.pc},0) w):=by
 have H:=q.at_ e g x;obtain⟨C,I,v,y,i⟩:=x;simp only at b H h;subst b;unfold aX.val;simp only;have G:(0:Int)<=(a:Int):=by omega
 have F:(a:Int)<8:=by omega
 go_enter func112,ntmps112;go_upto_region 1 with fail;generalize w.alloc (sh C (a:Int) v y i)=b at H⊢;obtain⟨O,j⟩:=rl (w.heap.size);rw[j]at H⊢;have d:=H.box;have B:b.cell? ⟨O,1,none⟩=some (rv (a:Int)):=by simp[World.cell?,d]
 have m:b.cell? ⟨O,4,none⟩=some (rv i):=by simp[World.cell?,d]
 have p:=H.bA A;have n:=H.free 17;have r:=H.mi;have k:b.cell? ⟨c.M,17,none⟩=some (rv s.pc):=by obtain⟨_,l,_⟩:=H.mi;exact l.pc
 have f:s.Fit:=by obtain⟨_,_,_,_,_,_,_,z⟩:=q;exact z
 have E:IntKind.i64.wrap (s.pc+i)=s.pc+i:=by rw[lP];have:=f.2.2;omega
 have o:=AS H e g h f;clear d H e g q j h f r;by_cases j:s.bA a=0
 ·rw[j]at p;have D:=al j;clear j
  go_region
  go_upto_region 2 with fail;have d:=(aw b.heap.size b).drew;have t:b.drew.cell? ⟨O,4,none⟩=some (rv i):=m;have u:b.drew.cell? ⟨c.M,17,none⟩=some (rv s.pc):=k;have r:b.drew.frozen? ⟨c.M,17,none⟩=false:=n;clear B m k n p;generalize b.drew=k at d t u r⊢;have m:=al d;clear d
  go_still_tail 9,(by kernel_rfl)
  change wpList _ _ _ _ _ k.drew;go_wp2_with fail;go_ret
  obtain⟨H,e,g,h,f⟩:=o.o;have d:=m.o.drew;rw[gJ];exact⟨rfl,(H.mi.below e g d).turn e g (bg k.drew c.M 17 _) (fun n l=>l.J5 _) rfl rfl ⟨f.1,f.2.1,by have:=f.2.2;show 0<=s.pc+i;omega,h.2⟩,(oS (H.Br.x (d.m H.Br.size)) c.W).x ((bg k.drew c.M 17 _).uV e) (fun _ _ q=>q)⟩
 ·have D:=al j;go_wp2_with fail
  go_region
  go_wp2_with fail;go_ret
  obtain⟨H,e,g,h,f⟩:=o.o;have d:=(aw b.heap.size b).drew;exact⟨rfl,H.mi.below e g d,oS (H.Br.x (d.m H.Br.size)) c.W⟩
theorem MA(b:c.Fit)(e:tF K)(j:MI c K w s)(x:aX)(a:Nat)(m:a<8)(d:x.a=(a:Int)):
  Calls prog 114 #[r7 c.M,x.val] w (lO c K ({s with value:=s.bA a},19) w):=by
 have H:=j.at_ b e x;obtain⟨o,y,n,r,p⟩:=x;simp only at d H;subst d;unfold aX.val;simp only;have t:(0:Int)<=(a:Int):=by omega
 have v:(a:Int)<8:=by omega
 go_enter func114,ntmps114;go_upto_region 1 with fail;generalize w.alloc (sh o (a:Int) n r p)=d at H⊢;obtain⟨O,h⟩:=rl (w.heap.size);rw[h]at H⊢;have i:=H.box;have z:d.cell? ⟨O,1,none⟩=some (rv (a:Int)):=by simp[World.cell?,i]
 have A:=H.bA m;have g:s.Fit:=by obtain⟨_,_,_,_,_,_,_,l⟩:=j;exact l
 have q:=AN H b e g;have k:=H.mi;obtain⟨C,f,-⟩:=k;have B:=f.free 29;have u:d.cell? ⟨c.M,29,none⟩=some (rv s.value):=f.value;clear i H b e j h g f
 go_still_tail 11,(by kernel_rfl)
 change wpList _ _ _ _ _ d.drew;go_wp2_with fail;go_ret
 obtain⟨H,b,e,g⟩:=q.o;have h:=(aw d.heap.size d).drew;exact⟨rfl,(H.mi.below b e h).turn b e (bg d.drew c.M 29 _) (fun C f=>f.setValue _) rfl rfl g,(oS (H.Br.x (h.m H.Br.size)) c.W).x ((bg d.drew c.M 29 _).uV b) (fun _ _ j=>j)⟩
end
section
variable{c:RC}{K:(Nat->Prop)->az->World->Prop}{w:World}{s:PS az}
theorem QD{R:Type}{fuel:Int}{a:PS R->PS R×Int}{k:Nat}{t:PS R}(h:fuel<=t.steps):loopGo fuel a (k+1) t=(t,20):=by rw[loopGo,fi h]
theorem Uc{R:Type}{fuel:Int}{a:PS R->PS R×Int}{k:Nat}{t u:PS R}{n:Int}(h: ¬fuel<=t.steps)(b:a {t with steps:=t.steps+1}=(u,n)):loopGo fuel a (k+1) t=if n=0 then loopGo fuel a k u else(u,n):=by rw[loopGo,ff h,b]
def adn(c:RC)(K:(Nat->Prop)->az->World->Prop)(b:PS az->PS az×Int)(w:World)(O C:Nat)(x:aX)(s:PS az)(i:Value)(a:World):Prop:=
 ∃(k:Nat) (t:PS az),k<=C/\i=rv (k:Int)/\MI c K a t/\Only c.W w a/\a.heap[O]?=some (sh x.d x.a x.b x.c x.n)/\loopGo c.fuel b C s=loopGo c.fuel b (C-k) t
theorem QE{act:aX->PS az->PS az×Int}(f:c.Fit)(g:tF K)(h:MI c K w s)(x:aX)(fr N C:Nat)(d:s.pc=(fr:Int))(a:x.n=(N:Int))(e:x.c=(C:Int))(o:C<=1000)(y:fr+N<=c.ops.length)(q:xY c K act fr (fr+N)):
  Calls prog 113 #[r7 c.M,x.val] w (lO c K (mr c.fuel c.ops act x s) w):=by
 have z:=f.ops;have H:=h.at_ f g x;have b:mr c.fuel c.ops act x s=if(loopGo c.fuel (fun t=>cH c.fuel c.ops act (s.pc+x.n) x.n.toNat {t with pc:=s.pc}) x.c.toNat s).2=0 then({(loopGo c.fuel (fun t=>cH c.fuel c.ops act (s.pc+x.n) x.n.toNat {t with pc:=s.pc}) x.c.toNat s).1 with pc:=s.pc+x.n},0)else loopGo c.fuel (fun t=>cH c.fuel c.ops act (s.pc+x.n) x.n.toNat {t with pc:=s.pc}) x.c.toNat s:=rfl
 obtain⟨u,j⟩:=rl ((fun t:PS az=>cH c.fuel c.ops act (s.pc+x.n) x.n.toNat {t with pc:=s.pc}));rw[j]at b
 have k: ∀t:PS az,u t=cH c.fuel c.ops act ((fr:Int)+(N:Int)) (fr+N-fr) {t with pc:=(fr:Int)}:=fun t=>by rw[<-j,d,a];simp only[iv];rw[show fr+N-fr=N by omega]
 obtain⟨r,l,n,U,V⟩:=x;simp only at a e H b;subst a e;rw[iv,d]at b;unfold aX.val;simp only
 have I:=al (show ∀(W:World) (t:PS az),MI c K W t->Calls prog 63 #[r7 c.M,rv (fr:Int),rv ((fr:Int)+(N:Int))] W (lO c K (u t) W)from fun W t a=>by
  have h:=Fe f g a fr (fr+N) (by omega) y q;rw[Int.natCast_add]at h;rw[k]
  exact h)
 have a:=By f g b k o (show fr+N<=64 from by omega);go_enter func113,ntmps113;go_upto_region 1 with fail;generalize w.alloc (sh r l n (C:Int) (N:Int))=e at H⊢;obtain⟨O,v⟩:=rl (w.heap.size);rw[v]at H⊢;have p:=H.box;have S:e.cell? ⟨O,3,none⟩=some (rv (C:Int)):=by simp[World.cell?,p]
 have R:e.cell? ⟨c.M,17,none⟩=some (rv (fr:Int)):=by obtain⟨_,e,_⟩:=H.mi;have:=e.pc;simp only[RC.ms]at this;rw[d]at this;exact this
 have m:=AI H d;clear h p v f g H b j k z y q d o;go_wp2_with fail
 go_loopw [14] (fun i wr=>adn c K u w O C ⟨r,l,n,C,N⟩ s i wr) (fun i _=>C-(intOf i).toNat)
 case atStart=>exact⟨0,s,dq _,rfl,m.o.1.mi,oS m.o.1.Br c.W,m.o.1.box,rfl⟩
 case round=>
  obtain⟨B,t,T,rfl,d,A,g,b⟩:=hrel
  rename World=>wr
  have v:=AN d A g b;have D:wr.cell? ⟨O,4,none⟩=some (rv (N:Int)):=by simp[World.cell?,g]
  by_cases J:B<C
  ·obtain⟨P,y⟩: ∃P,C-B=P+1:=⟨C-B-1,by omega⟩;rw[y]at b;by_cases q:c.fuel<=t.steps
   ·have z:=al (E7 a.o.1 a.o.2.1 d q);have f:=al (show mr c.fuel c.ops act ⟨r,l,n,C,N⟩ s=(t,20) by rw[a.o.d.1,b,QD q];rfl);clear d A g b y q;go_wp2_with fail;refine z.o.m ?_;rintro Q F ⟨rfl,j,k⟩;have o:=AI j k;clear j k;go_wp2_with fail;go_ret
    rw[f.o];exact⟨rfl,o.o.1,v.o.2.1.x o.o.2 (fun _ _ h=>h)⟩
   ·have z:=al (E6 a.o.1 a.o.2.1 d (by omega));obtain⟨M,H,G⟩: ∃M H,u {t with steps:=t.steps+1}=(M,H):=⟨_,_,rfl⟩;rw[Uc q G]at b;have p:=AM b G y;have E:=al (show B+1<=C/\wrap64 ((B:Int)+1)=((B+1:Nat):Int)from⟨J,by have:=a.o.q.1;unfold wrap64;omega⟩);have L:IntKind.i64.wrap ((fr:Int)+(N:Int))=(fr:Int)+(N:Int):=by rw[lP];have:=a.o.q.2;omega
    clear d A b y q G D;go_wp2_with fail;refine z.o.m ?_;rintro Q F ⟨rfl,j,k⟩;have q:=k.heap g (fun h=>m.o.1.off (a.o.1.sub _ h));have D:F.cell? ⟨O,4,none⟩=some (rv (N:Int)):=by simp[World.cell?,q]
    have o:=AM j k q;have y:=al (I.o F _ j);rw[p.o.2.1]at y;clear j k q g z;go_wp2_with fail;refine y.o.m ?_;rintro Q G ⟨rfl,k,q⟩;simp only at k;have z:=q.heap o.o.d (fun h=>m.o.1.off (a.o.1.sub _ h));have j:=AM k ((v.o.2.1.x o.o.2.1 (fun _ _ h=>h)).x q (fun _ _ h=>h)) z;clear k q z y D;by_cases k:H=0
    ·subst k;have f:=al (p.o.1.x (fi rfl));go_wp2_with fail;go_roundw
     case rel=>exact⟨B+1,M,E.o.1,ew _ E.o.2,j.o.1,j.o.2.1,j.o.d,by rw[f.o,show C-(B+1)=P by have:=p.o.d;omega]⟩
     case measure=>rw[E.o.2];simp only[intOf,iv];have:=p.o.d;omega
    ·have q:(H==0)=false:=by simpa using k
     have f:=al (show mr c.fuel c.ops act ⟨r,l,n,C,N⟩ s=(M,H) by rw[a.o.d.1,p.o.1,ff k,ff k]);clear k;go_wp2_with fail;go_ret
     rw[f.o];exact⟨rfl,j.o.1,j.o.2.1⟩
  ·have j:B=C:=by omega
   subst j;have f:=al (show mr c.fuel c.ops act ⟨r,l,n,B,N⟩ s=({t with pc:=(fr:Int)+(N:Int)},0) by rw[a.o.d.1,b,Nat.sub_self];rfl);have L:IntKind.i64.wrap ((fr:Int)+(N:Int))=(fr:Int)+(N:Int):=by rw[lP];have:=a.o.q.2;omega
   obtain⟨y,e,-⟩:=id d;have p:=e.free 17;have q:wr.cell? ⟨c.M,17,none⟩=some (rv t.pc):=e.pc;have j:t.Fit:=by obtain⟨_,_,_,_,_,_,_,o⟩:=d;exact o
   have k:=al j;clear d A g b e j;go_wp2_with fail;go_ret
   rw[f.o];refine⟨rfl,v.o.1.turn a.o.1 a.o.2.1 (bg wr c.M 17 _) (fun y e=>e.J5 _) rfl rfl ⟨k.o.1,k.o.2.1,by show(0:Int)<=(fr:Int)+(N:Int);omega,by show(fr:Int)+(N:Int)<=1000;have:=a.o.q.2;omega⟩,v.o.2.1.x ((bg wr c.M 17 _).uV a.o.1) (fun _ _ h=>h)⟩
end
theorem Bt{l:List aX}(h:opsE l=0):l.length<=64/\(∀o∈l,eY o=true)/\(∀o∈l,eZ o=true)/\jk l=true:=by
 unfold opsE at h;split at h
 ·cases h
 ·rename_i d;split at h
  ·cases h
  ·rename_i b;split at h
   ·cases h
   ·rename_i c;split at h
    ·cases h
    ·rename_i a;simp only[Bool.not_eq_false]at b c a;exact⟨by omega,List.all_eq_true.1 b,List.all_eq_true.1 c,a⟩
theorem ko{o:aX}(h:eZ o=true){i:Nat}(hi:i<4)(a:oF o.d i=true):D5 o.d i<=o.tP i/\o.tP i<=BX o.d i:=by unfold eZ at h;have:=List.all_eq_true.1 h i (List.mem_range.2 hi);rw[a]at this;simpa using this
theorem QF{o:aX}(h:eY o=true):1<=o.d/\o.d<=15:=by unfold eY at h;rw[mw]at h;exact of_decide_eq_true h.1
def FL(ops:List aX):Prop:= ∀(i:Nat) (o:aX),ops[i]?=some o->o.holds=true->0<=o.n/\i+1+o.n.toNat<=ops.length/\ ∀(j:Nat) (a:aX),i<j->j<i+1+o.n.toNat->ops[j]?=some a->a.holds=true->j+1+a.n.toNat<=i+1+o.n.toNat
def IY(ops:List aX)(fr tt:Nat):Prop:= ∀(j:Nat) (o:aX),fr<=j->j<tt->ops[j]?=some o->o.holds=true->j+1+o.n.toNat<=tt
theorem FL.body{ops:List aX}(h:FL ops){i:Nat}{o:aX}(d:ops[i]?=some o)(b:o.holds=true):IY ops (i+1) (i+1+o.n.toNat):=fun j c a=>(h i o d b).2.2 j c a
theorem FL.whole{ops:List aX}(h:FL ops):IY ops 0 ops.length:=fun j o _ _ b a=>(h j o b a).2.1
theorem MB{c:Nat}{b:List Int}(h:b.Pairwise fun a d=>a≥d)(d: ∀e∈b,e<=(c:Int)):(∀e∈b,mg c b<=e)/\mg c b<=(c:Int):=by
 unfold mg
 cases hz:b.getLast? with
 |none=>rw[List.getLast?_eq_none_iff]at hz;subst hz;exact⟨fun e a=>by simp at a,eE _⟩
 |some z=>
  obtain⟨f,rfl⟩:=List.getLast?_eq_some_iff.1 hz;rw[List.pairwise_append]at h;refine⟨fun e a=>?_,d z (by simp)⟩;rcases dr.1 a with a|a
  ·exact h.2.2 e a z (by simp)
  ·rw[fl]at a;rw[a];exact eE _
theorem MC{l:List aX}{i j:Nat}{o:aX}(c:l[i]?=some o)(b:o.holds=true)(a:i<j)(d:(j:Int)<eF i o):eF i o∈opens l j:=by unfold opens;rw[List.mem_map];refine⟨(o,i),List.mem_filter.2 ⟨?_,by simp[b,d]⟩,rfl⟩;rw[List.mem_zipIdx_iff_getElem?];simp only;rw[mu,fi a];exact c
theorem Kq{l:List aX}(t:opsE l=0):FL l:=by
 obtain⟨_,_,p,q⟩:=Bt t
 have m: ∀(i:Nat) (o:aX),l[i]?=some o->o.holds=true->0<=o.n:=by
  intro i o b a
  have e:oF o.d 3=true:=by unfold aX.holds at a;simp only[Bool.or_eq_true,beq_iff_eq]at a;rcases a with k|k<;>rw[k]<;>decide
  have:=(ko (p o (db b)) (i:=3) (by decide) e).1;have f:D5 o.d 3=0:=by unfold D5;rw[ff (by omega)]
  rw[f]at this;exact this
 have n: ∀(i:Nat) (o:aX),l[i]?=some o->o.holds=true->(∀k∈opens l i,eF i o<=k)/\eF i o<=(l.length:Int):=by
  intro i o b a;have r:=(bd.1 b).1;have d:=gu (k:=i+1) q (by omega);rw[cu b,mw]at d;obtain⟨h,e⟩:=D6 i (by omega) d.1;have f:=MB h (fun k g=>(e k g).2);have j:=d.2;unfold eK at j;rw[mw,Bool.or_eq_true,a]at j
  have c:eF i o<=mg l.length (opens l i):=by
   rcases j.2 with c|c
   ·simp at c
   ·exact of_decide_eq_true c
  exact⟨fun k g=>Int.le_trans c (f.1 k g),Int.le_trans c f.2⟩
 intro i o b a;have k:=m i o b a;have d:=n i o b a;unfold eF at d;refine⟨k,by omega,fun r g j s c f=>?_⟩;have h:=(n r g c f).1 (eF i o) (MC b a j (by unfold eF;omega));have e:=m r g c f;unfold eF at h;omega
theorem IZ{x:aX}(h:x.d=14):x.holds=true:=by unfold aX.holds;rw[h];rfl
theorem I0{x:aX}(h:x.d=13):x.holds=true:=by unfold aX.holds;rw[h];rfl
theorem MD(b:Cl->Bool)(a:az->List UInt8->Option Rw)(x:aX)(s:PS az):(nU b a x s).1.pc=s.pc:=by unfold nU rowP;simp only;split<;>rfl
theorem lG(s:PS az)(p:List Cl×Int)(f:PS az->PS az×Int)(a: ∀t,(f t).1.pc=t.pc):(fH s p f).1.pc=s.pc:=by
 unfold fH;split
 ·rw[a]
 ·rfl
theorem Ud(most:Int)(a:Cl->Bool)(x:aX)(s:PS az)(h:x.d.toNat≠13):(rZ most a x s).1.pc=s.pc:=by
 unfold rZ;split
 ·rfl
 ·rfl
 ·rfl
 ·rfl
 ·rfl
 ·rfl
 ·exact MD _ _ _ _
 ·unfold FI;exact lG _ _ _ fun t=>rfl
 ·unfold FJ;refine lG _ _ _ fun t=>?_;split<;>rfl
 ·unfold FK;exact lG _ _ _ fun t=>rfl
 ·unfold yn;exact lG _ _ _ fun t=>rfl
 ·unfold rY;exact lG _ _ _ fun t=>rfl
 ·rename_i e;exact absurd e h
 ·rfl
end Go.Proofs.YtehccbdajiiaaaaGreatDoor
