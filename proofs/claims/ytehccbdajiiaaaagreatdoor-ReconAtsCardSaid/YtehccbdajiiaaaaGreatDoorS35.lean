import Derived.Test.YtehccbdajiiaaaaGreatDoorS23
import Derived.Test.YtehccbdajiiaaaaGreatDoorS34
namespace Go.Proofs.YtehccbdajiiaaaaGreatDoor
open Go.Proofs.Tryz
set_option maxRecDepth 100000
set_option maxHeartbeats 16000000
open Go.RowKit
section
open Go.RowKit Go.Shelf
attribute [local go_sem] Oper.semAt_some
def UI(l:az)(w:World)(e:Ending)(w':World):Prop:=
 ∃X B A c,e=.returned (.func (.func 75) #[] #[rv X])/\w.heap.size<=X/\w.heap.size<=B/\w'.heap[X]?=some (.cells #[.func (.func 126) #[] #[rv B]] 165 (0,0))/\
  w'.heap[B]?=some (.cells #[.slice A l.length c] 170 (0,0))/\bI 2 w' (fun k=>w.heap.size<=k/\k<w'.heap.size) (.slice A l.length c) ((l.map (qg dO)).map ay)/\Below w.heap.size w w'
theorem Ng(w:World)(T o:Nat)(most:Int)(l:az)(F:Nat->Nat->Prop)(p:bz w T most o l F)(c: ∀b q,F b q->b<w.heap.size):Calls prog 40 #[rv T] w (UI l w):=by
 obtain⟨t,m,a,e,d,n,j,k,f,i⟩:=p;have g:=AD (ji w T (t 0) (a.ci (by decide))) (UH w (t 0) o (fc l 0) (m 0) (a.tree 0 (by decide)) (fun b q h=>c b q (f b q ⟨0,by decide,h⟩)) (by rw[fR e d];omega));have b:fc l 0=l.map (qg dO):=by unfold fc;rw[ff rfl]
 have h:=al b;clear a e d n j k f i c b;go_enter func40,ntmps40;go_wp2_with fail;refine g.o.1.m ?_;rintro n i ⟨rfl,rfl⟩;unfold lK;go_wp2_with fail;refine g.o.2.m ?_;rintro n i ⟨B,A,k,rfl,f,c,d,b⟩;rw[h.o]at c d;rw[fa]at c d;obtain⟨a,e⟩:=rj i (.cells #[.func (.func 126) #[] #[rv B]] 165);have j:=AN f c d b a e;clear f c d b a e g h;go_wp2_with fail;go_ret
 obtain⟨f,c,d,b,a,e⟩:=j.o;exact⟨_,B,A,k,rfl,b.size,f,e,qt a c,bI.m (bI.below d a) (fun h g=>⟨g.1,da g.2 a.size⟩),b.x (a.m b.size)⟩
def YK(l a:az)(q:List UInt8×Rw)(v0 v1:Value)(_:Nat->Prop)(_:World):Prop:=v0=BA q.1/\v1=q.2.val/\a++[q]<+:l
def Jo(y:Nat):Obj:=.cells #[.func (.yield y) #[] #[]] 163 (0,0)
theorem UJ{l:az}{b:List Pr}{p:Pr}(h:b++[p]<+:l.map (qg dO)): ∃q,l[b.length]?=some q/\p=(q.1,dO q.2)/\l.take (b.length+1)=l.take b.length++[q]:=by
 obtain⟨t,c⟩:=h;have a:(l.map (qg dO))[b.length]?=some p:=by rw[<-c,kh,iv (Nat.le_refl _),Nat.sub_self];rfl
 rw[nh]at a
 cases hq:l[b.length]? with
 |none=>rw[hq]at a;cases a
 |some q=>rw[hq]at a;injection a with a;exact⟨q,rfl,a.symm,by rw[gO,hq];rfl⟩
theorem Jp(w:World)(s:Nat->Prop)(X B c:Nat)(A:Option Addr)(l:az)(o:l.length<=65536)(q:RowsFit l)(D:s X)(m:s B)(E: ∀k,s k->k<w.heap.size)(C:w.heap[X]?=some (.cells #[.func (.func 126) #[] #[rv B]] 165 (0,0)))
  (K:w.heap[B]?=some (.cells #[.slice A l.length c] 170 (0,0))) (F:bI 2 w s (.slice A l.length c) ((l.map (qg dO)).map ay)):
  Aj prog 75 #[rv X] (fun b p a U W=> ∃z v,a= #[z,v]/\YK l b p z v U W) s (fun xs=>xs=l) (fun b=>b<+:l) w:=by
 intro y J T W n hJ qH d H j I;obtain⟨e,g⟩:=rj W (Jo y);have x: ∀k,s k->k<W.heap.size:=fun k a=>oT (d k _ a (fl (E k a)));have t:=qt e (d X _ D C);have u:=qt e (d B _ m K);have r:=bI.below (bI.agree F d) e;have G:=aL t;have f:=By hJ qH H I q x (hJ.1 _ _ _ j) o;have i:=hJ.2 _ _ _ _ _ j (qS e) (fun _ h=>h.elim);have HS:=al (QV _ s B c A (l.map (qg dO)) (by rw[fa];exact o) m (by rw[fa];exact u) (by rw[fa];exact r));clear hJ qH d H j I x t u r C K F D m E q o;refine callsIn_wide.2 (fX func75 rfl ?_);simp only[ntmps75,lz,gn,lp,Nat.reduceAdd,Nat.reduceSub,Array.replicate_succ,Array.replicate_zero,List.push_toArray,List.append_toArray,fj,lE];go_upto_region 1 with fail;change Code.wp _ _ _ _ (W.alloc (Jo y));generalize W.alloc (Jo y)=d at e g G i HS⊢;obtain⟨Y,j⟩:=rk (W.heap.size);rw[j]at g⊢;have d:=AM e g j i (oT g);clear e g j i;go_wp2_with fail;clear G
 refine lO (α:=Pr) (fun t z v=>(t.setIfInBounds 3 z).setIfInBounds 4 v) rfl (enters_of func126 (by kernel_rfl) rfl) HS.o ?Ai (fun _ _ _ _ _ _ _ _ h _ _=>h)
  (fun b U W=>J (l.take b.length) U W/\ ¬U Y/\W.heap[Y]?=some (Jo y)) (fun c b U W=>c=.ret/\T (l.take b.length) U W) ?hJ ?qH n ⟨d.o.t.1,fun h=>by have:=f.o.q.d.1 _ h;have:=d.o.d.1;omega,d.o.2.1⟩ (fun k a=>f.o.d.1 k a) ?cF ?hbody ?hdone ?lN
 case Ai=>exact fun k a=>da (f.o.q.2.1 k a) d.o.1.size
 case hJ=>have a0:=d.o.q;have ad:=d.o.1.size;refine⟨fun b U A h=>f.o.1.1 _ _ _ h.1,?_⟩;rintro b U A B' S ⟨Q,N,h3⟩ i C;exact⟨f.o.1.2 _ _ _ _ _ Q i (fun k a=>⟨by have:=(C k a).1;omega,(C k a).2⟩),N,i.heap h3 (fun e=>by have:=(C _ e).1;omega)⟩
 case qH=>have ad:=d.o.1.size;refine fun c=>⟨fun b U A h=>f.o.2.1.1 _ _ _ h.2,?_⟩;rintro b U A B' S ⟨Q,N⟩ i C;exact⟨Q,f.o.2.1.2 _ _ _ _ _ N i (fun k a=>⟨by have:=(C k a).1;omega,(C k a).2⟩)⟩
 case cF=>
  intro l' z v q K e;simp only[List.setIfInBounds_toArray,List.set_cons_zero,List.set_cons_succ]at e⊢
  gi_wp2
  exact e
 case hbody=>
  rintro l' b p z v m q ⟨x,u,o⟩ ⟨rfl,rfl,D⟩;obtain⟨L,M,rfl,F⟩:=UJ D;have e:=fun w=>xR w (dO L.2);have G:=oY L.2;have H:=f.o.q.1 L (db M);have t:l.take b.length++[L]<+:l:=by rw[<-F];exact List.take_prefix _ _
  have I:(b++[(L.1,dO L.2)]).length=b.length+1:=by simp
  have j:=By x u o F H t I G;have K:=uE q 5 ⟨(dO L.2).toArray⟩;have g:=AD (Bv _ _ L.2 _ H (E0 q 5 (dO L.2) (by unfold maxLen;omega))) K;unfold BA;simp only[List.setIfInBounds_toArray,List.set_cons_zero,List.set_cons_succ];obtain⟨k,r⟩:=L;dsimp only at e j g G⊢;obtain⟨E,O⟩:=rk (dO r);rw[O]at e j g⊢;clear x u o D M F G H t I K O
  gi_wp2
  refine⟨trivial,?_⟩;clear e;refine(callsIn_wide.2 g.o.1).m ?_;rintro e w2 ⟨rfl,ac⟩;obtain⟨P,V,R,O⟩:=r;have M:=g.o.2.x (ac.m g.o.2.size);have Z:=ae w2 (r8 P V R O);have K:=M.x (Z.m M.size);obtain⟨x,u,o,F,H,t,I,G⟩:=j.o;have z2:=aL (qt K o);have aa:=f.o.1.2 _ _ _ _ _ x (qS K) (fun _ h=>h.elim);obtain⟨fn,a',am,ap,hy,hR⟩:=f.o.t.1 _ (k,⟨P,V,R,O⟩) #[BA k,Rw.val ⟨P,V,R,O⟩] _ _ aa ⟨_,_,rfl,rfl,rfl,t⟩;have D:=AD K trivial;unfold Rw.val BA at hy;unfold Rw.val;clear x u o F H t I G ac M Z K aa g
  gi_wp2
  refine(yJ hR).m ?_;rintro e I (⟨rfl,F,G,x,t⟩|⟨rfl,F,H,x,t⟩)
  ·have g:=al (show nY (fun b U W=>J (l.take b.length) U W/\ ¬U Y/\W.heap[Y]?=some (Jo y)) (fun c b U W=>c=.ret/\T (l.take b.length) U W) (b++[(k,E)]) m q .normal ⟨#[],[]⟩ I from
    ⟨F,⟨by rw[j.o.q.d.1,j.o.t.1];exact G,fun h=>(t _ h).elim j.o.2.1 (fun h=>by have:=oT j.o.d.1;have:=D.o.1.size;omega),x.heap (qt D.o.1 j.o.d.1) j.o.2.1⟩,(oB D.o.1 m).x x (fun _ _ h=>h),fun k a=>(t k a).imp id (fun h=>dd D.o.1.size h)⟩)
   clear G x t z2
   gi_wp2
   exact g.o
  ·have g:=al (show nY (fun b U W=>J (l.take b.length) U W/\ ¬U Y/\W.heap[Y]?=some (Jo y)) (fun c b U W=>c=.ret/\T (l.take b.length) U W) (b++[(k,E)]) m q .ret ⟨#[],[]⟩ I from
    ⟨F,⟨rfl,by rw[j.o.q.d.1,j.o.t.1];exact H⟩,(oB D.o.1 m).x x (fun _ _ h=>h),fun k a=>(t k a).imp id (fun h=>dd D.o.1.size h)⟩)
   clear H x t z2
   gi_wp2
   exact g.o
 case hdone=>rintro D xs m q t p rfl ⟨r,u,o⟩ i e a;rw[fa,gE]at r;have j:=(fu.nil W.heap.size n W).more (D:=D) (by have:=d.o.1.size;omega) (fun h=>by have:=f.o.q.d.1 _ h;have:=d.o.1.size;omega) (by have:=d.o.1.size;omega) ((oB d.o.1 n).x i (fun _ _ h=>h)) (fun k a=>(e k a).imp id (fun h=>dd d.o.1.size h)) p a;have g:=AI j r ((oB d.o.1 n).x i (fun _ _ h=>h)) (fun k a=>(e k a).imp id (fun h=>dd d.o.1.size h):Grow W n m);clear j r u o i e a t p;go_wp2_with fail;refine jF (v:=.tuple #[]) (fun W=>by simp[results,Tryz.results75,go_sem]) g.o.1 (fun u o=>⟨⟨_,rfl⟩,.inl ⟨_,m,rfl,f.o.1.2 _ _ _ _ _ g.o.2.1 o (fun k h=>h),g.o.d.1.x o (fun k a h=>by omega),g.o.t⟩⟩)
 case lN=>rintro D v b m q t p x ⟨rfl,r⟩ i e a;have j:=(fu.nil W.heap.size n W).more (D:=D) (by have:=d.o.1.size;omega) (fun h=>by have:=f.o.q.d.1 _ h;have:=d.o.1.size;omega) (by have:=d.o.1.size;omega) ((oB d.o.1 n).x i (fun _ _ h=>h)) (fun k a=>(e k a).imp id (fun h=>dd d.o.1.size h)) p a;have g:=AI j r ((oB d.o.1 n).x i (fun _ _ h=>h)) (fun k a=>(e k a).imp id (fun h=>dd d.o.1.size h):Grow W n m);clear j r i e a t p;go_wp2_with fail;refine jF (v:=.tuple #[]) (fun W=>by simp[results,Tryz.results75,go_sem]) g.o.1 (fun u o=>⟨⟨_,rfl⟩,.inr ⟨_,m,List.take_prefix _ _,f.o.2.1.2 _ _ _ _ _ g.o.2.1 o (fun k h=>h),g.o.d.1.x o (fun k a h=>by omega),g.o.t⟩⟩)
end
section
open Go.RowKit Go.Shelf
attribute [local go_sem] Oper.semAt_some
theorem F6{α:Type}{P:Program}{g:Operand}{j h:Tmp}(q:Array Value->Value->Nat->Array Value)(v:Value->Obj){p E:Code}{Q:Exit->Act->World->Prop}{T:Array Value}{m:List Deferred}{w:World}
  {l:Nat} {F:Array Value} (hg:(Act.mk T m).eval g=.func (.func l) #[] F) (eg: ∀d w,(callFunc l d).run P w=.ok (.enter l d) w)
  {Pre:List α->α->Value->Value->Prop} {u:Nat->Prop} {S O:List α->Prop}
  (M:Aj P l F (fun c x d _ _=> ∃a b,d= #[a,b]/\Pre c x a b) u S O w) (X: ∀e,u e->e<w.heap.size)
  (J:List α->(Nat->Prop)->World->Prop) (o:Code->List α->(Nat->Prop)->World->Prop) (hJ:ed w.heap.size J) (qH: ∀A,ed w.heap.size (o A)) (s:Nat->Prop) (Z:J [] s w) (wC: ∀e,u e-> ¬s e)
  (R: ∀(C:Nat) c x (a b:Value) (W:World) (K:Act->World->Prop),Pre c x a b->(∀(Y:Nat) (n:World),W.heap.size<=Y->n.heap[Y]?=some (v b)->Below W.heap.size W n->K {tmps:=q ((T.setIfInBounds j a).setIfInBounds h b) a Y,defers:=[]} n)->
   p.wpIn (Fence.wide.inRound C) 9 P (Exit.then K (fun _ _ _=>False)) {tmps:=(T.setIfInBounds j a).setIfInBounds h b,defers:=[]} W)
  (L: ∀(C:Nat) c x a b Y U (W:World),J c U W->Pre c x a b->W.heap[Y]?=some (v b)-> ¬U Y->E.wpIn (Fence.wide.inRound C) 9 P (nY J o (c++[x]) U W) {tmps:=q ((T.setIfInBounds j a).setIfInBounds h b) a Y,defers:=[]} W)
  (I: ∀(D:Nat) k U (W:World),w.heap.size<=D-> ¬U D->S k->J k U W->W.heap[D]?=some (.deferred (some []))->Q .normal {tmps:=T,defers:={target:=.collected D,args:= #[]}::m} W)
  (lN: ∀(D:Nat) (A:Code) c U (W:World),w.heap.size<=D-> ¬U D->o A c U W->W.heap[D]?=some (.deferred (some []))->A.wp P Q {tmps:=T,defers:={target:=.collected D,args:= #[]}::m} W):
  (Code.rangeFunc g #[j,h] p E).wp P Q {tmps:=T,defers:=m} w:=by
 refine(wpIn_wide (n:=10)).1 (ry (Tn:=fun _=>False) hg eg M.Yq (fun e B=>B.elim (X e) False.elim) ?_ J o hJ.Yq (fun A=>(qH A).Yq) s Z (fun e B=>B.elim (wC e) False.elim)
  (fun c x d r U W=> ∃a b Y,d= #[a,b]/\r={tmps:=q ((T.setIfInBounds j a).setIfInBounds h b) a Y,defers:=[]}/\Pre c x a b/\W.heap[Y]?=some (v b)/\ ¬U Y) ?_ ?_ ?_ (fun D k U W f e i z _ _ y=>I D k U W f e i z y) ?_)
 ·rintro c x d U W ⟨a,b,rfl,-⟩;rfl
 ·rintro c x d r U V t H ⟨a,b,Y,rfl,rfl,f,e,i⟩ k G;exact⟨a,b,Y,rfl,rfl,f,k.heap e i,fun B=>i (G Y B)⟩
 ·rintro C c x d U V W K H G N ⟨a,b,rfl,k⟩ hK;have hz:(#[j,h].zip #[a,b]).foldl (fun t (x:Tmp×Value)=>t.setIfInBounds x.1 x.2) T=(T.setIfInBounds j a).setIfInBounds h b:=by simp
  show p.wpIn _ _ _ _ {tmps:=(#[j,h].zip #[a,b]).foldl (fun t (x:Tmp×Value)=>t.setIfInBounds x.1 x.2) T,defers:=[]} _;rw[hz];exact R C c x a b W K k (fun Y n f e i=>hK _ _ ⟨a,b,Y,rfl,rfl,k,e,fun B=>by have:=N Y B;omega⟩ (oB i _))
 ·rintro C c x d r U W H ⟨a,b,Y,rfl,rfl,f,e,i⟩;exact L C c x a b Y U W H f e i
 ·intro D A c U W f e _ z _ _ y;exact wpIn_wide.2 (lN D A c U W f e z y)
def QW(w:World)(N C R T2:Nat)(_:az)(U:Nat->Prop)(W:World):Prop:=
 Below w.heap.size w W/\W.heap[C]?=some (sR T2)/\W.heap[R]?=some (.cells #[.bool false] 4 (0,0))/\N<=W.heap.size/\ ∀k,¬U k
theorem QW.jl{w:World}{N C R T2:Nat}(n:w.heap.size<=N)(l:C<N)(m:R<N):ed N (QW w N C R T2):=by refine⟨fun e U A h k d=>(h.2.2.2.2 k d).elim,?_⟩;rintro e U A B S ⟨c,g,f,j,i⟩ a b;exact⟨c.x (a.aH c.size (fun k d h=>by have:=(b k h).1;omega)),a.heap g (fun h=>by have:=(b _ h).1;omega),a.heap f (fun h=>by have:=(b _ h).1;omega),dd j a.size,i⟩
theorem yM(w:World)(z T2 K G:Nat)(L I:Int)(l:az)(y F:Nat->Nat->Prop)(k:bz w z L K l y)(h:bz w T2 I G l F)(g: ∀p q,y p q->p<w.heap.size):
  Calls prog 16 #[rv z,rv T2] w fun Q f=>Q=.returned (.bool true)/\Below w.heap.size w f:=by
 obtain⟨e,j⟩:=rj w (sR T2);have b:=e.x ((ae (w.alloc (sR T2)) (.cells #[.bool false] 4)).m e.size);have c:=an (w.alloc (sR T2)) (.cells #[.bool false] 4);have a:=qt (ae (w.alloc (sR T2)) (.cells #[.bool false] 4)) j;refine fX func16 rfl ?_;simp only[ntmps16,lz,gn,lp,Nat.reduceAdd,Nat.reduceSub,Array.replicate_succ,Array.replicate_zero,List.push_toArray,List.append_toArray,fj,lE];go_upto_region 1 with fail;generalize (w.alloc (sR T2)).alloc (.cells #[.bool false] 4)=d at b c a⊢;rw[show(w.alloc (sR T2)).heap.size=w.heap.size+1 by simp]at c;obtain⟨S,i⟩:=rk (w.heap.size);obtain⟨R,m⟩:=rk (w.heap.size+1);rw[m]at c⊢;rw[i]at a⊢;have o:d.cell? ⟨S,0,none⟩=some (rv T2):=by simp[World.cell?,a]
 have x:=AF k h g;have r:=al (fun n=>mX (d.drewN n) z K L l y (k.below (below_drewN b n)));have v:=al (fun n=>mX (d.drewN n) T2 G I l F (h.below (below_drewN b n)));have s:=AM b a c (show w.heap.size<=R by omega) (show w.heap.size<=S by omega);clear e j b c a i m k h g;go_quiet(first|(go_at_call 39;first|exact(r.o _).m (fun Q f ⟨k,h⟩=>⟨k,_,h.symm⟩)|exact(v.o _).m (fun Q f ⟨k,h⟩=>⟨k,_,h.symm⟩))|fail);have f:Below w.heap.size w (d.drewN nq):=below_drewN s.o.1 nq;have H:=al (Ng (d.drewN nq) z K L l y (x.o.1.below f) (fun p q a=>da (x.o.d p q a) f.size));clear o;go_wp2_with fail;refine H.o.m ?_;rintro Q g ⟨X,B,A,c,rfl,u,M,p,j,J,a⟩;have i:=f.x (a.m f.size);have e:=qt ((below_drewN (bd d.heap.size d) nq).x a) s.o.2.1;have b:=qt ((below_drewN (bd d.heap.size d) nq).x a) s.o.d.1;have T:=a.size;have V:d.heap.size<=(d.drewN nq).heap.size:=b8 _;have U:=oT s.o.2.1;have Y:=oT s.o.d.1;obtain⟨t,Fs,W,D,E,O,g5,Z,-,-⟩:=x.o.1;have m:=Jp g (fun C=>(d.drewN nq).heap.size<=C/\C<g.heap.size) X B c A l (by omega) E ⟨u,oT p⟩ ⟨M,oT j⟩ (fun C d=>d.2) p j J;have N:QW w g.heap.size S R T2 [] (fun _=>False) g:=⟨i,e,b,b8 _,fun _ P=>P⟩;have n:=QW.jl (w:=w) (N:=g.heap.size) (C:=S) (R:=R) (T2:=T2) i.size (by omega) (by omega);have o:=AS m N n D O (show R<g.heap.size by omega) (show w.heap.size<=g.heap.size from i.size);clear m N n e b T V U Y W D E O g5 Z i f u M p j J a H r v;go_wp2_with fail
 refine F6 (α:=List UInt8×Rw) (fun t u Y=>(t.setIfInBounds 5 u).setIfInBounds 6 (rv Y)) (fun v=>.cells v.cells 109 (0,0)) rfl (enters_of func75 (by kernel_rfl) rfl) (Pre:=fun D q u H=>u=BA q.1/\H=q.2.val/\D++[q]<+:l) o.o.1 (fun C d=>d.2)
  (QW w g.heap.size S R T2) (fun _ _ _ _=>False) o.o.d.1 (fun _=>ed.none _) _ o.o.2.1 (fun _ _ P=>P) ?cF ?hbody ?hdone (fun _ _ _ _ _ _ _ P=>P.elim)
 case cF=>
  rintro Y D ⟨C,j,n,m,i⟩ u H W v ⟨rfl,rfl,-⟩ r;obtain⟨a,q⟩:=rj W (r8 j n m i);have f:=al (r W.heap.size _ (b8 _) q a);unfold BA Rw.val at f⊢;simp only[List.setIfInBounds_toArray,List.set_cons_zero,List.set_cons_succ]at f⊢;clear r a q
  gi_wp2
  exact f.o
 case hbody=>
  rintro Y D ⟨C,j,n,m,i⟩ u H T Z W ⟨a,e,b,q,r⟩ ⟨rfl,rfl,M⟩ p-;have v:(C,(⟨j,n,m,i⟩:Rw))∈l:=M.subset (by simp);have E:=(aD o.o.t.1).2 v;have N:=o.o.q.1 _ v;have P:=aL e;have J:=al (mY W T2 G I l F C (x.o.2.1.below a) N);rw[E]at J;have O:=AN a e b q r (show W.heap[T]?=some (r8 j n m i)from p);unfold BA Rw.val;simp only[List.setIfInBounds_toArray,List.set_cons_zero,List.set_cons_succ];clear a e b q r M v E N p
  gi_wp2
  refine⟨trivial,?_⟩;clear P;refine(callsIn_wide.2 J.o).m ?_;rintro Q U ⟨rfl,v⟩;obtain⟨E,P⟩:=rj U (r8 j n m i);have M:=qt E (qt v O.o.q.2);obtain⟨⟨x0,x1,x2,x3⟩,-⟩:=cP M;obtain⟨⟨y0,N,V,y3⟩,-⟩:=cP P;have aa:=fun(w:World)=>eq4 w j n m i j n m i;have hg:=Tryz.Ph;have p:=al (v.x (E.m v.size));simp only[oy,mT,if_true];unfold Rw.val;clear v E P M J
  gi_wp2
  obtain⟨a,e,b,q,r,-⟩:=O.o;exact⟨Z,⟨a.x (p.o.m a.size),qt p.o e,qt p.o b,dd q p.o.size,r⟩,oB p.o _,fun C d=>.inl d⟩
 case hdone=>
  rintro D n Z W i m j ⟨a,e,b,q,r⟩ d;have N:=aL b;have V:=bL b;have f:=AI a b d i;clear a e b q r d i m j;go_wp2_with fail;have a:R≠D:=by have:=o.o.q.2.1;have:=f.o.t;omega
  have e:(W.setCell ⟨R,0,none⟩ (.bool true)).heap[D]?=some (.deferred (some [])):=(Below.heap_setCell _ _ _ _ (Ne.symm a)).x f.o.d.1
  have b:((W.setCell ⟨R,0,none⟩ (.bool true)).putObj D (.deferred none)).cell? ⟨R,0,none⟩=some (.bool true):=by rw[World.cell?_of_block (World.putObj_heap_other a)];exact World.cell?_setCell_same' _ _ _ (by rw[N];rfl)
  refine jk (v:=.bool true) e (by simp[results,Tryz.results16,go_sem,b]) ⟨rfl,?_⟩;have i:w.heap.size<=D:=dd o.o.q.d f.o.t;exact(f.o.1.setCell (p:=⟨R,0,none⟩) s.o.t.1 _).x (((Only.putObj _ D _).aH (by have:=f.o.1.size;simp[World.setCell];omega) (fun C d Q=>by omega)))
end
end Go.Proofs.YtehccbdajiiaaaaGreatDoor
