import Derived.Test.YtehccbdajiiaaaaGreatDoorP19
import Derived.Test.YtehccbdajiiaaaaGreatDoorP20
namespace Go.Proofs.YtehccbdajiiaaaaGreatDoor
open Go.Proofs.Tryz
set_option maxRecDepth 100000
set_option maxHeartbeats 16000000
open Go.RowKit
def lN(a:Nat):Value:=r7 a
structure iJ (w:World) (T:Nat) (most:Int) (o:Nat) (t:Nat->Nat) (ls:Nat->List Pr) (Fs:Nat->Nat->Nat->Prop):Prop where
 blk:w.heap[T]?=some (.cells #[rv most,lN (t 0),lN (t 1),lN (t 2),lN (t 3),lN (t 4)] 116 (0,0))
 tree: ∀i,i<5->bM w (t i) o (ls i) (Fs i)
 apart: ∀i j,i<5->j<5->i≠j-> ∀b q,Fs i b q-> ¬Fs j b q
 Pm: ∀i,i<5-> ∀b q,Fs i b q->b<w.heap.size
 own: ∀i,i<5-> ∀q,¬Fs i T q
def qJ(Fs:Nat->Nat->Nat->Prop)(b q:Nat):Prop:= ∃i,i<5/\Fs i b q
section
variable{w w':World}{T o:Nat}{most:Int}{t:Nat->Nat}{ls ls':Nat->List Pr}{Fs:Nat->Nat->Nat->Prop}{S:Nat->Prop}{G:Nat->Nat->Prop}
theorem iJ.congr(h:iJ w T most o t ls Fs)(e: ∀i,i<5->ls i=ls' i):iJ w T most o t ls' Fs:=
 ⟨h.blk,fun i a=>by rw[<-e i a];exact h.tree i a,h.apart,h.Pm,h.own⟩
theorem iJ.dR(h:iJ w T most o t ls Fs)(c:Only S w w')(f: ¬S T)(e: ∀d q,qJ Fs d q-> ¬S d):iJ w' T most o t ls Fs:=
 ⟨c.heap h.blk f,fun i a=>(h.tree i a).dR c (fun d q b=>e d q ⟨i,a,b⟩),h.apart,fun i a d q b=>da (h.Pm i a d q b) c.size,h.own⟩
theorem iJ.below(h:iJ w T most o t ls Fs)(a:Below w.heap.size w w'):iJ w' T most o t ls Fs:=h.dR (ri a) (fun h=>h) (fun _ _ _ h=>h)
theorem iJ.lt(h:iJ w T most o t ls Fs):T<w.heap.size:=pb h.blk
theorem iJ.upd(h:iJ w T most o t ls Fs){i:Nat}(hi:i<5){r:List Pr}(u:bM w' (t i) o r (fun f q=>Fs i f q\/w.heap.size<=f))(n:OnlyC (Fs i) w w'):
  iJ w' T most o t (iH ls i r) (iH Fs i (fun f q=>(Fs i f q\/w.heap.size<=f)/\f<w'.heap.size)):=by
 have v:=h.lt;refine⟨n.heap h.blk (h.own i hi),fun m e=>?_,fun s f k l g x y d b=>?_,fun m e f q a=>?_,fun m e q a=>?_⟩
 ·by_cases c:m=i
  ·subst c;rw[fc,fc];exact u.bound
  ·rw[fe _ _ c,fe _ _ c];exact(h.tree m e).only n (fun f q a=>h.apart m i e hi c f q a)
 ·by_cases p:s=i
  ·subst p;have j:f≠s:=fun z=>g z.symm;rw[fc]at d;rw[fe _ _ j]at b;rcases d.1 with d|d
   ·exact h.apart s f k l g x y d b
   ·have:=h.Pm f l x y b;omega
  ·rw[fe _ _ p]at d;by_cases j:f=i
   ·subst j;rw[fc]at b;rcases b.1 with b|b
    ·exact h.apart s f k l g x y d b
    ·have:=h.Pm s k x y d;omega
   ·rw[fe _ _ j]at b;exact h.apart s f k l g x y d b
 ·by_cases c:m=i
  ·subst c;rw[fc]at a;exact a.2
  ·rw[fe _ _ c]at a;exact da (h.Pm m e f q a) n.size
 ·by_cases c:m=i
  ·subst c;rw[fc]at a;rcases a.1 with a|a
   ·exact h.own m e q a
   ·omega
  ·rw[fe _ _ c]at a;exact h.own m e q a
theorem J2{i N M:Nat}(hi:i<5){b q:Nat}(h:qJ (iH Fs i (fun b q=>(Fs i b q\/N<=b)/\b<M)) b q):qJ Fs b q\/N<=b:=by
 obtain⟨j,c,a⟩:=h;by_cases d:j=i
 ·subst d;rw[fc]at a;exact a.1.elim (fun h=>.inl ⟨j,c,h⟩) .inr
 ·rw[fe _ _ d]at a;exact .inl ⟨j,c,a⟩
theorem iJ.c0(h:iJ w T most o t ls Fs):w.cell? ⟨T,0,none⟩=some (rv most):=by simp[World.cell?,h.blk]
theorem iJ.ci(h:iJ w T most o t ls Fs){i:Nat}(hi:i<5):w.cell? ⟨T,i+1,none⟩=some (lN (t i)):=by
 match i,hi with
 |0,_|1,_|2,_|3,_|4,_=>simp[World.cell?,h.blk]
end
def bK(w:World)(T:Nat)(most:Int)(o:Nat)(l:az)(F:Nat->Nat->Prop):Prop:=
 ∃t Fs,iJ w T most o t (fA l) Fs/\dK l/\RowsFit l/\(∀q∈l,1<=q.1.length/\q.1.length<=16)/\(1<=most/\most<=1024)/\(l.length:Int)<=most/\(∀b q,qJ Fs b q->F b q)/\ ∀q,F T q
section
variable{w w':World}{T o:Nat}{most:Int}{l:az}{F G:Nat->Nat->Prop}{S:Nat->Prop}
theorem bK.dR(n:bK w T most o l F)(m:Only S w w')(b: ∀d q,F d q-> ¬S d):bK w' T most o l F:=by obtain⟨t,Fs,i,e,f,j,h,g,a,c⟩:=n;exact⟨t,Fs,i.dR m (b T 0 (c 0)) (fun d q k=>b d q (a d q k)),e,f,j,h,g,a,c⟩
theorem bK.below(h:bK w T most o l F)(a:Below w.heap.size w w'):bK w' T most o l F:=h.dR (ri a) (fun _ _ _ h=>h)
theorem bK.mono(m:bK w T most o l F)(a: ∀b q,F b q->G b q):bK w T most o l G:=by obtain⟨t,Fs,j,e,f,k,i,g,c,h⟩:=m;exact⟨t,Fs,j,e,f,k,i,g,fun b q d=>a b q (c b q d),fun q=>a T q (h q)⟩
abbrev bK.m:=@bK.mono
theorem bK.bound(m:bK w T most o l F):bK w T most o l (fun c q=>F c q/\c<w.heap.size):=by obtain⟨t,Fs,b,e,f,k,j,g,d,h⟩:=m;exact⟨t,Fs,b,e,f,k,j,g,fun c q a=>⟨d c q a,let⟨i,hi,a⟩:=a;b.Pm i hi c q a⟩,fun q=>⟨h q,b.lt⟩⟩
theorem bK.up(h:bK w T most o l F):dK l:=by obtain⟨t,Fs,b,a,_⟩:=h;exact a
theorem bK.fit(h:bK w T most o l F):RowsFit l:=by obtain⟨t,Fs,c,b,a,_⟩:=h;exact a
theorem bK.J3(h:bK w T most o l F):1<=most/\most<=1024:=by obtain⟨t,Fs,c,d,e,b,a,_⟩:=h;exact a
theorem bK.len(h:bK w T most o l F):(l.length:Int)<=most:=by obtain⟨t,Fs,d,e,f,c,b,a,_⟩:=h;exact a
end
theorem Hq{w:World}{T N o:Nat}(e:w.heap[T]?=some (ta o 0 N))(c:w.heap[N]?=some tw)
  (f:2<=o/\o<=16) (a:N≠T):bM w T o [] (fun b _=>b=T\/b=N):=by
 refine⟨0,N,.mk [] [],fun b _=>b=N,e,⟨rfl,.slice none 0 0,.slice none 0 0,[],fun i b _=>i=0/\b=N,c,fun _=>⟨rfl,rfl⟩,aH.nil _ _ _ _,aH.nil _ _ _ _,rfl,fun i p k d _=>by simp at d,fun i b q h=>h.2,fun i j b q h d=>h.1.x d.1.symm⟩,?_,rfl,ee,f,fun b q h=>.inr h,fun q=>.inl rfl,fun q h=>a h.symm⟩;exact⟨dq _,dq _,rfl⟩
theorem EJ(w:World)(n:Nat)(g:2<=n)(f:n<=16):Calls prog 43 #[rv n] w fun h w'=>
  ∃T F,h=.returned (.tuple #[r7 T,rv 0])/\bM w' T n [] F/\(∀b q,F b q->w.heap.size<=b/\b<w'.heap.size)/\Below w.heap.size w w':=by
 obtain⟨e,c⟩:=rk w tw;obtain⟨a,d⟩:=rk (w.alloc tw) (ta n 0 w.heap.size)
 have H:=al (show ∃T F,T=w.heap.size+1/\bM ((w.alloc tw).alloc (ta n 0 w.heap.size)) T n [] F/\(∀b q,F b q->w.heap.size<=b/\b<w.heap.size+2)/\Below w.heap.size w ((w.alloc tw).alloc (ta n 0 w.heap.size))from
  ⟨_,fun b _=>b=w.heap.size+1\/b=w.heap.size,rfl,Hq (by simpa using d) (qS a c) ⟨g,f⟩ (by omega),fun b q i=>by omega,e.x (a.m (by simp))⟩)
 have k: ¬(n:Int)<2:=by omega
 have j: ¬(16:Int)<(n:Int):=by omega
 clear e c a d;go_enter func43,ntmps43;go_wp2_with fail
 go_ret2
 obtain⟨T,F,h,a,d,c⟩:=H.o;subst h;exact⟨_,rfl,F,a,fun b q i=>by have:=d b q i;simp;omega,c⟩
def qK(w a:World)(T:Nat)(most:Int)(n k:Nat):Prop:=
 ∃(b:Array Value) (t:Nat->Nat) (Fs:Nat->Nat->Nat->Prop),a.heap[T]?=some (.cells b 116 (0,0))/\b.size=6/\b[0]?=some (rv most)/\Below w.heap.size w a/\w.heap.size<=T/\
  (∀j,j<k->b[j+1]?=some (lN (t j))/\bM a (t j) n [] (Fs j)/\(∀b q,Fs j b q->(w.heap.size<=b/\b<a.heap.size)/\b≠T))/\ ∀i j,i<k->j<k->i≠j-> ∀b q,Fs i b q-> ¬Fs j b q
theorem qK.more{w f w':World}{T x:Nat}{most:Int}{n k:Nat}{F:Nat->Nat->Prop}(J:qK w f T most n k)(H:k<5)(j:Below f.heap.size f w')(C:bM w' x n [] F)(i: ∀b q,F b q->f.heap.size<=b/\b<w'.heap.size):qK w (w'.setCell ⟨T,k+1,none⟩ (lN x)) T most n (k+1):=by
 obtain⟨y,t,Fs,h,o,D,l,s,m,z⟩:=J;have I:=pb h;have v:=qS j h;have g:=Only.aR w' T (k+1) (lN x);refine⟨y.setIfInBounds (k+1) (lN x),iH t k x,iH Fs k F,by simp[World.setCell,Array.getElem?_modify,v],by simpa using o,?_,(l.x (j.m l.size)).setCell (p:=⟨T,k+1,none⟩) s _,s,fun p a=>?_,fun G p c a r b q e d=>?_⟩
 ·rw[gC,ff (by omega)];exact D
 ·by_cases c:p=k
  ·subst c;rw[fc,fc,gC,fi rfl,fi (by omega)];refine⟨rfl,C.dR g (fun b q a E=>?_),fun b q a=>?_⟩
   ·have:=i b q a;omega
   ·have:=i b q a;have:=l.size;have:=g.size;omega
  ·obtain⟨B,A,u⟩:=m p (by omega);rw[fe _ _ c,fe _ _ c,gC,ff (by omega)];refine⟨B,(A.below j).dR g (fun b q a E=>(u b q a).2 E),fun b q a=>?_⟩;have:=u b q a;have:=j.size;have:=g.size;omega
 ·by_cases a:G=k
  ·subst a;have u:p≠G:=fun E=>r E.symm;rw[fc]at e;rw[fe _ _ u]at d;have h:=i b q e;have o:=(m p (by omega)).2.2 b q d;omega
  ·rw[fe _ _ a]at e;by_cases c:p=k
   ·subst c;rw[fc]at d;have h:=i b q d;have o:=(m G (by omega)).2.2 b q e;omega
   ·rw[fe _ _ c]at d;exact z G p (by omega) (by omega) r b q e d
theorem qK.all{w d:World}{T:Nat}{most:Int}{n:Nat}(u:qK w d T most n 5)(o:1<=most)(m:most<=1024):bK d T most n [] (fun j _=>w.heap.size<=j/\j<d.heap.size):=by
 obtain⟨⟨l⟩,t,Fs,g,r,b,s,p,a,k⟩:=u
 match l,r with
 |[c0,c1,c2,c3,c4,c5],_=>
  have e:=(a 0 (by decide)).1;have c:=(a 1 (by decide)).1;have f:=(a 2 (by decide)).1;have i:=(a 3 (by decide)).1;have h:=(a 4 (by decide)).1;simp at b e c f i h;subst b e c f i h;refine⟨t,Fs,⟨g,fun i b=>?_,k,fun i b j q c=>((a i b).2.2 j q c).1.2,fun i b q c=>((a i b).2.2 T q c).2 rfl⟩,ee,fun q e=>by simp at e,fun q e=>by simp at e,⟨o,m⟩,by simp;omega,fun j q c=>?_,fun q=>⟨p,pb g⟩⟩
  ·have:fA [] i=[]:=by unfold fA;split<;>rfl
   rw[this];exact(a i b).2.1
  ·obtain⟨i,b,c⟩:=c;exact((a i b).2.2 j q c).1
theorem xK(w:World)(most:Int)(n:Nat)(x:1<=most)(v:most<=1024)(f:2<=n)(e:n<=16):Calls prog 18 #[rv most,rv n] w fun z w'=>
  ∃T,z=.returned (.tuple #[r7 T,rv 0])/\bK w' T most n [] (fun b _=>w.heap.size<=b/\b<w'.heap.size)/\Below w.heap.size w w':=by
 obtain⟨b,a⟩:=rk w (.cells #[rv most,.pointer none,.pointer none,.pointer none,.pointer none,.pointer none] 116);have H: ¬most<1:=by omega
 have C: ¬1024<most:=by omega
 have c:=AN f e x v;go_enter func18,ntmps18;go_upto_region 4 with fail;generalize w.alloc (.cells #[rv most,.pointer none,.pointer none,.pointer none,.pointer none,.pointer none] 116)=g at b a⊢;obtain⟨T,d⟩:=rl (w.heap.size);rw[d]at a⊢;have s:=al (show qK w g T most n 0 from⟨_,fun _=>0,fun _ _ _=>False,a,rfl,rfl,b,by omega,fun j g=>by omega,fun i j g=>by omega⟩);clear b a d f e;go_wp2_with fail
 go_loopw [19] (fun i wr=> ∃k:Nat,k<=5/\i=rv (k:Int)/\qK w wr T most n k) (fun i _=>5-(intOf i).toNat)
 case atStart=>exact⟨0,by decide,rfl,s.o⟩
 case round=>
  obtain⟨k,A,rfl,b⟩:=hrel;by_cases r:k<5
  ·have a:=al b;have p:=al (EJ wr n c.o.1 c.o.2.1);clear b;go_wp2_with fail;refine p.o.m ?_;rintro z l ⟨I,F,rfl,m,o,f⟩;have q:=a.o.more r f m o;obtain⟨j,t,Fs,e,h,_⟩:=a.o;have d:=qS f e;obtain⟨u,g⟩: ∃y,j[k+1]?=some y:=⟨_,gd (by omega)⟩;have D:l.cell? ⟨T,1+k,none⟩=some u:=by rw[Nat.add_comm 1 k];simp[World.cell?,d,g]
   have B:l.frozen? ⟨T,1+k,none⟩=false:=by simp[World.frozen?,d]
   have G:(0:Int)<=(k:Int):=by omega
   have E:(k:Int)<5:=by omega
   have y:=al q;clear q e d h g m o f p;go_wp2_with fail;go_roundw
   case rel=>exact⟨k+1,by omega,by go_num,by rw[Nat.add_comm 1 k];exact y.o⟩
   case measure=>simp[intOf];omega
  ·obtain rfl:k=5:=by omega
   have a:=al b;clear b;go_wp2_with fail
   go_ret2
   have d:=a.o.all c.o.d.1 c.o.t;obtain⟨j,t,Fs,e,h,l,b,f,g⟩:=id a.o;exact⟨T,rfl,d,b⟩
theorem vC{k:List UInt8}(h:1<=k.length/\k.length<=16):dN k=0:=by unfold dN;rw[ff (by omega)]
theorem ly(w:World)(T a:Nat)(h:w.cell? ⟨T,1,none⟩=some (lN a)):Calls prog 71 #[r7 T] w fun e w'=>e=.returned (lN a)/\w=w':=by
 unfold lN at h⊢;go_enter func71,ntmps71;go_wp2_with fail;go_ret
 exact⟨rfl,rfl⟩
theorem uh(w:World)(T a c:Nat)(f:c<4)(h:w.cell? ⟨T,c+1+1,none⟩=some (lN a)):Calls prog 176 #[r7 T,rv (c:Int)] w fun e w'=>e=.returned (lN a)/\w=w':=by
 unfold lN at h⊢;rw[show c+1+1=1+(c+1) by omega]at h;have b:(1:Int)+(c:Int)=((c+1:Nat):Int):=by omega
 have d:(0:Int)<=((c+1:Nat):Int):=by omega
 have e:((c+1:Nat):Int)<5:=by omega
 generalize c+1=g at h b d e;go_enter func176,ntmps176;go_wp2_with fail;go_ret
 exact⟨rfl,rfl⟩
theorem ui(w:World)(T:Nat)(k:List UInt8):Calls prog 77 #[r7 T,sd k] w fun e w'=>e=.returned (rv (dN k))/\w=w':=by
 have a:=al (dU w k);go_enter func77,ntmps77;go_wp2_with fail;refine a.o.m ?_;rintro e b ⟨rfl,rfl⟩;go_wp2_with fail;go_ret
 exact⟨rfl,rfl⟩
theorem Hs(w:World)(T o:Nat)(most:Int)(t:Nat->Nat)(ls:Nat->List Pr)(Fs:Nat->Nat->Nat->Prop)(h:iJ w T most o t ls Fs):Calls prog 39 #[r7 T] w fun e w'=>e=.returned (rv (ls 0).length)/\w=w':=by
 have a:=AI (ly w T (t 0) (h.ci (by decide))) (Ha w (t 0) o (ls 0) (Fs 0) (h.tree 0 (by decide)));clear h;go_enter func39,ntmps39;go_wp2_with fail;refine a.o.1.m ?_;rintro e b ⟨rfl,rfl⟩;unfold lN;go_wp2_with fail;refine a.o.2.m ?_;rintro e b ⟨rfl,rfl⟩;go_wp2_with fail;go_ret
 exact⟨rfl,rfl⟩
theorem sZ(w:World)(T o:Nat)(most:Int)(l:az)(F:Nat->Nat->Prop)(h:bK w T most o l F):Calls prog 39 #[r7 T] w fun e w'=>e=.returned (rv l.length)/\w=w':=by obtain⟨t,Fs,a,c,b,_⟩:=h;have:=Hs w T o most t _ Fs a;rw[gA c b]at this;exact this
theorem xL(w:World)(T o:Nat)(most:Int)(l:az)(F:Nat->Nat->Prop)(h:bK w T most o l F):Calls prog 67 #[r7 T] w fun e w'=>e=.returned (rv most)/\w=w':=by
 obtain⟨t,Fs,a,_⟩:=h;have b:=a.c0;clear a;go_enter func67,ntmps67;go_wp2_with fail;go_ret
 exact⟨rfl,rfl⟩
def acy(w w':World)(v:Value)(r:Option Rw):Prop:=lq w' v r/\ ∀b,v=r7 b->w.heap.size<=b
def aaH(r:Option Rw)(w:World)(e:Ending)(w':World):Prop:= ∃v,e=.returned v/\acy w w' v r/\Below w.heap.size w w'
theorem look_ok(w:World)(T o:Nat)(most:Int)(l:az)(F:Nat->Nat->Prop)(k:List UInt8)(x:bK w T most o l F)(d:1<=k.length/\k.length<=16):
  Calls prog 78 #[r7 T,sd k] w (aaH (ay k l) w):=by
 obtain⟨t,Fs,a,f,h,_⟩:=x;have g:=G9 w (t 0) o (fA l 0) (Fs 0) k (a.tree 0 (by decide)) d.1 (by omega);have e:look k (fA l 0)=(ay k l).map fX:=DA fX k l;have b:=AI (ly w T (t 0) (a.ci (by decide))) g;have m:=al e;have c: ∀r,ay k l=some r-> ∀i,I6 (r.aL i):=fun r i=>h (k,r) ((aD f).1 i);have q:=al c;clear a f h g e c d;go_enter func78,ntmps78;go_wp2_with fail;refine b.o.1.m ?_;rintro v f ⟨rfl,rfl⟩;unfold lN;go_wp2_with fail;refine b.o.2.m ?_;rintro v f ⟨rfl,a⟩;rw[m.o];have c:=al a;clear b a
 cases hq:ay k l with
 |none=>
  have d:=al hq;simp only[Option.map_none,Option.getD_none,oj,my,if_false];clear hq;go_wp2_with fail;go_ret
  exact⟨_,rfl,⟨by rw[d.o];rfl,fun y a=>by cases a⟩,c.o⟩
 |some r=>
  have h:=q.o r hq;have d:=AI hq h;simp only[Option.map_some,Option.getD_some,oe,if_true];have g:=fun w=>GR w (fX r);have e:=rF r;obtain⟨E,b⟩:=rl (fX r);have i:=AI b e;rw[b]at g⊢;clear hq h b e;go_wp2_with fail;have h:=Ow f 5 (fX r) (by have:=i.o.2;unfold maxLen;omega);have e:=En f 5 ⟨(fX r).toArray⟩;have b:=AI (LF _ _ r _ d.o.2 h) e;rw[i.o.1]at b;clear h e g;refine b.o.1.m ?_;rintro v h ⟨rfl,g⟩;have e:=al (show Below w.heap.size w h from(c.o.x (b.o.2.m c.o.size)).x (g.m (dp c.o.size b.o.2.size)));clear g b;obtain⟨u,s,p,n⟩:=r;unfold Rw.val;obtain⟨g,j⟩:=rk h (sg u s p n);have b:=AI g j;clear g j;go_wp2_with fail;go_ret
  exact⟨_,rfl,⟨by rw[d.o.1];exact⟨_,rfl,b.o.2⟩,fun y a=>by injection a with a;injection a with a;injection a with a;have:=e.o.size;omega⟩,e.o.x (b.o.1.m e.o.size)⟩
theorem Ht(w:World)(k:List UInt8)(a:1<=k.length/\k.length<=16)(g d:Value)(old now:Option Rw)(f:lq w g old)(c:lq w d now)(j: ¬(old=none/\now=none)):
  Calls prog 174 #[sd k,g,d] w (SK (Lr k old now) w):=by
 cases old with
 |none=>
  obtain rfl:=f
  cases now with
  |none=>exact absurd ⟨rfl,rfl⟩ j
  |some n=>obtain⟨h,rfl,b⟩:=c;exact Hc w k a h n b
 |some o=>
  obtain⟨i,rfl,e⟩:=f
  cases now with
  |none=>obtain rfl:=c;exact He w k a i o e
  |some n=>obtain⟨h,rfl,b⟩:=c;exact Hf w k a i o e h n b
theorem SV{w:World}{F:Nat->Prop}{A:Option Addr}{n c:Nat}{l:List Ch}(r:bJ 4 w F (.slice A n c) (l.map Ch.cells)){j:Nat}{x:Ch}(e:l[j]?=some x):
  ∃d o,A=some ⟨d,o,none⟩/\F d/\w.cell? ⟨d,o+j*4,none⟩=some (rv (x.aL:Int))/\w.cell? ⟨d,o+j*4+1,none⟩=some (rv x.v)/\w.cell? ⟨d,o+j*4+2,none⟩=some (sd x.k)/\
   w.cell? ⟨d,o+j*4+3,none⟩=some (.bool x.add):=by
 obtain⟨m,p,q,i,f,_,_,g⟩:=r;injection i with b a h;subst b a h;have k:=(bd.1 e).1;obtain⟨d,o,rfl,h,b⟩:=g (by simp at f;omega);have a:(l.map Ch.cells)[j]?=some x.cells:=by simp[e]
 exact⟨d,o,rfl,h,b j _ a 0 _ rfl,b j _ a 1 _ rfl,b j _ a 2 _ rfl,b j _ a 3 _ rfl⟩
def oO(T o:Nat)(most:Int)(t:Nat->Nat)(ls:Nat->List Pr)(xs:List Ch)(Fs:Nat->Nat->Nat->Prop)(w w':World):Prop:=
 ∃a,iJ w' T most o t (xs.foldl lg ls) a/\(∀b q,qJ a b q->qJ Fs b q\/w.heap.size<=b)/\OnlyC (qJ Fs) w w'
theorem SX{w:World}{T o:Nat}{most:Int}{t:Nat->Nat}{ls:Nat->List Pr}{Fs:Nat->Nat->Nat->Prop}(h:iJ w T most o t ls Fs){b q:Nat}(a:qJ Fs b q):b<w.heap.size:=let⟨i,hi,hf⟩:=a;h.Pm i hi b q hf
theorem oO.step{w w1 w':World}{T o:Nat}{most:Int}{t:Nat->Nat}{ls:Nat->List Pr}{xs:List Ch}{Fs a:Nat->Nat->Nat->Prop}{x:Ch}(p:x.aL<4)(n:w.heap.size<=w1.heap.size)
  (m:iJ w1 T most o t (xs.foldl lg ls) a) (f: ∀c q,qJ a c q->qJ Fs c q\/w.heap.size<=c) (j:OnlyC (qJ Fs) w w1)
  {e:List Pr} (g:e=lg (xs.foldl lg ls) x (x.aL+1)) (k:bM w' (t (x.aL+1)) o e (fun c q=>a (x.aL+1) c q\/w1.heap.size<=c)) (d:OnlyC (a (x.aL+1)) w1 w'):oO T o most t ls (xs++[x]) Fs w w':=by
 refine⟨iH a (x.aL+1) (fun c q=>(a (x.aL+1) c q\/w1.heap.size<=c)/\c<w'.heap.size),?_,fun c q b=>?_,j.x d (fun c q b i=>?_)⟩
 ·have h:=m.upd (i:=x.aL+1) (by omega) k d;rw[List.foldl_append,List.foldl_cons,List.foldl_nil];refine h.congr (fun r _=>?_);rw[g];unfold lg iH;by_cases l:r=x.aL+1
  ·rw[fi l,fi rfl,fi l]
  ·rw[ff l,ff l]
 ·rcases J2 (by omega) b with b|b
  ·exact f c q b
  ·exact .inr (by omega)
 ·rcases f c q ⟨_,by omega,i⟩with m|m
  ·exact m
  ·omega
theorem CB(w:World)(T o:Nat)(most:Int)(t:Nat->Nat)(ls:Nat->List Pr)(Fs:Nat->Nat->Nat->Prop)(k:List UInt8)(D J:Value)(old now:Option Rw)(y:iJ w T most o t ls Fs)(f:1<=k.length/\k.length<=16)
  (d:lq w D old) (a:lq w J now) (m: ¬(old=none/\now=none)) (p: ∀r,old=some r-> ∀O,I6 (r.aL O)) (n: ∀r,now=some r-> ∀O,I6 (r.aL O)) (j: ∀i,i<5->(ls i).length<=900000):
  Calls prog 122 #[r7 T,sd k,D,J] w fun h w'=>h=.returned (.tuple #[])/\oO T o most t ls (Lr k old now) Fs w w':=by
 have g:=al (Ht w k f D J old now d a m);obtain⟨b,c⟩:=rl (Lr k old now);have l: ∀M∈b,(M.aL<4/\M.k=k)/\I6 M.v:=fun M e=>by rw[<-c]at e;exact⟨JM e,JN p n e⟩
 have P:b.length<=8:=by rw[<-c];exact rG k old now 4
 rw[c]at g⊢;have V:=AS y f l P j;clear y f m p n j c l;have Y:(∃l,D=.pointer l):=by cases old with|none=>exact⟨_,d⟩|some r=>obtain⟨l,h,_⟩:=d;exact⟨_,h⟩
 have Z:(∃l,J=.pointer l):=by cases now with|none=>exact⟨_,a⟩|some r=>obtain⟨l,h,_⟩:=a;exact⟨_,h⟩
 obtain⟨bo,rfl⟩:=Y;obtain⟨bn,rfl⟩:=Z;clear d a;go_enter func122,ntmps122
 go_step3
 go_wp2_with fail;refine g.o.m ?_;rintro h x ⟨v,rfl,c,d⟩;obtain⟨A,O,rfl⟩:=ar c;obtain⟨N,a⟩:=rl (b.length);rw[a]at P;have j:bJ 4 x (fun l=>w.heap.size<=l/\l<x.heap.size) (.slice A N O) (b.map Ch.cells):=by rw[<-a];exact bJ.bO c (sW b) (by decide) (fun m f=>c.lt m f)
 have f:=AM j d a;rw[a];clear j d c a g;go_wp2_with fail
 go_step3
 go_wp2_with fail
 go_loopw [23] (fun i wr=> ∃m:Nat,m<=N/\i=rv (m:Int)/\oO T o most t ls (b.take m) Fs x wr) (fun i _=>N-(intOf i).toNat)
 case atStart=>exact⟨0,by omega,rfl,Fs,V.o.1.below f.o.2.1,fun l q y=>.inl y,OnlyC.refl _ _⟩
 case round=>
  obtain⟨m,hj,rfl,H,s,C,n⟩:=hrel;by_cases aa:m<N
  ·obtain⟨M,e⟩: ∃M,b[m]?=some M:=⟨_,ao (by rw[f.o.d];exact aa)⟩;have z:bJ 4 wr (fun l=>w.heap.size<=l/\l<x.heap.size) (.slice A N O) (b.map Ch.cells):=f.o.1.only n.only (fun l U ⟨q,a⟩=>by have:=SX V.o.1 a;omega);obtain⟨l,o',rfl,K,F,B,I,E⟩:=SV z e;have W:O<=maxLen:=by obtain⟨_,_,_,h,_,_,y,_⟩:=f.o.1;injection h with _ _ h;omega
   have ac:N<=O:=by obtain⟨_,_,_,h,_,y,_,_⟩:=f.o.1;injection h with _ Q h;omega
   unfold maxLen at W;obtain⟨⟨r,g⟩,u⟩:=V.o.d.1 M (db e);obtain⟨a,c,d,G⟩:=M;simp only at r g u F B I E;subst g;have i1:(0:Int)<=(m:Int):=by omega
   have i2:(m:Int)<(N:Int):=by omega
   obtain⟨p,j⟩:=rk wr (tc (a:Int) c d.toArray G);have g:=By (s.below p) C (n.x (o0 p (qJ Fs)) (fun _ _ _ y=>y)) e r u;clear s C n z e K u;go_upto_region 4 with fail;clear F B I E;have HB:=al p;clear p;generalize wr.alloc (tc (a:Int) c d.toArray G)=p at g HB j⊢;obtain⟨X,e⟩:=rl (wr.heap.size);rw[e]at j⊢;obtain⟨⟨e0,e1,Q,e3⟩,-⟩:=cX j;have HK:=AI j e;have z:=al (Hg p c d g.o.q.2 V.o.2.1);clear j e;go_wp2_with fail;refine z.o.m ?_;rintro h u ⟨rfl,p⟩;have E:=qS p HK.o.1;obtain⟨⟨e0,e1,Q,e3⟩,-⟩:=cX E;have e:=al (show iJ u T most o t ((b.take m).foldl lg ls) H/\OnlyC (qJ Fs) x u from⟨g.o.1.below p,g.o.d.1.x (o0 p (qJ Fs)) (fun _ _ _ y=>y)⟩)
   have K:((b.take m).foldl lg ls (a+1)).length<=1000000:=by have h1:=xj (a+1) (b.take m) ls 900000 (V.o.q _ (by omega));rw[lk]at h1;omega
   have j:1<=(dI c d).length/\(dI c d).length<=64:=by unfold dI;rw[gk,cg];have:=V.o.2.1;omega
   have R:=al (uh u T (t (a+1)) a r (e.o.1.ci (i:=a+1) (by omega)));have L:=e.o.1.tree (a+1) (by omega);have I:=e.o.1.Pm (a+1) (by omega)
   have B:b.take m++[⟨a,c,d,G⟩]=b.take (m+1):=by have:=g.o.t.1;rw[ir,this];rfl
   clear p E z;cases G
   focus
    have F:=al (xB u (t (a+1)) o _ (H (a+1)) (dI c d) L I j.1 j.2 K);have S:=al B;clear L I j K B;go_wp2_with fail;refine R.o.m ?_;rintro h w4 ⟨rfl,rfl⟩;unfold lN;go_wp2_with fail;refine F.o.m ?_;rintro h w5 ⟨rfl,z,E⟩;have p:=al (oO.step (x:=⟨a,c,d,false⟩) r (e.o.2.size) e.o.1 g.o.2.1 e.o.2 (by unfold lg;rw[ff (by simp),fc]) z E)
   rotate_left
   focus
    have F:=al (qH u (t (a+1)) o _ (H (a+1)) (dI c d,[]) L I j.1 j.2 (by simp) K);have S:=al B;clear L I j K B;go_wp2_with fail;refine R.o.m ?_;rintro h w4 ⟨rfl,rfl⟩;unfold lN;go_wp2_with fail;refine F.o.m ?_;rintro h w5 ⟨rfl,z,E⟩;have p:=al (oO.step (x:=⟨a,c,d,true⟩) r (e.o.2.size) e.o.1 g.o.2.1 e.o.2 (by unfold lg;rw[fi rfl,fc]) z E)
   all_goals
    rw[S.o]at p;clear z E F;go_wp2_with fail;go_roundw
    case rel=>exact⟨m+1,by omega,by go_num,p.o⟩
    case measure=>simp[intOf];omega
  ·obtain rfl:m=N:=by omega
   have p:=al (show oO T o most t ls b Fs w wr from by
    rw[gE (by rw[f.o.d];exact Nat.le_refl _)]at s
    refine⟨H,s,fun l q U=>(C l q U).imp id (fun y=>by have:=f.o.2.1.size;omega),(o0 f.o.2.1 (qJ Fs)).x n (fun _ _ _ y=>y)⟩)
   clear s C n;go_wp2_with fail;rw[Exit.noGoto_normal];exact et (du rfl _ _ _) rfl ⟨rfl,p.o⟩
theorem lq.only{w w':World}{v:Value}{r:Option Rw}{S:Nat->Prop}(h:lq w v r)(c:Only S w w')(a: ∀b,v=r7 b-> ¬S b):lq w' v r:=by
 cases r with
 |none=>exact h
 |some r=>obtain⟨b,e,h⟩:=h;exact⟨b,e,c.heap h (a b e)⟩
theorem iy{w:World}{A:Nat}{c b d a v0 v1 v2 v3:Value}{t:TypeId}(h:w.heap[A]?=some (.cells #[c,b,d,a] t (0,0))):
  ((((w.setCell ⟨A,0,none⟩ v0).setCell ⟨A,1,none⟩ v1).setCell ⟨A,2,none⟩ v2).setCell ⟨A,3,none⟩ v3).heap[A]?=some (.cells #[v0,v1,v2,v3] t (0,0))/\Only (fun k=>k=A) w ((((w.setCell ⟨A,0,none⟩ v0).setCell ⟨A,1,none⟩ v1).setCell ⟨A,2,none⟩ v2).setCell ⟨A,3,none⟩ v3):=
 ⟨Au h,(((bg w A 0 v0).setCell (p:=⟨A,1,none⟩) (fun _=>rfl) v1).setCell (p:=⟨A,2,none⟩) (fun _=>rfl) v2).setCell (p:=⟨A,3,none⟩) (fun _=>rfl) v3⟩
def l9(r:Option Rw)(w:World)(e:Ending)(w':World):Prop:=e=.returned (.tuple #[(r.getD .zero).val,rv (if r.isSome then 0 else 14)])/\Below w.heap.size w w'
theorem pJ(w:World)(T o:Nat)(most:Int)(l:az)(F:Nat->Nat->Prop)(k:List UInt8)(u:bK w T most o l F)(c:1<=k.length/\k.length<=16):
  Calls prog 41 #[r7 T,sd k] w (l9 (ay k l) w):=by
 obtain⟨a,b⟩:=rk w (sg 0 0 0 0);have d:=u.below a;clear u;go_enter func41,ntmps41;go_upto_region 1 with fail;generalize w.alloc (sg 0 0 0 0)=g at a b d⊢;obtain⟨A,f⟩:=rl (w.heap.size);rw[f]at b⊢;have e:=AI (ui g T k) (look_ok g T o most l F k d c);rw[vC c]at e;have H:=AM a b f;clear d c a b f;go_wp2_with fail;refine e.o.1.m ?_;rintro N i ⟨rfl,rfl⟩;go_wp2_with fail;refine e.o.2.m ?_;rintro N i ⟨O,rfl,f,g⟩;have d:=qS g H.o.2.1;obtain⟨⟨-,-,-,-⟩,E,I,K,C⟩:=cX d;obtain⟨⟨z,y,L,G⟩,-⟩:=cX d;have h:=H.o.1.x (g.m H.o.1.size);have b:=AI h d
 cases hq:ay k l with
 |none=>rw[hq]at f;obtain⟨rfl,-⟩:=f;have j:=al hq;clear g h d hq e;go_wp2_with fail;have a:=al (iy (v0:=rv 0) (v1:=rv 0) (v2:=rv 0) (v3:=rv 0) b.o.2);generalize ((((i.setCell ⟨A,0,none⟩ (rv 0)).setCell ⟨A,1,none⟩ (rv 0)).setCell ⟨A,2,none⟩ (rv 0)).setCell ⟨A,3,none⟩ (rv 0))=t at a⊢;refine dj (ax rfl _ _ _ _ _ _ _ rfl a.o.1 underlying109 rfl (by kernel_rfl)) rfl ⟨by rw[j.o];rfl,?_⟩;exact b.o.1.x (a.o.2.aI b.o.1.size (fun k c u=>by have:=H.o.d;omega))
 |some B=>
  rw[hq]at f;obtain⟨⟨v,rfl,m⟩,q⟩:=f;have x: ¬v=A:=by have:=q v rfl;have:=aP H.o.2.1;omega
  obtain⟨s,r,p,n⟩:=B;obtain⟨⟨D,J,B,M⟩,-⟩:=cX m;have j:=al hq;clear g h d hq e m q;go_wp2_with fail;have a:=al (iy (v0:=rv s) (v1:=rv r) (v2:=rv p) (v3:=rv n) b.o.2);generalize ((((i.setCell ⟨A,0,none⟩ (rv s)).setCell ⟨A,1,none⟩ (rv r)).setCell ⟨A,2,none⟩ (rv p)).setCell ⟨A,3,none⟩ (rv n))=t at a⊢;refine dj (ax rfl _ _ _ _ _ _ _ rfl a.o.1 underlying109 rfl (by kernel_rfl)) rfl ⟨by rw[j.o];rfl,?_⟩;exact b.o.1.x (a.o.2.aI b.o.1.size (fun k c u=>by have:=H.o.d;omega))
def EK(most:Int)(l:az)(k:List UInt8)(r:Rw):az:=if ay k l=none/\most<=(l.length:Int)then l else cK (k,r) l
def EL(most:Int)(l:az)(k:List UInt8):Int:=if ay k l=none/\most<=(l.length:Int)then 16 else 0
theorem OnlyC.far{F:Nat->Nat->Prop}{S:Nat->Prop}{w w' c:World}(h:OnlyC F w w')(b:Only S w' c)(d: ∀k,k<w.heap.size-> ¬S k):OnlyC F w c:=by
 refine⟨b.os.x h.os,b.tape.x h.tape,b.output.x h.output,dp h.size b.size,fun k i t f a=>?_,fun k a g=>?_⟩
 ·obtain⟨e,m,j,l⟩:=h.shape k i t f a;exact⟨e,(b.block k (da (pb a) h.size) (d k (pb a))).x m,j,l⟩
 ·exact(b.block k (da a h.size) (d k a)).x (h.block k a g)
theorem iJ.one{w c a:World}{T o:Nat}{most:Int}{t:Nat->Nat}{ls:Nat->List Pr}{Fs:Nat->Nat->Nat->Prop}{i:Nat}{f:List Pr}(h:iJ w T most o t ls Fs)(hi:i<5)(d:Below w.heap.size w c)
  (j:bM a (t i) o f (fun b q=>Fs i b q\/c.heap.size<=b)) (g:OnlyC (Fs i) c a): ∃e,iJ a T most o t (iH ls i f) e/\(∀b q,qJ e b q->qJ Fs b q\/w.heap.size<=b)/\OnlyC (qJ Fs) w a:=by
 refine⟨iH Fs i (fun b q=>(Fs i b q\/c.heap.size<=b)/\b<a.heap.size),(h.below d).upd hi j g,fun b q e=>?_,(o0 d (qJ Fs)).x g (fun b q _ e=>⟨i,hi,e⟩)⟩;rcases J2 hi e with h|h
 ·exact .inl h
 ·exact .inr (dp d.size h)
theorem oO.from_{w a d:World}{T o:Nat}{most:Int}{t:Nat->Nat}{ls:Nat->List Pr}{xs:List Ch}{Fs c:Nat->Nat->Nat->Prop}(i:oO T o most t ls xs c a d)(e: ∀b q,qJ c b q->qJ Fs b q\/w.heap.size<=b)(g:OnlyC (qJ Fs) w a):oO T o most t ls xs Fs w d:=by
 obtain⟨k,m,j,n⟩:=i;refine⟨k,m,fun b q f=>?_,g.x n (fun b q f l=>?_)⟩
 ·rcases j b q f with h|h
  ·exact e b q h
  ·exact .inr (dp g.size h)
 ·rcases e b q l with h|h
  ·exact h
  ·omega
theorem CC{w w2 g d:World}{T o A:Nat}{most:Int}{t:Nat->Nat}{a:az}{xs:List Ch}{ls:Nat->List Pr}{F:Nat->Nat->Prop}{Fs:Nat->Nat->Nat->Prop}(j:Below w.heap.size w w2)(u:oO T o most t ls xs Fs w2 g)
  (i:Only (fun C=>C=A) g d) (G:w.heap.size<=A) (D:A<w2.heap.size) (k: ∀q,¬qJ Fs A q) (E:T<w.heap.size) (f: ∀b q,qJ Fs b q->F b q) (x: ∀q,F T q) (l: ∀c,c<5->xs.foldl lg ls c=fA a c)
  (n:dK a) (m:RowsFit a) (v: ∀q∈a,1<=q.1.length/\q.1.length<=16) (y:1<=most/\most<=1024) (z:(a.length:Int)<=most):bK d T most o a (fun b q=>F b q\/w.heap.size<=b)/\OnlyC F w d:=by
 obtain⟨r,p,e,s⟩:=u;refine⟨⟨t,r,((p.congr l).dR i (fun B=>by omega) (fun b q c B=>?_)),n,m,v,y,z,fun b q c=>?_,fun q=>.inl (x q)⟩,?_⟩
 ·subst B;rcases e b q c with h|h
  ·exact k q h
  ·omega
 ·rcases e b q c with h|h
  ·exact .inl (f b q h)
  ·exact .inr (dp j.size h)
 ·exact(((o0 j F).x (s.m (fun b q _ h=>f b q h)) (fun _ _ _ h=>h))).far i (fun C b B=>by omega)
def vD(T o:Nat)(most:Int)(l:az)(k:List UInt8)(r:Rw)(F:Nat->Nat->Prop)(w:World)(e:Ending)(w':World):Prop:=
 e=.returned (.tuple #[((if EL most l k=0 then ay k l else none).getD .zero).val,.bool (ay k l).isSome,rv (EL most l k)])/\bK w' T most o (EK most l k r) (fun b q=>F b q\/w.heap.size<=b)/\OnlyC F w w'
theorem EM{l:az}{k:List UInt8}{r:Rw}(h: ∀q∈l,1<=q.1.length/\q.1.length<=16)(b:1<=k.length/\k.length<=16): ∀q∈cK (k,r) l,1<=q.1.length/\q.1.length<=16:=fun q a=>(ia a).elim (fun e=>by subst e;exact b) (h q)
theorem LR(w:World)(T o:Nat)(most:Int)(l:az)(F:Nat->Nat->Prop)(k:List UInt8)(r:Rw)(h:bK w T most o l F)(hF: ∀b q,F b q->b<w.heap.size)(hk:1<=k.length/\k.length<=16)(hr: ∀c,I6 (r.aL c)):
  Calls prog 70 #[.pointer (some ⟨T,0,none⟩),.string ⟨k.toArray⟩,r.val] w (vD T o most l k r F w):=by
 have hmm:=h.J3;have hll:=h.len;obtain⟨hb0,k0⟩:=rk w (.cells #[.int .i64 r.a,.int .i64 r.b,.int .i64 r.c,.int .i64 r.d] 109);obtain⟨hb1,k1⟩:=rk (w.alloc (.cells #[.int .i64 r.a,.int .i64 r.b,.int .i64 r.c,.int .i64 r.d] 109)) (.cells #[.int .i64 0,.int .i64 0,.int .i64 0,.int .i64 0] 109);have hs1:(w.alloc (.cells #[.int .i64 r.a,.int .i64 r.b,.int .i64 r.c,.int .i64 r.d] 109)).heap.size=w.heap.size+1:=by simp
 have H0:=al (show Below w.heap.size w ((w.alloc (.cells #[.int .i64 r.a,.int .i64 r.b,.int .i64 r.c,.int .i64 r.d] 109)).alloc (.cells #[.int .i64 0,.int .i64 0,.int .i64 0,.int .i64 0] 109))/\
  ((w.alloc (.cells #[.int .i64 r.a,.int .i64 r.b,.int .i64 r.c,.int .i64 r.d] 109)).alloc (.cells #[.int .i64 0,.int .i64 0,.int .i64 0,.int .i64 0] 109)).heap[w.heap.size]?=some (.cells #[.int .i64 r.a,.int .i64 r.b,.int .i64 r.c,.int .i64 r.d] 109 (0,0))/\
  ((w.alloc (.cells #[.int .i64 r.a,.int .i64 r.b,.int .i64 r.c,.int .i64 r.d] 109)).alloc (.cells #[.int .i64 0,.int .i64 0,.int .i64 0,.int .i64 0] 109)).heap[w.heap.size+1]?=some (.cells #[.int .i64 0,.int .i64 0,.int .i64 0,.int .i64 0] 109 (0,0))from
  ⟨hb0.x (hb1.m hb0.size),qS hb1 k0,by rw[<-hs1];exact k1⟩)
 obtain⟨ra,rb,rc,rd⟩:=r;unfold Rw.val;simp only at H0;clear hb0 k0 hb1 k1 hs1;have HH:=al (ab h (ab hF (ab hk (ab hr (ab hmm hll)))));clear h hF hk hr hmm hll;go_enter func70,ntmps70;go_upto_region 1 with fail;have H1:=H0.o;clear H0;generalize (w.alloc (.cells #[.int .i64 ra,.int .i64 rb,.int .i64 rc,.int .i64 rd] 109)).alloc (.cells #[.int .i64 0,.int .i64 0,.int .i64 0,.int .i64 0] 109)=w1 at H1⊢;obtain⟨hb1,kr,ka⟩:=H1;obtain⟨R,hR⟩:=rl (w.heap.size);rw[hR]at kr ka⊢;obtain⟨A,hA⟩:=rl (R+1);rw[hA]at ka⊢;have h1:=HH.o.1.below hb1;have HC:=al (ab (ui w1 T k) (look_ok w1 T o most l F k h1 HH.o.d.1));rw[vC HH.o.d.1]at HC;have H:=al (ab hb1 (ab kr (ab ka (ab hR (ab hA h1)))));clear hb1 kr ka hR hA h1;go_wp2_with fail;refine HC.o.1.m ?_;rintro e w2 ⟨rfl,rfl⟩;go_wp2_with fail;refine HC.o.2.m ?_;rintro e w2 ⟨v,rfl,hv,hb⟩;have kr:=qS hb H.o.2.1;have ka:=qS hb H.o.d.1;have h2:=H.o.q.2.below hb;have hb2:=H.o.1.x (hb.m H.o.1.size);have hvR: ∀b,v=.pointer (some ⟨b,0,none⟩)->A<b:=fun b e=>by have:=hv.2 b e;have:=aP H.o.d.1;omega
 have H2:=al (ab hb2 (ab kr (ab ka (ab h2 (ab hv.1 hvR)))));clear kr ka h2 hb2 hvR hb HC;obtain⟨t,Fs,hW,g2,g3,g4,g5,g6,g7,g8⟩:=H2.o.t.1;have Ri: ∀q,¬qJ Fs R q:=fun q hq=>by have:=HH.o.2.1 R q (g7 R q hq);have:=H.o.t.1;omega
 have hFA: ∀q,¬qJ Fs A q:=fun q hq=>by have:=HH.o.2.1 A q (g7 A q hq);have:=H.o.t.1;have:=H.o.q.1;omega
 have Rj: ∀b q,qJ Fs b q->b<w.heap.size:=fun b q hq=>HH.o.2.1 b q (g7 b q hq);have hTw:T<w.heap.size:=HH.o.2.1 T 0 (g8 0);have c0:=hW.c0;have HT:=al (ab hW (ab g2 (ab g3 (ab g4 (ab g5 (ab g6 (ab g7 (ab g8 (ab Ri (ab hFA (ab Rj hTw)))))))))));clear hW g2 g3 g4 g5 g6 g7 g8 Ri hFA Rj hTw
 cases hq:ay k l with
 |none=>
  rw[hq]at hv;obtain⟨rfl,-⟩:=hv;obtain⟨N,hN⟩: ∃N:Nat,l.length=N:=⟨_,rfl⟩;have HL:=al (fun n=>sZ (w2.drewN n) T o most l F (H2.o.t.1.dR ((oT (fun _=>False) w2).drewN n) (fun _ _ _ h=>h)));rw[hN]at HL;by_cases hge:most<=(N:Int)
  ·have HQ:=al (show ay k l=none/\most<=(l.length:Int)from⟨hq,by rw[hN];exact hge⟩);clear hq hN;go_wp2_with fail;go_quiet((go_at_call 39;exact qB (HL.o _)));rename_i nq;clear c0 hge;go_upto_region 6 with fail;obtain⟨w3,hw3⟩:=rl (w2.drewN nq);have hb3:Below w2.heap.size w2 w3:=by rw[<-hw3];exact Only.aI ((oT (fun _=>False) w2).drewN nq) (b8 _) (fun _ _ h=>h)
   rw[hw3];have k3:=qS hb3 H2.o.d.1;obtain⟨⟨z0,z1,z2,z3⟩,y0,y1,y2,y3⟩:=cX k3;have lK:=al (ab hb3 k3);clear hb3 k3 hw3;go_wp2_with fail;have HO:=al (iy (v0:=.int .i64 0) (v1:=.int .i64 0) (v2:=.int .i64 0) (v3:=.int .i64 0) lK.o.2);generalize (((w3.setCell ⟨A,0,none⟩ (.int .i64 0)).setCell ⟨A,1,none⟩ (.int .i64 0)).setCell ⟨A,2,none⟩ (.int .i64 0)).setCell ⟨A,3,none⟩ (.int .i64 0)=mX at HO⊢;refine dj (cV rfl _ _ _ _ _ _ _ rfl HO.o.1 underlying109 rfl (by kernel_rfl)) rfl ?_;have hE:EL most l k=16:=by unfold EL;rw[fi HQ.o]
   have hR:EK most l k ⟨ra,rb,rc,rd⟩=l:=by unfold EK;rw[fi HQ.o]
   unfold vD;rw[hE,hR,HQ.o.1];have Pp:Below w.heap.size w mX:=(H2.o.1.x (lK.o.1.m H2.o.1.size)).x (Only.aI (HO.o.2) (dp H2.o.1.size lK.o.1.size) (fun k hk h=>by have:=H.o.t.1;have:=H.o.q.1;omega));exact⟨rfl,(HH.o.1.below Pp).m (fun b q h=>.inl h),o0 Pp F⟩
  ·have HQ:=al (show ay k l=none/\ ¬most<=(l.length:Int)from⟨hq,by rw[hN];exact hge⟩);clear hq hN;go_wp2_with fail;go_quiet((go_at_call 39;exact qB (HL.o _)));rename_i nq;simp only[show decide (most<=(N:Int))=false from decide_eq_false (by omega)];clear c0 hge;go_upto_region 7 with fail;generalize hW0:w2.drewN nq=W0;have hb0:Below w2.heap.size w2 W0:=by rw[<-hW0];exact Only.aI ((oT (fun _=>False) w2).drewN nq) (b8 _) (fun _ _ h=>h)
   clear hW0;have lA:Below w2.heap.size w2 W0.drew:=hb0.drew;have hSt:Only (fun b=> ∃q,Fs 0 b q) w2 W0.drew:=oS lA _;clear hb0;refine pw (S:=(fun W=>Only (fun b=> ∃q,Fs 0 b q) w2 W)) (by kernel_rfl) hSt (fun qt=>?_);generalize hW3:W0.drew=W3 at qt lA⊢;clear hW3 hSt;refine bq [0,2] ?_
   iterate 2 (refine ek (v:=?_) (fun wS hSw=>?_) qt ?_;rotate_left;(go_simp;try with_reducible rfl);try simp only[ah,ai,aj,ak])
   refine bt ?_;refine ml 3 (v:=?_) (fun wS hSw=>?_) qt ?_;rotate_left
   ·obtain⟨⟨u0,u1,u2,u3⟩,-⟩:=cX (hSw.heap H2.o.2.1 (fun⟨q,hq⟩=>HT.o.q.q.1 q ⟨0,by decide,hq⟩));go_simp;try with_reducible rfl
   try simp only[ah,ai,aj,ak]
   refine bC 1 (fun K hK=>?_);go_simp;refine(ly _ T (t 0) ((lA.cell (p:=⟨T,1,none⟩) (by have:=HT.o.1.lt;exact this)).x (HT.o.1.ci (i:=0) (by decide)))).m ?_;rintro e wn ⟨rfl,rfl⟩
   try go_simp
   refine hK.o _ _ (qt) ?_;clear hK K qt;intro qt
   try simp only[ah,ai,aj,ak]
   refine bC 4 (fun K hK=>?_);go_simp;refine(AP _ ⟨ra,rb,rc,rd⟩ HH.o.t.1).m ?_;rintro e wn ⟨A2,c2,rfl,hx,dm⟩;have EN:=lA.x (dm.m lA.size);have hcv:=uZ (P:=prog) 53 9 5 underlying53 underlying5 underlying9 (Rd.bO (F:=fun _=>True) hx (fun _ _=>trivial));rw[eS]at hcv;have lA:=EN;clear EN hx
   try go_simp
   refine hK.o _ _ (qt.x (oS dm _) (fun _ _ h=>h)) ?_;clear hK K qt dm;intro qt
   try simp only[ah,ai,aj,ak]
   refine bC 5 (fun K hK=>?_);go_simp;refine hK.o _ _ (qt) ?_;clear hK K qt hcv;intro qt
   try simp only[ah,ai,aj,ak]
   refine bC 6 (fun K hK=>?_);go_simp;refine(qH _ (t 0) o (fA l 0) (Fs 0) (k,fX ⟨ra,rb,rc,rd⟩) ((HT.o.1.tree 0 (by decide)).below lA) (fun b q hq=>da (HT.o.1.Pm 0 (by decide) b q hq) lA.size) HH.o.d.1.1 (by have:=HH.o.d.1;exact dp this.2 (by decide)) (dp (rF _) (by decide)) (by rw[gA HT.o.2.1 HT.o.d.1];have:=HT.o.q.2.1;have:=HT.o.q.1;omega)).m ?_;rintro e wn ⟨rfl,ht,Rk⟩;have S3:=al (ab lA (ab ht Rk));have Pq:=Rk.only;clear lA ht Rk
   try go_simp
   refine hK.o _ _ (qt.x Pq (fun _ _ h=>h)) ?_;clear hK K qt Pq;intro qt
   try simp only[ah,ai,aj,ak]
   refine qe (by kernel_rfl) ?_ _;obtain⟨Po,hW1,Vg,je⟩:=HT.o.1.one (by decide) S3.o.1 S3.o.2.1 S3.o.d;clear S3 qt lA;have jd: ∀b,w.heap.size<=b-> ∀q,¬qJ Fs b q:=fun b hb q hq=>by have:=HT.o.q.q.d.1 b q hq;omega
   have S5:=je.heap H2.o.2.1 HT.o.q.q.1;have Y3:=je.heap H2.o.d.1 HT.o.q.q.2.1
   have uj: ∀i,i<5->(iH (fA l) 0 (ins (k,fX ⟨ra,rb,rc,rd⟩) (fA l 0)) i).length<=900000:=fun i hi=>by
    have h1:=gA HT.o.2.1 HT.o.d.1 i;have h0:=gA HT.o.2.1 HT.o.d.1 0;have h2:=HT.o.q.2.1;have h3:=HT.o.q.1;unfold iH;split
    ·have:=lZ (k,fX ⟨ra,rb,rc,rd⟩) (fA l 0);rw[<-ou]at this;omega
    ·omega
   have HU:=al (CB wn T o most t _ Po k (.pointer none) (.pointer (some ⟨R,0,none⟩)) none (some ⟨ra,rb,rc,rd⟩) hW1 HH.o.d.1 (show lq _ _ none from rfl) ⟨_,rfl,S5⟩ (fun h=>by cases h.2) (fun r hr=>by cases hr) (fun r hr=>by injection hr with hr;subst hr;exact HH.o.t.1) uj);have H5:=al (ab Vg (ab je jd));clear hW1 Vg je S5 Y3 uj jd;go_wp2_with fail;refine HU.o.m ?_;rintro e w9 ⟨rfl,hP⟩;have Ps:=hP.from_ H5.o.1 H5.o.2.1;obtain⟨_,_,_,Rl⟩:=id Ps;have Pt:=Rl.heap H2.o.d.1 HT.o.q.q.2.1;obtain⟨⟨z0,z1,z2,z3⟩,y0,y1,y2,y3⟩:=cX Pt;have H9:=al (ab Ps Pt);clear hP Ps Rl Pt HU;go_wp2_with fail;have HO:=al (iy (v0:=.int .i64 0) (v1:=.int .i64 0) (v2:=.int .i64 0) (v3:=.int .i64 0) H9.o.2);generalize (((w9.setCell ⟨A,0,none⟩ (.int .i64 0)).setCell ⟨A,1,none⟩ (.int .i64 0)).setCell ⟨A,2,none⟩ (.int .i64 0)).setCell ⟨A,3,none⟩ (.int .i64 0)=mX at HO⊢;refine dj (cV rfl _ _ _ _ _ _ _ rfl HO.o.1 underlying109 rfl (by kernel_rfl)) rfl ?_;have hE:EL most l k=0:=by unfold EL;rw[ff (fun h=>by have h1:=HQ.o.2;have h2:=h.2;omega)]
   have hR:EK most l k ⟨ra,rb,rc,rd⟩=cK (k,⟨ra,rb,rc,rd⟩) l:=by unfold EK;rw[ff (fun h=>by have h1:=HQ.o.2;have h2:=h.2;omega)]
   unfold vD;rw[hE,hR,HQ.o.1]
   have Sj:((cK (k,(⟨ra,rb,rc,rd⟩:Rw)) l).length:Int)<=most:=by have h1:=kE (p:=(k,(⟨ra,rb,rc,rd⟩:Rw))) HT.o.2.1;simp only[HQ.o.1,oj,my,if_false]at h1;have h2:=HT.o.q.2.1;have h3:=HQ.o.2;rw[h1];omega
   have he: ∀i,i<5->(Lr k none (some ⟨ra,rb,rc,rd⟩)).foldl lg (iH (fA l) 0 (ins (k,fX ⟨ra,rb,rc,rd⟩) (fA l 0))) i=fA (cK (k,⟨ra,rb,rc,rd⟩) l) i:=fun i hi=>by have:=Ei (k:=k) (r:=⟨ra,rb,rc,rd⟩) HT.o.2.1 HT.o.d.1 HH.o.t.1 i hi;rw[HQ.o.1]at this;exact this
   refine⟨rfl,CC H2.o.1 H9.o.1 HO.o.2 (by have:=H.o.t.1;have:=H.o.q.1;omega) (aP H2.o.d.1) HT.o.q.q.2.1 HT.o.q.q.t HT.o.q.d.1 HT.o.q.t.1 he (eX HT.o.2.1) (HT.o.d.1.ins HH.o.t.1) (EM HT.o.t.1 HH.o.d.1) HT.o.q.1 Sj⟩
 |some old=>
  obtain⟨oa,ob,oc,od⟩:=old;have HQ:=al hq;rw[hq]at hv;obtain⟨⟨B,rfl,p9⟩,-⟩:=hv;have hB:w2.heap[B]?=some (.cells #[.int .i64 oa,.int .i64 ob,.int .i64 oc,.int .i64 od] 109 (0,0))/\A<B:=⟨p9,H2.o.q.2 B rfl⟩;clear hq p9;go_wp2_with fail;go_quiet(fail);rename_i nq;clear c0;go_upto_region 7 with fail;generalize hW0:w2.drewN nq=W0;have hb0:Below w2.heap.size w2 W0:=by rw[<-hW0];exact Only.aI ((oT (fun _=>False) w2).drewN nq) (b8 _) (fun _ _ h=>h)
  clear hW0;have lA:Below w2.heap.size w2 W0.drew:=hb0.drew;have hSt:Only (fun b=> ∃q,Fs 0 b q) w2 W0.drew:=oS lA _;clear hb0;refine pw (S:=(fun W=>Only (fun b=> ∃q,Fs 0 b q) w2 W)) (by kernel_rfl) hSt (fun qt=>?_);generalize hW3:W0.drew=W3 at qt lA⊢;clear hW3 hSt;refine bq [0,2] ?_
  iterate 2 (refine ek (v:=?_) (fun wS hSw=>?_) qt ?_;rotate_left;(go_simp;try with_reducible rfl);try simp only[ah,ai,aj,ak])
  refine bt ?_;refine ml 3 (v:=?_) (fun wS hSw=>?_) qt ?_;rotate_left
  ·obtain⟨⟨u0,u1,u2,u3⟩,-⟩:=cX (hSw.heap H2.o.2.1 (fun⟨q,hq⟩=>HT.o.q.q.1 q ⟨0,by decide,hq⟩));go_simp;try with_reducible rfl
  try simp only[ah,ai,aj,ak]
  refine bC 1 (fun K hK=>?_);go_simp;refine(ly _ T (t 0) ((lA.cell (p:=⟨T,1,none⟩) (by have:=HT.o.1.lt;exact this)).x (HT.o.1.ci (i:=0) (by decide)))).m ?_;rintro e wn ⟨rfl,rfl⟩
  try go_simp
  refine hK.o _ _ (qt) ?_;clear hK K qt;intro qt
  try simp only[ah,ai,aj,ak]
  refine bC 4 (fun K hK=>?_);go_simp;refine(AP _ ⟨ra,rb,rc,rd⟩ HH.o.t.1).m ?_;rintro e wn ⟨A2,c2,rfl,hx,dm⟩;have EN:=lA.x (dm.m lA.size);have hcv:=uZ (P:=prog) 53 9 5 underlying53 underlying5 underlying9 (Rd.bO (F:=fun _=>True) hx (fun _ _=>trivial));rw[eS]at hcv;have lA:=EN;clear EN hx
  try go_simp
  refine hK.o _ _ (qt.x (oS dm _) (fun _ _ h=>h)) ?_;clear hK K qt dm;intro qt
  try simp only[ah,ai,aj,ak]
  refine bC 5 (fun K hK=>?_);go_simp;refine hK.o _ _ (qt) ?_;clear hK K qt hcv;intro qt
  try simp only[ah,ai,aj,ak]
  refine bC 6 (fun K hK=>?_);go_simp;refine(qH _ (t 0) o (fA l 0) (Fs 0) (k,fX ⟨ra,rb,rc,rd⟩) ((HT.o.1.tree 0 (by decide)).below lA) (fun b q hq=>da (HT.o.1.Pm 0 (by decide) b q hq) lA.size) HH.o.d.1.1 (by have:=HH.o.d.1;exact dp this.2 (by decide)) (dp (rF _) (by decide)) (by rw[gA HT.o.2.1 HT.o.d.1];have:=HT.o.q.2.1;have:=HT.o.q.1;omega)).m ?_;rintro e wn ⟨rfl,ht,Rk⟩;have S3:=al (ab lA (ab ht Rk));have Pq:=Rk.only;clear lA ht Rk
  try go_simp
  refine hK.o _ _ (qt.x Pq (fun _ _ h=>h)) ?_;clear hK K qt Pq;intro qt
  try simp only[ah,ai,aj,ak]
  refine qe (by kernel_rfl) ?_ _;obtain⟨Po,hW1,Vg,je⟩:=HT.o.1.one (by decide) S3.o.1 S3.o.2.1 S3.o.d;clear S3 qt lA;have jd: ∀b,w.heap.size<=b-> ∀q,¬qJ Fs b q:=fun b hb q hq=>by have:=HT.o.q.q.d.1 b q hq;omega
  have S5:=je.heap H2.o.2.1 HT.o.q.q.1;have Y3:=je.heap H2.o.d.1 HT.o.q.q.2.1
  have uj: ∀i,i<5->(iH (fA l) 0 (ins (k,fX ⟨ra,rb,rc,rd⟩) (fA l 0)) i).length<=900000:=fun i hi=>by
   have h1:=gA HT.o.2.1 HT.o.d.1 i;have h0:=gA HT.o.2.1 HT.o.d.1 0;have h2:=HT.o.q.2.1;have h3:=HT.o.q.1;unfold iH;split
   ·have:=lZ (k,fX ⟨ra,rb,rc,rd⟩) (fA l 0);rw[<-ou]at this;omega
   ·omega
  have kB5:=je.heap hB.1 (jd _ (by have:=hB.2;have:=H.o.t.1;have:=H.o.q.1;omega));have HU:=al (CB wn T o most t _ Po k (.pointer (some ⟨B,0,none⟩)) (.pointer (some ⟨R,0,none⟩)) (some ⟨oa,ob,oc,od⟩) (some ⟨ra,rb,rc,rd⟩) hW1 HH.o.d.1 (show lq _ _ (some ⟨oa,ob,oc,od⟩)from⟨_,rfl,kB5⟩) ⟨_,rfl,S5⟩ (fun h=>by cases h.2) (fun r hr=>by injection hr with hr;subst hr;exact HT.o.d.1 _ ((aD HT.o.2.1).1 HQ.o)) (fun r hr=>by injection hr with hr;subst hr;exact HH.o.t.1) uj);have H5:=al (ab Vg (ab je jd));clear hW1 Vg je S5 Y3 uj jd kB5;go_wp2_with fail;refine HU.o.m ?_;rintro e w9 ⟨rfl,hP⟩;have Ps:=hP.from_ H5.o.1 H5.o.2.1;obtain⟨_,_,_,Rl⟩:=id Ps;have Pt:=Rl.heap H2.o.d.1 HT.o.q.q.2.1;obtain⟨⟨z0,z1,z2,z3⟩,y0,y1,y2,y3⟩:=cX Pt;have kB9:=Rl.heap hB.1 (H5.o.d _ (by have:=hB.2;have:=H.o.t.1;have:=H.o.q.1;omega));obtain⟨⟨x0,x1,x2,x3⟩,-⟩:=cX kB9;have hBA: ¬B=A:=by have:=hB.2;omega
  have H9:=al (ab Ps Pt);clear hP Ps Rl Pt HU kB9;go_wp2_with fail;have HO:=al (iy (v0:=.int .i64 oa) (v1:=.int .i64 ob) (v2:=.int .i64 oc) (v3:=.int .i64 od) H9.o.2);generalize (((w9.setCell ⟨A,0,none⟩ (.int .i64 oa)).setCell ⟨A,1,none⟩ (.int .i64 ob)).setCell ⟨A,2,none⟩ (.int .i64 oc)).setCell ⟨A,3,none⟩ (.int .i64 od)=mX at HO⊢;refine dj (cV rfl _ _ _ _ _ _ _ rfl HO.o.1 underlying109 rfl (by kernel_rfl)) rfl ?_;have hE:EL most l k=0:=by unfold EL;rw[ff (fun h=>by rw[HQ.o]at h;cases h.1)]
  have hR:EK most l k ⟨ra,rb,rc,rd⟩=cK (k,⟨ra,rb,rc,rd⟩) l:=by unfold EK;rw[ff (fun h=>by rw[HQ.o]at h;cases h.1)]
  unfold vD;rw[hE,hR,HQ.o]
  have Sj:((cK (k,(⟨ra,rb,rc,rd⟩:Rw)) l).length:Int)<=most:=by have h1:=kE (p:=(k,(⟨ra,rb,rc,rd⟩:Rw))) HT.o.2.1;simp only[HQ.o,oe,if_true]at h1;have h2:=HT.o.q.2.1;rw[h1];omega
  have he: ∀i,i<5->(Lr k (some ⟨oa,ob,oc,od⟩) (some ⟨ra,rb,rc,rd⟩)).foldl lg (iH (fA l) 0 (ins (k,fX ⟨ra,rb,rc,rd⟩) (fA l 0))) i=fA (cK (k,⟨ra,rb,rc,rd⟩) l) i:=fun i hi=>by have:=Ei (k:=k) (r:=⟨ra,rb,rc,rd⟩) HT.o.2.1 HT.o.d.1 HH.o.t.1 i hi;rw[HQ.o]at this;exact this
  refine⟨rfl,CC H2.o.1 H9.o.1 HO.o.2 (by have:=H.o.t.1;have:=H.o.q.1;omega) (aP H2.o.d.1) HT.o.q.q.2.1 HT.o.q.q.t HT.o.q.d.1 HT.o.q.t.1 he (eX HT.o.2.1) (HT.o.d.1.ins HH.o.t.1) (EM HT.o.t.1 HH.o.d.1) HT.o.q.1 Sj⟩
theorem LS(w:World)(T o:Nat)(most:Int)(l:az)(F:Nat->Nat->Prop)(k:List UInt8)(J:bK w T most o l F)(a: ∀i q,F i q->i<w.heap.size)(D:1<=k.length/\k.length<=16):
  Calls prog 69 #[r7 T,sd k] w fun e w'=>(∃v,e=.returned v)/\bK w' T most o (eU k l) (fun i q=>F i q\/w.heap.size<=i)/\OnlyC F w w':=by
 obtain⟨c,d⟩:=rk w (sg 0 0 0 0);have g:=AM J a D;clear J a D;go_enter func69,ntmps69;go_upto_region 1 with fail;generalize w.alloc (sg 0 0 0 0)=a at c d⊢;obtain⟨A,h⟩:=rl (w.heap.size);rw[h]at d⊢;have b:=al (pJ a T o most l F k (g.o.1.below c) g.o.d);have s:=AM h c d;unfold l9 at b;obtain⟨⟨p,m,j,n⟩,f⟩: ∃r,(ay k l).getD .zero=r:=⟨_,rfl⟩;obtain⟨E,a⟩: ∃E:Int,(if(ay k l).isSome=true then 0 else 14)=E:=⟨_,rfl⟩;rw[f,a]at b;unfold Rw.val at b;have C:=AI f a;clear h c d f a;go_wp2_with fail;refine b.o.m ?_;rintro e y ⟨rfl,c⟩;obtain⟨z,h⟩:=rk y (sg p m j n);have B:=c.x (z.m c.size);have d:=qS B s.o.d;have x:=s.o.2.1.x (B.m s.o.2.1.size);have u:A<y.heap.size:=da (aP s.o.d) c.size;go_upto_region 2 with fail;generalize y.alloc (sg p m j n)=G at z h d x⊢;obtain⟨R,H⟩:=rl (y.heap.size);rw[H]at h u⊢;clear z B c H b;obtain⟨⟨V,M,z2,P⟩,X,Q,y2,W⟩:=cX d;have c:=AN x d h u;clear d h x u
 cases b:ay k l with
 |none=>
  have x:=al b;have a:E=14:=by have:=C.o.2;rw[b]at this;simpa using this.symm
  subst a;clear b;go_wp2_with fail;have h:=al (iy (v0:=rv 0) (v1:=rv 0) (v2:=rv 0) (v3:=rv 0) c.o.2.1);generalize ((((G.setCell ⟨A,0,none⟩ (rv 0)).setCell ⟨A,1,none⟩ (rv 0)).setCell ⟨A,2,none⟩ (rv 0)).setCell ⟨A,3,none⟩ (rv 0))=S at h⊢;have d:Below w.heap.size w S:=c.o.1.x (h.o.2.aI c.o.1.size (fun k D J=>by have:=s.o.1;omega));refine dj (ax rfl _ _ _ _ _ _ _ rfl h.o.1 underlying109 rfl (by kernel_rfl)) rfl ⟨⟨_,rfl⟩,?_,o0 d F⟩;rw[gU x.o];exact(g.o.1.below d).m (fun i q J=>.inl J)
 |some r=>
  obtain rfl:r=⟨p,m,j,n⟩:=by have:=C.o.1;rw[b]at this;exact this
  have a:E=0:=by have:=C.o.2;rw[b]at this;simpa using this.symm
  subst a;have x:=al b;clear b;obtain⟨t,Fs,u,I,z,N,U,O,H,Z⟩:=g.o.1.below c.o.1;have B: ∀i q,qJ Fs i q->i<w.heap.size:=fun i q b=>g.o.2.1 i q (H i q b);have d: ∀i,w.heap.size<=i-> ∀q,¬qJ Fs i q:=fun i a q b=>by have:=B i q b;omega
  have Y:=ly G T (t 0) (u.ci (i:=0) (by decide));have K:=al Y;have L:=al (xB G (t 0) o (fA l 0) (Fs 0) k (u.tree 0 (by decide)) (fun i q b=>u.Pm 0 (by decide) i q b) g.o.d.1 (by have:=g.o.d;omega) (by rw[gA I z];omega));have a:=B7 u I z N U O H Z B d;clear u I z N U O H Z B d Y V M z2 P X Q y2 W;go_wp2_with fail;refine K.o.m ?_;rintro e w4 ⟨rfl,rfl⟩;unfold lN;go_wp2_with fail;refine L.o.m ?_;rintro e w5 ⟨i,Z,U⟩;obtain⟨v5,rfl⟩: ∃v,e=.returned v:=⟨_,i⟩;clear i;obtain⟨Po,B,H,v⟩:=a.o.1.one (i:=0) (by decide) (aw _ _) Z U;have d:=a.o.q.q.2;have u:w.heap.size<=A:=by have:=s.o.1;omega
  have z:=v.heap c.o.d.1 (d _ (by have:=c.o.t;omega));have N:=v.heap c.o.2.1 (d _ u)
  have G: ∀i,i<5->(iH (fA l) 0 (del k (fA l 0)) i).length<=900000:=fun i I=>by
   have Y:=gA a.o.2.1 a.o.d.1 i;have O:=a.o.q.2.1;have h3:=a.o.q.1;unfold iH;split
   ·have:=oK k (fA l 0);rw[<-del_eq,gA a.o.2.1 a.o.d.1]at this;omega
   ·omega
  have O:=al (CB w5 T o most t _ Po k (r7 R) (.pointer none) (some ⟨p,m,j,n⟩) none B g.o.d (show lq _ _ (some ⟨p,m,j,n⟩)from⟨_,rfl,z⟩) rfl (fun J=>by cases J.1) (fun r f=>by injection f with f;subst f;exact a.o.d.1 _ ((aD a.o.2.1).1 x.o)) (fun r f=>by cases f) G);have Y:=AN H v N z;clear Z U B H v z N G d K L;go_wp2_with fail;refine O.o.m ?_;rintro e K ⟨rfl,H⟩;have v:=H.from_ Y.o.1 Y.o.2.1;obtain⟨_,_,_,r⟩:=id v;have d:=a.o.q.q.2;have z:=r.heap c.o.2.1 (d _ u);have B:=r.heap c.o.d.1 (d _ (by have:=c.o.t;omega));obtain⟨⟨V,M,z2,P⟩,X,Q,y2,W⟩:=cX z;obtain⟨⟨L,U,N,Z⟩,-⟩:=cX B;have G:=AI v z;clear H v r z B d O;go_wp2_with fail;have h:=al (iy (v0:=rv p) (v1:=rv m) (v2:=rv j) (v3:=rv n) G.o.2);generalize ((((K.setCell ⟨A,0,none⟩ (rv p)).setCell ⟨A,1,none⟩ (rv m)).setCell ⟨A,2,none⟩ (rv j)).setCell ⟨A,3,none⟩ (rv n))=S at h⊢;refine dj (ax rfl _ _ _ _ _ _ _ rfl h.o.1 underlying109 rfl (by kernel_rfl)) rfl ⟨⟨_,rfl⟩,?_⟩;have d:=qX x.o;exact CC c.o.1 G.o.1 h.o.2 u (aP c.o.2.1) (a.o.q.q.2 A u) (g.o.2.1 T 0 (a.o.q.t.1 0)) a.o.q.d.1 a.o.q.t.1 (fun i I=>Oq a.o.2.1 a.o.d.1 x.o i I) (fR a.o.2.1) a.o.d.1.del (fun q b=>a.o.t.1 q (mE b)) a.o.q.1 (by have:=a.o.q.2.1;omega)
end Go.Proofs.YtehccbdajiiaaaaGreatDoor
