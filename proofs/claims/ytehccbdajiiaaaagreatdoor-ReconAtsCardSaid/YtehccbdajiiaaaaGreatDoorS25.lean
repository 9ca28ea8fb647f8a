import Derived.Test.YtehccbdajiiaaaaGreatDoorS16
import Derived.Test.YtehccbdajiiaaaaGreatDoorS17
namespace Go.Proofs.YtehccbdajiiaaaaGreatDoor
open Go.Proofs.Tryz
set_option maxRecDepth 100000
set_option maxHeartbeats 16000000
open Go.RowKit
def lK(a:Nat):Value:=rv a
structure iQ (w:World) (T:Nat) (most:Int) (o:Nat) (t:Nat->Nat) (ls:Nat->List Pr) (Fs:Nat->Nat->Nat->Prop):Prop where
 blk:w.heap[T]?=some (.cells #[rm most,lK (t 0),lK (t 1),lK (t 2),lK (t 3),lK (t 4)] 116 (0,0))
 tree: ∀i,i<5->bM w (t i) o (ls i) (Fs i)
 apart: ∀i j,i<5->j<5->i≠j-> ∀b q,Fs i b q-> ¬Fs j b q
 Qp: ∀i,i<5-> ∀b q,Fs i b q->b<w.heap.size
 own: ∀i,i<5-> ∀q,¬Fs i T q
def rp(Fs:Nat->Nat->Nat->Prop)(b q:Nat):Prop:= ∃i,i<5/\Fs i b q
section
variable{w w':World}{T o:Nat}{most:Int}{t:Nat->Nat}{ls ls':Nat->List Pr}{Fs:Nat->Nat->Nat->Prop}{S:Nat->Prop}{G:Nat->Nat->Prop}
theorem iQ.congr(h:iQ w T most o t ls Fs)(e: ∀i,i<5->ls i=ls' i):iQ w T most o t ls' Fs:=
 ⟨h.blk,fun i a=>by rw[<-e i a];exact h.tree i a,h.apart,h.Qp,h.own⟩
theorem iQ.dC(h:iQ w T most o t ls Fs)(b:Only S w w')(f: ¬S T)(e: ∀d q,rp Fs d q-> ¬S d):iQ w' T most o t ls Fs:=
 ⟨b.heap h.blk f,fun i a=>(h.tree i a).dC b (fun d q c=>e d q ⟨i,a,c⟩),h.apart,fun i a d q c=>da (h.Qp i a d q c) b.size,h.own⟩
theorem iQ.below(h:iQ w T most o t ls Fs)(a:Below w.heap.size w w'):iQ w' T most o t ls Fs:=h.dC (qS a) (fun h=>h) (fun _ _ _ h=>h)
theorem iQ.lt(h:iQ w T most o t ls Fs):T<w.heap.size:=oT h.blk
theorem iQ.upd(h:iQ w T most o t ls Fs){i:Nat}(hi:i<5){r:List Pr}(u:bM w' (t i) o r (fun f q=>Fs i f q\/w.heap.size<=f))(n:OnlyC (Fs i) w w'):
  iQ w' T most o t (iM ls i r) (iM Fs i (fun f q=>(Fs i f q\/w.heap.size<=f)/\f<w'.heap.size)):=by
 have v:=h.lt;refine⟨n.heap h.blk (h.own i hi),fun m e=>?_,fun s f j l g x y d b=>?_,fun m e f q a=>?_,fun m e q a=>?_⟩
 ·by_cases c:m=i
  ·subst c;rw[fq,fq];exact u.bound
  ·rw[ft _ _ c,ft _ _ c];exact(h.tree m e).only n (fun f q a=>h.apart m i e hi c f q a)
 ·by_cases p:s=i
  ·subst p;have k:f≠s:=fun z=>g z.symm;rw[fq]at d;rw[ft _ _ k]at b;rcases d.1 with d|d
   ·exact h.apart s f j l g x y d b
   ·have:=h.Qp f l x y b;omega
  ·rw[ft _ _ p]at d;by_cases k:f=i
   ·subst k;rw[fq]at b;rcases b.1 with b|b
    ·exact h.apart s f j l g x y d b
    ·have:=h.Qp s j x y d;omega
   ·rw[ft _ _ k]at b;exact h.apart s f j l g x y d b
 ·by_cases c:m=i
  ·subst c;rw[fq]at a;exact a.2
  ·rw[ft _ _ c]at a;exact da (h.Qp m e f q a) n.size
 ·by_cases c:m=i
  ·subst c;rw[fq]at a;rcases a.1 with a|a
   ·exact h.own m e q a
   ·omega
  ·rw[ft _ _ c]at a;exact h.own m e q a
theorem KV{i N M:Nat}(hi:i<5){b q:Nat}(h:rp (iM Fs i (fun b q=>(Fs i b q\/N<=b)/\b<M)) b q):rp Fs b q\/N<=b:=by
 obtain⟨j,c,a⟩:=h;by_cases d:j=i
 ·subst d;rw[fq]at a;exact a.1.elim (fun h=>.inl ⟨j,c,h⟩) .inr
 ·rw[ft _ _ d]at a;exact .inl ⟨j,c,a⟩
theorem iQ.c0(h:iQ w T most o t ls Fs):w.cell? ⟨T,0,none⟩=some (rm most):=by simp[World.cell?,h.blk]
theorem iQ.ci(h:iQ w T most o t ls Fs){i:Nat}(hi:i<5):w.cell? ⟨T,i+1,none⟩=some (lK (t i)):=by
 match i,hi with
 |0,_|1,_|2,_|3,_|4,_=>simp[World.cell?,h.blk]
end
def bz(w:World)(T:Nat)(most:Int)(o:Nat)(l:az)(F:Nat->Nat->Prop):Prop:=
 ∃t Fs,iQ w T most o t (fc l) Fs/\dR l/\RowsFit l/\(∀q∈l,1<=q.1.length/\q.1.length<=16)/\(1<=most/\most<=1024)/\(l.length:Int)<=most/\(∀b q,rp Fs b q->F b q)/\ ∀q,F T q
section
variable{w w':World}{T o:Nat}{most:Int}{l:az}{F G:Nat->Nat->Prop}{S:Nat->Prop}
theorem bz.dC(n:bz w T most o l F)(i:Only S w w')(b: ∀d q,F d q-> ¬S d):bz w' T most o l F:=by obtain⟨t,Fs,m,e,g,j,f,h,c,a⟩:=n;exact⟨t,Fs,m.dC i (b T 0 (a 0)) (fun d q k=>b d q (c d q k)),e,g,j,f,h,c,a⟩
theorem bz.below(h:bz w T most o l F)(a:Below w.heap.size w w'):bz w' T most o l F:=h.dC (qS a) (fun _ _ _ h=>h)
theorem bz.mono(m:bz w T most o l F)(a: ∀b q,F b q->G b q):bz w T most o l G:=by obtain⟨t,Fs,k,c,e,h,d,f,j,g⟩:=m;exact⟨t,Fs,k,c,e,h,d,f,fun b q i=>a b q (j b q i),fun q=>a T q (g q)⟩
abbrev bz.m:=@bz.mono
theorem bz.bound(m:bz w T most o l F):bz w T most o l (fun c q=>F c q/\c<w.heap.size):=by obtain⟨t,Fs,b,d,f,j,e,g,k,h⟩:=m;exact⟨t,Fs,b,d,f,j,e,g,fun c q a=>⟨k c q a,let⟨i,hi,a⟩:=a;b.Qp i hi c q a⟩,fun q=>⟨h q,b.lt⟩⟩
theorem bz.up(h:bz w T most o l F):dR l:=by obtain⟨t,Fs,b,a,_⟩:=h;exact a
theorem bz.fit(h:bz w T most o l F):RowsFit l:=by obtain⟨t,Fs,c,b,a,_⟩:=h;exact a
theorem bz.KW(h:bz w T most o l F):1<=most/\most<=1024:=by obtain⟨t,Fs,e,b,c,d,a,_⟩:=h;exact a
theorem bz.len(h:bz w T most o l F):(l.length:Int)<=most:=by obtain⟨t,Fs,f,b,d,e,c,a,_⟩:=h;exact a
end
theorem I8{w:World}{T N o:Nat}(f:w.heap[T]?=some (sv o 0 N))(c:w.heap[N]?=some ta)
  (d:2<=o/\o<=16) (a:N≠T):bM w T o [] (fun b _=>b=T\/b=N):=by
 refine⟨0,N,.mk [] [],fun b _=>b=N,f,⟨rfl,.slice none 0 0,.slice none 0 0,[],fun i b _=>i=0/\b=N,c,fun _=>⟨rfl,rfl⟩,aG.nil _ _ _ _,aG.nil _ _ _ _,rfl,fun i p k e _=>by simp at e,fun i b q h=>h.2,fun i j b q h e=>h.1.x e.1.symm⟩,?_,rfl,ee,d,fun b q h=>.inr h,fun q=>.inl rfl,fun q h=>a h.symm⟩;exact⟨dq _,dq _,rfl⟩
theorem FJ(w:World)(n:Nat)(f:2<=n)(g:n<=16):Calls prog 43 #[rm n] w fun h w'=>
  ∃T F,h=.returned (.tuple #[rv T,rm 0])/\bM w' T n [] F/\(∀b q,F b q->w.heap.size<=b/\b<w'.heap.size)/\Below w.heap.size w w':=by
 obtain⟨d,e⟩:=rj w ta;obtain⟨a,c⟩:=rj (w.alloc ta) (sv n 0 w.heap.size)
 have H:=al (show ∃T F,T=w.heap.size+1/\bM ((w.alloc ta).alloc (sv n 0 w.heap.size)) T n [] F/\(∀b q,F b q->w.heap.size<=b/\b<w.heap.size+2)/\Below w.heap.size w ((w.alloc ta).alloc (sv n 0 w.heap.size))from
  ⟨_,fun b _=>b=w.heap.size+1\/b=w.heap.size,rfl,I8 (by simpa using c) (qt a e) ⟨f,g⟩ (by omega),fun b q i=>by omega,d.x (a.m (by simp))⟩)
 have j: ¬(n:Int)<2:=by omega
 have k: ¬(16:Int)<(n:Int):=by omega
 clear d e a c;go_enter func43,ntmps43;go_wp2_with fail
 go_ret2
 obtain⟨T,F,h,c,d,a⟩:=H.o;subst h;exact⟨_,rfl,F,c,fun b q i=>by have:=d b q i;simp;omega,a⟩
def ru(w a:World)(T:Nat)(most:Int)(n k:Nat):Prop:=
 ∃(b:Array Value) (t:Nat->Nat) (Fs:Nat->Nat->Nat->Prop),a.heap[T]?=some (.cells b 116 (0,0))/\b.size=6/\b[0]?=some (rm most)/\Below w.heap.size w a/\w.heap.size<=T/\
  (∀j,j<k->b[j+1]?=some (lK (t j))/\bM a (t j) n [] (Fs j)/\(∀b q,Fs j b q->(w.heap.size<=b/\b<a.heap.size)/\b≠T))/\ ∀i j,i<k->j<k->i≠j-> ∀b q,Fs i b q-> ¬Fs j b q
theorem ru.more{w f w':World}{T x:Nat}{most:Int}{n k:Nat}{F:Nat->Nat->Prop}(J:ru w f T most n k)(I:k<5)(g:Below f.heap.size f w')(z:bM w' x n [] F)(h: ∀b q,F b q->f.heap.size<=b/\b<w'.heap.size):ru w (w'.setCell ⟨T,k+1,none⟩ (lK x)) T most n (k+1):=by
 obtain⟨B,t,Fs,i,l,A,o,u,m,y⟩:=J;have H:=oT i;have v:=qt g i;have j:=Only.aR w' T (k+1) (lK x);refine⟨B.setIfInBounds (k+1) (lK x),iM t k x,iM Fs k F,by simp[World.setCell,Array.getElem?_modify,v],by simpa using l,?_,(o.x (g.m o.size)).setCell (p:=⟨T,k+1,none⟩) u _,u,fun p a=>?_,fun E p c a r b q e d=>?_⟩
 ·rw[gd,fb (by omega)];exact A
 ·by_cases c:p=k
  ·subst c;rw[fq,fq,gd,ff rfl,ff (by omega)];refine⟨rfl,z.dC j (fun b q a G=>?_),fun b q a=>?_⟩
   ·have:=h b q a;omega
   ·have:=h b q a;have:=o.size;have:=j.size;omega
  ·obtain⟨D,C,s⟩:=m p (by omega);rw[ft _ _ c,ft _ _ c,gd,fb (by omega)];refine⟨D,(C.below g).dC j (fun b q a G=>(s b q a).2 G),fun b q a=>?_⟩;have:=s b q a;have:=g.size;have:=j.size;omega
 ·by_cases a:E=k
  ·subst a;have s:p≠E:=fun G=>r G.symm;rw[fq]at e;rw[ft _ _ s]at d;have i:=h b q e;have l:=(m p (by omega)).2.2 b q d;omega
  ·rw[ft _ _ a]at e;by_cases c:p=k
   ·subst c;rw[fq]at d;have i:=h b q d;have l:=(m E (by omega)).2.2 b q e;omega
   ·rw[ft _ _ c]at d;exact y E p (by omega) (by omega) r b q e d
theorem ru.all{w d:World}{T:Nat}{most:Int}{n:Nat}(v:ru w d T most n 5)(o:1<=most)(p:most<=1024):bz d T most n [] (fun k _=>w.heap.size<=k/\k<d.heap.size):=by
 obtain⟨⟨l⟩,t,Fs,j,m,g,u,s,a,r⟩:=v
 match l,m with
 |[c0,c1,c2,c3,c4,c5],_=>
  have b:=(a 0 (by decide)).1;have f:=(a 1 (by decide)).1;have h:=(a 2 (by decide)).1;have e:=(a 3 (by decide)).1;have c:=(a 4 (by decide)).1;simp at g b f h e c;subst g b f h e c;refine⟨t,Fs,⟨j,fun i c=>?_,r,fun i c k q b=>((a i c).2.2 k q b).1.2,fun i c q b=>((a i c).2.2 T q b).2 rfl⟩,ee,fun q e=>by simp at e,fun q e=>by simp at e,⟨o,p⟩,by simp;omega,fun k q b=>?_,fun q=>⟨s,oT j⟩⟩
  ·have:fc [] i=[]:=by unfold fc;split<;>rfl
   rw[this];exact(a i c).2.1
  ·obtain⟨i,c,b⟩:=b;exact((a i c).2.2 k q b).1
theorem yA(w:World)(most:Int)(n:Nat)(x:1<=most)(u:most<=1024)(d:2<=n)(f:n<=16):Calls prog 18 #[rm most,rm n] w fun z w'=>
  ∃T,z=.returned (.tuple #[rv T,rm 0])/\bz w' T most n [] (fun b _=>w.heap.size<=b/\b<w'.heap.size)/\Below w.heap.size w w':=by
 obtain⟨c,a⟩:=rj w (sz most);have B: ¬most<1:=by omega
 have C: ¬1024<most:=by omega
 have b:=AI d f x u;go_enter func18,ntmps18;go_upto_region 4 with fail;generalize w.alloc (sz most)=g at c a⊢;obtain⟨T,e⟩:=rk (w.heap.size);rw[e]at a⊢;have v:=al (show ru w g T most n 0 from⟨_,fun _=>0,fun _ _ _=>False,a,rfl,rfl,c,by omega,fun j g=>by omega,fun i j g=>by omega⟩);clear c a e d f;go_wp2_with fail
 go_loopw [19] (fun i wr=> ∃k:Nat,k<=5/\i=rm (k:Int)/\ru w wr T most n k) (fun i _=>5-(intOf i).toNat)
 case atStart=>exact⟨0,by decide,rfl,v.o⟩
 case round=>
  obtain⟨k,A,rfl,c⟩:=hrel;by_cases r:k<5
  ·have a:=al c;have q:=al (FJ wr n b.o.1 b.o.2.1);clear c;go_wp2_with fail;refine q.o.m ?_;rintro z j ⟨I,F,rfl,h,p,f⟩;have m:=a.o.more r f h p;obtain⟨l,t,Fs,e,o,_⟩:=a.o;have d:=qt f e;obtain⟨s,g⟩: ∃y,l[k+1]?=some y:=⟨_,fl (by omega)⟩;have H:j.cell? ⟨T,1+k,none⟩=some s:=by rw[Nat.add_comm 1 k];simp[World.cell?,d,g]
   have G:j.frozen? ⟨T,1+k,none⟩=false:=by simp[World.frozen?,d]
   have E:(0:Int)<=(k:Int):=by omega
   have D:(k:Int)<5:=by omega
   have y:=al m;clear m e d o g h p f q;go_wp2_with fail;go_roundw
   case rel=>exact⟨k+1,by omega,by go_num,by rw[Nat.add_comm 1 k];exact y.o⟩
   case measure=>simp[intOf];omega
  ·obtain rfl:k=5:=by omega
   have a:=al c;clear c;go_wp2_with fail
   go_ret2
   have d:=a.o.all b.o.d.1 b.o.t;obtain⟨l,t,Fs,e,o,g,c,f,h⟩:=id a.o;exact⟨T,rfl,d,c⟩
theorem wh{k:List UInt8}(h:1<=k.length/\k.length<=16):dY k=0:=by unfold dY;rw[fb (by omega)]
theorem ji(w:World)(T a:Nat)(h:w.cell? ⟨T,1,none⟩=some (lK a)):Calls prog 71 #[rv T] w fun e w'=>e=.returned (lK a)/\w=w':=by
 unfold lK at h⊢;go_enter func71,ntmps71;go_wp2_with fail;go_ret
 exact⟨rfl,rfl⟩
theorem uN(w:World)(T a c:Nat)(f:c<4)(h:w.cell? ⟨T,c+1+1,none⟩=some (lK a)):Calls prog 176 #[rv T,rm (c:Int)] w fun e w'=>e=.returned (lK a)/\w=w':=by
 unfold lK at h⊢;rw[show c+1+1=1+(c+1) by omega]at h;have b:(1:Int)+(c:Int)=((c+1:Nat):Int):=by omega
 have e:(0:Int)<=((c+1:Nat):Int):=by omega
 have d:((c+1:Nat):Int)<5:=by omega
 generalize c+1=g at h b e d;go_enter func176,ntmps176;go_wp2_with fail;go_ret
 exact⟨rfl,rfl⟩
theorem uO(w:World)(T:Nat)(k:List UInt8):Calls prog 77 #[rv T,r7 k] w fun e w'=>e=.returned (rm (dY k))/\w=w':=by
 have a:=al (eB w k);go_enter func77,ntmps77;go_wp2_with fail;refine a.o.m ?_;rintro e b ⟨rfl,rfl⟩;go_wp2_with fail;go_ret
 exact⟨rfl,rfl⟩
theorem I9(w:World)(T o:Nat)(most:Int)(t:Nat->Nat)(ls:Nat->List Pr)(Fs:Nat->Nat->Nat->Prop)(h:iQ w T most o t ls Fs):Calls prog 39 #[rv T] w fun e w'=>e=.returned (rm (ls 0).length)/\w=w':=by
 have a:=AD (ji w T (t 0) (h.ci (by decide))) (Iu w (t 0) o (ls 0) (Fs 0) (h.tree 0 (by decide)));clear h;go_enter func39,ntmps39;go_wp2_with fail;refine a.o.1.m ?_;rintro e b ⟨rfl,rfl⟩;unfold lK;go_wp2_with fail;refine a.o.2.m ?_;rintro e b ⟨rfl,rfl⟩;go_wp2_with fail;go_ret
 exact⟨rfl,rfl⟩
theorem mX(w:World)(T o:Nat)(most:Int)(l:az)(F:Nat->Nat->Prop)(h:bz w T most o l F):Calls prog 39 #[rv T] w fun e w'=>e=.returned (rm l.length)/\w=w':=by obtain⟨t,Fs,c,a,b,_⟩:=h;have:=I9 w T o most t _ Fs c;rw[fR a b]at this;exact this
theorem yB(w:World)(T o:Nat)(most:Int)(l:az)(F:Nat->Nat->Prop)(h:bz w T most o l F):Calls prog 67 #[rv T] w fun e w'=>e=.returned (rm most)/\w=w':=by
 obtain⟨t,Fs,a,_⟩:=h;have b:=a.c0;clear a;go_enter func67,ntmps67;go_wp2_with fail;go_ret
 exact⟨rfl,rfl⟩
def ac2(w w':World)(v:Value)(r:Option Rw):Prop:=lG w' v r/\ ∀b,v=rv b->w.heap.size<=b
def abl(r:Option Rw)(w:World)(e:Ending)(w':World):Prop:= ∃v,e=.returned v/\ac2 w w' v r/\Below w.heap.size w w'
theorem look_ok(w:World)(T o:Nat)(most:Int)(l:az)(F:Nat->Nat->Prop)(k:List UInt8)(y:bz w T most o l F)(d:1<=k.length/\k.length<=16):
  Calls prog 78 #[rv T,r7 k] w (abl (aA k l) w):=by
 obtain⟨t,Fs,a,e,f,_⟩:=y;have g:=Ir w (t 0) o (fc l 0) (Fs 0) k (a.tree 0 (by decide)) d.1 (by omega);have h:look k (fc l 0)=(aA k l).map dO:=Ek dO k l;have b:=AD (ji w T (t 0) (a.ci (by decide))) g;have q:=al h;have c: ∀r,aA k l=some r-> ∀i,I6 (r.aO i):=fun r i=>f (k,r) ((aD e).1 i);have u:=al c;clear a e f g h c d;go_enter func78,ntmps78;go_wp2_with fail;refine b.o.1.m ?_;rintro v e ⟨rfl,rfl⟩;unfold lK;go_wp2_with fail;refine b.o.2.m ?_;rintro v e ⟨rfl,a⟩;rw[q.o];have c:=al a;clear b a
 cases hq:aA k l with
 |none=>
  have d:=al hq;simp only[Option.map_none,Option.getD_none,nx,nf,if_false];clear hq;go_wp2_with fail;go_ret
  exact⟨_,rfl,⟨by rw[d.o];rfl,fun x a=>by cases a⟩,c.o⟩
 |some r=>
  have h:=u.o r hq;have d:=AD hq h;simp only[Option.map_some,oy,mT,if_true];have g:=fun w=>xR w (dO r);have f:=oY r;obtain⟨E,b⟩:=rk (dO r);have i:=AD b f;rw[b]at g⊢;clear hq h b f;go_wp2_with fail;have h:=E0 e 5 (dO r) (by have:=i.o.2;unfold maxLen;omega);have f:=uE e 5 ⟨(dO r).toArray⟩;have b:=AD (Bv _ _ r _ d.o.2 h) f;rw[i.o.1]at b;clear h f g;refine b.o.1.m ?_;rintro v h ⟨rfl,g⟩;have f:=al (show Below w.heap.size w h from(c.o.x (b.o.2.m c.o.size)).x (g.m (dd c.o.size b.o.2.size)));clear g b;obtain⟨s,m,n,p⟩:=r;unfold Rw.val;obtain⟨j,b⟩:=rj h (r8 s m n p);have g:=AD j b;clear j b;go_wp2_with fail;go_ret
  exact⟨_,rfl,⟨by rw[d.o.1];exact⟨_,rfl,g.o.2⟩,fun x a=>by injection a with a;injection a with a;injection a with a;have:=f.o.size;omega⟩,f.o.x (g.o.1.m f.o.size)⟩
theorem Ja(w:World)(k:List UInt8)(a:1<=k.length/\k.length<=16)(d g:Value)(old now:Option Rw)(f:lG w d old)(b:lG w g now)(j: ¬(old=none/\now=none)):
  Calls prog 174 #[r7 k,d,g] w (TT (L8 k old now) w):=by
 cases old with
 |none=>
  obtain rfl:=f
  cases now with
  |none=>exact absurd ⟨rfl,rfl⟩ j
  |some n=>obtain⟨h,rfl,c⟩:=b;exact Iw w k a h n c
 |some o=>
  obtain⟨i,rfl,e⟩:=f
  cases now with
  |none=>obtain rfl:=b;exact Iy w k a i o e
  |some n=>obtain⟨h,rfl,c⟩:=b;exact Iz w k a i o e h n c
theorem Un{w:World}{F:Nat->Prop}{A:Option Addr}{n c:Nat}{l:List Ch}(r:bI 4 w F (.slice A n c) (l.map Ch.cells)){j:Nat}{x:Ch}(e:l[j]?=some x):
  ∃d o,A=some ⟨d,o,none⟩/\F d/\w.cell? ⟨d,o+j*4,none⟩=some (rm (x.aO:Int))/\w.cell? ⟨d,o+j*4+1,none⟩=some (rm x.v)/\w.cell? ⟨d,o+j*4+2,none⟩=some (r7 x.k)/\
   w.cell? ⟨d,o+j*4+3,none⟩=some (.bool x.add):=by
 obtain⟨m,q,p,f,g,_,_,i⟩:=r;injection f with a b h;subst a b h;have k:=(aw.1 e).1;obtain⟨d,o,rfl,h,b⟩:=i (by simp at g;omega);have a:(l.map Ch.cells)[j]?=some x.cells:=by simp[e]
 exact⟨d,o,rfl,h,b j _ a 0 _ rfl,b j _ a 1 _ rfl,b j _ a 2 _ rfl,b j _ a 3 _ rfl⟩
def py(T o:Nat)(most:Int)(t:Nat->Nat)(ls:Nat->List Pr)(xs:List Ch)(Fs:Nat->Nat->Nat->Prop)(w w':World):Prop:=
 ∃a,iQ w' T most o t (xs.foldl ly ls) a/\(∀b q,rp a b q->rp Fs b q\/w.heap.size<=b)/\OnlyC (rp Fs) w w'
theorem Uo{w:World}{T o:Nat}{most:Int}{t:Nat->Nat}{ls:Nat->List Pr}{Fs:Nat->Nat->Nat->Prop}(h:iQ w T most o t ls Fs){b q:Nat}(a:rp Fs b q):b<w.heap.size:=let⟨i,hi,hf⟩:=a;h.Qp i hi b q hf
theorem py.step{w w1 w':World}{T o:Nat}{most:Int}{t:Nat->Nat}{ls:Nat->List Pr}{xs:List Ch}{Fs a:Nat->Nat->Nat->Prop}{x:Ch}(p:x.aO<4)(n:w.heap.size<=w1.heap.size)
  (l:iQ w1 T most o t (xs.foldl ly ls) a) (e: ∀c q,rp a c q->rp Fs c q\/w.heap.size<=c) (k:OnlyC (rp Fs) w w1)
  {f:List Pr} (g:f=ly (xs.foldl ly ls) x (x.aO+1)) (i:bM w' (t (x.aO+1)) o f (fun c q=>a (x.aO+1) c q\/w1.heap.size<=c)) (d:OnlyC (a (x.aO+1)) w1 w'):py T o most t ls (xs++[x]) Fs w w':=by
 refine⟨iM a (x.aO+1) (fun c q=>(a (x.aO+1) c q\/w1.heap.size<=c)/\c<w'.heap.size),?_,fun c q b=>?_,k.x d (fun c q b h=>?_)⟩
 ·have j:=l.upd (i:=x.aO+1) (by omega) i d;rw[List.foldl_append,List.foldl_cons,List.foldl_nil];refine j.congr (fun r _=>?_);rw[g];unfold ly iM;by_cases m:r=x.aO+1
  ·rw[ff m,ff rfl,ff m]
  ·rw[fb m,fb m]
 ·rcases KV (by omega) b with b|b
  ·exact e c q b
  ·exact .inr (by omega)
 ·rcases e c q ⟨_,by omega,h⟩with l|l
  ·exact l
  ·omega
theorem Dh(w:World)(T o:Nat)(most:Int)(t:Nat->Nat)(ls:Nat->List Pr)(Fs:Nat->Nat->Nat->Prop)(k:List UInt8)(L E:Value)(old now:Option Rw)(y:iQ w T most o t ls Fs)(f:1<=k.length/\k.length<=16)
  (d:lG w L old) (a:lG w E now) (m: ¬(old=none/\now=none)) (n: ∀r,old=some r-> ∀O,I6 (r.aO O)) (p: ∀r,now=some r-> ∀O,I6 (r.aO O)) (j: ∀i,i<5->(ls i).length<=900000):
  Calls prog 122 #[rv T,r7 k,L,E] w fun h w'=>h=.returned (.tuple #[])/\py T o most t ls (L8 k old now) Fs w w':=by
 have g:=al (Ja w k f L E old now d a m);obtain⟨b,c⟩:=rk (L8 k old now);have l: ∀M∈b,(M.aO<4/\M.k=k)/\I6 M.v:=fun M e=>by rw[<-c]at e;exact⟨Ko e,Kp n p e⟩
 have P:b.length<=8:=by rw[<-c];exact rS k old now 4
 rw[c]at g⊢;have V:=AM y f l P j;clear y f m n p j c l;have Z:(∃l,L=.pointer l):=by cases old with|none=>exact⟨_,d⟩|some r=>obtain⟨l,h,_⟩:=d;exact⟨_,h⟩
 have Z9:(∃l,E=.pointer l):=by cases now with|none=>exact⟨_,a⟩|some r=>obtain⟨l,h,_⟩:=a;exact⟨_,h⟩
 obtain⟨bo,rfl⟩:=Z;obtain⟨bn,rfl⟩:=Z9;clear d a;go_enter func122,ntmps122
 go_step3
 go_wp2_with fail;refine g.o.m ?_;rintro h u ⟨v,rfl,c,d⟩;obtain⟨A,O,rfl⟩:=ai c;obtain⟨N,a⟩:=rk (b.length);rw[a]at P;have j:bI 4 u (fun l=>w.heap.size<=l/\l<u.heap.size) (.slice A N O) (b.map Ch.cells):=by rw[<-a];exact bI.bO c (tV b) (by decide) (fun m f=>c.lt m f)
 have f:=AF j d a;rw[a];clear j d c a g;go_wp2_with fail
 go_step3
 go_wp2_with fail
 go_loopw [23] (fun i wr=> ∃m:Nat,m<=N/\i=rm (m:Int)/\py T o most t ls (b.take m) Fs u wr) (fun i _=>N-(intOf i).toNat)
 case atStart=>exact⟨0,by omega,rfl,Fs,V.o.1.below f.o.2.1,fun l q y=>.inl y,OnlyC.refl _ _⟩
 case round=>
  obtain⟨m,hj,rfl,J,r,B,x⟩:=hrel;by_cases W:m<N
  ·obtain⟨M,e⟩: ∃M,b[m]?=some M:=⟨_,ao (by rw[f.o.d];exact W)⟩;have z:bI 4 wr (fun l=>w.heap.size<=l/\l<u.heap.size) (.slice A N O) (b.map Ch.cells):=f.o.1.only x.only (fun l R ⟨q,a⟩=>by have:=Uo V.o.1 a;omega);obtain⟨l,o',rfl,H,G,F,C,D⟩:=Un z e;have Y:O<=maxLen:=by obtain⟨_,_,_,h,_,_,y,_⟩:=f.o.1;injection h with _ _ h;omega
   have aa:N<=O:=by obtain⟨_,_,_,h,_,y,_,_⟩:=f.o.1;injection h with _ U h;omega
   unfold maxLen at Y;obtain⟨⟨p,g⟩,s⟩:=V.o.d.1 M (db e);obtain⟨a,c,d,K⟩:=M;simp only at p g s G F C D;subst g;have i1:(0:Int)<=(m:Int):=by omega
   have i2:(m:Int)<(N:Int):=by omega
   obtain⟨n,j⟩:=rj wr (sE (a:Int) c d.toArray K);have g:=AN (r.below n) B (x.x (oS n (rp Fs)) (fun _ _ _ y=>y)) e p s;clear r B x z e H s;go_upto_region 4 with fail;clear G F C D;have HB:=al n;clear n;generalize wr.alloc (sE (a:Int) c d.toArray K)=n at g HB j⊢;obtain⟨X,e⟩:=rk (wr.heap.size);rw[e]at j⊢;obtain⟨⟨e0,e1,U,e3⟩,-⟩:=cP j;have HK:=AD j e;have F:=al (IA n c d g.o.q.2 V.o.2.1);clear j e;go_wp2_with fail;refine F.o.m ?_;rintro h n ⟨rfl,s⟩;have C:=qt s HK.o.1;obtain⟨⟨e0,e1,U,e3⟩,-⟩:=cP C;have e:=al (show iQ n T most o t ((b.take m).foldl ly ls) J/\OnlyC (rp Fs) u n from⟨g.o.1.below s,g.o.d.1.x (oS s (rp Fs)) (fun _ _ _ y=>y)⟩)
   have I:((b.take m).foldl ly ls (a+1)).length<=1000000:=by have h1:=xJ (a+1) (b.take m) ls 900000 (V.o.q _ (by omega));rw[im]at h1;omega
   have j:1<=(dM c d).length/\(dM c d).length<=64:=by unfold dM;rw[gr,cu];have:=V.o.2.1;omega
   have S:=al (uN n T (t (a+1)) a p (e.o.1.ci (i:=a+1) (by omega)));have D:=e.o.1.tree (a+1) (by omega);have H:=e.o.1.Qp (a+1) (by omega)
   have z:b.take m++[⟨a,c,d,K⟩]=b.take (m+1):=by have:=g.o.t.1;rw[gO,this];rfl
   clear s C F;cases K
   focus
    have F:=al (x9 n (t (a+1)) o _ (J (a+1)) (dM c d) D H j.1 j.2 I);have Q:=al z;clear D H j I z;go_wp2_with fail;refine S.o.m ?_;rintro h w4 ⟨rfl,rfl⟩;unfold lK;go_wp2_with fail;refine F.o.m ?_;rintro h w5 ⟨rfl,C,G⟩;have s:=al (py.step (x:=⟨a,c,d,false⟩) p (e.o.2.size) e.o.1 g.o.2.1 e.o.2 (by unfold ly;rw[fb (by simp),fq]) C G)
   rotate_left
   focus
    have F:=al (qX n (t (a+1)) o _ (J (a+1)) (dM c d,[]) D H j.1 j.2 (by simp) I);have Q:=al z;clear D H j I z;go_wp2_with fail;refine S.o.m ?_;rintro h w4 ⟨rfl,rfl⟩;unfold lK;go_wp2_with fail;refine F.o.m ?_;rintro h w5 ⟨rfl,C,G⟩;have s:=al (py.step (x:=⟨a,c,d,true⟩) p (e.o.2.size) e.o.1 g.o.2.1 e.o.2 (by unfold ly;rw[ff rfl,fq]) C G)
   all_goals
    rw[Q.o]at s;clear C G F;go_wp2_with fail;go_roundw
    case rel=>exact⟨m+1,by omega,by go_num,s.o⟩
    case measure=>simp[intOf];omega
  ·obtain rfl:m=N:=by omega
   have s:=al (show py T o most t ls b Fs w wr from by
    rw[fm (by rw[f.o.d];exact Nat.le_refl _)]at r
    refine⟨J,r,fun l q R=>(B l q R).imp id (fun y=>by have:=f.o.2.1.size;omega),(oS f.o.2.1 (rp Fs)).x x (fun _ _ _ y=>y)⟩)
   clear r B x;go_wp2_with fail;rw[Exit.noGoto_normal];exact ew (du rfl _ _ _) rfl ⟨rfl,s.o⟩
theorem lG.only{w w':World}{v:Value}{r:Option Rw}{S:Nat->Prop}(h:lG w v r)(c:Only S w w')(a: ∀b,v=rv b-> ¬S b):lG w' v r:=by
 cases r with
 |none=>exact h
 |some r=>obtain⟨b,e,h⟩:=h;exact⟨b,e,c.heap h (a b e)⟩
theorem iH{w:World}{A:Nat}{d c a b v0 v1 v2 v3:Value}{t:TypeId}(h:w.heap[A]?=some (.cells #[d,c,a,b] t (0,0))):
  ((((w.setCell ⟨A,0,none⟩ v0).setCell ⟨A,1,none⟩ v1).setCell ⟨A,2,none⟩ v2).setCell ⟨A,3,none⟩ v3).heap[A]?=some (.cells #[v0,v1,v2,v3] t (0,0))/\Only (fun k=>k=A) w ((((w.setCell ⟨A,0,none⟩ v0).setCell ⟨A,1,none⟩ v1).setCell ⟨A,2,none⟩ v2).setCell ⟨A,3,none⟩ v3):=
 ⟨Bj h,(((bg w A 0 v0).setCell (p:=⟨A,1,none⟩) (fun _=>rfl) v1).setCell (p:=⟨A,2,none⟩) (fun _=>rfl) v2).setCell (p:=⟨A,3,none⟩) (fun _=>rfl) v3⟩
def mz(r:Option Rw)(w:World)(e:Ending)(w':World):Prop:=e=.returned (.tuple #[(r.getD .zero).val,rm (if r.isSome then 0 else 14)])/\Below w.heap.size w w'
theorem mY(w:World)(T o:Nat)(most:Int)(l:az)(F:Nat->Nat->Prop)(k:List UInt8)(u:bz w T most o l F)(d:1<=k.length/\k.length<=16):
  Calls prog 41 #[rv T,r7 k] w (mz (aA k l) w):=by
 obtain⟨a,b⟩:=rj w (r8 0 0 0 0);have c:=u.below a;clear u;go_enter func41,ntmps41;go_upto_region 1 with fail;generalize w.alloc (r8 0 0 0 0)=g at a b c⊢;obtain⟨A,f⟩:=rk (w.heap.size);rw[f]at b⊢;have e:=AD (uO g T k) (look_ok g T o most l F k c d);rw[wh d]at e;have H:=AF a b f;clear c d a b f;go_wp2_with fail;refine e.o.1.m ?_;rintro N i ⟨rfl,rfl⟩;go_wp2_with fail;refine e.o.2.m ?_;rintro N i ⟨O,rfl,g,f⟩;have c:=qt f H.o.2.1;obtain⟨⟨-,-,-,-⟩,B,C,M,z⟩:=cP c;obtain⟨⟨K,I,L,D⟩,-⟩:=cP c;have h:=H.o.1.x (f.m H.o.1.size);have b:=AD h c
 cases hq:aA k l with
 |none=>rw[hq]at g;obtain⟨rfl,-⟩:=g;have j:=al hq;clear f h c hq e;go_wp2_with fail;have a:=al (iH (v0:=rm 0) (v1:=rm 0) (v2:=rm 0) (v3:=rm 0) b.o.2);generalize ((((i.setCell ⟨A,0,none⟩ (rm 0)).setCell ⟨A,1,none⟩ (rm 0)).setCell ⟨A,2,none⟩ (rm 0)).setCell ⟨A,3,none⟩ (rm 0))=t at a⊢;refine dj (ax rfl _ _ _ _ _ _ _ rfl a.o.1 underlying109 rfl (by kernel_rfl)) rfl ⟨by rw[j.o];rfl,?_⟩;exact b.o.1.x (a.o.2.aH b.o.1.size (fun k d u=>by have:=H.o.d;omega))
 |some y=>
  rw[hq]at g;obtain⟨⟨v,rfl,r⟩,s⟩:=g;have x: ¬v=A:=by have:=s v rfl;have:=aM H.o.2.1;omega
  obtain⟨q,m,n,p⟩:=y;obtain⟨⟨y,G,E,J⟩,-⟩:=cP r;have j:=al hq;clear f h c hq e r s;go_wp2_with fail;have a:=al (iH (v0:=rm q) (v1:=rm m) (v2:=rm n) (v3:=rm p) b.o.2);generalize ((((i.setCell ⟨A,0,none⟩ (rm q)).setCell ⟨A,1,none⟩ (rm m)).setCell ⟨A,2,none⟩ (rm n)).setCell ⟨A,3,none⟩ (rm p))=t at a⊢;refine dj (ax rfl _ _ _ _ _ _ _ rfl a.o.1 underlying109 rfl (by kernel_rfl)) rfl ⟨by rw[j.o];rfl,?_⟩;exact b.o.1.x (a.o.2.aH b.o.1.size (fun k d u=>by have:=H.o.d;omega))
def FK(most:Int)(l:az)(k:List UInt8)(r:Rw):az:=if aA k l=none/\most<=(l.length:Int)then l else cO (k,r) l
def FL(most:Int)(l:az)(k:List UInt8):Int:=if aA k l=none/\most<=(l.length:Int)then 16 else 0
theorem OnlyC.far{F:Nat->Nat->Prop}{S:Nat->Prop}{w w' c:World}(h:OnlyC F w w')(b:Only S w' c)(d: ∀k,k<w.heap.size-> ¬S k):OnlyC F w c:=by
 refine⟨b.os.x h.os,b.tape.x h.tape,b.output.x h.output,dd h.size b.size,fun k j t l a=>?_,fun k a i=>?_⟩
 ·obtain⟨e,m,f,g⟩:=h.shape k j t l a;exact⟨e,(b.block k (da (oT a) h.size) (d k (oT a))).x m,f,g⟩
 ·exact(b.block k (da a h.size) (d k a)).x (h.block k a i)
theorem iQ.one{w c a:World}{T o:Nat}{most:Int}{t:Nat->Nat}{ls:Nat->List Pr}{Fs:Nat->Nat->Nat->Prop}{i:Nat}{g:List Pr}(h:iQ w T most o t ls Fs)(hi:i<5)(e:Below w.heap.size w c)
  (j:bM a (t i) o g (fun b q=>Fs i b q\/c.heap.size<=b)) (f:OnlyC (Fs i) c a): ∃d,iQ a T most o t (iM ls i g) d/\(∀b q,rp d b q->rp Fs b q\/w.heap.size<=b)/\OnlyC (rp Fs) w a:=by
 refine⟨iM Fs i (fun b q=>(Fs i b q\/c.heap.size<=b)/\b<a.heap.size),(h.below e).upd hi j f,fun b q d=>?_,(oS e (rp Fs)).x f (fun b q _ d=>⟨i,hi,d⟩)⟩;rcases KV hi d with h|h
 ·exact .inl h
 ·exact .inr (dd e.size h)
theorem py.from_{w a f:World}{T o:Nat}{most:Int}{t:Nat->Nat}{ls:Nat->List Pr}{xs:List Ch}{Fs e:Nat->Nat->Nat->Prop}(i:py T o most t ls xs e a f)(g: ∀b q,rp e b q->rp Fs b q\/w.heap.size<=b)(c:OnlyC (rp Fs) w a):py T o most t ls xs Fs w f:=by
 obtain⟨n,l,j,m⟩:=i;refine⟨n,l,fun b q d=>?_,c.x m (fun b q d k=>?_)⟩
 ·rcases j b q d with h|h
  ·exact g b q h
  ·exact .inr (dd c.size h)
 ·rcases g b q k with h|h
  ·exact h
  ·omega
theorem Di{w w2 f d:World}{T o A:Nat}{most:Int}{t:Nat->Nat}{a:az}{xs:List Ch}{ls:Nat->List Pr}{F:Nat->Nat->Prop}{Fs:Nat->Nat->Nat->Prop}(j:Below w.heap.size w w2)(r:py T o most t ls xs Fs w2 f)
  (i:Only (fun C=>C=A) f d) (G:w.heap.size<=A) (E:A<w2.heap.size) (k: ∀q,¬rp Fs A q) (D:T<w.heap.size) (g: ∀b q,rp Fs b q->F b q) (n: ∀q,F T q) (u: ∀c,c<5->xs.foldl ly ls c=fc a c)
  (m:dR a) (p:RowsFit a) (s: ∀q∈a,1<=q.1.length/\q.1.length<=16) (z:1<=most/\most<=1024) (l:(a.length:Int)<=most):bz d T most o a (fun b q=>F b q\/w.heap.size<=b)/\OnlyC F w d:=by
 obtain⟨v,x,e,y⟩:=r;refine⟨⟨t,v,((x.congr u).dC i (fun B=>by omega) (fun b q c B=>?_)),m,p,s,z,l,fun b q c=>?_,fun q=>.inl (n q)⟩,?_⟩
 ·subst B;rcases e b q c with h|h
  ·exact k q h
  ·omega
 ·rcases e b q c with h|h
  ·exact .inl (g b q h)
  ·exact .inr (dd j.size h)
 ·exact(((oS j F).x (y.m (fun b q _ h=>g b q h)) (fun _ _ _ h=>h))).far i (fun C b B=>by omega)
def wm(T o:Nat)(most:Int)(l:az)(k:List UInt8)(r:Rw)(F:Nat->Nat->Prop)(w:World)(e:Ending)(w':World):Prop:=
 e=.returned (.tuple #[((if FL most l k=0 then aA k l else none).getD .zero).val,.bool (aA k l).isSome,rm (FL most l k)])/\bz w' T most o (FK most l k r) (fun b q=>F b q\/w.heap.size<=b)/\OnlyC F w w'
theorem FM{l:az}{k:List UInt8}{r:Rw}(h: ∀q∈l,1<=q.1.length/\q.1.length<=16)(a:1<=k.length/\k.length<=16): ∀q∈cO (k,r) l,1<=q.1.length/\q.1.length<=16:=fun q b=>(iu b).elim (fun e=>by subst e;exact a) (h q)
theorem MV(w:World)(T o:Nat)(most:Int)(l:az)(F:Nat->Nat->Prop)(k:List UInt8)(r:Rw)(h:bz w T most o l F)(hF: ∀b q,F b q->b<w.heap.size)(hk:1<=k.length/\k.length<=16)(hr: ∀c,I6 (r.aO c)):
  Calls prog 70 #[.pointer (some ⟨T,0,none⟩),.string ⟨k.toArray⟩,r.val] w (wm T o most l k r F w):=by
 have hmm:=h.KW;have hll:=h.len;obtain⟨hb0,k0⟩:=rj w (.cells #[.int .i64 r.a,.int .i64 r.b,.int .i64 r.c,.int .i64 r.d] 109);obtain⟨hb1,k1⟩:=rj (w.alloc (.cells #[.int .i64 r.a,.int .i64 r.b,.int .i64 r.c,.int .i64 r.d] 109)) (.cells #[.int .i64 0,.int .i64 0,.int .i64 0,.int .i64 0] 109);have hs1:(w.alloc (.cells #[.int .i64 r.a,.int .i64 r.b,.int .i64 r.c,.int .i64 r.d] 109)).heap.size=w.heap.size+1:=by simp
 have H0:=al (show Below w.heap.size w ((w.alloc (.cells #[.int .i64 r.a,.int .i64 r.b,.int .i64 r.c,.int .i64 r.d] 109)).alloc (.cells #[.int .i64 0,.int .i64 0,.int .i64 0,.int .i64 0] 109))/\
  ((w.alloc (.cells #[.int .i64 r.a,.int .i64 r.b,.int .i64 r.c,.int .i64 r.d] 109)).alloc (.cells #[.int .i64 0,.int .i64 0,.int .i64 0,.int .i64 0] 109)).heap[w.heap.size]?=some (.cells #[.int .i64 r.a,.int .i64 r.b,.int .i64 r.c,.int .i64 r.d] 109 (0,0))/\
  ((w.alloc (.cells #[.int .i64 r.a,.int .i64 r.b,.int .i64 r.c,.int .i64 r.d] 109)).alloc (.cells #[.int .i64 0,.int .i64 0,.int .i64 0,.int .i64 0] 109)).heap[w.heap.size+1]?=some (.cells #[.int .i64 0,.int .i64 0,.int .i64 0,.int .i64 0] 109 (0,0))from
  ⟨hb0.x (hb1.m hb0.size),qt hb1 k0,by rw[<-hs1];exact k1⟩)
 obtain⟨ra,rb,rc,rd⟩:=r;unfold Rw.val;simp only at H0;clear hb0 k0 hb1 k1 hs1;have HH:=al (ab h (ab hF (ab hk (ab hr (ab hmm hll)))));clear h hF hk hr hmm hll;go_enter func70,ntmps70;go_upto_region 1 with fail;have H1:=H0.o;clear H0;generalize (w.alloc (.cells #[.int .i64 ra,.int .i64 rb,.int .i64 rc,.int .i64 rd] 109)).alloc (.cells #[.int .i64 0,.int .i64 0,.int .i64 0,.int .i64 0] 109)=w1 at H1⊢;obtain⟨hb1,kr,ka⟩:=H1;obtain⟨R,hR⟩:=rk (w.heap.size);rw[hR]at kr ka⊢;obtain⟨A,hA⟩:=rk (R+1);rw[hA]at ka⊢;have h1:=HH.o.1.below hb1;have HC:=al (ab (uO w1 T k) (look_ok w1 T o most l F k h1 HH.o.d.1));rw[wh HH.o.d.1]at HC;have H:=al (ab hb1 (ab kr (ab ka (ab hR (ab hA h1)))));clear hb1 kr ka hR hA h1;go_wp2_with fail;refine HC.o.1.m ?_;rintro e w2 ⟨rfl,rfl⟩;go_wp2_with fail;refine HC.o.2.m ?_;rintro e w2 ⟨v,rfl,hv,hb⟩;have kr:=qt hb H.o.2.1;have ka:=qt hb H.o.d.1;have h2:=H.o.q.2.below hb;have hb2:=H.o.1.x (hb.m H.o.1.size);have hvR: ∀b,v=.pointer (some ⟨b,0,none⟩)->A<b:=fun b e=>by have:=hv.2 b e;have:=aM H.o.d.1;omega
 have H2:=al (ab hb2 (ab kr (ab ka (ab h2 (ab hv.1 hvR)))));clear kr ka h2 hb2 hvR hb HC;obtain⟨t,Fs,hW,g2,g3,g4,g5,g6,g7,g8⟩:=H2.o.t.1;have SD: ∀q,¬rp Fs R q:=fun q hq=>by have:=HH.o.2.1 R q (g7 R q hq);have:=H.o.t.1;omega
 have hFA: ∀q,¬rp Fs A q:=fun q hq=>by have:=HH.o.2.1 A q (g7 A q hq);have:=H.o.t.1;have:=H.o.q.1;omega
 have MW: ∀b q,rp Fs b q->b<w.heap.size:=fun b q hq=>HH.o.2.1 b q (g7 b q hq);have hTw:T<w.heap.size:=HH.o.2.1 T 0 (g8 0);have c0:=hW.c0;have HT:=al (ab hW (ab g2 (ab g3 (ab g4 (ab g5 (ab g6 (ab g7 (ab g8 (ab SD (ab hFA (ab MW hTw)))))))))));clear hW g2 g3 g4 g5 g6 g7 g8 SD hFA MW hTw
 cases hq:aA k l with
 |none=>
  rw[hq]at hv;obtain⟨rfl,-⟩:=hv;obtain⟨N,hN⟩: ∃N:Nat,l.length=N:=⟨_,rfl⟩;have HL:=al (fun n=>mX (w2.drewN n) T o most l F (H2.o.t.1.dC ((oE (fun _=>False) w2).drewN n) (fun _ _ _ h=>h)));rw[hN]at HL;by_cases hge:most<=(N:Int)
  ·have HQ:=al (show aA k l=none/\most<=(l.length:Int)from⟨hq,by rw[hN];exact hge⟩);clear hq hN;go_wp2_with fail;go_quiet((go_at_call 39;exact wX (HL.o _)));rename_i nq;clear c0 hge;go_upto_region 6 with fail;obtain⟨w3,hw3⟩:=rk (w2.drewN nq);have hb3:Below w2.heap.size w2 w3:=by rw[<-hw3];exact Only.aH ((oE (fun _=>False) w2).drewN nq) (b8 _) (fun _ _ h=>h)
   rw[hw3];have k3:=qt hb3 H2.o.d.1;obtain⟨⟨z0,z1,z2,z3⟩,y0,y1,y2,y3⟩:=cP k3;have iV:=al (ab hb3 k3);clear hb3 k3 hw3;go_wp2_with fail;have HO:=al (iH (v0:=.int .i64 0) (v1:=.int .i64 0) (v2:=.int .i64 0) (v3:=.int .i64 0) iV.o.2);generalize (((w3.setCell ⟨A,0,none⟩ (.int .i64 0)).setCell ⟨A,1,none⟩ (.int .i64 0)).setCell ⟨A,2,none⟩ (.int .i64 0)).setCell ⟨A,3,none⟩ (.int .i64 0)=oJ at HO⊢;refine dj (dt rfl _ _ _ _ _ _ _ rfl HO.o.1 underlying109 rfl (by kernel_rfl)) rfl ?_;have hE:FL most l k=16:=by unfold FL;rw[ff HQ.o]
   have hR:FK most l k ⟨ra,rb,rc,rd⟩=l:=by unfold FK;rw[ff HQ.o]
   unfold wm;rw[hE,hR,HQ.o.1];have Qs:Below w.heap.size w oJ:=(H2.o.1.x (iV.o.1.m H2.o.1.size)).x (Only.aH (HO.o.2) (dd H2.o.1.size iV.o.1.size) (fun k hk h=>by have:=H.o.t.1;have:=H.o.q.1;omega));exact⟨rfl,(HH.o.1.below Qs).m (fun b q h=>.inl h),oS Qs F⟩
  ·have HQ:=al (show aA k l=none/\ ¬most<=(l.length:Int)from⟨hq,by rw[hN];exact hge⟩);clear hq hN;go_wp2_with fail;go_quiet((go_at_call 39;exact wX (HL.o _)));rename_i nq;simp only[show decide (most<=(N:Int))=false from decide_eq_false (by omega)];clear c0 hge;go_upto_region 7 with fail;generalize hW0:w2.drewN nq=W0;have hb0:Below w2.heap.size w2 W0:=by rw[<-hW0];exact Only.aH ((oE (fun _=>False) w2).drewN nq) (b8 _) (fun _ _ h=>h)
   clear hW0;have lL:Below w2.heap.size w2 W0.drew:=hb0.drew;have hSt:Only (fun b=> ∃q,Fs 0 b q) w2 W0.drew:=oB lL _;clear hb0;refine pt (S:=(fun W=>Only (fun b=> ∃q,Fs 0 b q) w2 W)) (by kernel_rfl) hSt (fun qn=>?_);generalize hW3:W0.drew=W3 at qn lL⊢;clear hW3 hSt;refine bj [0,2] ?_
   iterate 2 (refine dZ (v:=?_) (fun wS hSw=>?_) qn ?_;rotate_left;(go_simp;try with_reducible rfl);try simp only[aj,ak,ar,au])
   refine bq ?_;refine lA 3 (v:=?_) (fun wS hSw=>?_) qn ?_;rotate_left
   ·obtain⟨⟨u0,u1,u2,u3⟩,-⟩:=cP (hSw.heap H2.o.2.1 (fun⟨q,hq⟩=>HT.o.q.q.1 q ⟨0,by decide,hq⟩));go_simp;try with_reducible rfl
   try simp only[aj,ak,ar,au]
   refine bA 1 (fun K hK=>?_);go_simp;refine(ji _ T (t 0) ((lL.cell (p:=⟨T,1,none⟩) (by have:=HT.o.1.lt;exact this)).x (HT.o.1.ci (i:=0) (by decide)))).m ?_;rintro e wn ⟨rfl,rfl⟩
   try go_simp
   refine hK.o _ _ (qn) ?_;clear hK K qn;intro qn
   try simp only[aj,ak,ar,au]
   refine bA 4 (fun K hK=>?_);go_simp;refine(Bu _ ⟨ra,rb,rc,rd⟩ HH.o.t.1).m ?_;rintro e wn ⟨A2,c2,rfl,hx,dB⟩;have FN:=lL.x (dB.m lL.size);have hcv:=vO (P:=prog) 53 9 5 underlying53 underlying5 underlying9 (Rd.bO (F:=fun _=>True) hx (fun _ _=>trivial));rw[fa]at hcv;have lL:=FN;clear FN hx
   try go_simp
   refine hK.o _ _ (qn.x (oB dB _) (fun _ _ h=>h)) ?_;clear hK K qn dB;intro qn
   try simp only[aj,ak,ar,au]
   refine bA 5 (fun K hK=>?_);go_simp;refine hK.o _ _ (qn) ?_;clear hK K qn hcv;intro qn
   try simp only[aj,ak,ar,au]
   refine bA 6 (fun K hK=>?_);go_simp;refine(qX _ (t 0) o (fc l 0) (Fs 0) (k,dO ⟨ra,rb,rc,rd⟩) ((HT.o.1.tree 0 (by decide)).below lL) (fun b q hq=>da (HT.o.1.Qp 0 (by decide) b q hq) lL.size) HH.o.d.1.1 (by have:=HH.o.d.1;exact dd this.2 (by decide)) (dd (oY _) (by decide)) (by rw[fR HT.o.2.1 HT.o.d.1];have:=HT.o.q.2.1;have:=HT.o.q.1;omega)).m ?_;rintro e wn ⟨rfl,ht,SE⟩;have Us:=al (ab lL (ab ht SE));have Qt:=SE.only;clear lL ht SE
   try go_simp
   refine hK.o _ _ (qn.x Qt (fun _ _ h=>h)) ?_;clear hK K qn Qt;intro qn
   try simp only[aj,ak,ar,au]
   refine pw (by kernel_rfl) ?_ _;obtain⟨Qr,hW1,Wl,je⟩:=HT.o.1.one (by decide) Us.o.1 Us.o.2.1 Us.o.d;clear Us qn lL;have jf: ∀b,w.heap.size<=b-> ∀q,¬rp Fs b q:=fun b hb q hq=>by have:=HT.o.q.q.d.1 b q hq;omega
   have Ut:=je.heap H2.o.2.1 HT.o.q.q.1;have kA5:=je.heap H2.o.d.1 HT.o.q.q.2.1
   have uP: ∀i,i<5->(iM (fc l) 0 (ins (k,dO ⟨ra,rb,rc,rd⟩) (fc l 0)) i).length<=900000:=fun i hi=>by
    have h1:=fR HT.o.2.1 HT.o.d.1 i;have h0:=fR HT.o.2.1 HT.o.d.1 0;have h2:=HT.o.q.2.1;have h3:=HT.o.q.1;unfold iM;split
    ·have:=mh (k,dO ⟨ra,rb,rc,rd⟩) (fc l 0);rw[<-oQ]at this;omega
    ·omega
   have HU:=al (Dh wn T o most t _ Qr k (.pointer none) (.pointer (some ⟨R,0,none⟩)) none (some ⟨ra,rb,rc,rd⟩) hW1 HH.o.d.1 (show lG _ _ none from rfl) ⟨_,rfl,Ut⟩ (fun h=>by cases h.2) (fun r hr=>by cases hr) (fun r hr=>by injection hr with hr;subst hr;exact HH.o.t.1) uP);have H5:=al (ab Wl (ab je jf));clear hW1 Wl je Ut kA5 uP jf;go_wp2_with fail;refine HU.o.m ?_;rintro e w9 ⟨rfl,hP⟩;have KU:=hP.from_ H5.o.1 H5.o.2.1;obtain⟨_,_,_,SF⟩:=id KU;have Qu:=SF.heap H2.o.d.1 HT.o.q.q.2.1;obtain⟨⟨z0,z1,z2,z3⟩,y0,y1,y2,y3⟩:=cP Qu;have H9:=al (ab KU Qu);clear hP KU SF Qu HU;go_wp2_with fail;have HO:=al (iH (v0:=.int .i64 0) (v1:=.int .i64 0) (v2:=.int .i64 0) (v3:=.int .i64 0) H9.o.2);generalize (((w9.setCell ⟨A,0,none⟩ (.int .i64 0)).setCell ⟨A,1,none⟩ (.int .i64 0)).setCell ⟨A,2,none⟩ (.int .i64 0)).setCell ⟨A,3,none⟩ (.int .i64 0)=oJ at HO⊢;refine dj (dt rfl _ _ _ _ _ _ _ rfl HO.o.1 underlying109 rfl (by kernel_rfl)) rfl ?_;have hE:FL most l k=0:=by unfold FL;rw[fb (fun h=>by have h1:=HQ.o.2;have h2:=h.2;omega)]
   have hR:FK most l k ⟨ra,rb,rc,rd⟩=cO (k,⟨ra,rb,rc,rd⟩) l:=by unfold FK;rw[fb (fun h=>by have h1:=HQ.o.2;have h2:=h.2;omega)]
   unfold wm;rw[hE,hR,HQ.o.1]
   have Ma:((cO (k,(⟨ra,rb,rc,rd⟩:Rw)) l).length:Int)<=most:=by have h1:=lg (p:=(k,(⟨ra,rb,rc,rd⟩:Rw))) HT.o.2.1;simp only[HQ.o.1,nx,nf,if_false]at h1;have h2:=HT.o.q.2.1;have h3:=HQ.o.2;rw[h1];omega
   have he: ∀i,i<5->(L8 k none (some ⟨ra,rb,rc,rd⟩)).foldl ly (iM (fc l) 0 (ins (k,dO ⟨ra,rb,rc,rd⟩) (fc l 0))) i=fc (cO (k,⟨ra,rb,rc,rd⟩) l) i:=fun i hi=>by have:=EP (k:=k) (r:=⟨ra,rb,rc,rd⟩) HT.o.2.1 HT.o.d.1 HH.o.t.1 i hi;rw[HQ.o.1]at this;exact this
   refine⟨rfl,Di H2.o.1 H9.o.1 HO.o.2 (by have:=H.o.t.1;have:=H.o.q.1;omega) (aM H2.o.d.1) HT.o.q.q.2.1 HT.o.q.q.t HT.o.q.d.1 HT.o.q.t.1 he (fk HT.o.2.1) (HT.o.d.1.ins HH.o.t.1) (FM HT.o.t.1 HH.o.d.1) HT.o.q.1 Ma⟩
 |some old=>
  obtain⟨oa,ob,oc,od⟩:=old;have HQ:=al hq;rw[hq]at hv;obtain⟨⟨B,rfl,qG⟩,-⟩:=hv;have hB:w2.heap[B]?=some (.cells #[.int .i64 oa,.int .i64 ob,.int .i64 oc,.int .i64 od] 109 (0,0))/\A<B:=⟨qG,H2.o.q.2 B rfl⟩;clear hq qG;go_wp2_with fail;go_quiet(fail);rename_i nq;clear c0;go_upto_region 7 with fail;generalize hW0:w2.drewN nq=W0;have hb0:Below w2.heap.size w2 W0:=by rw[<-hW0];exact Only.aH ((oE (fun _=>False) w2).drewN nq) (b8 _) (fun _ _ h=>h)
  clear hW0;have lL:Below w2.heap.size w2 W0.drew:=hb0.drew;have hSt:Only (fun b=> ∃q,Fs 0 b q) w2 W0.drew:=oB lL _;clear hb0;refine pt (S:=(fun W=>Only (fun b=> ∃q,Fs 0 b q) w2 W)) (by kernel_rfl) hSt (fun qn=>?_);generalize hW3:W0.drew=W3 at qn lL⊢;clear hW3 hSt;refine bj [0,2] ?_
  iterate 2 (refine dZ (v:=?_) (fun wS hSw=>?_) qn ?_;rotate_left;(go_simp;try with_reducible rfl);try simp only[aj,ak,ar,au])
  refine bq ?_;refine lA 3 (v:=?_) (fun wS hSw=>?_) qn ?_;rotate_left
  ·obtain⟨⟨u0,u1,u2,u3⟩,-⟩:=cP (hSw.heap H2.o.2.1 (fun⟨q,hq⟩=>HT.o.q.q.1 q ⟨0,by decide,hq⟩));go_simp;try with_reducible rfl
  try simp only[aj,ak,ar,au]
  refine bA 1 (fun K hK=>?_);go_simp;refine(ji _ T (t 0) ((lL.cell (p:=⟨T,1,none⟩) (by have:=HT.o.1.lt;exact this)).x (HT.o.1.ci (i:=0) (by decide)))).m ?_;rintro e wn ⟨rfl,rfl⟩
  try go_simp
  refine hK.o _ _ (qn) ?_;clear hK K qn;intro qn
  try simp only[aj,ak,ar,au]
  refine bA 4 (fun K hK=>?_);go_simp;refine(Bu _ ⟨ra,rb,rc,rd⟩ HH.o.t.1).m ?_;rintro e wn ⟨A2,c2,rfl,hx,dB⟩;have FN:=lL.x (dB.m lL.size);have hcv:=vO (P:=prog) 53 9 5 underlying53 underlying5 underlying9 (Rd.bO (F:=fun _=>True) hx (fun _ _=>trivial));rw[fa]at hcv;have lL:=FN;clear FN hx
  try go_simp
  refine hK.o _ _ (qn.x (oB dB _) (fun _ _ h=>h)) ?_;clear hK K qn dB;intro qn
  try simp only[aj,ak,ar,au]
  refine bA 5 (fun K hK=>?_);go_simp;refine hK.o _ _ (qn) ?_;clear hK K qn hcv;intro qn
  try simp only[aj,ak,ar,au]
  refine bA 6 (fun K hK=>?_);go_simp;refine(qX _ (t 0) o (fc l 0) (Fs 0) (k,dO ⟨ra,rb,rc,rd⟩) ((HT.o.1.tree 0 (by decide)).below lL) (fun b q hq=>da (HT.o.1.Qp 0 (by decide) b q hq) lL.size) HH.o.d.1.1 (by have:=HH.o.d.1;exact dd this.2 (by decide)) (dd (oY _) (by decide)) (by rw[fR HT.o.2.1 HT.o.d.1];have:=HT.o.q.2.1;have:=HT.o.q.1;omega)).m ?_;rintro e wn ⟨rfl,ht,SE⟩;have Us:=al (ab lL (ab ht SE));have Qt:=SE.only;clear lL ht SE
  try go_simp
  refine hK.o _ _ (qn.x Qt (fun _ _ h=>h)) ?_;clear hK K qn Qt;intro qn
  try simp only[aj,ak,ar,au]
  refine pw (by kernel_rfl) ?_ _;obtain⟨Qr,hW1,Wl,je⟩:=HT.o.1.one (by decide) Us.o.1 Us.o.2.1 Us.o.d;clear Us qn lL;have jf: ∀b,w.heap.size<=b-> ∀q,¬rp Fs b q:=fun b hb q hq=>by have:=HT.o.q.q.d.1 b q hq;omega
  have Ut:=je.heap H2.o.2.1 HT.o.q.q.1;have kA5:=je.heap H2.o.d.1 HT.o.q.q.2.1
  have uP: ∀i,i<5->(iM (fc l) 0 (ins (k,dO ⟨ra,rb,rc,rd⟩) (fc l 0)) i).length<=900000:=fun i hi=>by
   have h1:=fR HT.o.2.1 HT.o.d.1 i;have h0:=fR HT.o.2.1 HT.o.d.1 0;have h2:=HT.o.q.2.1;have h3:=HT.o.q.1;unfold iM;split
   ·have:=mh (k,dO ⟨ra,rb,rc,rd⟩) (fc l 0);rw[<-oQ]at this;omega
   ·omega
  have kB5:=je.heap hB.1 (jf _ (by have:=hB.2;have:=H.o.t.1;have:=H.o.q.1;omega));have HU:=al (Dh wn T o most t _ Qr k (.pointer (some ⟨B,0,none⟩)) (.pointer (some ⟨R,0,none⟩)) (some ⟨oa,ob,oc,od⟩) (some ⟨ra,rb,rc,rd⟩) hW1 HH.o.d.1 (show lG _ _ (some ⟨oa,ob,oc,od⟩)from⟨_,rfl,kB5⟩) ⟨_,rfl,Ut⟩ (fun h=>by cases h.2) (fun r hr=>by injection hr with hr;subst hr;exact HT.o.d.1 _ ((aD HT.o.2.1).1 HQ.o)) (fun r hr=>by injection hr with hr;subst hr;exact HH.o.t.1) uP);have H5:=al (ab Wl (ab je jf));clear hW1 Wl je Ut kA5 uP jf kB5;go_wp2_with fail;refine HU.o.m ?_;rintro e w9 ⟨rfl,hP⟩;have KU:=hP.from_ H5.o.1 H5.o.2.1;obtain⟨_,_,_,SF⟩:=id KU;have Qu:=SF.heap H2.o.d.1 HT.o.q.q.2.1;obtain⟨⟨z0,z1,z2,z3⟩,y0,y1,y2,y3⟩:=cP Qu;have kB9:=SF.heap hB.1 (H5.o.d _ (by have:=hB.2;have:=H.o.t.1;have:=H.o.q.1;omega));obtain⟨⟨x0,x1,x2,x3⟩,-⟩:=cP kB9;have hBA: ¬B=A:=by have:=hB.2;omega
  have H9:=al (ab KU Qu);clear hP KU SF Qu HU kB9;go_wp2_with fail;have HO:=al (iH (v0:=.int .i64 oa) (v1:=.int .i64 ob) (v2:=.int .i64 oc) (v3:=.int .i64 od) H9.o.2);generalize (((w9.setCell ⟨A,0,none⟩ (.int .i64 oa)).setCell ⟨A,1,none⟩ (.int .i64 ob)).setCell ⟨A,2,none⟩ (.int .i64 oc)).setCell ⟨A,3,none⟩ (.int .i64 od)=oJ at HO⊢;refine dj (dt rfl _ _ _ _ _ _ _ rfl HO.o.1 underlying109 rfl (by kernel_rfl)) rfl ?_;have hE:FL most l k=0:=by unfold FL;rw[fb (fun h=>by rw[HQ.o]at h;cases h.1)]
  have hR:FK most l k ⟨ra,rb,rc,rd⟩=cO (k,⟨ra,rb,rc,rd⟩) l:=by unfold FK;rw[fb (fun h=>by rw[HQ.o]at h;cases h.1)]
  unfold wm;rw[hE,hR,HQ.o]
  have Ma:((cO (k,(⟨ra,rb,rc,rd⟩:Rw)) l).length:Int)<=most:=by have h1:=lg (p:=(k,(⟨ra,rb,rc,rd⟩:Rw))) HT.o.2.1;simp only[HQ.o,mT,if_true]at h1;have h2:=HT.o.q.2.1;rw[h1];omega
  have he: ∀i,i<5->(L8 k (some ⟨oa,ob,oc,od⟩) (some ⟨ra,rb,rc,rd⟩)).foldl ly (iM (fc l) 0 (ins (k,dO ⟨ra,rb,rc,rd⟩) (fc l 0))) i=fc (cO (k,⟨ra,rb,rc,rd⟩) l) i:=fun i hi=>by have:=EP (k:=k) (r:=⟨ra,rb,rc,rd⟩) HT.o.2.1 HT.o.d.1 HH.o.t.1 i hi;rw[HQ.o]at this;exact this
  refine⟨rfl,Di H2.o.1 H9.o.1 HO.o.2 (by have:=H.o.t.1;have:=H.o.q.1;omega) (aM H2.o.d.1) HT.o.q.q.2.1 HT.o.q.q.t HT.o.q.d.1 HT.o.q.t.1 he (fk HT.o.2.1) (HT.o.d.1.ins HH.o.t.1) (FM HT.o.t.1 HH.o.d.1) HT.o.q.1 Ma⟩
theorem MX(w:World)(T o:Nat)(most:Int)(l:az)(F:Nat->Nat->Prop)(k:List UInt8)(J:bz w T most o l F)(a: ∀i q,F i q->i<w.heap.size)(G:1<=k.length/\k.length<=16):
  Calls prog 69 #[rv T,r7 k] w fun e w'=>(∃v,e=.returned v)/\bz w' T most o (eZ k l) (fun i q=>F i q\/w.heap.size<=i)/\OnlyC F w w':=by
 obtain⟨c,d⟩:=rj w (r8 0 0 0 0);have f:=AF J a G;clear J a G;go_enter func69,ntmps69;go_upto_region 1 with fail;generalize w.alloc (r8 0 0 0 0)=a at c d⊢;obtain⟨A,h⟩:=rk (w.heap.size);rw[h]at d⊢;have b:=al (mY a T o most l F k (f.o.1.below c) f.o.d);have s:=AF h c d;unfold mz at b;obtain⟨⟨p,m,j,n⟩,g⟩: ∃r,(aA k l).getD .zero=r:=⟨_,rfl⟩;obtain⟨E,a⟩: ∃E:Int,(if(aA k l).isSome=true then 0 else 14)=E:=⟨_,rfl⟩;rw[g,a]at b;unfold Rw.val at b;have I:=AD g a;clear h c d g a;go_wp2_with fail;refine b.o.m ?_;rintro e y ⟨rfl,c⟩;obtain⟨B,d⟩:=rj y (r8 p m j n);have z:=c.x (B.m c.size);have h:=qt z s.o.d;have x:=s.o.2.1.x (z.m s.o.2.1.size);have u:A<y.heap.size:=da (aM s.o.d) c.size;go_upto_region 2 with fail;generalize y.alloc (r8 p m j n)=C at B d h x⊢;obtain⟨R,D⟩:=rk (y.heap.size);rw[D]at d u⊢;clear B z c D b;obtain⟨⟨z0,Z,z2,Y⟩,N,X,V,M⟩:=cP h;have c:=AI x h d u;clear h d x u
 cases b:aA k l with
 |none=>
  have u:=al b;have a:E=14:=by have:=I.o.2;rw[b]at this;simpa using this.symm
  subst a;clear b;go_wp2_with fail;have h:=al (iH (v0:=rm 0) (v1:=rm 0) (v2:=rm 0) (v3:=rm 0) c.o.2.1);generalize ((((C.setCell ⟨A,0,none⟩ (rm 0)).setCell ⟨A,1,none⟩ (rm 0)).setCell ⟨A,2,none⟩ (rm 0)).setCell ⟨A,3,none⟩ (rm 0))=W at h⊢;have d:Below w.heap.size w W:=c.o.1.x (h.o.2.aH c.o.1.size (fun k G J=>by have:=s.o.1;omega));refine dj (ax rfl _ _ _ _ _ _ _ rfl h.o.1 underlying109 rfl (by kernel_rfl)) rfl ⟨⟨_,rfl⟩,?_,oS d F⟩;rw[ic u.o];exact(f.o.1.below d).m (fun i q J=>.inl J)
 |some r=>
  obtain rfl:r=⟨p,m,j,n⟩:=by have:=I.o.1;rw[b]at this;exact this
  have a:E=0:=by have:=I.o.2;rw[b]at this;simpa using this.symm
  subst a;have u:=al b;clear b;obtain⟨t,Fs,x,D,H,Q,U,P,z,O⟩:=f.o.1.below c.o.1;have B: ∀i q,rp Fs i q->i<w.heap.size:=fun i q b=>f.o.2.1 i q (z i q b);have d: ∀i,w.heap.size<=i-> ∀q,¬rp Fs i q:=fun i a q b=>by have:=B i q b;omega
  have S:=ji C T (t 0) (x.ci (i:=0) (by decide));have K:=al S;have L:=al (x9 C (t 0) o (fc l 0) (Fs 0) k (x.tree 0 (by decide)) (fun i q b=>x.Qp 0 (by decide) i q b) f.o.d.1 (by have:=f.o.d;omega) (by rw[fR D H];omega));have a:=BT x D H Q U P z O B d;clear x D H Q U P z O B d S z0 Z z2 Y N X V M;go_wp2_with fail;refine K.o.m ?_;rintro e w4 ⟨rfl,rfl⟩;unfold lK;go_wp2_with fail;refine L.o.m ?_;rintro e w5 ⟨i,Q,U⟩;obtain⟨v5,rfl⟩: ∃v,e=.returned v:=⟨_,i⟩;clear i;obtain⟨Qr,B,S,x⟩:=a.o.1.one (i:=0) (by decide) (bd _ _) Q U;have d:=a.o.q.q.2;have v:w.heap.size<=A:=by have:=s.o.1;omega
  have z:=x.heap c.o.d.1 (d _ (by have:=c.o.t;omega));have C:=x.heap c.o.2.1 (d _ v)
  have H: ∀i,i<5->(iM (fc l) 0 (del k (fc l 0)) i).length<=900000:=fun i P=>by
   have h1:=fR a.o.2.1 a.o.d.1 i;have D:=a.o.q.2.1;have O:=a.o.q.1;unfold iM;split
   ·have:=oZ k (fc l 0);rw[<-del_eq,fR a.o.2.1 a.o.d.1]at this;omega
   ·omega
  have D:=al (Dh w5 T o most t _ Qr k (rv R) (.pointer none) (some ⟨p,m,j,n⟩) none B f.o.d (show lG _ _ (some ⟨p,m,j,n⟩)from⟨_,rfl,z⟩) rfl (fun J=>by cases J.1) (fun r g=>by injection g with g;subst g;exact a.o.d.1 _ ((aD a.o.2.1).1 u.o)) (fun r g=>by cases g) H);have O:=AI S x C z;clear Q U B S x z C H d K L;go_wp2_with fail;refine D.o.m ?_;rintro e K ⟨rfl,H⟩;have z:=H.from_ O.o.1 O.o.2.1;obtain⟨_,_,_,x⟩:=id z;have d:=a.o.q.q.2;have r:=x.heap c.o.2.1 (d _ v);have B:=x.heap c.o.d.1 (d _ (by have:=c.o.t;omega));obtain⟨⟨z0,Z,z2,Y⟩,N,X,V,M⟩:=cP r;obtain⟨⟨L,U,S,Q⟩,-⟩:=cP B;have C:=AD z r;clear H z x r B d D;go_wp2_with fail;have h:=al (iH (v0:=rm p) (v1:=rm m) (v2:=rm j) (v3:=rm n) C.o.2);generalize ((((K.setCell ⟨A,0,none⟩ (rm p)).setCell ⟨A,1,none⟩ (rm m)).setCell ⟨A,2,none⟩ (rm j)).setCell ⟨A,3,none⟩ (rm n))=W at h⊢;refine dj (ax rfl _ _ _ _ _ _ _ rfl h.o.1 underlying109 rfl (by kernel_rfl)) rfl ⟨⟨_,rfl⟩,?_⟩;have d:=rL u.o;exact Di c.o.1 C.o.1 h.o.2 v (aM c.o.2.1) (a.o.q.q.2 A v) (f.o.2.1 T 0 (a.o.q.t.1 0)) a.o.q.d.1 a.o.q.t.1 (fun i P=>Pb a.o.2.1 a.o.d.1 u.o i P) (gi a.o.2.1) a.o.d.1.del (fun q b=>a.o.t.1 q (mL b)) a.o.q.1 (by have:=a.o.q.2.1;omega)
def Agr(S:Nat->Prop)(w W:World):Prop:= ∀k o,S k->w.heap[k]?=some o->W.heap[k]?=some o
section
variable{w W:World}{F:Nat->Nat->Prop}{S:Nat->Prop}
theorem aG.agree{k:Nat}{t:TypeId}{v:Value}{xs:List (List Value)}(u:aG k t w v xs F)(q:0<k)(m:Agr S w W)(n: ∀f o,F f o->S f):aG k t W v xs F:=by
 obtain⟨A,i,b,c,d,e,a|⟨f,o,p,a,l,r,g,j⟩⟩:=u
 ·exact⟨A,i,b,c,d,e,.inl a⟩
 ·by_cases h:i=0
  ·exact⟨A,i,b,c,d,e,.inl ⟨h,.inr ⟨f,o,a⟩⟩⟩
  ·have s:0<i*k:=Nat.mul_pos (Nat.pos_of_ne_zero h) q;exact⟨A,i,b,c,d,e,.inr ⟨f,o,p,a,m f _ (n f o (g o (b8 _) (by omega))) l,r,g,j⟩⟩
theorem fg.agree{e sub':Nat->ND->(Nat->Nat->Prop)->Prop}{a:Nat}{x:ND}(y:fg w e a x F)(d:Agr S w W)(t: ∀c o,F c o->S c)(m: ∀p k K,(∀c o,K c o->S c)->e p k K->sub' p k K):fg W sub' a x F:=by obtain⟨q,u,l,H,n,f,s,v,j,r,g⟩:=y;have b: ∀i c o,H i c o->S c:=fun i c o h=>t c o (g.1 i c o h);exact⟨q,u,l,H,d a _ (b 0 a 0 (f 0)) n,f,s.agree (by decide) d (b 1),v.agree (by decide) d (b 2),j,fun i p k h c=>m p k _ (b _) (r i p k h c),g⟩
theorem aB.agree(b:Agr S w W): ∀{d:Nat} {a:Nat} {x:ND} {F:Nat->Nat->Prop},aB w d a x F->(∀c o,F c o->S c)->aB W d a x F
 |0,_,_,_,h,hd=>⟨h.1,fg.agree h.2 b hd (fun _ _ _ _ h=>h)⟩
 |_+1,_,_,_,h,hd=>fg.agree h b hd (fun _p _k _K e c=>aB.agree b c e)
theorem Only.agr{S T:Nat->Prop}{w W:World}(h:Only S w W)(b: ∀k,T k-> ¬S k):Agr T w W:=fun k _ a c=>h.heap c (b k a)
end
def fL:Nat->ND->Nat->List Pr
 |0,x,i=>x.ps.take i
 |d+1,x,i=>pre ((x.ks.take i).map (aZ d)) (x.ps.take i)
def ua:Nat->ND->Nat->List Pr
 |0,_,_=>[]
 |d+1,x,i=>match x.ks[i]? with
  |some k=>aZ d k
  |none=>[]
theorem KY{α:Type}{l:List α}{k:Nat}{x:α}(h:l[k]?=some x):l.take (k+1)=l.take k++[x]:=by rw[gO,h];rfl
theorem MZ{d a:Nat}{x k:ND}(c:d=a+1){i:Nat}(b:x.ks[i]?=some k):ua d x i=aZ a k:=by subst c;simp only[ua,b]
theorem Jb(d:Nat)(x:ND):fL d x 0=[]:=by
 cases d with
 |zero=>rfl
 |succ d=>simp[fL,pre]
theorem yD{d:Nat}{x:ND}(a:d=0\/x.ks.length=x.ps.length+1){i:Nat}{p:Pr}(b:x.ps[i]?=some p):fL d x (i+1)=fL d x i++ua d x i++[p]:=by
 have e:=(aw.1 b).1
 cases d with
 |zero=>simp only[fL,ua,KY b,fs]
 |succ d=>
  rcases a with a|a
  ·omega
  obtain⟨k,c⟩: ∃k,x.ks[i]?=some k:=⟨_,ao (by omega)⟩;simp only[fL,ua,KY b,KY c,gR,c];exact D5 _ _ _ _ (by rw[fa,im,im];omega)
theorem yE{d:Nat}{x:ND}(a:d=0\/x.ks.length=x.ps.length+1):fL d x x.ps.length++ua d x x.ps.length=aZ d x:=by
 cases d with
 |zero=>simp[fL,ua,aZ]
 |succ d=>
  rcases a with a|a
  ·omega
  obtain⟨k,b⟩: ∃k,x.ks[x.ps.length]?=some k:=⟨_,ao (by omega)⟩;simp only[fL,ua,b,fm (Nat.le_refl x.ps.length)];have e:=sY (a:=(x.ks.take x.ps.length).map (aZ d)) (x:=x.ps) (by rw[fa,im];omega) (aZ d k);rw[<-e];show flat _ _=flat (x.ks.map (aZ d)) x.ps;have c:=KY b;rw[<-a,fm (Nat.le_refl _)]at c
  conv=>rhs;rw[c]
  rw[gR];rfl
theorem mZ{d:Nat}{x:ND}(hk:d=0\/x.ks.length=x.ps.length+1): ∀(m i:Nat),i+m=x.ps.length->fL d x i++ua d x i<+:aZ d x
 |0,i,h=>by rw[mS]at h;rw[h,yE hk];exact List.prefix_refl _
 |m+1,i,h=>by obtain⟨p,hp⟩: ∃p,x.ps[i]?=some p:=⟨_,ao (by omega)⟩;have h1:=mZ hk m (i+1) (by omega);rw[yD hk hp]at h1;exact(List.prefix_append _ _).trans ((List.prefix_append _ _).trans h1)
end Go.Proofs.YtehccbdajiiaaaaGreatDoor
