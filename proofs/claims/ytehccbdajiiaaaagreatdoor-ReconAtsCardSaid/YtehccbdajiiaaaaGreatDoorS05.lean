import Derived.Test.YtehccbdajiiaaaaGreatDoorS01
import Derived.Test.YtehccbdajiiaaaaGreatDoorS04
import Derived.Sort.Walk0
import Derived.Deep.CutRange
namespace Go.Proofs.YtehccbdajiiaaaaGreatDoor
open Go.Proofs.Tryz
set_option maxRecDepth 100000
set_option maxHeartbeats 16000000
open Go.RowKit
def BA(l:List UInt8):Value:=r7 l
def ay(p:Pr):List Value:=[r7 p.1,r7 p.2]
def aP(a:Nat):List Value:=[rv a]
def uq(H:Nat->Nat->Nat->Prop)(F:Nat->Nat->Prop):Prop:=(∀i b o,H i b o->F b o)/\ ∀i j b o,H i b o->H j b o->i=j
def fg(w:World)(e:Nat->ND->(Nat->Nat->Prop)->Prop)(a:Nat)(x:ND)(F:Nat->Nat->Prop):Prop:=
 ∃(d c:Value) (b:List Nat) (H:Nat->Nat->Nat->Prop),w.heap[a]?=some (te d c)/\(∀o,H 0 a o)/\aG 2 220 w d (x.ps.map ay) (H 1)/\aG 1 169 w c (b.map aP) (H 2)/\
  b.length=x.ks.length/\(∀i p k,b[i]?=some p->x.ks[i]?=some k->e p k (H (i+3)))/\uq H F
def aB(w:World):Nat->Nat->ND->(Nat->Nat->Prop)->Prop
 |0,a,x,F=>x.ks=[]/\fg w (fun _ _ _=>True) a x F
 |d+1,a,x,F=>fg w (aB w d) a x F
section
variable{w w':World}{F G:Nat->Nat->Prop}{a:Nat}{x:ND}
theorem uq.mono{H:Nat->Nat->Nat->Prop}(h:uq H F)(a: ∀b o,F b o->G b o):uq H G:=⟨fun i b o c=>a b o (h.1 i b o c),h.2⟩
abbrev uq.m:=@uq.mono
theorem fg.mono{b:Nat->ND->(Nat->Nat->Prop)->Prop}(m:fg w b a x F)(c: ∀d o,F d o->G d o):fg w b a x G:=by obtain⟨l,k,g,H,i,d,h,e,f,b,j⟩:=m;exact⟨l,k,g,H,i,d,h,e,f,b,j.m c⟩
abbrev fg.m:=@fg.mono
theorem aB.mono{d:Nat}(h:aB w d a x F)(b: ∀c o,F c o->G c o):aB w d a x G:=by
 cases d with
 |zero=>exact⟨h.1,h.2.m b⟩
 |succ d=>exact fg.m h b
abbrev aB.m:=@aB.mono
theorem aB.base{d:Nat}(l:aB w d a x F):fg w (fun _ _ _=>True) a x F:=by
 cases d with
 |zero=>exact l.2
 |succ d=>obtain⟨k,j,f,H,h,b,g,c,e,m,i⟩:=l;exact⟨k,j,f,H,h,b,g,c,e,fun _ _ _ _ _=>trivial,i⟩
theorem fg.only{b sub':Nat->ND->(Nat->Nat->Prop)->Prop}(i:fg w b a x F)(d:OnlyC G w w')(r: ∀c o,F c o-> ¬G c o)(l: ∀p k K,(∀c o,K c o-> ¬G c o)->b p k K->sub' p k K):fg w' sub' a x F:=by obtain⟨n,u,s,H,m,e,t,g,h,q,f⟩:=i;have b: ∀i c o,H i c o-> ¬G c o:=fun i c o j=>r c o (f.1 i c o j);exact⟨n,u,s,H,d.heap m (fun j=>b 0 a j (e j)),e,t.only d (b 1),g.only d (b 2),h,fun i p k d c=>l p k _ (b _) (q i p k d c),f⟩
theorem aB.only(b:OnlyC G w w'): ∀{d:Nat} {a:Nat} {x:ND} {F:Nat->Nat->Prop},aB w d a x F->(∀c o,F c o-> ¬G c o)->aB w' d a x F
 |0,_,_,_,h,hd=>⟨h.1,h.2.only b hd (fun _ _ _ _ h=>h)⟩
 |_+1,_,_,_,h,hd=>fg.only h b hd (fun _p _k _K c d=>aB.only b d c)
theorem aB.below{d:Nat}(h:aB w d a x F)(b:Below w.heap.size w w'):aB w' d a x F:=h.only (ri b) (fun _ _ _ h=>h)
theorem aB.bound: ∀{d:Nat} {a:Nat} {x:ND} {F:Nat->Nat->Prop},aB w d a x F->aB w d a x (fun d o=>F d o/\d<w.heap.size)
 |0,_,_,_F,⟨h0,vp,vk,aC,H,h1,h2,h3,h4,h5,_h6,h7⟩=>
  ⟨h0,vp,vk,aC,fun i d o=>H i d o/\d<w.heap.size,h1,fun o=>⟨h2 o,oT h1⟩,h3.bound,h4.bound,h5,fun _ _ _ _ _=>trivial,fun i d o ⟨c,b⟩=>⟨h7.1 i d o c,b⟩,fun i j d o c b=>h7.2 i j d o c.1 b.1⟩
 |_+1,_,_,_F,⟨vp,vk,aC,H,h1,h2,h3,h4,h5,h6,h7⟩=>
  ⟨vp,vk,aC,fun i d o=>H i d o/\d<w.heap.size,h1,fun o=>⟨h2 o,oT h1⟩,h3.bound,h4.bound,h5,fun i p k f e=>(h6 i p k f e).bound,fun i d o ⟨c,b⟩=>⟨h7.1 i d o c,b⟩,fun i j d o c b=>h7.2 i j d o c.1 b.1⟩
end
theorem aG.pair{w:World}{v:Value}{ps:List Pr}{F:Nat->Nat->Prop}(m:aG 2 220 w v (ps.map ay) F){i:Nat}{p:Pr}(e:ps[i]?=some p):
  ∃b o g,v=.slice (some ⟨b,o,none⟩) ps.length g/\ps.length<=g/\g<=maxLen/\w.cell? ⟨b,o+i*2,none⟩=some (r7 p.1)/\w.cell? ⟨b,o+i*2+1,none⟩=some (r7 p.2)/\w.frozen? ⟨b,o+i*2,none⟩=false/\w.frozen? ⟨b,o+i*2+1,none⟩=false:=by
 have a:=(aw.1 e).1;obtain⟨b,o,g,j,rfl,h,k,d,a,f,l,c⟩:=m.lies (by simp;omega);have f:(ps.map ay)[i]?=some (ay p):=by simp[e]
 have j:=xe d i _ f 0 _ rfl;have e:=xe d i _ f 1 _ rfl;refine⟨b,o,g,by simp,by simpa using h,k,pb a (c _ _ j),?_,frozen_of_heap a _,frozen_of_heap a _⟩;have:=pb a (c _ _ e);rwa[show o+(i*2+1)=o+i*2+1 by omega]at this
theorem aG.ptr{w:World}{v:Value}{ps:List Nat}{F:Nat->Nat->Prop}(m:aG 1 169 w v (ps.map aP) F){i p:Nat}(a:ps[i]?=some p):
  ∃j o c,v=.slice (some ⟨j,o,none⟩) ps.length c/\ps.length<=c/\c<=maxLen/\w.cell? ⟨j,o+i,none⟩=some (rv p):=by
 have b:=(aw.1 a).1;obtain⟨j,o,c,l,rfl,b,f,e,h,g,k,d⟩:=m.lies (by simp;omega);have g:(ps.map aP)[i]?=some (aP p):=by simp[a]
 have a:=xe e i _ g 0 _ rfl;refine⟨j,o,c,by simp,by simpa using b,f,?_⟩;have:=pb h (d _ _ a);rwa[show o+(i*1+0)=o+i by omega]at this
theorem aG.slice{k:Nat}{t:TypeId}{w:World}{v:Value}{xs:List (List Value)}{F:Nat->Nat->Prop}(h:aG k t w v xs F): ∃A c,v=.slice A xs.length c/\xs.length<=c/\c<=maxLen:=by obtain⟨A,c,d,b,a,_⟩:=h;exact⟨A,c,d,b,a⟩
theorem OH(w:World)(F:Nat->Nat->Prop)(a:Nat)(x:ND)(j:fg w (fun _ _ _=>True) a x F)(e:x.ks=[]):Calls prog 173 #[rv a] w fun b w'=>b=.returned (.bool true)/\w=w':=by
 obtain⟨i,f,g,H,d,_,_,b,c,_⟩:=j;obtain⟨A,k,rfl,_⟩:=b.slice;have h:w.cell? ⟨a,1,none⟩=some (.slice A 0 k):=by simp[World.cell?,d,c,e]
 clear d b c;go_enter func173,ntmps173;go_wp2;go_ret
 exact⟨rfl,rfl⟩
theorem S4(w:World)(F:Nat->Nat->Prop)(a:Nat)(x:ND)(o:fg w (fun _ _ _=>True) a x F)(h:x.ks≠[]):Calls prog 173 #[rv a] w fun e w'=>e=.returned (.bool false)/\w=w':=by
 obtain⟨j,m,f,H,e,_,_,d,c,_⟩:=o;obtain⟨A,p,rfl,_⟩:=d.slice;have g:0<f.length:=by rw[c];exact List.length_pos_iff.2 h
 obtain⟨n,b⟩:=rk (f.length);rw[b]at g;have l:w.cell? ⟨a,1,none⟩=some (.slice A n p):=by simp[World.cell?,e,b]
 have k:(((n:Int))==0)=false:=by rw[beq_eq_false_iff_ne];omega
 have i: ¬n=0:=by omega
 clear e d c b;go_enter func173,ntmps173;go_wp2;go_ret
 exact⟨rfl,rfl⟩
def geq(key:List UInt8)(ps:List Pr)(i:Nat):Bool:=match ps[i]? with
 |some p=>!decide (p.1<key)
 |none=>true
theorem Xe{key:List UInt8}{ps:List Pr}{i:Nat}(hi:i<posOf key ps):geq key ps i=false:=by unfold geq;have a:=eT key ps;have a:ps[i]?=some (ps[i]'(by omega)):=ao _;rw[a];have:=fh key ps (ps[i]'(by omega)) (List.mem_take_iff_getElem.2 ⟨i,by omega,rfl⟩);simp[this]
theorem Xf{key:List UInt8}{ps:List Pr}(hu:Up ps){i:Nat}(hi:posOf key ps<=i):geq key ps i=true:=by
 unfold geq;split
 ·rename_i p hp;have hlt:=(aw.1 hp).1;have h0:ps[posOf key ps]?=some (ps[posOf key ps]'(by omega)):=ao _;have hd:=nz key ps _ h0;by_cases e:posOf key ps=i
  ·have:ps[posOf key ps]'(by omega)=p:=by
    have:=hp;rw[<-e,h0]at this;injection this
   rw[this]at hd;simp[hd]
  ·have:=(List.pairwise_iff_getElem.1 hu) (posOf key ps) i (by omega) hlt (by omega);have hp':ps[i]'hlt=p:=(aw.1 hp).2;rw[hp']at this;have: ¬p.1<key:=fun h=>hd (fC this h);simp[this]
 ·rfl
def S5(w:World)(f:Value)(key:List UInt8)(ps:List Pr):Prop:=
 ∃(B C:Nat),f=.func (.func 242) #[] #[rv B,rv C]/\
  ∀(i:Nat) (n:Nat),i<ps.length->Calls prog 242 #[rm i,rv B,rv C] (w.drewN n) fun e w'=>e=.returned (.bool (geq key ps i))/\ ∃m,w'=w.drewN m
theorem half(i j:Nat)(h:i<j):i<=(i+j)/2/\(i+j)/2<j:=by omega
theorem LO(w:World)(o:Value)(key:List UInt8)(ps:List Pr)(d:Up ps)(p:ps.length<=1000)(b:S5 w o key ps):
  Calls prog 241 #[rm ps.length,o] w fun l w'=>l=.returned (rm (posOf key ps))/\ ∃n,w'=w.drewN n:=by
 obtain⟨B,C,rfl,b⟩:=b;have c:=AF b d (eT key ps);clear b d;go_enter func241,ntmps241;go_wp2_with fail
 go_loopw [5,6] (fun i j b=> ∃a f n:Nat,i=rm (a:Int)/\j=rm (f:Int)/\b=w.drewN n/\a<=posOf key ps/\posOf key ps<=f/\f<=ps.length) (fun i j _=>(intOf j).toNat-(intOf i).toNat)
 case atStart=>exact⟨0,ps.length,0,rfl,rfl,rfl,dq _,c.o.d,b8 _⟩
 case round=>
  obtain⟨a,f,n,rfl,rfl,rfl,d,b,k⟩:=hrel;have e:=AD d b;clear d b;by_cases g:a<f
  ·have h:=half a f g;obtain⟨m,b⟩:=rl ((a+f)/2);have j:=al b;rw[<-b]at h;clear b;have b:((a:Int)+(f:Int))/2=(m:Int):=by have:=j.o;omega
   have i:=al b;clear b;go_wp2_with fail;rw[i.o];by_cases d:m<posOf key ps
   ·have b:=c.o.1 m n (by omega);rw[Xe d]at b;refine b.m ?_;rintro l w2 ⟨rfl,q,rfl⟩;clear b;go_wp2_with fail;go_roundw
    case rel=>exact⟨m+1,f,q,by go_num,rfl,rfl,d,e.o.2,k⟩
    case measure=>simp[intOf];omega
   ·have b:=c.o.1 m n (by omega);rw[Xf c.o.2.1 (Nat.le_of_not_lt d)]at b;refine b.m ?_;rintro l w2 ⟨rfl,q,rfl⟩;clear b;go_wp2_with fail;go_roundw
    case rel=>exact⟨a,m,q,rfl,rfl,rfl,e.o.1,Nat.le_of_not_lt d,by omega⟩
    case measure=>simp[intOf];omega
  ·go_wp2_with fail;go_ret
   have:=e.o;obtain rfl:a=posOf key ps:=by omega
   exact⟨rfl,_,rfl⟩
theorem OI(w:World)(F:Nat->Nat->Prop)(a B C:Nat)(x:ND)(key:List UInt8)(i:Nat)(u:fg w (fun _ _ _=>True) a x F)(j:w.cell? ⟨B,0,none⟩=some (rv a))(l:w.cell? ⟨C,0,none⟩=some (r7 key))(hi:i<x.ps.length):
  Calls prog 242 #[rm i,rv B,rv C] w fun e w'=>e=.returned (.bool (geq key x.ps i))/\ ∃m,w'=w.drewN m:=by
 obtain⟨h,s,n,H,c,_,d,_⟩:=u;obtain⟨p,b⟩: ∃p,x.ps[i]?=some p:=⟨_,ao hi⟩;obtain⟨t,o,v,rfl,r,f,g,_⟩:=d.pair b;have m:w.cell? ⟨a,0,none⟩=some (.slice (some ⟨t,o,none⟩) x.ps.length v):=by simp[World.cell?,c]
 have e:=al (show geq key x.ps i=!decide (p.1<key) by unfold geq;rw[b]);have k:(0:Int)<=(i:Int):=by omega
 have q:(i:Int)<(x.ps.length:Int):=by omega
 clear c d b;go_enter func242,ntmps242;go_wp2;go_quiet(fail);go_wp2;go_ret
 exact⟨by rw[e.o,<-bytesLess_eq];rfl,_,rfl⟩
theorem aH{B:Nat}{w w':World}(h:Below B w w')(n:Nat):Below B w (w'.drewN n):=⟨h.os,h.tape,h.output,h.size,h.block⟩
theorem AY(w:World)(b a:Obj):Below w.heap.size w ((w.alloc b).alloc a):=((bd _ _).alloc (b8 _) _).alloc (by simp) _
theorem find_ok(w:World)(F:Nat->Nat->Prop)(a:Nat)(x:ND)(key:List UInt8)(q:fg w (fun _ _ _=>True) a x F)(d:Up x.ps)(l:x.ps.length<=1000):
  Calls prog 213 #[rv a,r7 key] w fun s w'=>s=.returned (.tuple #[rm (posOf key x.ps),.bool (hit key x.ps)])/\Below w.heap.size w w':=by
 have b:=AY w (so a) (tx key.toArray);have i:=Lib.cell?_alloc_some (tx key.toArray) (aL (an w (so a)));have c:=aL (an (w.alloc (so a)) (tx key.toArray));rw[show(w.alloc (so a)).heap.size=w.heap.size+1 by simp]at c;go_enter func213,ntmps213;go_upto_region 1 with fail;generalize (w.alloc (so a)).alloc (tx key.toArray)=w2 at i c b⊢;have g:=q.only (sub':=fun _ _ _=>True) (ri b) (fun _ _ _ q=>q) (fun _ _ _ _ _=>trivial);obtain⟨B,k⟩:=rk (w.heap.size);rw[k]at i c⊢;have j:=al b;have t:=AF g d (eT key x.ps);have f:=al (LO w2 (.func (.func 242) #[] #[rv B,.pointer (some ⟨B+1,0,none⟩)]) key x.ps d l ⟨B,B+1,rfl,fun h r e=>(OI (w2.drewN r) F a B (B+1) x key h g i c e).m (fun s w' ⟨h,m,e⟩=>⟨h,r+m,by rw[e,World.drewN_drewN]⟩)⟩);obtain⟨C,G,v,J,h,_,e,_⟩:=g;obtain⟨A,H,rfl,p,m⟩:=e.slice;have u:w2.cell? ⟨a,0,none⟩=some (.slice A x.ps.length H):=by simp[World.cell?,h]
 have n:=al e;clear q d b k h e p m;go_wp2_with fail;refine f.o.m ?_;rintro s z ⟨rfl,r,rfl⟩;clear f;by_cases d:posOf key x.ps<x.ps.length
 ·obtain⟨p,h⟩: ∃p,x.ps[posOf key x.ps]?=some p:=⟨_,ao d⟩;obtain⟨I,o,y,b,_,_,D,_⟩:=n.o.pair h;injection b with b m e;subst b e;have f:=al (show hit key x.ps=decide (p.1=key) by unfold hit;rw[h]);have k:decide (posOf key x.ps<x.ps.length)=true:=by simpa using d
  have E:(0:Int)<=(posOf key x.ps:Int):=by omega
  have q:(posOf key x.ps:Int)<(x.ps.length:Int):=by omega
  generalize b:posOf key x.ps=P at *;have e:=al b;clear h b;go_wp2_with fail;go_quiet(fail);go_wp2_with fail
  go_ret2
  exact⟨by rw[e.o,f.o,<-Bool.beq_eq_decide_eq];rfl,aH (aH j.o _) _⟩
 ·have k:decide (posOf key x.ps<x.ps.length)=false:=by simpa using d
  have f:=al (show hit key x.ps=false by unfold hit;rw[List.getElem?_eq_none (by omega)]);generalize b:posOf key x.ps=P at *;have e:=al b;clear b;go_wp2_with fail;go_quiet(fail);go_wp2_with fail
  go_ret2
  exact⟨by rw[e.o,f.o];rfl,aH (aH j.o _) _⟩
theorem Hd{_k:Nat}{xs:List (List Value)}(i j:Nat)(u:Value)(h:(xs.take i).flatten[j]?=some u):xs.flatten[j]?=some u:=by
 have:xs.flatten=(xs.take i).flatten++(xs.drop i).flatten:=by rw[<-la,List.take_append_drop]
 rw[this,lk (List.getElem?_eq_some_iff.1 h).1];exact h
theorem He{k:Nat}{xs:List (List Value)}(d: ∀x∈xs,x.length=k){i:Nat}(hi:i<=xs.length)(j:Nat)(u:Value)(h:(xs.drop i).flatten[j]?=some u):xs.flatten[i*k+j]?=some u:=by
 have a:xs.flatten=(xs.take i).flatten++(xs.drop i).flatten:=by rw[<-la,List.take_append_drop]
 have b:(xs.take i).flatten.length=i*k:=by rw[bP (fun x c=>d x (List.mem_of_mem_take c)),im,oe hi]
 rw[a,iv (by omega),b,Nat.add_sub_cancel_left];exact h
theorem aG.parts{k:Nat}{t:TypeId}{w:World}{v:Value}{xs:List (List Value)}{F:Nat->Nat->Prop}(p:aG k t w v xs F)(d:0<xs.length): ∃e o c,v=.slice (some ⟨e,o,none⟩) xs.length c/\xs.length<=c/\c<=maxLen/\
  (∀i,i<=xs.length->aG k t w (.slice (some ⟨e,o,none⟩) i i) (xs.take i) (fun a q=>F a q/\a=e/\q<o+i*k))/\
  (∀j,j<=xs.length->aG k t w (.slice (some ⟨e,o+j*k,none⟩) (xs.length-j) (xs.length-j)) (xs.drop j) (fun a q=>F a q/\a=e/\o+j*k<=q)):=by
 obtain⟨e,o,c,h,rfl,b,g,a,l,n,m,f⟩:=p.lies d;have d:xs.length*k<=c*k:=ea k b;refine⟨e,o,c,rfl,b,g,fun i b=>?_,fun j n=>?_⟩
 ·have c:i*k<=xs.length*k:=ea k b;refine⟨_,i,by simp[oe b],by simp;omega,by omega,fun x b=>a x (List.mem_of_mem_take b),.inr ⟨e,o,h,rfl,l,by omega,fun q c g=>⟨m q c (by omega),rfl,g⟩,fun q u d=>f q u (Hd (_k:=k) i q u d)⟩⟩
 ·have i:j*k+(xs.length-j)*k=xs.length*k:=by rw[<-Nat.add_mul];congr 1;omega
  refine⟨_,xs.length-j,by simp,by simp,by omega,fun x b=>a x (List.mem_of_mem_drop b),.inr ⟨e,o+j*k,h,rfl,l,by omega,fun q c g=>⟨m q (by omega) (by omega),rfl,c⟩,fun q u d=>?_⟩⟩;have:=f _ u (He a n q u d);rw[show o+(j*k+q)=o+j*k+q by omega]at this;exact this
def aY(w:World)(e:Nat->ND->(Nat->Nat->Prop)->Prop)(a:Nat)(x:ND)(F:Nat->Nat->Prop)(d c:Value)(b:List Nat)(H:Nat->Nat->Nat->Prop):Prop:=
 w.heap[a]?=some (te d c)/\(∀o,H 0 a o)/\aG 2 220 w d (x.ps.map ay) (H 1)/\aG 1 169 w c (b.map aP) (H 2)/\
  b.length=x.ks.length/\(∀i p k,b[i]?=some p->x.ks[i]?=some k->e p k (H (i+3)))/\uq H F
def bY(w:World):Nat->Nat->ND->(Nat->Nat->Prop)->Prop
 |0=>fun _ _ _=>True
 |d+1=>aB w d
theorem aY.trim{w:World}{b:Nat->ND->(Nat->Nat->Prop)->Prop}{a:Nat}{x:ND}{F:Nat->Nat->Prop}{d g:Value}{f:List Nat}{H:Nat->Nat->Nat->Prop}(m:aY w b a x F d g f H)(h: ∀p k K e,(∀c q,K c q->e c q)->b p k K->b p k e):
  aY w b a x F d g f (fun i c q=>H i c q/\i<x.ks.length+3):=by
 obtain⟨f,b,g,l,e,j,d⟩:=m;refine⟨f,fun q=>⟨b q,by omega⟩,g.m (fun c q b=>⟨b,by omega⟩),l.m (fun c q b=>⟨b,by omega⟩),e,fun i p k f e=>h p k _ _ (fun c q b=>⟨b,?_⟩) (j i p k f e),fun i c q b=>d.1 i c q b.1,fun i j c q f b=>d.2 i j c q f.1 b.1⟩;have:=(aw.1 e).1;omega
theorem aB.open_{w:World}{d a:Nat}{x:ND}{F:Nat->Nat->Prop}(h:aB w d a x F):(d=0->x.ks=[])/\ ∃e c b H,aY w (bY w d) a x F e c b H/\ ∀i j q,H i j q->i<x.ks.length+3:=by
 cases d with
 |zero=>obtain⟨f,e,c,b,H,g⟩:=h;exact⟨fun _=>f,e,c,b,_,aY.trim g (fun _ _ _ _ _ h=>h),fun i j q f=>f.2⟩
 |succ d=>obtain⟨e,c,b,H,g⟩:=h;exact⟨fun k=>absurd k (by omega),e,c,b,_,aY.trim g (fun _ _ _ _ b h=>aB.m h b),fun i j q f=>f.2⟩
theorem aY.close{w:World}{d a:Nat}{x:ND}{F:Nat->Nat->Prop}{c b:Value}{e:List Nat}{H:Nat->Nat->Nat->Prop}(h:aY w (bY w d) a x F c b e H)(b:d=0->x.ks=[]):aB w d a x F:=by
 cases d with
 |zero=>exact⟨b rfl,_,_,_,_,h⟩
 |succ d=>exact⟨_,_,_,_,h⟩
theorem bY.only{w w':World}{G:Nat->Nat->Prop}(a:OnlyC G w w'){d p:Nat}{k:ND}{K:Nat->Nat->Prop}(h:bY w d p k K)(b: ∀c o,K c o-> ¬G c o):bY w' d p k K:=by
 cases d with
 |zero=>trivial
 |succ d=>exact aB.only a h b
theorem bY.mono{w:World}{d p:Nat}{k:ND}{K a:Nat->Nat->Prop}(h:bY w d p k K)(b: ∀c o,K c o->a c o):bY w d p k a:=by
 cases d with
 |zero=>trivial
 |succ d=>exact aB.m h b
abbrev bY.m:=@bY.mono
def S6(H:Nat->Nat->Nat->Prop)(P0 P1 P2:Nat->Nat->Prop)(lo n a:Nat)(M:Nat->Nat->Nat->Prop):Nat->Nat->Nat->Prop
 |0=>P0
 |1=>P1
 |2=>P2
 |j+3=>fun b q=>(j<lo/\H (j+3) b q)\/(lo<=j/\j<lo+n/\M (j-lo) b q)\/(lo+n<=j/\H (j-n+a+3) b q)
def OJ(P0 P1 P2:Nat->Nat->Prop)(M:Nat->Nat->Nat->Prop):Nat->Nat->Nat->Prop
 |0=>P0
 |1=>P1
 |2=>P2
 |m+3=>M m
theorem J7{H M:Nat->Nat->Nat->Prop}{F P0 P1 P2:Nat->Nat->Prop}{lo n a:Nat}(_c: ∀i b o,H i b o->F b o)(d: ∀b q,P0 b q->H 0 b q\/ ¬F b q)(k: ∀b q,P1 b q->H 1 b q\/ ¬F b q)(f: ∀b q,P2 b q->H 2 b q\/ ¬F b q)
  (g: ∀m b q,M m b q->(∃i,lo<=i/\i<lo+a/\H (i+3) b q)\/ ¬F b q) {j b q:Nat} (c:F b q) (h:S6 H P0 P1 P2 lo n a M j b q):
  ∃m,H m b q/\((j<3/\m=j)\/(3<=j/\j<lo+3/\m=j)\/(lo+n+3<=j/\m+n=j+a)\/(∃e,e<n/\j=lo+e+3/\M e b q/\lo+3<=m/\m<lo+a+3)):=by
 match j,h with
 |0,h=>exact⟨0,(d b q h).elim id (fun e=>absurd c e),.inl ⟨by omega,rfl⟩⟩
 |1,h=>exact⟨1,(k b q h).elim id (fun e=>absurd c e),.inl ⟨by omega,rfl⟩⟩
 |2,h=>exact⟨2,(f b q h).elim id (fun e=>absurd c e),.inl ⟨by omega,rfl⟩⟩
 |j+3,h=>
  rcases h with⟨d,a⟩|⟨d,a,f⟩|⟨d,a⟩
  ·exact⟨_,a,.inr (.inl ⟨by omega,by omega,rfl⟩)⟩
  ·rcases g _ b q f with⟨i,g,h,d⟩|e
   ·exact⟨_,d,.inr (.inr (.inr ⟨j-lo,by omega,by omega,f,by omega,by omega⟩))⟩
   ·exact absurd c e
  ·exact⟨_,a,.inr (.inr (.inl ⟨by omega,by omega⟩))⟩
theorem J8{H M:Nat->Nat->Nat->Prop}{F P0 P1 P2:Nat->Nat->Prop}{lo n a:Nat}(c: ∀i b o,H i b o->F b o){j b q:Nat}(d: ¬F b q)(h:S6 H P0 P1 P2 lo n a M j b q):
  ∃m,OJ P0 P1 P2 M m b q/\((j<3/\m=j)\/(3<=m/\m<n+3/\j=lo+m)):=by
 match j,h with
 |0,h=>exact⟨0,h,.inl ⟨by omega,rfl⟩⟩
 |1,h=>exact⟨1,h,.inl ⟨by omega,rfl⟩⟩
 |2,h=>exact⟨2,h,.inl ⟨by omega,rfl⟩⟩
 |j+3,h=>
  rcases h with⟨e,a⟩|⟨e,a,f⟩|⟨e,a⟩
  ·exact absurd (c _ b q a) d
  ·exact⟨j-lo+3,f,.inr ⟨by omega,by omega,by omega⟩⟩
  ·exact absurd (c _ b q a) d
theorem uq.S6{H M:Nat->Nat->Nat->Prop}{F P0 P1 P2:Nat->Nat->Prop}{lo n d:Nat}(p:uq H F)(i: ∀b q,P0 b q->H 0 b q\/ ¬F b q)(l: ∀b q,P1 b q->H 1 b q\/ ¬F b q)(o: ∀b q,P2 b q->H 2 b q\/ ¬F b q)
  (j: ∀m b q,M m b q->(∃c,lo<=c/\c<lo+d/\H (c+3) b q)\/ ¬F b q) (s: ∀m c b q,M m b q->M c b q->m=c) (r: ∀m c b q,¬F b q->OJ P0 P1 P2 M m b q->OJ P0 P1 P2 M c b q->m=c):
  uq (S6 H P0 P1 P2 lo n d M) (fun b q=> ∃e,S6 H P0 P1 P2 lo n d M e b q):=by
 refine⟨fun e b q d=>⟨e,d⟩,fun e d b q a k=>?_⟩;by_cases e:F b q
 ·obtain⟨m,g,f⟩:=J7 p.1 i l o j e a;obtain⟨c,h,d⟩:=J7 p.1 i l o j e k;have i:=p.2 m c b q g h;subst i
  rcases f with f|f|f|⟨w,j,i,l,t,o⟩<;>rcases d with d|d|d|⟨j,t,o,i,v,u⟩<;>first
   |omega
   |(have:=s w j b q l i;omega)
 ·obtain⟨m,g,f⟩:=J8 p.1 e a;obtain⟨c,h,d⟩:=J8 p.1 e k;have:=r m c b q e g h;omega
theorem Ba{α:Type}{l:List α}{a:List α}{lo hi:Nat}(b:lo<=hi)(b:hi<=l.length)(j:Nat):
  (l.take lo++a++l.drop hi)[j]?=if j<lo then l[j]? else if j<lo+a.length then a[j-lo]? else l[j-a.length+(hi-lo)]?:=by
 rw[kh,List.getElem?_append,im,oe (by omega)];by_cases c:j<lo
 ·rw[ff c,ff c,lP,ff c]
 ·rw[fb c,fb c,List.getElem?_append];by_cases b:j<lo+a.length
  ·rw[ff b,ff (by omega)]
  ·rw[fb b,fb (by omega),mw];congr 1;omega
theorem aY.splice{w w':World}{d a a':Nat}{x:ND}{F P0 P1 P2:Nat->Nat->Prop}{c e vp' vk':Value}{b:List Nat}{H M:Nat->Nat->Nat->Prop}{ps':List Pr}(I:aY w (bY w d) a x F c e b H)
  (lo hi:Nat) (h:lo<=hi) (v:hi<=x.ks.length) (f:List (Nat×ND))
  (u:w'.heap[a']?=some (te vp' vk')) (g: ∀q,P0 a' q) (z:aG 2 220 w' vp' (ps'.map ay) P1) (t:aG 1 169 w' vk' ((b.take lo++f.map Prod.fst++b.drop hi).map aP) P2)
  (n: ∀m p k,f[m]?=some (p,k)->bY w' d p k (M m)) (l: ∀i p k,(i<lo\/hi<=i)->b[i]?=some p->x.ks[i]?=some k->bY w' d p k (H (i+3)))
  (j: ∀e q,P0 e q->H 0 e q\/ ¬F e q) (s: ∀e q,P1 e q->H 1 e q\/ ¬F e q) (y: ∀e q,P2 e q->H 2 e q\/ ¬F e q)
  (o: ∀m e q,M m e q->(∃i,lo<=i/\i<hi/\H (i+3) e q)\/ ¬F e q) (A: ∀m c e q,M m e q->M c e q->m=c) (r: ∀m c e q,¬F e q->OJ P0 P1 P2 M m e q->OJ P0 P1 P2 M c e q->m=c):
  aY w' (bY w' d) a' (.mk ps' (x.ks.take lo++f.map Prod.snd++x.ks.drop hi)) (fun e q=> ∃c,S6 H P0 P1 P2 lo f.length (hi-lo) M c e q) vp' vk' (b.take lo++f.map Prod.fst++b.drop hi) (S6 H P0 P1 P2 lo f.length (hi-lo) M):=by
 obtain⟨C,B,D,G,c,E,b⟩:=I;refine⟨u,g,z,t,?_,?_,b.S6 j s y (fun m e q g=>?_) A r⟩
 ·simp[c]
 ·intro i p k b c;simp only[ND.di]at c;rw[Ba h v]at c;rw[Ba h (by omega)]at b;simp only[fa]at b c;by_cases j:i<lo
  ·rw[ff j]at b c;exact(l i p k (.inl j) b c).m (fun e q h=>.inl ⟨j,h⟩)
  ·rw[fb j]at b c;by_cases j:i<lo+f.length
   ·rw[ff j,nh]at b c
    cases g:f[i-lo]? with
    |none=>rw[g]at b;cases b
    |some f=>rw[g]at b c;simp only[Option.map_some,fi]at b c;obtain⟨r,s⟩:=f;simp only at b c;subst b c;exact(n _ _ _ g).m (fun e q h=>.inr (.inl ⟨by omega,j,h⟩))
   ·rw[fb j]at b c;exact(l _ p k (.inr (by omega)) b c).m (fun e q h=>.inr (.inr ⟨by omega,h⟩))
 ·rcases o m e q g with⟨i,b,e,c⟩|f
  ·exact .inl ⟨i,b,by omega,c⟩
  ·exact .inr f
theorem gp{H M:Nat->Nat->Nat->Prop}{P0 P1 P2:Nat->Nat->Prop}{lo n c j b q:Nat}(h:S6 H P0 P1 P2 lo n c M j b q):
  P0 b q\/P1 b q\/P2 b q\/(∃i,(i<lo\/lo+c<=i)/\H (i+3) b q)\/ ∃m,m<n/\M m b q:=by
 match j,h with
 |0,h=>exact .inl h
 |1,h=>exact .inr (.inl h)
 |2,h=>exact .inr (.inr (.inl h))
 |j+3,h=>
  rcases h with⟨d,a⟩|⟨d,a,e⟩|⟨d,a⟩
  ·exact .inr (.inr (.inr (.inl ⟨j,.inl d,a⟩)))
  ·exact .inr (.inr (.inr (.inr ⟨j-lo,by omega,e⟩)))
  ·exact .inr (.inr (.inr (.inl ⟨j-n+c,.inr (by omega),a⟩)))
section
variable{w w':World}{F:Nat->Nat->Prop}{a:Nat}{x:ND}{S:Nat->Prop}
theorem fg.dC{b sub':Nat->ND->(Nat->Nat->Prop)->Prop}(i:fg w b a x F)(d:Only S w w')(r: ∀c o,F c o-> ¬S c)(l: ∀p k K,(∀c o,K c o-> ¬S c)->b p k K->sub' p k K):fg w' sub' a x F:=by obtain⟨n,u,s,H,m,e,t,g,h,q,f⟩:=i;have b: ∀i c o,H i c o-> ¬S c:=fun i c o j=>r c o (f.1 i c o j);exact⟨n,u,s,H,d.heap m (b 0 a 0 (e 0)),e,t.dC (by decide) d (b 1),g.dC (by decide) d (b 2),h,fun i p k d c=>l p k _ (b _) (q i p k d c),f⟩
theorem aB.dC(b:Only S w w'): ∀{d:Nat} {a:Nat} {x:ND} {F:Nat->Nat->Prop},aB w d a x F->(∀c o,F c o-> ¬S c)->aB w' d a x F
 |0,_,_,_,h,hd=>⟨h.1,fg.dC h.2 b hd (fun _ _ _ _ h=>h)⟩
 |_+1,_,_,_,h,hd=>fg.dC h b hd (fun _p _k _K c d=>aB.dC b d c)
end
def bM(w:World)(T o:Nat)(l:List Pr)(F:Nat->Nat->Prop):Prop:=
 ∃(d r:Nat) (x:ND) (K:Nat->Nat->Prop),w.heap[T]?=some (sv o l.length r)/\aB w d r x K/\
  fD d o (if d=0 then 0 else 1) (2*o-1) x/\aZ d x=l/\Up l/\(2<=o/\o<=16)/\(∀b q,K b q->F b q)/\(∀q,F T q)/\ ∀q,¬K T q
section
variable{w w':World}{T o:Nat}{l:List Pr}{F G:Nat->Nat->Prop}{S:Nat->Prop}
theorem bM.dC(p:bM w T o l F)(c:Only S w w')(b: ∀e q,F e q-> ¬S e):bM w' T o l F:=by obtain⟨n,r,x,K,j,f,m,g,h,k,d,a,i⟩:=p;exact⟨n,r,x,K,c.heap j (b T 0 (a 0)),f.dC c (fun e q c=>b e q (d e q c)),m,g,h,k,d,a,i⟩
theorem bM.below(h:bM w T o l F)(a:Below w.heap.size w w'):bM w' T o l F:=h.dC (qS a) (fun _ _ _ h=>h)
theorem bM.only(p:bM w T o l F)(c:OnlyC G w w')(b: ∀e q,F e q-> ¬G e q):bM w' T o l F:=by obtain⟨n,r,x,K,j,f,m,g,h,k,d,a,i⟩:=p;exact⟨n,r,x,K,c.heap j (fun q=>b T q (a q)),f.only c (fun e q c=>b e q (d e q c)),m,g,h,k,d,a,i⟩
theorem bM.bound(m:bM w T o l F):bM w T o l (fun j q=>F j q/\j<w.heap.size):=by obtain⟨k,r,x,K,b,a,h,c,d,g,i,e,f⟩:=m;exact⟨k,r,x,_,b,a.bound,h,c,d,g,fun j q a=>⟨i j q a.1,a.2⟩,fun q=>⟨e q,oT b⟩,fun q a=>f q a.1⟩
end
theorem Ew: ∀(ks:List (List Pr)) (ps:List Pr),ks.length=ps.length+1->ps.Sublist (flat ks ps)
 |k::ks,[],_=>List.nil_sublist _
 |k::ks,p::ps,h=>by have ih:=Ew ks ps (by simpa using h);simp only[flat];exact(ih.cons_cons p).trans (List.sublist_append_right _ _)
 |[],ps,h=>by simp at h
theorem Xh{d o lo hi:Nat}{x:ND}(h:fD d o lo hi x):x.ps.Sublist (aZ d x):=by
 cases d with
 |zero=>exact List.Sublist.refl _
 |succ d=>exact Ew _ _ (by rw[fa];exact h.2.2.1)
theorem xm{d o lo hi:Nat}{x:ND}(h:fD d o lo hi x)(a:Up (aZ d x)):Up x.ps:=List.Pairwise.sublist (Xh h) a
theorem fD.kids{d o lo hi:Nat}{x:ND}(h:fD (d+1) o lo hi x):x.ks.length=x.ps.length+1:=h.2.2.1
theorem fD.none{o lo hi:Nat}{x:ND}(h:fD 0 o lo hi x):x.ks=[]:=h.2.2
theorem aY.own{w:World}{b:Nat->ND->(Nat->Nat->Prop)->Prop}{a:Nat}{x:ND}{F:Nat->Nat->Prop}{c e:Value}{d:List Nat}{H:Nat->Nat->Nat->Prop}(h:aY w b a x F c e d H):
  (∀i b q,H i b q->F b q)/\(∀i j b q,i≠j->H i b q-> ¬H j b q)/\ ∀i b q,i≠0->H i b q->b≠a:=by
 obtain⟨_,g,_,_,_,_,c⟩:=h;exact⟨c.1,fun i j b q d f e=>d (c.2 i j b q f e),fun i b q e d f=>e (c.2 i 0 b q d (f▸g q))⟩
theorem Ex{α:Type}(l:List α)(o n:Nat)(h:n=l.length):l.take (min o n)=l.take o:=by
 subst h;rcases Nat.le_total o l.length with c|c
 ·rw[oe c]
 ·rw[Nat.min_eq_right c,gE,fm c]
theorem Ey{α:Type}(l:List α)(o n:Nat)(h:n=l.length):l.drop (min o n)=l.drop o:=by
 subst h;rcases Nat.le_total o l.length with c|c
 ·rw[oe c]
 ·rw[Nat.min_eq_right c,List.drop_length,List.drop_eq_nil_of_le c]
theorem J9{d:Nat}{k:ND}{o:Nat}(h:d=0->k.ks=[]):jU d k o=(.mk (k.ps.take (o-1)) (k.ks.take o),k.ps[o-1]?.getD ([],[]),.mk (k.ps.drop o) (k.ks.drop o)):=by
 cases d with
 |zero=>rw[h rfl,List.take_nil,List.drop_nil];rfl
 |succ d=>rfl
def rO(L R:Nat->Nat->Prop):Nat->Nat->Nat->Prop
 |0=>L
 |1=>R
 |_+2=>fun _ _=>False
theorem aY.halves{w w':World}{d o l r:Nat}{k:ND}{K G j c x u:Nat->Nat->Prop}{b a v1 v2 C A:Value}{f:List Nat}{H:Nat->Nat->Nat->Prop}(y:aY w (bY w d) l k K b a f H)(Q: ∀i b q,H i b q->i<k.ks.length+3)(B:d=0->k.ks=[])(s: ∀q,¬K r q)
  (t:OnlyC G w w') (n: ∀b q,K b q->b≠l-> ¬G b q) (v:w'.heap[l]?=some (te v1 v2)) (L:w'.heap[r]?=some (te C A))
  (F:aG 2 220 w v1 ((k.ps.take (o-1)).map ay) (fun b q=>H 1 b q/\j b q)) (S:aG 2 220 w C ((k.ps.drop o).map ay) (fun b q=>H 1 b q/\x b q))
  (R:aG 1 169 w v2 ((f.take o).map aP) (fun b q=>H 2 b q/\c b q)) (M:aG 1 169 w A ((f.drop o).map aP) (fun b q=>H 2 b q/\u b q))
  (O: ∀b q,j b q-> ¬x b q) (P: ∀b q,c b q-> ¬u b q):
  ∃e a,aB w' d l (jU d k o).1 e/\aB w' d r (jU d k o).2.2 a/\(∀b q,e b q->K b q)/\(∀b q,a b q->K b q\/b=r)/\(∀b q,e b q-> ¬a b q):=by
 obtain⟨e,g,m⟩:=y.own;have h: ∀i b q,i≠0->H i b q-> ¬G b q:=fun i b q p a=>n b q (e i b q a) (m i b q p a);have I:=y;obtain⟨n,m,p,z,D,J,N⟩:=y;have E: ∀i z y,f[i]?=some z->k.ks[i]?=some y->bY w' d z y (H (i+3)):=fun i z y n p=>(J i z y n p).only t (h _ · · (by omega));rw[J9 B]
 have J:=aY.splice (w':=w') (a':=l) (ps':=k.ps.take (o-1)) (vp':=v1) (vk':=v2) (P0:=H 0) (P1:=fun b q=>H 1 b q/\j b q) (P2:=fun b q=>H 2 b q/\c b q) (M:=fun _ _ _=>False) I (min o k.ks.length) k.ks.length (Nat.min_le_right _ _) (b8 _) [] v m
  (F.only t (fun b q a=>h 1 b q (by decide) a.1))
  (by
   have:f.take (min o k.ks.length)++([]:List (Nat×ND)).map Prod.fst++f.drop k.ks.length=f.take o:=by rw[Ex _ _ _ D.symm,<-D];simp
   rw[this]
   exact R.only t (fun b q a=>h 2 b q (by decide) a.1))
  (fun m z y c=>by simp at c) (fun i z y _ n p=>E i z y n p) (fun b q a=>.inl a) (fun b q a=>.inl a.1) (fun b q a=>.inl a.1) (fun m b q a=>a.elim) (fun m j b q a=>a.elim)
  (fun m j b q v c F=>absurd (show K b q from match m,c with|0,c=>e 0 b q c|1,c=>e 1 b q c.1|2,c=>e 2 b q c.1|_+3,c=>c.elim) v)
 have K:=aY.splice (w':=w') (a':=r) (ps':=k.ps.drop o) (vp':=C) (vk':=A) (P0:=fun b _=>b=r) (P1:=fun b q=>H 1 b q/\x b q) (P2:=fun b q=>H 2 b q/\u b q) (M:=fun _ _ _=>False) I 0 (min o k.ks.length) (dq _) (Nat.min_le_right _ _) [] L (fun _=>rfl)
  (S.only t (fun b q a=>h 1 b q (by decide) a.1))
  (by
   have:f.take 0++([]:List (Nat×ND)).map Prod.fst++f.drop (min o k.ks.length)=f.drop o:=by rw[Ey _ _ _ D.symm];simp
   rw[this]
   exact M.only t (fun b q a=>h 2 b q (by decide) a.1))
  (fun m z y c=>by simp at c) (fun i z y _ n p=>E i z y n p) (fun b q a=>.inr (by subst a;exact s q)) (fun b q a=>.inl a.1) (fun b q a=>.inl a.1) (fun m b q a=>a.elim) (fun m j b q a=>a.elim)
  (fun m j b q v c F=>by
   have a: ∀m,OJ (fun b _=>b=r) (fun b q=>H 1 b q/\x b q) (fun b q=>H 2 b q/\u b q) (fun _ _ _=>False) m b q->m=0:=fun m c=>match m,c with
    |0,_=>rfl
    |1,c=>absurd (e 1 b q c.1) v
    |2,c=>absurd (e 2 b q c.1) v
    |_+3,c=>c.elim
   rw[a m c,a j F])
 have c:k.ks.take (min o k.ks.length)++([]:List (Nat×ND)).map Prod.snd++k.ks.drop k.ks.length=k.ks.take o:=by rw[Ex _ _ _ rfl];simp
 have a:k.ks.take 0++([]:List (Nat×ND)).map Prod.snd++k.ks.drop (min o k.ks.length)=k.ks.drop o:=by rw[Ey _ _ _ rfl];simp
 rw[c]at J;rw[a]at K;refine⟨_,_,J.close (fun a=>by simp[B a]),K.close (fun a=>by simp[B a]),?_,?_,?_⟩
 ·rintro b q ⟨h,a⟩;rcases gp a with c|c|c|⟨i,_,c⟩|⟨m,_,c⟩
  ·exact e 0 b q c
  ·exact e 1 b q c.1
  ·exact e 2 b q c.1
  ·exact e _ b q c
  ·exact c.elim
 ·rintro b q ⟨h,a⟩;rcases gp a with c|c|c|⟨i,_,c⟩|⟨m,_,c⟩
  ·exact .inr c
  ·exact .inl (e 1 b q c.1)
  ·exact .inl (e 2 b q c.1)
  ·exact .inl (e _ b q c)
  ·exact c.elim
 ·rintro b q ⟨h,a⟩ ⟨n,f⟩;have h:k.ks.length-min o k.ks.length+min o k.ks.length=k.ks.length:=by omega
  rcases gp a with c|c|c|⟨i,a,c⟩|⟨m,_,c⟩<;>rcases gp f with a|a|a|⟨h,f,a⟩|⟨j,_,a⟩
  ·exact s q (by rw[<-a];exact e 0 b q c)
  ·exact g 0 1 b q (by decide) c a.1
  ·exact g 0 2 b q (by decide) c a.1
  ·exact g 0 _ b q (by omega) c a
  ·exact a.elim
  ·exact s q (by rw[<-a];exact e 1 b q c.1)
  ·exact O b q c.2 a.2
  ·exact g 1 2 b q (by decide) c.1 a.1
  ·exact g 1 _ b q (by omega) c.1 a
  ·exact a.elim
  ·exact s q (by rw[<-a];exact e 2 b q c.1)
  ·exact g 2 1 b q (by decide) c.1 a.1
  ·exact P b q c.2 a.2
  ·exact g 2 _ b q (by omega) c.1 a
  ·exact a.elim
  ·exact s q (by rw[<-a];exact e _ b q c)
  ·exact g _ 1 b q (by omega) c a.1
  ·exact g _ 2 b q (by omega) c a.1
  ·have:=N.2 _ _ b q c a;have e:=Q _ b q c;omega
  ·exact a.elim
  all_goals exact c.elim
theorem pO{w c v j u g:World}{d a i l o r:Nat}{x k:ND}{F:Nat->Nat->Prop}{b V D C v1 v2 A t v' m:Value}{n h:List Nat}{H e:Nat->Nat->Nat->Prop}{ps':List Pr}{B s y p:Nat->Nat->Prop}
  (f:aY w (aB w d) a x F b V n H) (z: ∀b q,F b q->b<w.heap.size) (hk:x.ks[i]?=some k) (hl:n[i]?=some l)
  (M:aY w (bY w d) l k (H (i+3)) D C h e) (hT: ∀i b q,e i b q->i<k.ks.length+3) (W:d=0->k.ks=[])
  (D:OnlyC (fun b _=>b=l) w c) (C:w.heap.size<=r) (C:r<c.heap.size) (kl:c.heap[l]?=some (te v1 v2)) (kr:c.heap[r]?=some (te A t))
  (p1:aG 2 220 w v1 ((k.ps.take (o-1)).map ay) (fun b q=>e 1 b q/\B b q)) (p2:aG 2 220 w A ((k.ps.drop o).map ay) (fun b q=>e 1 b q/\y b q))
  (q1:aG 1 169 w v2 ((h.take o).map aP) (fun b q=>e 2 b q/\s b q)) (q2:aG 1 169 w t ((h.drop o).map aP) (fun b q=>e 2 b q/\p b q))
  (e1: ∀b q,B b q-> ¬y b q) (e2: ∀b q,s b q-> ¬p b q)
  (T:Below c.heap.size c v) (O:OnlyC (H 1) v j) (s6:aG 2 220 j v' (ps'.map ay) (fun b q=>H 1 b q\/v.heap.size<=b))
  (I:Below j.heap.size (j.setCell ⟨a,0,none⟩ v') u) (t:OnlyC (H 2) u g) (s9:aG 1 169 g m ((n.take (i+1)++r::n.drop (i+1)).map aP) (fun b q=>H 2 b q\/u.heap.size<=b)):
  aB (g.setCell ⟨a,1,none⟩ m) (d+1) a (.mk ps' (x.ks.take i++(jU d k o).1::(jU d k o).2.2::x.ks.drop (i+1))) (fun b q=>F b q\/w.heap.size<=b)/\OnlyC F w (g.setCell ⟨a,1,none⟩ m):=by
 obtain⟨h,y,A⟩:=f.own;obtain⟨e,s,p⟩:=M.own;have X:=f;obtain⟨g1,C,s,B,E,g6,p⟩:=f;have B: ∀q,H (i+3) l q:=fun q=>e 0 l q (M.2.1 q);have Q:(j.setCell ⟨a,0,none⟩ v').heap.size=j.heap.size:=by simp[World.setCell]
 have e:(g.setCell ⟨a,1,none⟩ m).heap.size=g.heap.size:=by simp[World.setCell]
 have e:=D.size;have e:=T.size;have e:=O.size;have e:=I.size;have e:=t.size;have e:a<w.heap.size:=z a 0 (h 0 a 0 (C 0));have e:l<w.heap.size:=z l 0 (h _ l 0 (B 0));have E: ∀p b q,H p b q->b<w.heap.size:=fun p b q e=>z b q (h p b q e);have Ss:l≠a:=A (i+3) l 0 (by omega) (B 0)
 -- from the cut on
 let G:Nat->Nat->Prop:=fun b q=>H 1 b q\/H 2 b q\/b=a
 have f:OnlyC G c v:=oS T G;have s:OnlyC G c j:=f.x O (fun b q _ e=>.inl e);have f:OnlyC G c (j.setCell ⟨a,0,none⟩ v'):=s.x (OnlyC.aR j a 0 v') (fun b q _ s=>.inr (.inr s.1));have J:OnlyC G c u:=f.x (oS (by rw[Q];exact I) G) (fun b q _ e=>e);have f:OnlyC G c g:=J.x t (fun b q _ e=>.inr (.inl e));have N:OnlyC G c (g.setCell ⟨a,1,none⟩ m):=f.x (OnlyC.aR g a 1 m) (fun b q _ s=>.inr (.inr s.1));have S:OnlyC (fun b q=>b=l\/G b q) w (g.setCell ⟨a,1,none⟩ m):=(D.m (fun b q _ s=>.inl s)).x N (fun b q _ e=>.inr e)
 have K: ∀p b q,3<=p->H p b q-> ¬G b q:=by
  rintro p b q f e (c|c|c)
  ·exact y p 1 b q (by omega) e c
  ·exact y p 2 b q (by omega) e c
  ·exact A p b q (by omega) e c
 -- the halves
 have Y: ∀q,¬H (i+3) r q:=fun q e=>by have:=E _ r q e;omega
 have Z: ∀q,¬G r q:=by
  rintro q (c|c|c)
  ·have:=E 1 r q c;omega
  ·have:=E 2 r q c;omega
  ·omega
 obtain⟨L,R,nL,nR,J,P,U⟩:=aY.halves (w':=g.setCell ⟨a,1,none⟩ m) (r:=r) M hT W Y S (fun b q e W M=>M.elim W (K _ b q (by omega) e)) (N.heap kl (fun q=>K _ l q (by omega) (B q))) (N.heap kr Z) p1 p2 q1 q2 e1 e2
 -- a's own cells
 have N:=D.heap g1 (fun _ s=>Ss s.symm);have W:=qt T N;have N:=O.heap W (fun q e=>y 1 0 a q (by decide) e (C q))
 have O:(j.setCell ⟨a,0,none⟩ v').heap[a]?=some (te v' V):=by have:=dp j a 0 _ _ v' N;simpa using this
 have T:=qt (show Below (j.setCell ⟨a,0,none⟩ v').heap.size (j.setCell ⟨a,0,none⟩ v') u by rw[Q];exact I) O;have N:=t.heap T (fun q e=>y 2 0 a q (by decide) e (C q))
 have V:(g.setCell ⟨a,1,none⟩ m).heap[a]?=some (te v' m):=by have:=dp g a 1 _ _ m N;simpa using this
 have N:=s6.bound;have O:=s9.bound
 have T:aG 2 220 (g.setCell ⟨a,1,none⟩ m) v' (ps'.map ay) (fun b q=>(H 1 b q\/v.heap.size<=b)/\b<j.heap.size):=by
  refine(((N.only (OnlyC.aR j a 0 v') (fun b q e s=>?_)).only (ri (by rw[Q];exact I)) (fun _ _ _ Q=>Q)).only t (fun b q e t=>?_)).only (OnlyC.aR g a 1 m) (fun b q e s=>?_)
  ·rcases e.1 with c|c
   ·exact A 1 b q (by decide) c s.1
   ·have:=s.1;omega
  ·rcases e.1 with c|c
   ·exact y 1 2 b q (by decide) c t
   ·have:=E 2 b q t;omega
  ·rcases e.1 with c|c
   ·exact A 1 b q (by decide) c s.1
   ·have:=s.1;omega
 have N:aG 1 169 (g.setCell ⟨a,1,none⟩ m) m ((n.take (i+1)++r::n.drop (i+1)).map aP) (fun b q=>(H 2 b q\/u.heap.size<=b)/\b<g.heap.size):=by
  refine O.only (OnlyC.aR g a 1 m) (fun b q e s=>?_);rcases e.1 with c|c
  ·exact A 2 b q (by decide) c s.1
  ·have:=s.1;omega
 have A:=(aw.1 hk).1;have A:i<n.length:=by omega
 have E:n.take (i+1)=n.take i++[l]:=by have:=(aw.1 hl).2;rw[List.take_succ_eq_append_getElem A,this]
 have I:=aY.splice (d:=d+1) (w':=g.setCell ⟨a,1,none⟩ m) (a':=a) (ps':=ps') (vp':=v') (vk':=m) (P0:=H 0) (P1:=fun b q=>(H 1 b q\/v.heap.size<=b)/\b<j.heap.size) (P2:=fun b q=>(H 2 b q\/u.heap.size<=b)/\b<g.heap.size) (M:=rO L R) X i (i+1) (by omega) (by omega) [(l,(jU d k o).1),(r,(jU d k o).2.2)] V C T
  (by
   have:n.take i++[(l,(jU d k o).1),(r,(jU d k o).2.2)].map Prod.fst++n.drop (i+1)=n.take (i+1)++r::n.drop (i+1):=by rw[E];simp
   rw[this]
   exact N)
  (fun p O N f=>by
   match p,f with
   |0,f=>simp only[jj,fi,mv]at f;obtain⟨rfl,rfl⟩:=f;exact nL
   |1,f=>simp only[List.getElem?_cons_succ,jj,fi,mv]at f;obtain⟨rfl,rfl⟩:=f;exact nR
   |p+2,f=>simp at f)
  (fun E O N A m n=>aB.only S (g6 E O N m n) (fun b q e M=>M.elim (fun s=>y (E+3) (i+3) b q (by omega) e (by rw[s];exact B q)) (K _ b q (by omega) e)))
  (fun b q e=>.inl e)
  (fun b q e=>e.1.imp id (fun c m=>by have:=z b q m;omega))
  (fun b q e=>e.1.imp id (fun c m=>by have:=z b q m;omega))
  (fun p b q f=>by
   match p,f with
   |0,f=>exact .inl ⟨i,by omega,by omega,J b q f⟩
   |1,f=>exact(P b q f).imp (fun c=>⟨i,by omega,by omega,c⟩) (fun s m=>by have:=z b q m;omega)
   |_+2,f=>exact f.elim)
  (fun p y b q f n=>by
   match p,f,y,n with
   |0,_,0,_=>rfl
   |1,_,1,_=>rfl
   |0,c,1,t=>exact absurd t (U b q c)
   |1,c,0,t=>exact absurd c (U b q t)
   |_+2,c,_,_=>exact c.elim
   |0,_,_+2,t=>exact t.elim
   |1,_,_+2,t=>exact t.elim)
  (fun p y b q m f n=>by
   have t: ∀p,OJ (H 0) (fun b q=>(H 1 b q\/v.heap.size<=b)/\b<j.heap.size) (fun b q=>(H 2 b q\/u.heap.size<=b)/\b<g.heap.size) (rO L R) p b q->(p=1/\v.heap.size<=b/\b<j.heap.size)\/(p=2/\u.heap.size<=b)\/(p=4/\b=r):=fun p f=>match p,f with
    |0,f=>absurd (h 0 b q f) m
    |1,f=>f.1.elim (fun c=>absurd (h 1 b q c) m) (fun c=>.inl ⟨rfl,c,f.2⟩)
    |2,f=>f.1.elim (fun c=>absurd (h 2 b q c) m) (fun c=>.inr (.inl ⟨rfl,c⟩))
    |3,f=>absurd (h _ b q (J b q f)) m
    |4,f=>(P b q f).elim (fun c=>absurd (h _ b q c) m) (fun s=>.inr (.inr ⟨rfl,s⟩))
    |_+5,f=>f.elim
   have g:=t p f;have f:=t y n
   omega)
 constructor
 ·have D:=(aY.close (d:=d+1) I (fun s=>by omega)).m (fun b q (e: ∃E,_)=>show F b q\/w.heap.size<=b from by
   obtain⟨E,A⟩:=e;rcases gp A with f|f|f|⟨p,_,f⟩|⟨p,_,f⟩
   ·exact .inl (h 0 b q f)
   ·exact f.1.imp (h 1 b q) (fun Q=>by omega)
   ·exact f.1.imp (h 2 b q) (fun Q=>by omega)
   ·exact .inl (h _ b q f)
   ·match p,f with
    |0,f=>exact .inl (h _ b q (J b q f))
    |1,f=>exact(P b q f).imp (h _ b q) (fun s=>by omega)
    |_+2,f=>exact f.elim)
  simpa using D
 ·refine S.m (fun b q _ e=>?_);rcases e with s|c|c|s
  ·subst s;exact h _ _ q (B q)
  ·exact h 1 b q c
  ·exact h 2 b q c
  ·subst s;exact h 0 _ q (C q)
theorem aY.pP{w w':World}{d a:Nat}{x:ND}{F:Nat->Nat->Prop}{c e v':Value}{b:List Nat}{H:Nat->Nat->Nat->Prop}{ps':List Pr}(g:aY w (bY w d) a x F c e b H)(p:d=0->x.ks=[])(s: ∀b q,F b q->b<w.heap.size)
  (v:w'.heap[a]?=some (te v' e)) (h:OnlyC (fun b q=>H 1 b q\/b=a) w w') (r:aG 2 220 w' v' (ps'.map ay) (fun b q=>H 1 b q\/w.heap.size<=b)):
  aB w' d a (.mk ps' x.ks) (fun b q=>F b q\/w.heap.size<=b)/\OnlyC F w w':=by
 obtain⟨f,m,l⟩:=g.own;have u:=g;obtain⟨i,k,j,y,n,t,c⟩:=g;have g: ∀i b q,i≠0->i≠1->H i b q-> ¬(H 1 b q\/b=a):=fun i b q o j c n=>n.elim (m i 1 b q j c) (l i b q o c)
 have l:=aY.splice (w':=w') (a':=a) (ps':=ps') (vp':=v') (vk':=e) (P0:=H 0) (P1:=fun b q=>H 1 b q\/w.heap.size<=b) (P2:=H 2) (M:=fun _ _ _=>False) u 0 0 (b8 _) (dq _) [] v k r
  (by simpa using y.only h (fun b q=>g 2 b q (by decide) (by decide))) (fun m u y e=>by simp at e) (fun i u y _ o r=>(t i u y o r).only h (fun b q=>g _ b q (by omega) (by omega)))
  (fun b q c=>.inl c) (fun b q c=>c.imp id (fun j g=>by have:=s b q g;omega)) (fun b q c=>.inl c) (fun m b q c=>c.elim) (fun m j b q c=>c.elim)
  (fun m j b q g e o=>by
   have i: ∀m,OJ (H 0) (fun b q=>H 1 b q\/w.heap.size<=b) (H 2) (fun _ _ _=>False) m b q->m=1:=fun m e=>match m,e with
    |0,e=>absurd (f 0 b q e) g
    |1,_=>rfl
    |2,e=>absurd (f 2 b q e) g
    |_+3,e=>e.elim
   rw[i m e,i j o])
 constructor
 ·have n:x.ks.take 0++([]:List (Nat×ND)).map Prod.snd++x.ks.drop 0=x.ks:=by simp
  rw[n]at l;refine(l.close p).m ?_;rintro b q ⟨j,e⟩;rcases gp e with e|e|e|⟨m,_,e⟩|⟨m,_,e⟩
  ·exact .inl (f 0 b q e)
  ·exact e.imp (f 1 b q) id
  ·exact .inl (f 2 b q e)
  ·exact .inl (f _ b q e)
  ·exact e.elim
 ·refine h.m (fun b q _ c=>c.elim (f 1 b q) (fun n=>?_));subst n;exact f 0 _ q (k q)
theorem aY.Ka{w w':World}{d a i l:Nat}{x k j:ND}{F:Nat->Nat->Prop}{e n:Value}{b:List Nat}{H:Nat->Nat->Nat->Prop}(A:aY w (aB w d) a x F e n b H)(o: ∀c q,F c q->c<w.heap.size)
  (y:x.ks[i]?=some k) (z:b[i]?=some l) (h:OnlyC (H (i+3)) w w') (p:aB w' d l j (fun c q=>H (i+3) c q\/w.heap.size<=c)):
  aB w' (d+1) a (.mk x.ps (x.ks.take i++j::x.ks.drop (i+1))) (fun c q=>F c q\/w.heap.size<=c)/\OnlyC F w w':=by
 obtain⟨f,g,m⟩:=A.own;have u:=A;obtain⟨r,m,s,v,C,t,B⟩:=A;have A:=(aw.1 y).1
 have y:=aY.splice (d:=d+1) (w':=w') (a':=a) (ps':=x.ps) (vp':=e) (vk':=n) (P0:=H 0) (P1:=H 1) (P2:=H 2) (M:=rO (fun c q=>H (i+3) c q\/w.heap.size<=c) (fun _ _=>False)) u i (i+1) (by omega) (by omega) [(l,j)]
  (h.heap r (fun q e=>g 0 (i+3) a q (by omega) (m q) e)) m (s.only h (fun c q=>g 1 (i+3) c q (by omega)))
  (by
   have m:=ez z
   have u:b.take i++[(l,j)].map Prod.fst++b.drop (i+1)=b:=by
    conv=>rhs;rw[m]
    simp
   rw[u]
   exact v.only h (fun c q=>g 2 (i+3) c q (by omega)))
  (fun m v s b=>by
   match m,b with
   |0,b=>simp only[jj,fi,mv]at b;obtain⟨rfl,rfl⟩:=b;exact p
   |m+1,b=>simp at b)
  (fun r v s p j n=>aB.only h (t r v s j n) (fun c q=>g _ (i+3) c q (by omega)))
  (fun c q e=>.inl e) (fun c q e=>.inl e) (fun c q e=>.inl e)
  (fun m c q b=>by
   match m,b with
   |0,b=>exact b.imp (fun g=>⟨i,by omega,by omega,g⟩) (fun g j=>by have:=o c q j;omega)
   |1,b=>exact b.elim
   |_+2,b=>exact b.elim)
  (fun m o c q b n=>by
   match m,b,o,n with
   |0,_,0,_=>rfl
   |1,g,_,_=>exact g.elim
   |_+2,g,_,_=>exact g.elim
   |0,_,1,h2=>exact h2.elim
   |0,_,_+2,h2=>exact h2.elim)
  (fun m o c q j b n=>by
   have g: ∀m,OJ (H 0) (H 1) (H 2) (rO (fun c q=>H (i+3) c q\/w.heap.size<=c) (fun _ _=>False)) m c q->m=3:=fun m b=>match m,b with
    |0,b=>absurd (f 0 c q b) j
    |1,b=>absurd (f 1 c q b) j
    |2,b=>absurd (f 2 c q b) j
    |3,_=>rfl
    |4,b=>b.elim
    |_+5,b=>b.elim
   rw[g m b,g o n])
 constructor
 ·have g:=(aY.close (d:=d+1) y (fun u=>by omega)).m (fun c q (e: ∃r,_)=>show F c q\/w.heap.size<=c from by
   obtain⟨r,p⟩:=e;rcases gp p with b|b|b|⟨m,_,b⟩|⟨m,_,b⟩
   ·exact .inl (f 0 c q b)
   ·exact .inl (f 1 c q b)
   ·exact .inl (f 2 c q b)
   ·exact .inl (f _ c q b)
   ·match m,b with
    |0,b=>exact b.imp (f _ c q) id
    |1,b=>exact b.elim
    |_+2,b=>exact b.elim)
  simpa using g
 ·exact h.m (fun c q _ e=>f _ c q e)
theorem aG.Xi{w:World}{b o n c i:Nat}{ps:List Pr}{F:Nat->Nat->Prop}{k v v':List UInt8}(K:aG 2 220 w (.slice (some ⟨b,o,none⟩) n c) (ps.map ay) F)(hi:ps[i]?=some (k,v)):
  aG 2 220 (w.setCell ⟨b,o+i*2+1,none⟩ (r7 v')) (.slice (some ⟨b,o,none⟩) n c) ((ps.take i++(k,v')::ps.drop (i+1)).map ay) F/\OnlyC F w (w.setCell ⟨b,o+i*2+1,none⟩ (r7 v')):=by
 have E:=(aw.1 hi).1;obtain⟨y,H,I,m,d,j,A,G,u,t,p,l⟩:=K.lies (by simp;omega);simp only[fa,ix,fi,nw,and_true]at d;obtain⟨⟨rfl,rfl⟩,rfl,rfl⟩:=d;rw[fa]at j;have s:=dp w b (o+i*2+1) m 220 (r7 v') u;have r:o+i*2+1<m.size:=by omega
 have q:ps=ps.take i++(k,v)::ps.drop (i+1):=ez hi;constructor
 ·refine aG.rewritten s (by simp) t p (by simp;omega) j A (fun x h=>by obtain⟨J,_,rfl⟩:=ep.1 h;rfl) (fun C L a=>?_);rw[gd]
  have f:(((ps.take i).map ay).flatten).length=i*2:=by rw[bP (k:=2) (fun x h=>by obtain⟨J,_,rfl⟩:=List.mem_map.1 h;rfl)];simp;omega
  have d:((ps.take i++(k,v')::ps.drop (i+1)).map ay).flatten=((ps.take i).map ay).flatten++(r7 k:: r7 v'::((ps.drop (i+1)).map ay).flatten):=by simp[ay]
  have z:(ps.map ay).flatten=((ps.take i).map ay).flatten++(r7 k:: r7 v::((ps.drop (i+1)).map ay).flatten):=by
   conv=>lhs;rw[q]
   simp[ay]
  rw[d]at a;rw[z]at l;by_cases B:C=i*2+1
  ·subst B;rw[ff (by omega),ff r];rw[iv (by omega),f,Nat.add_sub_cancel_left]at a;simpa using a
  ·rw[fb (by omega)];refine l C L ?_;rw[List.getElem?_append]at a⊢;split
   ·rename_i e;rw[ff e]at a;exact a
   ·rename_i e;rw[fb e,f]at a;rw[f]at e⊢;obtain⟨D,g⟩:=rk (C-i*2);rw[g]at a⊢
    match D,g,a with
    |0,_,a=>simpa using a
    |1,g,_=>omega
    |D+2,_,a=>simpa using a
 ·refine(OnlyC.aR w b (o+i*2+1) _).m (fun y N _ M=>?_);obtain⟨rfl,rfl⟩:=M;exact p _ (by omega) (by omega)
theorem Bb{d o:Nat}{y:ND}(b:2<=o)(h:fD d o (2*o) (2*o) y):aZ (d+1) (nA d (.mk [] [y]) 0 o)=aZ d y/\fD (d+1) o 1 (2*o-1) (nA d (.mk [] [y]) 0 o):=by
 have c:=JX (by omega) h;have a:=Od b h;have e:nA d (.mk [] [y]) 0 o=.mk [(jU d y o).2.1] [(jU d y o).1,(jU d y o).2.2]:=rfl;rw[e];constructor
 ·rw[<-c];simp[aZ,flat]
 ·refine⟨by simp,by simp;omega,by simp,fun k b=>?_⟩;simp only[ND.di,List.mem_cons,List.not_mem_nil,or_false]at b;rcases b with rfl|rfl
  ·exact a.1
  ·exact a.2
theorem aB.Kb{w:World}{d r N S:Nat}{y:ND}{K:Nat->Nat->Prop}(e:aB w d r y K)(a:w.heap[N]?=some (uv (.slice (some ⟨S,0,none⟩) 1 1)))
  (b:w.heap[S]?=some (so r)) (f:N≠S) (h: ∀q,¬K N q) (g: ∀q,¬K S q):aB w (d+1) N (.mk [] [y]) (fun c q=>K c q\/c=N\/c=S):=by
 refine⟨.slice none 0 0,.slice (some ⟨S,0,none⟩) 1 1,[r],fun i c q=>(i=0/\c=N)\/(i=2/\c=S)\/(i=3/\K c q),a,fun q=>.inl ⟨rfl,rfl⟩,aG.nil _ _ _ _,?_,rfl,?_,?_,?_⟩
 ·exact⟨_,1,rfl,by simp,by simp[maxLen],fun x a=>by simp[aP]at a;subst a;rfl,.inr ⟨S,0,_,rfl,b,by simp,fun j _ _=>.inr (.inl ⟨rfl,rfl⟩),fun j u a=>by simpa[aP]using a⟩⟩
 ·intro i p k a b
  match i,a,b with
  |0,a,b=>simp at a b;subst a b;exact e.m (fun c q e=>.inr (.inr ⟨rfl,e⟩))
  |i+1,a,b=>simp at a
 ·rintro i c q (⟨_,e⟩|⟨_,e⟩|⟨_,e⟩)
  ·exact .inr (.inl e)
  ·exact .inr (.inr e)
  ·exact .inl e
 ·rintro i j c q (⟨rfl,e⟩|⟨rfl,e⟩|⟨rfl,e⟩) (⟨rfl,a⟩|⟨rfl,a⟩|⟨rfl,a⟩)
  ·rfl
  ·exact absurd (e.symm.x a) f
  ·exact absurd a (by rw[e];exact h q)
  ·exact absurd (a.symm.x e) f
  ·rfl
  ·exact absurd a (by rw[e];exact g q)
  ·exact absurd e (by rw[a];exact h q)
  ·exact absurd e (by rw[a];exact g q)
  ·rfl
theorem xo(P:Nat->Nat->Nat->Prop)(h: ∀i j b q,P i b q->P j b q->i=j): ∃a:Nat->Nat->Nat,(∀i b q,P i b q->a b q=i+1)/\ ∀b q,a b q≠0-> ∃i,P i b q:=by
 refine⟨fun b q=> @dite _ (∃i,P i b q) (Classical.propDecidable _) (fun a=>Classical.choose a+1) (fun _=>0),fun i b q c=>?_,fun b q d=>?_⟩
 ·have a: ∃i,P i b q:=⟨i,c⟩;simp only;rw[dif_pos a,h _ _ b q (Classical.choose_spec a) c]
 ·apply Classical.byContradiction;intro a;exact d (dif_neg a)
def Hf{α:Type}(f:Nat->α)(t:Nat)(v:α):Nat->α:=fun s=>if s=t then v else f s
def Ez{α:Type}(f:Nat->Nat->α)(t s:Nat)(v:α):Nat->Nat->α:=fun a b=>if a=t/\b=s then v else f a b
@[simp] theorem tC {α:Type} (f:Nat->α) (t:Nat) (v:α):Hf f t v t=v:=by simp[Hf]
theorem CC{α:Type}(f:Nat->α){t s:Nat}(v:α)(h:s≠t):Hf f t v s=f s:=by simp[Hf,h]
@[simp] theorem pQ {α:Type} (f:Nat->Nat->α) (t s:Nat) (v:α):Ez f t s v t s=v:=by simp[Ez]
theorem gQ{α:Type}(f:Nat->Nat->α){t s t' s':Nat}(v:α)(h: ¬(t'=t/\s'=s)):Ez f t s v t' s'=f t' s':=by simp[Ez,h]
structure Ta (w0 w:World) (lab:Nat->Nat->Nat) (t a:Nat) (v u:Value) (x:List Pr) (y:List Nat) (P1 P2 B1 B2:Nat->Nat->Prop):Prop where
 heap:w.heap[a]?=some (te v u)
 own: ∀q,lab a q=10*t
 s1:aG 2 220 w v (x.map ay) P1
 s2:aG 1 169 w u (y.map aP) P2
 l1: ∀b q,P1 b q->lab b q=10*t+1/\b<w.heap.size/\(B1 b q\/w0.heap.size<=b)
 l2: ∀b q,P2 b q->lab b q=10*t+2/\b<w.heap.size/\(B2 b q\/w0.heap.size<=b)
def eP(w0:World)(A:Nat->Nat)(B:Nat->Nat->Nat->Nat->Prop)(Z U:Nat->Nat->Prop)(w:World)(V:Nat->Nat->Value)(X:Nat->List Pr)(Y:Nat->List Nat)(P:Nat->Nat->Nat->Nat->Prop):Prop:=
 ∃a:Nat->Nat->Nat,(∀t,t<3->Ta w0 w a t (A t) (V t 0) (V t 1) (X t) (Y t) (P t 0) (P t 1) (B t 0) (B t 1))/\(∀b q,Z b q->a b q=99/\b<w0.heap.size)/\(∀b q,b<w0.heap.size->a b q<30->U b q)/\OnlyC (fun b q=>a b q<30) w0 w
section
variable{w0 w w1 w2:World}{A:Nat->Nat}{B:Nat->Nat->Nat->Nat->Prop}{Z U:Nat->Nat->Prop}{V:Nat->Nat->Value}{X:Nat->List Pr}{Y:Nat->List Nat}{P:Nat->Nat->Nat->Nat->Prop}
theorem Ta.only{w':World}{e c:Nat->Nat->Nat}{t a:Nat}{v u:Value}{x:List Pr}{y:List Nat}{P1 P2 f g G:Nat->Nat->Prop}(i:Ta w0 w e t a v u x y P1 P2 f g)(d:OnlyC G w w')(h: ∀b q,b<w.heap.size->c b q=e b q)
  (e: ∀q,¬G a q) (k: ∀b q,P1 b q-> ¬G b q) (j: ∀b q,P2 b q-> ¬G b q):Ta w0 w' c t a v u x y P1 P2 f g:=
 ⟨d.heap i.heap e,fun q=>by rw[h a q (lt_of_heap i.heap)];exact i.own q,i.s1.only d k,i.s2.only d j,
  fun b q e=>by obtain⟨f,c,g⟩:=i.l1 b q e;exact⟨by rw[h b q c];exact f,da c d.size,g⟩,
  fun b q e=>by obtain⟨f,c,g⟩:=i.l2 b q e;exact⟨by rw[h b q c];exact f,da c d.size,g⟩⟩
theorem eP.below(h:eP w0 A B Z U w V X Y P)(b:Below w.heap.size w w1):eP w0 A B Z U w1 V X Y P:=by obtain⟨a,c,e,f,g⟩:=h;exact⟨a,fun t d=>(c t d).only (ri b) (fun _ _ _=>rfl) (fun _ h=>h) (fun _ _ _ h=>h) (fun _ _ _ h=>h),e,f,g.x (oS b (fun b q=>a b q<30)) (fun _ _ _ h=>h)⟩
theorem eP.at_(h:eP w0 A B Z U w V X Y P){t:Nat}(a:t<3):w.heap[A t]?=some (te (V t 0) (V t 1))/\aG 2 220 w (V t 0) ((X t).map ay) (P t 0)/\aG 1 169 w (V t 1) ((Y t).map aP) (P t 1):=by obtain⟨c,b,_⟩:=h;exact⟨(b t a).heap,(b t a).s1,(b t a).s2⟩
theorem eP.apart(e:eP w0 A B Z U w V X Y P){t s t' s':Nat}(c:t<3)(g:t'<3)(d:s<2)(h:s'<2)(a: ¬(t=t'/\s=s')){b q:Nat}(j:P t s b q): ¬P t' s' b q:=by
 obtain⟨a,f,_⟩:=e;intro i
 have e: ∀t s,t<3->s<2->P t s b q->a b q=10*t+s+1:=fun t s c d a=>match s,d,a with
  |0,_,a=>((f t c).l1 b q a).1
  |1,_,a=>((f t c).l2 b q a).1
  |_+2,d,_=>by omega
 have a:=e t s c d j;have a:=e t' s' g h i;omega
theorem eP.jb(h:eP w0 A B Z U w V X Y P){t s t':Nat}(c:t<3)(f:t'<3)(d:s<2){b q:Nat}(g:P t s b q):b≠A t':=by
 obtain⟨e,a,_⟩:=h;intro h;subst h;have h:=(a t' f).own q
 have f:e (A t') q=10*t+s+1:=match s,d,g with
  |0,_,hh=>((a t c).l1 _ q hh).1
  |1,_,hh=>((a t c).l2 _ q hh).1
  |_+2,d,_=>by omega
 omega
theorem eP.OL(h:eP w0 A B Z U w V X Y P){t t':Nat}(d:t<3)(b:t'<3)(a:t≠t'):A t≠A t':=by obtain⟨c,a,_⟩:=h;intro e;have c:=(a t d).own 0;have d:=(a t' b).own 0;rw[e]at c;omega
theorem eP.VH(h:eP w0 A B Z U w V X Y P):OnlyC U w0 w:=by obtain⟨c,_,_,b,a⟩:=h;exact a.m (fun d q c a=>b d q c a)
theorem eP.pairs(h:eP w0 A B Z U w V X Y P){t:Nat}(c:t<3)(a:Below w.heap.size w w1)(o:OnlyC (P t 0) w1 w2){v':Value}{p:List Pr}(i:aG 2 220 w2 v' (p.map ay) (fun b q=>P t 0 b q\/w1.heap.size<=b)):
  eP w0 A B Z U (w2.setCell ⟨A t,0,none⟩ v') (Ez V t 0 v') (Hf X t p) Y (Ez P t 0 (fun b q=>(P t 0 b q\/w1.heap.size<=b)/\b<w2.heap.size)):=by
 have e:=h.below a;obtain⟨g,d,x,z,v⟩:=e;have e:=d;have f:w0.heap.size<=w1.heap.size:=v.size;have s:(w2.setCell ⟨A t,0,none⟩ v').heap.size=w2.heap.size:=by simp[World.setCell]
 have k:=OnlyC.aR w2 (A t) 0 v';have C: ∀b q,b<w1.heap.size->(if b<w1.heap.size then g b q else 10*t+1)=g b q:=fun b q a=>ff a
 have j: ∀{t f b q},t<3->f<2->P t f b q->g b q=10*t+f+1/\b<w1.heap.size:=fun{t f b q} c i a=>match f,i,a with
  |0,_,a=>⟨((e t c).l1 b q a).1,((e t c).l1 b q a).2.1⟩
  |1,_,a=>⟨((e t c).l2 b q a).1,((e t c).l2 b q a).2.1⟩
  |_+2,i,_=>by omega
 have r: ∀q,¬P t 0 (A t) q:=fun q a=>by have e:=(j c (by decide) a).1;have m:=(d t c).own q;omega
 have u:OnlyC (fun b q=>P t 0 b q\/(b=A t/\q=0)) w1 (w2.setCell ⟨A t,0,none⟩ v'):=(o.m (fun _ _ _ h=>.inl h)).x k (fun _ _ _ h=>.inr h);refine⟨fun b q=>if b<w1.heap.size then g b q else 10*t+1,fun h l=>?_,fun b q y=>?_,fun b q n f=>z b q n (by have n:(if b<w1.heap.size then g b q else _)<30:=f;rw[ff (by omega)]at n;exact n),?_⟩
 ·by_cases n:h=t
  ·subst n;have f:=d h c;have z:=o.heap f.heap r;rw[pQ,gQ V v' (by omega),tC,pQ,gQ P _ (by omega)];refine⟨?_,fun q=>by rw[ff (lt_of_heap f.heap)];exact f.own q,?_,?_,?_,?_⟩
   ·have:=dp w2 (A h) 0 _ _ v' z;simpa using this
   ·refine i.bound.only k (fun b q a n=>?_);obtain⟨rfl,rfl⟩:=n;rcases a.1 with e|e
    ·exact r 0 e
    ·have:=oT f.heap;omega
   ·refine(f.s2.only o (fun b q a m=>?_)).only k (fun b q a n=>?_)
    ·have r:=(f.l2 b q a).1;have k:=(j c (by decide) m).1;omega
    ·obtain⟨rfl,rfl⟩:=n;have r:=(f.l2 _ _ a).1;have k:=f.own 0;omega
   ·rintro b q ⟨e|e,m⟩
    ·have i:=f.l1 b q e;refine⟨?_,by rw[s];exact m,i.2.2⟩;rw[ff i.2.1];exact i.1
    ·refine⟨?_,by rw[s];exact m,.inr (by omega)⟩;rw[fb (by omega)]
   ·intro b q a;have i:=f.l2 b q a;refine⟨?_,by rw[s];exact da i.2.1 o.size,i.2.2⟩;rw[ff i.2.1];exact i.1
  ·rw[gQ V v' (fun a=>n a.1),gQ V v' (fun a=>n a.1),CC X p n,gQ P _ (fun a=>n a.1),gQ P _ (fun a=>n a.1)];refine(d h l).only u C (fun q a=>?_) (fun b q e a=>?_) (fun b q e a=>?_)
   ·rcases a with a|⟨r,_⟩
    ·have k:=(j c (by decide) a).1;have f:=(d h l).own q;omega
    ·have k:=(d h l).own q;have f:=(d t c).own q;rw[r]at k;omega
   ·have i:=((d h l).l1 b q e).1;rcases a with a|⟨rfl,rfl⟩
    ·have k:=(j c (by decide) a).1;omega
    ·have f:=(d t c).own 0;omega
   ·have i:=((d h l).l2 b q e).1;rcases a with a|⟨rfl,rfl⟩
    ·have k:=(j c (by decide) a).1;omega
    ·have f:=(d t c).own 0;omega
 ·have:=x b q y;exact⟨by show(if b<w1.heap.size then g b q else _)=99;rw[ff (by omega)];exact this.1,this.2⟩
 ·refine(v.m (fun b q e a=>?_)).x u (fun b q e a=>?_)
  ·show(if b<w1.heap.size then g b q else _)<30;rw[ff (by omega)];exact a
  ·show(if b<w1.heap.size then g b q else _)<30;rw[ff (by omega)];rcases a with a|⟨rfl,rfl⟩
   ·have:=(j c (by decide) a).1;omega
   ·have:=(d t c).own 0;omega
theorem eP.kids(h:eP w0 A B Z U w V X Y P){t:Nat}(c:t<3)(a:Below w.heap.size w w1)(o:OnlyC (P t 1) w1 w2){v':Value}{p:List Nat}(i:aG 1 169 w2 v' (p.map aP) (fun b q=>P t 1 b q\/w1.heap.size<=b)):
  eP w0 A B Z U (w2.setCell ⟨A t,1,none⟩ v') (Ez V t 1 v') X (Hf Y t p) (Ez P t 1 (fun b q=>(P t 1 b q\/w1.heap.size<=b)/\b<w2.heap.size)):=by
 have e:=h.below a;obtain⟨g,d,z,n,y⟩:=e;have e:=d;have f:w0.heap.size<=w1.heap.size:=y.size;have s:(w2.setCell ⟨A t,1,none⟩ v').heap.size=w2.heap.size:=by simp[World.setCell]
 have u:=OnlyC.aR w2 (A t) 1 v';have D: ∀b q,b<w1.heap.size->(if b<w1.heap.size then g b q else 10*t+2)=g b q:=fun b q a=>ff a
 have j: ∀{t f b q},t<3->f<2->P t f b q->g b q=10*t+f+1/\b<w1.heap.size:=fun{t f b q} c i a=>match f,i,a with
  |0,_,a=>⟨((e t c).l1 b q a).1,((e t c).l1 b q a).2.1⟩
  |1,_,a=>⟨((e t c).l2 b q a).1,((e t c).l2 b q a).2.1⟩
  |_+2,i,_=>by omega
 have v: ∀q,¬P t 1 (A t) q:=fun q a=>by have e:=(j c (by decide) a).1;have m:=(d t c).own q;omega
 have x:OnlyC (fun b q=>P t 1 b q\/(b=A t/\q=1)) w1 (w2.setCell ⟨A t,1,none⟩ v'):=(o.m (fun _ _ _ h=>.inl h)).x u (fun _ _ _ h=>.inr h);refine⟨fun b q=>if b<w1.heap.size then g b q else 10*t+2,fun h l=>?_,fun b q C=>?_,fun b q k f=>n b q k (by have n:(if b<w1.heap.size then g b q else _)<30:=f;rw[ff (by omega)]at n;exact n),?_⟩
 ·by_cases n:h=t
  ·subst n;have f:=d h c;have k:=o.heap f.heap v;rw[pQ,gQ V v' (by omega),tC,pQ,gQ P _ (by omega)];refine⟨?_,fun q=>by rw[ff (lt_of_heap f.heap)];exact f.own q,?_,?_,?_,?_⟩
   ·have:=dp w2 (A h) 1 _ _ v' k;simpa using this
   ·refine(f.s1.only o (fun b q a m=>?_)).only u (fun b q a n=>?_)
    ·have r:=(f.l1 b q a).1;have k:=(j c (by decide) m).1;omega
    ·obtain⟨rfl,rfl⟩:=n;have r:=(f.l1 _ _ a).1;have k:=f.own 1;omega
   ·refine i.bound.only u (fun b q a n=>?_);obtain⟨rfl,rfl⟩:=n;rcases a.1 with e|e
    ·exact v 1 e
    ·have:=oT f.heap;omega
   ·intro b q a;have i:=f.l1 b q a;refine⟨?_,by rw[s];exact da i.2.1 o.size,i.2.2⟩;rw[ff i.2.1];exact i.1
   ·rintro b q ⟨e|e,m⟩
    ·have i:=f.l2 b q e;refine⟨?_,by rw[s];exact m,i.2.2⟩;rw[ff i.2.1];exact i.1
    ·refine⟨?_,by rw[s];exact m,.inr (by omega)⟩;rw[fb (by omega)]
  ·rw[gQ V v' (fun a=>n a.1),gQ V v' (fun a=>n a.1),CC Y p n,gQ P _ (fun a=>n a.1),gQ P _ (fun a=>n a.1)];refine(d h l).only x D (fun q a=>?_) (fun b q e a=>?_) (fun b q e a=>?_)
   ·rcases a with a|⟨r,_⟩
    ·have k:=(j c (by decide) a).1;have f:=(d h l).own q;omega
    ·have k:=(d h l).own q;have f:=(d t c).own q;rw[r]at k;omega
   ·have i:=((d h l).l1 b q e).1;rcases a with a|⟨rfl,rfl⟩
    ·have k:=(j c (by decide) a).1;omega
    ·have f:=(d t c).own 1;omega
   ·have i:=((d h l).l2 b q e).1;rcases a with a|⟨rfl,rfl⟩
    ·have k:=(j c (by decide) a).1;omega
    ·have f:=(d t c).own 1;omega
 ·have:=z b q C;exact⟨by show(if b<w1.heap.size then g b q else _)=99;rw[ff (by omega)];exact this.1,this.2⟩
 ·refine(y.m (fun b q e a=>?_)).x x (fun b q e a=>?_)
  ·show(if b<w1.heap.size then g b q else _)<30;rw[ff (by omega)];exact a
  ·show(if b<w1.heap.size then g b q else _)<30;rw[ff (by omega)];rcases a with a|⟨rfl,rfl⟩
   ·have:=(j c (by decide) a).1;omega
   ·have:=(d t c).own 1;omega
theorem eP.inPlace(h:eP w0 A B Z U w V X Y P){t:Nat}(f:t<3)(e:OnlyC (P t 0) w w2){j:List Pr}(k:aG 2 220 w2 (V t 0) (j.map ay) (P t 0)):eP w0 A B Z U w2 V (Hf X t j) Y P:=by
 obtain⟨a,c,b,g,i⟩:=h;refine⟨a,fun d h=>?_,b,g,i.x e (fun g q _ a=>by have:=((c t f).l1 g q a).1;omega)⟩;by_cases n:d=t
 ·subst n;have b:=c d f;have m: ∀q,¬P d 0 (A d) q:=fun q a=>by have i:=(b.l1 _ _ a).1;have l:=b.own q;omega
  rw[tC];exact⟨e.heap b.heap m,b.own,k,b.s2.only e (fun g q a l=>by have k:=(b.l2 g q a).1;have k:=(b.l1 g q l).1;omega),fun g q a=>let⟨a1,a2,a3⟩:=b.l1 g q a;⟨a1,da a2 e.size,a3⟩,fun g q a=>let⟨a1,a2,a3⟩:=b.l2 g q a;⟨a1,da a2 e.size,a3⟩⟩
 ·rw[CC X j n];refine(c d h).only e (fun _ _ _=>rfl) (fun q a=>?_) (fun g q i a=>?_) (fun g q i a=>?_)
  ·have k:=((c t f).l1 _ _ a).1;have b:=(c d h).own q;omega
  ·have b:=((c d h).l1 g q i).1;have k:=((c t f).l1 _ _ a).1;omega
  ·have b:=((c d h).l2 g q i).1;have k:=((c t f).l1 _ _ a).1;omega
end
def EA{α:Type}(a b c:α):Nat->α:=fun t=>if t=0 then a else if t=1 then b else c
def uZ{α:Type}(a b:α):Nat->α:=fun t=>if t=0 then a else b
@[simp] theorem aea {α:Type} (a b c:α):EA a b c 0=a:=rfl
@[simp] theorem aeb {α:Type} (a b c:α):EA a b c 1=b:=rfl
@[simp] theorem aec {α:Type} (a b c:α):EA a b c 2=c:=rfl
@[simp] theorem aed {α:Type} (a b:α):uZ a b 0=a:=rfl
@[simp] theorem aee {α:Type} (a b:α):uZ a b 1=b:=rfl
def Kc(H a c:Nat->Nat->Nat->Prop)(i:Nat)(b q:Nat):Prop:=(∃j,j≠i/\j≠i+1/\H (j+3) b q)\/(∃j,a (j+3) b q)\/ ∃j,c (j+3) b q
theorem eP.start{w:World}{d a i l r:Nat}{x v p:ND}{F:Nat->Nat->Prop}{t y m b A o:Value}{n e u:List Nat}{H j f:Nat->Nat->Nat->Prop}(k:aY w (aB w d) a x F t y n H)(E: ∀c q,F c q->c<w.heap.size)
  (g:aY w (bY w d) l v (H (i+3)) m b e j) (h:aY w (bY w d) r p (H (i+4)) A o u f):
  eP w (EA a l r) (fun z s=>EA (H (s+1)) (j (s+1)) (f (s+1)) z) (Kc H j f i) F w (fun z s=>EA (uZ t y s) (uZ m b s) (uZ A o s) z) (EA x.ps v.ps p.ps) (EA n e u) (fun z s=>EA (H (s+1)) (j (s+1)) (f (s+1)) z):=by
 obtain⟨n,p,D⟩:=xo H k.2.2.2.2.2.2.2;obtain⟨m,t,b⟩:=xo j g.2.2.2.2.2.2.2;obtain⟨b,u,e⟩:=xo f h.2.2.2.2.2.2.2;obtain⟨e,o⟩: ∃e:Nat->Nat->Nat,∀c q,e c q=if n c q=0 then 99 else if n c q=i+4 then(if m c q≠0/\m c q<4 then 9+m c q else 99)else if n c q=i+5 then(if b c q≠0/\b c q<4 then 19+b c q else 99)else if n c q<4 then n c q-1 else 99:=⟨_,fun _ _=>rfl⟩
 have y: ∀m c q,m<3->H m c q->e c q=m:=fun m c q B b=>by rw[o,p m c q b,fb (by omega),fb (by omega),fb (by omega),ff (by omega),ox]
 have s: ∀m c q,j m c q->e c q=if m<3 then 10+m else 99:=fun m c q b=>by rw[o,p (i+3) c q (g.own.1 m c q b),fb (by omega),ff rfl,t m c q b];split<;>split<;>omega
 have t: ∀m c q,f m c q->e c q=if m<3 then 20+m else 99:=fun m c q b=>by rw[o,p (i+4) c q (h.own.1 m c q b),fb (by omega),fb (by omega),ff rfl,u m c q b];split<;>split<;>omega
 have G: ∀u c q,u≠i->u≠i+1->H (u+3) c q->e c q=99:=fun u c q A C b=>by rw[o,p (u+3) c q b,fb (by omega),fb (by omega),fb (by omega),fb (by omega)]
 have p: ∀m c q,H m c q->c<w.heap.size:=fun m c q b=>E c q (k.own.1 m c q b);have v: ∀m c q,j m c q->c<w.heap.size:=fun m c q b=>p _ c q (g.own.1 m c q b);have j: ∀m c q,f m c q->c<w.heap.size:=fun m c q b=>p _ c q (h.own.1 m c q b);refine⟨e,fun z e=>?_,?_,fun c q _ f=>?_,OnlyC.refl _ _⟩;rotate_left 2
 ·rw[o]at f;by_cases o:n c q=0
  ·rw[ff o]at f;omega
  ·obtain⟨m,B⟩:=D c q o;exact k.own.1 m c q B
 ·match z,e with
  |0,_=>exact⟨k.1,fun q=>y 0 a q (by decide) (k.2.1 q),k.2.2.1,k.2.2.2.1,fun c q b=>⟨y 1 c q (by decide) b,p 1 c q b,.inl b⟩,fun c q b=>⟨y 2 c q (by decide) b,p 2 c q b,.inl b⟩⟩
  |1,_=>exact⟨g.1,fun q=>s 0 l q (g.2.1 q),g.2.2.1,g.2.2.2.1,fun c q b=>⟨s 1 c q b,v 1 c q b,.inl b⟩,fun c q b=>⟨s 2 c q b,v 2 c q b,.inl b⟩⟩
  |2,_=>exact⟨h.1,fun q=>t 0 r q (h.2.1 q),h.2.2.1,h.2.2.2.1,fun c q b=>⟨t 1 c q b,j 1 c q b,.inl b⟩,fun c q b=>⟨t 2 c q b,j 2 c q b,.inl b⟩⟩
  |_+3,e=>omega
 ·rintro c q (⟨u,A,C,b⟩|⟨u,b⟩|⟨u,b⟩)
  ·exact⟨G u c q A C b,p _ c q b⟩
  ·have:=s (u+3) c q b;rw[fb (by omega)]at this;exact⟨this,v _ c q b⟩
  ·have:=t (u+3) c q b;rw[fb (by omega)]at this;exact⟨this,j _ c q b⟩
section
variable{w0 w:World}{A:Nat->Nat}{B:Nat->Nat->Nat->Nat->Prop}{Z U:Nat->Nat->Prop}{V:Nat->Nat->Value}{X:Nat->List Pr}{Y:Nat->List Nat}{P:Nat->Nat->Nat->Nat->Prop}
theorem eP.keep(h:eP w0 A B Z U w V X Y P){d p:Nat}{k:ND}{K:Nat->Nat->Prop}(a:bY w0 d p k K)(c: ∀b q,K b q->Z b q):bY w d p k K:=by obtain⟨g,_,e,_,f⟩:=h;exact a.only f (fun b q a f=>by have:=(e b q (c b q a)).1;omega)
theorem eP.node{d a t:Nat}{x:ND}{K:Nat->Nat->Prop}{b c:Value}{e:List Nat}{H:Nat->Nat->Nat->Prop}(i:aY w0 (bY w0 d) a x K b c e H)(J: ∀c b q,H c b q->c<x.ks.length+3)(f: ∀b q,K b q->b<w0.heap.size)
  (L:eP w0 A B Z U w V X Y P) (F:t<3) (z:A t=a) (G:B t 0=H 1) (g:B t 1=H 2) (y: ∀k b q,H (k+3) b q->Z b q) (lo hi:Nat) (I:lo<=hi) (E:hi<=x.ks.length) (c:List (Nat×ND)) (M:Nat->Nat->Nat->Prop)
  (D:Y t=e.take lo++c.map Prod.fst++e.drop hi) (o: ∀m b q,M m b q->Z b q/\ ¬K b q) (s: ∀m j b q,M m b q->M j b q->m=j) (u: ∀m p l,c[m]?=some (p,l)->bY w0 d p l (M m)) (v:d=0->x.ks.take lo++c.map Prod.snd++x.ks.drop hi=[]):
  ∃R,aB w d a (.mk (X t) (x.ks.take lo++c.map Prod.snd++x.ks.drop hi)) R/\ ∀b q,R b q->H 0 b q\/P t 0 b q\/P t 1 b q\/(∃k,(k<lo\/(hi<=k/\k<x.ks.length))/\H (k+3) b q)\/ ∃m,M m b q:=by
 have r:=fun d p l K=> @eP.keep w0 w A B Z U V X Y P L d p l K;obtain⟨n,h,C,_,e⟩:=L;have e:=h t F;rw[z,G,g]at e;have G: ∀b q,P t 0 b q->H 1 b q\/ ¬K b q:=fun b q h=>(e.l1 b q h).2.2.imp id (fun z g=>by have:=f b q g;omega);have F: ∀b q,P t 1 b q->H 2 b q\/ ¬K b q:=fun b q h=>(e.l2 b q h).2.2.imp id (fun z g=>by have:=f b q g;omega)
 have z:=aY.splice (w':=w) (a':=a) (ps':=X t) (vp':=V t 0) (vk':=V t 1) (P0:=H 0) (P1:=P t 0) (P2:=P t 1) (M:=M) i lo hi I E c e.heap i.2.1 e.s1 (by rw[<-D];exact e.s2)
  (fun m p l c=>r d p l _ (u m p l c) (fun b q f=>(o m b q f).1)) (fun k p l _ h g=>r d p l _ (i.2.2.2.2.2.1 k p l h g) (fun b q f=>y k b q f)) (fun b q f=>.inl f) G F (fun m b q f=>.inr (o m b q f).2) s
  (fun m j b q l c h=>by
   have g: ∀m,OJ (H 0) (P t 0) (P t 1) M m b q->(m=1/\n b q=10*t+1)\/(m=2/\n b q=10*t+2)\/(∃f,m=f+3/\n b q=99/\M f b q):=fun m c=>match m,c with
    |0,c=>absurd (i.own.1 0 b q c) l
    |1,c=>.inl ⟨rfl,(e.l1 b q c).1⟩
    |2,c=>.inr (.inl ⟨rfl,(e.l2 b q c).1⟩)
    |f+3,c=>.inr (.inr ⟨f,rfl,(C b q (o f b q c).1).1,c⟩)
   rcases g m c with⟨c,e⟩|⟨c,e⟩|⟨f,c,e,i⟩<;>rcases g j h with⟨e,c⟩|⟨e,c⟩|⟨h,e,c,g⟩<;>first
    |omega
    |(have:=s f h b q i g;omega))
 refine⟨_,z.close v,?_⟩;rintro b q ⟨k,c⟩;rcases gp c with c|c|c|⟨m,e,c⟩|⟨m,_,c⟩
 ·exact .inl c
 ·exact .inr (.inl c)
 ·exact .inr (.inr (.inl c))
 ·have:=J _ b q c;exact .inr (.inr (.inr (.inl ⟨m,by omega,c⟩)))
 ·exact .inr (.inr (.inr (.inr ⟨m,c⟩)))
theorem eP.parent{d a i:Nat}{x:ND}{F:Nat->Nat->Prop}{c e:Value}{b:List Nat}{H:Nat->Nat->Nat->Prop}(f:aY w0 (aB w0 d) a x F c e b H)(r: ∀c q,F c q->c<w0.heap.size)(hi:i+2<=x.ks.length)
  (g:eP w0 A B Z U w V X Y P) (j:A 0=a) (k:B 0 0=H 1) (e:B 0 1=H 2) (G: ∀v c q,v≠i->v≠i+1->H (v+3) c q->Z c q) (n:List (Nat×ND)) (M:Nat->Nat->Nat->Prop)
  (I:Y 0=b.take i++n.map Prod.fst++b.drop (i+2)) (h: ∀m c q,M m c q->H (i+3) c q\/H (i+4) c q\/(∃s,s<2/\(P 1 s c q\/P 2 s c q))) (D: ∀m o c q,M m c q->M o c q->m=o) (E: ∀m z y,n[m]?=some (z,y)->aB w d z y (M m))
  (C: ∀s c q,s<2->(P 1 s c q\/P 2 s c q)->H (i+3) c q\/H (i+4) c q\/w0.heap.size<=c):
  aB w (d+1) a (.mk (X 0) (x.ks.take i++n.map Prod.snd++x.ks.drop (i+2))) (fun c q=>F c q\/w0.heap.size<=c):=by
 have J:=fun z y K=> @eP.keep w0 w A B Z U V X Y P g (d+1) z y K;obtain⟨l,t,b,_,p⟩:=g;have g:=t 0 (by decide);rw[j,k,e]at g;have L: ∀c q,P 0 0 c q->H 1 c q\/ ¬F c q:=fun c q k=>(g.l1 c q k).2.2.imp id (fun b j=>by have:=r c q j;omega);have K: ∀c q,P 0 1 c q->H 2 c q\/ ¬F c q:=fun c q k=>(g.l2 c q k).2.2.imp id (fun b j=>by have:=r c q j;omega)
 have u: ∀m c q,M m c q->H (i+3) c q\/H (i+4) c q\/(w0.heap.size<=c/\10<=l c q):=fun m c q e=>by
  rcases h m c q e with b|b|⟨s,p,b⟩
  ·exact .inl b
  ·exact .inr (.inl b)
  ·rcases C s c q p b with h|h|h
   ·exact .inl h
   ·exact .inr (.inl h)
   ·refine .inr (.inr ⟨h,?_⟩);have C:=t 1 (by decide);have h:=t 2 (by decide)
    match s,p,b with
    |0,_,.inl b=>have:=(C.l1 c q b).1;omega
    |0,_,.inr b=>have:=(h.l1 c q b).1;omega
    |1,_,.inl b=>have:=(C.l2 c q b).1;omega
    |1,_,.inr b=>have:=(h.l2 c q b).1;omega
    |_+2,p,_=>omega
 have s:=aY.splice (d:=d+1) (w':=w) (a':=a) (ps':=X 0) (vp':=V 0 0) (vk':=V 0 1) (P0:=H 0) (P1:=P 0 0) (P2:=P 0 1) (M:=M) f i (i+2) (by omega) hi n g.heap f.2.1 g.s1 (by rw[<-I];exact g.s2)
  E (fun v z y p k j=>J z y _ (f.2.2.2.2.2.1 v z y k j) (fun c q h=>G v c q (by omega) (by omega) h)) (fun c q h=>.inl h) L K
  (fun m c q h=>by
   rcases u m c q h with b|b|⟨b,_⟩
   ·exact .inl ⟨i,by omega,by omega,b⟩
   ·exact .inl ⟨i+1,by omega,by omega,b⟩
   ·exact .inr (fun h=>by have:=r c q h;omega)) D
  (fun m o c q h e k=>by
   have j: ∀m,OJ (H 0) (P 0 0) (P 0 1) M m c q->(m=1/\l c q=1)\/(m=2/\l c q=2)\/(∃n,m=n+3/\10<=l c q/\M n c q):=fun m e=>match m,e with
    |0,e=>absurd (f.own.1 0 c q e) h
    |1,e=>.inl ⟨rfl,(g.l1 c q e).1⟩
    |2,e=>.inr (.inl ⟨rfl,(g.l2 c q e).1⟩)
    |n+3,e=>by
     refine .inr (.inr ⟨n,rfl,?_,e⟩);rcases u n c q e with b|b|⟨_,b⟩
     ·exact absurd (f.own.1 _ c q b) h
     ·exact absurd (f.own.1 _ c q b) h
     ·exact b
   rcases j m e with⟨e,h⟩|⟨e,h⟩|⟨n,e,h,l⟩<;>rcases j o k with⟨h,e⟩|⟨h,e⟩|⟨k,h,e,j⟩<;>first
    |omega
    |(have:=D n k c q l j;omega))
 refine(aY.close (d:=d+1) s (fun e=>by omega)).m ?_;rintro c q ⟨v,p⟩;rcases gp p with e|e|e|⟨m,_,e⟩|⟨m,_,e⟩
 ·exact .inl (f.own.1 0 c q e)
 ·exact(g.l1 c q e).2.2.imp (f.own.1 1 c q) id
 ·exact(g.l2 c q e).2.2.imp (f.own.1 2 c q) id
 ·exact .inl (f.own.1 _ c q e)
 ·rcases u m c q e with b|b|⟨b,_⟩
  ·exact .inl (f.own.1 _ c q b)
  ·exact .inl (f.own.1 _ c q b)
  ·exact .inr b
end
end Go.Proofs.YtehccbdajiiaaaaGreatDoor
