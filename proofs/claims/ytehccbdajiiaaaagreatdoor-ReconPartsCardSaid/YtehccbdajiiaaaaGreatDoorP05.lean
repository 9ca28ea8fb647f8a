import Derived.Test.YtehccbdajiiaaaaGreatDoorP01
import Derived.Test.YtehccbdajiiaaaaGreatDoorP04
import Derived.Sort.Walk0
import Derived.Deep.CutRange
namespace Go.Proofs.YtehccbdajiiaaaaGreatDoor
open Go.Proofs.Tryz
set_option maxRecDepth 100000
set_option maxHeartbeats 16000000
open Go.RowKit
def aA(p:Pr):List Value:=[sd p.1,sd p.2]
def aN(a:Nat):List Value:=[r7 a]
def tK(H:Nat->Nat->Nat->Prop)(F:Nat->Nat->Prop):Prop:=(∀i b o,H i b o->F b o)/\ ∀i j b o,H i b o->H j b o->i=j
def iL(w:World)(e:Nat->ND->(Nat->Nat->Prop)->Prop)(a:Nat)(x:ND)(F:Nat->Nat->Prop):Prop:=
 ∃(c d:Value) (b:List Nat) (H:Nat->Nat->Nat->Prop),w.heap[a]?=some (tg c d)/\(∀o,H 0 a o)/\aH 2 220 w c (x.ps.map aA) (H 1)/\aH 1 169 w d (b.map aN) (H 2)/\
  b.length=x.ks.length/\(∀i p k,b[i]?=some p->x.ks[i]?=some k->e p k (H (i+3)))/\tK H F
def aG(w:World):Nat->Nat->ND->(Nat->Nat->Prop)->Prop
 |0,a,x,F=>x.ks=[]/\iL w (fun _ _ _=>True) a x F
 |d+1,a,x,F=>iL w (aG w d) a x F
section
variable{w w':World}{F G:Nat->Nat->Prop}{a:Nat}{x:ND}
theorem tK.mono{H:Nat->Nat->Nat->Prop}(h:tK H F)(a: ∀b o,F b o->G b o):tK H G:=⟨fun i b o c=>a b o (h.1 i b o c),h.2⟩
abbrev tK.m:=@tK.mono
theorem iL.mono{b:Nat->ND->(Nat->Nat->Prop)->Prop}(n:iL w b a x F)(f: ∀c o,F c o->G c o):iL w b a x G:=by obtain⟨c,d,e,H,j,i,h,m,l,k,g⟩:=n;exact⟨c,d,e,H,j,i,h,m,l,k,g.m f⟩
abbrev iL.m:=@iL.mono
theorem aG.mono{d:Nat}(h:aG w d a x F)(b: ∀c o,F c o->G c o):aG w d a x G:=by
 cases d with
 |zero=>exact⟨h.1,h.2.m b⟩
 |succ d=>exact iL.m h b
abbrev aG.m:=@aG.mono
theorem aG.base{d:Nat}(l:aG w d a x F):iL w (fun _ _ _=>True) a x F:=by
 cases d with
 |zero=>exact l.2
 |succ d=>obtain⟨b,c,e,H,i,h,g,k,j,m,f⟩:=l;exact⟨b,c,e,H,i,h,g,k,j,fun _ _ _ _ _=>trivial,f⟩
theorem iL.only{e sub':Nat->ND->(Nat->Nat->Prop)->Prop}(y:iL w e a x F)(d:OnlyC G w w')(j: ∀c o,F c o-> ¬G c o)(r: ∀p k K,(∀c o,K c o-> ¬G c o)->e p k K->sub' p k K):iL w' sub' a x F:=by obtain⟨m,n,h,H,t,g,q,v,u,s,f⟩:=y;have b: ∀i c o,H i c o-> ¬G c o:=fun i c o l=>j c o (f.1 i c o l);exact⟨m,n,h,H,d.heap t (fun c=>b 0 a c (g c)),g,q.only d (b 1),v.only d (b 2),u,fun i p k l c=>r p k _ (b _) (s i p k l c),f⟩
theorem aG.only(b:OnlyC G w w'): ∀{d:Nat} {a:Nat} {x:ND} {F:Nat->Nat->Prop},aG w d a x F->(∀c o,F c o-> ¬G c o)->aG w' d a x F
 |0,_,_,_,h,hd=>⟨h.1,h.2.only b hd (fun _ _ _ _ h=>h)⟩
 |_+1,_,_,_,h,hd=>iL.only h b hd (fun _p _k _K e c=>aG.only b c e)
theorem aG.below{d:Nat}(h:aG w d a x F)(b:Below w.heap.size w w'):aG w' d a x F:=h.only (rj b) (fun _ _ _ h=>h)
theorem aG.bound: ∀{d:Nat} {a:Nat} {x:ND} {F:Nat->Nat->Prop},aG w d a x F->aG w d a x (fun e o=>F e o/\e<w.heap.size)
 |0,_,_,_F,⟨h0,vp,vk,aC,H,h1,h2,h3,h4,h5,_h6,h7⟩=>
  ⟨h0,vp,vk,aC,fun i e o=>H i e o/\e<w.heap.size,h1,fun o=>⟨h2 o,pb h1⟩,h3.bound,h4.bound,h5,fun _ _ _ _ _=>trivial,fun i e o ⟨b,c⟩=>⟨h7.1 i e o b,c⟩,fun i j e o b c=>h7.2 i j e o b.1 c.1⟩
 |_+1,_,_,_F,⟨vp,vk,aC,H,h1,h2,h3,h4,h5,h6,h7⟩=>
  ⟨vp,vk,aC,fun i e o=>H i e o/\e<w.heap.size,h1,fun o=>⟨h2 o,pb h1⟩,h3.bound,h4.bound,h5,fun i p k f g=>(h6 i p k f g).bound,fun i e o ⟨b,c⟩=>⟨h7.1 i e o b,c⟩,fun i j e o b c=>h7.2 i j e o b.1 c.1⟩
end
theorem aH.pair{w:World}{v:Value}{ps:List Pr}{F:Nat->Nat->Prop}(s:aH 2 220 w v (ps.map aA) F){i:Nat}{p:Pr}(c:ps[i]?=some p):
  ∃b o g,v=.slice (some ⟨b,o,none⟩) ps.length g/\ps.length<=g/\g<=maxLen/\w.cell? ⟨b,o+i*2,none⟩=some (sd p.1)/\w.cell? ⟨b,o+i*2+1,none⟩=some (sd p.2)/\w.frozen? ⟨b,o+i*2,none⟩=false/\w.frozen? ⟨b,o+i*2+1,none⟩=false:=by
 have r:=(bd.1 c).1;obtain⟨b,o,g,q,rfl,k,h,e,a,m,n,f⟩:=s.lies (by simp;omega);have d:(ps.map aA)[i]?=some (aA p):=by simp[c]
 have l:=vU e i _ d 0 _ rfl;have j:=vU e i _ d 1 _ rfl;refine⟨b,o,g,by simp,by simpa using k,h,ph a (f _ _ l),?_,frozen_of_heap a _,frozen_of_heap a _⟩;have:=ph a (f _ _ j);rwa[show o+(i*2+1)=o+i*2+1 by omega]at this
theorem aH.ptr{w:World}{v:Value}{ps:List Nat}{F:Nat->Nat->Prop}(r:aH 1 169 w v (ps.map aN) F){i p:Nat}(a:ps[i]?=some p):
  ∃k o c,v=.slice (some ⟨k,o,none⟩) ps.length c/\ps.length<=c/\c<=maxLen/\w.cell? ⟨k,o+i,none⟩=some (r7 p):=by
 have m:=(bd.1 a).1;obtain⟨k,o,c,l,rfl,f,b,g,d,n,q,h⟩:=r.lies (by simp;omega);have e:(ps.map aN)[i]?=some (aN p):=by simp[a]
 have j:=vU g i _ e 0 _ rfl;refine⟨k,o,c,by simp,by simpa using f,b,?_⟩;have:=ph d (h _ _ j);rwa[show o+(i*1+0)=o+i by omega]at this
theorem aH.slice{k:Nat}{t:TypeId}{w:World}{v:Value}{xs:List (List Value)}{F:Nat->Nat->Prop}(h:aH k t w v xs F): ∃A c,v=.slice A xs.length c/\xs.length<=c/\c<=maxLen:=by obtain⟨A,c,a,d,b,_⟩:=h;exact⟨A,c,a,d,b⟩
def geq(key:List UInt8)(ps:List Pr)(i:Nat):Bool:=match ps[i]? with
 |some p=>!decide (p.1<key)
 |none=>true
theorem VU{key:List UInt8}{ps:List Pr}{i:Nat}(hi:i<posOf key ps):geq key ps i=false:=by unfold geq;have b:=eJ key ps;have a:ps[i]?=some (ps[i]'(by omega)):=ao _;rw[a];have:=eW key ps (ps[i]'(by omega)) (List.mem_take_iff_getElem.2 ⟨i,by omega,rfl⟩);simp[this]
theorem VV{key:List UInt8}{ps:List Pr}(hu:Up ps){i:Nat}(hi:posOf key ps<=i):geq key ps i=true:=by
 unfold geq;split
 ·rename_i p hp;have hlt:=(bd.1 hp).1;have h0:ps[posOf key ps]?=some (ps[posOf key ps]'(by omega)):=ao _;have hd:=mY key ps _ h0;by_cases e:posOf key ps=i
  ·have:ps[posOf key ps]'(by omega)=p:=by
    have:=hp;rw[<-e,h0]at this;injection this
   rw[this]at hd;simp[hd]
  ·have:=(List.pairwise_iff_getElem.1 hu) (posOf key ps) i (by omega) hlt (by omega);have hp':ps[i]'hlt=p:=(bd.1 hp).2;rw[hp']at this;have: ¬p.1<key:=fun h=>hd (fq this h);simp[this]
 ·rfl
def RN(w:World)(f:Value)(key:List UInt8)(ps:List Pr):Prop:=
 ∃(B C:Nat),f=.func (.func 242) #[] #[r7 B,r7 C]/\
  ∀(i:Nat) (n:Nat),i<ps.length->Calls prog 242 #[rv i,r7 B,r7 C] (w.drewN n) fun e w'=>e=.returned (.bool (geq key ps i))/\ ∃m,w'=w.drewN m
theorem half(i j:Nat)(h:i<j):i<=(i+j)/2/\(i+j)/2<j:=by omega
theorem KH(w:World)(f:Value)(key:List UInt8)(ps:List Pr)(d:Up ps)(p:ps.length<=1000)(b:RN w f key ps):
  Calls prog 241 #[rv ps.length,f] w fun o w'=>o=.returned (rv (posOf key ps))/\ ∃n,w'=w.drewN n:=by
 obtain⟨B,C,rfl,b⟩:=b;have c:=AM b d (eJ key ps);clear b d;go_enter func241,ntmps241;go_wp2_with fail
 go_loopw [5,6] (fun i j b=> ∃a g n:Nat,i=rv (a:Int)/\j=rv (g:Int)/\b=w.drewN n/\a<=posOf key ps/\posOf key ps<=g/\g<=ps.length) (fun i j _=>(intOf j).toNat-(intOf i).toNat)
 case atStart=>exact⟨0,ps.length,0,rfl,rfl,rfl,dq _,c.o.d,b8 _⟩
 case round=>
  obtain⟨a,g,n,rfl,rfl,rfl,d,b,j⟩:=hrel;have e:=AI d b;clear d b;by_cases h:a<g
  ·have k:=half a g h;obtain⟨m,b⟩:=rm ((a+g)/2);have i:=al b;rw[<-b]at k;clear b;have b:((a:Int)+(g:Int))/2=(m:Int):=by have:=i.o;omega
   have l:=al b;clear b;go_wp2_with fail;rw[l.o];by_cases d:m<posOf key ps
   ·have b:=c.o.1 m n (by omega);rw[VU d]at b;refine b.m ?_;rintro o w2 ⟨rfl,q,rfl⟩;clear b;go_wp2_with fail;go_roundw
    case rel=>exact⟨m+1,g,q,by go_num,rfl,rfl,d,e.o.2,j⟩
    case measure=>simp[intOf];omega
   ·have b:=c.o.1 m n (by omega);rw[VV c.o.2.1 (Nat.le_of_not_lt d)]at b;refine b.m ?_;rintro o w2 ⟨rfl,q,rfl⟩;clear b;go_wp2_with fail;go_roundw
    case rel=>exact⟨a,m,q,rfl,rfl,rfl,e.o.1,Nat.le_of_not_lt d,by omega⟩
    case measure=>simp[intOf];omega
  ·go_wp2_with fail;go_ret
   have:=e.o;obtain rfl:a=posOf key ps:=by omega
   exact⟨rfl,_,rfl⟩
theorem NB(w:World)(F:Nat->Nat->Prop)(a B C:Nat)(x:ND)(key:List UInt8)(i:Nat)(t:iL w (fun _ _ _=>True) a x F)(g:w.cell? ⟨B,0,none⟩=some (r7 a))(q:w.cell? ⟨C,0,none⟩=some (sd key))(hi:i<x.ps.length):
  Calls prog 242 #[rv i,r7 B,r7 C] w fun e w'=>e=.returned (.bool (geq key x.ps i))/\ ∃m,w'=w.drewN m:=by
 obtain⟨l,n,f,H,d,_,c,_⟩:=t;obtain⟨p,b⟩: ∃p,x.ps[i]?=some p:=⟨_,ao hi⟩;obtain⟨u,o,v,rfl,r,j,k,_⟩:=c.pair b;have h:w.cell? ⟨a,0,none⟩=some (.slice (some ⟨u,o,none⟩) x.ps.length v):=by simp[World.cell?,d]
 have e:=al (show geq key x.ps i=!decide (p.1<key) by unfold geq;rw[b]);have s:(0:Int)<=(i:Int):=by omega
 have m:(i:Int)<(x.ps.length:Int):=by omega
 clear d c b;go_enter func242,ntmps242;go_wp2_with fail;go_quiet(fail);go_wp2_with fail;go_ret
 exact⟨by rw[e.o,<-bytesLess_eq];rfl,_,rfl⟩
theorem aI{B:Nat}{w w':World}(h:Below B w w')(n:Nat):Below B w (w'.drewN n):=⟨h.os,h.tape,h.output,h.size,h.block⟩
theorem mI(w:World)(a b:Obj):Below w.heap.size w ((w.alloc a).alloc b):=((aw _ _).alloc (b8 _) _).alloc (by simp) _
theorem find_ok(w:World)(F:Nat->Nat->Prop)(a:Nat)(x:ND)(key:List UInt8)(q:iL w (fun _ _ _=>True) a x F)(f:Up x.ps)(l:x.ps.length<=1000):
  Calls prog 213 #[r7 a,sd key] w fun s w'=>s=.returned (.tuple #[rv (posOf key x.ps),.bool (hit key x.ps)])/\Below w.heap.size w w':=by
 have b:=mI w (sz a) (uc key.toArray);have h:=Lib.cell?_alloc_some (uc key.toArray) (aB (an w (sz a)));have c:=aB (an (w.alloc (sz a)) (uc key.toArray));rw[show(w.alloc (sz a)).heap.size=w.heap.size+1 by simp]at c;go_enter func213,ntmps213;go_upto_region 1 with fail;generalize (w.alloc (sz a)).alloc (uc key.toArray)=w2 at h c b⊢;have e:=q.only (sub':=fun _ _ _=>True) (rj b) (fun _ _ _ q=>q) (fun _ _ _ _ _=>trivial);obtain⟨B,i⟩:=rl (w.heap.size);rw[i]at h c⊢;have j:=al b;have u:=AM e f (eJ key x.ps);have g:=al (KH w2 (.func (.func 242) #[] #[r7 B,.pointer (some ⟨B+1,0,none⟩)]) key x.ps f l ⟨B,B+1,rfl,fun k r d=>(NB (w2.drewN r) F a B (B+1) x key k e h c d).m (fun s w' ⟨k,m,d⟩=>⟨k,r+m,by rw[d,World.drewN_drewN]⟩)⟩);obtain⟨D,E,z,I,k,_,d,_⟩:=e;obtain⟨A,H,rfl,n,m⟩:=d.slice;have t:w2.cell? ⟨a,0,none⟩=some (.slice A x.ps.length H):=by simp[World.cell?,k]
 have p:=al d;clear q f b i k d n m;go_wp2_with fail;refine g.o.m ?_;rintro s y ⟨rfl,r,rfl⟩;clear g;by_cases d:posOf key x.ps<x.ps.length
 ·obtain⟨m,g⟩: ∃m,x.ps[posOf key x.ps]?=some m:=⟨_,ao d⟩;obtain⟨J,o,C,b,_,_,G,_⟩:=p.o.pair g;injection b with b v f;subst b f;have i:=al (show hit key x.ps=decide (m.1=key) by unfold hit;rw[g]);have k:decide (posOf key x.ps<x.ps.length)=true:=by simpa using d
  have q:(0:Int)<=(posOf key x.ps:Int):=by omega
  have n:(posOf key x.ps:Int)<(x.ps.length:Int):=by omega
  generalize b:posOf key x.ps=P at *;have f:=al b;clear g b;go_wp2_with fail;go_quiet(fail);go_wp2_with fail
  go_ret2
  exact⟨by rw[f.o,i.o,<-Bool.beq_eq_decide_eq];rfl,aI (aI j.o _) _⟩
 ·have k:decide (posOf key x.ps<x.ps.length)=false:=by simpa using d
  have i:=al (show hit key x.ps=false by unfold hit;rw[List.getElem?_eq_none (by omega)]);generalize b:posOf key x.ps=P at *;have f:=al b;clear b;go_wp2_with fail;go_quiet(fail);go_wp2_with fail
  go_ret2
  exact⟨by rw[f.o,i.o];rfl,aI (aI j.o _) _⟩
theorem Gf{_k:Nat}{xs:List (List Value)}(i j:Nat)(u:Value)(h:(xs.take i).flatten[j]?=some u):xs.flatten[j]?=some u:=by
 have:xs.flatten=(xs.take i).flatten++(xs.drop i).flatten:=by rw[<-lE,List.take_append_drop]
 rw[this,kt (List.getElem?_eq_some_iff.1 h).1];exact h
theorem Gg{k:Nat}{xs:List (List Value)}(c: ∀x∈xs,x.length=k){i:Nat}(hi:i<=xs.length)(j:Nat)(u:Value)(h:(xs.drop i).flatten[j]?=some u):xs.flatten[i*k+j]?=some u:=by
 have a:xs.flatten=(xs.take i).flatten++(xs.drop i).flatten:=by rw[<-lE,List.take_append_drop]
 have d:(xs.take i).flatten.length=i*k:=by rw[bL (fun x b=>c x (List.mem_of_mem_take b)),lk,oB hi]
 rw[a,kb (by omega),d,Nat.add_sub_cancel_left];exact h
theorem aH.parts{k:Nat}{t:TypeId}{w:World}{v:Value}{xs:List (List Value)}{F:Nat->Nat->Prop}(C:aH k t w v xs F)(y:0<xs.length): ∃e o p,v=.slice (some ⟨e,o,none⟩) xs.length p/\xs.length<=p/\p<=maxLen/\
  (∀i,i<=xs.length->aH k t w (.slice (some ⟨e,o,none⟩) i i) (xs.take i) (fun a q=>F a q/\a=e/\q<o+i*k))/\
  (∀j,j<=xs.length->aH k t w (.slice (some ⟨e,o+j*k,none⟩) (xs.length-j) (xs.length-j)) (xs.drop j) (fun a q=>F a q/\a=e/\o+j*k<=q)):=by
 obtain⟨e,o,p,m,rfl,g,r,b,l,B,h,n⟩:=C.lies y;have z:xs.length*k<=p*k:=dy k g;refine⟨e,o,p,rfl,g,r,fun i a=>?_,fun j s=>?_⟩
 ·have A:i*k<=xs.length*k:=dy k a;refine⟨_,i,by simp[oB a],by simp;omega,by omega,fun x a=>b x (List.mem_of_mem_take a),.inr ⟨e,o,m,rfl,l,by omega,fun q c f=>⟨h q c (by omega),rfl,f⟩,fun q u d=>n q u (Gf (_k:=k) i q u d)⟩⟩
 ·have i:j*k+(xs.length-j)*k=xs.length*k:=by rw[<-Nat.add_mul];congr 1;omega
  refine⟨_,xs.length-j,by simp,by simp,by omega,fun x a=>b x (List.mem_of_mem_drop a),.inr ⟨e,o+j*k,m,rfl,l,by omega,fun q c f=>⟨h q (by omega) (by omega),rfl,c⟩,fun q u d=>?_⟩⟩;have:=n _ u (Gg b s q u d);rw[show o+(j*k+q)=o+j*k+q by omega]at this;exact this
def aZ(w:World)(e:Nat->ND->(Nat->Nat->Prop)->Prop)(a:Nat)(x:ND)(F:Nat->Nat->Prop)(c d:Value)(b:List Nat)(H:Nat->Nat->Nat->Prop):Prop:=
 w.heap[a]?=some (tg c d)/\(∀o,H 0 a o)/\aH 2 220 w c (x.ps.map aA) (H 1)/\aH 1 169 w d (b.map aN) (H 2)/\
  b.length=x.ks.length/\(∀i p k,b[i]?=some p->x.ks[i]?=some k->e p k (H (i+3)))/\tK H F
def bX(w:World):Nat->Nat->ND->(Nat->Nat->Prop)->Prop
 |0=>fun _ _ _=>True
 |d+1=>aG w d
theorem aZ.trim{w:World}{c:Nat->ND->(Nat->Nat->Prop)->Prop}{a:Nat}{x:ND}{F:Nat->Nat->Prop}{g h:Value}{e:List Nat}{H:Nat->Nat->Nat->Prop}(v:aZ w c a x F g h e H)(l: ∀p k K b,(∀d q,K d q->b d q)->c p k K->c p k b):
  aZ w c a x F g h e (fun i d q=>H i d q/\i<x.ks.length+3):=by
 obtain⟨m,n,r,s,u,t,j⟩:=v;refine⟨m,fun q=>⟨n q,by omega⟩,r.m (fun d q b=>⟨b,by omega⟩),s.m (fun d q b=>⟨b,by omega⟩),u,fun i p k o f=>l p k _ _ (fun d q b=>⟨b,?_⟩) (t i p k o f),fun i d q b=>j.1 i d q b.1,fun i o d q k b=>j.2 i o d q k.1 b.1⟩;have:=(bd.1 f).1;omega
theorem aG.open_{w:World}{d a:Nat}{x:ND}{F:Nat->Nat->Prop}(h:aG w d a x F):(d=0->x.ks=[])/\ ∃c e b H,aZ w (bX w d) a x F c e b H/\ ∀k l q,H k l q->k<x.ks.length+3:=by
 cases d with
 |zero=>obtain⟨i,c,e,b,H,f⟩:=h;exact⟨fun _=>i,c,e,b,_,aZ.trim f (fun _ _ _ _ _ h=>h),fun k l q g=>g.2⟩
 |succ d=>obtain⟨c,e,b,H,f⟩:=h;exact⟨fun j=>absurd j (by omega),c,e,b,_,aZ.trim f (fun _ _ _ _ j h=>aG.m h j),fun k l q g=>g.2⟩
theorem aZ.close{w:World}{d a:Nat}{x:ND}{F:Nat->Nat->Prop}{b c:Value}{e:List Nat}{H:Nat->Nat->Nat->Prop}(h:aZ w (bX w d) a x F b c e H)(f:d=0->x.ks=[]):aG w d a x F:=by
 cases d with
 |zero=>exact⟨f rfl,_,_,_,_,h⟩
 |succ d=>exact⟨_,_,_,_,h⟩
theorem bX.only{w w':World}{G:Nat->Nat->Prop}(a:OnlyC G w w'){d p:Nat}{k:ND}{K:Nat->Nat->Prop}(h:bX w d p k K)(b: ∀c o,K c o-> ¬G c o):bX w' d p k K:=by
 cases d with
 |zero=>trivial
 |succ d=>exact aG.only a h b
theorem bX.mono{w:World}{d p:Nat}{k:ND}{K a:Nat->Nat->Prop}(h:bX w d p k K)(b: ∀c o,K c o->a c o):bX w d p k a:=by
 cases d with
 |zero=>trivial
 |succ d=>exact aG.m h b
abbrev bX.m:=@bX.mono
def RO(H:Nat->Nat->Nat->Prop)(P0 P1 P2:Nat->Nat->Prop)(lo n a:Nat)(M:Nat->Nat->Nat->Prop):Nat->Nat->Nat->Prop
 |0=>P0
 |1=>P1
 |2=>P2
 |j+3=>fun b q=>(j<lo/\H (j+3) b q)\/(lo<=j/\j<lo+n/\M (j-lo) b q)\/(lo+n<=j/\H (j-n+a+3) b q)
def NC(P0 P1 P2:Nat->Nat->Prop)(M:Nat->Nat->Nat->Prop):Nat->Nat->Nat->Prop
 |0=>P0
 |1=>P1
 |2=>P2
 |m+3=>M m
theorem Jl{H M:Nat->Nat->Nat->Prop}{F P0 P1 P2:Nat->Nat->Prop}{lo n a:Nat}(_t: ∀i b o,H i b o->F b o)(r: ∀b q,P0 b q->H 0 b q\/ ¬F b q)(s: ∀b q,P1 b q->H 1 b q\/ ¬F b q)(l: ∀b q,P2 b q->H 2 b q\/ ¬F b q)
  (p: ∀m b q,M m b q->(∃i,lo<=i/\i<lo+a/\H (i+3) b q)\/ ¬F b q) {j b q:Nat} (c:F b q) (h:RO H P0 P1 P2 lo n a M j b q):
  ∃m,H m b q/\((j<3/\m=j)\/(3<=j/\j<lo+3/\m=j)\/(lo+n+3<=j/\m+n=j+a)\/(∃k,k<n/\j=lo+k+3/\M k b q/\lo+3<=m/\m<lo+a+3)):=by
 match j,h with
 |0,h=>exact⟨0,(r b q h).elim id (fun e=>absurd c e),.inl ⟨by omega,rfl⟩⟩
 |1,h=>exact⟨1,(s b q h).elim id (fun e=>absurd c e),.inl ⟨by omega,rfl⟩⟩
 |2,h=>exact⟨2,(l b q h).elim id (fun e=>absurd c e),.inl ⟨by omega,rfl⟩⟩
 |j+3,h=>
  rcases h with⟨g,d⟩|⟨g,d,f⟩|⟨g,d⟩
  ·exact⟨_,d,.inr (.inl ⟨by omega,by omega,rfl⟩)⟩
  ·rcases p _ b q f with⟨i,m,u,k⟩|e
   ·exact⟨_,k,.inr (.inr (.inr ⟨j-lo,by omega,by omega,f,by omega,by omega⟩))⟩
   ·exact absurd c e
  ·exact⟨_,d,.inr (.inr (.inl ⟨by omega,by omega⟩))⟩
theorem Jm{H M:Nat->Nat->Nat->Prop}{F P0 P1 P2:Nat->Nat->Prop}{lo n g:Nat}(c: ∀i b o,H i b o->F b o){j b q:Nat}(d: ¬F b q)(h:RO H P0 P1 P2 lo n g M j b q):
  ∃m,NC P0 P1 P2 M m b q/\((j<3/\m=j)\/(3<=m/\m<n+3/\j=lo+m)):=by
 match j,h with
 |0,h=>exact⟨0,h,.inl ⟨by omega,rfl⟩⟩
 |1,h=>exact⟨1,h,.inl ⟨by omega,rfl⟩⟩
 |2,h=>exact⟨2,h,.inl ⟨by omega,rfl⟩⟩
 |j+3,h=>
  rcases h with⟨e,a⟩|⟨e,a,f⟩|⟨e,a⟩
  ·exact absurd (c _ b q a) d
  ·exact⟨j-lo+3,f,.inr ⟨by omega,by omega,by omega⟩⟩
  ·exact absurd (c _ b q a) d
theorem tK.RO{H M:Nat->Nat->Nat->Prop}{F P0 P1 P2:Nat->Nat->Prop}{lo n h:Nat}(r:tK H F)(o: ∀b q,P0 b q->H 0 b q\/ ¬F b q)(p: ∀b q,P1 b q->H 1 b q\/ ¬F b q)(j: ∀b q,P2 b q->H 2 b q\/ ¬F b q)
  (l: ∀m b q,M m b q->(∃i,lo<=i/\i<lo+h/\H (i+3) b q)\/ ¬F b q) (u: ∀m c b q,M m b q->M c b q->m=c) (t: ∀m c b q,¬F b q->NC P0 P1 P2 M m b q->NC P0 P1 P2 M c b q->m=c):
  tK (RO H P0 P1 P2 lo n h M) (fun b q=> ∃e,RO H P0 P1 P2 lo n h M e b q):=by
 refine⟨fun e b q d=>⟨e,d⟩,fun e d b q a k=>?_⟩;by_cases e:F b q
 ·obtain⟨m,i,f⟩:=Jl r.1 o p j l e a;obtain⟨c,g,d⟩:=Jl r.1 o p j l e k;have s:=r.2 m c b q i g;subst s
  rcases f with f|f|f|⟨G,A,x,v,E,y⟩<;>rcases d with d|d|d|⟨w,B,D,s,z,C⟩<;>first
   |omega
   |(have:=u G w b q v s;omega)
 ·obtain⟨m,i,f⟩:=Jm r.1 e a;obtain⟨c,g,d⟩:=Jm r.1 e k;have:=t m c b q e i g;omega
theorem zX{α:Type}{l:List α}{a:List α}{lo hi:Nat}(e:lo<=hi)(d:hi<=l.length)(j:Nat):
  (l.take lo++a++l.drop hi)[j]?=if j<lo then l[j]? else if j<lo+a.length then a[j-lo]? else l[j-a.length+(hi-lo)]?:=by
 rw[lz,List.getElem?_append,lk,oB (by omega)];by_cases c:j<lo
 ·rw[fi c,fi c,mu,fi c]
 ·rw[ff c,ff c,List.getElem?_append];by_cases b:j<lo+a.length
  ·rw[fi b,fi (by omega)]
  ·rw[ff b,ff (by omega),mv];congr 1;omega
theorem aZ.splice{w w':World}{d a a':Nat}{x:ND}{F P0 P1 P2:Nat->Nat->Prop}{I E vp' vk':Value}{g:List Nat}{H M:Nat->Nat->Nat->Prop}{ps':List Pr}(V:aZ w (bX w d) a x F I E g H)
  (lo hi:Nat) (o:lo<=hi) (v:hi<=x.ks.length) (f:List (Nat×ND))
  (J:w'.heap[a']?=some (tg vp' vk')) (s: ∀q,P0 a' q) (G:aH 2 220 w' vp' (ps'.map aA) P1) (B:aH 1 169 w' vk' ((g.take lo++f.map Prod.fst++g.drop hi).map aN) P2)
  (r: ∀m p l,f[m]?=some (p,l)->bX w' d p l (M m)) (n: ∀i p l,(i<lo\/hi<=i)->g[i]?=some p->x.ks[i]?=some l->bX w' d p l (H (i+3)))
  (K: ∀e q,P0 e q->H 0 e q\/ ¬F e q) (L: ∀e q,P1 e q->H 1 e q\/ ¬F e q) (t: ∀e q,P2 e q->H 2 e q\/ ¬F e q)
  (C: ∀m e q,M m e q->(∃i,lo<=i/\i<hi/\H (i+3) e q)\/ ¬F e q) (D: ∀m b e q,M m e q->M b e q->m=b) (y: ∀m b e q,¬F e q->NC P0 P1 P2 M m e q->NC P0 P1 P2 M b e q->m=b):
  aZ w' (bX w' d) a' (.mk ps' (x.ks.take lo++f.map Prod.snd++x.ks.drop hi)) (fun e q=> ∃j,RO H P0 P1 P2 lo f.length (hi-lo) M j e q) vp' vk' (g.take lo++f.map Prod.fst++g.drop hi) (RO H P0 P1 P2 lo f.length (hi-lo) M):=by
 obtain⟨S,P,T,Q,A,U,z⟩:=V;refine⟨J,s,G,B,?_,?_,z.RO K L t (fun m e q j=>?_) D y⟩
 ·simp[A]
 ·intro i p l b c;simp only[ND.cS]at c;rw[zX o v]at c;rw[zX o (by omega)]at b;simp only[eS]at b c;by_cases N:i<lo
  ·rw[fi N]at b c;exact(n i p l (.inl N) b c).m (fun e q h=>.inl ⟨N,h⟩)
  ·rw[ff N]at b c;by_cases k:i<lo+f.length
   ·rw[fi k,oy]at b c
    cases j:f[i-lo]? with
    |none=>rw[j]at b;cases b
    |some u=>rw[j]at b c;simp only[Option.map_some,fj]at b c;obtain⟨R,O⟩:=u;simp only at b c;subst b c;exact(r _ _ _ j).m (fun e q h=>.inr (.inl ⟨by omega,k,h⟩))
   ·rw[ff k]at b c;exact(n _ p l (.inr (by omega)) b c).m (fun e q h=>.inr (.inr ⟨by omega,h⟩))
 ·rcases C m e q j with⟨i,c,e,b⟩|h
  ·exact .inl ⟨i,c,by omega,b⟩
  ·exact .inr h
theorem fU{H M:Nat->Nat->Nat->Prop}{P0 P1 P2:Nat->Nat->Prop}{lo n d j b q:Nat}(h:RO H P0 P1 P2 lo n d M j b q):
  P0 b q\/P1 b q\/P2 b q\/(∃i,(i<lo\/lo+d<=i)/\H (i+3) b q)\/ ∃m,m<n/\M m b q:=by
 match j,h with
 |0,h=>exact .inl h
 |1,h=>exact .inr (.inl h)
 |2,h=>exact .inr (.inr (.inl h))
 |j+3,h=>
  rcases h with⟨c,a⟩|⟨c,a,e⟩|⟨c,a⟩
  ·exact .inr (.inr (.inr (.inl ⟨j,.inl c,a⟩)))
  ·exact .inr (.inr (.inr (.inr ⟨j-lo,by omega,e⟩)))
  ·exact .inr (.inr (.inr (.inl ⟨j-n+d,.inr (by omega),a⟩)))
section
variable{w w':World}{F:Nat->Nat->Prop}{a:Nat}{x:ND}{S:Nat->Prop}
theorem iL.dR{e sub':Nat->ND->(Nat->Nat->Prop)->Prop}(y:iL w e a x F)(d:Only S w w')(j: ∀c o,F c o-> ¬S c)(u: ∀p k K,(∀c o,K c o-> ¬S c)->e p k K->sub' p k K):iL w' sub' a x F:=by obtain⟨m,n,h,H,s,g,q,v,t,r,f⟩:=y;have b: ∀i c o,H i c o-> ¬S c:=fun i c o l=>j c o (f.1 i c o l);exact⟨m,n,h,H,d.heap s (b 0 a 0 (g 0)),g,q.dR (by decide) d (b 1),v.dR (by decide) d (b 2),t,fun i p k l c=>u p k _ (b _) (r i p k l c),f⟩
theorem aG.dR(b:Only S w w'): ∀{d:Nat} {a:Nat} {x:ND} {F:Nat->Nat->Prop},aG w d a x F->(∀c o,F c o-> ¬S c)->aG w' d a x F
 |0,_,_,_,h,hd=>⟨h.1,iL.dR h.2 b hd (fun _ _ _ _ h=>h)⟩
 |_+1,_,_,_,h,hd=>iL.dR h b hd (fun _p _k _K e c=>aG.dR b c e)
end
def bM(w:World)(T o:Nat)(l:List Pr)(F:Nat->Nat->Prop):Prop:=
 ∃(d r:Nat) (x:ND) (K:Nat->Nat->Prop),w.heap[T]?=some (ta o l.length r)/\aG w d r x K/\
  fw d o (if d=0 then 0 else 1) (2*o-1) x/\bz d x=l/\Up l/\(2<=o/\o<=16)/\(∀b q,K b q->F b q)/\(∀q,F T q)/\ ∀q,¬K T q
section
variable{w w':World}{T o:Nat}{l:List Pr}{F G:Nat->Nat->Prop}{S:Nat->Prop}
theorem bM.dR(p:bM w T o l F)(c:Only S w w')(b: ∀e q,F e q-> ¬S e):bM w' T o l F:=by obtain⟨s,r,x,K,k,f,i,n,m,j,a,d,g⟩:=p;exact⟨s,r,x,K,c.heap k (b T 0 (d 0)),f.dR c (fun e q h=>b e q (a e q h)),i,n,m,j,a,d,g⟩
theorem bM.below(h:bM w T o l F)(a:Below w.heap.size w w'):bM w' T o l F:=h.dR (ri a) (fun _ _ _ h=>h)
theorem bM.only(p:bM w T o l F)(c:OnlyC G w w')(b: ∀e q,F e q-> ¬G e q):bM w' T o l F:=by obtain⟨s,r,x,K,k,f,i,n,m,j,a,d,g⟩:=p;exact⟨s,r,x,K,c.heap k (fun q=>b T q (d q)),f.only c (fun e q h=>b e q (a e q h)),i,n,m,j,a,d,g⟩
theorem bM.bound(m:bM w T o l F):bM w T o l (fun k q=>F k q/\k<w.heap.size):=by obtain⟨n,r,x,K,b,d,f,j,i,h,c,g,e⟩:=m;exact⟨n,r,x,_,b,d.bound,f,j,i,h,fun k q a=>⟨c k q a.1,a.2⟩,fun q=>⟨g q,pb b⟩,fun q a=>e q a.1⟩
end
theorem DN: ∀(ks:List (List Pr)) (ps:List Pr),ks.length=ps.length+1->ps.Sublist (flat ks ps)
 |k::ks,[],_=>List.nil_sublist _
 |k::ks,p::ps,h=>by have ih:=DN ks ps (by simpa using h);simp only[flat];exact(ih.cons_cons p).trans (List.sublist_append_right _ _)
 |[],ps,h=>by simp at h
theorem VX{d o lo hi:Nat}{x:ND}(h:fw d o lo hi x):x.ps.Sublist (bz d x):=by
 cases d with
 |zero=>exact List.Sublist.refl _
 |succ d=>exact DN _ _ (by rw[eS];exact h.2.2.1)
theorem vY{d o lo hi:Nat}{x:ND}(h:fw d o lo hi x)(a:Up (bz d x)):Up x.ps:=List.Pairwise.sublist (VX h) a
theorem fw.kids{d o lo hi:Nat}{x:ND}(h:fw (d+1) o lo hi x):x.ks.length=x.ps.length+1:=h.2.2.1
theorem fw.none{o lo hi:Nat}{x:ND}(h:fw 0 o lo hi x):x.ks=[]:=h.2.2
theorem aZ.own{w:World}{d:Nat->ND->(Nat->Nat->Prop)->Prop}{a:Nat}{x:ND}{F:Nat->Nat->Prop}{k h:Value}{f:List Nat}{H:Nat->Nat->Nat->Prop}(n:aZ w d a x F k h f H):
  (∀i b q,H i b q->F b q)/\(∀i m b q,i≠m->H i b q-> ¬H m b q)/\ ∀i b q,i≠0->H i b q->b≠a:=by
 obtain⟨_,j,_,_,_,_,c⟩:=n;exact⟨c.1,fun i m b q e l g=>e (c.2 i m b q l g),fun i b q g e l=>g (c.2 i 0 b q e (l▸j q))⟩
theorem DR{α:Type}(l:List α)(o n:Nat)(h:n=l.length):l.take (min o n)=l.take o:=by
 subst h;rcases Nat.le_total o l.length with c|c
 ·rw[oB c]
 ·rw[Nat.min_eq_right c,gn,gE c]
theorem DT{α:Type}(l:List α)(o n:Nat)(h:n=l.length):l.drop (min o n)=l.drop o:=by
 subst h;rcases Nat.le_total o l.length with c|c
 ·rw[oB c]
 ·rw[Nat.min_eq_right c,List.drop_length,List.drop_eq_nil_of_le c]
theorem Jn{d:Nat}{k:ND}{o:Nat}(h:d=0->k.ks=[]):jN d k o=(.mk (k.ps.take (o-1)) (k.ks.take o),k.ps[o-1]?.getD ([],[]),.mk (k.ps.drop o) (k.ks.drop o)):=by
 cases d with
 |zero=>rw[h rfl,List.take_nil,List.drop_nil];rfl
 |succ d=>rfl
def rh(L R:Nat->Nat->Prop):Nat->Nat->Nat->Prop
 |0=>L
 |1=>R
 |_+2=>fun _ _=>False
theorem aZ.halves{w w':World}{d o l r:Nat}{k:ND}{O G F B y x:Nat->Nat->Prop}{vp V v1 v2 C E:Value}{f:List Nat}{H:Nat->Nat->Nat->Prop}(h:aZ w (bX w d) l k O vp V f H)(U: ∀i b q,H i b q->i<k.ks.length+3)(I:d=0->k.ks=[])(t: ∀q,¬O r q)
  (s:OnlyC G w w') (hG: ∀b q,O b q->b≠l-> ¬G b q) (R:w'.heap[l]?=some (tg v1 v2)) (P:w'.heap[r]?=some (tg C E))
  (p1:aH 2 220 w v1 ((k.ps.take (o-1)).map aA) (fun b q=>H 1 b q/\F b q)) (Y:aH 2 220 w C ((k.ps.drop o).map aA) (fun b q=>H 1 b q/\y b q))
  (q1:aH 1 169 w v2 ((f.take o).map aN) (fun b q=>H 2 b q/\B b q)) (X:aH 1 169 w E ((f.drop o).map aN) (fun b q=>H 2 b q/\x b q))
  (T: ∀b q,F b q-> ¬y b q) (e2: ∀b q,B b q-> ¬x b q):
  ∃L a,aG w' d l (jN d k o).1 L/\aG w' d r (jN d k o).2.2 a/\(∀b q,L b q->O b q)/\(∀b q,a b q->O b q\/b=r)/\(∀b q,L b q-> ¬a b q):=by
 obtain⟨e,g,Q⟩:=h.own;have n: ∀i b q,i≠0->H i b q-> ¬G b q:=fun i b q c a=>hG b q (e i b q a) (Q i b q c a);have L:=h;obtain⟨g1,Z,g3,g4,D,W,S⟩:=h;have J: ∀i z A,f[i]?=some z->k.ks[i]?=some A->bX w' d z A (H (i+3)):=fun i z A j p=>(W i z A j p).only s (n _ · · (by omega));rw[Jn I]
 have M:=aZ.splice (w':=w') (a':=l) (ps':=k.ps.take (o-1)) (vp':=v1) (vk':=v2) (P0:=H 0) (P1:=fun b q=>H 1 b q/\F b q) (P2:=fun b q=>H 2 b q/\B b q) (M:=fun _ _ _=>False) L (min o k.ks.length) k.ks.length (Nat.min_le_right _ _) (b8 _) [] R Z
  (p1.only s (fun b q a=>n 1 b q (by decide) a.1))
  (by
   have:f.take (min o k.ks.length)++([]:List (Nat×ND)).map Prod.fst++f.drop k.ks.length=f.take o:=by rw[DR _ _ _ D.symm,<-D];simp
   rw[this]
   exact q1.only s (fun b q a=>n 2 b q (by decide) a.1))
  (fun m z A c=>by simp at c) (fun i z A _ j p=>J i z A j p) (fun b q a=>.inl a) (fun b q a=>.inl a.1) (fun b q a=>.inl a.1) (fun m b q a=>a.elim) (fun m u b q a=>a.elim)
  (fun m u b q v c K=>absurd (show O b q from match m,c with|0,c=>e 0 b q c|1,c=>e 1 b q c.1|2,c=>e 2 b q c.1|_+3,c=>c.elim) v)
 have N:=aZ.splice (w':=w') (a':=r) (ps':=k.ps.drop o) (vp':=C) (vk':=E) (P0:=fun b _=>b=r) (P1:=fun b q=>H 1 b q/\y b q) (P2:=fun b q=>H 2 b q/\x b q) (M:=fun _ _ _=>False) L 0 (min o k.ks.length) (dq _) (Nat.min_le_right _ _) [] P (fun _=>rfl)
  (Y.only s (fun b q a=>n 1 b q (by decide) a.1))
  (by
   have:f.take 0++([]:List (Nat×ND)).map Prod.fst++f.drop (min o k.ks.length)=f.drop o:=by rw[DT _ _ _ D.symm];simp
   rw[this]
   exact X.only s (fun b q a=>n 2 b q (by decide) a.1))
  (fun m z A c=>by simp at c) (fun i z A _ j p=>J i z A j p) (fun b q a=>.inr (by subst a;exact t q)) (fun b q a=>.inl a.1) (fun b q a=>.inl a.1) (fun m b q a=>a.elim) (fun m u b q a=>a.elim)
  (fun m u b q v c K=>by
   have a: ∀m,NC (fun b _=>b=r) (fun b q=>H 1 b q/\y b q) (fun b q=>H 2 b q/\x b q) (fun _ _ _=>False) m b q->m=0:=fun m c=>match m,c with
    |0,_=>rfl
    |1,c=>absurd (e 1 b q c.1) v
    |2,c=>absurd (e 2 b q c.1) v
    |_+3,c=>c.elim
   rw[a m c,a u K])
 have z:k.ks.take (min o k.ks.length)++([]:List (Nat×ND)).map Prod.snd++k.ks.drop k.ks.length=k.ks.take o:=by rw[DR _ _ _ rfl];simp
 have v:k.ks.take 0++([]:List (Nat×ND)).map Prod.snd++k.ks.drop (min o k.ks.length)=k.ks.drop o:=by rw[DT _ _ _ rfl];simp
 rw[z]at M;rw[v]at N;refine⟨_,_,M.close (fun a=>by simp[I a]),N.close (fun a=>by simp[I a]),?_,?_,?_⟩
 ·rintro b q ⟨A,j⟩;rcases fU j with c|c|c|⟨i,_,c⟩|⟨m,_,c⟩
  ·exact e 0 b q c
  ·exact e 1 b q c.1
  ·exact e 2 b q c.1
  ·exact e _ b q c
  ·exact c.elim
 ·rintro b q ⟨A,j⟩;rcases fU j with c|c|c|⟨i,_,c⟩|⟨m,_,c⟩
  ·exact .inr c
  ·exact .inl (e 1 b q c.1)
  ·exact .inl (e 2 b q c.1)
  ·exact .inl (e _ b q c)
  ·exact c.elim
 ·rintro b q ⟨A,j⟩ ⟨j',p⟩;have ow:k.ks.length-min o k.ks.length+min o k.ks.length=k.ks.length:=by omega
  rcases fU j with c|c|c|⟨i,ci,c⟩|⟨m,_,c⟩<;>rcases fU p with a|a|a|⟨i',K,a⟩|⟨u,_,a⟩
  ·exact t q (by rw[<-a];exact e 0 b q c)
  ·exact g 0 1 b q (by decide) c a.1
  ·exact g 0 2 b q (by decide) c a.1
  ·exact g 0 _ b q (by omega) c a
  ·exact a.elim
  ·exact t q (by rw[<-a];exact e 1 b q c.1)
  ·exact T b q c.2 a.2
  ·exact g 1 2 b q (by decide) c.1 a.1
  ·exact g 1 _ b q (by omega) c.1 a
  ·exact a.elim
  ·exact t q (by rw[<-a];exact e 2 b q c.1)
  ·exact g 2 1 b q (by decide) c.1 a.1
  ·exact e2 b q c.2 a.2
  ·exact g 2 _ b q (by omega) c.1 a
  ·exact a.elim
  ·exact t q (by rw[<-a];exact e _ b q c)
  ·exact g _ 1 b q (by omega) c a.1
  ·exact g _ 2 b q (by omega) c a.1
  ·have:=S.2 _ _ b q c a;have h1:=U _ b q c;omega
  ·exact a.elim
  all_goals exact c.elim
theorem px{w u C n B g:World}{d a i l o r:Nat}{x k:ND}{F:Nat->Nat->Prop}{vp vk UA RQ v1 v2 u1 u2 v' s:Value}{t jq:List Nat}{H I:Nat->Nat->Nat->Prop}{ps':List Pr}{A1 A2 B1 B2:Nat->Nat->Prop}
  (Y:aZ w (aG w d) a x F vp vk t H) (E: ∀b q,F b q->b<w.heap.size) (hk:x.ks[i]?=some k) (hl:t[i]?=some l)
  (W:aZ w (bX w d) l k (H (i+3)) UA RQ jq I) (hT: ∀i b q,I i b q->i<k.ks.length+3) (ad:d=0->k.ks=[])
  (M:OnlyC (fun b _=>b=l) w u) (hr:w.heap.size<=r) (bk:r<u.heap.size) (kl:u.heap[l]?=some (tg v1 v2)) (kr:u.heap[r]?=some (tg u1 u2))
  (p1:aH 2 220 w v1 ((k.ps.take (o-1)).map aA) (fun b q=>I 1 b q/\A1 b q)) (p2:aH 2 220 w u1 ((k.ps.drop o).map aA) (fun b q=>I 1 b q/\B1 b q))
  (q1:aH 1 169 w v2 ((jq.take o).map aN) (fun b q=>I 2 b q/\A2 b q)) (q2:aH 1 169 w u2 ((jq.drop o).map aN) (fun b q=>I 2 b q/\B2 b q))
  (e1: ∀b q,A1 b q-> ¬B1 b q) (e2: ∀b q,A2 b q-> ¬B2 b q)
  (gp:Below u.heap.size u C) (V:OnlyC (H 1) C n) (s6:aH 2 220 n v' (ps'.map aA) (fun b q=>H 1 b q\/C.heap.size<=b))
  (P:Below n.heap.size (n.setCell ⟨a,0,none⟩ v') B) (Q:OnlyC (H 2) B g) (s9:aH 1 169 g s ((t.take (i+1)++r::t.drop (i+1)).map aN) (fun b q=>H 2 b q\/B.heap.size<=b)):
  aG (g.setCell ⟨a,1,none⟩ s) (d+1) a (.mk ps' (x.ks.take i++(jN d k o).1::(jN d k o).2.2::x.ks.drop (i+1))) (fun b q=>F b q\/w.heap.size<=b)/\OnlyC F w (g.setCell ⟨a,1,none⟩ s):=by
 obtain⟨m,D,J⟩:=Y.own;obtain⟨Zy,a4,bn⟩:=W.own;have a':=Y;obtain⟨g1,N,g3,g4,g5,g6,g7⟩:=Y;have K: ∀q,H (i+3) l q:=fun q=>Zy 0 l q (W.2.1 q);have z7:(n.setCell ⟨a,0,none⟩ v').heap.size=n.heap.size:=by simp[World.setCell]
 have bf:(g.setCell ⟨a,1,none⟩ s).heap.size=g.heap.size:=by simp[World.setCell]
 have bo:=M.size;have bb:=gp.size;have ba:=V.size;have bm:=P.size;have bi:=Q.size;have bh:a<w.heap.size:=E a 0 (m 0 a 0 (N 0));have bc:l<w.heap.size:=E l 0 (m _ l 0 (K 0));have O: ∀v b q,H v b q->b<w.heap.size:=fun v b q e=>E b q (m v b q e);have NF:l≠a:=J (i+3) l 0 (by omega) (K 0)
 -- from the cut on
 let G:Nat->Nat->Prop:=fun b q=>H 1 b q\/H 2 b q\/b=a
 have o5:OnlyC G u C:=o0 gp G;have o6:OnlyC G u n:=o5.x V (fun b q _ e=>.inl e);have o7:OnlyC G u (n.setCell ⟨a,0,none⟩ v'):=o6.x (OnlyC.aR n a 0 v') (fun b q _ z=>.inr (.inr z.1));have o8:OnlyC G u B:=o7.x (o0 (by rw[z7];exact P) G) (fun b q _ e=>e);have o9:OnlyC G u g:=o8.x Q (fun b q _ e=>.inr (.inl e));have oG:OnlyC G u (g.setCell ⟨a,1,none⟩ s):=o9.x (OnlyC.aR g a 1 s) (fun b q _ z=>.inr (.inr z.1));have U:OnlyC (fun b q=>b=l\/G b q) w (g.setCell ⟨a,1,none⟩ s):=(M.m (fun b q _ z=>.inl z)).x oG (fun b q _ e=>.inr e)
 have S: ∀v b q,3<=v->H v b q-> ¬G b q:=by
  rintro v b q f e (c|c|c)
  ·exact D v 1 b q (by omega) e c
  ·exact D v 2 b q (by omega) e c
  ·exact J v b q (by omega) e c
 -- the halves
 have ac: ∀q,¬H (i+3) r q:=fun q e=>by have:=O _ r q e;omega
 have a2: ∀q,¬G r q:=by
  rintro q (c|c|c)
  ·have:=O 1 r q c;omega
  ·have:=O 2 r q c;omega
  ·omega
 obtain⟨L,R,nL,nR,T,Z,aa⟩:=aZ.halves (w':=g.setCell ⟨a,1,none⟩ s) (r:=r) W hT ad ac U (fun b q e h X=>X.elim h (S _ b q (by omega) e)) (oG.heap kl (fun q=>S _ l q (by omega) (K q))) (oG.heap kr a2) p1 p2 q1 q2 e1 e2
 -- a's own cells
 have a1:=M.heap g1 (fun _ z=>NF z.symm);have a5:=qS gp a1;have a6:=V.heap a5 (fun q e=>D 1 0 a q (by decide) e (N q))
 have a7:(n.setCell ⟨a,0,none⟩ v').heap[a]?=some (tg v' vk):=by have:=dd n a 0 _ _ v' a6;simpa using this
 have a8:=qS (show Below (n.setCell ⟨a,0,none⟩ v').heap.size (n.setCell ⟨a,0,none⟩ v') B by rw[z7];exact P) a7;have a9:=Q.heap a8 (fun q e=>D 2 0 a q (by decide) e (N q))
 have RS:(g.setCell ⟨a,1,none⟩ s).heap[a]?=some (tg v' s):=by have:=dd g a 1 _ _ s a9;simpa using this
 have ap:=s6.bound;have a3:=s9.bound
 have t1:aH 2 220 (g.setCell ⟨a,1,none⟩ s) v' (ps'.map aA) (fun b q=>(H 1 b q\/C.heap.size<=b)/\b<n.heap.size):=by
  refine(((ap.only (OnlyC.aR n a 0 v') (fun b q e z=>?_)).only (rj (by rw[z7];exact P)) (fun _ _ _ h=>h)).only Q (fun b q e A=>?_)).only (OnlyC.aR g a 1 s) (fun b q e z=>?_)
  ·rcases e.1 with c|c
   ·exact J 1 b q (by decide) c z.1
   ·have:=z.1;omega
  ·rcases e.1 with c|c
   ·exact D 1 2 b q (by decide) c A
   ·have:=O 2 b q A;omega
  ·rcases e.1 with c|c
   ·exact J 1 b q (by decide) c z.1
   ·have:=z.1;omega
 have t2:aH 1 169 (g.setCell ⟨a,1,none⟩ s) s ((t.take (i+1)++r::t.drop (i+1)).map aN) (fun b q=>(H 2 b q\/B.heap.size<=b)/\b<g.heap.size):=by
  refine a3.only (OnlyC.aR g a 1 s) (fun b q e z=>?_);rcases e.1 with c|c
  ·exact J 2 b q (by decide) c z.1
  ·have:=z.1;omega
 have bl:=(bd.1 hk).1;have a0:i<t.length:=by omega
 have am:t.take (i+1)=t.take i++[l]:=by have:=(bd.1 hl).2;rw[List.take_succ_eq_append_getElem a0,this]
 have nP:=aZ.splice (d:=d+1) (w':=g.setCell ⟨a,1,none⟩ s) (a':=a) (ps':=ps') (vp':=v') (vk':=s) (P0:=H 0) (P1:=fun b q=>(H 1 b q\/C.heap.size<=b)/\b<n.heap.size) (P2:=fun b q=>(H 2 b q\/B.heap.size<=b)/\b<g.heap.size) (M:=rh L R) a' i (i+1) (by omega) (by omega) [(l,(jN d k o).1),(r,(jN d k o).2.2)] RS N t1
  (by
   have:t.take i++[(l,(jN d k o).1),(r,(jN d k o).2.2)].map Prod.fst++t.drop (i+1)=t.take (i+1)++r::t.drop (i+1):=by rw[am];simp
   rw[this]
   exact t2)
  (fun v p y f=>by
   match v,f with
   |0,f=>simp only[iS,fj,me]at f;obtain⟨rfl,rfl⟩:=f;exact nL
   |1,f=>simp only[List.getElem?_cons_succ,iS,fj,me]at f;obtain⟨rfl,rfl⟩:=f;exact nR
   |v+2,f=>simp at f)
  (fun j p y hj hp hy=>aG.only U (g6 j p y hp hy) (fun b q e X=>X.elim (fun z=>D (j+3) (i+3) b q (by omega) e (by rw[z];exact K q)) (S _ b q (by omega) e)))
  (fun b q e=>.inl e)
  (fun b q e=>e.1.imp id (fun c p=>by have:=E b q p;omega))
  (fun b q e=>e.1.imp id (fun c p=>by have:=E b q p;omega))
  (fun v b q f=>by
   match v,f with
   |0,f=>exact .inl ⟨i,by omega,by omega,T b q f⟩
   |1,f=>exact(Z b q f).imp (fun c=>⟨i,by omega,by omega,c⟩) (fun z p=>by have:=E b q p;omega)
   |_+2,f=>exact f.elim)
  (fun v X b q f y=>by
   match v,f,X,y with
   |0,_,0,_=>rfl
   |1,_,1,_=>rfl
   |0,c,1,A=>exact absurd A (aa b q c)
   |1,c,0,A=>exact absurd c (aa b q A)
   |_+2,c,_,_=>exact c.elim
   |0,_,_+2,A=>exact A.elim
   |1,_,_+2,A=>exact A.elim)
  (fun v X b q p f y=>by
   have A: ∀v,NC (H 0) (fun b q=>(H 1 b q\/C.heap.size<=b)/\b<n.heap.size) (fun b q=>(H 2 b q\/B.heap.size<=b)/\b<g.heap.size) (rh L R) v b q->(v=1/\C.heap.size<=b/\b<n.heap.size)\/(v=2/\B.heap.size<=b)\/(v=4/\b=r):=fun v f=>match v,f with
    |0,f=>absurd (m 0 b q f) p
    |1,f=>f.1.elim (fun c=>absurd (m 1 b q c) p) (fun c=>.inl ⟨rfl,c,f.2⟩)
    |2,f=>f.1.elim (fun c=>absurd (m 2 b q c) p) (fun c=>.inr (.inl ⟨rfl,c⟩))
    |3,f=>absurd (m _ b q (T b q f)) p
    |4,f=>(Z b q f).elim (fun c=>absurd (m _ b q c) p) (fun z=>.inr (.inr ⟨rfl,z⟩))
    |_+5,f=>f.elim
   have p:=A v f;have f:=A X y
   omega)
 constructor
 ·have M:=(aZ.close (d:=d+1) nP (fun z=>by omega)).m (fun b q (e: ∃j,_)=>show F b q\/w.heap.size<=b from by
   obtain⟨j,hj⟩:=e;rcases fU hj with f|f|f|⟨v,_,f⟩|⟨v,_,f⟩
   ·exact .inl (m 0 b q f)
   ·exact f.1.imp (m 1 b q) (fun h=>by omega)
   ·exact f.1.imp (m 2 b q) (fun h=>by omega)
   ·exact .inl (m _ b q f)
   ·match v,f with
    |0,f=>exact .inl (m _ b q (T b q f))
    |1,f=>exact(Z b q f).imp (m _ b q) (fun z=>by omega)
    |_+2,f=>exact f.elim)
  simpa using M
 ·refine U.m (fun b q _ e=>?_);rcases e with z|c|c|z
  ·subst z;exact m _ _ q (K q)
  ·exact m 1 b q c
  ·exact m 2 b q c
  ·subst z;exact m 0 _ q (N q)
theorem aZ.py{w w':World}{d a:Nat}{x:ND}{F:Nat->Nat->Prop}{B i v':Value}{A:List Nat}{H:Nat->Nat->Nat->Prop}{ps':List Pr}(G:aZ w (bX w d) a x F B i A H)(t:d=0->x.ks=[])(v: ∀b q,F b q->b<w.heap.size)
  (C:w'.heap[a]?=some (tg v' i)) (h:OnlyC (fun b q=>H 1 b q\/b=a) w w') (D:aH 2 220 w' v' (ps'.map aA) (fun b q=>H 1 b q\/w.heap.size<=b)):
  aG w' d a (.mk ps' x.ks) (fun b q=>F b q\/w.heap.size<=b)/\OnlyC F w w':=by
 obtain⟨f,s,u⟩:=G.own;have z:=G;obtain⟨M,n,N,y,L,E,K⟩:=G;have j: ∀g b q,g≠0->g≠1->H g b q-> ¬(H 1 b q\/b=a):=fun g b q e k c p=>p.elim (s g 1 b q k c) (u g b q e c)
 have l:=aZ.splice (w':=w') (a':=a) (ps':=ps') (vp':=v') (vk':=i) (P0:=H 0) (P1:=fun b q=>H 1 b q\/w.heap.size<=b) (P2:=H 2) (M:=fun _ _ _=>False) z 0 0 (b8 _) (dq _) [] C n D
  (by simpa using y.only h (fun b q=>j 2 b q (by decide) (by decide))) (fun m I J e=>by simp at e) (fun g I J _ o r=>(E g I J o r).only h (fun b q=>j _ b q (by omega) (by omega)))
  (fun b q c=>.inl c) (fun b q c=>c.imp id (fun k g=>by have:=v b q g;omega)) (fun b q c=>.inl c) (fun m b q c=>c.elim) (fun m o b q c=>c.elim)
  (fun m o b q g e r=>by
   have k: ∀m,NC (H 0) (fun b q=>H 1 b q\/w.heap.size<=b) (H 2) (fun _ _ _=>False) m b q->m=1:=fun m e=>match m,e with
    |0,e=>absurd (f 0 b q e) g
    |1,_=>rfl
    |2,e=>absurd (f 2 b q e) g
    |_+3,e=>e.elim
   rw[k m e,k o r])
 constructor
 ·have p:x.ks.take 0++([]:List (Nat×ND)).map Prod.snd++x.ks.drop 0=x.ks:=by simp
  rw[p]at l;refine(l.close t).m ?_;rintro b q ⟨k,g⟩;rcases fU g with e|e|e|⟨m,_,e⟩|⟨m,_,e⟩
  ·exact .inl (f 0 b q e)
  ·exact e.imp (f 1 b q) id
  ·exact .inl (f 2 b q e)
  ·exact .inl (f _ b q e)
  ·exact e.elim
 ·refine h.m (fun b q _ c=>c.elim (f 1 b q) (fun p=>?_));subst p;exact f 0 _ q (n q)
theorem aZ.Jo{w w':World}{d a i l:Nat}{x k p:ND}{F:Nat->Nat->Prop}{u v:Value}{j:List Nat}{H:Nat->Nat->Nat->Prop}(L:aZ w (aG w d) a x F u v j H)(z: ∀c q,F c q->c<w.heap.size)
  (C:x.ks[i]?=some k) (I:j[i]?=some l) (n:OnlyC (H (i+3)) w w') (B:aG w' d l p (fun c q=>H (i+3) c q\/w.heap.size<=c)):
  aG w' (d+1) a (.mk x.ps (x.ks.take i++p::x.ks.drop (i+1))) (fun c q=>F c q\/w.heap.size<=c)/\OnlyC F w w':=by
 obtain⟨f,o,P⟩:=L.own;have E:=L;obtain⟨G,t,J,D,R,K,Q⟩:=L;have O:=(bd.1 C).1
 have A:=aZ.splice (d:=d+1) (w':=w') (a':=a) (ps':=x.ps) (vp':=u) (vk':=v) (P0:=H 0) (P1:=H 1) (P2:=H 2) (M:=rh (fun c q=>H (i+3) c q\/w.heap.size<=c) (fun _ _=>False)) E i (i+1) (by omega) (by omega) [(l,p)]
  (n.heap G (fun q e=>o 0 (i+3) a q (by omega) (t q) e)) t (J.only n (fun c q=>o 1 (i+3) c q (by omega)))
  (by
   have b:=dP I
   have N:j.take i++[(l,p)].map Prod.fst++j.drop (i+1)=j:=by
    conv=>rhs;rw[b]
    simp
   rw[N]
   exact D.only n (fun c q=>o 2 (i+3) c q (by omega)))
  (fun m r s b=>by
   match m,b with
   |0,b=>simp only[iS,fj,me]at b;obtain⟨rfl,rfl⟩:=b;exact B
   |m+1,b=>simp at b)
  (fun M r s y g h=>aG.only n (K M r s g h) (fun c q=>o _ (i+3) c q (by omega)))
  (fun c q e=>.inl e) (fun c q e=>.inl e) (fun c q e=>.inl e)
  (fun m c q b=>by
   match m,b with
   |0,b=>exact b.imp (fun g=>⟨i,by omega,by omega,g⟩) (fun g h=>by have:=z c q h;omega)
   |1,b=>exact b.elim
   |_+2,b=>exact b.elim)
  (fun m s c q b r=>by
   match m,b,s,r with
   |0,_,0,_=>rfl
   |1,g,_,_=>exact g.elim
   |_+2,g,_,_=>exact g.elim
   |0,_,1,h2=>exact h2.elim
   |0,_,_+2,h2=>exact h2.elim)
  (fun m s c q h b r=>by
   have g: ∀m,NC (H 0) (H 1) (H 2) (rh (fun c q=>H (i+3) c q\/w.heap.size<=c) (fun _ _=>False)) m c q->m=3:=fun m b=>match m,b with
    |0,b=>absurd (f 0 c q b) h
    |1,b=>absurd (f 1 c q b) h
    |2,b=>absurd (f 2 c q b) h
    |3,_=>rfl
    |4,b=>b.elim
    |_+5,b=>b.elim
   rw[g m b,g s r])
 constructor
 ·have g:=(aZ.close (d:=d+1) A (fun N=>by omega)).m (fun c q (e: ∃M,_)=>show F c q\/w.heap.size<=c from by
   obtain⟨M,y⟩:=e;rcases fU y with b|b|b|⟨m,_,b⟩|⟨m,_,b⟩
   ·exact .inl (f 0 c q b)
   ·exact .inl (f 1 c q b)
   ·exact .inl (f 2 c q b)
   ·exact .inl (f _ c q b)
   ·match m,b with
    |0,b=>exact b.imp (f _ c q) id
    |1,b=>exact b.elim
    |_+2,b=>exact b.elim)
  simpa using g
 ·exact n.m (fun c q _ e=>f _ c q e)
theorem aH.VY{w:World}{b o n c i:Nat}{ps:List Pr}{F:Nat->Nat->Prop}{k v v':List UInt8}(J:aH 2 220 w (.slice (some ⟨b,o,none⟩) n c) (ps.map aA) F)(hi:ps[i]?=some (k,v)):
  aH 2 220 (w.setCell ⟨b,o+i*2+1,none⟩ (sd v')) (.slice (some ⟨b,o,none⟩) n c) ((ps.take i++(k,v')::ps.drop (i+1)).map aA) F/\OnlyC F w (w.setCell ⟨b,o+i*2+1,none⟩ (sd v')):=by
 have E:=(bd.1 hi).1;obtain⟨A,I,G,m,d,j,t,H,y,u,l,p⟩:=J.lies (by simp;omega);simp only[eS,im,fj,nx,and_true]at d;obtain⟨⟨rfl,rfl⟩,rfl,rfl⟩:=d;rw[eS]at j;have r:=dd w b (o+i*2+1) m 220 (sd v') y;have q:o+i*2+1<m.size:=by omega
 have s:ps=ps.take i++(k,v)::ps.drop (i+1):=dP hi;constructor
 ·refine aH.rewritten r (by simp) u l (by simp;omega) j t (fun x h=>by obtain⟨L,_,rfl⟩:=eh.1 h;rfl) (fun C K a=>?_);rw[gC]
  have f:(((ps.take i).map aA).flatten).length=i*2:=by rw[bL (k:=2) (fun x h=>by obtain⟨L,_,rfl⟩:=List.mem_map.1 h;rfl)];simp;omega
  have d:((ps.take i++(k,v')::ps.drop (i+1)).map aA).flatten=((ps.take i).map aA).flatten++(sd k:: sd v'::((ps.drop (i+1)).map aA).flatten):=by simp[aA]
  have z:(ps.map aA).flatten=((ps.take i).map aA).flatten++(sd k:: sd v::((ps.drop (i+1)).map aA).flatten):=by
   conv=>lhs;rw[s]
   simp[aA]
  rw[d]at a;rw[z]at p;by_cases B:C=i*2+1
  ·subst B;rw[fi (by omega),fi q];rw[kb (by omega),f,Nat.add_sub_cancel_left]at a;simpa using a
  ·rw[ff (by omega)];refine p C K ?_;rw[List.getElem?_append]at a⊢;split
   ·rename_i e;rw[fi e]at a;exact a
   ·rename_i e;rw[ff e,f]at a;rw[f]at e⊢;obtain⟨D,g⟩:=rl (C-i*2);rw[g]at a⊢
    match D,g,a with
    |0,_,a=>simpa using a
    |1,g,_=>omega
    |D+2,_,a=>simpa using a
 ·refine(OnlyC.aR w b (o+i*2+1) _).m (fun A N _ M=>?_);obtain⟨rfl,rfl⟩:=M;exact l _ (by omega) (by omega)
theorem Ab{d o:Nat}{y:ND}(c:2<=o)(h:fw d o (2*o) (2*o) y):bz (d+1) (mZ d (.mk [] [y]) 0 o)=bz d y/\fw (d+1) o 1 (2*o-1) (mZ d (.mk [] [y]) 0 o):=by
 have e:=Jb (by omega) h;have a:=M8 c h;have f:mZ d (.mk [] [y]) 0 o=.mk [(jN d y o).2.1] [(jN d y o).1,(jN d y o).2.2]:=rfl;rw[f];constructor
 ·rw[<-e];simp[bz,flat]
 ·refine⟨by simp,by simp;omega,by simp,fun k b=>?_⟩;simp only[ND.cS,List.mem_cons,List.not_mem_nil,or_false]at b;rcases b with rfl|rfl
  ·exact a.1
  ·exact a.2
theorem aG.Jp{w:World}{d r N S:Nat}{y:ND}{K:Nat->Nat->Prop}(m:aG w d r y K)(j:w.heap[N]?=some (vd (.slice (some ⟨S,0,none⟩) 1 1)))
  (k:w.heap[S]?=some (sz r)) (f:N≠S) (h: ∀q,¬K N q) (g: ∀q,¬K S q):aG w (d+1) N (.mk [] [y]) (fun c q=>K c q\/c=N\/c=S):=by
 refine⟨.slice none 0 0,.slice (some ⟨S,0,none⟩) 1 1,[r],fun i c q=>(i=0/\c=N)\/(i=2/\c=S)\/(i=3/\K c q),j,fun q=>.inl ⟨rfl,rfl⟩,aH.nil _ _ _ _,?_,rfl,?_,?_,?_⟩
 ·exact⟨_,1,rfl,by simp,by simp[maxLen],fun x a=>by simp[aN]at a;subst a;rfl,.inr ⟨S,0,_,rfl,k,by simp,fun l _ _=>.inr (.inl ⟨rfl,rfl⟩),fun l u a=>by simpa[aN]using a⟩⟩
 ·intro i p n a b
  match i,a,b with
  |0,a,b=>simp at a b;subst a b;exact m.m (fun c q e=>.inr (.inr ⟨rfl,e⟩))
  |i+1,a,b=>simp at a
 ·rintro i c q (⟨_,e⟩|⟨_,e⟩|⟨_,e⟩)
  ·exact .inr (.inl e)
  ·exact .inr (.inr e)
  ·exact .inl e
 ·rintro i l c q (⟨rfl,e⟩|⟨rfl,e⟩|⟨rfl,e⟩) (⟨rfl,a⟩|⟨rfl,a⟩|⟨rfl,a⟩)
  ·rfl
  ·exact absurd (e.symm.x a) f
  ·exact absurd a (by rw[e];exact h q)
  ·exact absurd (a.symm.x e) f
  ·rfl
  ·exact absurd a (by rw[e];exact g q)
  ·exact absurd e (by rw[a];exact h q)
  ·exact absurd e (by rw[a];exact g q)
  ·rfl
theorem wh(P:Nat->Nat->Nat->Prop)(h: ∀i j b q,P i b q->P j b q->i=j): ∃a:Nat->Nat->Nat,(∀i b q,P i b q->a b q=i+1)/\ ∀b q,a b q≠0-> ∃i,P i b q:=by
 refine⟨fun b q=> @dite _ (∃i,P i b q) (Classical.propDecidable _) (fun a=>Classical.choose a+1) (fun _=>0),fun i b q c=>?_,fun b q d=>?_⟩
 ·have a: ∃i,P i b q:=⟨i,c⟩;simp only;rw[dif_pos a,h _ _ b q (Classical.choose_spec a) c]
 ·apply Classical.byContradiction;intro a;exact d (dif_neg a)
def Gh{α:Type}(f:Nat->α)(t:Nat)(v:α):Nat->α:=fun s=>if s=t then v else f s
def DU{α:Type}(f:Nat->Nat->α)(t s:Nat)(v:α):Nat->Nat->α:=fun b a=>if b=t/\a=s then v else f b a
@[simp] theorem sF {α:Type} (f:Nat->α) (t:Nat) (v:α):Gh f t v t=v:=by simp[Gh]
theorem BQ{α:Type}(f:Nat->α){t s:Nat}(v:α)(h:s≠t):Gh f t v s=f s:=by simp[Gh,h]
@[simp] theorem pz {α:Type} (f:Nat->Nat->α) (t s:Nat) (v:α):DU f t s v t s=v:=by simp[DU]
theorem gL{α:Type}(f:Nat->Nat->α){t s t' s':Nat}(v:α)(h: ¬(t'=t/\s'=s)):DU f t s v t' s'=f t' s':=by simp[DU,h]
structure RT (w0 w:World) (lab:Nat->Nat->Nat) (t a:Nat) (v u:Value) (x:List Pr) (y:List Nat) (P1 P2 B1 B2:Nat->Nat->Prop):Prop where
 heap:w.heap[a]?=some (tg v u)
 own: ∀q,lab a q=10*t
 s1:aH 2 220 w v (x.map aA) P1
 s2:aH 1 169 w u (y.map aN) P2
 l1: ∀b q,P1 b q->lab b q=10*t+1/\b<w.heap.size/\(B1 b q\/w0.heap.size<=b)
 l2: ∀b q,P2 b q->lab b q=10*t+2/\b<w.heap.size/\(B2 b q\/w0.heap.size<=b)
def eG(w0:World)(A:Nat->Nat)(B:Nat->Nat->Nat->Nat->Prop)(Z U:Nat->Nat->Prop)(w:World)(V:Nat->Nat->Value)(X:Nat->List Pr)(Y:Nat->List Nat)(P:Nat->Nat->Nat->Nat->Prop):Prop:=
 ∃a:Nat->Nat->Nat,(∀t,t<3->RT w0 w a t (A t) (V t 0) (V t 1) (X t) (Y t) (P t 0) (P t 1) (B t 0) (B t 1))/\(∀b q,Z b q->a b q=99/\b<w0.heap.size)/\(∀b q,b<w0.heap.size->a b q<30->U b q)/\OnlyC (fun b q=>a b q<30) w0 w
section
variable{w0 w w1 w2:World}{A:Nat->Nat}{B:Nat->Nat->Nat->Nat->Prop}{Z U:Nat->Nat->Prop}{V:Nat->Nat->Value}{X:Nat->List Pr}{Y:Nat->List Nat}{P:Nat->Nat->Nat->Nat->Prop}
theorem RT.only{w':World}{j k:Nat->Nat->Nat}{t a:Nat}{v u:Value}{x:List Pr}{y:List Nat}{P1 P2 m l G:Nat->Nat->Prop}(i:RT w0 w j t a v u x y P1 P2 m l)(c:OnlyC G w w')(f: ∀b q,b<w.heap.size->k b q=j b q)
  (o: ∀q,¬G a q) (p: ∀b q,P1 b q-> ¬G b q) (n: ∀b q,P2 b q-> ¬G b q):RT w0 w' k t a v u x y P1 P2 m l:=
 ⟨c.heap i.heap o,fun q=>by rw[f a q (lt_of_heap i.heap)];exact i.own q,i.s1.only c p,i.s2.only c n,
  fun b q e=>by obtain⟨h,d,g⟩:=i.l1 b q e;exact⟨by rw[f b q d];exact h,da d c.size,g⟩,
  fun b q e=>by obtain⟨h,d,g⟩:=i.l2 b q e;exact⟨by rw[f b q d];exact h,da d c.size,g⟩⟩
theorem eG.below(h:eG w0 A B Z U w V X Y P)(b:Below w.heap.size w w1):eG w0 A B Z U w1 V X Y P:=by obtain⟨a,c,g,f,d⟩:=h;exact⟨a,fun t e=>(c t e).only (rj b) (fun _ _ _=>rfl) (fun _ h=>h) (fun _ _ _ h=>h) (fun _ _ _ h=>h),g,f,d.x (o0 b (fun e q=>a e q<30)) (fun _ _ _ h=>h)⟩
theorem eG.at_(h:eG w0 A B Z U w V X Y P){t:Nat}(b:t<3):w.heap[A t]?=some (tg (V t 0) (V t 1))/\aH 2 220 w (V t 0) ((X t).map aA) (P t 0)/\aH 1 169 w (V t 1) ((Y t).map aN) (P t 1):=by obtain⟨c,a,_⟩:=h;exact⟨(a t b).heap,(a t b).s1,(a t b).s2⟩
theorem eG.apart(n:eG w0 A B Z U w V X Y P){t s t' s':Nat}(c:t<3)(i:t'<3)(d:s<2)(h:s'<2)(l: ¬(t=t'/\s=s')){b q:Nat}(k:P t s b q): ¬P t' s' b q:=by
 obtain⟨g,f,_⟩:=n;intro j
 have e: ∀t s,t<3->s<2->P t s b q->g b q=10*t+s+1:=fun t s c d a=>match s,d,a with
  |0,_,a=>((f t c).l1 b q a).1
  |1,_,a=>((f t c).l2 b q a).1
  |_+2,d,_=>by omega
 have m:=e t s c d k;have a:=e t' s' i h j;omega
theorem eG.iZ(j:eG w0 A B Z U w V X Y P){t s t':Nat}(c:t<3)(f:t'<3)(d:s<2){b q:Nat}(g:P t s b q):b≠A t':=by
 obtain⟨e,a,_⟩:=j;intro h;subst h;have i:=(a t' f).own q
 have h:e (A t') q=10*t+s+1:=match s,d,g with
  |0,_,hh=>((a t c).l1 _ q hh).1
  |1,_,hh=>((a t c).l2 _ q hh).1
  |_+2,d,_=>by omega
 omega
theorem eG.NG(i:eG w0 A B Z U w V X Y P){t t':Nat}(c:t<3)(b:t'<3)(f:t≠t'):A t≠A t':=by obtain⟨e,a,_⟩:=i;intro h;have d:=(a t c).own 0;have g:=(a t' b).own 0;rw[h]at d;omega
theorem eG.UB(h:eG w0 A B Z U w V X Y P):OnlyC U w0 w:=by obtain⟨e,_,_,c,b⟩:=h;exact b.m (fun f q a d=>c f q a d)
theorem eG.pairs(E:eG w0 A B Z U w V X Y P){t:Nat}(c:t<3)(u:Below w.heap.size w w1)(o:OnlyC (P t 0) w1 w2){v':Value}{s:List Pr}(r:aH 2 220 w2 v' (s.map aA) (fun b q=>P t 0 b q\/w1.heap.size<=b)):
  eG w0 A B Z U (w2.setCell ⟨A t,0,none⟩ v') (DU V t 0 v') (Gh X t s) Y (DU P t 0 (fun b q=>(P t 0 b q\/w1.heap.size<=b)/\b<w2.heap.size)):=by
 have I:=E.below u;obtain⟨g,d,F,K,C⟩:=I;have p:=d;have L:w0.heap.size<=w1.heap.size:=C.size;have v:(w2.setCell ⟨A t,0,none⟩ v').heap.size=w2.heap.size:=by simp[World.setCell]
 have y:=OnlyC.aR w2 (A t) 0 v';have J: ∀b q,b<w1.heap.size->(if b<w1.heap.size then g b q else 10*t+1)=g b q:=fun b q u=>fi u
 have j: ∀{t e b q},t<3->e<2->P t e b q->g b q=10*t+e+1/\b<w1.heap.size:=fun{t e b q} c r a=>match e,r,a with
  |0,_,a=>⟨((p t c).l1 b q a).1,((p t c).l1 b q a).2.1⟩
  |1,_,a=>⟨((p t c).l2 b q a).1,((p t c).l2 b q a).2.1⟩
  |_+2,r,_=>by omega
 have D: ∀q,¬P t 0 (A t) q:=fun q a=>by have f:=(j c (by decide) a).1;have m:=(d t c).own q;omega
 have z:OnlyC (fun b q=>P t 0 b q\/(b=A t/\q=0)) w1 (w2.setCell ⟨A t,0,none⟩ v'):=(o.m (fun _ _ _ E=>.inl E)).x y (fun _ _ _ E=>.inr E);refine⟨fun b q=>if b<w1.heap.size then g b q else 10*t+1,fun i l=>?_,fun b q G=>?_,fun b q h e=>K b q h (by have n:(if b<w1.heap.size then g b q else _)<30:=e;rw[fi (by omega)]at n;exact n),?_⟩
 ·by_cases n:i=t
  ·subst n;have e:=d i c;have H:=o.heap e.heap D;rw[pz,gL V v' (by omega),sF,pz,gL P _ (by omega)];refine⟨?_,fun q=>by rw[fi (lt_of_heap e.heap)];exact e.own q,?_,?_,?_,?_⟩
   ·have:=dd w2 (A i) 0 _ _ v' H;simpa using this
   ·refine r.bound.only y (fun b q a n=>?_);obtain⟨rfl,rfl⟩:=n;rcases a.1 with f|f
    ·exact D 0 f
    ·have:=pb e.heap;omega
   ·refine(e.s2.only o (fun b q a m=>?_)).only y (fun b q a n=>?_)
    ·have x:=(e.l2 b q a).1;have k:=(j c (by decide) m).1;omega
    ·obtain⟨rfl,rfl⟩:=n;have x:=(e.l2 _ _ a).1;have k:=e.own 0;omega
   ·rintro b q ⟨f|f,m⟩
    ·have h:=e.l1 b q f;refine⟨?_,by rw[v];exact m,h.2.2⟩;rw[fi h.2.1];exact h.1
    ·refine⟨?_,by rw[v];exact m,.inr (by omega)⟩;rw[ff (by omega)]
   ·intro b q a;have h:=e.l2 b q a;refine⟨?_,by rw[v];exact da h.2.1 o.size,h.2.2⟩;rw[fi h.2.1];exact h.1
  ·rw[gL V v' (fun a=>n a.1),gL V v' (fun a=>n a.1),BQ X s n,gL P _ (fun a=>n a.1),gL P _ (fun a=>n a.1)];refine(d i l).only z J (fun q a=>?_) (fun b q f a=>?_) (fun b q f a=>?_)
   ·rcases a with a|⟨x,_⟩
    ·have k:=(j c (by decide) a).1;have e:=(d i l).own q;omega
    ·have k:=(d i l).own q;have e:=(d t c).own q;rw[x]at k;omega
   ·have h:=((d i l).l1 b q f).1;rcases a with a|⟨rfl,rfl⟩
    ·have k:=(j c (by decide) a).1;omega
    ·have e:=(d t c).own 0;omega
   ·have h:=((d i l).l2 b q f).1;rcases a with a|⟨rfl,rfl⟩
    ·have k:=(j c (by decide) a).1;omega
    ·have e:=(d t c).own 0;omega
 ·have:=F b q G;exact⟨by show(if b<w1.heap.size then g b q else _)=99;rw[fi (by omega)];exact this.1,this.2⟩
 ·refine(C.m (fun b q e a=>?_)).x z (fun b q e a=>?_)
  ·show(if b<w1.heap.size then g b q else _)<30;rw[fi (by omega)];exact a
  ·show(if b<w1.heap.size then g b q else _)<30;rw[fi (by omega)];rcases a with a|⟨rfl,rfl⟩
   ·have:=(j c (by decide) a).1;omega
   ·have:=(d t c).own 0;omega
theorem eG.kids(E:eG w0 A B Z U w V X Y P){t:Nat}(c:t<3)(u:Below w.heap.size w w1)(o:OnlyC (P t 1) w1 w2){v':Value}{s:List Nat}(r:aH 1 169 w2 v' (s.map aN) (fun b q=>P t 1 b q\/w1.heap.size<=b)):
  eG w0 A B Z U (w2.setCell ⟨A t,1,none⟩ v') (DU V t 1 v') X (Gh Y t s) (DU P t 1 (fun b q=>(P t 1 b q\/w1.heap.size<=b)/\b<w2.heap.size)):=by
 have I:=E.below u;obtain⟨g,d,F,K,C⟩:=I;have p:=d;have L:w0.heap.size<=w1.heap.size:=C.size;have v:(w2.setCell ⟨A t,1,none⟩ v').heap.size=w2.heap.size:=by simp[World.setCell]
 have y:=OnlyC.aR w2 (A t) 1 v';have J: ∀b q,b<w1.heap.size->(if b<w1.heap.size then g b q else 10*t+2)=g b q:=fun b q u=>fi u
 have j: ∀{t e b q},t<3->e<2->P t e b q->g b q=10*t+e+1/\b<w1.heap.size:=fun{t e b q} c r a=>match e,r,a with
  |0,_,a=>⟨((p t c).l1 b q a).1,((p t c).l1 b q a).2.1⟩
  |1,_,a=>⟨((p t c).l2 b q a).1,((p t c).l2 b q a).2.1⟩
  |_+2,r,_=>by omega
 have D: ∀q,¬P t 1 (A t) q:=fun q a=>by have f:=(j c (by decide) a).1;have m:=(d t c).own q;omega
 have z:OnlyC (fun b q=>P t 1 b q\/(b=A t/\q=1)) w1 (w2.setCell ⟨A t,1,none⟩ v'):=(o.m (fun _ _ _ E=>.inl E)).x y (fun _ _ _ E=>.inr E);refine⟨fun b q=>if b<w1.heap.size then g b q else 10*t+2,fun i l=>?_,fun b q G=>?_,fun b q h e=>K b q h (by have n:(if b<w1.heap.size then g b q else _)<30:=e;rw[fi (by omega)]at n;exact n),?_⟩
 ·by_cases n:i=t
  ·subst n;have e:=d i c;have H:=o.heap e.heap D;rw[pz,gL V v' (by omega),sF,pz,gL P _ (by omega)];refine⟨?_,fun q=>by rw[fi (lt_of_heap e.heap)];exact e.own q,?_,?_,?_,?_⟩
   ·have:=dd w2 (A i) 1 _ _ v' H;simpa using this
   ·refine(e.s1.only o (fun b q a m=>?_)).only y (fun b q a n=>?_)
    ·have x:=(e.l1 b q a).1;have k:=(j c (by decide) m).1;omega
    ·obtain⟨rfl,rfl⟩:=n;have x:=(e.l1 _ _ a).1;have k:=e.own 1;omega
   ·refine r.bound.only y (fun b q a n=>?_);obtain⟨rfl,rfl⟩:=n;rcases a.1 with f|f
    ·exact D 1 f
    ·have:=pb e.heap;omega
   ·intro b q a;have h:=e.l1 b q a;refine⟨?_,by rw[v];exact da h.2.1 o.size,h.2.2⟩;rw[fi h.2.1];exact h.1
   ·rintro b q ⟨f|f,m⟩
    ·have h:=e.l2 b q f;refine⟨?_,by rw[v];exact m,h.2.2⟩;rw[fi h.2.1];exact h.1
    ·refine⟨?_,by rw[v];exact m,.inr (by omega)⟩;rw[ff (by omega)]
  ·rw[gL V v' (fun a=>n a.1),gL V v' (fun a=>n a.1),BQ Y s n,gL P _ (fun a=>n a.1),gL P _ (fun a=>n a.1)];refine(d i l).only z J (fun q a=>?_) (fun b q f a=>?_) (fun b q f a=>?_)
   ·rcases a with a|⟨x,_⟩
    ·have k:=(j c (by decide) a).1;have e:=(d i l).own q;omega
    ·have k:=(d i l).own q;have e:=(d t c).own q;rw[x]at k;omega
   ·have h:=((d i l).l1 b q f).1;rcases a with a|⟨rfl,rfl⟩
    ·have k:=(j c (by decide) a).1;omega
    ·have e:=(d t c).own 1;omega
   ·have h:=((d i l).l2 b q f).1;rcases a with a|⟨rfl,rfl⟩
    ·have k:=(j c (by decide) a).1;omega
    ·have e:=(d t c).own 1;omega
 ·have:=F b q G;exact⟨by show(if b<w1.heap.size then g b q else _)=99;rw[fi (by omega)];exact this.1,this.2⟩
 ·refine(C.m (fun b q e a=>?_)).x z (fun b q e a=>?_)
  ·show(if b<w1.heap.size then g b q else _)<30;rw[fi (by omega)];exact a
  ·show(if b<w1.heap.size then g b q else _)<30;rw[fi (by omega)];rcases a with a|⟨rfl,rfl⟩
   ·have:=(j c (by decide) a).1;omega
   ·have:=(d t c).own 1;omega
theorem eG.inPlace(x:eG w0 A B Z U w V X Y P){t:Nat}(f:t<3)(e:OnlyC (P t 0) w w2){j:List Pr}(s:aH 2 220 w2 (V t 0) (j.map aA) (P t 0)):eG w0 A B Z U w2 V (Gh X t j) Y P:=by
 obtain⟨m,b,o,r,n⟩:=x;refine⟨m,fun d h=>?_,o,r,n.x e (fun g q _ a=>by have:=((b t f).l1 g q a).1;omega)⟩;by_cases u:d=t
 ·subst u;have c:=b d f;have p: ∀q,¬P d 0 (A d) q:=fun q a=>by have i:=(c.l1 _ _ a).1;have l:=c.own q;omega
  rw[sF];exact⟨e.heap c.heap p,c.own,s,c.s2.only e (fun g q a l=>by have v:=(c.l2 g q a).1;have k:=(c.l1 g q l).1;omega),fun g q a=>let⟨a1,a2,a3⟩:=c.l1 g q a;⟨a1,da a2 e.size,a3⟩,fun g q a=>let⟨a1,a2,a3⟩:=c.l2 g q a;⟨a1,da a2 e.size,a3⟩⟩
 ·rw[BQ X j u];refine(b d h).only e (fun _ _ _=>rfl) (fun q a=>?_) (fun g q i a=>?_) (fun g q i a=>?_)
  ·have k:=((b t f).l1 _ _ a).1;have c:=(b d h).own q;omega
  ·have c:=((b d h).l1 g q i).1;have k:=((b t f).l1 _ _ a).1;omega
  ·have c:=((b d h).l2 g q i).1;have k:=((b t f).l1 _ _ a).1;omega
end
def DV{α:Type}(a b c:α):Nat->α:=fun t=>if t=0 then a else if t=1 then b else c
def uE{α:Type}(a b:α):Nat->α:=fun t=>if t=0 then a else b
@[simp] theorem adH {α:Type} (a b c:α):DV a b c 0=a:=rfl
@[simp] theorem adI {α:Type} (a b c:α):DV a b c 1=b:=rfl
@[simp] theorem adJ {α:Type} (a b c:α):DV a b c 2=c:=rfl
@[simp] theorem adK {α:Type} (a b:α):uE a b 0=a:=rfl
@[simp] theorem adL {α:Type} (a b:α):uE a b 1=b:=rfl
def Jq(H c a:Nat->Nat->Nat->Prop)(i:Nat)(b q:Nat):Prop:=(∃j,j≠i/\j≠i+1/\H (j+3) b q)\/(∃j,c (j+3) b q)\/ ∃j,a (j+3) b q
theorem eG.start{w:World}{d a i l r:Nat}{x I G:ND}{F:Nat->Nat->Prop}{T U P L K O:Value}{N J V:List Nat}{H h n:Nat->Nat->Nat->Prop}(g:aZ w (aG w d) a x F T U N H)(Z: ∀c q,F c q->c<w.heap.size)
  (j:aZ w (bX w d) l I (H (i+3)) P L J h) (k:aZ w (bX w d) r G (H (i+4)) K O V n):
  eG w (DV a l r) (fun E s=>DV (H (s+1)) (h (s+1)) (n (s+1)) E) (Jq H h n i) F w (fun E s=>DV (uE T U s) (uE P L s) (uE K O s) E) (DV x.ps I.ps G.ps) (DV N J V) (fun E s=>DV (H (s+1)) (h (s+1)) (n (s+1)) E):=by
 obtain⟨o,v,X⟩:=wh H g.2.2.2.2.2.2.2;obtain⟨B,h1,aa⟩:=wh h j.2.2.2.2.2.2.2;obtain⟨D,h2,ac⟩:=wh n k.2.2.2.2.2.2.2;obtain⟨f,p⟩: ∃f:Nat->Nat->Nat,∀c q,f c q=if o c q=0 then 99 else if o c q=i+4 then(if B c q≠0/\B c q<4 then 9+B c q else 99)else if o c q=i+5 then(if D c q≠0/\D c q<4 then 19+D c q else 99)else if o c q<4 then o c q-1 else 99:=⟨_,fun _ _=>rfl⟩
 have C: ∀m c q,m<3->H m c q->f c q=m:=fun m c q R b=>by rw[p,v m c q b,ff (by omega),ff (by omega),ff (by omega),fi (by omega),oE]
 have u: ∀m c q,h m c q->f c q=if m<3 then 10+m else 99:=fun m c q b=>by rw[p,v (i+3) c q (j.own.1 m c q b),ff (by omega),fi rfl,h1 m c q b];split<;>split<;>omega
 have t: ∀m c q,n m c q->f c q=if m<3 then 20+m else 99:=fun m c q b=>by rw[p,v (i+4) c q (k.own.1 m c q b),ff (by omega),ff (by omega),fi rfl,h2 m c q b];split<;>split<;>omega
 have Y: ∀y c q,y≠i->y≠i+1->H (y+3) c q->f c q=99:=fun y c q M W b=>by rw[p,v (y+3) c q b,ff (by omega),ff (by omega),ff (by omega),ff (by omega)]
 have s: ∀m c q,H m c q->c<w.heap.size:=fun m c q b=>Z c q (g.own.1 m c q b);have A: ∀m c q,h m c q->c<w.heap.size:=fun m c q b=>s _ c q (j.own.1 m c q b);have z: ∀m c q,n m c q->c<w.heap.size:=fun m c q b=>s _ c q (k.own.1 m c q b);refine⟨f,fun E Q=>?_,?_,fun c q _ S=>?_,OnlyC.refl _ _⟩;rotate_left 2
 ·rw[p]at S;by_cases e:o c q=0
  ·rw[fi e]at S;omega
  ·obtain⟨m,R⟩:=X c q e;exact g.own.1 m c q R
 ·match E,Q with
  |0,_=>exact⟨g.1,fun q=>C 0 a q (by decide) (g.2.1 q),g.2.2.1,g.2.2.2.1,fun c q b=>⟨C 1 c q (by decide) b,s 1 c q b,.inl b⟩,fun c q b=>⟨C 2 c q (by decide) b,s 2 c q b,.inl b⟩⟩
  |1,_=>exact⟨j.1,fun q=>u 0 l q (j.2.1 q),j.2.2.1,j.2.2.2.1,fun c q b=>⟨u 1 c q b,A 1 c q b,.inl b⟩,fun c q b=>⟨u 2 c q b,A 2 c q b,.inl b⟩⟩
  |2,_=>exact⟨k.1,fun q=>t 0 r q (k.2.1 q),k.2.2.1,k.2.2.2.1,fun c q b=>⟨t 1 c q b,z 1 c q b,.inl b⟩,fun c q b=>⟨t 2 c q b,z 2 c q b,.inl b⟩⟩
  |_+3,Q=>omega
 ·rintro c q (⟨y,M,W,b⟩|⟨y,b⟩|⟨y,b⟩)
  ·exact⟨Y y c q M W b,s _ c q b⟩
  ·have:=u (y+3) c q b;rw[ff (by omega)]at this;exact⟨this,A _ c q b⟩
  ·have:=t (y+3) c q b;rw[ff (by omega)]at this;exact⟨this,z _ c q b⟩
section
variable{w0 w:World}{A:Nat->Nat}{B:Nat->Nat->Nat->Nat->Prop}{Z U:Nat->Nat->Prop}{V:Nat->Nat->Value}{X:Nat->List Pr}{Y:Nat->List Nat}{P:Nat->Nat->Nat->Nat->Prop}
theorem eG.keep(j:eG w0 A B Z U w V X Y P){d p:Nat}{k:ND}{K:Nat->Nat->Prop}(c:bX w0 d p k K)(g: ∀b q,K b q->Z b q):bX w d p k K:=by obtain⟨h,_,a,_,e⟩:=j;exact c.only e (fun b q f i=>by have:=(a b q (g b q f)).1;omega)
theorem eG.node{d a t:Nat}{x:ND}{K:Nat->Nat->Prop}{W vk:Value}{s:List Nat}{H:Nat->Nat->Nat->Prop}(k:aZ w0 (bX w0 d) a x K W vk s H)(S: ∀i b q,H i b q->i<x.ks.length+3)(v: ∀b q,K b q->b<w0.heap.size)
  (h:eG w0 A B Z U w V X Y P) (R:t<3) (G:A t=a) (BR:B t 0=H 1) (Q:B t 1=H 2) (L: ∀o b q,H (o+3) b q->Z b q) (lo hi:Nat) (J:lo<=hi) (I:hi<=x.ks.length) (g:List (Nat×ND)) (M:Nat->Nat->Nat->Prop)
  (O:Y t=s.take lo++g.map Prod.fst++s.drop hi) (u: ∀m b q,M m b q->Z b q/\ ¬K b q) (y: ∀m l b q,M m b q->M l b q->m=l) (C: ∀m p n,g[m]?=some (p,n)->bX w0 d p n (M m)) (h0:d=0->x.ks.take lo++g.map Prod.snd++x.ks.drop hi=[]):
  ∃c,aG w d a (.mk (X t) (x.ks.take lo++g.map Prod.snd++x.ks.drop hi)) c/\ ∀b q,c b q->H 0 b q\/P t 0 b q\/P t 1 b q\/(∃o,(o<lo\/(hi<=o/\o<x.ks.length))/\H (o+3) b q)\/ ∃m,M m b q:=by
 have z:=fun d p n K=> @eG.keep w0 w A B Z U V X Y P h d p n K;obtain⟨r,D,N,_,ho⟩:=h;have e:=D t R;rw[G,BR,Q]at e;have f1: ∀b q,P t 0 b q->H 1 b q\/ ¬K b q:=fun b q j=>(e.l1 b q j).2.2.imp id (fun c i=>by have:=v b q i;omega);have T: ∀b q,P t 1 b q->H 2 b q\/ ¬K b q:=fun b q j=>(e.l2 b q j).2.2.imp id (fun c i=>by have:=v b q i;omega)
 have F:=aZ.splice (w':=w) (a':=a) (ps':=X t) (vp':=V t 0) (vk':=V t 1) (P0:=H 0) (P1:=P t 0) (P2:=P t 1) (M:=M) k lo hi J I g e.heap k.2.1 e.s1 (by rw[<-O];exact e.s2)
  (fun m p n c=>z d p n _ (C m p n c) (fun b q f=>(u m b q f).1)) (fun o p n _ j i=>z d p n _ (k.2.2.2.2.2.1 o p n j i) (fun b q f=>L o b q f)) (fun b q f=>.inl f) f1 T (fun m b q f=>.inr (u m b q f).2) y
  (fun m l b q i c j=>by
   have f: ∀m,NC (H 0) (P t 0) (P t 1) M m b q->(m=1/\r b q=10*t+1)\/(m=2/\r b q=10*t+2)\/(∃n,m=n+3/\r b q=99/\M n b q):=fun m c=>match m,c with
    |0,c=>absurd (k.own.1 0 b q c) i
    |1,c=>.inl ⟨rfl,(e.l1 b q c).1⟩
    |2,c=>.inr (.inl ⟨rfl,(e.l2 b q c).1⟩)
    |n+3,c=>.inr (.inr ⟨n,rfl,(N b q (u n b q c).1).1,c⟩)
   rcases f m c with⟨p,i⟩|⟨p,i⟩|⟨n,p,i,E⟩<;>rcases f l j with⟨j,c⟩|⟨j,c⟩|⟨l,j,c,c3⟩<;>first
    |omega
    |(have:=y n l b q E c3;omega))
 refine⟨_,F.close h0,?_⟩;rintro b q ⟨o,f⟩;rcases fU f with c|c|c|⟨m,i,c⟩|⟨m,_,c⟩
 ·exact .inl c
 ·exact .inr (.inl c)
 ·exact .inr (.inr (.inl c))
 ·have:=S _ b q c;exact .inr (.inr (.inr (.inl ⟨m,by omega,c⟩)))
 ·exact .inr (.inr (.inr (.inr ⟨m,c⟩)))
theorem eG.parent{d a i:Nat}{x:ND}{F:Nat->Nat->Prop}{W vk:Value}{u:List Nat}{H:Nat->Nat->Nat->Prop}(f:aZ w0 (aG w0 d) a x F W vk u H)(t: ∀c q,F c q->c<w0.heap.size)(hi:i+2<=x.ks.length)
  (h:eG w0 A B Z U w V X Y P) (K:A 0=a) (BR:B 0 0=H 1) (O:B 0 1=H 2) (L: ∀D c q,D≠i->D≠i+1->H (D+3) c q->Z c q) (n:List (Nat×ND)) (M:Nat->Nat->Nat->Prop)
  (N:Y 0=u.take i++n.map Prod.fst++u.drop (i+2)) (Q: ∀m c q,M m c q->H (i+3) c q\/H (i+4) c q\/(∃s,s<2/\(P 1 s c q\/P 2 s c q))) (G: ∀m p c q,M m c q->M p c q->m=p) (J: ∀m z C,n[m]?=some (z,C)->aG w d z C (M m))
  (S: ∀s c q,s<2->(P 1 s c q\/P 2 s c q)->H (i+3) c q\/H (i+4) c q\/w0.heap.size<=c):
  aG w (d+1) a (.mk (X 0) (x.ks.take i++n.map Prod.snd++x.ks.drop (i+2))) (fun c q=>F c q\/w0.heap.size<=c):=by
 have T:=fun z C b=> @eG.keep w0 w A B Z U V X Y P h (d+1) z C b;obtain⟨o,r,hz,_,ho⟩:=h;have g:=r 0 (by decide);rw[K,BR,O]at g;have f1: ∀c q,P 0 0 c q->H 1 c q\/ ¬F c q:=fun c q l=>(g.l1 c q l).2.2.imp id (fun b k=>by have:=t c q k;omega);have R: ∀c q,P 0 1 c q->H 2 c q\/ ¬F c q:=fun c q l=>(g.l2 c q l).2.2.imp id (fun b k=>by have:=t c q k;omega)
 have v: ∀m c q,M m c q->H (i+3) c q\/H (i+4) c q\/(w0.heap.size<=c/\10<=o c q):=fun m c q e=>by
  rcases Q m c q e with b|b|⟨s,y,b⟩
  ·exact .inl b
  ·exact .inr (.inl b)
  ·rcases S s c q y b with j|j|j
   ·exact .inl j
   ·exact .inr (.inl j)
   ·refine .inr (.inr ⟨j,?_⟩);have I:=r 1 (by decide);have E:=r 2 (by decide)
    match s,y,b with
    |0,_,.inl b=>have:=(I.l1 c q b).1;omega
    |0,_,.inr b=>have:=(E.l1 c q b).1;omega
    |1,_,.inl b=>have:=(I.l2 c q b).1;omega
    |1,_,.inr b=>have:=(E.l2 c q b).1;omega
    |_+2,y,_=>omega
 have E:=aZ.splice (d:=d+1) (w':=w) (a':=a) (ps':=X 0) (vp':=V 0 0) (vk':=V 0 1) (P0:=H 0) (P1:=P 0 0) (P2:=P 0 1) (M:=M) f i (i+2) (by omega) hi n g.heap f.2.1 g.s1 (by rw[<-N];exact g.s2)
  J (fun D z C y l k=>T z C _ (f.2.2.2.2.2.1 D z C l k) (fun c q j=>L D c q (by omega) (by omega) j)) (fun c q j=>.inl j) f1 R
  (fun m c q j=>by
   rcases v m c q j with b|b|⟨b,_⟩
   ·exact .inl ⟨i,by omega,by omega,b⟩
   ·exact .inl ⟨i+1,by omega,by omega,b⟩
   ·exact .inr (fun j=>by have:=t c q j;omega)) G
  (fun m p c q j e z=>by
   have l: ∀m,NC (H 0) (P 0 0) (P 0 1) M m c q->(m=1/\o c q=1)\/(m=2/\o c q=2)\/(∃k,m=k+3/\10<=o c q/\M k c q):=fun m e=>match m,e with
    |0,e=>absurd (f.own.1 0 c q e) j
    |1,e=>.inl ⟨rfl,(g.l1 c q e).1⟩
    |2,e=>.inr (.inl ⟨rfl,(g.l2 c q e).1⟩)
    |k+3,e=>by
     refine .inr (.inr ⟨k,rfl,?_,e⟩);rcases v k c q e with b|b|⟨_,b⟩
     ·exact absurd (f.own.1 _ c q b) j
     ·exact absurd (f.own.1 _ c q b) j
     ·exact b
   rcases l m e with⟨s,j⟩|⟨s,j⟩|⟨k,s,j,C⟩<;>rcases l p z with⟨p,e⟩|⟨p,e⟩|⟨z,p,e,I⟩<;>first
    |omega
    |(have:=G k z c q C I;omega))
 refine(aZ.close (d:=d+1) E (fun e=>by omega)).m ?_;rintro c q ⟨D,y⟩;rcases fU y with e|e|e|⟨m,_,e⟩|⟨m,_,e⟩
 ·exact .inl (f.own.1 0 c q e)
 ·exact(g.l1 c q e).2.2.imp (f.own.1 1 c q) id
 ·exact(g.l2 c q e).2.2.imp (f.own.1 2 c q) id
 ·exact .inl (f.own.1 _ c q e)
 ·rcases v m c q e with b|b|⟨b,_⟩
  ·exact .inl (f.own.1 _ c q b)
  ·exact .inl (f.own.1 _ c q b)
  ·exact .inr b
end
end Go.Proofs.YtehccbdajiiaaaaGreatDoor
