import Derived.Test.YtmkofmeojbcakaaGreatDoorC02
import Derived.Test.YtmkofmeojbcakaaGreatDoorC03
import Derived.Sort.Walk0
import Derived.Deep.CutRange
namespace Go.Proofs.YtmkofmeojbcakaaGreatDoor
open Go.Proofs.Tryz
set_option maxRecDepth 100000
set_option maxHeartbeats 16000000
open Go.RowKit
def av(p:Pr):List Value:=[.string ⟨p.1.toArray⟩,.string ⟨p.2.toArray⟩]
def aP(a:Nat):List Value:=[.pointer (some ⟨a,0,none⟩)]
def uw(H:Nat->Nat->Nat->Prop)(F:Nat->Nat->Prop):Prop:=(∀i b o,H i b o->F b o)/\ ∀i j b o,H i b o->H j b o->i=j
def iE(w:World)(sub:Nat->ND->(Nat->Nat->Prop)->Prop)(a:Nat)(x:ND)(F:Nat->Nat->Prop):Prop:=
 ∃(vp vk:Value) (aA:List Nat) (H:Nat->Nat->Nat->Prop),w.heap[a]?=some (.cells #[vp,vk] 185 (0,0))/\(∀o,H 0 a o)/\az 2 195 w vp (x.ps.map av) (H 1)/\az 1 181 w vk (aA.map aP) (H 2)/\
  aA.length=x.ks.length/\(∀i p k,aA[i]?=some p->x.ks[i]?=some k->sub p k (H (i+3)))/\uw H F
def ay(w:World):Nat->Nat->ND->(Nat->Nat->Prop)->Prop
 |0,a,x,F=>x.ks=[]/\iE w (fun _ _ _=>True) a x F
 |d+1,a,x,F=>iE w (ay w d) a x F
section
variable{w w':World}{F G:Nat->Nat->Prop}{a:Nat}{x:ND}
theorem uw.mono{H:Nat->Nat->Nat->Prop}(h:uw H F)(hF: ∀b o,F b o->G b o):uw H G:=⟨fun i b o hh=>hF b o (h.1 i b o hh),h.2⟩
abbrev uw.m:=@uw.mono
theorem iE.mono{sub:Nat->ND->(Nat->Nat->Prop)->Prop}(h:iE w sub a x F)(hF: ∀b o,F b o->G b o):iE w sub a x G:=by obtain⟨vp,vk,aA,H,h1,h2,h3,h4,h5,h6,h7⟩:=h;exact⟨vp,vk,aA,H,h1,h2,h3,h4,h5,h6,h7.m hF⟩
abbrev iE.m:=@iE.mono
theorem ay.mono{d:Nat}(h:ay w d a x F)(hF: ∀b o,F b o->G b o):ay w d a x G:=by
 cases d with
 |zero=>exact⟨h.1,h.2.m hF⟩
 |succ d=>exact iE.m h hF
abbrev ay.m:=@ay.mono
theorem ay.base{d:Nat}(h:ay w d a x F):iE w (fun _ _ _=>True) a x F:=by
 cases d with
 |zero=>exact h.2
 |succ d=>obtain⟨vp,vk,aA,H,h1,h2,h3,h4,h5,h6,h7⟩:=h;exact⟨vp,vk,aA,H,h1,h2,h3,h4,h5,fun _ _ _ _ _=>trivial,h7⟩
theorem iE.only{sub sub':Nat->ND->(Nat->Nat->Prop)->Prop}(h:iE w sub a x F)(ho:OnlyC G w w')(hd: ∀b o,F b o-> ¬G b o)(hs: ∀p k K,(∀b o,K b o-> ¬G b o)->sub p k K->sub' p k K):iE w' sub' a x F:=by obtain⟨vp,vk,aA,H,h1,h2,h3,h4,h5,h6,h7⟩:=h;have hH: ∀i b o,H i b o-> ¬G b o:=fun i b o hh=>hd b o (h7.1 i b o hh);exact⟨vp,vk,aA,H,ho.heap h1 (fun j=>hH 0 a j (h2 j)),h2,h3.only ho (hH 1),h4.only ho (hH 2),h5,fun i p k hp hk=>hs p k _ (hH _) (h6 i p k hp hk),h7⟩
theorem ay.only(ho:OnlyC G w w'): ∀{d:Nat} {a:Nat} {x:ND} {F:Nat->Nat->Prop},ay w d a x F->(∀b o,F b o-> ¬G b o)->ay w' d a x F
 |0,_,_,_,h,hd=>⟨h.1,h.2.only ho hd (fun _ _ _ _ h=>h)⟩
 |_+1,_,_,_,h,hd=>iE.only h ho hd (fun _p _k _K hK hs=>ay.only ho hs hK)
theorem ay.below{d:Nat}(h:ay w d a x F)(hb:Below w.heap.size w w'):ay w' d a x F:=h.only (qe hb) (fun _ _ _ h=>h)
theorem ay.bound: ∀{d:Nat} {a:Nat} {x:ND} {F:Nat->Nat->Prop},ay w d a x F->ay w d a x (fun b o=>F b o/\b<w.heap.size)
 |0,_,_,_F,⟨h0,vp,vk,aA,H,h1,h2,h3,h4,h5,_h6,h7⟩=>
  ⟨h0,vp,vk,aA,fun i b o=>H i b o/\b<w.heap.size,h1,fun o=>⟨h2 o,oE h1⟩,h3.bound,h4.bound,h5,fun _ _ _ _ _=>trivial,fun i b o ⟨q1,q2⟩=>⟨h7.1 i b o q1,q2⟩,fun i j b o q1 q2=>h7.2 i j b o q1.1 q2.1⟩
 |_+1,_,_,_F,⟨vp,vk,aA,H,h1,h2,h3,h4,h5,h6,h7⟩=>
  ⟨vp,vk,aA,fun i b o=>H i b o/\b<w.heap.size,h1,fun o=>⟨h2 o,oE h1⟩,h3.bound,h4.bound,h5,fun i p k hp hk=>(h6 i p k hp hk).bound,fun i b o ⟨q1,q2⟩=>⟨h7.1 i b o q1,q2⟩,fun i j b o q1 q2=>h7.2 i j b o q1.1 q2.1⟩
end
theorem az.pair{w:World}{v:Value}{ps:List Pr}{F:Nat->Nat->Prop}(h:az 2 195 w v (ps.map av) F){i:Nat}{p:Pr}(hp:ps[i]?=some p):
  ∃b o c,v=.slice (some ⟨b,o,none⟩) ps.length c/\ps.length<=c/\c<=maxLen/\w.cell? ⟨b,o+i*2,none⟩=some (.string ⟨p.1.toArray⟩)/\w.cell? ⟨b,o+i*2+1,none⟩=some (.string ⟨p.2.toArray⟩)/\w.frozen? ⟨b,o+i*2,none⟩=false/\w.frozen? ⟨b,o+i*2+1,none⟩=false:=by
 have hi:=(b8.1 hp).1;obtain⟨b,o,c,cs,rfl,q2,q3,q4,q6,q7,q8,q9⟩:=h.lies (by simp;omega);have hx:(ps.map av)[i]?=some (av p):=by simp[hp]
 have e0:=vY q4 i _ hx 0 _ rfl;have e1:=vY q4 i _ hx 1 _ rfl;refine⟨b,o,c,by simp,by simpa using q2,q3,oS q6 (q9 _ _ e0),?_,frozen_of_heap q6 _,frozen_of_heap q6 _⟩;have:=oS q6 (q9 _ _ e1);rwa[show o+(i*2+1)=o+i*2+1 by omega]at this
theorem az.ptr{w:World}{v:Value}{ps:List Nat}{F:Nat->Nat->Prop}(h:az 1 181 w v (ps.map aP) F){i p:Nat}(hp:ps[i]?=some p):
  ∃b o c,v=.slice (some ⟨b,o,none⟩) ps.length c/\ps.length<=c/\c<=maxLen/\w.cell? ⟨b,o+i,none⟩=some (.pointer (some ⟨p,0,none⟩)):=by
 have hi:=(b8.1 hp).1;obtain⟨b,o,c,cs,rfl,q2,q3,q4,q6,q7,q8,q9⟩:=h.lies (by simp;omega);have hx:(ps.map aP)[i]?=some (aP p):=by simp[hp]
 have e0:=vY q4 i _ hx 0 _ rfl;refine⟨b,o,c,by simp,by simpa using q2,q3,?_⟩;have:=oS q6 (q9 _ _ e0);rwa[show o+(i*1+0)=o+i by omega]at this
theorem az.slice{k:Nat}{t:TypeId}{w:World}{v:Value}{xs:List (List Value)}{F:Nat->Nat->Prop}(h:az k t w v xs F): ∃A c,v=.slice A xs.length c/\xs.length<=c/\c<=maxLen:=by obtain⟨A,c,h1,h2,h3,_⟩:=h;exact⟨A,c,h1,h2,h3⟩
def geq(key:List UInt8)(ps:List Pr)(i:Nat):Bool:=match ps[i]? with
 |some p=>!decide (p.1<key)
 |none=>true
theorem UZ{key:List UInt8}{ps:List Pr}{i:Nat}(hi:i<posOf key ps):geq key ps i=false:=by unfold geq;have hl:=eU key ps;have hp:ps[i]?=some (ps[i]'(by omega)):=ao _;rw[hp];have:=fh key ps (ps[i]'(by omega)) (List.mem_take_iff_getElem.2 ⟨i,by omega,rfl⟩);simp[this]
theorem U1{key:List UInt8}{ps:List Pr}(hu:Up ps){i:Nat}(hi:posOf key ps<=i):geq key ps i=true:=by
 unfold geq;split
 ·rename_i p hp;have hlt:=(b8.1 hp).1;have h0:ps[posOf key ps]?=some (ps[posOf key ps]'(by omega)):=ao _;have hd:=nv key ps _ h0;by_cases e:posOf key ps=i
  ·have:ps[posOf key ps]'(by omega)=p:=by
    have:=hp;rw[<-e,h0]at this;injection this
   rw[this]at hd;simp[hd]
  ·have:=(List.pairwise_iff_getElem.1 hu) (posOf key ps) i (by omega) hlt (by omega);have hp':ps[i]'hlt=p:=(b8.1 hp).2;rw[hp']at this;have: ¬p.1<key:=fun h=>hd (eT this h);simp[this]
 ·rfl
def QY(w:World)(f:Value)(key:List UInt8)(ps:List Pr):Prop:=
 ∃(B C:Nat),f=.func (.func 147) #[] #[.pointer (some ⟨B,0,none⟩),.pointer (some ⟨C,0,none⟩)]/\
  ∀(i:Nat) (n:Nat),i<ps.length->Calls prog 147 #[.int .i64 i,.pointer (some ⟨B,0,none⟩),.pointer (some ⟨C,0,none⟩)] (w.drewN n) fun e w'=>e=.returned (.bool (geq key ps i))/\ ∃m,w'=w.drewN m
theorem half(i j:Nat)(h:i<j):i<=(i+j)/2/\(i+j)/2<j:=by omega
theorem Kc(w:World)(f:Value)(key:List UInt8)(ps:List Pr)(hu:Up ps)(hlen:ps.length<=1000)(hf:QY w f key ps):
  Calls prog 146 #[.int .i64 ps.length,f] w fun e w'=>e=.returned (.int .i64 (posOf key ps))/\ ∃n,w'=w.drewN n:=by
 obtain⟨B,C,rfl,hf⟩:=hf;have HF:=al (ab hf (ab hu (eU key ps)));clear hf hu;go_enter func146,ntmps146;go_wp2_with fail
 go_loopw [5,6] (fun i j wr=> ∃a b n:Nat,i=.int .i64 (a:Int)/\j=.int .i64 (b:Int)/\wr=w.drewN n/\a<=posOf key ps/\posOf key ps<=b/\b<=ps.length) (fun i j _=>(intOf j).toNat-(intOf i).toNat)
 case atStart=>exact⟨0,ps.length,0,rfl,rfl,rfl,dq _,HF.o.d,aE _⟩
 case round=>
  obtain⟨a,b,n,rfl,rfl,rfl,r1,r2,r3⟩:=hrel;have HR:=al (ab r1 r2);clear r1 r2;by_cases hlt:a<b
  ·have hh:=half a b hlt;obtain⟨m,hm⟩:=qS ((a+b)/2);have HM:=al hm;rw[<-hm]at hh;clear hm;have hE:((a:Int)+(b:Int))/2=(m:Int):=by have:=HM.o;omega
   have HE:=al hE;clear hE;go_wp2_with fail;rw[HE.o];by_cases hg:m<posOf key ps
   ·have h2:=HF.o.1 m n (by omega);rw[UZ hg]at h2;refine h2.m ?_;rintro e w2 ⟨rfl,q,rfl⟩;clear h2;go_wp2_with fail;go_roundw
    case rel=>exact⟨m+1,b,q,by go_num,rfl,rfl,hg,HR.o.2,r3⟩
    case measure=>simp[intOf];omega
   ·have h2:=HF.o.1 m n (by omega);rw[U1 HF.o.2.1 (Nat.le_of_not_lt hg)]at h2;refine h2.m ?_;rintro e w2 ⟨rfl,q,rfl⟩;clear h2;go_wp2_with fail;go_roundw
    case rel=>exact⟨a,m,q,rfl,rfl,rfl,HR.o.1,Nat.le_of_not_lt hg,by omega⟩
    case measure=>simp[intOf];omega
  ·go_wp2_with fail;go_ret
   have:=HR.o;obtain rfl:a=posOf key ps:=by omega
   exact⟨rfl,_,rfl⟩
theorem MR(w:World)(F:Nat->Nat->Prop)(a B C:Nat)(x:ND)(key:List UInt8)(i:Nat)(h:iE w (fun _ _ _=>True) a x F)(hB:w.cell? ⟨B,0,none⟩=some (.pointer (some ⟨a,0,none⟩)))(hC:w.cell? ⟨C,0,none⟩=some (.string ⟨key.toArray⟩))(hi:i<x.ps.length):
  Calls prog 147 #[.int .i64 i,.pointer (some ⟨B,0,none⟩),.pointer (some ⟨C,0,none⟩)] w fun e w'=>e=.returned (.bool (geq key x.ps i))/\ ∃m,w'=w.drewN m:=by
 obtain⟨vp,vk,aA,H,h1,_,h3,_⟩:=h;obtain⟨p,hp⟩: ∃p,x.ps[i]?=some p:=⟨_,ao hi⟩;obtain⟨b,o,c,rfl,q1,q2,k0,_⟩:=h3.pair hp;have c0:w.cell? ⟨a,0,none⟩=some (.slice (some ⟨b,o,none⟩) x.ps.length c):=by simp[World.cell?,h1]
 have HG:=al (show geq key x.ps i=!decide (p.1<key) by unfold geq;rw[hp]);have i1:(0:Int)<=(i:Int):=by omega
 have i2:(i:Int)<(x.ps.length:Int):=by omega
 clear h1 h3 hp;go_enter func147,ntmps147;go_wp2;go_quiet(fail);go_wp2;go_ret
 exact⟨by rw[HG.o,<-bytesLess_eq];rfl,_,rfl⟩
theorem aG{B:Nat}{w w':World}(h:Below B w w')(n:Nat):Below B w (w'.drewN n):=⟨h.os,h.tape,h.output,h.size,h.block⟩
theorem Ke(w:World)(o1 o2:Obj):Below w.heap.size w ((w.alloc o1).alloc o2):=((aw _ _).alloc (aE _) _).alloc (by simp) _
theorem find_ok(w:World)(F:Nat->Nat->Prop)(a:Nat)(x:ND)(key:List UInt8)(h:iE w (fun _ _ _=>True) a x F)(hu:Up x.ps)(hlen:x.ps.length<=1000):
  Calls prog 118 #[.pointer (some ⟨a,0,none⟩),.string ⟨key.toArray⟩] w fun e w'=>e=.returned (.tuple #[.int .i64 (posOf key x.ps),.bool (hit key x.ps)])/\Below w.heap.size w w':=by
 have hbb:=Ke w (.cells #[.pointer (some ⟨a,0,none⟩)] 181) (.cells #[.string ⟨key.toArray⟩] 9);have k1:=Lib.cell?_alloc_some (.cells #[.string ⟨key.toArray⟩] 9) (bK (an w (.cells #[.pointer (some ⟨a,0,none⟩)] 181)));have k2:=bK (an (w.alloc (.cells #[.pointer (some ⟨a,0,none⟩)] 181)) (.cells #[.string ⟨key.toArray⟩] 9));rw[show(w.alloc (.cells #[.pointer (some ⟨a,0,none⟩)] 181)).heap.size=w.heap.size+1 by simp]at k2;go_enter func118,ntmps118;go_upto_region 1 with fail;generalize (w.alloc (.cells #[.pointer (some ⟨a,0,none⟩)] 181)).alloc (.cells #[.string ⟨key.toArray⟩] 9)=w2 at k1 k2 hbb⊢;have h2:=h.only (sub':=fun _ _ _=>True) (qe hbb) (fun _ _ _ h=>h) (fun _ _ _ _ _=>trivial);obtain⟨B,hB⟩:=qt (w.heap.size);rw[hB]at k1 k2⊢;have U2:=al hbb;have HN:=al (ab h2 (ab hu (eU key x.ps)));have HS:=al (Kc w2 (.func (.func 147) #[] #[.pointer (some ⟨B,0,none⟩),.pointer (some ⟨B+1,0,none⟩)]) key x.ps hu hlen ⟨B,B+1,rfl,fun i n hi=>(MR (w2.drewN n) F a B (B+1) x key i h2 k1 k2 hi).m (fun e w' ⟨r1,m,r2⟩=>⟨r1,n+m,by rw[r2,World.drewN_drewN]⟩)⟩);obtain⟨vp,vk,aA,H,h1,_,h3,_⟩:=h2;obtain⟨A,c,rfl,q1,q2⟩:=h3.slice;have c0:w2.cell? ⟨a,0,none⟩=some (.slice A x.ps.length c):=by simp[World.cell?,h1]
 have H3:=al h3;clear h hu hbb hB h1 h3 q1 q2;go_wp2_with fail;refine HS.o.m ?_;rintro e w3 ⟨rfl,n,rfl⟩;clear HS;by_cases hlt:posOf key x.ps<x.ps.length
 ·obtain⟨p,hp⟩: ∃p,x.ps[posOf key x.ps]?=some p:=⟨_,ao hlt⟩;obtain⟨b,o,c',e1,_,_,k3,_⟩:=H3.o.pair hp;injection e1 with e1 e2 e3;subst e1 e3;have HH:=al (show hit key x.ps=decide (p.1=key) by unfold hit;rw[hp]);have hd:decide (posOf key x.ps<x.ps.length)=true:=by simpa using hlt
  have i1:(0:Int)<=(posOf key x.ps:Int):=by omega
  have i2:(posOf key x.ps:Int)<(x.ps.length:Int):=by omega
  generalize Yd:posOf key x.ps=P at *;have HP:=al Yd;clear hp Yd;go_wp2_with fail;go_quiet(fail);go_wp2_with fail
  go_ret2
  exact⟨by rw[HP.o,HH.o,<-Bool.beq_eq_decide_eq];rfl,aG (aG U2.o _) _⟩
 ·have hd:decide (posOf key x.ps<x.ps.length)=false:=by simpa using hlt
  have HH:=al (show hit key x.ps=false by unfold hit;rw[List.getElem?_eq_none (by omega)]);generalize Yd:posOf key x.ps=P at *;have HP:=al Yd;clear Yd;go_wp2_with fail;go_quiet(fail);go_wp2_with fail
  go_ret2
  exact⟨by rw[HP.o,HH.o];rfl,aG (aG U2.o _) _⟩
theorem FD{_k:Nat}{xs:List (List Value)}(i j:Nat)(u:Value)(h:(xs.take i).flatten[j]?=some u):xs.flatten[j]?=some u:=by
 have:xs.flatten=(xs.take i).flatten++(xs.drop i).flatten:=by rw[<-lE,List.take_append_drop]
 rw[this,lr (List.getElem?_eq_some_iff.1 h).1];exact h
theorem FH{k:Nat}{xs:List (List Value)}(hk: ∀x∈xs,x.length=k){i:Nat}(hi:i<=xs.length)(j:Nat)(u:Value)(h:(xs.drop i).flatten[j]?=some u):xs.flatten[i*k+j]?=some u:=by
 have hf:xs.flatten=(xs.take i).flatten++(xs.drop i).flatten:=by rw[<-lE,List.take_append_drop]
 have hl:(xs.take i).flatten.length=i*k:=by rw[bL (fun x hx=>hk x (List.mem_of_mem_take hx)),kh,nw hi]
 rw[hf,ke (by omega),hl,Nat.add_sub_cancel_left];exact h
theorem az.parts{k:Nat}{t:TypeId}{w:World}{v:Value}{xs:List (List Value)}{F:Nat->Nat->Prop}(h:az k t w v xs F)(h0:0<xs.length): ∃b o c,v=.slice (some ⟨b,o,none⟩) xs.length c/\xs.length<=c/\c<=maxLen/\
  (∀i,i<=xs.length->az k t w (.slice (some ⟨b,o,none⟩) i i) (xs.take i) (fun b' q=>F b' q/\b'=b/\q<o+i*k))/\
  (∀j,j<=xs.length->az k t w (.slice (some ⟨b,o+j*k,none⟩) (xs.length-j) (xs.length-j)) (xs.drop j) (fun b' q=>F b' q/\b'=b/\o+j*k<=q)):=by
 obtain⟨b,o,c,cs,rfl,q2,q3,q4,q6,q7,q8,q9⟩:=h.lies h0;have hmul:xs.length*k<=c*k:=ef k q2;refine⟨b,o,c,rfl,q2,q3,fun i hi=>?_,fun j hj=>?_⟩
 ·have hik:i*k<=xs.length*k:=ef k hi;refine⟨_,i,by simp[nw hi],by simp;omega,by omega,fun x hx=>q4 x (List.mem_of_mem_take hx),.inr ⟨b,o,cs,rfl,q6,by omega,fun q h1 h2=>⟨q8 q h1 (by omega),rfl,h2⟩,fun q u hu=>q9 q u (FD (_k:=k) i q u hu)⟩⟩
 ·have hjk:j*k+(xs.length-j)*k=xs.length*k:=by rw[<-Nat.add_mul];congr 1;omega
  refine⟨_,xs.length-j,by simp,by simp,by omega,fun x hx=>q4 x (List.mem_of_mem_drop hx),.inr ⟨b,o+j*k,cs,rfl,q6,by omega,fun q h1 h2=>⟨q8 q (by omega) (by omega),rfl,h1⟩,fun q u hu=>?_⟩⟩;have:=q9 _ u (FH q4 hj q u hu);rw[show o+(j*k+q)=o+j*k+q by omega]at this;exact this
def bg(w:World)(sub:Nat->ND->(Nat->Nat->Prop)->Prop)(a:Nat)(x:ND)(F:Nat->Nat->Prop)(vp vk:Value)(aA:List Nat)(H:Nat->Nat->Nat->Prop):Prop:=
 w.heap[a]?=some (.cells #[vp,vk] 185 (0,0))/\(∀o,H 0 a o)/\az 2 195 w vp (x.ps.map av) (H 1)/\az 1 181 w vk (aA.map aP) (H 2)/\
  aA.length=x.ks.length/\(∀i p k,aA[i]?=some p->x.ks[i]?=some k->sub p k (H (i+3)))/\uw H F
def b7(w:World):Nat->Nat->ND->(Nat->Nat->Prop)->Prop
 |0=>fun _ _ _=>True
 |d+1=>ay w d
theorem bg.trim{w:World}{sub:Nat->ND->(Nat->Nat->Prop)->Prop}{a:Nat}{x:ND}{F:Nat->Nat->Prop}{vp vk:Value}{aA:List Nat}{H:Nat->Nat->Nat->Prop}(h:bg w sub a x F vp vk aA H)(hm: ∀p k K K',(∀b q,K b q->K' b q)->sub p k K->sub p k K'):
  bg w sub a x F vp vk aA (fun i b q=>H i b q/\i<x.ks.length+3):=by
 obtain⟨g1,g2,g3,g4,g5,g6,g7⟩:=h;refine⟨g1,fun q=>⟨g2 q,by omega⟩,g3.m (fun b q hh=>⟨hh,by omega⟩),g4.m (fun b q hh=>⟨hh,by omega⟩),g5,fun i p k hp hk=>hm p k _ _ (fun b q hh=>⟨hh,?_⟩) (g6 i p k hp hk),fun i b q hh=>g7.1 i b q hh.1,fun i j b q h1 h2=>g7.2 i j b q h1.1 h2.1⟩;have:=(b8.1 hk).1;omega
theorem ay.open_{w:World}{d a:Nat}{x:ND}{F:Nat->Nat->Prop}(h:ay w d a x F):(d=0->x.ks=[])/\ ∃vp vk aA H,bg w (b7 w d) a x F vp vk aA H/\ ∀i b q,H i b q->i<x.ks.length+3:=by
 cases d with
 |zero=>obtain⟨h0,vp,vk,aA,H,hO⟩:=h;exact⟨fun _=>h0,vp,vk,aA,_,bg.trim hO (fun _ _ _ _ _ h=>h),fun i b q hh=>hh.2⟩
 |succ d=>obtain⟨vp,vk,aA,H,hO⟩:=h;exact⟨fun e=>absurd e (by omega),vp,vk,aA,_,bg.trim hO (fun _ _ _ _ hK h=>ay.m h hK),fun i b q hh=>hh.2⟩
theorem bg.close{w:World}{d a:Nat}{x:ND}{F:Nat->Nat->Prop}{vp vk:Value}{aA:List Nat}{H:Nat->Nat->Nat->Prop}(h:bg w (b7 w d) a x F vp vk aA H)(h0:d=0->x.ks=[]):ay w d a x F:=by
 cases d with
 |zero=>exact⟨h0 rfl,_,_,_,_,h⟩
 |succ d=>exact⟨_,_,_,_,h⟩
theorem b7.only{w w':World}{G:Nat->Nat->Prop}(ho:OnlyC G w w'){d p:Nat}{k:ND}{K:Nat->Nat->Prop}(h:b7 w d p k K)(hd: ∀b o,K b o-> ¬G b o):b7 w' d p k K:=by
 cases d with
 |zero=>trivial
 |succ d=>exact ay.only ho h hd
theorem b7.mono{w:World}{d p:Nat}{k:ND}{K K':Nat->Nat->Prop}(h:b7 w d p k K)(hd: ∀b o,K b o->K' b o):b7 w d p k K':=by
 cases d with
 |zero=>trivial
 |succ d=>exact ay.m h hd
abbrev b7.m:=@b7.mono
def QZ(H:Nat->Nat->Nat->Prop)(P0 P1 P2:Nat->Nat->Prop)(lo n dl:Nat)(M:Nat->Nat->Nat->Prop):Nat->Nat->Nat->Prop
 |0=>P0
 |1=>P1
 |2=>P2
 |j+3=>fun b q=>(j<lo/\H (j+3) b q)\/(lo<=j/\j<lo+n/\M (j-lo) b q)\/(lo+n<=j/\H (j-n+dl+3) b q)
def MT(P0 P1 P2:Nat->Nat->Prop)(M:Nat->Nat->Nat->Prop):Nat->Nat->Nat->Prop
 |0=>P0
 |1=>P1
 |2=>P2
 |m+3=>M m
theorem IU{H M:Nat->Nat->Nat->Prop}{F P0 P1 P2:Nat->Nat->Prop}{lo n dl:Nat}(_hF: ∀i b o,H i b o->F b o)(h0: ∀b q,P0 b q->H 0 b q\/ ¬F b q)(h1: ∀b q,P1 b q->H 1 b q\/ ¬F b q)(h2: ∀b q,P2 b q->H 2 b q\/ ¬F b q)
  (hM: ∀m b q,M m b q->(∃i,lo<=i/\i<lo+dl/\H (i+3) b q)\/ ¬F b q) {j b q:Nat} (hf:F b q) (h:QZ H P0 P1 P2 lo n dl M j b q):
  ∃m,H m b q/\((j<3/\m=j)\/(3<=j/\j<lo+3/\m=j)\/(lo+n+3<=j/\m+n=j+dl)\/(∃k,k<n/\j=lo+k+3/\M k b q/\lo+3<=m/\m<lo+dl+3)):=by
 match j,h with
 |0,h=>exact⟨0,(h0 b q h).elim id (fun e=>absurd hf e),.inl ⟨by omega,rfl⟩⟩
 |1,h=>exact⟨1,(h1 b q h).elim id (fun e=>absurd hf e),.inl ⟨by omega,rfl⟩⟩
 |2,h=>exact⟨2,(h2 b q h).elim id (fun e=>absurd hf e),.inl ⟨by omega,rfl⟩⟩
 |j+3,h=>
  rcases h with⟨a1,a2⟩|⟨a1,a2,a3⟩|⟨a1,a2⟩
  ·exact⟨_,a2,.inr (.inl ⟨by omega,by omega,rfl⟩)⟩
  ·rcases hM _ b q a3 with⟨i,e1,e2,e3⟩|e
   ·exact⟨_,e3,.inr (.inr (.inr ⟨j-lo,by omega,by omega,a3,by omega,by omega⟩))⟩
   ·exact absurd hf e
  ·exact⟨_,a2,.inr (.inr (.inl ⟨by omega,by omega⟩))⟩
theorem IV{H M:Nat->Nat->Nat->Prop}{F P0 P1 P2:Nat->Nat->Prop}{lo n dl:Nat}(hF: ∀i b o,H i b o->F b o){j b q:Nat}(hf: ¬F b q)(h:QZ H P0 P1 P2 lo n dl M j b q):
  ∃m,MT P0 P1 P2 M m b q/\((j<3/\m=j)\/(3<=m/\m<n+3/\j=lo+m)):=by
 match j,h with
 |0,h=>exact⟨0,h,.inl ⟨by omega,rfl⟩⟩
 |1,h=>exact⟨1,h,.inl ⟨by omega,rfl⟩⟩
 |2,h=>exact⟨2,h,.inl ⟨by omega,rfl⟩⟩
 |j+3,h=>
  rcases h with⟨a1,a2⟩|⟨a1,a2,a3⟩|⟨a1,a2⟩
  ·exact absurd (hF _ b q a2) hf
  ·exact⟨j-lo+3,a3,.inr ⟨by omega,by omega,by omega⟩⟩
  ·exact absurd (hF _ b q a2) hf
theorem uw.QZ{H M:Nat->Nat->Nat->Prop}{F P0 P1 P2:Nat->Nat->Prop}{lo n dl:Nat}(h:uw H F)(h0: ∀b q,P0 b q->H 0 b q\/ ¬F b q)(h1: ∀b q,P1 b q->H 1 b q\/ ¬F b q)(h2: ∀b q,P2 b q->H 2 b q\/ ¬F b q)
  (hM: ∀m b q,M m b q->(∃i,lo<=i/\i<lo+dl/\H (i+3) b q)\/ ¬F b q) (Q3: ∀m m' b q,M m b q->M m' b q->m=m') (hx: ∀m m' b q,¬F b q->MT P0 P1 P2 M m b q->MT P0 P1 P2 M m' b q->m=m'):
  uw (QZ H P0 P1 P2 lo n dl M) (fun b q=> ∃j,QZ H P0 P1 P2 lo n dl M j b q):=by
 refine⟨fun j b q hh=>⟨j,hh⟩,fun j j' b q a a'=>?_⟩;by_cases hf:F b q
 ·obtain⟨m,b1,b2⟩:=IU h.1 h0 h1 h2 hM hf a;obtain⟨m',c1,c2⟩:=IU h.1 h0 h1 h2 hM hf a';have e:=h.2 m m' b q b1 c1;subst e
  rcases b2 with b2|b2|b2|⟨k,k1,k2,k3,k4,k5⟩<;>rcases c2 with c2|c2|c2|⟨k',l1,l2,l3,l4,l5⟩<;>first
   |omega
   |(have:=Q3 k k' b q k3 l3;omega)
 ·obtain⟨m,b1,b2⟩:=IV h.1 hf a;obtain⟨m',c1,c2⟩:=IV h.1 hf a';have:=hx m m' b q hf b1 c1;omega
theorem zQ{α:Type}{l:List α}{mid:List α}{lo hi:Nat}(Xm:lo<=hi)(hh:hi<=l.length)(j:Nat):
  (l.take lo++mid++l.drop hi)[j]?=if j<lo then l[j]? else if j<lo+mid.length then mid[j-lo]? else l[j-mid.length+(hi-lo)]?:=by
 rw[kt,List.getElem?_append,kh,nw (by omega)];by_cases c:j<lo
 ·rw[fi c,fi c,mu,fi c]
 ·rw[ff c,ff c,List.getElem?_append];by_cases c2:j<lo+mid.length
  ·rw[fi c2,fi (by omega)]
  ·rw[ff c2,ff (by omega),mv];congr 1;omega
theorem bg.splice{w w':World}{d a a':Nat}{x:ND}{F P0 P1 P2:Nat->Nat->Prop}{vp vk vp' vk':Value}{aA:List Nat}{H M:Nat->Nat->Nat->Prop}{ps':List Pr}(h:bg w (b7 w d) a x F vp vk aA H)
  (lo hi:Nat) (Xm:lo<=hi) (hh:hi<=x.ks.length) (mid:List (Nat×ND))
  (ha:w'.heap[a']?=some (.cells #[vp',vk'] 185 (0,0))) (hP0: ∀q,P0 a' q) (s1:az 2 195 w' vp' (ps'.map av) P1) (s2:az 1 181 w' vk' ((aA.take lo++mid.map Prod.fst++aA.drop hi).map aP) P2)
  (hmid: ∀m p k,mid[m]?=some (p,k)->b7 w' d p k (M m)) (keep: ∀i p k,(i<lo\/hi<=i)->aA[i]?=some p->x.ks[i]?=some k->b7 w' d p k (H (i+3)))
  (h0: ∀b q,P0 b q->H 0 b q\/ ¬F b q) (h1: ∀b q,P1 b q->H 1 b q\/ ¬F b q) (h2: ∀b q,P2 b q->H 2 b q\/ ¬F b q)
  (hM: ∀m b q,M m b q->(∃i,lo<=i/\i<hi/\H (i+3) b q)\/ ¬F b q) (Q3: ∀m m' b q,M m b q->M m' b q->m=m') (hx: ∀m m' b q,¬F b q->MT P0 P1 P2 M m b q->MT P0 P1 P2 M m' b q->m=m'):
  bg w' (b7 w' d) a' (.mk ps' (x.ks.take lo++mid.map Prod.snd++x.ks.drop hi)) (fun b q=> ∃j,QZ H P0 P1 P2 lo mid.length (hi-lo) M j b q) vp' vk' (aA.take lo++mid.map Prod.fst++aA.drop hi) (QZ H P0 P1 P2 lo mid.length (hi-lo) M):=by
 obtain⟨g1,g2,g3,g4,g5,g6,g7⟩:=h;refine⟨ha,hP0,s1,s2,?_,?_,g7.QZ h0 h1 h2 (fun m b q hm=>?_) Q3 hx⟩
 ·simp[g5]
 ·intro i p k hp hk;simp only[ND.df]at hk;rw[zQ Xm hh]at hk;rw[zQ Xm (by omega)]at hp;simp only[fa]at hp hk;by_cases c:i<lo
  ·rw[fi c]at hp hk;exact(keep i p k (.inl c) hp hk).m (fun b q hq=>.inl ⟨c,hq⟩)
  ·rw[ff c]at hp hk;by_cases c2:i<lo+mid.length
   ·rw[fi c2,List.getElem?_map]at hp hk
    cases hm:mid[i-lo]? with
    |none=>rw[hm]at hp;cases hp
    |some pk=>rw[hm]at hp hk;simp only[Option.map_some,fl]at hp hk;obtain⟨p0,k0⟩:=pk;simp only at hp hk;subst hp hk;exact(hmid _ _ _ hm).m (fun b q hq=>.inr (.inl ⟨by omega,c2,hq⟩))
   ·rw[ff c2]at hp hk;exact(keep _ p k (.inr (by omega)) hp hk).m (fun b q hq=>.inr (.inr ⟨by omega,hq⟩))
 ·rcases hM m b q hm with⟨i,e1,e2,e3⟩|e
  ·exact .inl ⟨i,e1,by omega,e3⟩
  ·exact .inr e
theorem fQ{H M:Nat->Nat->Nat->Prop}{P0 P1 P2:Nat->Nat->Prop}{lo n dl j b q:Nat}(h:QZ H P0 P1 P2 lo n dl M j b q):
  P0 b q\/P1 b q\/P2 b q\/(∃i,(i<lo\/lo+dl<=i)/\H (i+3) b q)\/ ∃m,m<n/\M m b q:=by
 match j,h with
 |0,h=>exact .inl h
 |1,h=>exact .inr (.inl h)
 |2,h=>exact .inr (.inr (.inl h))
 |j+3,h=>
  rcases h with⟨a1,a2⟩|⟨a1,a2,a3⟩|⟨a1,a2⟩
  ·exact .inr (.inr (.inr (.inl ⟨j,.inl a1,a2⟩)))
  ·exact .inr (.inr (.inr (.inr ⟨j-lo,by omega,a3⟩)))
  ·exact .inr (.inr (.inr (.inl ⟨j-n+dl,.inr (by omega),a2⟩)))
section
variable{w w':World}{F:Nat->Nat->Prop}{a:Nat}{x:ND}{S:Nat->Prop}
theorem iE.eJ{sub sub':Nat->ND->(Nat->Nat->Prop)->Prop}(h:iE w sub a x F)(ho:Only S w w')(hd: ∀b o,F b o-> ¬S b)(hs: ∀p k K,(∀b o,K b o-> ¬S b)->sub p k K->sub' p k K):iE w' sub' a x F:=by obtain⟨vp,vk,aA,H,h1,h2,h3,h4,h5,h6,h7⟩:=h;have hH: ∀i b o,H i b o-> ¬S b:=fun i b o hh=>hd b o (h7.1 i b o hh);exact⟨vp,vk,aA,H,ho.heap h1 (hH 0 a 0 (h2 0)),h2,h3.eJ (by decide) ho (hH 1),h4.eJ (by decide) ho (hH 2),h5,fun i p k hp hk=>hs p k _ (hH _) (h6 i p k hp hk),h7⟩
theorem ay.eJ(ho:Only S w w'): ∀{d:Nat} {a:Nat} {x:ND} {F:Nat->Nat->Prop},ay w d a x F->(∀b o,F b o-> ¬S b)->ay w' d a x F
 |0,_,_,_,h,hd=>⟨h.1,iE.eJ h.2 ho hd (fun _ _ _ _ h=>h)⟩
 |_+1,_,_,_,h,hd=>iE.eJ h ho hd (fun _p _k _K hK hs=>ay.eJ ho hs hK)
end
def bM(w:World)(T o:Nat)(l:List Pr)(F:Nat->Nat->Prop):Prop:=
 ∃(d r:Nat) (x:ND) (K:Nat->Nat->Prop),w.heap[T]?=some (.cells #[.int .i64 o,.int .i64 l.length,.pointer (some ⟨r,0,none⟩)] 187 (0,0))/\ay w d r x K/\
  fy d o (if d=0 then 0 else 1) (2*o-1) x/\bz d x=l/\Up l/\(2<=o/\o<=16)/\(∀b q,K b q->F b q)/\(∀q,F T q)/\ ∀q,¬K T q
section
variable{w w':World}{T o:Nat}{l:List Pr}{F G:Nat->Nat->Prop}{S:Nat->Prop}
theorem bM.eJ(h:bM w T o l F)(ho:Only S w w')(hd: ∀b q,F b q-> ¬S b):bM w' T o l F:=by obtain⟨d,r,x,K,h1,h2,h3,h4,h5,h6,h7,h8,h9⟩:=h;exact⟨d,r,x,K,ho.heap h1 (hd T 0 (h8 0)),h2.eJ ho (fun b q hk=>hd b q (h7 b q hk)),h3,h4,h5,h6,h7,h8,h9⟩
theorem bM.below(h:bM w T o l F)(hb:Below w.heap.size w w'):bM w' T o l F:=h.eJ (pw hb) (fun _ _ _ h=>h)
theorem bM.only(h:bM w T o l F)(ho:OnlyC G w w')(hd: ∀b q,F b q-> ¬G b q):bM w' T o l F:=by obtain⟨d,r,x,K,h1,h2,h3,h4,h5,h6,h7,h8,h9⟩:=h;exact⟨d,r,x,K,ho.heap h1 (fun q=>hd T q (h8 q)),h2.only ho (fun b q hk=>hd b q (h7 b q hk)),h3,h4,h5,h6,h7,h8,h9⟩
theorem bM.bound(h:bM w T o l F):bM w T o l (fun b q=>F b q/\b<w.heap.size):=by obtain⟨d,r,x,K,h1,h2,h3,h4,h5,h6,h7,h8,h9⟩:=h;exact⟨d,r,x,_,h1,h2.bound,h3,h4,h5,h6,fun b q hk=>⟨h7 b q hk.1,hk.2⟩,fun q=>⟨h8 q,oE h1⟩,fun q hk=>h9 q hk.1⟩
end
theorem Dk: ∀(ks:List (List Pr)) (ps:List Pr),ks.length=ps.length+1->ps.Sublist (flat ks ps)
 |k::ks,[],_=>List.nil_sublist _
 |k::ks,p::ps,h=>by have ih:=Dk ks ps (by simpa using h);simp only[flat];exact(ih.cons_cons p).trans (List.sublist_append_right _ _)
 |[],ps,h=>by simp at h
theorem U3{d o lo hi:Nat}{x:ND}(h:fy d o lo hi x):x.ps.Sublist (bz d x):=by
 cases d with
 |zero=>exact List.Sublist.refl _
 |succ d=>exact Dk _ _ (by rw[fa];exact h.2.2.1)
theorem wR{d o lo hi:Nat}{x:ND}(h:fy d o lo hi x)(hu:Up (bz d x)):Up x.ps:=List.Pairwise.sublist (U3 h) hu
theorem fy.kids{d o lo hi:Nat}{x:ND}(h:fy (d+1) o lo hi x):x.ks.length=x.ps.length+1:=h.2.2.1
theorem fy.none{o lo hi:Nat}{x:ND}(h:fy 0 o lo hi x):x.ks=[]:=h.2.2
theorem bg.own{w:World}{sub:Nat->ND->(Nat->Nat->Prop)->Prop}{a:Nat}{x:ND}{F:Nat->Nat->Prop}{vp vk:Value}{aA:List Nat}{H:Nat->Nat->Nat->Prop}(h:bg w sub a x F vp vk aA H):
  (∀i b q,H i b q->F b q)/\(∀i j b q,i≠j->H i b q-> ¬H j b q)/\ ∀i b q,i≠0->H i b q->b≠a:=by
 obtain⟨_,g2,_,_,_,_,g7⟩:=h;exact⟨g7.1,fun i j b q hij h1 h2=>hij (g7.2 i j b q h1 h2),fun i b q hi hh e=>hi (g7.2 i 0 b q hh (e▸g2 q))⟩
theorem Dl{α:Type}(l:List α)(o n:Nat)(h:n=l.length):l.take (min o n)=l.take o:=by
 subst h;rcases Nat.le_total o l.length with c|c
 ·rw[nw c]
 ·rw[Nat.min_eq_right c,gd,gE c]
theorem Dm{α:Type}(l:List α)(o n:Nat)(h:n=l.length):l.drop (min o n)=l.drop o:=by
 subst h;rcases Nat.le_total o l.length with c|c
 ·rw[nw c]
 ·rw[Nat.min_eq_right c,List.drop_length,List.drop_eq_nil_of_le c]
theorem IW{d:Nat}{k:ND}{o:Nat}(h:d=0->k.ks=[]):jF d k o=(.mk (k.ps.take (o-1)) (k.ks.take o),k.ps[o-1]?.getD ([],[]),.mk (k.ps.drop o) (k.ks.drop o)):=by
 cases d with
 |zero=>rw[h rfl,List.take_nil,List.drop_nil];rfl
 |succ d=>rfl
def rI(L R:Nat->Nat->Prop):Nat->Nat->Nat->Prop
 |0=>L
 |1=>R
 |_+2=>fun _ _=>False
theorem bg.halves{w w':World}{d o l r:Nat}{k:ND}{K G A1 A2 B1 B2:Nat->Nat->Prop}{vp vk v1 v2 u1 u2:Value}{aA:List Nat}{H:Nat->Nat->Nat->Prop}(h:bg w (b7 w d) l k K vp vk aA H)(hT: ∀i b q,H i b q->i<k.ks.length+3)(h0:d=0->k.ks=[])(hr: ∀q,¬K r q)
  (ho:OnlyC G w w') (hG: ∀b q,K b q->b≠l-> ¬G b q) (hl':w'.heap[l]?=some (.cells #[v1,v2] 185 (0,0))) (hr':w'.heap[r]?=some (.cells #[u1,u2] 185 (0,0)))
  (p1:az 2 195 w v1 ((k.ps.take (o-1)).map av) (fun b q=>H 1 b q/\A1 b q)) (p2:az 2 195 w u1 ((k.ps.drop o).map av) (fun b q=>H 1 b q/\B1 b q))
  (q1:az 1 181 w v2 ((aA.take o).map aP) (fun b q=>H 2 b q/\A2 b q)) (q2:az 1 181 w u2 ((aA.drop o).map aP) (fun b q=>H 2 b q/\B2 b q))
  (e1: ∀b q,A1 b q-> ¬B1 b q) (e2: ∀b q,A2 b q-> ¬B2 b q):
  ∃L R,ay w' d l (jF d k o).1 L/\ay w' d r (jF d k o).2.2 R/\(∀b q,L b q->K b q)/\(∀b q,R b q->K b q\/b=r)/\(∀b q,L b q-> ¬R b q):=by
 obtain⟨hsub,hne,hl0⟩:=h.own;have Ye: ∀i b q,i≠0->H i b q-> ¬G b q:=fun i b q hi hh=>hG b q (hsub i b q hh) (hl0 i b q hi hh);have h':=h;obtain⟨g1,g2,g3,g4,g5,g6,g7⟩:=h;have keep: ∀i p y,aA[i]?=some p->k.ks[i]?=some y->b7 w' d p y (H (i+3)):=fun i p y hp hy=>(g6 i p y hp hy).only ho (Ye _ · · (by omega));rw[IW h0]
 have n1:=bg.splice (w':=w') (a':=l) (ps':=k.ps.take (o-1)) (vp':=v1) (vk':=v2) (P0:=H 0) (P1:=fun b q=>H 1 b q/\A1 b q) (P2:=fun b q=>H 2 b q/\A2 b q) (M:=fun _ _ _=>False) h' (min o k.ks.length) k.ks.length (Nat.min_le_right _ _) (aE _) [] hl' g2
  (p1.only ho (fun b q hh=>Ye 1 b q (by decide) hh.1))
  (by
   have:aA.take (min o k.ks.length)++([]:List (Nat×ND)).map Prod.fst++aA.drop k.ks.length=aA.take o:=by rw[Dl _ _ _ g5.symm,<-g5];simp
   rw[this]
   exact q1.only ho (fun b q hh=>Ye 2 b q (by decide) hh.1))
  (fun m p y hm=>by simp at hm) (fun i p y _ hp hy=>keep i p y hp hy) (fun b q hh=>.inl hh) (fun b q hh=>.inl hh.1) (fun b q hh=>.inl hh.1) (fun m b q hh=>hh.elim) (fun m m' b q hh=>hh.elim)
  (fun m m' b q hf hm hm'=>absurd (show K b q from match m,hm with|0,hm=>hsub 0 b q hm|1,hm=>hsub 1 b q hm.1|2,hm=>hsub 2 b q hm.1|_+3,hm=>hm.elim) hf)
 have n2:=bg.splice (w':=w') (a':=r) (ps':=k.ps.drop o) (vp':=u1) (vk':=u2) (P0:=fun b _=>b=r) (P1:=fun b q=>H 1 b q/\B1 b q) (P2:=fun b q=>H 2 b q/\B2 b q) (M:=fun _ _ _=>False) h' 0 (min o k.ks.length) (dq _) (Nat.min_le_right _ _) [] hr' (fun _=>rfl)
  (p2.only ho (fun b q hh=>Ye 1 b q (by decide) hh.1))
  (by
   have:aA.take 0++([]:List (Nat×ND)).map Prod.fst++aA.drop (min o k.ks.length)=aA.drop o:=by rw[Dm _ _ _ g5.symm];simp
   rw[this]
   exact q2.only ho (fun b q hh=>Ye 2 b q (by decide) hh.1))
  (fun m p y hm=>by simp at hm) (fun i p y _ hp hy=>keep i p y hp hy) (fun b q hh=>.inr (by subst hh;exact hr q)) (fun b q hh=>.inl hh.1) (fun b q hh=>.inl hh.1) (fun m b q hh=>hh.elim) (fun m m' b q hh=>hh.elim)
  (fun m m' b q hf hm hm'=>by
   have key: ∀m,MT (fun b _=>b=r) (fun b q=>H 1 b q/\B1 b q) (fun b q=>H 2 b q/\B2 b q) (fun _ _ _=>False) m b q->m=0:=fun m hm=>match m,hm with
    |0,_=>rfl
    |1,hm=>absurd (hsub 1 b q hm.1) hf
    |2,hm=>absurd (hsub 2 b q hm.1) hf
    |_+3,hm=>hm.elim
   rw[key m hm,key m' hm'])
 have f1:k.ks.take (min o k.ks.length)++([]:List (Nat×ND)).map Prod.snd++k.ks.drop k.ks.length=k.ks.take o:=by rw[Dl _ _ _ rfl];simp
 have f2:k.ks.take 0++([]:List (Nat×ND)).map Prod.snd++k.ks.drop (min o k.ks.length)=k.ks.drop o:=by rw[Dm _ _ _ rfl];simp
 rw[f1]at n1;rw[f2]at n2;refine⟨_,_,n1.close (fun e=>by simp[h0 e]),n2.close (fun e=>by simp[h0 e]),?_,?_,?_⟩
 ·rintro b q ⟨j,hj⟩;rcases fQ hj with c|c|c|⟨i,_,c⟩|⟨m,_,c⟩
  ·exact hsub 0 b q c
  ·exact hsub 1 b q c.1
  ·exact hsub 2 b q c.1
  ·exact hsub _ b q c
  ·exact c.elim
 ·rintro b q ⟨j,hj⟩;rcases fQ hj with c|c|c|⟨i,_,c⟩|⟨m,_,c⟩
  ·exact .inr c
  ·exact .inl (hsub 1 b q c.1)
  ·exact .inl (hsub 2 b q c.1)
  ·exact .inl (hsub _ b q c)
  ·exact c.elim
 ·rintro b q ⟨j,hj⟩ ⟨j',hj'⟩;have oL:k.ks.length-min o k.ks.length+min o k.ks.length=k.ks.length:=by omega
  rcases fQ hj with c|c|c|⟨i,ci,c⟩|⟨m,_,c⟩<;>rcases fQ hj' with c'|c'|c'|⟨i',ci',c'⟩|⟨m',_,c'⟩
  ·exact hr q (by rw[<-c'];exact hsub 0 b q c)
  ·exact hne 0 1 b q (by decide) c c'.1
  ·exact hne 0 2 b q (by decide) c c'.1
  ·exact hne 0 _ b q (by omega) c c'
  ·exact c'.elim
  ·exact hr q (by rw[<-c'];exact hsub 1 b q c.1)
  ·exact e1 b q c.2 c'.2
  ·exact hne 1 2 b q (by decide) c.1 c'.1
  ·exact hne 1 _ b q (by omega) c.1 c'
  ·exact c'.elim
  ·exact hr q (by rw[<-c'];exact hsub 2 b q c.1)
  ·exact hne 2 1 b q (by decide) c.1 c'.1
  ·exact e2 b q c.2 c'.2
  ·exact hne 2 _ b q (by omega) c.1 c'
  ·exact c'.elim
  ·exact hr q (by rw[<-c'];exact hsub _ b q c)
  ·exact hne _ 1 b q (by omega) c c'.1
  ·exact hne _ 2 b q (by omega) c c'.1
  ·have:=g7.2 _ _ b q c c';have h1:=hT _ b q c;omega
  ·exact c'.elim
  all_goals exact c.elim
theorem pO{w wc W5 w6 W8 w9:World}{d a i l o r:Nat}{x k:ND}{F:Nat->Nat->Prop}{vp vk TT Q4 v1 v2 u1 u2 v' u':Value}{aA jf:List Nat}{H H1:Nat->Nat->Nat->Prop}{ps':List Pr}{A1 A2 B1 B2:Nat->Nat->Prop}
  (hO:bg w (ay w d) a x F vp vk aA H) (hF: ∀b q,F b q->b<w.heap.size) (hk:x.ks[i]?=some k) (hl:aA[i]?=some l)
  (hK:bg w (b7 w d) l k (H (i+3)) TT Q4 jf H1) (hT: ∀i b q,H1 i b q->i<k.ks.length+3) (hd0:d=0->k.ks=[])
  (hc:OnlyC (fun b _=>b=l) w wc) (hr:w.heap.size<=r) (hrc:r<wc.heap.size) (kl:wc.heap[l]?=some (.cells #[v1,v2] 185 (0,0))) (kr:wc.heap[r]?=some (.cells #[u1,u2] 185 (0,0)))
  (p1:az 2 195 w v1 ((k.ps.take (o-1)).map av) (fun b q=>H1 1 b q/\A1 b q)) (p2:az 2 195 w u1 ((k.ps.drop o).map av) (fun b q=>H1 1 b q/\B1 b q))
  (q1:az 1 181 w v2 ((jf.take o).map aP) (fun b q=>H1 2 b q/\A2 b q)) (q2:az 1 181 w u2 ((jf.drop o).map aP) (fun b q=>H1 2 b q/\B2 b q))
  (e1: ∀b q,A1 b q-> ¬B1 b q) (e2: ∀b q,A2 b q-> ¬B2 b q)
  (fR:Below wc.heap.size wc W5) (h6:OnlyC (H 1) W5 w6) (s6:az 2 195 w6 v' (ps'.map av) (fun b q=>H 1 b q\/W5.heap.size<=b))
  (sL:Below w6.heap.size (w6.setCell ⟨a,0,none⟩ v') W8) (h9:OnlyC (H 2) W8 w9) (s9:az 1 181 w9 u' ((aA.take (i+1)++r::aA.drop (i+1)).map aP) (fun b q=>H 2 b q\/W8.heap.size<=b)):
  ay (w9.setCell ⟨a,1,none⟩ u') (d+1) a (.mk ps' (x.ks.take i++(jF d k o).1::(jF d k o).2.2::x.ks.drop (i+1))) (fun b q=>F b q\/w.heap.size<=b)/\OnlyC F w (w9.setCell ⟨a,1,none⟩ u'):=by
 obtain⟨hsub,hne,ha0⟩:=hO.own;obtain⟨Yf,acm,hl0⟩:=hK.own;have hO':=hO;obtain⟨g1,g2,g3,g4,g5,g6,g7⟩:=hO;have Yg: ∀q,H (i+3) l q:=fun q=>Yf 0 l q (hK.2.1 q);have z7:(w6.setCell ⟨a,0,none⟩ v').heap.size=w6.heap.size:=by simp[World.setCell]
 have z10:(w9.setCell ⟨a,1,none⟩ u').heap.size=w9.heap.size:=by simp[World.setCell]
 have sz1:=hc.size;have sz2:=fR.size;have sz3:=h6.size;have sz4:=sL.size;have sz5:=h9.size;have hal:a<w.heap.size:=hF a 0 (hsub 0 a 0 (g2 0));have hll:l<w.heap.size:=hF l 0 (hsub _ l 0 (Yg 0));have Mf: ∀m b q,H m b q->b<w.heap.size:=fun m b q hh=>hF b q (hsub m b q hh);have MU:l≠a:=ha0 (i+3) l 0 (by omega) (Yg 0)
 -- from the cut on
 let G:Nat->Nat->Prop:=fun b q=>H 1 b q\/H 2 b q\/b=a
 have o5:OnlyC G wc W5:=oy fR G;have o6:OnlyC G wc w6:=o5.x h6 (fun b q _ hh=>.inl hh);have o7:OnlyC G wc (w6.setCell ⟨a,0,none⟩ v'):=o6.x (OnlyC.aN w6 a 0 v') (fun b q _ e=>.inr (.inr e.1));have o8:OnlyC G wc W8:=o7.x (oy (by rw[z7];exact sL) G) (fun b q _ hh=>hh);have o9:OnlyC G wc w9:=o8.x h9 (fun b q _ hh=>.inr (.inl hh));have oG:OnlyC G wc (w9.setCell ⟨a,1,none⟩ u'):=o9.x (OnlyC.aN w9 a 1 u') (fun b q _ e=>.inr (.inr e.1));have oA:OnlyC (fun b q=>b=l\/G b q) w (w9.setCell ⟨a,1,none⟩ u'):=(hc.m (fun b q _ e=>.inl e)).x oG (fun b q _ hh=>.inr hh)
 have hG3: ∀m b q,3<=m->H m b q-> ¬G b q:=by
  rintro m b q hm hh (h1|h1|h1)
  ·exact hne m 1 b q (by omega) hh h1
  ·exact hne m 2 b q (by omega) hh h1
  ·exact ha0 m b q (by omega) hh h1
 -- the halves
 have hrK: ∀q,¬H (i+3) r q:=fun q hh=>by have:=Mf _ r q hh;omega
 have hGr: ∀q,¬G r q:=by
  rintro q (h1|h1|h1)
  ·have:=Mf 1 r q h1;omega
  ·have:=Mf 2 r q h1;omega
  ·omega
 obtain⟨L,R,nL,nR,Q5,MB,hLR⟩:=bg.halves (w':=w9.setCell ⟨a,1,none⟩ u') (r:=r) hK hT hd0 hrK oA (fun b q hh hbl hg=>hg.elim hbl (hG3 _ b q (by omega) hh)) (oG.heap kl (fun q=>hG3 _ l q (by omega) (Yg q))) (oG.heap kr hGr) p1 p2 q1 q2 e1 e2
 -- a's own cells
 have a1:=hc.heap g1 (fun _ e=>MU e.symm);have a5:=pt fR a1;have a6:=h6.heap a5 (fun q hh=>hne 1 0 a q (by decide) hh (g2 q))
 have a7:(w6.setCell ⟨a,0,none⟩ v').heap[a]?=some (.cells #[v',vk] 185 (0,0)):=by have:=db w6 a 0 _ _ v' a6;simpa using this
 have a8:=pt (show Below (w6.setCell ⟨a,0,none⟩ v').heap.size (w6.setCell ⟨a,0,none⟩ v') W8 by rw[z7];exact sL) a7;have a9:=h9.heap a8 (fun q hh=>hne 2 0 a q (by decide) hh (g2 q))
 have Q6:(w9.setCell ⟨a,1,none⟩ u').heap[a]?=some (.cells #[v',u'] 185 (0,0)):=by have:=db w9 a 1 _ _ u' a9;simpa using this
 have s6b:=s6.bound;have s9b:=s9.bound
 have t1:az 2 195 (w9.setCell ⟨a,1,none⟩ u') v' (ps'.map av) (fun b q=>(H 1 b q\/W5.heap.size<=b)/\b<w6.heap.size):=by
  refine(((s6b.only (OnlyC.aN w6 a 0 v') (fun b q hh e=>?_)).only (qe (by rw[z7];exact sL)) (fun _ _ _ h=>h)).only h9 (fun b q hh h2=>?_)).only (OnlyC.aN w9 a 1 u') (fun b q hh e=>?_)
  ·rcases hh.1 with h1|h1
   ·exact ha0 1 b q (by decide) h1 e.1
   ·have:=e.1;omega
  ·rcases hh.1 with h1|h1
   ·exact hne 1 2 b q (by decide) h1 h2
   ·have:=Mf 2 b q h2;omega
  ·rcases hh.1 with h1|h1
   ·exact ha0 1 b q (by decide) h1 e.1
   ·have:=e.1;omega
 have t2:az 1 181 (w9.setCell ⟨a,1,none⟩ u') u' ((aA.take (i+1)++r::aA.drop (i+1)).map aP) (fun b q=>(H 2 b q\/W8.heap.size<=b)/\b<w9.heap.size):=by
  refine s9b.only (OnlyC.aN w9 a 1 u') (fun b q hh e=>?_);rcases hh.1 with h1|h1
  ·exact ha0 2 b q (by decide) h1 e.1
  ·have:=e.1;omega
 have hil:=(b8.1 hk).1;have hpl:i<aA.length:=by omega
 have aaR:aA.take (i+1)=aA.take i++[l]:=by have:=(b8.1 hl).2;rw[List.take_succ_eq_append_getElem hpl,this]
 have nP:=bg.splice (d:=d+1) (w':=w9.setCell ⟨a,1,none⟩ u') (a':=a) (ps':=ps') (vp':=v') (vk':=u') (P0:=H 0) (P1:=fun b q=>(H 1 b q\/W5.heap.size<=b)/\b<w6.heap.size) (P2:=fun b q=>(H 2 b q\/W8.heap.size<=b)/\b<w9.heap.size) (M:=rI L R) hO' i (i+1) (by omega) (by omega) [(l,(jF d k o).1),(r,(jF d k o).2.2)] Q6 g2 t1
  (by
   have:aA.take i++[(l,(jF d k o).1),(r,(jF d k o).2.2)].map Prod.fst++aA.drop (i+1)=aA.take (i+1)++r::aA.drop (i+1):=by rw[aaR];simp
   rw[this]
   exact t2)
  (fun m p y hm=>by
   match m,hm with
   |0,hm=>simp only[im,fl,mc]at hm;obtain⟨rfl,rfl⟩:=hm;exact nL
   |1,hm=>simp only[List.getElem?_cons_succ,im,fl,mc]at hm;obtain⟨rfl,rfl⟩:=hm;exact nR
   |m+2,hm=>simp at hm)
  (fun j p y hj hp hy=>ay.only oA (g6 j p y hp hy) (fun b q hh hg=>hg.elim (fun e=>hne (j+3) (i+3) b q (by omega) hh (by rw[e];exact Yg q)) (hG3 _ b q (by omega) hh)))
  (fun b q hh=>.inl hh)
  (fun b q hh=>hh.1.imp id (fun h1 hf=>by have:=hF b q hf;omega))
  (fun b q hh=>hh.1.imp id (fun h1 hf=>by have:=hF b q hf;omega))
  (fun m b q hm=>by
   match m,hm with
   |0,hm=>exact .inl ⟨i,by omega,by omega,Q5 b q hm⟩
   |1,hm=>exact(MB b q hm).imp (fun h1=>⟨i,by omega,by omega,h1⟩) (fun e hf=>by have:=hF b q hf;omega)
   |_+2,hm=>exact hm.elim)
  (fun m m' b q hm hm'=>by
   match m,hm,m',hm' with
   |0,_,0,_=>rfl
   |1,_,1,_=>rfl
   |0,h1,1,h2=>exact absurd h2 (hLR b q h1)
   |1,h1,0,h2=>exact absurd h1 (hLR b q h2)
   |_+2,h1,_,_=>exact h1.elim
   |0,_,_+2,h2=>exact h2.elim
   |1,_,_+2,h2=>exact h2.elim)
  (fun m m' b q hf hm hm'=>by
   have key: ∀m,MT (H 0) (fun b q=>(H 1 b q\/W5.heap.size<=b)/\b<w6.heap.size) (fun b q=>(H 2 b q\/W8.heap.size<=b)/\b<w9.heap.size) (rI L R) m b q->(m=1/\W5.heap.size<=b/\b<w6.heap.size)\/(m=2/\W8.heap.size<=b)\/(m=4/\b=r):=fun m hm=>match m,hm with
    |0,hm=>absurd (hsub 0 b q hm) hf
    |1,hm=>hm.1.elim (fun h1=>absurd (hsub 1 b q h1) hf) (fun h1=>.inl ⟨rfl,h1,hm.2⟩)
    |2,hm=>hm.1.elim (fun h1=>absurd (hsub 2 b q h1) hf) (fun h1=>.inr (.inl ⟨rfl,h1⟩))
    |3,hm=>absurd (hsub _ b q (Q5 b q hm)) hf
    |4,hm=>(MB b q hm).elim (fun h1=>absurd (hsub _ b q h1) hf) (fun e=>.inr (.inr ⟨rfl,e⟩))
    |_+5,hm=>hm.elim
   have k1:=key m hm;have k2:=key m' hm'
   omega)
 constructor
 ·have hc:=(bg.close (d:=d+1) nP (fun e=>by omega)).m (fun b q (hh: ∃j,_)=>show F b q\/w.heap.size<=b from by
   obtain⟨j,hj⟩:=hh;rcases fQ hj with c|c|c|⟨m,_,c⟩|⟨m,_,c⟩
   ·exact .inl (hsub 0 b q c)
   ·exact c.1.imp (hsub 1 b q) (fun h=>by omega)
   ·exact c.1.imp (hsub 2 b q) (fun h=>by omega)
   ·exact .inl (hsub _ b q c)
   ·match m,c with
    |0,c=>exact .inl (hsub _ b q (Q5 b q c))
    |1,c=>exact(MB b q c).imp (hsub _ b q) (fun e=>by omega)
    |_+2,c=>exact c.elim)
  simpa using hc
 ·refine oA.m (fun b q _ hh=>?_);rcases hh with e|h1|h1|e
  ·subst e;exact hsub _ _ q (Yg q)
  ·exact hsub 1 b q h1
  ·exact hsub 2 b q h1
  ·subst e;exact hsub 0 _ q (g2 q)
theorem bg.pP{w w':World}{d a:Nat}{x:ND}{F:Nat->Nat->Prop}{vp vk v':Value}{aA:List Nat}{H:Nat->Nat->Nat->Prop}{ps':List Pr}(h:bg w (b7 w d) a x F vp vk aA H)(hd0:d=0->x.ks=[])(hF: ∀b q,F b q->b<w.heap.size)
  (ha:w'.heap[a]?=some (.cells #[v',vk] 185 (0,0))) (ho:OnlyC (fun b q=>H 1 b q\/b=a) w w') (hs:az 2 195 w' v' (ps'.map av) (fun b q=>H 1 b q\/w.heap.size<=b)):
  ay w' d a (.mk ps' x.ks) (fun b q=>F b q\/w.heap.size<=b)/\OnlyC F w w':=by
 obtain⟨hsub,hne,ha0⟩:=h.own;have h':=h;obtain⟨g1,g2,g3,g4,g5,g6,g7⟩:=h;have hno: ∀i b q,i≠0->i≠1->H i b q-> ¬(H 1 b q\/b=a):=fun i b q h0 h1 hh e=>e.elim (hne i 1 b q h1 hh) (ha0 i b q h0 hh)
 have n1:=bg.splice (w':=w') (a':=a) (ps':=ps') (vp':=v') (vk':=vk) (P0:=H 0) (P1:=fun b q=>H 1 b q\/w.heap.size<=b) (P2:=H 2) (M:=fun _ _ _=>False) h' 0 0 (aE _) (dq _) [] ha g2 hs
  (by simpa using g4.only ho (fun b q=>hno 2 b q (by decide) (by decide))) (fun m p y hm=>by simp at hm) (fun i p y _ hp hy=>(g6 i p y hp hy).only ho (fun b q=>hno _ b q (by omega) (by omega)))
  (fun b q hh=>.inl hh) (fun b q hh=>hh.imp id (fun h1 hf=>by have:=hF b q hf;omega)) (fun b q hh=>.inl hh) (fun m b q hh=>hh.elim) (fun m m' b q hh=>hh.elim)
  (fun m m' b q hf hm hm'=>by
   have key: ∀m,MT (H 0) (fun b q=>H 1 b q\/w.heap.size<=b) (H 2) (fun _ _ _=>False) m b q->m=1:=fun m hm=>match m,hm with
    |0,hm=>absurd (hsub 0 b q hm) hf
    |1,_=>rfl
    |2,hm=>absurd (hsub 2 b q hm) hf
    |_+3,hm=>hm.elim
   rw[key m hm,key m' hm'])
 constructor
 ·have e:x.ks.take 0++([]:List (Nat×ND)).map Prod.snd++x.ks.drop 0=x.ks:=by simp
  rw[e]at n1;refine(n1.close hd0).m ?_;rintro b q ⟨j,hj⟩;rcases fQ hj with c|c|c|⟨m,_,c⟩|⟨m,_,c⟩
  ·exact .inl (hsub 0 b q c)
  ·exact c.imp (hsub 1 b q) id
  ·exact .inl (hsub 2 b q c)
  ·exact .inl (hsub _ b q c)
  ·exact c.elim
 ·refine ho.m (fun b q _ hh=>hh.elim (hsub 1 b q) (fun e=>?_));subst e;exact hsub 0 _ q (g2 q)
theorem bg.IX{w w':World}{d a i l:Nat}{x k k':ND}{F:Nat->Nat->Prop}{vp vk:Value}{aA:List Nat}{H:Nat->Nat->Nat->Prop}(h:bg w (ay w d) a x F vp vk aA H)(hF: ∀b q,F b q->b<w.heap.size)
  (hk:x.ks[i]?=some k) (hl:aA[i]?=some l) (ho:OnlyC (H (i+3)) w w') (hn:ay w' d l k' (fun b q=>H (i+3) b q\/w.heap.size<=b)):
  ay w' (d+1) a (.mk x.ps (x.ks.take i++k'::x.ks.drop (i+1))) (fun b q=>F b q\/w.heap.size<=b)/\OnlyC F w w':=by
 obtain⟨hsub,hne,ha0⟩:=h.own;have h':=h;obtain⟨g1,g2,g3,g4,g5,g6,g7⟩:=h;have hil:=(b8.1 hk).1
 have n1:=bg.splice (d:=d+1) (w':=w') (a':=a) (ps':=x.ps) (vp':=vp) (vk':=vk) (P0:=H 0) (P1:=H 1) (P2:=H 2) (M:=rI (fun b q=>H (i+3) b q\/w.heap.size<=b) (fun _ _=>False)) h' i (i+1) (by omega) (by omega) [(l,k')]
  (ho.heap g1 (fun q hh=>hne 0 (i+3) a q (by omega) (g2 q) hh)) g2 (g3.only ho (fun b q=>hne 1 (i+3) b q (by omega)))
  (by
   have hsp:=ed hl
   have e:aA.take i++[(l,k')].map Prod.fst++aA.drop (i+1)=aA:=by
    conv=>rhs;rw[hsp]
    simp
   rw[e]
   exact g4.only ho (fun b q=>hne 2 (i+3) b q (by omega)))
  (fun m p y hm=>by
   match m,hm with
   |0,hm=>simp only[im,fl,mc]at hm;obtain⟨rfl,rfl⟩:=hm;exact hn
   |m+1,hm=>simp at hm)
  (fun j p y hj hp hy=>ay.only ho (g6 j p y hp hy) (fun b q=>hne _ (i+3) b q (by omega)))
  (fun b q hh=>.inl hh) (fun b q hh=>.inl hh) (fun b q hh=>.inl hh)
  (fun m b q hm=>by
   match m,hm with
   |0,hm=>exact hm.imp (fun h1=>⟨i,by omega,by omega,h1⟩) (fun h1 hf=>by have:=hF b q hf;omega)
   |1,hm=>exact hm.elim
   |_+2,hm=>exact hm.elim)
  (fun m m' b q hm hm'=>by
   match m,hm,m',hm' with
   |0,_,0,_=>rfl
   |1,h1,_,_=>exact h1.elim
   |_+2,h1,_,_=>exact h1.elim
   |0,_,1,h2=>exact h2.elim
   |0,_,_+2,h2=>exact h2.elim)
  (fun m m' b q hf hm hm'=>by
   have key: ∀m,MT (H 0) (H 1) (H 2) (rI (fun b q=>H (i+3) b q\/w.heap.size<=b) (fun _ _=>False)) m b q->m=3:=fun m hm=>match m,hm with
    |0,hm=>absurd (hsub 0 b q hm) hf
    |1,hm=>absurd (hsub 1 b q hm) hf
    |2,hm=>absurd (hsub 2 b q hm) hf
    |3,_=>rfl
    |4,hm=>hm.elim
    |_+5,hm=>hm.elim
   rw[key m hm,key m' hm'])
 constructor
 ·have hc:=(bg.close (d:=d+1) n1 (fun e=>by omega)).m (fun b q (hh: ∃j,_)=>show F b q\/w.heap.size<=b from by
   obtain⟨j,hj⟩:=hh;rcases fQ hj with c|c|c|⟨m,_,c⟩|⟨m,_,c⟩
   ·exact .inl (hsub 0 b q c)
   ·exact .inl (hsub 1 b q c)
   ·exact .inl (hsub 2 b q c)
   ·exact .inl (hsub _ b q c)
   ·match m,c with
    |0,c=>exact c.imp (hsub _ b q) id
    |1,c=>exact c.elim
    |_+2,c=>exact c.elim)
  simpa using hc
 ·exact ho.m (fun b q _ hh=>hsub _ b q hh)
theorem az.U4{w:World}{b o n c i:Nat}{ps:List Pr}{F:Nat->Nat->Prop}{k v v':List UInt8}(h:az 2 195 w (.slice (some ⟨b,o,none⟩) n c) (ps.map av) F)(hi:ps[i]?=some (k,v)):
  az 2 195 (w.setCell ⟨b,o+i*2+1,none⟩ (.string ⟨v'.toArray⟩)) (.slice (some ⟨b,o,none⟩) n c) ((ps.take i++(k,v')::ps.drop (i+1)).map av) F/\OnlyC F w (w.setCell ⟨b,o+i*2+1,none⟩ (.string ⟨v'.toArray⟩)):=by
 have hil:=(b8.1 hi).1;obtain⟨b',o',c',cs,e1,q2,q3,q4,q6,q7,q8,q9⟩:=h.lies (by simp;omega);simp only[fa,ie,fl,nf,and_true]at e1;obtain⟨⟨rfl,rfl⟩,rfl,rfl⟩:=e1;rw[fa]at q2;have hk1:=db w b (o+i*2+1) cs 195 (.string ⟨v'.toArray⟩) q6;have hlt:o+i*2+1<cs.size:=by omega
 have hsp:ps=ps.take i++(k,v)::ps.drop (i+1):=ed hi;constructor
 ·refine az.rewritten hk1 (by simp) q7 q8 (by simp;omega) q2 q3 (fun x hx=>by obtain⟨y,_,rfl⟩:=ew.1 hx;rfl) (fun j u hj=>?_);rw[ir]
  have hlk:(((ps.take i).map av).flatten).length=i*2:=by rw[bL (k:=2) (fun x hx=>by obtain⟨y,_,rfl⟩:=List.mem_map.1 hx;rfl)];simp;omega
  have e1:((ps.take i++(k,v')::ps.drop (i+1)).map av).flatten=((ps.take i).map av).flatten++(.string ⟨k.toArray⟩:: .string ⟨v'.toArray⟩::((ps.drop (i+1)).map av).flatten):=by simp[av]
  have e2:(ps.map av).flatten=((ps.take i).map av).flatten++(.string ⟨k.toArray⟩:: .string ⟨v.toArray⟩::((ps.drop (i+1)).map av).flatten):=by
   conv=>lhs;rw[hsp]
   simp[av]
  rw[e1]at hj;rw[e2]at q9;by_cases c1:j=i*2+1
  ·subst c1;rw[fi (by omega),fi hlt];rw[ke (by omega),hlk,Nat.add_sub_cancel_left]at hj;simpa using hj
  ·rw[ff (by omega)];refine q9 j u ?_;rw[List.getElem?_append]at hj⊢;split
   ·rename_i c2;rw[fi c2]at hj;exact hj
   ·rename_i c2;rw[ff c2,hlk]at hj;rw[hlk]at c2⊢;obtain⟨t,ht⟩:=qt (j-i*2);rw[ht]at hj⊢
    match t,ht,hj with
    |0,_,hj=>simpa using hj
    |1,ht,_=>omega
    |t+2,_,hj=>simpa using hj
 ·refine(OnlyC.aN w b (o+i*2+1) _).m (fun b' q _ e=>?_);obtain⟨rfl,rfl⟩:=e;exact q8 _ (by omega) (by omega)
theorem zR{d o:Nat}{y:ND}(ho:2<=o)(h:fy d o (2*o) (2*o) y):bz (d+1) (ny d (.mk [] [y]) 0 o)=bz d y/\fy (d+1) o 1 (2*o-1) (ny d (.mk [] [y]) 0 o):=by
 have hc:=IG (by omega) h;have hw:=MK ho h;have e:ny d (.mk [] [y]) 0 o=.mk [(jF d y o).2.1] [(jF d y o).1,(jF d y o).2.2]:=rfl;rw[e];constructor
 ·rw[<-hc];simp[bz,flat]
 ·refine⟨by simp,by simp;omega,by simp,fun k hk=>?_⟩;simp only[ND.df,List.mem_cons,List.not_mem_nil,or_false]at hk;rcases hk with rfl|rfl
  ·exact hw.1
  ·exact hw.2
theorem ay.IY{w:World}{d r N S:Nat}{y:ND}{K:Nat->Nat->Prop}(h:ay w d r y K)(hN:w.heap[N]?=some (.cells #[.slice none 0 0,.slice (some ⟨S,0,none⟩) 1 1] 185 (0,0)))
  (hS:w.heap[S]?=some (.cells #[.pointer (some ⟨r,0,none⟩)] 181 (0,0))) (hNS:N≠S) (hKN: ∀q,¬K N q) (hKS: ∀q,¬K S q):ay w (d+1) N (.mk [] [y]) (fun b q=>K b q\/b=N\/b=S):=by
 refine⟨.slice none 0 0,.slice (some ⟨S,0,none⟩) 1 1,[r],fun i b q=>(i=0/\b=N)\/(i=2/\b=S)\/(i=3/\K b q),hN,fun q=>.inl ⟨rfl,rfl⟩,az.nil _ _ _ _,?_,rfl,?_,?_,?_⟩
 ·exact⟨_,1,rfl,by simp,by simp[maxLen],fun x hx=>by simp[aP]at hx;subst hx;rfl,.inr ⟨S,0,_,rfl,hS,by simp,fun j _ _=>.inr (.inl ⟨rfl,rfl⟩),fun j u hj=>by simpa[aP]using hj⟩⟩
 ·intro i p k hp hk
  match i,hp,hk with
  |0,hp,hk=>simp at hp hk;subst hp hk;exact h.m (fun b q hh=>.inr (.inr ⟨rfl,hh⟩))
  |i+1,hp,hk=>simp at hp
 ·rintro i b q (⟨_,e⟩|⟨_,e⟩|⟨_,e⟩)
  ·exact .inr (.inl e)
  ·exact .inr (.inr e)
  ·exact .inl e
 ·rintro i j b q (⟨rfl,e⟩|⟨rfl,e⟩|⟨rfl,e⟩) (⟨rfl,e'⟩|⟨rfl,e'⟩|⟨rfl,e'⟩)
  ·rfl
  ·exact absurd (e.symm.x e') hNS
  ·exact absurd e' (by rw[e];exact hKN q)
  ·exact absurd (e'.symm.x e) hNS
  ·rfl
  ·exact absurd e' (by rw[e];exact hKS q)
  ·exact absurd e (by rw[e'];exact hKN q)
  ·exact absurd e (by rw[e'];exact hKS q)
  ·rfl
theorem wT(P:Nat->Nat->Nat->Prop)(h: ∀i j b q,P i b q->P j b q->i=j): ∃lab:Nat->Nat->Nat,(∀i b q,P i b q->lab b q=i+1)/\ ∀b q,lab b q≠0-> ∃i,P i b q:=by
 refine⟨fun b q=> @dite _ (∃i,P i b q) (Classical.propDecidable _) (fun hh=>Classical.choose hh+1) (fun _=>0),fun i b q hi=>?_,fun b q hn=>?_⟩
 ·have hh: ∃i,P i b q:=⟨i,hi⟩;simp only;rw[dif_pos hh,h _ _ b q (Classical.choose_spec hh) hi]
 ·apply Classical.byContradiction;intro hh;exact hn (dif_neg hh)
def FI{α:Type}(f:Nat->α)(t:Nat)(v:α):Nat->α:=fun s=>if s=t then v else f s
def Dn{α:Type}(f:Nat->Nat->α)(t s:Nat)(v:α):Nat->Nat->α:=fun t' s'=>if t'=t/\s'=s then v else f t' s'
@[simp] theorem sY {α:Type} (f:Nat->α) (t:Nat) (v:α):FI f t v t=v:=by simp[FI]
theorem BD{α:Type}(f:Nat->α){t s:Nat}(v:α)(h:s≠t):FI f t v s=f s:=by simp[FI,h]
@[simp] theorem pQ {α:Type} (f:Nat->Nat->α) (t s:Nat) (v:α):Dn f t s v t s=v:=by simp[Dn]
theorem gH{α:Type}(f:Nat->Nat->α){t s t' s':Nat}(v:α)(h: ¬(t'=t/\s'=s)):Dn f t s v t' s'=f t' s':=by simp[Dn,h]
structure Q7 (w0 w:World) (lab:Nat->Nat->Nat) (t a:Nat) (v u:Value) (x:List Pr) (y:List Nat) (P1 P2 B1 B2:Nat->Nat->Prop):Prop where
 heap:w.heap[a]?=some (.cells #[v,u] 185 (0,0))
 own: ∀q,lab a q=10*t
 s1:az 2 195 w v (x.map av) P1
 s2:az 1 181 w u (y.map aP) P2
 l1: ∀b q,P1 b q->lab b q=10*t+1/\b<w.heap.size/\(B1 b q\/w0.heap.size<=b)
 l2: ∀b q,P2 b q->lab b q=10*t+2/\b<w.heap.size/\(B2 b q\/w0.heap.size<=b)
def eN(w0:World)(A:Nat->Nat)(B:Nat->Nat->Nat->Nat->Prop)(Z U:Nat->Nat->Prop)(w:World)(V:Nat->Nat->Value)(X:Nat->List Pr)(Y:Nat->List Nat)(P:Nat->Nat->Nat->Nat->Prop):Prop:=
 ∃lab:Nat->Nat->Nat,(∀t,t<3->Q7 w0 w lab t (A t) (V t 0) (V t 1) (X t) (Y t) (P t 0) (P t 1) (B t 0) (B t 1))/\(∀b q,Z b q->lab b q=99/\b<w0.heap.size)/\(∀b q,b<w0.heap.size->lab b q<30->U b q)/\OnlyC (fun b q=>lab b q<30) w0 w
section
variable{w0 w w1 w2:World}{A:Nat->Nat}{B:Nat->Nat->Nat->Nat->Prop}{Z U:Nat->Nat->Prop}{V:Nat->Nat->Value}{X:Nat->List Pr}{Y:Nat->List Nat}{P:Nat->Nat->Nat->Nat->Prop}
theorem Q7.only{w':World}{lab Yh:Nat->Nat->Nat}{t a:Nat}{v u:Value}{x:List Pr}{y:List Nat}{P1 P2 B1 B2 G:Nat->Nat->Prop}(h:Q7 w0 w lab t a v u x y P1 P2 B1 B2)(ho:OnlyC G w w')(hl: ∀b q,b<w.heap.size->Yh b q=lab b q)
  (h0: ∀q,¬G a q) (h1: ∀b q,P1 b q-> ¬G b q) (h2: ∀b q,P2 b q-> ¬G b q):Q7 w0 w' Yh t a v u x y P1 P2 B1 B2:=
 ⟨ho.heap h.heap h0,fun q=>by rw[hl a q (lt_of_heap h.heap)];exact h.own q,h.s1.only ho h1,h.s2.only ho h2,
  fun b q hh=>by obtain⟨a1,a2,a3⟩:=h.l1 b q hh;exact⟨by rw[hl b q a2];exact a1,cq a2 ho.size,a3⟩,
  fun b q hh=>by obtain⟨a1,a2,a3⟩:=h.l2 b q hh;exact⟨by rw[hl b q a2];exact a1,cq a2 ho.size,a3⟩⟩
theorem eN.below(h:eN w0 A B Z U w V X Y P)(hb:Below w.heap.size w w1):eN w0 A B Z U w1 V X Y P:=by obtain⟨lab,hN,hZ,hU,hO⟩:=h;exact⟨lab,fun t ht=>(hN t ht).only (qe hb) (fun _ _ _=>rfl) (fun _ h=>h) (fun _ _ _ h=>h) (fun _ _ _ h=>h),hZ,hU,hO.x (oy hb (fun b q=>lab b q<30)) (fun _ _ _ h=>h)⟩
theorem eN.at_(h:eN w0 A B Z U w V X Y P){t:Nat}(ht:t<3):w.heap[A t]?=some (.cells #[V t 0,V t 1] 185 (0,0))/\az 2 195 w (V t 0) ((X t).map av) (P t 0)/\az 1 181 w (V t 1) ((Y t).map aP) (P t 1):=by obtain⟨lab,hN,_⟩:=h;exact⟨(hN t ht).heap,(hN t ht).s1,(hN t ht).s2⟩
theorem eN.apart(h:eN w0 A B Z U w V X Y P){t s t' s':Nat}(ht:t<3)(ht':t'<3)(hs:s<2)(hs':s'<2)(hne: ¬(t=t'/\s=s')){b q:Nat}(h1:P t s b q): ¬P t' s' b q:=by
 obtain⟨lab,hN,_⟩:=h;intro h2
 have key: ∀t s,t<3->s<2->P t s b q->lab b q=10*t+s+1:=fun t s ht hs hh=>match s,hs,hh with
  |0,_,hh=>((hN t ht).l1 b q hh).1
  |1,_,hh=>((hN t ht).l2 b q hh).1
  |_+2,hs,_=>by omega
 have e1:=key t s ht hs h1;have e2:=key t' s' ht' hs' h2;omega
theorem eN.iQ(h:eN w0 A B Z U w V X Y P){t s t':Nat}(ht:t<3)(ht':t'<3)(hs:s<2){b q:Nat}(h1:P t s b q):b≠A t':=by
 obtain⟨lab,hN,_⟩:=h;intro e;subst e;have e1:=(hN t' ht').own q
 have e2:lab (A t') q=10*t+s+1:=match s,hs,h1 with
  |0,_,hh=>((hN t ht).l1 _ q hh).1
  |1,_,hh=>((hN t ht).l2 _ q hh).1
  |_+2,hs,_=>by omega
 omega
theorem eN.MV(h:eN w0 A B Z U w V X Y P){t t':Nat}(ht:t<3)(ht':t'<3)(hne:t≠t'):A t≠A t':=by obtain⟨lab,hN,_⟩:=h;intro e;have e1:=(hN t ht).own 0;have e2:=(hN t' ht').own 0;rw[e]at e1;omega
theorem eN.TU(h:eN w0 A B Z U w V X Y P):OnlyC U w0 w:=by obtain⟨lab,_,_,hU,hO⟩:=h;exact hO.m (fun b q hb hh=>hU b q hb hh)
theorem eN.pairs(h:eN w0 A B Z U w V X Y P){t:Nat}(ht:t<3)(hb:Below w.heap.size w w1)(ho:OnlyC (P t 0) w1 w2){v':Value}{xs':List Pr}(hs:az 2 195 w2 v' (xs'.map av) (fun b q=>P t 0 b q\/w1.heap.size<=b)):
  eN w0 A B Z U (w2.setCell ⟨A t,0,none⟩ v') (Dn V t 0 v') (FI X t xs') Y (Dn P t 0 (fun b q=>(P t 0 b q\/w1.heap.size<=b)/\b<w2.heap.size)):=by
 have h':=h.below hb;obtain⟨lab,hN,hZ,hU,hO⟩:=h';have Q8:=hN;have hw0:w0.heap.size<=w1.heap.size:=hO.size;have zz:(w2.setCell ⟨A t,0,none⟩ v').heap.size=w2.heap.size:=by simp[World.setCell]
 have o3:=OnlyC.aN w2 (A t) 0 v';have hl: ∀b q,b<w1.heap.size->(if b<w1.heap.size then lab b q else 10*t+1)=lab b q:=fun b q hb=>fi hb
 have key: ∀{t s b q},t<3->s<2->P t s b q->lab b q=10*t+s+1/\b<w1.heap.size:=fun{t s b q} ht hs hh=>match s,hs,hh with
  |0,_,hh=>⟨((Q8 t ht).l1 b q hh).1,((Q8 t ht).l1 b q hh).2.1⟩
  |1,_,hh=>⟨((Q8 t ht).l2 b q hh).1,((Q8 t ht).l2 b q hh).2.1⟩
  |_+2,hs,_=>by omega
 have U5: ∀q,¬P t 0 (A t) q:=fun q hh=>by have h1:=(key ht (by decide) hh).1;have h2:=(hN t ht).own q;omega
 have MW:OnlyC (fun b q=>P t 0 b q\/(b=A t/\q=0)) w1 (w2.setCell ⟨A t,0,none⟩ v'):=(ho.m (fun _ _ _ h=>.inl h)).x o3 (fun _ _ _ h=>.inr h);refine⟨fun b q=>if b<w1.heap.size then lab b q else 10*t+1,fun t' ht'=>?_,fun b q hz=>?_,fun b q hb0 hl0=>hU b q hb0 (by have e:(if b<w1.heap.size then lab b q else _)<30:=hl0;rw[fi (by omega)]at e;exact e),?_⟩
 ·by_cases e:t'=t
  ·subst e;have hn:=hN t' ht;have k2:=ho.heap hn.heap U5;rw[pQ,gH V v' (by omega),sY,pQ,gH P _ (by omega)];refine⟨?_,fun q=>by rw[fi (lt_of_heap hn.heap)];exact hn.own q,?_,?_,?_,?_⟩
   ·have:=db w2 (A t') 0 _ _ v' k2;simpa using this
   ·refine hs.bound.only o3 (fun b q hh e=>?_);obtain⟨rfl,rfl⟩:=e;rcases hh.1 with h1|h1
    ·exact U5 0 h1
    ·have:=oE hn.heap;omega
   ·refine(hn.s2.only ho (fun b q hh h2=>?_)).only o3 (fun b q hh e=>?_)
    ·have e1:=(hn.l2 b q hh).1;have e2:=(key ht (by decide) h2).1;omega
    ·obtain⟨rfl,rfl⟩:=e;have e1:=(hn.l2 _ _ hh).1;have e2:=hn.own 0;omega
   ·rintro b q ⟨h1|h1,h2⟩
    ·have h3:=hn.l1 b q h1;refine⟨?_,by rw[zz];exact h2,h3.2.2⟩;rw[fi h3.2.1];exact h3.1
    ·refine⟨?_,by rw[zz];exact h2,.inr (by omega)⟩;rw[ff (by omega)]
   ·intro b q hh;have h3:=hn.l2 b q hh;refine⟨?_,by rw[zz];exact cq h3.2.1 ho.size,h3.2.2⟩;rw[fi h3.2.1];exact h3.1
  ·rw[gH V v' (fun hh=>e hh.1),gH V v' (fun hh=>e hh.1),BD X xs' e,gH P _ (fun hh=>e hh.1),gH P _ (fun hh=>e hh.1)];refine(hN t' ht').only MW hl (fun q hh=>?_) (fun b q h1 hh=>?_) (fun b q h1 hh=>?_)
   ·rcases hh with hh|⟨e1,_⟩
    ·have e2:=(key ht (by decide) hh).1;have e3:=(hN t' ht').own q;omega
    ·have e2:=(hN t' ht').own q;have e3:=(hN t ht).own q;rw[e1]at e2;omega
   ·have e0:=((hN t' ht').l1 b q h1).1;rcases hh with hh|⟨rfl,rfl⟩
    ·have e2:=(key ht (by decide) hh).1;omega
    ·have e3:=(hN t ht).own 0;omega
   ·have e0:=((hN t' ht').l2 b q h1).1;rcases hh with hh|⟨rfl,rfl⟩
    ·have e2:=(key ht (by decide) hh).1;omega
    ·have e3:=(hN t ht).own 0;omega
 ·have:=hZ b q hz;exact⟨by show(if b<w1.heap.size then lab b q else _)=99;rw[fi (by omega)];exact this.1,this.2⟩
 ·refine(hO.m (fun b q hb' hh=>?_)).x MW (fun b q hb' hh=>?_)
  ·show(if b<w1.heap.size then lab b q else _)<30;rw[fi (by omega)];exact hh
  ·show(if b<w1.heap.size then lab b q else _)<30;rw[fi (by omega)];rcases hh with hh|⟨rfl,rfl⟩
   ·have:=(key ht (by decide) hh).1;omega
   ·have:=(hN t ht).own 0;omega
theorem eN.kids(h:eN w0 A B Z U w V X Y P){t:Nat}(ht:t<3)(hb:Below w.heap.size w w1)(ho:OnlyC (P t 1) w1 w2){v':Value}{ys':List Nat}(hs:az 1 181 w2 v' (ys'.map aP) (fun b q=>P t 1 b q\/w1.heap.size<=b)):
  eN w0 A B Z U (w2.setCell ⟨A t,1,none⟩ v') (Dn V t 1 v') X (FI Y t ys') (Dn P t 1 (fun b q=>(P t 1 b q\/w1.heap.size<=b)/\b<w2.heap.size)):=by
 have h':=h.below hb;obtain⟨lab,hN,hZ,hU,hO⟩:=h';have Q8:=hN;have hw0:w0.heap.size<=w1.heap.size:=hO.size;have zz:(w2.setCell ⟨A t,1,none⟩ v').heap.size=w2.heap.size:=by simp[World.setCell]
 have o3:=OnlyC.aN w2 (A t) 1 v';have hl: ∀b q,b<w1.heap.size->(if b<w1.heap.size then lab b q else 10*t+2)=lab b q:=fun b q hb=>fi hb
 have key: ∀{t s b q},t<3->s<2->P t s b q->lab b q=10*t+s+1/\b<w1.heap.size:=fun{t s b q} ht hs hh=>match s,hs,hh with
  |0,_,hh=>⟨((Q8 t ht).l1 b q hh).1,((Q8 t ht).l1 b q hh).2.1⟩
  |1,_,hh=>⟨((Q8 t ht).l2 b q hh).1,((Q8 t ht).l2 b q hh).2.1⟩
  |_+2,hs,_=>by omega
 have U5: ∀q,¬P t 1 (A t) q:=fun q hh=>by have h1:=(key ht (by decide) hh).1;have h2:=(hN t ht).own q;omega
 have MW:OnlyC (fun b q=>P t 1 b q\/(b=A t/\q=1)) w1 (w2.setCell ⟨A t,1,none⟩ v'):=(ho.m (fun _ _ _ h=>.inl h)).x o3 (fun _ _ _ h=>.inr h);refine⟨fun b q=>if b<w1.heap.size then lab b q else 10*t+2,fun t' ht'=>?_,fun b q hz=>?_,fun b q hb0 hl0=>hU b q hb0 (by have e:(if b<w1.heap.size then lab b q else _)<30:=hl0;rw[fi (by omega)]at e;exact e),?_⟩
 ·by_cases e:t'=t
  ·subst e;have hn:=hN t' ht;have k2:=ho.heap hn.heap U5;rw[pQ,gH V v' (by omega),sY,pQ,gH P _ (by omega)];refine⟨?_,fun q=>by rw[fi (lt_of_heap hn.heap)];exact hn.own q,?_,?_,?_,?_⟩
   ·have:=db w2 (A t') 1 _ _ v' k2;simpa using this
   ·refine(hn.s1.only ho (fun b q hh h2=>?_)).only o3 (fun b q hh e=>?_)
    ·have e1:=(hn.l1 b q hh).1;have e2:=(key ht (by decide) h2).1;omega
    ·obtain⟨rfl,rfl⟩:=e;have e1:=(hn.l1 _ _ hh).1;have e2:=hn.own 1;omega
   ·refine hs.bound.only o3 (fun b q hh e=>?_);obtain⟨rfl,rfl⟩:=e;rcases hh.1 with h1|h1
    ·exact U5 1 h1
    ·have:=oE hn.heap;omega
   ·intro b q hh;have h3:=hn.l1 b q hh;refine⟨?_,by rw[zz];exact cq h3.2.1 ho.size,h3.2.2⟩;rw[fi h3.2.1];exact h3.1
   ·rintro b q ⟨h1|h1,h2⟩
    ·have h3:=hn.l2 b q h1;refine⟨?_,by rw[zz];exact h2,h3.2.2⟩;rw[fi h3.2.1];exact h3.1
    ·refine⟨?_,by rw[zz];exact h2,.inr (by omega)⟩;rw[ff (by omega)]
  ·rw[gH V v' (fun hh=>e hh.1),gH V v' (fun hh=>e hh.1),BD Y ys' e,gH P _ (fun hh=>e hh.1),gH P _ (fun hh=>e hh.1)];refine(hN t' ht').only MW hl (fun q hh=>?_) (fun b q h1 hh=>?_) (fun b q h1 hh=>?_)
   ·rcases hh with hh|⟨e1,_⟩
    ·have e2:=(key ht (by decide) hh).1;have e3:=(hN t' ht').own q;omega
    ·have e2:=(hN t' ht').own q;have e3:=(hN t ht).own q;rw[e1]at e2;omega
   ·have e0:=((hN t' ht').l1 b q h1).1;rcases hh with hh|⟨rfl,rfl⟩
    ·have e2:=(key ht (by decide) hh).1;omega
    ·have e3:=(hN t ht).own 1;omega
   ·have e0:=((hN t' ht').l2 b q h1).1;rcases hh with hh|⟨rfl,rfl⟩
    ·have e2:=(key ht (by decide) hh).1;omega
    ·have e3:=(hN t ht).own 1;omega
 ·have:=hZ b q hz;exact⟨by show(if b<w1.heap.size then lab b q else _)=99;rw[fi (by omega)];exact this.1,this.2⟩
 ·refine(hO.m (fun b q hb' hh=>?_)).x MW (fun b q hb' hh=>?_)
  ·show(if b<w1.heap.size then lab b q else _)<30;rw[fi (by omega)];exact hh
  ·show(if b<w1.heap.size then lab b q else _)<30;rw[fi (by omega)];rcases hh with hh|⟨rfl,rfl⟩
   ·have:=(key ht (by decide) hh).1;omega
   ·have:=(hN t ht).own 1;omega
theorem eN.inPlace(h:eN w0 A B Z U w V X Y P){t:Nat}(ht:t<3)(ho:OnlyC (P t 0) w w2){xs':List Pr}(hs:az 2 195 w2 (V t 0) (xs'.map av) (P t 0)):eN w0 A B Z U w2 V (FI X t xs') Y P:=by
 obtain⟨lab,hN,hZ,hU,hO⟩:=h;refine⟨lab,fun t' ht'=>?_,hZ,hU,hO.x ho (fun b q _ hh=>by have:=((hN t ht).l1 b q hh).1;omega)⟩;by_cases e:t'=t
 ·subst e;have hn:=hN t' ht;have U5: ∀q,¬P t' 0 (A t') q:=fun q hh=>by have h1:=(hn.l1 _ _ hh).1;have h2:=hn.own q;omega
  rw[sY];exact⟨ho.heap hn.heap U5,hn.own,hs,hn.s2.only ho (fun b q hh h2=>by have e1:=(hn.l2 b q hh).1;have e2:=(hn.l1 b q h2).1;omega),fun b q hh=>let⟨a1,a2,a3⟩:=hn.l1 b q hh;⟨a1,cq a2 ho.size,a3⟩,fun b q hh=>let⟨a1,a2,a3⟩:=hn.l2 b q hh;⟨a1,cq a2 ho.size,a3⟩⟩
 ·rw[BD X xs' e];refine(hN t' ht').only ho (fun _ _ _=>rfl) (fun q hh=>?_) (fun b q h1 hh=>?_) (fun b q h1 hh=>?_)
  ·have e2:=((hN t ht).l1 _ _ hh).1;have e3:=(hN t' ht').own q;omega
  ·have e0:=((hN t' ht').l1 b q h1).1;have e2:=((hN t ht).l1 _ _ hh).1;omega
  ·have e0:=((hN t' ht').l2 b q h1).1;have e2:=((hN t ht).l1 _ _ hh).1;omega
end
def Dp{α:Type}(a b c:α):Nat->α:=fun t=>if t=0 then a else if t=1 then b else c
def uU{α:Type}(a b:α):Nat->α:=fun t=>if t=0 then a else b
@[simp] theorem acn {α:Type} (a b c:α):Dp a b c 0=a:=rfl
@[simp] theorem aco {α:Type} (a b c:α):Dp a b c 1=b:=rfl
@[simp] theorem acp {α:Type} (a b c:α):Dp a b c 2=c:=rfl
@[simp] theorem acq {α:Type} (a b:α):uU a b 0=a:=rfl
@[simp] theorem acr {α:Type} (a b:α):uU a b 1=b:=rfl
def IZ(H Hl Hr:Nat->Nat->Nat->Prop)(i:Nat)(b q:Nat):Prop:=(∃j,j≠i/\j≠i+1/\H (j+3) b q)\/(∃j,Hl (j+3) b q)\/ ∃j,Hr (j+3) b q
theorem eN.start{w:World}{d a i l r:Nat}{x kl kr:ND}{F:Nat->Nat->Prop}{vp vk vl ul vr ur:Value}{aA pl pr:List Nat}{H Hl Hr:Nat->Nat->Nat->Prop}(hO:bg w (ay w d) a x F vp vk aA H)(hF: ∀b q,F b q->b<w.heap.size)
  (hL:bg w (b7 w d) l kl (H (i+3)) vl ul pl Hl) (hR:bg w (b7 w d) r kr (H (i+4)) vr ur pr Hr):
  eN w (Dp a l r) (fun t s=>Dp (H (s+1)) (Hl (s+1)) (Hr (s+1)) t) (IZ H Hl Hr i) F w (fun t s=>Dp (uU vp vk s) (uU vl ul s) (uU vr ur s) t) (Dp x.ps kl.ps kr.ps) (Dp aA pl pr) (fun t s=>Dp (H (s+1)) (Hl (s+1)) (Hr (s+1)) t):=by
 obtain⟨Kf,h0,h0'⟩:=wT H hO.2.2.2.2.2.2.2;obtain⟨U6,h1,h1'⟩:=wT Hl hL.2.2.2.2.2.2.2;obtain⟨U7,h2,h2'⟩:=wT Hr hR.2.2.2.2.2.2.2;obtain⟨lab,hlab⟩: ∃lab:Nat->Nat->Nat,∀b q,lab b q=if Kf b q=0 then 99 else if Kf b q=i+4 then(if U6 b q≠0/\U6 b q<4 then 9+U6 b q else 99)else if Kf b q=i+5 then(if U7 b q≠0/\U7 b q<4 then 19+U7 b q else 99)else if Kf b q<4 then Kf b q-1 else 99:=⟨_,fun _ _=>rfl⟩
 have e0: ∀m b q,m<3->H m b q->lab b q=m:=fun m b q hm hh=>by rw[hlab,h0 m b q hh,ff (by omega),ff (by omega),ff (by omega),fi (by omega),nx]
 have e1: ∀m b q,Hl m b q->lab b q=if m<3 then 10+m else 99:=fun m b q hh=>by rw[hlab,h0 (i+3) b q (hL.own.1 m b q hh),ff (by omega),fi rfl,h1 m b q hh];split<;>split<;>omega
 have e2: ∀m b q,Hr m b q->lab b q=if m<3 then 20+m else 99:=fun m b q hh=>by rw[hlab,h0 (i+4) b q (hR.own.1 m b q hh),ff (by omega),ff (by omega),fi rfl,h2 m b q hh];split<;>split<;>omega
 have e3: ∀j b q,j≠i->j≠i+1->H (j+3) b q->lab b q=99:=fun j b q a1 a2 hh=>by rw[hlab,h0 (j+3) b q hh,ff (by omega),ff (by omega),ff (by omega),ff (by omega)]
 have hb: ∀m b q,H m b q->b<w.heap.size:=fun m b q hh=>hF b q (hO.own.1 m b q hh);have hbl: ∀m b q,Hl m b q->b<w.heap.size:=fun m b q hh=>hb _ b q (hL.own.1 m b q hh);have hbr: ∀m b q,Hr m b q->b<w.heap.size:=fun m b q hh=>hb _ b q (hR.own.1 m b q hh);refine⟨lab,fun t ht=>?_,?_,fun b q _ hl=>?_,OnlyC.refl _ _⟩;rotate_left 2
 ·rw[hlab]at hl;by_cases e:Kf b q=0
  ·rw[fi e]at hl;omega
  ·obtain⟨m,hm⟩:=h0' b q e;exact hO.own.1 m b q hm
 ·match t,ht with
  |0,_=>exact⟨hO.1,fun q=>e0 0 a q (by decide) (hO.2.1 q),hO.2.2.1,hO.2.2.2.1,fun b q hh=>⟨e0 1 b q (by decide) hh,hb 1 b q hh,.inl hh⟩,fun b q hh=>⟨e0 2 b q (by decide) hh,hb 2 b q hh,.inl hh⟩⟩
  |1,_=>exact⟨hL.1,fun q=>e1 0 l q (hL.2.1 q),hL.2.2.1,hL.2.2.2.1,fun b q hh=>⟨e1 1 b q hh,hbl 1 b q hh,.inl hh⟩,fun b q hh=>⟨e1 2 b q hh,hbl 2 b q hh,.inl hh⟩⟩
  |2,_=>exact⟨hR.1,fun q=>e2 0 r q (hR.2.1 q),hR.2.2.1,hR.2.2.2.1,fun b q hh=>⟨e2 1 b q hh,hbr 1 b q hh,.inl hh⟩,fun b q hh=>⟨e2 2 b q hh,hbr 2 b q hh,.inl hh⟩⟩
  |_+3,ht=>omega
 ·rintro b q (⟨j,a1,a2,hh⟩|⟨j,hh⟩|⟨j,hh⟩)
  ·exact⟨e3 j b q a1 a2 hh,hb _ b q hh⟩
  ·have:=e1 (j+3) b q hh;rw[ff (by omega)]at this;exact⟨this,hbl _ b q hh⟩
  ·have:=e2 (j+3) b q hh;rw[ff (by omega)]at this;exact⟨this,hbr _ b q hh⟩
section
variable{w0 w:World}{A:Nat->Nat}{B:Nat->Nat->Nat->Nat->Prop}{Z U:Nat->Nat->Prop}{V:Nat->Nat->Value}{X:Nat->List Pr}{Y:Nat->List Nat}{P:Nat->Nat->Nat->Nat->Prop}
theorem eN.keep(h:eN w0 A B Z U w V X Y P){d p:Nat}{k:ND}{K:Nat->Nat->Prop}(hk:b7 w0 d p k K)(hZ: ∀b q,K b q->Z b q):b7 w d p k K:=by obtain⟨lab,_,hz,_,ho⟩:=h;exact hk.only ho (fun b q hh hl=>by have:=(hz b q (hZ b q hh)).1;omega)
theorem eN.node{d a t:Nat}{x:ND}{K:Nat->Nat->Prop}{vp vk:Value}{aA:List Nat}{H:Nat->Nat->Nat->Prop}(hK:bg w0 (b7 w0 d) a x K vp vk aA H)(hT: ∀i b q,H i b q->i<x.ks.length+3)(hKb: ∀b q,K b q->b<w0.heap.size)
  (h:eN w0 A B Z U w V X Y P) (ht:t<3) (hA:A t=a) (U8:B t 0=H 1) (eV:B t 1=H 2) (hZ: ∀j b q,H (j+3) b q->Z b q) (lo hi:Nat) (Xm:lo<=hi) (hh:hi<=x.ks.length) (mid:List (Nat×ND)) (M:Nat->Nat->Nat->Prop)
  (hY:Y t=aA.take lo++mid.map Prod.fst++aA.drop hi) (hM: ∀m b q,M m b q->Z b q/\ ¬K b q) (Q3: ∀m m' b q,M m b q->M m' b q->m=m') (hmid: ∀m p k,mid[m]?=some (p,k)->b7 w0 d p k (M m)) (h0:d=0->x.ks.take lo++mid.map Prod.snd++x.ks.drop hi=[]):
  ∃R,ay w d a (.mk (X t) (x.ks.take lo++mid.map Prod.snd++x.ks.drop hi)) R/\ ∀b q,R b q->H 0 b q\/P t 0 b q\/P t 1 b q\/(∃j,(j<lo\/(hi<=j/\j<x.ks.length))/\H (j+3) b q)\/ ∃m,M m b q:=by
 have I0:=fun d p k K=> @eN.keep w0 w A B Z U V X Y P h d p k K;obtain⟨lab,hN,hz,_,ho⟩:=h;have hn:=hN t ht;rw[hA,U8,eV]at hn;have f1: ∀b q,P t 0 b q->H 1 b q\/ ¬K b q:=fun b q hp=>(hn.l1 b q hp).2.2.imp id (fun h1 hk=>by have:=hKb b q hk;omega);have f2: ∀b q,P t 1 b q->H 2 b q\/ ¬K b q:=fun b q hp=>(hn.l2 b q hp).2.2.imp id (fun h1 hk=>by have:=hKb b q hk;omega)
 have n1:=bg.splice (w':=w) (a':=a) (ps':=X t) (vp':=V t 0) (vk':=V t 1) (P0:=H 0) (P1:=P t 0) (P2:=P t 1) (M:=M) hK lo hi Xm hh mid hn.heap hK.2.1 hn.s1 (by rw[<-hY];exact hn.s2)
  (fun m p k hm=>I0 d p k _ (hmid m p k hm) (fun b q hq=>(hM m b q hq).1)) (fun j p k _ hp hk=>I0 d p k _ (hK.2.2.2.2.2.1 j p k hp hk) (fun b q hq=>hZ j b q hq)) (fun b q hq=>.inl hq) f1 f2 (fun m b q hq=>.inr (hM m b q hq).2) Q3
  (fun m m' b q hf hm hm'=>by
   have key: ∀m,MT (H 0) (P t 0) (P t 1) M m b q->(m=1/\lab b q=10*t+1)\/(m=2/\lab b q=10*t+2)\/(∃n,m=n+3/\lab b q=99/\M n b q):=fun m hm=>match m,hm with
    |0,hm=>absurd (hK.own.1 0 b q hm) hf
    |1,hm=>.inl ⟨rfl,(hn.l1 b q hm).1⟩
    |2,hm=>.inr (.inl ⟨rfl,(hn.l2 b q hm).1⟩)
    |n+3,hm=>.inr (.inr ⟨n,rfl,(hz b q (hM n b q hm).1).1,hm⟩)
   rcases key m hm with⟨e1,e2⟩|⟨e1,e2⟩|⟨n,e1,e2,e3⟩<;>rcases key m' hm' with⟨c1,c2⟩|⟨c1,c2⟩|⟨n',c1,c2,c3⟩<;>first
    |omega
    |(have:=Q3 n n' b q e3 c3;omega))
 refine⟨_,n1.close h0,?_⟩;rintro b q ⟨j,hj⟩;rcases fQ hj with c|c|c|⟨m,cm,c⟩|⟨m,_,c⟩
 ·exact .inl c
 ·exact .inr (.inl c)
 ·exact .inr (.inr (.inl c))
 ·have:=hT _ b q c;exact .inr (.inr (.inr (.inl ⟨m,by omega,c⟩)))
 ·exact .inr (.inr (.inr (.inr ⟨m,c⟩)))
theorem eN.parent{d a i:Nat}{x:ND}{F:Nat->Nat->Prop}{vp vk:Value}{aA:List Nat}{H:Nat->Nat->Nat->Prop}(hO:bg w0 (ay w0 d) a x F vp vk aA H)(hF: ∀b q,F b q->b<w0.heap.size)(hi:i+2<=x.ks.length)
  (h:eN w0 A B Z U w V X Y P) (hA:A 0=a) (U8:B 0 0=H 1) (eV:B 0 1=H 2) (hZ: ∀j b q,j≠i->j≠i+1->H (j+3) b q->Z b q) (mid:List (Nat×ND)) (M:Nat->Nat->Nat->Prop)
  (hY:Y 0=aA.take i++mid.map Prod.fst++aA.drop (i+2)) (hM: ∀m b q,M m b q->H (i+3) b q\/H (i+4) b q\/(∃s,s<2/\(P 1 s b q\/P 2 s b q))) (Q3: ∀m m' b q,M m b q->M m' b q->m=m') (hmid: ∀m p k,mid[m]?=some (p,k)->ay w d p k (M m))
  (Q9: ∀s b q,s<2->(P 1 s b q\/P 2 s b q)->H (i+3) b q\/H (i+4) b q\/w0.heap.size<=b):
  ay w (d+1) a (.mk (X 0) (x.ks.take i++mid.map Prod.snd++x.ks.drop (i+2))) (fun b q=>F b q\/w0.heap.size<=b):=by
 have I0:=fun p k K=> @eN.keep w0 w A B Z U V X Y P h (d+1) p k K;obtain⟨lab,hN,hz,_,ho⟩:=h;have hn:=hN 0 (by decide);rw[hA,U8,eV]at hn;have f1: ∀b q,P 0 0 b q->H 1 b q\/ ¬F b q:=fun b q hp=>(hn.l1 b q hp).2.2.imp id (fun h1 hk=>by have:=hF b q hk;omega);have f2: ∀b q,P 0 1 b q->H 2 b q\/ ¬F b q:=fun b q hp=>(hn.l2 b q hp).2.2.imp id (fun h1 hk=>by have:=hF b q hk;omega)
 have uV: ∀m b q,M m b q->H (i+3) b q\/H (i+4) b q\/(w0.heap.size<=b/\10<=lab b q):=fun m b q hm=>by
  rcases hM m b q hm with h1|h1|⟨s,hs,h1⟩
  ·exact .inl h1
  ·exact .inr (.inl h1)
  ·rcases Q9 s b q hs h1 with h2|h2|h2
   ·exact .inl h2
   ·exact .inr (.inl h2)
   ·refine .inr (.inr ⟨h2,?_⟩);have g1:=hN 1 (by decide);have g2:=hN 2 (by decide)
    match s,hs,h1 with
    |0,_,.inl h1=>have:=(g1.l1 b q h1).1;omega
    |0,_,.inr h1=>have:=(g2.l1 b q h1).1;omega
    |1,_,.inl h1=>have:=(g1.l2 b q h1).1;omega
    |1,_,.inr h1=>have:=(g2.l2 b q h1).1;omega
    |_+2,hs,_=>omega
 have n1:=bg.splice (d:=d+1) (w':=w) (a':=a) (ps':=X 0) (vp':=V 0 0) (vk':=V 0 1) (P0:=H 0) (P1:=P 0 0) (P2:=P 0 1) (M:=M) hO i (i+2) (by omega) hi mid hn.heap hO.2.1 hn.s1 (by rw[<-hY];exact hn.s2)
  hmid (fun j p k hj hp hk=>I0 p k _ (hO.2.2.2.2.2.1 j p k hp hk) (fun b q hq=>hZ j b q (by omega) (by omega) hq)) (fun b q hq=>.inl hq) f1 f2
  (fun m b q hq=>by
   rcases uV m b q hq with h1|h1|⟨h1,_⟩
   ·exact .inl ⟨i,by omega,by omega,h1⟩
   ·exact .inl ⟨i+1,by omega,by omega,h1⟩
   ·exact .inr (fun hf=>by have:=hF b q hf;omega)) Q3
  (fun m m' b q hf hm hm'=>by
   have key: ∀m,MT (H 0) (P 0 0) (P 0 1) M m b q->(m=1/\lab b q=1)\/(m=2/\lab b q=2)\/(∃n,m=n+3/\10<=lab b q/\M n b q):=fun m hm=>match m,hm with
    |0,hm=>absurd (hO.own.1 0 b q hm) hf
    |1,hm=>.inl ⟨rfl,(hn.l1 b q hm).1⟩
    |2,hm=>.inr (.inl ⟨rfl,(hn.l2 b q hm).1⟩)
    |n+3,hm=>by
     refine .inr (.inr ⟨n,rfl,?_,hm⟩);rcases uV n b q hm with h1|h1|⟨_,h1⟩
     ·exact absurd (hO.own.1 _ b q h1) hf
     ·exact absurd (hO.own.1 _ b q h1) hf
     ·exact h1
   rcases key m hm with⟨e1,e2⟩|⟨e1,e2⟩|⟨n,e1,e2,e3⟩<;>rcases key m' hm' with⟨c1,c2⟩|⟨c1,c2⟩|⟨n',c1,c2,c3⟩<;>first
    |omega
    |(have:=Q3 n n' b q e3 c3;omega))
 refine(bg.close (d:=d+1) n1 (fun e=>by omega)).m ?_;rintro b q ⟨j,hj⟩;rcases fQ hj with c|c|c|⟨m,_,c⟩|⟨m,_,c⟩
 ·exact .inl (hO.own.1 0 b q c)
 ·exact(hn.l1 b q c).2.2.imp (hO.own.1 1 b q) id
 ·exact(hn.l2 b q c).2.2.imp (hO.own.1 2 b q) id
 ·exact .inl (hO.own.1 _ b q c)
 ·rcases uV m b q c with h1|h1|⟨h1,_⟩
  ·exact .inl (hO.own.1 _ b q h1)
  ·exact .inl (hO.own.1 _ b q h1)
  ·exact .inr h1
end
end Go.Proofs.YtmkofmeojbcakaaGreatDoor
