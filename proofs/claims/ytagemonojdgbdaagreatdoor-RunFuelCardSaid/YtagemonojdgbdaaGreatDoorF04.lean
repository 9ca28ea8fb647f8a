import Derived.Test.YtagemonojdgbdaaGreatDoorF02
import Derived.Test.YtagemonojdgbdaaGreatDoorF03
import Derived.Sort.Walk0
import Derived.Deep.CutRange
namespace Go.Proofs.YtagemonojdgbdaaGreatDoor
set_option maxRecDepth 100000
set_option maxHeartbeats 16000000
open Go.RowKit
def ax(p:Pr):List Value:=[.string ⟨p.1.toArray⟩,.string ⟨p.2.toArray⟩]
def aL(a:Nat):List Value:=[.pointer (some ⟨a,0,none⟩)]
def rP(H:Nat->Nat->Nat->Prop)(F:Nat->Nat->Prop):Prop:=(∀i b o,H i b o->F b o)/\ ∀i j b o,H i b o->H j b o->i=j
def gT(w:World)(sub:Nat->ND->(Nat->Nat->Prop)->Prop)(a:Nat)(x:ND)(F:Nat->Nat->Prop):Prop:=
 ∃(vp vk:Value) (aA:List Nat) (H:Nat->Nat->Nat->Prop),w.heap[a]?=some (.cells #[vp,vk] 201 (0,0))/\(∀o,H 0 a o)/\az 2 210 w vp (x.ps.map ax) (H 1)/\az 1 197 w vk (aA.map aL) (H 2)/\
  aA.length=x.ks.length/\(∀i p k,aA[i]?=some p->x.ks[i]?=some k->sub p k (H (i+3)))/\rP H F
def ay(w:World):Nat->Nat->ND->(Nat->Nat->Prop)->Prop
 |0,a,x,F=>x.ks=[]/\gT w (fun _ _ _=>True) a x F
 |d+1,a,x,F=>gT w (ay w d) a x F
section
variable{w w':World}{F G:Nat->Nat->Prop}{a:Nat}{x:ND}
theorem rP.mono{H:Nat->Nat->Nat->Prop}(h:rP H F)(hF: ∀b o,F b o->G b o):rP H G:=⟨fun i b o hh=>hF b o (h.1 i b o hh),h.2⟩
theorem gT.mono{sub:Nat->ND->(Nat->Nat->Prop)->Prop}(h:gT w sub a x F)(hF: ∀b o,F b o->G b o):gT w sub a x G:=by obtain⟨vp,vk,aA,H,h1,h2,h3,h4,h5,h6,h7⟩:=h;exact⟨vp,vk,aA,H,h1,h2,h3,h4,h5,h6,h7.mono hF⟩
theorem ay.mono{d:Nat}(h:ay w d a x F)(hF: ∀b o,F b o->G b o):ay w d a x G:=by
 cases d with
 |zero=>exact⟨h.1,h.2.mono hF⟩
 |succ d=>exact gT.mono h hF
theorem ay.base{d:Nat}(h:ay w d a x F):gT w (fun _ _ _=>True) a x F:=by
 cases d with
 |zero=>exact h.2
 |succ d=>obtain⟨vp,vk,aA,H,h1,h2,h3,h4,h5,h6,h7⟩:=h;exact⟨vp,vk,aA,H,h1,h2,h3,h4,h5,fun _ _ _ _ _=>trivial,h7⟩
theorem gT.only{sub sub':Nat->ND->(Nat->Nat->Prop)->Prop}(h:gT w sub a x F)(ho:OnlyC G w w')(hd: ∀b o,F b o-> ¬G b o)(hs: ∀p k K,(∀b o,K b o-> ¬G b o)->sub p k K->sub' p k K):gT w' sub' a x F:=by obtain⟨vp,vk,aA,H,h1,h2,h3,h4,h5,h6,h7⟩:=h;have hH: ∀i b o,H i b o-> ¬G b o:=fun i b o hh=>hd b o (h7.1 i b o hh);exact⟨vp,vk,aA,H,ho.heap h1 (fun j=>hH 0 a j (h2 j)),h2,h3.only ho (hH 1),h4.only ho (hH 2),h5,fun i p k hp hk=>hs p k _ (hH _) (h6 i p k hp hk),h7⟩
theorem ay.only(ho:OnlyC G w w'): ∀{d:Nat} {a:Nat} {x:ND} {F:Nat->Nat->Prop},ay w d a x F->(∀b o,F b o-> ¬G b o)->ay w' d a x F
 |0,_,_,_,h,hd=>⟨h.1,h.2.only ho hd (fun _ _ _ _ h=>h)⟩
 |_+1,_,_,_,h,hd=>gT.only h ho hd (fun _p _k _K hK hs=>ay.only ho hs hK)
theorem ay.below{d:Nat}(h:ay w d a x F)(hb:Below w.heap.size w w'):ay w' d a x F:=h.only (qn hb) (fun _ _ _ h=>h)
theorem ay.bound: ∀{d:Nat} {a:Nat} {x:ND} {F:Nat->Nat->Prop},ay w d a x F->ay w d a x (fun b o=>F b o/\b<w.heap.size)
 |0,_,_,_F,⟨h0,vp,vk,aA,H,h1,h2,h3,h4,h5,_h6,h7⟩=>
  ⟨h0,vp,vk,aA,fun i b o=>H i b o/\b<w.heap.size,h1,fun o=>⟨h2 o,oS h1⟩,h3.bound,h4.bound,h5,fun _ _ _ _ _=>trivial,fun i b o ⟨q1,q2⟩=>⟨h7.1 i b o q1,q2⟩,fun i j b o q1 q2=>h7.2 i j b o q1.1 q2.1⟩
 |_+1,_,_,_F,⟨vp,vk,aA,H,h1,h2,h3,h4,h5,h6,h7⟩=>
  ⟨vp,vk,aA,fun i b o=>H i b o/\b<w.heap.size,h1,fun o=>⟨h2 o,oS h1⟩,h3.bound,h4.bound,h5,fun i p k hp hk=>(h6 i p k hp hk).bound,fun i b o ⟨q1,q2⟩=>⟨h7.1 i b o q1,q2⟩,fun i j b o q1 q2=>h7.2 i j b o q1.1 q2.1⟩
end
theorem az.pair{w:World}{v:Value}{ps:List Pr}{F:Nat->Nat->Prop}(h:az 2 210 w v (ps.map ax) F){i:Nat}{p:Pr}(hp:ps[i]?=some p):
  ∃b o c,v=.slice (some ⟨b,o,none⟩) ps.length c/\ps.length<=c/\c<=maxLen/\w.cell? ⟨b,o+i*2,none⟩=some (.string ⟨p.1.toArray⟩)/\w.cell? ⟨b,o+i*2+1,none⟩=some (.string ⟨p.2.toArray⟩)/\w.frozen? ⟨b,o+i*2,none⟩=false/\w.frozen? ⟨b,o+i*2+1,none⟩=false:=by
 have hi:=(b8.1 hp).1;obtain⟨b,o,c,cs,rfl,q2,q3,q4,q6,q7,q8,q9⟩:=h.lies (by simp;omega);have hx:(ps.map ax)[i]?=some (ax p):=by simp[hp]
 have e0:=tD q4 i _ hx 0 _ rfl;have e1:=tD q4 i _ hx 1 _ rfl;refine⟨b,o,c,by simp,by simpa using q2,q3,oT q6 (q9 _ _ e0),?_,frozen_of_heap q6 _,frozen_of_heap q6 _⟩;have:=oT q6 (q9 _ _ e1);rwa[show o+(i*2+1)=o+i*2+1 by omega]at this
theorem az.ptr{w:World}{v:Value}{ps:List Nat}{F:Nat->Nat->Prop}(h:az 1 197 w v (ps.map aL) F){i p:Nat}(hp:ps[i]?=some p):
  ∃b o c,v=.slice (some ⟨b,o,none⟩) ps.length c/\ps.length<=c/\c<=maxLen/\w.cell? ⟨b,o+i,none⟩=some (.pointer (some ⟨p,0,none⟩)):=by
 have hi:=(b8.1 hp).1;obtain⟨b,o,c,cs,rfl,q2,q3,q4,q6,q7,q8,q9⟩:=h.lies (by simp;omega);have hx:(ps.map aL)[i]?=some (aL p):=by simp[hp]
 have e0:=tD q4 i _ hx 0 _ rfl;refine⟨b,o,c,by simp,by simpa using q2,q3,?_⟩;have:=oT q6 (q9 _ _ e0);rwa[show o+(i*1+0)=o+i by omega]at this
theorem az.slice{k:Nat}{t:TypeId}{w:World}{v:Value}{xs:List (List Value)}{F:Nat->Nat->Prop}(h:az k t w v xs F): ∃A c,v=.slice A xs.length c/\xs.length<=c/\c<=maxLen:=by obtain⟨A,c,h1,h2,h3,_⟩:=h;exact⟨A,c,h1,h2,h3⟩
def geq(key:List UInt8)(ps:List Pr)(i:Nat):Bool:=match ps[i]? with
 |some p=>!decide (p.1<key)
 |none=>true
theorem Rh{key:List UInt8}{ps:List Pr}{i:Nat}(hi:i<posOf key ps):geq key ps i=false:=by unfold geq;have hl:=dZ key ps;have hp:ps[i]?=some (ps[i]'(by omega)):=ao _;rw[hp];have:=eF key ps (ps[i]'(by omega)) (List.mem_take_iff_getElem.2 ⟨i,by omega,rfl⟩);simp[this]
theorem Ri{key:List UInt8}{ps:List Pr}(hu:Up ps){i:Nat}(hi:posOf key ps<=i):geq key ps i=true:=by
 unfold geq;split
 ·rename_i p hp;have hlt:=(b8.1 hp).1;have h0:ps[posOf key ps]?=some (ps[posOf key ps]'(by omega)):=ao _;have hd:=lX key ps _ h0;by_cases e:posOf key ps=i
  ·have:ps[posOf key ps]'(by omega)=p:=by
    have:=hp;rw[<-e,h0]at this;injection this
   rw[this]at hd;simp[hd]
  ·have:=(List.pairwise_iff_getElem.1 hu) (posOf key ps) i (by omega) hlt (by omega);have hp':ps[i]'hlt=p:=(b8.1 hp).2;rw[hp']at this;have: ¬p.1<key:=fun h=>hd (dY this h);simp[this]
 ·rfl
def N8(w:World)(f:Value)(key:List UInt8)(ps:List Pr):Prop:=
 ∃(B C:Nat),f=.func (.func 165) #[] #[.pointer (some ⟨B,0,none⟩),.pointer (some ⟨C,0,none⟩)]/\
  ∀(i:Nat) (n:Nat),i<ps.length->Calls Tryz.prog 165 #[.int .i64 i,.pointer (some ⟨B,0,none⟩),.pointer (some ⟨C,0,none⟩)] (w.drewN n) fun e w'=>e=.returned (.bool (geq key ps i))/\ ∃m,w'=w.drewN m
theorem half(i j:Nat)(h:i<j):i<=(i+j)/2/\(i+j)/2<j:=by omega
theorem Hm(w:World)(f:Value)(key:List UInt8)(ps:List Pr)(hu:Up ps)(hlen:ps.length<=1000)(hf:N8 w f key ps):
  Calls Tryz.prog 164 #[.int .i64 ps.length,f] w fun e w'=>e=.returned (.int .i64 (posOf key ps))/\ ∃n,w'=w.drewN n:=by
 obtain⟨B,C,rfl,hf⟩:=hf;have HF:=al (ab hf (ab hu (dZ key ps)));clear hf hu;go_enter Tryz.func164,Tryz.ntmps164;go_wp2_with fail
 go_loopw [5,6] (fun i j wr=> ∃a b n:Nat,i=.int .i64 (a:Int)/\j=.int .i64 (b:Int)/\wr=w.drewN n/\a<=posOf key ps/\posOf key ps<=b/\b<=ps.length) (fun i j _=>(intOf j).toNat-(intOf i).toNat)
 case atStart=>exact⟨0,ps.length,0,rfl,rfl,rfl,dj _,HF.out.2.2,aq _⟩
 case round=>
  obtain⟨a,b,n,rfl,rfl,rfl,r1,r2,r3⟩:=hrel;have HR:=al (ab r1 r2);clear r1 r2;by_cases hlt:a<b
  ·have hh:=half a b hlt;obtain⟨m,hm⟩: ∃m,m=(a+b)/2:=⟨_,rfl⟩;have HM:=al hm;rw[<-hm]at hh;clear hm;have hE:((a:Int)+(b:Int))/2=(m:Int):=by have:=HM.out;omega
   have HE:=al hE;clear hE;go_wp2_with fail;rw[HE.out];by_cases hg:m<posOf key ps
   ·have h2:=HF.out.1 m n (by omega);rw[Rh hg]at h2;refine h2.mono ?_;rintro e w2 ⟨rfl,q,rfl⟩;clear h2;go_wp2_with fail;go_roundw
    case rel=>exact⟨m+1,b,q,by go_num,rfl,rfl,hg,HR.out.2,r3⟩
    case measure=>simp[intOf];omega
   ·have h2:=HF.out.1 m n (by omega);rw[Ri HF.out.2.1 (Nat.le_of_not_lt hg)]at h2;refine h2.mono ?_;rintro e w2 ⟨rfl,q,rfl⟩;clear h2;go_wp2_with fail;go_roundw
    case rel=>exact⟨a,m,q,rfl,rfl,rfl,HR.out.1,Nat.le_of_not_lt hg,by omega⟩
    case measure=>simp[intOf];omega
  ·go_wp2_with fail;go_ret
   have:=HR.out;obtain rfl:a=posOf key ps:=by omega
   exact⟨rfl,_,rfl⟩
theorem Ki(w:World)(F:Nat->Nat->Prop)(a B C:Nat)(x:ND)(key:List UInt8)(i:Nat)(h:gT w (fun _ _ _=>True) a x F)(hB:w.cell? ⟨B,0,none⟩=some (.pointer (some ⟨a,0,none⟩)))(hC:w.cell? ⟨C,0,none⟩=some (.string ⟨key.toArray⟩))(hi:i<x.ps.length):
  Calls Tryz.prog 165 #[.int .i64 i,.pointer (some ⟨B,0,none⟩),.pointer (some ⟨C,0,none⟩)] w fun e w'=>e=.returned (.bool (geq key x.ps i))/\ ∃m,w'=w.drewN m:=by
 obtain⟨vp,vk,aA,H,h1,_,h3,_⟩:=h;obtain⟨p,hp⟩: ∃p,x.ps[i]?=some p:=⟨_,ao hi⟩;obtain⟨b,o,c,rfl,q1,q2,k0,_⟩:=h3.pair hp;have c0:w.cell? ⟨a,0,none⟩=some (.slice (some ⟨b,o,none⟩) x.ps.length c):=by simp[World.cell?,h1]
 have HG:=al (show geq key x.ps i=!decide (p.1<key) by unfold geq;rw[hp]);have i1:(0:Int)<=(i:Int):=by omega
 have i2:(i:Int)<(x.ps.length:Int):=by omega
 clear h1 h3 hp;go_enter Tryz.func165,Tryz.ntmps165;go_wp2_with fail;go_quiet(fail);go_wp2_with fail;go_ret
 exact⟨by rw[HG.out,<-bytesLess_eq];rfl,_,rfl⟩
theorem aG{B:Nat}{w w':World}(h:Below B w w')(n:Nat):Below B w (w'.drewN n):=⟨h.os,h.tape,h.output,h.size,h.block⟩
theorem Hn(w:World)(o1 o2:Obj):Below w.heap.size w ((w.alloc o1).alloc o2):=((aw _ _).alloc (aq _) _).alloc (by simp) _
theorem find_ok(w:World)(F:Nat->Nat->Prop)(a:Nat)(x:ND)(key:List UInt8)(h:gT w (fun _ _ _=>True) a x F)(hu:Up x.ps)(hlen:x.ps.length<=1000):
  Calls Tryz.prog 136 #[.pointer (some ⟨a,0,none⟩),.string ⟨key.toArray⟩] w fun e w'=>e=.returned (.tuple #[.int .i64 (posOf key x.ps),.bool (hit key x.ps)])/\Below w.heap.size w w':=by
 have hbb:=Hn w (.cells #[.pointer (some ⟨a,0,none⟩)] 197) (.cells #[.string ⟨key.toArray⟩] 9);have k1:=Lib.cell?_alloc_some (.cells #[.string ⟨key.toArray⟩] 9) (bO (an w (.cells #[.pointer (some ⟨a,0,none⟩)] 197)));have k2:=bO (an (w.alloc (.cells #[.pointer (some ⟨a,0,none⟩)] 197)) (.cells #[.string ⟨key.toArray⟩] 9));rw[show(w.alloc (.cells #[.pointer (some ⟨a,0,none⟩)] 197)).heap.size=w.heap.size+1 by simp]at k2;go_enter Tryz.func136,Tryz.ntmps136;go_upto_region 1 with fail;generalize (w.alloc (.cells #[.pointer (some ⟨a,0,none⟩)] 197)).alloc (.cells #[.string ⟨key.toArray⟩] 9)=w2 at k1 k2 hbb⊢;have h2:=h.only (sub':=fun _ _ _=>True) (qn hbb) (fun _ _ _ h=>h) (fun _ _ _ _ _=>trivial);obtain⟨B,hB⟩: ∃x,w.heap.size=x:=⟨_,rfl⟩;rw[hB]at k1 k2⊢;have Xr:=al hbb;have HN:=al (ab h2 (ab hu (dZ key x.ps)));have HS:=al (Hm w2 (.func (.func 165) #[] #[.pointer (some ⟨B,0,none⟩),.pointer (some ⟨B+1,0,none⟩)]) key x.ps hu hlen ⟨B,B+1,rfl,fun i n hi=>(Ki (w2.drewN n) F a B (B+1) x key i h2 k1 k2 hi).mono (fun e w' ⟨r1,m,r2⟩=>⟨r1,n+m,by rw[r2,World.drewN_drewN]⟩)⟩);obtain⟨vp,vk,aA,H,h1,_,h3,_⟩:=h2;obtain⟨A,c,rfl,q1,q2⟩:=h3.slice;have c0:w2.cell? ⟨a,0,none⟩=some (.slice A x.ps.length c):=by simp[World.cell?,h1]
 have H3:=al h3;clear h hu hbb hB h1 h3 q1 q2;go_wp2_with fail;refine HS.out.mono ?_;rintro e w3 ⟨rfl,n,rfl⟩;clear HS;by_cases hlt:posOf key x.ps<x.ps.length
 ·obtain⟨p,hp⟩: ∃p,x.ps[posOf key x.ps]?=some p:=⟨_,ao hlt⟩;obtain⟨b,o,c',e1,_,_,k3,_⟩:=H3.out.pair hp;injection e1 with e1 e2 e3;subst e1 e3;have HH:=al (show hit key x.ps=decide (p.1=key) by unfold hit;rw[hp]);have hd:decide (posOf key x.ps<x.ps.length)=true:=by simpa using hlt
  have i1:(0:Int)<=(posOf key x.ps:Int):=by omega
  have i2:(posOf key x.ps:Int)<(x.ps.length:Int):=by omega
  generalize Uk:posOf key x.ps=P at *;have HP:=al Uk;clear hp Uk;go_wp2_with fail;go_quiet(fail);go_wp2_with fail
  go_ret2
  exact⟨by rw[HP.out,HH.out,<-Bool.beq_eq_decide_eq];rfl,aG (aG Xr.out _) _⟩
 ·have hd:decide (posOf key x.ps<x.ps.length)=false:=by simpa using hlt
  have HH:=al (show hit key x.ps=false by unfold hit;rw[List.getElem?_eq_none (by omega)]);generalize Uk:posOf key x.ps=P at *;have HP:=al Uk;clear Uk;go_wp2_with fail;go_quiet(fail);go_wp2_with fail
  go_ret2
  exact⟨by rw[HP.out,HH.out];rfl,aG (aG Xr.out _) _⟩
theorem DB{_k:Nat}{xs:List (List Value)}(i j:Nat)(u:Value)(h:(xs.take i).flatten[j]?=some u):xs.flatten[j]?=some u:=by
 have:xs.flatten=(xs.take i).flatten++(xs.drop i).flatten:=by rw[<-lF,List.take_append_drop]
 rw[this,lr (List.getElem?_eq_some_iff.1 h).1];exact h
theorem DC{k:Nat}{xs:List (List Value)}(hk: ∀x∈xs,x.length=k){i:Nat}(hi:i<=xs.length)(j:Nat)(u:Value)(h:(xs.drop i).flatten[j]?=some u):xs.flatten[i*k+j]?=some u:=by
 have hf:xs.flatten=(xs.take i).flatten++(xs.drop i).flatten:=by rw[<-lF,List.take_append_drop]
 have hl:(xs.take i).flatten.length=i*k:=by rw[bA (fun x hx=>hk x (List.mem_of_mem_take hx)),ke,nf hi]
 rw[hf,kd (by omega),hl,Nat.add_sub_cancel_left];exact h
theorem az.parts{k:Nat}{t:TypeId}{w:World}{v:Value}{xs:List (List Value)}{F:Nat->Nat->Prop}(h:az k t w v xs F)(h0:0<xs.length): ∃b o c,v=.slice (some ⟨b,o,none⟩) xs.length c/\xs.length<=c/\c<=maxLen/\
  (∀i,i<=xs.length->az k t w (.slice (some ⟨b,o,none⟩) i i) (xs.take i) (fun b' q=>F b' q/\b'=b/\q<o+i*k))/\
  (∀j,j<=xs.length->az k t w (.slice (some ⟨b,o+j*k,none⟩) (xs.length-j) (xs.length-j)) (xs.drop j) (fun b' q=>F b' q/\b'=b/\o+j*k<=q)):=by
 obtain⟨b,o,c,cs,rfl,q2,q3,q4,q6,q7,q8,q9⟩:=h.lies h0;have hmul:xs.length*k<=c*k:=eb k q2;refine⟨b,o,c,rfl,q2,q3,fun i hi=>?_,fun j hj=>?_⟩
 ·have hik:i*k<=xs.length*k:=eb k hi;refine⟨_,i,by simp[nf hi],by simp;omega,by omega,fun x hx=>q4 x (List.mem_of_mem_take hx),.inr ⟨b,o,cs,rfl,q6,by omega,fun q h1 h2=>⟨q8 q h1 (by omega),rfl,h2⟩,fun q u hu=>q9 q u (DB (_k:=k) i q u hu)⟩⟩
 ·have hjk:j*k+(xs.length-j)*k=xs.length*k:=by rw[<-Nat.add_mul];congr 1;omega
  refine⟨_,xs.length-j,by simp,by simp,by omega,fun x hx=>q4 x (List.mem_of_mem_drop hx),.inr ⟨b,o+j*k,cs,rfl,q6,by omega,fun q h1 h2=>⟨q8 q (by omega) (by omega),rfl,h1⟩,fun q u hu=>?_⟩⟩;have:=q9 _ u (DC q4 hj q u hu);rw[show o+(j*k+q)=o+j*k+q by omega]at this;exact this
def aS(w:World)(sub:Nat->ND->(Nat->Nat->Prop)->Prop)(a:Nat)(x:ND)(F:Nat->Nat->Prop)(vp vk:Value)(aA:List Nat)(H:Nat->Nat->Nat->Prop):Prop:=
 w.heap[a]?=some (.cells #[vp,vk] 201 (0,0))/\(∀o,H 0 a o)/\az 2 210 w vp (x.ps.map ax) (H 1)/\az 1 197 w vk (aA.map aL) (H 2)/\
  aA.length=x.ks.length/\(∀i p k,aA[i]?=some p->x.ks[i]?=some k->sub p k (H (i+3)))/\rP H F
def bL(w:World):Nat->Nat->ND->(Nat->Nat->Prop)->Prop
 |0=>fun _ _ _=>True
 |d+1=>ay w d
theorem aS.trim{w:World}{sub:Nat->ND->(Nat->Nat->Prop)->Prop}{a:Nat}{x:ND}{F:Nat->Nat->Prop}{vp vk:Value}{aA:List Nat}{H:Nat->Nat->Nat->Prop}(h:aS w sub a x F vp vk aA H)(hm: ∀p k K K',(∀b q,K b q->K' b q)->sub p k K->sub p k K'):
  aS w sub a x F vp vk aA (fun i b q=>H i b q/\i<x.ks.length+3):=by
 obtain⟨g1,g2,g3,g4,g5,g6,g7⟩:=h;refine⟨g1,fun q=>⟨g2 q,by omega⟩,g3.mono (fun b q hh=>⟨hh,by omega⟩),g4.mono (fun b q hh=>⟨hh,by omega⟩),g5,fun i p k hp hk=>hm p k _ _ (fun b q hh=>⟨hh,?_⟩) (g6 i p k hp hk),fun i b q hh=>g7.1 i b q hh.1,fun i j b q h1 h2=>g7.2 i j b q h1.1 h2.1⟩;have:=(b8.1 hk).1;omega
theorem ay.open_{w:World}{d a:Nat}{x:ND}{F:Nat->Nat->Prop}(h:ay w d a x F):(d=0->x.ks=[])/\ ∃vp vk aA H,aS w (bL w d) a x F vp vk aA H/\ ∀i b q,H i b q->i<x.ks.length+3:=by
 cases d with
 |zero=>obtain⟨h0,vp,vk,aA,H,hO⟩:=h;exact⟨fun _=>h0,vp,vk,aA,_,aS.trim hO (fun _ _ _ _ _ h=>h),fun i b q hh=>hh.2⟩
 |succ d=>obtain⟨vp,vk,aA,H,hO⟩:=h;exact⟨fun e=>absurd e (by omega),vp,vk,aA,_,aS.trim hO (fun _ _ _ _ hK h=>ay.mono h hK),fun i b q hh=>hh.2⟩
theorem aS.close{w:World}{d a:Nat}{x:ND}{F:Nat->Nat->Prop}{vp vk:Value}{aA:List Nat}{H:Nat->Nat->Nat->Prop}(h:aS w (bL w d) a x F vp vk aA H)(h0:d=0->x.ks=[]):ay w d a x F:=by
 cases d with
 |zero=>exact⟨h0 rfl,_,_,_,_,h⟩
 |succ d=>exact⟨_,_,_,_,h⟩
theorem bL.only{w w':World}{G:Nat->Nat->Prop}(ho:OnlyC G w w'){d p:Nat}{k:ND}{K:Nat->Nat->Prop}(h:bL w d p k K)(hd: ∀b o,K b o-> ¬G b o):bL w' d p k K:=by
 cases d with
 |zero=>trivial
 |succ d=>exact ay.only ho h hd
theorem bL.mono{w:World}{d p:Nat}{k:ND}{K K':Nat->Nat->Prop}(h:bL w d p k K)(hd: ∀b o,K b o->K' b o):bL w d p k K':=by
 cases d with
 |zero=>trivial
 |succ d=>exact ay.mono h hd
def N9(H:Nat->Nat->Nat->Prop)(P0 P1 P2:Nat->Nat->Prop)(lo n dl:Nat)(M:Nat->Nat->Nat->Prop):Nat->Nat->Nat->Prop
 |0=>P0
 |1=>P1
 |2=>P2
 |j+3=>fun b q=>(j<lo/\H (j+3) b q)\/(lo<=j/\j<lo+n/\M (j-lo) b q)\/(lo+n<=j/\H (j-n+dl+3) b q)
def Kj(P0 P1 P2:Nat->Nat->Prop)(M:Nat->Nat->Nat->Prop):Nat->Nat->Nat->Prop
 |0=>P0
 |1=>P1
 |2=>P2
 |m+3=>M m
theorem FU{H M:Nat->Nat->Nat->Prop}{F P0 P1 P2:Nat->Nat->Prop}{lo n dl:Nat}(_hF: ∀i b o,H i b o->F b o)(h0: ∀b q,P0 b q->H 0 b q\/ ¬F b q)(h1: ∀b q,P1 b q->H 1 b q\/ ¬F b q)(h2: ∀b q,P2 b q->H 2 b q\/ ¬F b q)
  (hM: ∀m b q,M m b q->(∃i,lo<=i/\i<lo+dl/\H (i+3) b q)\/ ¬F b q) {j b q:Nat} (hf:F b q) (h:N9 H P0 P1 P2 lo n dl M j b q):
  ∃m,H m b q/\((j<3/\m=j)\/(3<=j/\j<lo+3/\m=j)\/(lo+n+3<=j/\m+n=j+dl)\/(∃k,k<n/\j=lo+k+3/\M k b q/\lo+3<=m/\m<lo+dl+3)):=by
 match j,h with
 |0,h=>exact⟨0,(h0 b q h).elim id (fun e=>absurd hf e),.inl ⟨by omega,rfl⟩⟩
 |1,h=>exact⟨1,(h1 b q h).elim id (fun e=>absurd hf e),.inl ⟨by omega,rfl⟩⟩
 |2,h=>exact⟨2,(h2 b q h).elim id (fun e=>absurd hf e),.inl ⟨by omega,rfl⟩⟩
 |j+3,h=>
  rcases h with⟨a1,a2⟩|⟨a1,a2,a3⟩|⟨a1,a2⟩
  ·exact⟨_,a2,.inr (.inl ⟨by omega,by omega,rfl⟩)⟩
  ·rcases hM _ b q a3 with⟨i,e1,e2,e3⟩|e
   ·exact⟨_,e3,.inr (.inr (.inr ⟨j-lo,by omega,by omega,a3,by omega,by omega⟩))⟩
   ·exact absurd hf e
  ·exact⟨_,a2,.inr (.inr (.inl ⟨by omega,by omega⟩))⟩
theorem FV{H M:Nat->Nat->Nat->Prop}{F P0 P1 P2:Nat->Nat->Prop}{lo n dl:Nat}(hF: ∀i b o,H i b o->F b o){j b q:Nat}(hf: ¬F b q)(h:N9 H P0 P1 P2 lo n dl M j b q):
  ∃m,Kj P0 P1 P2 M m b q/\((j<3/\m=j)\/(3<=m/\m<n+3/\j=lo+m)):=by
 match j,h with
 |0,h=>exact⟨0,h,.inl ⟨by omega,rfl⟩⟩
 |1,h=>exact⟨1,h,.inl ⟨by omega,rfl⟩⟩
 |2,h=>exact⟨2,h,.inl ⟨by omega,rfl⟩⟩
 |j+3,h=>
  rcases h with⟨a1,a2⟩|⟨a1,a2,a3⟩|⟨a1,a2⟩
  ·exact absurd (hF _ b q a2) hf
  ·exact⟨j-lo+3,a3,.inr ⟨by omega,by omega,by omega⟩⟩
  ·exact absurd (hF _ b q a2) hf
theorem rP.N9{H M:Nat->Nat->Nat->Prop}{F P0 P1 P2:Nat->Nat->Prop}{lo n dl:Nat}(h:rP H F)(h0: ∀b q,P0 b q->H 0 b q\/ ¬F b q)(h1: ∀b q,P1 b q->H 1 b q\/ ¬F b q)(h2: ∀b q,P2 b q->H 2 b q\/ ¬F b q)
  (hM: ∀m b q,M m b q->(∃i,lo<=i/\i<lo+dl/\H (i+3) b q)\/ ¬F b q) (Oa: ∀m m' b q,M m b q->M m' b q->m=m') (hx: ∀m m' b q,¬F b q->Kj P0 P1 P2 M m b q->Kj P0 P1 P2 M m' b q->m=m'):
  rP (N9 H P0 P1 P2 lo n dl M) (fun b q=> ∃j,N9 H P0 P1 P2 lo n dl M j b q):=by
 refine⟨fun j b q hh=>⟨j,hh⟩,fun j j' b q a a'=>?_⟩;by_cases hf:F b q
 ·obtain⟨m,b1,b2⟩:=FU h.1 h0 h1 h2 hM hf a;obtain⟨m',c1,c2⟩:=FU h.1 h0 h1 h2 hM hf a';have e:=h.2 m m' b q b1 c1;subst e
  rcases b2 with b2|b2|b2|⟨k,k1,k2,k3,k4,k5⟩<;>rcases c2 with c2|c2|c2|⟨k',l1,l2,l3,l4,l5⟩<;>first
   |omega
   |(have:=Oa k k' b q k3 l3;omega)
 ·obtain⟨m,b1,b2⟩:=FV h.1 hf a;obtain⟨m',c1,c2⟩:=FV h.1 hf a';have:=hx m m' b q hf b1 c1;omega
theorem xI{α:Type}{l:List α}{mid:List α}{lo hi:Nat}(Ul:lo<=hi)(hh:hi<=l.length)(j:Nat):
  (l.take lo++mid++l.drop hi)[j]?=if j<lo then l[j]? else if j<lo+mid.length then mid[j-lo]? else l[j-mid.length+(hi-lo)]?:=by
 rw[lk,List.getElem?_append,ke,nf (by omega)];by_cases c:j<lo
 ·rw[fi c,fi c,lz,fi c]
 ·rw[ff c,ff c,List.getElem?_append];by_cases c2:j<lo+mid.length
  ·rw[fi c2,fi (by omega)]
  ·rw[ff c2,ff (by omega),lE];congr 1;omega
theorem aS.splice{w w':World}{d a a':Nat}{x:ND}{F P0 P1 P2:Nat->Nat->Prop}{vp vk vp' vk':Value}{aA:List Nat}{H M:Nat->Nat->Nat->Prop}{ps':List Pr}(h:aS w (bL w d) a x F vp vk aA H)
  (lo hi:Nat) (Ul:lo<=hi) (hh:hi<=x.ks.length) (mid:List (Nat×ND))
  (ha:w'.heap[a']?=some (.cells #[vp',vk'] 201 (0,0))) (hP0: ∀q,P0 a' q) (s1:az 2 210 w' vp' (ps'.map ax) P1) (s2:az 1 197 w' vk' ((aA.take lo++mid.map Prod.fst++aA.drop hi).map aL) P2)
  (hmid: ∀m p k,mid[m]?=some (p,k)->bL w' d p k (M m)) (keep: ∀i p k,(i<lo\/hi<=i)->aA[i]?=some p->x.ks[i]?=some k->bL w' d p k (H (i+3)))
  (h0: ∀b q,P0 b q->H 0 b q\/ ¬F b q) (h1: ∀b q,P1 b q->H 1 b q\/ ¬F b q) (h2: ∀b q,P2 b q->H 2 b q\/ ¬F b q)
  (hM: ∀m b q,M m b q->(∃i,lo<=i/\i<hi/\H (i+3) b q)\/ ¬F b q) (Oa: ∀m m' b q,M m b q->M m' b q->m=m') (hx: ∀m m' b q,¬F b q->Kj P0 P1 P2 M m b q->Kj P0 P1 P2 M m' b q->m=m'):
  aS w' (bL w' d) a' (.mk ps' (x.ks.take lo++mid.map Prod.snd++x.ks.drop hi)) (fun b q=> ∃j,N9 H P0 P1 P2 lo mid.length (hi-lo) M j b q) vp' vk' (aA.take lo++mid.map Prod.fst++aA.drop hi) (N9 H P0 P1 P2 lo mid.length (hi-lo) M):=by
 obtain⟨g1,g2,g3,g4,g5,g6,g7⟩:=h;refine⟨ha,hP0,s1,s2,?_,?_,g7.N9 h0 h1 h2 (fun m b q hm=>?_) Oa hx⟩
 ·simp[g5]
 ·intro i p k hp hk;simp only[ND.cM]at hk;rw[xI Ul hh]at hk;rw[xI Ul (by omega)]at hp;simp only[fb]at hp hk;by_cases c:i<lo
  ·rw[fi c]at hp hk;exact(keep i p k (.inl c) hp hk).mono (fun b q hq=>.inl ⟨c,hq⟩)
  ·rw[ff c]at hp hk;by_cases c2:i<lo+mid.length
   ·rw[fi c2,oe]at hp hk
    cases hm:mid[i-lo]? with
    |none=>rw[hm]at hp;cases hp
    |some pk=>rw[hm]at hp hk;simp only[Option.map_some,fj]at hp hk;obtain⟨p0,k0⟩:=pk;simp only at hp hk;subst hp hk;exact(hmid _ _ _ hm).mono (fun b q hq=>.inr (.inl ⟨by omega,c2,hq⟩))
   ·rw[ff c2]at hp hk;exact(keep _ p k (.inr (by omega)) hp hk).mono (fun b q hq=>.inr (.inr ⟨by omega,hq⟩))
 ·rcases hM m b q hm with⟨i,e1,e2,e3⟩|e
  ·exact .inl ⟨i,e1,by omega,e3⟩
  ·exact .inr e
theorem fF{H M:Nat->Nat->Nat->Prop}{P0 P1 P2:Nat->Nat->Prop}{lo n dl j b q:Nat}(h:N9 H P0 P1 P2 lo n dl M j b q):
  P0 b q\/P1 b q\/P2 b q\/(∃i,(i<lo\/lo+dl<=i)/\H (i+3) b q)\/ ∃m,m<n/\M m b q:=by
 match j,h with
 |0,h=>exact .inl h
 |1,h=>exact .inr (.inl h)
 |2,h=>exact .inr (.inr (.inl h))
 |j+3,h=>
  rcases h with⟨a1,a2⟩|⟨a1,a2,a3⟩|⟨a1,a2⟩
  ·exact .inr (.inr (.inr (.inl ⟨j,.inl a1,a2⟩)))
  ·exact .inr (.inr (.inr (.inr ⟨j-lo,by omega,a3⟩)))
  ·exact .inr (.inr (.inr (.inl ⟨j-n+dl,.inr (by omega),a2⟩)))
section
variable{w w':World}{F:Nat->Nat->Prop}{a:Nat}{x:ND}{S:Nat->Prop}
theorem gT.eO{sub sub':Nat->ND->(Nat->Nat->Prop)->Prop}(h:gT w sub a x F)(ho:Only S w w')(hd: ∀b o,F b o-> ¬S b)(hs: ∀p k K,(∀b o,K b o-> ¬S b)->sub p k K->sub' p k K):gT w' sub' a x F:=by obtain⟨vp,vk,aA,H,h1,h2,h3,h4,h5,h6,h7⟩:=h;have hH: ∀i b o,H i b o-> ¬S b:=fun i b o hh=>hd b o (h7.1 i b o hh);exact⟨vp,vk,aA,H,ho.heap h1 (hH 0 a 0 (h2 0)),h2,h3.eO (by decide) ho (hH 1),h4.eO (by decide) ho (hH 2),h5,fun i p k hp hk=>hs p k _ (hH _) (h6 i p k hp hk),h7⟩
theorem ay.eO(ho:Only S w w'): ∀{d:Nat} {a:Nat} {x:ND} {F:Nat->Nat->Prop},ay w d a x F->(∀b o,F b o-> ¬S b)->ay w' d a x F
 |0,_,_,_,h,hd=>⟨h.1,gT.eO h.2 ho hd (fun _ _ _ _ h=>h)⟩
 |_+1,_,_,_,h,hd=>gT.eO h ho hd (fun _p _k _K hK hs=>ay.eO ho hs hK)
end
def bC(w:World)(T o:Nat)(l:List Pr)(F:Nat->Nat->Prop):Prop:=
 ∃(d r:Nat) (x:ND) (K:Nat->Nat->Prop),w.heap[T]?=some (.cells #[.int .i64 o,.int .i64 l.length,.pointer (some ⟨r,0,none⟩)] 203 (0,0))/\ay w d r x K/\
  eX d o (if d=0 then 0 else 1) (2*o-1) x/\ba d x=l/\Up l/\(2<=o/\o<=16)/\(∀b q,K b q->F b q)/\(∀q,F T q)/\ ∀q,¬K T q
section
variable{w w':World}{T o:Nat}{l:List Pr}{F G:Nat->Nat->Prop}{S:Nat->Prop}
theorem bC.eO(h:bC w T o l F)(ho:Only S w w')(hd: ∀b q,F b q-> ¬S b):bC w' T o l F:=by obtain⟨d,r,x,K,h1,h2,h3,h4,h5,h6,h7,h8,h9⟩:=h;exact⟨d,r,x,K,ho.heap h1 (hd T 0 (h8 0)),h2.eO ho (fun b q hk=>hd b q (h7 b q hk)),h3,h4,h5,h6,h7,h8,h9⟩
theorem bC.below(h:bC w T o l F)(hb:Below w.heap.size w w'):bC w' T o l F:=h.eO (qe hb) (fun _ _ _ h=>h)
theorem bC.only(h:bC w T o l F)(ho:OnlyC G w w')(hd: ∀b q,F b q-> ¬G b q):bC w' T o l F:=by obtain⟨d,r,x,K,h1,h2,h3,h4,h5,h6,h7,h8,h9⟩:=h;exact⟨d,r,x,K,ho.heap h1 (fun q=>hd T q (h8 q)),h2.only ho (fun b q hk=>hd b q (h7 b q hk)),h3,h4,h5,h6,h7,h8,h9⟩
theorem bC.bound(h:bC w T o l F):bC w T o l (fun b q=>F b q/\b<w.heap.size):=by obtain⟨d,r,x,K,h1,h2,h3,h4,h5,h6,h7,h8,h9⟩:=h;exact⟨d,r,x,_,h1,h2.bound,h3,h4,h5,h6,fun b q hk=>⟨h7 b q hk.1,hk.2⟩,fun q=>⟨h8 q,oS h1⟩,fun q hk=>h9 q hk.1⟩
end
theorem Bz: ∀(ks:List (List Pr)) (ps:List Pr),ks.length=ps.length+1->ps.Sublist (flat ks ps)
 |k::ks,[],_=>List.nil_sublist _
 |k::ks,p::ps,h=>by have ih:=Bz ks ps (by simpa using h);simp only[flat];exact(ih.cons_cons p).trans (List.sublist_append_right _ _)
 |[],ps,h=>by simp at h
theorem Rj{d o lo hi:Nat}{x:ND}(h:eX d o lo hi x):x.ps.Sublist (ba d x):=by
 cases d with
 |zero=>exact List.Sublist.refl _
 |succ d=>exact Bz _ _ (by rw[fb];exact h.2.2.1)
theorem tU{d o lo hi:Nat}{x:ND}(h:eX d o lo hi x)(hu:Up (ba d x)):Up x.ps:=List.Pairwise.sublist (Rj h) hu
theorem eX.kids{d o lo hi:Nat}{x:ND}(h:eX (d+1) o lo hi x):x.ks.length=x.ps.length+1:=h.2.2.1
theorem eX.none{o lo hi:Nat}{x:ND}(h:eX 0 o lo hi x):x.ks=[]:=h.2.2
theorem aS.own{w:World}{sub:Nat->ND->(Nat->Nat->Prop)->Prop}{a:Nat}{x:ND}{F:Nat->Nat->Prop}{vp vk:Value}{aA:List Nat}{H:Nat->Nat->Nat->Prop}(h:aS w sub a x F vp vk aA H):
  (∀i b q,H i b q->F b q)/\(∀i j b q,i≠j->H i b q-> ¬H j b q)/\ ∀i b q,i≠0->H i b q->b≠a:=by
 obtain⟨_,g2,_,_,_,_,g7⟩:=h;exact⟨g7.1,fun i j b q hij h1 h2=>hij (g7.2 i j b q h1 h2),fun i b q hi hh e=>hi (g7.2 i 0 b q hh (e▸g2 q))⟩
theorem BA{α:Type}(l:List α)(o n:Nat)(h:n=l.length):l.take (min o n)=l.take o:=by
 subst h;rcases Nat.le_total o l.length with c|c
 ·rw[nf c]
 ·rw[Nat.min_eq_right c,ie,gC c]
theorem BB{α:Type}(l:List α)(o n:Nat)(h:n=l.length):l.drop (min o n)=l.drop o:=by
 subst h;rcases Nat.le_total o l.length with c|c
 ·rw[nf c]
 ·rw[Nat.min_eq_right c,List.drop_length,List.drop_eq_nil_of_le c]
theorem FW{d:Nat}{k:ND}{o:Nat}(h:d=0->k.ks=[]):ji d k o=(.mk (k.ps.take (o-1)) (k.ks.take o),k.ps[o-1]?.getD ([],[]),.mk (k.ps.drop o) (k.ks.drop o)):=by
 cases d with
 |zero=>rw[h rfl,List.take_nil,List.drop_nil];rfl
 |succ d=>rfl
def pX(L R:Nat->Nat->Prop):Nat->Nat->Nat->Prop
 |0=>L
 |1=>R
 |_+2=>fun _ _=>False
theorem aS.halves{w w':World}{d o l r:Nat}{k:ND}{K G A1 A2 B1 B2:Nat->Nat->Prop}{vp vk v1 v2 u1 u2:Value}{aA:List Nat}{H:Nat->Nat->Nat->Prop}(h:aS w (bL w d) l k K vp vk aA H)(hT: ∀i b q,H i b q->i<k.ks.length+3)(h0:d=0->k.ks=[])(hr: ∀q,¬K r q)
  (ho:OnlyC G w w') (hG: ∀b q,K b q->b≠l-> ¬G b q) (hl':w'.heap[l]?=some (.cells #[v1,v2] 201 (0,0))) (hr':w'.heap[r]?=some (.cells #[u1,u2] 201 (0,0)))
  (p1:az 2 210 w v1 ((k.ps.take (o-1)).map ax) (fun b q=>H 1 b q/\A1 b q)) (p2:az 2 210 w u1 ((k.ps.drop o).map ax) (fun b q=>H 1 b q/\B1 b q))
  (q1:az 1 197 w v2 ((aA.take o).map aL) (fun b q=>H 2 b q/\A2 b q)) (q2:az 1 197 w u2 ((aA.drop o).map aL) (fun b q=>H 2 b q/\B2 b q))
  (e1: ∀b q,A1 b q-> ¬B1 b q) (e2: ∀b q,A2 b q-> ¬B2 b q):
  ∃L R,ay w' d l (ji d k o).1 L/\ay w' d r (ji d k o).2.2 R/\(∀b q,L b q->K b q)/\(∀b q,R b q->K b q\/b=r)/\(∀b q,L b q-> ¬R b q):=by
 obtain⟨hsub,hne,hl0⟩:=h.own;have Um: ∀i b q,i≠0->H i b q-> ¬G b q:=fun i b q hi hh=>hG b q (hsub i b q hh) (hl0 i b q hi hh);have h':=h;obtain⟨g1,g2,g3,g4,g5,g6,g7⟩:=h;have keep: ∀i p y,aA[i]?=some p->k.ks[i]?=some y->bL w' d p y (H (i+3)):=fun i p y hp hy=>(g6 i p y hp hy).only ho (Um _ · · (by omega));rw[FW h0]
 have n1:=aS.splice (w':=w') (a':=l) (ps':=k.ps.take (o-1)) (vp':=v1) (vk':=v2) (P0:=H 0) (P1:=fun b q=>H 1 b q/\A1 b q) (P2:=fun b q=>H 2 b q/\A2 b q) (M:=fun _ _ _=>False) h' (min o k.ks.length) k.ks.length (Nat.min_le_right _ _) (aq _) [] hl' g2
  (p1.only ho (fun b q hh=>Um 1 b q (by decide) hh.1))
  (by
   have:aA.take (min o k.ks.length)++([]:List (Nat×ND)).map Prod.fst++aA.drop k.ks.length=aA.take o:=by rw[BA _ _ _ g5.symm,<-g5];simp
   rw[this]
   exact q1.only ho (fun b q hh=>Um 2 b q (by decide) hh.1))
  (fun m p y hm=>by simp at hm) (fun i p y _ hp hy=>keep i p y hp hy) (fun b q hh=>.inl hh) (fun b q hh=>.inl hh.1) (fun b q hh=>.inl hh.1) (fun m b q hh=>hh.elim) (fun m m' b q hh=>hh.elim)
  (fun m m' b q hf hm hm'=>absurd (show K b q from match m,hm with|0,hm=>hsub 0 b q hm|1,hm=>hsub 1 b q hm.1|2,hm=>hsub 2 b q hm.1|_+3,hm=>hm.elim) hf)
 have n2:=aS.splice (w':=w') (a':=r) (ps':=k.ps.drop o) (vp':=u1) (vk':=u2) (P0:=fun b _=>b=r) (P1:=fun b q=>H 1 b q/\B1 b q) (P2:=fun b q=>H 2 b q/\B2 b q) (M:=fun _ _ _=>False) h' 0 (min o k.ks.length) (dj _) (Nat.min_le_right _ _) [] hr' (fun _=>rfl)
  (p2.only ho (fun b q hh=>Um 1 b q (by decide) hh.1))
  (by
   have:aA.take 0++([]:List (Nat×ND)).map Prod.fst++aA.drop (min o k.ks.length)=aA.drop o:=by rw[BB _ _ _ g5.symm];simp
   rw[this]
   exact q2.only ho (fun b q hh=>Um 2 b q (by decide) hh.1))
  (fun m p y hm=>by simp at hm) (fun i p y _ hp hy=>keep i p y hp hy) (fun b q hh=>.inr (by subst hh;exact hr q)) (fun b q hh=>.inl hh.1) (fun b q hh=>.inl hh.1) (fun m b q hh=>hh.elim) (fun m m' b q hh=>hh.elim)
  (fun m m' b q hf hm hm'=>by
   have key: ∀m,Kj (fun b _=>b=r) (fun b q=>H 1 b q/\B1 b q) (fun b q=>H 2 b q/\B2 b q) (fun _ _ _=>False) m b q->m=0:=fun m hm=>match m,hm with
    |0,_=>rfl
    |1,hm=>absurd (hsub 1 b q hm.1) hf
    |2,hm=>absurd (hsub 2 b q hm.1) hf
    |_+3,hm=>hm.elim
   rw[key m hm,key m' hm'])
 have f1:k.ks.take (min o k.ks.length)++([]:List (Nat×ND)).map Prod.snd++k.ks.drop k.ks.length=k.ks.take o:=by rw[BA _ _ _ rfl];simp
 have f2:k.ks.take 0++([]:List (Nat×ND)).map Prod.snd++k.ks.drop (min o k.ks.length)=k.ks.drop o:=by rw[BB _ _ _ rfl];simp
 rw[f1]at n1;rw[f2]at n2;refine⟨_,_,n1.close (fun e=>by simp[h0 e]),n2.close (fun e=>by simp[h0 e]),?_,?_,?_⟩
 ·rintro b q ⟨j,hj⟩;rcases fF hj with c|c|c|⟨i,_,c⟩|⟨m,_,c⟩
  ·exact hsub 0 b q c
  ·exact hsub 1 b q c.1
  ·exact hsub 2 b q c.1
  ·exact hsub _ b q c
  ·exact c.elim
 ·rintro b q ⟨j,hj⟩;rcases fF hj with c|c|c|⟨i,_,c⟩|⟨m,_,c⟩
  ·exact .inr c
  ·exact .inl (hsub 1 b q c.1)
  ·exact .inl (hsub 2 b q c.1)
  ·exact .inl (hsub _ b q c)
  ·exact c.elim
 ·rintro b q ⟨j,hj⟩ ⟨j',hj'⟩;have mR:k.ks.length-min o k.ks.length+min o k.ks.length=k.ks.length:=by omega
  rcases fF hj with c|c|c|⟨i,ci,c⟩|⟨m,_,c⟩<;>rcases fF hj' with c'|c'|c'|⟨i',ci',c'⟩|⟨m',_,c'⟩
  ·exact hr q (by rw[<-c'];exact hsub 0 b q c)
  ·exact hne 0 1 b q (by decide) c c'.1
  ·exact hne 0 2 b q (by decide) c c'.1
  ·exact hne 0 _ b q (by omega) c c'
  ·exact c'.elim
  ·exact hr q (by rw[<-c'];exact hsub 1 b q c.1)
  ·exact e1 b q c.2 c'.2
  ·exact hne 1 2 b q (by decide) c.1 c'.1
  ·exact hne 1 _ b q (by omega) c.1 c'
  ·exact c'.elim
  ·exact hr q (by rw[<-c'];exact hsub 2 b q c.1)
  ·exact hne 2 1 b q (by decide) c.1 c'.1
  ·exact e2 b q c.2 c'.2
  ·exact hne 2 _ b q (by omega) c.1 c'
  ·exact c'.elim
  ·exact hr q (by rw[<-c'];exact hsub _ b q c)
  ·exact hne _ 1 b q (by omega) c c'.1
  ·exact hne _ 2 b q (by omega) c c'.1
  ·have:=g7.2 _ _ b q c c';have h1:=hT _ b q c;omega
  ·exact c'.elim
  all_goals exact c.elim
theorem nV{w wc W5 w6 W8 w9:World}{d a i l o r:Nat}{x k:ND}{F:Nat->Nat->Prop}{vp vk Qm Ob v1 v2 u1 u2 v' u':Value}{aA iI:List Nat}{H H1:Nat->Nat->Nat->Prop}{ps':List Pr}{A1 A2 B1 B2:Nat->Nat->Prop}
  (hO:aS w (ay w d) a x F vp vk aA H) (hF: ∀b q,F b q->b<w.heap.size) (hk:x.ks[i]?=some k) (hl:aA[i]?=some l)
  (hK:aS w (bL w d) l k (H (i+3)) Qm Ob iI H1) (hT: ∀i b q,H1 i b q->i<k.ks.length+3) (hd0:d=0->k.ks=[])
  (hc:OnlyC (fun b _=>b=l) w wc) (hr:w.heap.size<=r) (hrc:r<wc.heap.size) (kl:wc.heap[l]?=some (.cells #[v1,v2] 201 (0,0))) (kr:wc.heap[r]?=some (.cells #[u1,u2] 201 (0,0)))
  (p1:az 2 210 w v1 ((k.ps.take (o-1)).map ax) (fun b q=>H1 1 b q/\A1 b q)) (p2:az 2 210 w u1 ((k.ps.drop o).map ax) (fun b q=>H1 1 b q/\B1 b q))
  (q1:az 1 197 w v2 ((iI.take o).map aL) (fun b q=>H1 2 b q/\A2 b q)) (q2:az 1 197 w u2 ((iI.drop o).map aL) (fun b q=>H1 2 b q/\B2 b q))
  (e1: ∀b q,A1 b q-> ¬B1 b q) (e2: ∀b q,A2 b q-> ¬B2 b q)
  (gq:Below wc.heap.size wc W5) (h6:OnlyC (H 1) W5 w6) (s6:az 2 210 w6 v' (ps'.map ax) (fun b q=>H 1 b q\/W5.heap.size<=b))
  (ze:Below w6.heap.size (w6.setCell ⟨a,0,none⟩ v') W8) (h9:OnlyC (H 2) W8 w9) (s9:az 1 197 w9 u' ((aA.take (i+1)++r::aA.drop (i+1)).map aL) (fun b q=>H 2 b q\/W8.heap.size<=b)):
  ay (w9.setCell ⟨a,1,none⟩ u') (d+1) a (.mk ps' (x.ks.take i++(ji d k o).1::(ji d k o).2.2::x.ks.drop (i+1))) (fun b q=>F b q\/w.heap.size<=b)/\OnlyC F w (w9.setCell ⟨a,1,none⟩ u'):=by
 obtain⟨hsub,hne,ha0⟩:=hO.own;obtain⟨Un,aao,hl0⟩:=hK.own;have Yj:=hO;obtain⟨g1,g2,g3,g4,g5,g6,g7⟩:=hO;have Uo: ∀q,H (i+3) l q:=fun q=>Un 0 l q (hK.2.1 q);have z7:(w6.setCell ⟨a,0,none⟩ v').heap.size=w6.heap.size:=by simp[World.setCell]
 have z10:(w9.setCell ⟨a,1,none⟩ u').heap.size=w9.heap.size:=by simp[World.setCell]
 have sz1:=hc.size;have sz2:=gq.size;have sz3:=h6.size;have sz4:=ze.size;have sz5:=h9.size;have hal:a<w.heap.size:=hF a 0 (hsub 0 a 0 (g2 0));have hll:l<w.heap.size:=hF l 0 (hsub _ l 0 (Uo 0));have JM: ∀m b q,H m b q->b<w.heap.size:=fun m b q hh=>hF b q (hsub m b q hh);have Kk:l≠a:=ha0 (i+3) l 0 (by omega) (Uo 0)
 -- from the cut on
 let G:Nat->Nat->Prop:=fun b q=>H 1 b q\/H 2 b q\/b=a
 have o5:OnlyC G wc W5:=oE gq G;have o6:OnlyC G wc w6:=o5.trans h6 (fun b q _ hh=>.inl hh);have o7:OnlyC G wc (w6.setCell ⟨a,0,none⟩ v'):=o6.trans (OnlyC.bp w6 a 0 v') (fun b q _ e=>.inr (.inr e.1));have o8:OnlyC G wc W8:=o7.trans (oE (by rw[z7];exact ze) G) (fun b q _ hh=>hh);have o9:OnlyC G wc w9:=o8.trans h9 (fun b q _ hh=>.inr (.inl hh));have oG:OnlyC G wc (w9.setCell ⟨a,1,none⟩ u'):=o9.trans (OnlyC.bp w9 a 1 u') (fun b q _ e=>.inr (.inr e.1));have oA:OnlyC (fun b q=>b=l\/G b q) w (w9.setCell ⟨a,1,none⟩ u'):=(hc.mono (fun b q _ e=>.inl e)).trans oG (fun b q _ hh=>.inr hh)
 have Yk: ∀m b q,3<=m->H m b q-> ¬G b q:=by
  rintro m b q hm hh (h1|h1|h1)
  ·exact hne m 1 b q (by omega) hh h1
  ·exact hne m 2 b q (by omega) hh h1
  ·exact ha0 m b q (by omega) hh h1
 -- the halves
 have hrK: ∀q,¬H (i+3) r q:=fun q hh=>by have:=JM _ r q hh;omega
 have hGr: ∀q,¬G r q:=by
  rintro q (h1|h1|h1)
  ·have:=JM 1 r q h1;omega
  ·have:=JM 2 r q h1;omega
  ·omega
 obtain⟨L,R,nL,nR,Yl,vV,hLR⟩:=aS.halves (w':=w9.setCell ⟨a,1,none⟩ u') (r:=r) hK hT hd0 hrK oA (fun b q hh hbl hg=>hg.elim hbl (Yk _ b q (by omega) hh)) (oG.heap kl (fun q=>Yk _ l q (by omega) (Uo q))) (oG.heap kr hGr) p1 p2 q1 q2 e1 e2
 -- a's own cells
 have a1:=hc.heap g1 (fun _ e=>Kk e.symm);have a5:=pw gq a1;have a6:=h6.heap a5 (fun q hh=>hne 1 0 a q (by decide) hh (g2 q))
 have a7:(w6.setCell ⟨a,0,none⟩ v').heap[a]?=some (.cells #[v',vk] 201 (0,0)):=by have:=dr w6 a 0 _ _ v' a6;simpa using this
 have a8:=pw (show Below (w6.setCell ⟨a,0,none⟩ v').heap.size (w6.setCell ⟨a,0,none⟩ v') W8 by rw[z7];exact ze) a7;have a9:=h9.heap a8 (fun q hh=>hne 2 0 a q (by decide) hh (g2 q))
 have Oc:(w9.setCell ⟨a,1,none⟩ u').heap[a]?=some (.cells #[v',u'] 201 (0,0)):=by have:=dr w9 a 1 _ _ u' a9;simpa using this
 have s6b:=s6.bound;have s9b:=s9.bound
 have t1:az 2 210 (w9.setCell ⟨a,1,none⟩ u') v' (ps'.map ax) (fun b q=>(H 1 b q\/W5.heap.size<=b)/\b<w6.heap.size):=by
  refine(((s6b.only (OnlyC.bp w6 a 0 v') (fun b q hh e=>?_)).only (qn (by rw[z7];exact ze)) (fun _ _ _ h=>h)).only h9 (fun b q hh h2=>?_)).only (OnlyC.bp w9 a 1 u') (fun b q hh e=>?_)
  ·rcases hh.1 with h1|h1
   ·exact ha0 1 b q (by decide) h1 e.1
   ·have:=e.1;omega
  ·rcases hh.1 with h1|h1
   ·exact hne 1 2 b q (by decide) h1 h2
   ·have:=JM 2 b q h2;omega
  ·rcases hh.1 with h1|h1
   ·exact ha0 1 b q (by decide) h1 e.1
   ·have:=e.1;omega
 have t2:az 1 197 (w9.setCell ⟨a,1,none⟩ u') u' ((aA.take (i+1)++r::aA.drop (i+1)).map aL) (fun b q=>(H 2 b q\/W8.heap.size<=b)/\b<w9.heap.size):=by
  refine s9b.only (OnlyC.bp w9 a 1 u') (fun b q hh e=>?_);rcases hh.1 with h1|h1
  ·exact ha0 2 b q (by decide) h1 e.1
  ·have:=e.1;omega
 have hil:=(b8.1 hk).1;have hpl:i<aA.length:=by omega
 have Ym:aA.take (i+1)=aA.take i++[l]:=by have:=(b8.1 hl).2;rw[List.take_succ_eq_append_getElem hpl,this]
 have nP:=aS.splice (d:=d+1) (w':=w9.setCell ⟨a,1,none⟩ u') (a':=a) (ps':=ps') (vp':=v') (vk':=u') (P0:=H 0) (P1:=fun b q=>(H 1 b q\/W5.heap.size<=b)/\b<w6.heap.size) (P2:=fun b q=>(H 2 b q\/W8.heap.size<=b)/\b<w9.heap.size) (M:=pX L R) Yj i (i+1) (by omega) (by omega) [(l,(ji d k o).1),(r,(ji d k o).2.2)] Oc g2 t1
  (by
   have:aA.take i++[(l,(ji d k o).1),(r,(ji d k o).2.2)].map Prod.fst++aA.drop (i+1)=aA.take (i+1)++r::aA.drop (i+1):=by rw[Ym];simp
   rw[this]
   exact t2)
  (fun m p y hm=>by
   match m,hm with
   |0,hm=>simp only[gr,fj,lP]at hm;obtain⟨rfl,rfl⟩:=hm;exact nL
   |1,hm=>simp only[oj,gr,fj,lP]at hm;obtain⟨rfl,rfl⟩:=hm;exact nR
   |m+2,hm=>simp at hm)
  (fun j p y hj hp hy=>ay.only oA (g6 j p y hp hy) (fun b q hh hg=>hg.elim (fun e=>hne (j+3) (i+3) b q (by omega) hh (by rw[e];exact Uo q)) (Yk _ b q (by omega) hh)))
  (fun b q hh=>.inl hh)
  (fun b q hh=>hh.1.imp id (fun h1 hf=>by have:=hF b q hf;omega))
  (fun b q hh=>hh.1.imp id (fun h1 hf=>by have:=hF b q hf;omega))
  (fun m b q hm=>by
   match m,hm with
   |0,hm=>exact .inl ⟨i,by omega,by omega,Yl b q hm⟩
   |1,hm=>exact(vV b q hm).imp (fun h1=>⟨i,by omega,by omega,h1⟩) (fun e hf=>by have:=hF b q hf;omega)
   |_+2,hm=>exact hm.elim)
  (fun m m' b q hm hm'=>by
   match m,hm,m',hm' with
   |0,_,0,_=>rfl
   |1,_,1,_=>rfl
   |0,h1,1,h2=>exact absurd h2 (hLR b q h1)
   |1,h1,0,h2=>exact absurd h1 (hLR b q h2)
   |_+2,h1,_,_=>exact h1.elim
   |0,_,_+2,h2=>exact h2.elim
   |1,_,_+2,h2=>exact h2.elim)
  (fun m m' b q hf hm hm'=>by
   have key: ∀m,Kj (H 0) (fun b q=>(H 1 b q\/W5.heap.size<=b)/\b<w6.heap.size) (fun b q=>(H 2 b q\/W8.heap.size<=b)/\b<w9.heap.size) (pX L R) m b q->(m=1/\W5.heap.size<=b/\b<w6.heap.size)\/(m=2/\W8.heap.size<=b)\/(m=4/\b=r):=fun m hm=>match m,hm with
    |0,hm=>absurd (hsub 0 b q hm) hf
    |1,hm=>hm.1.elim (fun h1=>absurd (hsub 1 b q h1) hf) (fun h1=>.inl ⟨rfl,h1,hm.2⟩)
    |2,hm=>hm.1.elim (fun h1=>absurd (hsub 2 b q h1) hf) (fun h1=>.inr (.inl ⟨rfl,h1⟩))
    |3,hm=>absurd (hsub _ b q (Yl b q hm)) hf
    |4,hm=>(vV b q hm).elim (fun h1=>absurd (hsub _ b q h1) hf) (fun e=>.inr (.inr ⟨rfl,e⟩))
    |_+5,hm=>hm.elim
   have k1:=key m hm;have k2:=key m' hm'
   omega)
 constructor
 ·have hc:=(aS.close (d:=d+1) nP (fun e=>by omega)).mono (fun b q (hh: ∃j,_)=>show F b q\/w.heap.size<=b from by
   obtain⟨j,hj⟩:=hh;rcases fF hj with c|c|c|⟨m,_,c⟩|⟨m,_,c⟩
   ·exact .inl (hsub 0 b q c)
   ·exact c.1.imp (hsub 1 b q) (fun h=>by omega)
   ·exact c.1.imp (hsub 2 b q) (fun h=>by omega)
   ·exact .inl (hsub _ b q c)
   ·match m,c with
    |0,c=>exact .inl (hsub _ b q (Yl b q c))
    |1,c=>exact(vV b q c).imp (hsub _ b q) (fun e=>by omega)
    |_+2,c=>exact c.elim)
  simpa using hc
 ·refine oA.mono (fun b q _ hh=>?_);rcases hh with e|h1|h1|e
  ·subst e;exact hsub _ _ q (Uo q)
  ·exact hsub 1 b q h1
  ·exact hsub 2 b q h1
  ·subst e;exact hsub 0 _ q (g2 q)
theorem aS.nW{w w':World}{d a:Nat}{x:ND}{F:Nat->Nat->Prop}{vp vk v':Value}{aA:List Nat}{H:Nat->Nat->Nat->Prop}{ps':List Pr}(h:aS w (bL w d) a x F vp vk aA H)(hd0:d=0->x.ks=[])(hF: ∀b q,F b q->b<w.heap.size)
  (ha:w'.heap[a]?=some (.cells #[v',vk] 201 (0,0))) (ho:OnlyC (fun b q=>H 1 b q\/b=a) w w') (hs:az 2 210 w' v' (ps'.map ax) (fun b q=>H 1 b q\/w.heap.size<=b)):
  ay w' d a (.mk ps' x.ks) (fun b q=>F b q\/w.heap.size<=b)/\OnlyC F w w':=by
 obtain⟨hsub,hne,ha0⟩:=h.own;have h':=h;obtain⟨g1,g2,g3,g4,g5,g6,g7⟩:=h;have hno: ∀i b q,i≠0->i≠1->H i b q-> ¬(H 1 b q\/b=a):=fun i b q h0 h1 hh e=>e.elim (hne i 1 b q h1 hh) (ha0 i b q h0 hh)
 have n1:=aS.splice (w':=w') (a':=a) (ps':=ps') (vp':=v') (vk':=vk) (P0:=H 0) (P1:=fun b q=>H 1 b q\/w.heap.size<=b) (P2:=H 2) (M:=fun _ _ _=>False) h' 0 0 (aq _) (dj _) [] ha g2 hs
  (by simpa using g4.only ho (fun b q=>hno 2 b q (by decide) (by decide))) (fun m p y hm=>by simp at hm) (fun i p y _ hp hy=>(g6 i p y hp hy).only ho (fun b q=>hno _ b q (by omega) (by omega)))
  (fun b q hh=>.inl hh) (fun b q hh=>hh.imp id (fun h1 hf=>by have:=hF b q hf;omega)) (fun b q hh=>.inl hh) (fun m b q hh=>hh.elim) (fun m m' b q hh=>hh.elim)
  (fun m m' b q hf hm hm'=>by
   have key: ∀m,Kj (H 0) (fun b q=>H 1 b q\/w.heap.size<=b) (H 2) (fun _ _ _=>False) m b q->m=1:=fun m hm=>match m,hm with
    |0,hm=>absurd (hsub 0 b q hm) hf
    |1,_=>rfl
    |2,hm=>absurd (hsub 2 b q hm) hf
    |_+3,hm=>hm.elim
   rw[key m hm,key m' hm'])
 constructor
 ·have e:x.ks.take 0++([]:List (Nat×ND)).map Prod.snd++x.ks.drop 0=x.ks:=by simp
  rw[e]at n1;refine(n1.close hd0).mono ?_;rintro b q ⟨j,hj⟩;rcases fF hj with c|c|c|⟨m,_,c⟩|⟨m,_,c⟩
  ·exact .inl (hsub 0 b q c)
  ·exact c.imp (hsub 1 b q) id
  ·exact .inl (hsub 2 b q c)
  ·exact .inl (hsub _ b q c)
  ·exact c.elim
 ·refine ho.mono (fun b q _ hh=>hh.elim (hsub 1 b q) (fun e=>?_));subst e;exact hsub 0 _ q (g2 q)
theorem aS.FX{w w':World}{d a i l:Nat}{x k k':ND}{F:Nat->Nat->Prop}{vp vk:Value}{aA:List Nat}{H:Nat->Nat->Nat->Prop}(h:aS w (ay w d) a x F vp vk aA H)(hF: ∀b q,F b q->b<w.heap.size)
  (hk:x.ks[i]?=some k) (hl:aA[i]?=some l) (ho:OnlyC (H (i+3)) w w') (hn:ay w' d l k' (fun b q=>H (i+3) b q\/w.heap.size<=b)):
  ay w' (d+1) a (.mk x.ps (x.ks.take i++k'::x.ks.drop (i+1))) (fun b q=>F b q\/w.heap.size<=b)/\OnlyC F w w':=by
 obtain⟨hsub,hne,ha0⟩:=h.own;have h':=h;obtain⟨g1,g2,g3,g4,g5,g6,g7⟩:=h;have hil:=(b8.1 hk).1
 have n1:=aS.splice (d:=d+1) (w':=w') (a':=a) (ps':=x.ps) (vp':=vp) (vk':=vk) (P0:=H 0) (P1:=H 1) (P2:=H 2) (M:=pX (fun b q=>H (i+3) b q\/w.heap.size<=b) (fun _ _=>False)) h' i (i+1) (by omega) (by omega) [(l,k')]
  (ho.heap g1 (fun q hh=>hne 0 (i+3) a q (by omega) (g2 q) hh)) g2 (g3.only ho (fun b q=>hne 1 (i+3) b q (by omega)))
  (by
   have hsp:=dI hl
   have e:aA.take i++[(l,k')].map Prod.fst++aA.drop (i+1)=aA:=by
    conv=>rhs;rw[hsp]
    simp
   rw[e]
   exact g4.only ho (fun b q=>hne 2 (i+3) b q (by omega)))
  (fun m p y hm=>by
   match m,hm with
   |0,hm=>simp only[gr,fj,lP]at hm;obtain⟨rfl,rfl⟩:=hm;exact hn
   |m+1,hm=>simp at hm)
  (fun j p y hj hp hy=>ay.only ho (g6 j p y hp hy) (fun b q=>hne _ (i+3) b q (by omega)))
  (fun b q hh=>.inl hh) (fun b q hh=>.inl hh) (fun b q hh=>.inl hh)
  (fun m b q hm=>by
   match m,hm with
   |0,hm=>exact hm.imp (fun h1=>⟨i,by omega,by omega,h1⟩) (fun h1 hf=>by have:=hF b q hf;omega)
   |1,hm=>exact hm.elim
   |_+2,hm=>exact hm.elim)
  (fun m m' b q hm hm'=>by
   match m,hm,m',hm' with
   |0,_,0,_=>rfl
   |1,h1,_,_=>exact h1.elim
   |_+2,h1,_,_=>exact h1.elim
   |0,_,1,h2=>exact h2.elim
   |0,_,_+2,h2=>exact h2.elim)
  (fun m m' b q hf hm hm'=>by
   have key: ∀m,Kj (H 0) (H 1) (H 2) (pX (fun b q=>H (i+3) b q\/w.heap.size<=b) (fun _ _=>False)) m b q->m=3:=fun m hm=>match m,hm with
    |0,hm=>absurd (hsub 0 b q hm) hf
    |1,hm=>absurd (hsub 1 b q hm) hf
    |2,hm=>absurd (hsub 2 b q hm) hf
    |3,_=>rfl
    |4,hm=>hm.elim
    |_+5,hm=>hm.elim
   rw[key m hm,key m' hm'])
 constructor
 ·have hc:=(aS.close (d:=d+1) n1 (fun e=>by omega)).mono (fun b q (hh: ∃j,_)=>show F b q\/w.heap.size<=b from by
   obtain⟨j,hj⟩:=hh;rcases fF hj with c|c|c|⟨m,_,c⟩|⟨m,_,c⟩
   ·exact .inl (hsub 0 b q c)
   ·exact .inl (hsub 1 b q c)
   ·exact .inl (hsub 2 b q c)
   ·exact .inl (hsub _ b q c)
   ·match m,c with
    |0,c=>exact c.imp (hsub _ b q) id
    |1,c=>exact c.elim
    |_+2,c=>exact c.elim)
  simpa using hc
 ·exact ho.mono (fun b q _ hh=>hsub _ b q hh)
theorem az.Rk{w:World}{b o n c i:Nat}{ps:List Pr}{F:Nat->Nat->Prop}{k v v':List UInt8}(h:az 2 210 w (.slice (some ⟨b,o,none⟩) n c) (ps.map ax) F)(hi:ps[i]?=some (k,v)):
  az 2 210 (w.setCell ⟨b,o+i*2+1,none⟩ (.string ⟨v'.toArray⟩)) (.slice (some ⟨b,o,none⟩) n c) ((ps.take i++(k,v')::ps.drop (i+1)).map ax) F/\OnlyC F w (w.setCell ⟨b,o+i*2+1,none⟩ (.string ⟨v'.toArray⟩)):=by
 have hil:=(b8.1 hi).1;obtain⟨b',o',c',cs,e1,q2,q3,q4,q6,q7,q8,q9⟩:=h.lies (by simp;omega);simp only[fb,gR,fj,mZ,and_true]at e1;obtain⟨⟨rfl,rfl⟩,rfl,rfl⟩:=e1;rw[fb]at q2;have hk1:=dr w b (o+i*2+1) cs 210 (.string ⟨v'.toArray⟩) q6;have hlt:o+i*2+1<cs.size:=by omega
 have hsp:ps=ps.take i++(k,v)::ps.drop (i+1):=dI hi;constructor
 ·refine az.rewritten hk1 (by simp) q7 q8 (by simp;omega) q2 q3 (fun x hx=>by obtain⟨y,_,rfl⟩:=ep.1 hx;rfl) (fun j u hj=>?_);rw[ix]
  have hlk:(((ps.take i).map ax).flatten).length=i*2:=by rw[bA (k:=2) (fun x hx=>by obtain⟨y,_,rfl⟩:=List.mem_map.1 hx;rfl)];simp;omega
  have e1:((ps.take i++(k,v')::ps.drop (i+1)).map ax).flatten=((ps.take i).map ax).flatten++(.string ⟨k.toArray⟩:: .string ⟨v'.toArray⟩::((ps.drop (i+1)).map ax).flatten):=by simp[ax]
  have e2:(ps.map ax).flatten=((ps.take i).map ax).flatten++(.string ⟨k.toArray⟩:: .string ⟨v.toArray⟩::((ps.drop (i+1)).map ax).flatten):=by
   conv=>lhs;rw[hsp]
   simp[ax]
  rw[e1]at hj;rw[e2]at q9;by_cases c1:j=i*2+1
  ·subst c1;rw[fi (by omega),fi hlt];rw[kd (by omega),hlk,Nat.add_sub_cancel_left]at hj;simpa using hj
  ·rw[ff (by omega)];refine q9 j u ?_;rw[List.getElem?_append]at hj⊢;split
   ·rename_i c2;rw[fi c2]at hj;exact hj
   ·rename_i c2;rw[ff c2,hlk]at hj;rw[hlk]at c2⊢;obtain⟨t,ht⟩: ∃t,j-i*2=t:=⟨_,rfl⟩;rw[ht]at hj⊢
    match t,ht,hj with
    |0,_,hj=>simpa using hj
    |1,ht,_=>omega
    |t+2,_,hj=>simpa using hj
 ·refine(OnlyC.bp w b (o+i*2+1) _).mono (fun b' q _ e=>?_);obtain⟨rfl,rfl⟩:=e;exact q8 _ (by omega) (by omega)
theorem xJ{d o:Nat}{y:ND}(ho:2<=o)(h:eX d o (2*o) (2*o) y):ba (d+1) (lY d (.mk [] [y]) 0 o)=ba d y/\eX (d+1) o 1 (2*o-1) (lY d (.mk [] [y]) 0 o):=by
 have hc:=FI (by omega) h;have hw:=Kb ho h;have e:lY d (.mk [] [y]) 0 o=.mk [(ji d y o).2.1] [(ji d y o).1,(ji d y o).2.2]:=rfl;rw[e];constructor
 ·rw[<-hc];simp[ba,flat]
 ·refine⟨by simp,by simp;omega,by simp,fun k hk=>?_⟩;simp only[ND.cM,List.mem_cons,List.not_mem_nil,or_false]at hk;rcases hk with rfl|rfl
  ·exact hw.1
  ·exact hw.2
theorem ay.FY{w:World}{d r N S:Nat}{y:ND}{K:Nat->Nat->Prop}(h:ay w d r y K)(hN:w.heap[N]?=some (.cells #[.slice none 0 0,.slice (some ⟨S,0,none⟩) 1 1] 201 (0,0)))
  (hS:w.heap[S]?=some (.cells #[.pointer (some ⟨r,0,none⟩)] 197 (0,0))) (hNS:N≠S) (hKN: ∀q,¬K N q) (hKS: ∀q,¬K S q):ay w (d+1) N (.mk [] [y]) (fun b q=>K b q\/b=N\/b=S):=by
 refine⟨.slice none 0 0,.slice (some ⟨S,0,none⟩) 1 1,[r],fun i b q=>(i=0/\b=N)\/(i=2/\b=S)\/(i=3/\K b q),hN,fun q=>.inl ⟨rfl,rfl⟩,az.nil _ _ _ _,?_,rfl,?_,?_,?_⟩
 ·exact⟨_,1,rfl,by simp,by simp[maxLen],fun x hx=>by simp[aL]at hx;subst hx;rfl,.inr ⟨S,0,_,rfl,hS,by simp,fun j _ _=>.inr (.inl ⟨rfl,rfl⟩),fun j u hj=>by simpa[aL]using hj⟩⟩
 ·intro i p k hp hk
  match i,hp,hk with
  |0,hp,hk=>simp at hp hk;subst hp hk;exact h.mono (fun b q hh=>.inr (.inr ⟨rfl,hh⟩))
  |i+1,hp,hk=>simp at hp
 ·rintro i b q (⟨_,e⟩|⟨_,e⟩|⟨_,e⟩)
  ·exact .inr (.inl e)
  ·exact .inr (.inr e)
  ·exact .inl e
 ·rintro i j b q (⟨rfl,e⟩|⟨rfl,e⟩|⟨rfl,e⟩) (⟨rfl,e'⟩|⟨rfl,e'⟩|⟨rfl,e'⟩)
  ·rfl
  ·exact absurd (e.symm.trans e') hNS
  ·exact absurd e' (by rw[e];exact hKN q)
  ·exact absurd (e'.symm.trans e) hNS
  ·rfl
  ·exact absurd e' (by rw[e];exact hKS q)
  ·exact absurd e (by rw[e'];exact hKN q)
  ·exact absurd e (by rw[e'];exact hKS q)
  ·rfl
theorem tV(P:Nat->Nat->Nat->Prop)(h: ∀i j b q,P i b q->P j b q->i=j): ∃lab:Nat->Nat->Nat,(∀i b q,P i b q->lab b q=i+1)/\ ∀b q,lab b q≠0-> ∃i,P i b q:=by
 refine⟨fun b q=> @dite _ (∃i,P i b q) (Classical.propDecidable _) (fun hh=>Classical.choose hh+1) (fun _=>0),fun i b q hi=>?_,fun b q hn=>?_⟩
 ·have hh: ∃i,P i b q:=⟨i,hi⟩;simp only;rw[dif_pos hh,h _ _ b q (Classical.choose_spec hh) hi]
 ·apply Classical.byContradiction;intro hh;exact hn (dif_neg hh)
def DD{α:Type}(f:Nat->α)(t:Nat)(v:α):Nat->α:=fun s=>if s=t then v else f s
def BC{α:Type}(f:Nat->Nat->α)(t s:Nat)(v:α):Nat->Nat->α:=fun t' s'=>if t'=t/\s'=s then v else f t' s'
@[simp] theorem qW {α:Type} (f:Nat->α) (t:Nat) (v:α):DD f t v t=v:=by simp[DD]
theorem zg{α:Type}(f:Nat->α){t s:Nat}(v:α)(h:s≠t):DD f t v s=f s:=by simp[DD,h]
@[simp] theorem nX {α:Type} (f:Nat->Nat->α) (t s:Nat) (v:α):BC f t s v t s=v:=by simp[BC]
theorem fY{α:Type}(f:Nat->Nat->α){t s t' s':Nat}(v:α)(h: ¬(t'=t/\s'=s)):BC f t s v t' s'=f t' s':=by simp[BC,h]
structure Od (w0 w:World) (lab:Nat->Nat->Nat) (t a:Nat) (v u:Value) (x:List Pr) (y:List Nat) (P1 P2 B1 B2:Nat->Nat->Prop):Prop where
 heap:w.heap[a]?=some (.cells #[v,u] 201 (0,0))
 own: ∀q,lab a q=10*t
 s1:az 2 210 w v (x.map ax) P1
 s2:az 1 197 w u (y.map aL) P2
 l1: ∀b q,P1 b q->lab b q=10*t+1/\b<w.heap.size/\(B1 b q\/w0.heap.size<=b)
 l2: ∀b q,P2 b q->lab b q=10*t+2/\b<w.heap.size/\(B2 b q\/w0.heap.size<=b)
def dS(w0:World)(A:Nat->Nat)(B:Nat->Nat->Nat->Nat->Prop)(Z U:Nat->Nat->Prop)(w:World)(V:Nat->Nat->Value)(X:Nat->List Pr)(Y:Nat->List Nat)(P:Nat->Nat->Nat->Nat->Prop):Prop:=
 ∃lab:Nat->Nat->Nat,(∀t,t<3->Od w0 w lab t (A t) (V t 0) (V t 1) (X t) (Y t) (P t 0) (P t 1) (B t 0) (B t 1))/\(∀b q,Z b q->lab b q=99/\b<w0.heap.size)/\(∀b q,b<w0.heap.size->lab b q<30->U b q)/\OnlyC (fun b q=>lab b q<30) w0 w
section
variable{w0 w w1 w2:World}{A:Nat->Nat}{B:Nat->Nat->Nat->Nat->Prop}{Z U:Nat->Nat->Prop}{V:Nat->Nat->Value}{X:Nat->List Pr}{Y:Nat->List Nat}{P:Nat->Nat->Nat->Nat->Prop}
theorem Od.only{w':World}{lab Uq:Nat->Nat->Nat}{t a:Nat}{v u:Value}{x:List Pr}{y:List Nat}{P1 P2 B1 B2 G:Nat->Nat->Prop}(h:Od w0 w lab t a v u x y P1 P2 B1 B2)(ho:OnlyC G w w')(hl: ∀b q,b<w.heap.size->Uq b q=lab b q)
  (h0: ∀q,¬G a q) (h1: ∀b q,P1 b q-> ¬G b q) (h2: ∀b q,P2 b q-> ¬G b q):Od w0 w' Uq t a v u x y P1 P2 B1 B2:=
 ⟨ho.heap h.heap h0,fun q=>by rw[hl a q (lt_of_heap h.heap)];exact h.own q,h.s1.only ho h1,h.s2.only ho h2,
  fun b q hh=>by obtain⟨a1,a2,a3⟩:=h.l1 b q hh;exact⟨by rw[hl b q a2];exact a1,cq a2 ho.size,a3⟩,
  fun b q hh=>by obtain⟨a1,a2,a3⟩:=h.l2 b q hh;exact⟨by rw[hl b q a2];exact a1,cq a2 ho.size,a3⟩⟩
theorem dS.below(h:dS w0 A B Z U w V X Y P)(hb:Below w.heap.size w w1):dS w0 A B Z U w1 V X Y P:=by obtain⟨lab,hN,hZ,hU,hO⟩:=h;exact⟨lab,fun t ht=>(hN t ht).only (qn hb) (fun _ _ _=>rfl) (fun _ h=>h) (fun _ _ _ h=>h) (fun _ _ _ h=>h),hZ,hU,hO.trans (oE hb (fun b q=>lab b q<30)) (fun _ _ _ h=>h)⟩
theorem dS.at_(h:dS w0 A B Z U w V X Y P){t:Nat}(ht:t<3):w.heap[A t]?=some (.cells #[V t 0,V t 1] 201 (0,0))/\az 2 210 w (V t 0) ((X t).map ax) (P t 0)/\az 1 197 w (V t 1) ((Y t).map aL) (P t 1):=by obtain⟨lab,hN,_⟩:=h;exact⟨(hN t ht).heap,(hN t ht).s1,(hN t ht).s2⟩
theorem dS.apart(h:dS w0 A B Z U w V X Y P){t s t' s':Nat}(ht:t<3)(ht':t'<3)(hs:s<2)(hs':s'<2)(hne: ¬(t=t'/\s=s')){b q:Nat}(h1:P t s b q): ¬P t' s' b q:=by
 obtain⟨lab,hN,_⟩:=h;intro h2
 have key: ∀t s,t<3->s<2->P t s b q->lab b q=10*t+s+1:=fun t s ht hs hh=>match s,hs,hh with
  |0,_,hh=>((hN t ht).l1 b q hh).1
  |1,_,hh=>((hN t ht).l2 b q hh).1
  |_+2,hs,_=>by omega
 have e1:=key t s ht hs h1;have e2:=key t' s' ht' hs' h2;omega
theorem dS.ia(h:dS w0 A B Z U w V X Y P){t s t':Nat}(ht:t<3)(ht':t'<3)(hs:s<2){b q:Nat}(h1:P t s b q):b≠A t':=by
 obtain⟨lab,hN,_⟩:=h;intro e;subst e;have e1:=(hN t' ht').own q
 have e2:lab (A t') q=10*t+s+1:=match s,hs,h1 with
  |0,_,hh=>((hN t ht).l1 _ q hh).1
  |1,_,hh=>((hN t ht).l2 _ q hh).1
  |_+2,hs,_=>by omega
 omega
theorem dS.Kl(h:dS w0 A B Z U w V X Y P){t t':Nat}(ht:t<3)(ht':t'<3)(hne:t≠t'):A t≠A t':=by obtain⟨lab,hN,_⟩:=h;intro e;have e1:=(hN t ht).own 0;have e2:=(hN t' ht').own 0;rw[e]at e1;omega
theorem dS.Qn(h:dS w0 A B Z U w V X Y P):OnlyC U w0 w:=by obtain⟨lab,_,_,hU,hO⟩:=h;exact hO.mono (fun b q hb hh=>hU b q hb hh)
theorem dS.pairs(h:dS w0 A B Z U w V X Y P){t:Nat}(ht:t<3)(hb:Below w.heap.size w w1)(ho:OnlyC (P t 0) w1 w2){v':Value}{xs':List Pr}(hs:az 2 210 w2 v' (xs'.map ax) (fun b q=>P t 0 b q\/w1.heap.size<=b)):
  dS w0 A B Z U (w2.setCell ⟨A t,0,none⟩ v') (BC V t 0 v') (DD X t xs') Y (BC P t 0 (fun b q=>(P t 0 b q\/w1.heap.size<=b)/\b<w2.heap.size)):=by
 have h':=h.below hb;obtain⟨lab,hN,hZ,hU,hO⟩:=h';have Oe:=hN;have hw0:w0.heap.size<=w1.heap.size:=hO.size;have zz:(w2.setCell ⟨A t,0,none⟩ v').heap.size=w2.heap.size:=by simp[World.setCell]
 have o3:=OnlyC.bp w2 (A t) 0 v';have hl: ∀b q,b<w1.heap.size->(if b<w1.heap.size then lab b q else 10*t+1)=lab b q:=fun b q hb=>fi hb
 have key: ∀{t s b q},t<3->s<2->P t s b q->lab b q=10*t+s+1/\b<w1.heap.size:=fun{t s b q} ht hs hh=>match s,hs,hh with
  |0,_,hh=>⟨((Oe t ht).l1 b q hh).1,((Oe t ht).l1 b q hh).2.1⟩
  |1,_,hh=>⟨((Oe t ht).l2 b q hh).1,((Oe t ht).l2 b q hh).2.1⟩
  |_+2,hs,_=>by omega
 have Rl: ∀q,¬P t 0 (A t) q:=fun q hh=>by have h1:=(key ht (by decide) hh).1;have h2:=(hN t ht).own q;omega
 have Km:OnlyC (fun b q=>P t 0 b q\/(b=A t/\q=0)) w1 (w2.setCell ⟨A t,0,none⟩ v'):=(ho.mono (fun _ _ _ h=>.inl h)).trans o3 (fun _ _ _ h=>.inr h);refine⟨fun b q=>if b<w1.heap.size then lab b q else 10*t+1,fun t' ht'=>?_,fun b q hz=>?_,fun b q hb0 hl0=>hU b q hb0 (by have e:(if b<w1.heap.size then lab b q else _)<30:=hl0;rw[fi (by omega)]at e;exact e),?_⟩
 ·by_cases e:t'=t
  ·subst e;have hn:=hN t' ht;have k2:=ho.heap hn.heap Rl;rw[nX,fY V v' (by omega),qW,nX,fY P _ (by omega)];refine⟨?_,fun q=>by rw[fi (lt_of_heap hn.heap)];exact hn.own q,?_,?_,?_,?_⟩
   ·have:=dr w2 (A t') 0 _ _ v' k2;simpa using this
   ·refine hs.bound.only o3 (fun b q hh e=>?_);obtain⟨rfl,rfl⟩:=e;rcases hh.1 with h1|h1
    ·exact Rl 0 h1
    ·have:=oS hn.heap;omega
   ·refine(hn.s2.only ho (fun b q hh h2=>?_)).only o3 (fun b q hh e=>?_)
    ·have e1:=(hn.l2 b q hh).1;have e2:=(key ht (by decide) h2).1;omega
    ·obtain⟨rfl,rfl⟩:=e;have e1:=(hn.l2 _ _ hh).1;have e2:=hn.own 0;omega
   ·rintro b q ⟨h1|h1,h2⟩
    ·have h3:=hn.l1 b q h1;refine⟨?_,by rw[zz];exact h2,h3.2.2⟩;rw[fi h3.2.1];exact h3.1
    ·refine⟨?_,by rw[zz];exact h2,.inr (by omega)⟩;rw[ff (by omega)]
   ·intro b q hh;have h3:=hn.l2 b q hh;refine⟨?_,by rw[zz];exact cq h3.2.1 ho.size,h3.2.2⟩;rw[fi h3.2.1];exact h3.1
  ·rw[fY V v' (fun hh=>e hh.1),fY V v' (fun hh=>e hh.1),zg X xs' e,fY P _ (fun hh=>e hh.1),fY P _ (fun hh=>e hh.1)];refine(hN t' ht').only Km hl (fun q hh=>?_) (fun b q h1 hh=>?_) (fun b q h1 hh=>?_)
   ·rcases hh with hh|⟨e1,_⟩
    ·have e2:=(key ht (by decide) hh).1;have e3:=(hN t' ht').own q;omega
    ·have e2:=(hN t' ht').own q;have e3:=(hN t ht).own q;rw[e1]at e2;omega
   ·have e0:=((hN t' ht').l1 b q h1).1;rcases hh with hh|⟨rfl,rfl⟩
    ·have e2:=(key ht (by decide) hh).1;omega
    ·have e3:=(hN t ht).own 0;omega
   ·have e0:=((hN t' ht').l2 b q h1).1;rcases hh with hh|⟨rfl,rfl⟩
    ·have e2:=(key ht (by decide) hh).1;omega
    ·have e3:=(hN t ht).own 0;omega
 ·have:=hZ b q hz;exact⟨by show(if b<w1.heap.size then lab b q else _)=99;rw[fi (by omega)];exact this.1,this.2⟩
 ·refine(hO.mono (fun b q hb' hh=>?_)).trans Km (fun b q hb' hh=>?_)
  ·show(if b<w1.heap.size then lab b q else _)<30;rw[fi (by omega)];exact hh
  ·show(if b<w1.heap.size then lab b q else _)<30;rw[fi (by omega)];rcases hh with hh|⟨rfl,rfl⟩
   ·have:=(key ht (by decide) hh).1;omega
   ·have:=(hN t ht).own 0;omega
theorem dS.kids(h:dS w0 A B Z U w V X Y P){t:Nat}(ht:t<3)(hb:Below w.heap.size w w1)(ho:OnlyC (P t 1) w1 w2){v':Value}{ys':List Nat}(hs:az 1 197 w2 v' (ys'.map aL) (fun b q=>P t 1 b q\/w1.heap.size<=b)):
  dS w0 A B Z U (w2.setCell ⟨A t,1,none⟩ v') (BC V t 1 v') X (DD Y t ys') (BC P t 1 (fun b q=>(P t 1 b q\/w1.heap.size<=b)/\b<w2.heap.size)):=by
 have h':=h.below hb;obtain⟨lab,hN,hZ,hU,hO⟩:=h';have Oe:=hN;have hw0:w0.heap.size<=w1.heap.size:=hO.size;have zz:(w2.setCell ⟨A t,1,none⟩ v').heap.size=w2.heap.size:=by simp[World.setCell]
 have o3:=OnlyC.bp w2 (A t) 1 v';have hl: ∀b q,b<w1.heap.size->(if b<w1.heap.size then lab b q else 10*t+2)=lab b q:=fun b q hb=>fi hb
 have key: ∀{t s b q},t<3->s<2->P t s b q->lab b q=10*t+s+1/\b<w1.heap.size:=fun{t s b q} ht hs hh=>match s,hs,hh with
  |0,_,hh=>⟨((Oe t ht).l1 b q hh).1,((Oe t ht).l1 b q hh).2.1⟩
  |1,_,hh=>⟨((Oe t ht).l2 b q hh).1,((Oe t ht).l2 b q hh).2.1⟩
  |_+2,hs,_=>by omega
 have Rl: ∀q,¬P t 1 (A t) q:=fun q hh=>by have h1:=(key ht (by decide) hh).1;have h2:=(hN t ht).own q;omega
 have Km:OnlyC (fun b q=>P t 1 b q\/(b=A t/\q=1)) w1 (w2.setCell ⟨A t,1,none⟩ v'):=(ho.mono (fun _ _ _ h=>.inl h)).trans o3 (fun _ _ _ h=>.inr h);refine⟨fun b q=>if b<w1.heap.size then lab b q else 10*t+2,fun t' ht'=>?_,fun b q hz=>?_,fun b q hb0 hl0=>hU b q hb0 (by have e:(if b<w1.heap.size then lab b q else _)<30:=hl0;rw[fi (by omega)]at e;exact e),?_⟩
 ·by_cases e:t'=t
  ·subst e;have hn:=hN t' ht;have k2:=ho.heap hn.heap Rl;rw[nX,fY V v' (by omega),qW,nX,fY P _ (by omega)];refine⟨?_,fun q=>by rw[fi (lt_of_heap hn.heap)];exact hn.own q,?_,?_,?_,?_⟩
   ·have:=dr w2 (A t') 1 _ _ v' k2;simpa using this
   ·refine(hn.s1.only ho (fun b q hh h2=>?_)).only o3 (fun b q hh e=>?_)
    ·have e1:=(hn.l1 b q hh).1;have e2:=(key ht (by decide) h2).1;omega
    ·obtain⟨rfl,rfl⟩:=e;have e1:=(hn.l1 _ _ hh).1;have e2:=hn.own 1;omega
   ·refine hs.bound.only o3 (fun b q hh e=>?_);obtain⟨rfl,rfl⟩:=e;rcases hh.1 with h1|h1
    ·exact Rl 1 h1
    ·have:=oS hn.heap;omega
   ·intro b q hh;have h3:=hn.l1 b q hh;refine⟨?_,by rw[zz];exact cq h3.2.1 ho.size,h3.2.2⟩;rw[fi h3.2.1];exact h3.1
   ·rintro b q ⟨h1|h1,h2⟩
    ·have h3:=hn.l2 b q h1;refine⟨?_,by rw[zz];exact h2,h3.2.2⟩;rw[fi h3.2.1];exact h3.1
    ·refine⟨?_,by rw[zz];exact h2,.inr (by omega)⟩;rw[ff (by omega)]
  ·rw[fY V v' (fun hh=>e hh.1),fY V v' (fun hh=>e hh.1),zg Y ys' e,fY P _ (fun hh=>e hh.1),fY P _ (fun hh=>e hh.1)];refine(hN t' ht').only Km hl (fun q hh=>?_) (fun b q h1 hh=>?_) (fun b q h1 hh=>?_)
   ·rcases hh with hh|⟨e1,_⟩
    ·have e2:=(key ht (by decide) hh).1;have e3:=(hN t' ht').own q;omega
    ·have e2:=(hN t' ht').own q;have e3:=(hN t ht).own q;rw[e1]at e2;omega
   ·have e0:=((hN t' ht').l1 b q h1).1;rcases hh with hh|⟨rfl,rfl⟩
    ·have e2:=(key ht (by decide) hh).1;omega
    ·have e3:=(hN t ht).own 1;omega
   ·have e0:=((hN t' ht').l2 b q h1).1;rcases hh with hh|⟨rfl,rfl⟩
    ·have e2:=(key ht (by decide) hh).1;omega
    ·have e3:=(hN t ht).own 1;omega
 ·have:=hZ b q hz;exact⟨by show(if b<w1.heap.size then lab b q else _)=99;rw[fi (by omega)];exact this.1,this.2⟩
 ·refine(hO.mono (fun b q hb' hh=>?_)).trans Km (fun b q hb' hh=>?_)
  ·show(if b<w1.heap.size then lab b q else _)<30;rw[fi (by omega)];exact hh
  ·show(if b<w1.heap.size then lab b q else _)<30;rw[fi (by omega)];rcases hh with hh|⟨rfl,rfl⟩
   ·have:=(key ht (by decide) hh).1;omega
   ·have:=(hN t ht).own 1;omega
theorem dS.inPlace(h:dS w0 A B Z U w V X Y P){t:Nat}(ht:t<3)(ho:OnlyC (P t 0) w w2){xs':List Pr}(hs:az 2 210 w2 (V t 0) (xs'.map ax) (P t 0)):dS w0 A B Z U w2 V (DD X t xs') Y P:=by
 obtain⟨lab,hN,hZ,hU,hO⟩:=h;refine⟨lab,fun t' ht'=>?_,hZ,hU,hO.trans ho (fun b q _ hh=>by have:=((hN t ht).l1 b q hh).1;omega)⟩;by_cases e:t'=t
 ·subst e;have hn:=hN t' ht;have Rl: ∀q,¬P t' 0 (A t') q:=fun q hh=>by have h1:=(hn.l1 _ _ hh).1;have h2:=hn.own q;omega
  rw[qW];exact⟨ho.heap hn.heap Rl,hn.own,hs,hn.s2.only ho (fun b q hh h2=>by have e1:=(hn.l2 b q hh).1;have e2:=(hn.l1 b q h2).1;omega),fun b q hh=>let⟨a1,a2,a3⟩:=hn.l1 b q hh;⟨a1,cq a2 ho.size,a3⟩,fun b q hh=>let⟨a1,a2,a3⟩:=hn.l2 b q hh;⟨a1,cq a2 ho.size,a3⟩⟩
 ·rw[zg X xs' e];refine(hN t' ht').only ho (fun _ _ _=>rfl) (fun q hh=>?_) (fun b q h1 hh=>?_) (fun b q h1 hh=>?_)
  ·have e2:=((hN t ht).l1 _ _ hh).1;have e3:=(hN t' ht').own q;omega
  ·have e0:=((hN t' ht').l1 b q h1).1;have e2:=((hN t ht).l1 _ _ hh).1;omega
  ·have e0:=((hN t' ht').l2 b q h1).1;have e2:=((hN t ht).l1 _ _ hh).1;omega
end
def BD{α:Type}(a b c:α):Nat->α:=fun t=>if t=0 then a else if t=1 then b else c
def sD{α:Type}(a b:α):Nat->α:=fun t=>if t=0 then a else b
@[simp] theorem aap {α:Type} (a b c:α):BD a b c 0=a:=rfl
@[simp] theorem aaq {α:Type} (a b c:α):BD a b c 1=b:=rfl
@[simp] theorem aar {α:Type} (a b c:α):BD a b c 2=c:=rfl
@[simp] theorem aas {α:Type} (a b:α):sD a b 0=a:=rfl
@[simp] theorem aat {α:Type} (a b:α):sD a b 1=b:=rfl
def FZ(H Hl Hr:Nat->Nat->Nat->Prop)(i:Nat)(b q:Nat):Prop:=(∃j,j≠i/\j≠i+1/\H (j+3) b q)\/(∃j,Hl (j+3) b q)\/ ∃j,Hr (j+3) b q
theorem dS.start{w:World}{d a i l r:Nat}{x kl kr:ND}{F:Nat->Nat->Prop}{vp vk vl ul vr ur:Value}{aA pl pr:List Nat}{H Hl Hr:Nat->Nat->Nat->Prop}(hO:aS w (ay w d) a x F vp vk aA H)(hF: ∀b q,F b q->b<w.heap.size)
  (hL:aS w (bL w d) l kl (H (i+3)) vl ul pl Hl) (hR:aS w (bL w d) r kr (H (i+4)) vr ur pr Hr):
  dS w (BD a l r) (fun t s=>BD (H (s+1)) (Hl (s+1)) (Hr (s+1)) t) (FZ H Hl Hr i) F w (fun t s=>BD (sD vp vk s) (sD vl ul s) (sD vr ur s) t) (BD x.ps kl.ps kr.ps) (BD aA pl pr) (fun t s=>BD (H (s+1)) (Hl (s+1)) (Hr (s+1)) t):=by
 obtain⟨Ho,h0,h0'⟩:=tV H hO.2.2.2.2.2.2.2;obtain⟨Rm,h1,h1'⟩:=tV Hl hL.2.2.2.2.2.2.2;obtain⟨Rn,h2,h2'⟩:=tV Hr hR.2.2.2.2.2.2.2;obtain⟨lab,hlab⟩: ∃lab:Nat->Nat->Nat,∀b q,lab b q=if Ho b q=0 then 99 else if Ho b q=i+4 then(if Rm b q≠0/\Rm b q<4 then 9+Rm b q else 99)else if Ho b q=i+5 then(if Rn b q≠0/\Rn b q<4 then 19+Rn b q else 99)else if Ho b q<4 then Ho b q-1 else 99:=⟨_,fun _ _=>rfl⟩
 have e0: ∀m b q,m<3->H m b q->lab b q=m:=fun m b q hm hh=>by rw[hlab,h0 m b q hh,ff (by omega),ff (by omega),ff (by omega),fi (by omega),nw]
 have e1: ∀m b q,Hl m b q->lab b q=if m<3 then 10+m else 99:=fun m b q hh=>by rw[hlab,h0 (i+3) b q (hL.own.1 m b q hh),ff (by omega),fi rfl,h1 m b q hh];split<;>split<;>omega
 have e2: ∀m b q,Hr m b q->lab b q=if m<3 then 20+m else 99:=fun m b q hh=>by rw[hlab,h0 (i+4) b q (hR.own.1 m b q hh),ff (by omega),ff (by omega),fi rfl,h2 m b q hh];split<;>split<;>omega
 have e3: ∀j b q,j≠i->j≠i+1->H (j+3) b q->lab b q=99:=fun j b q a1 a2 hh=>by rw[hlab,h0 (j+3) b q hh,ff (by omega),ff (by omega),ff (by omega),ff (by omega)]
 have hb: ∀m b q,H m b q->b<w.heap.size:=fun m b q hh=>hF b q (hO.own.1 m b q hh);have hbl: ∀m b q,Hl m b q->b<w.heap.size:=fun m b q hh=>hb _ b q (hL.own.1 m b q hh);have hbr: ∀m b q,Hr m b q->b<w.heap.size:=fun m b q hh=>hb _ b q (hR.own.1 m b q hh);refine⟨lab,fun t ht=>?_,?_,fun b q _ hl=>?_,OnlyC.refl _ _⟩;rotate_left 2
 ·rw[hlab]at hl;by_cases e:Ho b q=0
  ·rw[fi e]at hl;omega
  ·obtain⟨m,hm⟩:=h0' b q e;exact hO.own.1 m b q hm
 ·match t,ht with
  |0,_=>exact⟨hO.1,fun q=>e0 0 a q (by decide) (hO.2.1 q),hO.2.2.1,hO.2.2.2.1,fun b q hh=>⟨e0 1 b q (by decide) hh,hb 1 b q hh,.inl hh⟩,fun b q hh=>⟨e0 2 b q (by decide) hh,hb 2 b q hh,.inl hh⟩⟩
  |1,_=>exact⟨hL.1,fun q=>e1 0 l q (hL.2.1 q),hL.2.2.1,hL.2.2.2.1,fun b q hh=>⟨e1 1 b q hh,hbl 1 b q hh,.inl hh⟩,fun b q hh=>⟨e1 2 b q hh,hbl 2 b q hh,.inl hh⟩⟩
  |2,_=>exact⟨hR.1,fun q=>e2 0 r q (hR.2.1 q),hR.2.2.1,hR.2.2.2.1,fun b q hh=>⟨e2 1 b q hh,hbr 1 b q hh,.inl hh⟩,fun b q hh=>⟨e2 2 b q hh,hbr 2 b q hh,.inl hh⟩⟩
  |_+3,ht=>omega
 ·rintro b q (⟨j,a1,a2,hh⟩|⟨j,hh⟩|⟨j,hh⟩)
  ·exact⟨e3 j b q a1 a2 hh,hb _ b q hh⟩
  ·have:=e1 (j+3) b q hh;rw[ff (by omega)]at this;exact⟨this,hbl _ b q hh⟩
  ·have:=e2 (j+3) b q hh;rw[ff (by omega)]at this;exact⟨this,hbr _ b q hh⟩
section
variable{w0 w:World}{A:Nat->Nat}{B:Nat->Nat->Nat->Nat->Prop}{Z U:Nat->Nat->Prop}{V:Nat->Nat->Value}{X:Nat->List Pr}{Y:Nat->List Nat}{P:Nat->Nat->Nat->Nat->Prop}
theorem dS.keep(h:dS w0 A B Z U w V X Y P){d p:Nat}{k:ND}{K:Nat->Nat->Prop}(hk:bL w0 d p k K)(hZ: ∀b q,K b q->Z b q):bL w d p k K:=by obtain⟨lab,_,hz,_,ho⟩:=h;exact hk.only ho (fun b q hh hl=>by have:=(hz b q (hZ b q hh)).1;omega)
theorem dS.node{d a t:Nat}{x:ND}{K:Nat->Nat->Prop}{vp vk:Value}{aA:List Nat}{H:Nat->Nat->Nat->Prop}(hK:aS w0 (bL w0 d) a x K vp vk aA H)(hT: ∀i b q,H i b q->i<x.ks.length+3)(hKb: ∀b q,K b q->b<w0.heap.size)
  (h:dS w0 A B Z U w V X Y P) (ht:t<3) (hA:A t=a) (Ro:B t 0=H 1) (dU:B t 1=H 2) (hZ: ∀j b q,H (j+3) b q->Z b q) (lo hi:Nat) (Ul:lo<=hi) (hh:hi<=x.ks.length) (mid:List (Nat×ND)) (M:Nat->Nat->Nat->Prop)
  (hY:Y t=aA.take lo++mid.map Prod.fst++aA.drop hi) (hM: ∀m b q,M m b q->Z b q/\ ¬K b q) (Oa: ∀m m' b q,M m b q->M m' b q->m=m') (hmid: ∀m p k,mid[m]?=some (p,k)->bL w0 d p k (M m)) (h0:d=0->x.ks.take lo++mid.map Prod.snd++x.ks.drop hi=[]):
  ∃R,ay w d a (.mk (X t) (x.ks.take lo++mid.map Prod.snd++x.ks.drop hi)) R/\ ∀b q,R b q->H 0 b q\/P t 0 b q\/P t 1 b q\/(∃j,(j<lo\/(hi<=j/\j<x.ks.length))/\H (j+3) b q)\/ ∃m,M m b q:=by
 have F3:=fun d p k K=> @dS.keep w0 w A B Z U V X Y P h d p k K;obtain⟨lab,hN,hz,_,ho⟩:=h;have hn:=hN t ht;rw[hA,Ro,dU]at hn;have f1: ∀b q,P t 0 b q->H 1 b q\/ ¬K b q:=fun b q hp=>(hn.l1 b q hp).2.2.imp id (fun h1 hk=>by have:=hKb b q hk;omega);have f2: ∀b q,P t 1 b q->H 2 b q\/ ¬K b q:=fun b q hp=>(hn.l2 b q hp).2.2.imp id (fun h1 hk=>by have:=hKb b q hk;omega)
 have n1:=aS.splice (w':=w) (a':=a) (ps':=X t) (vp':=V t 0) (vk':=V t 1) (P0:=H 0) (P1:=P t 0) (P2:=P t 1) (M:=M) hK lo hi Ul hh mid hn.heap hK.2.1 hn.s1 (by rw[<-hY];exact hn.s2)
  (fun m p k hm=>F3 d p k _ (hmid m p k hm) (fun b q hq=>(hM m b q hq).1)) (fun j p k _ hp hk=>F3 d p k _ (hK.2.2.2.2.2.1 j p k hp hk) (fun b q hq=>hZ j b q hq)) (fun b q hq=>.inl hq) f1 f2 (fun m b q hq=>.inr (hM m b q hq).2) Oa
  (fun m m' b q hf hm hm'=>by
   have key: ∀m,Kj (H 0) (P t 0) (P t 1) M m b q->(m=1/\lab b q=10*t+1)\/(m=2/\lab b q=10*t+2)\/(∃n,m=n+3/\lab b q=99/\M n b q):=fun m hm=>match m,hm with
    |0,hm=>absurd (hK.own.1 0 b q hm) hf
    |1,hm=>.inl ⟨rfl,(hn.l1 b q hm).1⟩
    |2,hm=>.inr (.inl ⟨rfl,(hn.l2 b q hm).1⟩)
    |n+3,hm=>.inr (.inr ⟨n,rfl,(hz b q (hM n b q hm).1).1,hm⟩)
   rcases key m hm with⟨e1,e2⟩|⟨e1,e2⟩|⟨n,e1,e2,e3⟩<;>rcases key m' hm' with⟨c1,c2⟩|⟨c1,c2⟩|⟨n',c1,c2,c3⟩<;>first
    |omega
    |(have:=Oa n n' b q e3 c3;omega))
 refine⟨_,n1.close h0,?_⟩;rintro b q ⟨j,hj⟩;rcases fF hj with c|c|c|⟨m,cm,c⟩|⟨m,_,c⟩
 ·exact .inl c
 ·exact .inr (.inl c)
 ·exact .inr (.inr (.inl c))
 ·have:=hT _ b q c;exact .inr (.inr (.inr (.inl ⟨m,by omega,c⟩)))
 ·exact .inr (.inr (.inr (.inr ⟨m,c⟩)))
theorem dS.parent{d a i:Nat}{x:ND}{F:Nat->Nat->Prop}{vp vk:Value}{aA:List Nat}{H:Nat->Nat->Nat->Prop}(hO:aS w0 (ay w0 d) a x F vp vk aA H)(hF: ∀b q,F b q->b<w0.heap.size)(hi:i+2<=x.ks.length)
  (h:dS w0 A B Z U w V X Y P) (hA:A 0=a) (Ro:B 0 0=H 1) (dU:B 0 1=H 2) (hZ: ∀j b q,j≠i->j≠i+1->H (j+3) b q->Z b q) (mid:List (Nat×ND)) (M:Nat->Nat->Nat->Prop)
  (hY:Y 0=aA.take i++mid.map Prod.fst++aA.drop (i+2)) (hM: ∀m b q,M m b q->H (i+3) b q\/H (i+4) b q\/(∃s,s<2/\(P 1 s b q\/P 2 s b q))) (Oa: ∀m m' b q,M m b q->M m' b q->m=m') (hmid: ∀m p k,mid[m]?=some (p,k)->ay w d p k (M m))
  (Og: ∀s b q,s<2->(P 1 s b q\/P 2 s b q)->H (i+3) b q\/H (i+4) b q\/w0.heap.size<=b):
  ay w (d+1) a (.mk (X 0) (x.ks.take i++mid.map Prod.snd++x.ks.drop (i+2))) (fun b q=>F b q\/w0.heap.size<=b):=by
 have F3:=fun p k K=> @dS.keep w0 w A B Z U V X Y P h (d+1) p k K;obtain⟨lab,hN,hz,_,ho⟩:=h;have hn:=hN 0 (by decide);rw[hA,Ro,dU]at hn;have f1: ∀b q,P 0 0 b q->H 1 b q\/ ¬F b q:=fun b q hp=>(hn.l1 b q hp).2.2.imp id (fun h1 hk=>by have:=hF b q hk;omega);have f2: ∀b q,P 0 1 b q->H 2 b q\/ ¬F b q:=fun b q hp=>(hn.l2 b q hp).2.2.imp id (fun h1 hk=>by have:=hF b q hk;omega)
 have sF: ∀m b q,M m b q->H (i+3) b q\/H (i+4) b q\/(w0.heap.size<=b/\10<=lab b q):=fun m b q hm=>by
  rcases hM m b q hm with h1|h1|⟨s,hs,h1⟩
  ·exact .inl h1
  ·exact .inr (.inl h1)
  ·rcases Og s b q hs h1 with h2|h2|h2
   ·exact .inl h2
   ·exact .inr (.inl h2)
   ·refine .inr (.inr ⟨h2,?_⟩);have g1:=hN 1 (by decide);have g2:=hN 2 (by decide)
    match s,hs,h1 with
    |0,_,.inl h1=>have:=(g1.l1 b q h1).1;omega
    |0,_,.inr h1=>have:=(g2.l1 b q h1).1;omega
    |1,_,.inl h1=>have:=(g1.l2 b q h1).1;omega
    |1,_,.inr h1=>have:=(g2.l2 b q h1).1;omega
    |_+2,hs,_=>omega
 have n1:=aS.splice (d:=d+1) (w':=w) (a':=a) (ps':=X 0) (vp':=V 0 0) (vk':=V 0 1) (P0:=H 0) (P1:=P 0 0) (P2:=P 0 1) (M:=M) hO i (i+2) (by omega) hi mid hn.heap hO.2.1 hn.s1 (by rw[<-hY];exact hn.s2)
  hmid (fun j p k hj hp hk=>F3 p k _ (hO.2.2.2.2.2.1 j p k hp hk) (fun b q hq=>hZ j b q (by omega) (by omega) hq)) (fun b q hq=>.inl hq) f1 f2
  (fun m b q hq=>by
   rcases sF m b q hq with h1|h1|⟨h1,_⟩
   ·exact .inl ⟨i,by omega,by omega,h1⟩
   ·exact .inl ⟨i+1,by omega,by omega,h1⟩
   ·exact .inr (fun hf=>by have:=hF b q hf;omega)) Oa
  (fun m m' b q hf hm hm'=>by
   have key: ∀m,Kj (H 0) (P 0 0) (P 0 1) M m b q->(m=1/\lab b q=1)\/(m=2/\lab b q=2)\/(∃n,m=n+3/\10<=lab b q/\M n b q):=fun m hm=>match m,hm with
    |0,hm=>absurd (hO.own.1 0 b q hm) hf
    |1,hm=>.inl ⟨rfl,(hn.l1 b q hm).1⟩
    |2,hm=>.inr (.inl ⟨rfl,(hn.l2 b q hm).1⟩)
    |n+3,hm=>by
     refine .inr (.inr ⟨n,rfl,?_,hm⟩);rcases sF n b q hm with h1|h1|⟨_,h1⟩
     ·exact absurd (hO.own.1 _ b q h1) hf
     ·exact absurd (hO.own.1 _ b q h1) hf
     ·exact h1
   rcases key m hm with⟨e1,e2⟩|⟨e1,e2⟩|⟨n,e1,e2,e3⟩<;>rcases key m' hm' with⟨c1,c2⟩|⟨c1,c2⟩|⟨n',c1,c2,c3⟩<;>first
    |omega
    |(have:=Oa n n' b q e3 c3;omega))
 refine(aS.close (d:=d+1) n1 (fun e=>by omega)).mono ?_;rintro b q ⟨j,hj⟩;rcases fF hj with c|c|c|⟨m,_,c⟩|⟨m,_,c⟩
 ·exact .inl (hO.own.1 0 b q c)
 ·exact(hn.l1 b q c).2.2.imp (hO.own.1 1 b q) id
 ·exact(hn.l2 b q c).2.2.imp (hO.own.1 2 b q) id
 ·exact .inl (hO.own.1 _ b q c)
 ·rcases sF m b q c with h1|h1|⟨h1,_⟩
  ·exact .inl (hO.own.1 _ b q h1)
  ·exact .inl (hO.own.1 _ b q h1)
  ·exact .inr h1
end
end Go.Proofs.YtagemonojdgbdaaGreatDoor
