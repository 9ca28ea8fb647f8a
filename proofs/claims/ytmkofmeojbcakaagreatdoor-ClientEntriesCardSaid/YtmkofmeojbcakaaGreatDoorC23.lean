import Derived.Test.YtmkofmeojbcakaaGreatDoorC21
import Derived.Test.YtmkofmeojbcakaaGreatDoorC22
namespace Go.Proofs.YtmkofmeojbcakaaGreatDoor
open Go.Proofs.Tryz
set_option maxRecDepth 100000
set_option maxHeartbeats 16000000
open Go.RowKit
def mn(a:Nat):Value:=.pointer (some ⟨a,0,none⟩)
structure iD (w:World) (T:Nat) (most:Int) (o:Nat) (t:Nat->Nat) (ls:Nat->List Pr) (Fs:Nat->Nat->Nat->Prop):Prop where
 blk:w.heap[T]?=some (.cells #[.int .i64 most,mn (t 0),mn (t 1),mn (t 2),mn (t 3),mn (t 4)] 140 (0,0))
 tree: ∀i,i<5->bM w (t i) o (ls i) (Fs i)
 apart: ∀i j,i<5->j<5->i≠j-> ∀b q,Fs i b q-> ¬Fs j b q
 Qw: ∀i,i<5-> ∀b q,Fs i b q->b<w.heap.size
 own: ∀i,i<5-> ∀q,¬Fs i T q
def rZ(Fs:Nat->Nat->Nat->Prop)(b q:Nat):Prop:= ∃i,i<5/\Fs i b q
section
variable{w w':World}{T o:Nat}{most:Int}{t:Nat->Nat}{ls Zt:Nat->List Pr}{Fs:Nat->Nat->Nat->Prop}{S:Nat->Prop}{G:Nat->Nat->Prop}
theorem iD.congr(h:iD w T most o t ls Fs)(e: ∀i,i<5->ls i=Zt i):iD w T most o t Zt Fs:=
 ⟨h.blk,fun i hi=>by rw[<-e i hi];exact h.tree i hi,h.apart,h.Qw,h.own⟩
theorem iD.eJ(h:iD w T most o t ls Fs)(ho:Only S w w')(hT: ¬S T)(hd: ∀b q,rZ Fs b q-> ¬S b):iD w' T most o t ls Fs:=
 ⟨ho.heap h.blk hT,fun i hi=>(h.tree i hi).eJ ho (fun b q hf=>hd b q ⟨i,hi,hf⟩),h.apart,fun i hi b q hf=>cq (h.Qw i hi b q hf) ho.size,h.own⟩
theorem iD.below(h:iD w T most o t ls Fs)(hb:Below w.heap.size w w'):iD w' T most o t ls Fs:=h.eJ (pw hb) (fun h=>h) (fun _ _ _ h=>h)
theorem iD.lt(h:iD w T most o t ls Fs):T<w.heap.size:=oE h.blk
theorem iD.upd(h:iD w T most o t ls Fs){i:Nat}(hi:i<5){l':List Pr}(ht:bM w' (t i) o l' (fun b q=>Fs i b q\/w.heap.size<=b))(ho:OnlyC (Fs i) w w'):
  iD w' T most o t (jw ls i l') (jw Fs i (fun b q=>(Fs i b q\/w.heap.size<=b)/\b<w'.heap.size)):=by
 have hT:=h.lt;refine⟨ho.heap h.blk (h.own i hi),fun j hj=>?_,fun a b ha hb hab x y h1 h2=>?_,fun j hj b q hf=>?_,fun j hj q hf=>?_⟩
 ·by_cases GH:j=i
  ·subst GH;rw[fD,fD];exact ht.bound
  ·rw[fE _ _ GH,fE _ _ GH];exact(h.tree j hj).only ho (fun b q hf=>h.apart j i hj hi GH b q hf)
 ·by_cases hai:a=i
  ·subst hai;have hbi:b≠a:=fun e=>hab e.symm;rw[fD]at h1;rw[fE _ _ hbi]at h2;rcases h1.1 with h1|h1
   ·exact h.apart a b ha hb hab x y h1 h2
   ·have:=h.Qw b hb x y h2;omega
  ·rw[fE _ _ hai]at h1;by_cases hbi:b=i
   ·subst hbi;rw[fD]at h2;rcases h2.1 with h2|h2
    ·exact h.apart a b ha hb hab x y h1 h2
    ·have:=h.Qw a ha x y h1;omega
   ·rw[fE _ _ hbi]at h2;exact h.apart a b ha hb hab x y h1 h2
 ·by_cases GH:j=i
  ·subst GH;rw[fD]at hf;exact hf.2
  ·rw[fE _ _ GH]at hf;exact cq (h.Qw j hj b q hf) ho.size
 ·by_cases GH:j=i
  ·subst GH;rw[fD]at hf;rcases hf.1 with hf|hf
   ·exact h.own j hj q hf
   ·omega
  ·rw[fE _ _ GH]at hf;exact h.own j hj q hf
theorem Jv{i N M:Nat}(hi:i<5){b q:Nat}(h:rZ (jw Fs i (fun b q=>(Fs i b q\/N<=b)/\b<M)) b q):rZ Fs b q\/N<=b:=by
 obtain⟨j,hj,hf⟩:=h;by_cases GH:j=i
 ·subst GH;rw[fD]at hf;exact hf.1.elim (fun h=>.inl ⟨j,hj,h⟩) .inr
 ·rw[fE _ _ GH]at hf;exact .inl ⟨j,hj,hf⟩
theorem iD.c0(h:iD w T most o t ls Fs):w.cell? ⟨T,0,none⟩=some (.int .i64 most):=by simp[World.cell?,h.blk]
theorem iD.ci(h:iD w T most o t ls Fs){i:Nat}(hi:i<5):w.cell? ⟨T,i+1,none⟩=some (mn (t i)):=by
 match i,hi with
 |0,_|1,_|2,_|3,_|4,_=>simp[World.cell?,h.blk]
end
def cd(w:World)(T:Nat)(most:Int)(o:Nat)(l:ax)(F:Nat->Nat->Prop):Prop:=
 ∃t Fs,iD w T most o t (iC l) Fs/\fc l/\RowsFit l/\(∀q∈l,1<=q.1.length/\q.1.length<=16)/\(1<=most/\most<=1024)/\(l.length:Int)<=most/\(∀b q,rZ Fs b q->F b q)/\ ∀q,F T q
section
variable{w w':World}{T o:Nat}{most:Int}{l:ax}{F G:Nat->Nat->Prop}{S:Nat->Prop}
theorem cd.eJ(h:cd w T most o l F)(ho:Only S w w')(hd: ∀b q,F b q-> ¬S b):cd w' T most o l F:=by obtain⟨t,Fs,h1,h2,h3,h4,h5,h6,h7,h8⟩:=h;exact⟨t,Fs,h1.eJ ho (hd T 0 (h8 0)) (fun b q hf=>hd b q (h7 b q hf)),h2,h3,h4,h5,h6,h7,h8⟩
theorem cd.below(h:cd w T most o l F)(hb:Below w.heap.size w w'):cd w' T most o l F:=h.eJ (pw hb) (fun _ _ _ h=>h)
theorem cd.mono(h:cd w T most o l F)(hF: ∀b q,F b q->G b q):cd w T most o l G:=by obtain⟨t,Fs,h1,h2,h3,h4,h5,h6,h7,h8⟩:=h;exact⟨t,Fs,h1,h2,h3,h4,h5,h6,fun b q hf=>hF b q (h7 b q hf),fun q=>hF T q (h8 q)⟩
abbrev cd.m:=@cd.mono
theorem cd.bound(h:cd w T most o l F):cd w T most o l (fun b q=>F b q/\b<w.heap.size):=by obtain⟨t,Fs,h1,h2,h3,h4,h5,h6,h7,h8⟩:=h;exact⟨t,Fs,h1,h2,h3,h4,h5,h6,fun b q hf=>⟨h7 b q hf,let⟨i,hi,hf⟩:=hf;h1.Qw i hi b q hf⟩,fun q=>⟨h8 q,h1.lt⟩⟩
theorem cd.up(h:cd w T most o l F):fc l:=by obtain⟨t,Fs,h1,h2,_⟩:=h;exact h2
theorem cd.fit(h:cd w T most o l F):RowsFit l:=by obtain⟨t,Fs,h1,h2,h3,_⟩:=h;exact h3
theorem cd.Jw(h:cd w T most o l F):1<=most/\most<=1024:=by obtain⟨t,Fs,h1,h2,h3,h4,h5,_⟩:=h;exact h5
theorem cd.len(h:cd w T most o l F):(l.length:Int)<=most:=by obtain⟨t,Fs,h1,h2,h3,h4,h5,h6,_⟩:=h;exact h6
end
theorem GI{w:World}{T N o:Nat}(h1:w.heap[T]?=some (.cells #[.int .i64 o,.int .i64 0,.pointer (some ⟨N,0,none⟩)] 187 (0,0)))(h2:w.heap[N]?=some (.cells #[.slice none 0 0,.slice none 0 0] 185 (0,0)))
  (ho:2<=o/\o<=16) (hne:N≠T):bM w T o [] (fun b _=>b=T\/b=N):=by
 refine⟨0,N,.mk [] [],fun b _=>b=N,h1,⟨rfl,.slice none 0 0,.slice none 0 0,[],fun i b _=>i=0/\b=N,h2,fun _=>⟨rfl,rfl⟩,az.nil _ _ _ _,az.nil _ _ _ _,rfl,fun i p k hp _=>by simp at hp,fun i b q h=>h.2,fun i j b q h h'=>h.1.x h'.1.symm⟩,?_,rfl,et,ho,fun b q h=>.inr h,fun q=>.inl rfl,fun q h=>hne h.symm⟩;exact⟨dq _,dq _,rfl⟩
theorem Eh(w:World)(n:Nat)(h1:2<=n)(h2:n<=16):Calls prog 53 #[.int .i64 n] w fun e w'=>
  ∃T F,e=.returned (.tuple #[.pointer (some ⟨T,0,none⟩),.int .i64 0])/\bM w' T n [] F/\(∀b q,F b q->w.heap.size<=b/\b<w'.heap.size)/\Below w.heap.size w w':=by
 obtain⟨hb,k1⟩:=qn w (.cells #[.slice none 0 0,.slice none 0 0] 185);obtain⟨hb2,k2⟩:=qn (w.alloc (.cells #[.slice none 0 0,.slice none 0 0] 185)) (.cells #[.int .i64 n,.int .i64 0,.pointer (some ⟨w.heap.size,0,none⟩)] 187)
 have H:=al (show ∃T F,T=w.heap.size+1/\bM ((w.alloc (.cells #[.slice none 0 0,.slice none 0 0] 185)).alloc (.cells #[.int .i64 n,.int .i64 0,.pointer (some ⟨w.heap.size,0,none⟩)] 187)) T n [] F/\(∀b q,F b q->w.heap.size<=b/\b<w.heap.size+2)/\Below w.heap.size w ((w.alloc (.cells #[.slice none 0 0,.slice none 0 0] 185)).alloc (.cells #[.int .i64 n,.int .i64 0,.pointer (some ⟨w.heap.size,0,none⟩)] 187))from
  ⟨_,fun b _=>b=w.heap.size+1\/b=w.heap.size,rfl,GI (by simpa using k2) (pt hb2 k1) ⟨h1,h2⟩ (by omega),fun b q h=>by omega,hb.x (hb2.m (by simp))⟩)
 have h1': ¬(n:Int)<2:=by omega
 have h2': ¬(16:Int)<(n:Int):=by omega
 clear hb k1 hb2 k2;go_enter func53,ntmps53;go_wp2
 go_ret2
 obtain⟨T,F,e,h3,h4,h5⟩:=H.o;subst e;exact⟨_,rfl,F,h3,fun b q h=>by have:=h4 b q h;simp;omega,h5⟩
def qX(w wr:World)(T:Nat)(most:Int)(n k:Nat):Prop:=
 ∃(cs:Array Value) (t:Nat->Nat) (Fs:Nat->Nat->Nat->Prop),wr.heap[T]?=some (.cells cs 140 (0,0))/\cs.size=6/\cs[0]?=some (.int .i64 most)/\Below w.heap.size w wr/\w.heap.size<=T/\
  (∀j,j<k->cs[j+1]?=some (mn (t j))/\bM wr (t j) n [] (Fs j)/\(∀b q,Fs j b q->(w.heap.size<=b/\b<wr.heap.size)/\b≠T))/\ ∀i j,i<k->j<k->i≠j-> ∀b q,Fs i b q-> ¬Fs j b q
theorem qX.more{w wr w':World}{T x:Nat}{most:Int}{n k:Nat}{F:Nat->Nat->Prop}(h:qX w wr T most n k)(hk:k<5)(hb:Below wr.heap.size wr w')(hE:bM w' x n [] F)(hF: ∀b q,F b q->wr.heap.size<=b/\b<w'.heap.size):qX w (w'.setCell ⟨T,k+1,none⟩ (mn x)) T most n (k+1):=by
 obtain⟨cs,t,Fs,h1,h2,h3,h5,h6,h7,h8⟩:=h;have Ki:=oE h1;have h1':=pt hb h1;have ho:=Only.aN w' T (k+1) (mn x);refine⟨cs.setIfInBounds (k+1) (mn x),jw t k x,jw Fs k F,by simp[World.setCell,Array.getElem?_modify,h1'],by simpa using h2,?_,(h5.x (hb.m h5.size)).setCell (p:=⟨T,k+1,none⟩) h6 _,h6,fun j hj=>?_,fun i j hi hj hij b q q1 q2=>?_⟩
 ·rw[ir,ff (by omega)];exact h3
 ·by_cases hjk:j=k
  ·subst hjk;rw[fD,fD,ir,fi rfl,fi (by omega)];refine⟨rfl,hE.eJ ho (fun b q hf e=>?_),fun b q hf=>?_⟩
   ·have:=hF b q hf;omega
   ·have:=hF b q hf;have:=h5.size;have:=ho.size;omega
  ·obtain⟨a1,a2,a3⟩:=h7 j (by omega);rw[fE _ _ hjk,fE _ _ hjk,ir,ff (by omega)];refine⟨a1,(a2.below hb).eJ ho (fun b q hf e=>(a3 b q hf).2 e),fun b q hf=>?_⟩;have:=a3 b q hf;have:=hb.size;have:=ho.size;omega
 ·by_cases hik:i=k
  ·subst hik;have GH:j≠i:=fun e=>hij e.symm;rw[fD]at q1;rw[fE _ _ GH]at q2;have h1:=hF b q q1;have h2:=(h7 j (by omega)).2.2 b q q2;omega
  ·rw[fE _ _ hik]at q1;by_cases hjk:j=k
   ·subst hjk;rw[fD]at q2;have h1:=hF b q q2;have h2:=(h7 i (by omega)).2.2 b q q1;omega
   ·rw[fE _ _ hjk]at q2;exact h8 i j (by omega) (by omega) hij b q q1 q2
theorem qX.all{w wr:World}{T:Nat}{most:Int}{n:Nat}(h:qX w wr T most n 5)(h1:1<=most)(h2:most<=1024):cd wr T most n [] (fun b _=>w.heap.size<=b/\b<wr.heap.size):=by
 obtain⟨⟨l⟩,t,Fs,g1,g2,g3,g5,g6,g7,g8⟩:=h
 match l,g2 with
 |[c0,c1,c2,c3,c4,c5],_=>
  have a0:=(g7 0 (by decide)).1;have a1:=(g7 1 (by decide)).1;have a2:=(g7 2 (by decide)).1;have a3:=(g7 3 (by decide)).1;have a4:=(g7 4 (by decide)).1;simp at g3 a0 a1 a2 a3 a4;subst g3 a0 a1 a2 a3 a4;refine⟨t,Fs,⟨g1,fun i hi=>?_,g8,fun i hi b q hf=>((g7 i hi).2.2 b q hf).1.2,fun i hi q hf=>((g7 i hi).2.2 T q hf).2 rfl⟩,et,fun q hq=>by simp at hq,fun q hq=>by simp at hq,⟨h1,h2⟩,by simp;omega,fun b q hf=>?_,fun q=>⟨g6,oE g1⟩⟩
  ·have:iC [] i=[]:=by unfold iC;split<;>rfl
   rw[this];exact(g7 i hi).2.1
  ·obtain⟨i,hi,hf⟩:=hf;exact((g7 i hi).2.2 b q hf).1
theorem xU(w:World)(most:Int)(n:Nat)(h1:1<=most)(h2:most<=1024)(h3:2<=n)(h4:n<=16):Calls prog 35 #[.int .i64 most,.int .i64 n] w fun e w'=>
  ∃T,e=.returned (.tuple #[.pointer (some ⟨T,0,none⟩),.int .i64 0])/\cd w' T most n [] (fun b _=>w.heap.size<=b/\b<w'.heap.size)/\Below w.heap.size w w':=by
 obtain⟨hb0,k0⟩:=qn w (.cells #[.int .i64 most,.pointer none,.pointer none,.pointer none,.pointer none,.pointer none] 140);have m1: ¬most<1:=by omega
 have m2: ¬1024<most:=by omega
 have HN:=al (ab h3 (ab h4 (ab h1 h2)));go_enter func35,ntmps35;go_upto_region 4 with fail;generalize w.alloc (.cells #[.int .i64 most,.pointer none,.pointer none,.pointer none,.pointer none,.pointer none] 140)=w1 at hb0 k0⊢;obtain⟨T,hT⟩:=qt (w.heap.size);rw[hT]at k0⊢;have HS:=al (show qX w w1 T most n 0 from⟨_,fun _=>0,fun _ _ _=>False,k0,rfl,rfl,hb0,by omega,fun j hj=>by omega,fun i j hi=>by omega⟩);clear hb0 k0 hT h3 h4;go_wp2_with fail
 go_loopw [19] (fun i wr=> ∃k:Nat,k<=5/\i=.int .i64 (k:Int)/\qX w wr T most n k) (fun i _=>5-(intOf i).toNat)
 case atStart=>exact⟨0,by decide,rfl,HS.o⟩
 case round=>
  obtain⟨k,hk,rfl,hR⟩:=hrel;by_cases hlt:k<5
  ·have HR:=al hR;have HC:=al (Eh wr n HN.o.1 HN.o.2.1);clear hR;go_wp2_with fail;refine HC.o.m ?_;rintro e w2 ⟨x,F,rfl,hE,hF,hb⟩;have hM:=HR.o.more hlt hb hE hF;obtain⟨cs,t,Fs,q1,q2,_⟩:=HR.o;have q1':=pt hb q1;obtain⟨cv,hcv⟩: ∃v,cs[k+1]?=some v:=⟨_,gC (by omega)⟩;have z0:w2.cell? ⟨T,1+k,none⟩=some cv:=by rw[Nat.add_comm 1 k];simp[World.cell?,q1',hcv]
   have z1:w2.frozen? ⟨T,1+k,none⟩=false:=by simp[World.frozen?,q1']
   have i1:(0:Int)<=(k:Int):=by omega
   have i2:(k:Int)<5:=by omega
   have HM:=al hM;clear hM q1 q1' q2 hcv hE hF hb HC;go_wp2_with fail;go_roundw
   case rel=>exact⟨k+1,by omega,by go_num,by rw[Nat.add_comm 1 k];exact HM.o⟩
   case measure=>simp[intOf];omega
  ·obtain rfl:k=5:=by omega
   have HR:=al hR;clear hR;go_wp2_with fail
   go_ret2
   have hA:=HR.o.all HN.o.d.1 HN.o.t;obtain⟨cs,t,Fs,q1,q2,q3,q5,q6,q7⟩:=id HR.o;exact⟨T,rfl,hA,q5⟩
theorem vM{k:List UInt8}(h:1<=k.length/\k.length<=16):dU k=0:=by unfold dU;rw[ff (by omega)]
theorem nT(w:World)(T a:Nat)(h:w.cell? ⟨T,1,none⟩=some (mn a)):Calls prog 57 #[.pointer (some ⟨T,0,none⟩)] w fun e w'=>e=.returned (mn a)/\w=w':=by
 unfold mn at h⊢;go_enter func57,ntmps57;go_wp2;go_ret
 exact⟨rfl,rfl⟩
theorem uI(w:World)(T a c:Nat)(hc:c<4)(h:w.cell? ⟨T,c+1+1,none⟩=some (mn a)):Calls prog 83 #[.pointer (some ⟨T,0,none⟩),.int .i64 (c:Int)] w fun e w'=>e=.returned (mn a)/\w=w':=by
 unfold mn at h⊢;rw[show c+1+1=1+(c+1) by omega]at h;have h0:(1:Int)+(c:Int)=((c+1:Nat):Int):=by omega
 have i1:(0:Int)<=((c+1:Nat):Int):=by omega
 have i2:((c+1:Nat):Int)<5:=by omega
 generalize c+1=d at h h0 i1 i2;go_enter func83,ntmps83;go_wp2;go_ret
 exact⟨rfl,rfl⟩
theorem uJ(w:World)(T:Nat)(k:List UInt8):Calls prog 54 #[.pointer (some ⟨T,0,none⟩),.string ⟨k.toArray⟩] w fun e w'=>e=.returned (.int .i64 (dU k))/\w=w':=by
 have HC:=al (ej w k);go_enter func54,ntmps54;go_wp2_with fail;refine HC.o.m ?_;rintro e w1 ⟨rfl,rfl⟩;go_wp2_with fail;go_ret
 exact⟨rfl,rfl⟩
theorem GJ(w:World)(T o:Nat)(most:Int)(t:Nat->Nat)(ls:Nat->List Pr)(Fs:Nat->Nat->Nat->Prop)(h:iD w T most o t ls Fs):Calls prog 56 #[.pointer (some ⟨T,0,none⟩)] w fun e w'=>e=.returned (.int .i64 (ls 0).length)/\w=w':=by
 have HC:=al (ab (nT w T (t 0) (h.ci (by decide))) (GA w (t 0) o (ls 0) (Fs 0) (h.tree 0 (by decide))));clear h;go_enter func56,ntmps56;go_wp2_with fail;refine HC.o.1.m ?_;rintro e w1 ⟨rfl,rfl⟩;unfold mn;go_wp2_with fail;refine HC.o.2.m ?_;rintro e w1 ⟨rfl,rfl⟩;go_wp2_with fail;go_ret
 exact⟨rfl,rfl⟩
theorem tL(w:World)(T o:Nat)(most:Int)(l:ax)(F:Nat->Nat->Prop)(h:cd w T most o l F):Calls prog 56 #[.pointer (some ⟨T,0,none⟩)] w fun e w'=>e=.returned (.int .i64 l.length)/\w=w':=by obtain⟨t,Fs,h1,h2,h3,_⟩:=h;have:=GJ w T o most t _ Fs h1;rw[kI h2 h3]at this;exact this
theorem GK(w:World)(T o:Nat)(most:Int)(l:ax)(F:Nat->Nat->Prop)(h:cd w T most o l F):Calls prog 186 #[.pointer (some ⟨T,0,none⟩)] w fun e w'=>e=.returned (.int .i64 most)/\w=w':=by
 obtain⟨t,Fs,h1,_⟩:=h;have c0:=h1.c0;clear h1;go_enter func186,ntmps186;go_wp2;go_ret
 exact⟨rfl,rfl⟩
def abo(w w':World)(v:Value)(r:Option Rw):Prop:=vh w' v r/\ ∀b,v=.pointer (some ⟨b,0,none⟩)->w.heap.size<=b
def Zu(r:Option Rw)(w:World)(e:Ending)(w':World):Prop:= ∃v,e=.returned v/\abo w w' v r/\Below w.heap.size w w'
theorem look_ok(w:World)(T o:Nat)(most:Int)(l:ax)(F:Nat->Nat->Prop)(k:List UInt8)(h:cd w T most o l F)(hk:1<=k.length/\k.length<=16):
  Calls prog 55 #[.pointer (some ⟨T,0,none⟩),.string ⟨k.toArray⟩] w (Zu (au k l) w):=by
 obtain⟨t,Fs,h1,h2,h3,_⟩:=h;have hG:=Gz w (t 0) o (iC l 0) (Fs 0) k (h1.tree 0 (by decide)) hk.1 (by omega);have hl:look k (iC l 0)=(au k l).map fT:=De fT k l;have HC:=al (ab (nT w T (t 0) (h1.ci (by decide))) hG);have HL:=al hl;have hfit: ∀r,au k l=some r-> ∀c,I6 (r.aM c):=fun r hr=>h3 (k,r) ((aD h2).1 hr);have HF:=al hfit;clear h1 h2 h3 hG hl hfit hk;go_enter func55,ntmps55;go_wp2_with fail;refine HC.o.1.m ?_;rintro e w1 ⟨rfl,rfl⟩;unfold mn;go_wp2_with fail;refine HC.o.2.m ?_;rintro e w1 ⟨rfl,hb⟩;rw[HL.o];have HB:=al hb;clear HC hb
 cases hq:au k l with
 |none=>
  have HQ:=al hq;simp only[Option.map_none,Option.getD_none,lP,nh,if_false];clear hq;go_wp2_with fail;go_ret
  exact⟨_,rfl,⟨by rw[HQ.o];rfl,fun b hb=>by cases hb⟩,HB.o⟩
 |some r=>
  have hr6:=HF.o r hq;have HQ:=al (ab hq hr6);simp only[Option.map_some,Option.getD_some,lz,if_true];have hcv:=fun w=>Gf w (fT r);have hel:=rP r;obtain⟨E,hE⟩:=qt (fT r);have HE:=al (ab hE hel);rw[hE]at hcv⊢;clear hq hr6 hE hel;go_wp2_with fail;have iB:=NB w1 5 (fT r) (by have:=HE.o.2;unfold maxLen;omega);have hbb:=DV w1 5 ⟨(fT r).toArray⟩;have HD:=al (ab (KU _ _ r _ HQ.o.2 iB) hbb);rw[HE.o.1]at HD;clear iB hbb hcv;refine HD.o.1.m ?_;rintro e w2 ⟨rfl,hb2⟩;have fg:=al (show Below w.heap.size w w2 from(HB.o.x (HD.o.2.m HB.o.size)).x (hb2.m (da HB.o.size HD.o.2.size)));clear hb2 HD;obtain⟨ra,rb,rc,rd⟩:=r;unfold Rw.val;obtain⟨ek,kx⟩:=qn w2 (.cells #[.int .i64 ra,.int .i64 rb,.int .i64 rc,.int .i64 rd] 113);have HX:=al (ab ek kx);clear ek kx;go_wp2_with fail;go_ret
  exact⟨_,rfl,⟨by rw[HQ.o.1];exact⟨_,rfl,HX.o.2⟩,fun b hb=>by injection hb with hb;injection hb with hb;injection hb with hb;have:=fg.o.size;omega⟩,fg.o.x (HX.o.1.m fg.o.size)⟩
theorem GL(w:World)(k:List UInt8)(hk:1<=k.length/\k.length<=16)(po pn:Value)(old now:Option Rw)(ho:vh w po old)(hn:vh w pn now)(h: ¬(old=none/\now=none)):
  Calls prog 81 #[.string ⟨k.toArray⟩,po,pn] w (Sb (Nu k old now) w):=by
 cases old with
 |none=>
  obtain rfl:=ho
  cases now with
  |none=>exact absurd ⟨rfl,rfl⟩ h
  |some n=>obtain⟨b,rfl,hb⟩:=hn;exact GC w k hk b n hb
 |some o=>
  obtain⟨a,rfl,ha⟩:=ho
  cases now with
  |none=>obtain rfl:=hn;exact GD w k hk a o ha
  |some n=>obtain⟨b,rfl,hb⟩:=hn;exact GF w k hk a o ha b n hb
theorem Sg{w:World}{F:Nat->Prop}{A:Option Addr}{n c:Nat}{l:List Ch}(h:aS 4 w F (.slice A n c) (l.map Ch.cells)){j:Nat}{x:Ch}(hj:l[j]?=some x):
  ∃b o,A=some ⟨b,o,none⟩/\F b/\w.cell? ⟨b,o+j*4,none⟩=some (.int .i64 (x.aM:Int))/\w.cell? ⟨b,o+j*4+1,none⟩=some (.int .i64 x.v)/\w.cell? ⟨b,o+j*4+2,none⟩=some (.string ⟨x.k.toArray⟩)/\
   w.cell? ⟨b,o+j*4+3,none⟩=some (.bool x.add):=by
 obtain⟨A',n',c',hv,hl,_,_,hx⟩:=h;injection hv with h1 h2 h3;subst h1 h2 h3;have hlt:=(b8.1 hj).1;obtain⟨b,o,rfl,hF,hc⟩:=hx (by simp at hl;omega);have hx':(l.map Ch.cells)[j]?=some x.cells:=by simp[hj]
 exact⟨b,o,rfl,hF,hc j _ hx' 0 _ rfl,hc j _ hx' 1 _ rfl,hc j _ hx' 2 _ rfl,hc j _ hx' 3 _ rfl⟩
def pq(T o:Nat)(most:Int)(t:Nat->Nat)(ls:Nat->List Pr)(xs:List Ch)(Fs:Nat->Nat->Nat->Prop)(w w':World):Prop:=
 ∃CN,iD w' T most o t (xs.foldl lu ls) CN/\(∀b q,rZ CN b q->rZ Fs b q\/w.heap.size<=b)/\OnlyC (rZ Fs) w w'
theorem Si{w:World}{T o:Nat}{most:Int}{t:Nat->Nat}{ls:Nat->List Pr}{Fs:Nat->Nat->Nat->Prop}(h:iD w T most o t ls Fs){b q:Nat}(hb:rZ Fs b q):b<w.heap.size:=let⟨i,hi,hf⟩:=hb;h.Qw i hi b q hf
theorem pq.step{w w1 w':World}{T o:Nat}{most:Int}{t:Nat->Nat}{ls:Nat->List Pr}{xs:List Ch}{Fs CN:Nat->Nat->Nat->Prop}{x:Ch}(hx:x.aM<4)(hs:w.heap.size<=w1.heap.size)
  (h:iD w1 T most o t (xs.foldl lu ls) CN) (hF: ∀b q,rZ CN b q->rZ Fs b q\/w.heap.size<=b) (ho:OnlyC (rZ Fs) w w1)
  {l':List Pr} (hl:l'=lu (xs.foldl lu ls) x (x.aM+1)) (ht:bM w' (t (x.aM+1)) o l' (fun b q=>CN (x.aM+1) b q\/w1.heap.size<=b)) (ho':OnlyC (CN (x.aM+1)) w1 w'):pq T o most t ls (xs++[x]) Fs w w':=by
 refine⟨jw CN (x.aM+1) (fun b q=>(CN (x.aM+1) b q\/w1.heap.size<=b)/\b<w'.heap.size),?_,fun b q hb=>?_,ho.x ho' (fun b q hb hf=>?_)⟩
 ·have h1:=h.upd (i:=x.aM+1) (by omega) ht ho';rw[List.foldl_append,List.foldl_cons,List.foldl_nil];refine h1.congr (fun i _=>?_);rw[hl];unfold lu jw;by_cases e:i=x.aM+1
  ·rw[fi e,fi rfl,fi e]
  ·rw[ff e,ff e]
 ·rcases Jv (by omega) hb with hb|hb
  ·exact hF b q hb
  ·exact .inr (by omega)
 ·rcases hF b q ⟨_,by omega,hf⟩with h|h
  ·exact h
  ·omega
theorem Jy(w:World)(T o:Nat)(most:Int)(t:Nat->Nat)(ls:Nat->List Pr)(Fs:Nat->Nat->Nat->Prop)(k:List UInt8)(po pn:Value)(old now:Option Rw)(h:iD w T most o t ls Fs)(hk:1<=k.length/\k.length<=16)
  (ho:vh w po old) (hn:vh w pn now) (hne: ¬(old=none/\now=none)) (fe: ∀r,old=some r-> ∀c,I6 (r.aM c)) (fB: ∀r,now=some r-> ∀c,I6 (r.aM c)) (hlen: ∀i,i<5->(ls i).length<=900000):
  Calls prog 60 #[.pointer (some ⟨T,0,none⟩),.string ⟨k.toArray⟩,po,pn] w fun e w'=>e=.returned (.tuple #[])/\pq T o most t ls (Nu k old now) Fs w w':=by
 have HC:=al (GL w k hk po pn old now ho hn hne);obtain⟨xs,hxs⟩:=qt (Nu k old now);have Uk: ∀x∈xs,(x.aM<4/\x.k=k)/\I6 x.v:=fun x hx=>by rw[<-hxs]at hx;exact⟨Je hx,Jf fe fB hx⟩
 have hxl:xs.length<=8:=by rw[<-hxs];exact rQ k old now 4
 rw[hxs]at HC⊢;have H:=al (ab h (ab hk (ab Uk (ab hxl hlen))));clear h hk hne fe fB hlen hxs Uk;have hpo:(∃b,po=.pointer b):=by cases old with|none=>exact⟨_,ho⟩|some r=>obtain⟨b,e,_⟩:=ho;exact⟨_,e⟩
 have hpn:(∃b,pn=.pointer b):=by cases now with|none=>exact⟨_,hn⟩|some r=>obtain⟨b,e,_⟩:=hn;exact⟨_,e⟩
 obtain⟨bo,rfl⟩:=hpo;obtain⟨bn,rfl⟩:=hpn;clear ho hn;go_enter func60,ntmps60
 go_step3
 go_wp2_with fail;refine HC.o.m ?_;rintro e w1 ⟨v,rfl,hown,hb1⟩;obtain⟨A,c,rfl⟩:=ag hown;obtain⟨n,hn⟩:=qt (xs.length);rw[hn]at hxl;have iB:aS 4 w1 (fun b=>w.heap.size<=b/\b<w1.heap.size) (.slice A n c) (xs.map Ch.cells):=by rw[<-hn];exact aS.aU hown (tK xs) (by decide) (fun g hg=>hown.lt g hg)
 have H1:=al (ab iB (ab hb1 hn));rw[hn];clear iB hb1 hown hn HC;go_wp2_with fail
 go_step3
 go_wp2_with fail
 go_loopw [23] (fun i wr=> ∃j:Nat,j<=n/\i=.int .i64 (j:Int)/\pq T o most t ls (xs.take j) Fs w1 wr) (fun i _=>n-(intOf i).toNat)
 case atStart=>exact⟨0,by omega,rfl,Fs,H.o.1.below H1.o.2.1,fun b q h=>.inl h,OnlyC.refl _ _⟩
 case round=>
  obtain⟨j,hj,rfl,CN,hW,hF',Sj⟩:=hrel;by_cases hlt:j<n
  ·obtain⟨x,hx⟩: ∃x,xs[j]?=some x:=⟨_,ao (by rw[H1.o.d];exact hlt)⟩;have Zv:aS 4 wr (fun b=>w.heap.size<=b/\b<w1.heap.size) (.slice A n c) (xs.map Ch.cells):=H1.o.1.only Sj.only (fun b hb ⟨q,hq⟩=>by have:=Si H.o.1 hq;omega);obtain⟨b,o',rfl,Oo,d0,d1,d2,d3⟩:=Sg Zv hx;have hcm:c<=maxLen:=by obtain⟨_,_,_,e,_,_,h,_⟩:=H1.o.1;injection e with _ _ e;omega
   have hnc:n<=c:=by obtain⟨_,_,_,e,_,h,_,_⟩:=H1.o.1;injection e with _ e2 e;omega
   unfold maxLen at hcm;obtain⟨⟨zi,hxk⟩,hxv⟩:=H.o.d.1 x (de hx);obtain⟨xc,xv,xk,xa⟩:=x;simp only at zi hxk hxv d0 d1 d2 d3;subst hxk;have i1:(0:Int)<=(j:Int):=by omega
   have i2:(j:Int)<(n:Int):=by omega
   obtain⟨ek,kx⟩:=qn wr (.cells #[.int .i64 (xc:Int),.int .i64 xv,.string ⟨xk.toArray⟩,.bool xa] 203);have HX:=al (ab (hW.below ek) (ab hF' (ab (Sj.x (oy ek (rZ Fs)) (fun _ _ _ h=>h)) (ab hx (ab zi hxv)))));clear hW hF' Sj Zv hx Oo hxv;go_upto_region 4 with fail;clear d0 d1 d2 d3;have HB:=al ek;clear ek;generalize wr.alloc (.cells #[.int .i64 (xc:Int),.int .i64 xv,.string ⟨xk.toArray⟩,.bool xa] 203)=w2 at HX HB kx⊢;obtain⟨X,hX⟩:=qt (wr.heap.size);rw[hX]at kx⊢;obtain⟨⟨e0,e1,e2,e3⟩,-⟩:=cL kx;have HK:=al (ab kx hX);have HP:=al (GG w2 xv xk HX.o.q.2 H.o.2.1);clear kx hX;go_wp2_with fail;refine HP.o.m ?_;rintro e w3 ⟨rfl,hb3⟩;have k3:=pt hb3 HK.o.1;obtain⟨⟨e0,e1,e2,e3⟩,-⟩:=cL k3;have H3:=al (show iD w3 T most o t ((xs.take j).foldl lu ls) CN/\OnlyC (rZ Fs) w1 w3 from⟨HX.o.1.below hb3,HX.o.d.1.x (oy hb3 (rZ Fs)) (fun _ _ _ h=>h)⟩)
   have Jz:((xs.take j).foldl lu ls (xc+1)).length<=1000000:=by have h1:=xG (xc+1) (xs.take j) ls 900000 (H.o.q _ (by omega));rw[kh]at h1;omega
   have hent:1<=(dP xv xk).length/\(dP xv xk).length<=64:=by unfold dP;rw[fb,cu];have:=H.o.2.1;omega
   have HI:=al (uI w3 T (t (xc+1)) xc zi (H3.o.1.ci (i:=xc+1) (by omega)));have xV:=H3.o.1.tree (xc+1) (by omega);have Sk:=H3.o.1.Qw (xc+1) (by omega)
   have htk:xs.take j++[⟨xc,xv,xk,xa⟩]=xs.take (j+1):=by have:=HX.o.t.1;rw[iv,this];rfl
   clear hb3 k3 HP;cases xa
   focus
    have HT:=al (Gy w3 (t (xc+1)) o _ (CN (xc+1)) (dP xv xk) xV Sk hent.1 hent.2 Jz);have HN:=al htk;clear xV Sk hent Jz htk;go_wp2_with fail;refine HI.o.m ?_;rintro e w4 ⟨rfl,rfl⟩;unfold mn;go_wp2_with fail;refine HT.o.m ?_;rintro e w5 ⟨rfl,Zw,jr⟩;have HR:=al (pq.step (x:=⟨xc,xv,xk,false⟩) zi (H3.o.2.size) H3.o.1 HX.o.2.1 H3.o.2 (by unfold lu;rw[ff (by simp),fD]) Zw jr)
   rotate_left
   focus
    have HT:=al (qU w3 (t (xc+1)) o _ (CN (xc+1)) (dP xv xk,[]) xV Sk hent.1 hent.2 (by simp) Jz);have HN:=al htk;clear xV Sk hent Jz htk;go_wp2_with fail;refine HI.o.m ?_;rintro e w4 ⟨rfl,rfl⟩;unfold mn;go_wp2_with fail;refine HT.o.m ?_;rintro e w5 ⟨rfl,Zw,jr⟩;have HR:=al (pq.step (x:=⟨xc,xv,xk,true⟩) zi (H3.o.2.size) H3.o.1 HX.o.2.1 H3.o.2 (by unfold lu;rw[fi rfl,fD]) Zw jr)
   all_goals
    rw[HN.o]at HR;clear Zw jr HT;go_wp2_with fail;go_roundw
    case rel=>exact⟨j+1,by omega,by go_num,HR.o⟩
    case measure=>simp[intOf];omega
  ·obtain rfl:j=n:=by omega
   have HR:=al (show pq T o most t ls xs Fs w wr from by
    rw[gE (by rw[H1.o.d];exact Nat.le_refl _)]at hW
    refine⟨CN,hW,fun b q hb=>(hF' b q hb).imp id (fun h=>by have:=H1.o.2.1.size;omega),(oy H1.o.2.1 (rZ Fs)).x Sj (fun _ _ _ h=>h)⟩)
   clear hW hF' Sj;go_wp2_with fail;rw[Exit.noGoto_normal];exact eC (du rfl _ _ _) rfl ⟨rfl,HR.o⟩
theorem vh.only{w w':World}{v:Value}{r:Option Rw}{S:Nat->Prop}(h:vh w v r)(ho:Only S w w')(hd: ∀b,v=.pointer (some ⟨b,0,none⟩)-> ¬S b):vh w' v r:=by
 cases r with
 |none=>exact h
 |some r=>obtain⟨b,e,h⟩:=h;exact⟨b,e,ho.heap h (hd b e)⟩
theorem b6{w:World}{A:Nat}{a0 a1 a2 a3 v0 v1 v2 v3:Value}{t:TypeId}(h:w.heap[A]?=some (.cells #[a0,a1,a2,a3] t (0,0))):
  ((((w.setCell ⟨A,0,none⟩ v0).setCell ⟨A,1,none⟩ v1).setCell ⟨A,2,none⟩ v2).setCell ⟨A,3,none⟩ v3).heap[A]?=some (.cells #[v0,v1,v2,v3] t (0,0))/\Only (fun k=>k=A) w ((((w.setCell ⟨A,0,none⟩ v0).setCell ⟨A,1,none⟩ v1).setCell ⟨A,2,none⟩ v2).setCell ⟨A,3,none⟩ v3):=
 ⟨zS h,(((bj w A 0 v0).setCell (p:=⟨A,1,none⟩) (fun _=>rfl) v1).setCell (p:=⟨A,2,none⟩) (fun _=>rfl) v2).setCell (p:=⟨A,3,none⟩) (fun _=>rfl) v3⟩
def nU(r:Option Rw)(w:World)(e:Ending)(w':World):Prop:=e=.returned (.tuple #[(r.getD .zero).val,.int .i64 (if r.isSome then 0 else 14)])/\Below w.heap.size w w'
theorem tM(w:World)(T o:Nat)(most:Int)(l:ax)(F:Nat->Nat->Prop)(k:List UInt8)(h:cd w T most o l F)(hk:1<=k.length/\k.length<=16):
  Calls prog 188 #[.pointer (some ⟨T,0,none⟩),.string ⟨k.toArray⟩] w (nU (au k l) w):=by
 obtain⟨hb0,k0⟩:=qn w (.cells #[.int .i64 0,.int .i64 0,.int .i64 0,.int .i64 0] 113);have h0:=h.below hb0;clear h;go_enter func188,ntmps188;go_upto_region 1 with fail;generalize w.alloc (.cells #[.int .i64 0,.int .i64 0,.int .i64 0,.int .i64 0] 113)=w1 at hb0 k0 h0⊢;obtain⟨A,hA⟩:=qt (w.heap.size);rw[hA]at k0⊢;have HC:=al (ab (uJ w1 T k) (look_ok w1 T o most l F k h0 hk));rw[vM hk]at HC;have H:=al (ab hb0 (ab k0 hA));clear h0 hk hb0 k0 hA;go_wp2_with fail;refine HC.o.1.m ?_;rintro e w2 ⟨rfl,rfl⟩;go_wp2_with fail;refine HC.o.2.m ?_;rintro e w2 ⟨v,rfl,hv,hb⟩;have k2:=pt hb H.o.2.1;obtain⟨⟨-,-,-,-⟩,y0,y1,y2,y3⟩:=cL k2;obtain⟨⟨z0,z1,z2,z3⟩,-⟩:=cL k2;have hb2:=H.o.1.x (hb.m H.o.1.size);have H2:=al (ab hb2 k2)
 cases hq:au k l with
 |none=>rw[hq]at hv;obtain⟨rfl,-⟩:=hv;have HQ:=al hq;clear hb hb2 k2 hq HC;go_wp2_with fail;have HO:=al (b6 (v0:=.int .i64 0) (v1:=.int .i64 0) (v2:=.int .i64 0) (v3:=.int .i64 0) H2.o.2);generalize ((((w2.setCell ⟨A,0,none⟩ (.int .i64 0)).setCell ⟨A,1,none⟩ (.int .i64 0)).setCell ⟨A,2,none⟩ (.int .i64 0)).setCell ⟨A,3,none⟩ (.int .i64 0))=w3 at HO⊢;refine dr (aB rfl _ _ _ _ _ _ _ rfl HO.o.1 underlying113 rfl (by kernel_rfl)) rfl ⟨by rw[HQ.o];rfl,?_⟩;exact H2.o.1.x (HO.o.2.aG H2.o.1.size (fun k hk h=>by have:=H.o.d;omega))
 |some r=>
  rw[hq]at hv;obtain⟨⟨b,rfl,BR⟩,aR⟩:=hv;have hne: ¬b=A:=by have:=aR b rfl;have:=aQ H.o.2.1;omega
  obtain⟨ra,rb,rc,rd⟩:=r;obtain⟨⟨x0,x1,x2,x3⟩,-⟩:=cL BR;have HQ:=al hq;clear hb hb2 k2 hq HC BR aR;go_wp2_with fail;have HO:=al (b6 (v0:=.int .i64 ra) (v1:=.int .i64 rb) (v2:=.int .i64 rc) (v3:=.int .i64 rd) H2.o.2);generalize ((((w2.setCell ⟨A,0,none⟩ (.int .i64 ra)).setCell ⟨A,1,none⟩ (.int .i64 rb)).setCell ⟨A,2,none⟩ (.int .i64 rc)).setCell ⟨A,3,none⟩ (.int .i64 rd))=w3 at HO⊢;refine dr (aB rfl _ _ _ _ _ _ _ rfl HO.o.1 underlying113 rfl (by kernel_rfl)) rfl ⟨by rw[HQ.o];rfl,?_⟩;exact H2.o.1.x (HO.o.2.aG H2.o.1.size (fun k hk h=>by have:=H.o.d;omega))
def Ci(most:Int)(l:ax)(k:List UInt8)(r:Rw):ax:=if au k l=none/\most<=(l.length:Int)then l else bP (k,r) l
def zj(most:Int)(l:ax)(k:List UInt8):Int:=if au k l=none/\most<=(l.length:Int)then 16 else 0
theorem OnlyC.far{F:Nat->Nat->Prop}{S:Nat->Prop}{w w' w'':World}(h:OnlyC F w w')(ho:Only S w' w'')(hS: ∀k,k<w.heap.size-> ¬S k):OnlyC F w w'':=by
 refine⟨ho.os.x h.os,ho.tape.x h.tape,ho.output.x h.output,da h.size ho.size,fun k cs t fr hk=>?_,fun k hk hF=>?_⟩
 ·obtain⟨cs',h1,h2,h3⟩:=h.shape k cs t fr hk;exact⟨cs',(ho.block k (cq (oE hk) h.size) (hS k (oE hk))).x h1,h2,h3⟩
 ·exact(ho.block k (cq hk h.size) (hS k hk)).x (h.block k hk hF)
theorem iD.one{w w4 w5:World}{T o:Nat}{most:Int}{t:Nat->Nat}{ls:Nat->List Pr}{Fs:Nat->Nat->Nat->Prop}{i:Nat}{l':List Pr}(h:iD w T most o t ls Fs)(hi:i<5)(hb:Below w.heap.size w w4)
  (ht:bM w5 (t i) o l' (fun b q=>Fs i b q\/w4.heap.size<=b)) (ho:OnlyC (Fs i) w4 w5): ∃Sl,iD w5 T most o t (jw ls i l') Sl/\(∀b q,rZ Sl b q->rZ Fs b q\/w.heap.size<=b)/\OnlyC (rZ Fs) w w5:=by
 refine⟨jw Fs i (fun b q=>(Fs i b q\/w4.heap.size<=b)/\b<w5.heap.size),(h.below hb).upd hi ht ho,fun b q hf=>?_,(oy hb (rZ Fs)).x ho (fun b q _ hf=>⟨i,hi,hf⟩)⟩;rcases Jv hi hf with h|h
 ·exact .inl h
 ·exact .inr (da hb.size h)
theorem pq.from_{w w5 w9:World}{T o:Nat}{most:Int}{t:Nat->Nat}{ls:Nat->List Pr}{xs:List Ch}{Fs Sl:Nat->Nat->Nat->Prop}(hP:pq T o most t ls xs Sl w5 w9)(h1: ∀b q,rZ Sl b q->rZ Fs b q\/w.heap.size<=b)(ho:OnlyC (rZ Fs) w w5):pq T o most t ls xs Fs w w9:=by
 obtain⟨CN,hW,hF,Sj⟩:=hP;refine⟨CN,hW,fun b q hb=>?_,ho.x Sj (fun b q hb hf=>?_)⟩
 ·rcases hF b q hb with h|h
  ·exact h1 b q h
  ·exact .inr (da ho.size h)
 ·rcases h1 b q hf with h|h
  ·exact h
  ·omega
theorem JA{w w2 w9 ze:World}{T o A:Nat}{most:Int}{t:Nat->Nat}{l':ax}{xs:List Ch}{ls:Nat->List Pr}{F:Nat->Nat->Prop}{Fs:Nat->Nat->Nat->Prop}(hb:Below w.heap.size w w2)(hP:pq T o most t ls xs Fs w2 w9)
  (ho:Only (fun k=>k=A) w9 ze) (hA:w.heap.size<=A) (hA2:A<w2.heap.size) (hAF: ∀q,¬rZ Fs A q) (hTw:T<w.heap.size) (Ul: ∀b q,rZ Fs b q->F b q) (hT: ∀q,F T q) (he: ∀i,i<5->xs.foldl lu ls i=iC l' i)
  (h1:fc l') (h2:RowsFit l') (h3: ∀q∈l',1<=q.1.length/\q.1.length<=16) (h4:1<=most/\most<=1024) (h5:(l'.length:Int)<=most):cd ze T most o l' (fun b q=>F b q\/w.heap.size<=b)/\OnlyC F w ze:=by
 obtain⟨CN,hW,hF',Sj⟩:=hP;refine⟨⟨t,CN,((hW.congr he).eJ ho (fun e=>by omega) (fun b q hf e=>?_)),h1,h2,h3,h4,h5,fun b q hf=>?_,fun q=>.inl (hT q)⟩,?_⟩
 ·subst e;rcases hF' b q hf with h|h
  ·exact hAF q h
  ·omega
 ·rcases hF' b q hf with h|h
  ·exact .inl (Ul b q h)
  ·exact .inr (da hb.size h)
 ·exact(((oy hb F).x (Sj.m (fun b q _ h=>Ul b q h)) (fun _ _ _ h=>h))).far ho (fun k hk e=>by omega)
def vN(T o:Nat)(most:Int)(l:ax)(k:List UInt8)(r:Rw)(F:Nat->Nat->Prop)(w:World)(e:Ending)(w':World):Prop:=
 e=.returned (.tuple #[((if zj most l k=0 then au k l else none).getD .zero).val,.bool (au k l).isSome,.int .i64 (zj most l k)])/\cd w' T most o (Ci most l k r) (fun b q=>F b q\/w.heap.size<=b)/\OnlyC F w w'
theorem Ei{l:ax}{k:List UInt8}{r:Rw}(h: ∀q∈l,1<=q.1.length/\q.1.length<=16)(hk:1<=k.length/\k.length<=16): ∀q∈bP (k,r) l,1<=q.1.length/\q.1.length<=16:=fun q hq=>(gW hq).elim (fun e=>by subst e;exact hk) (h q)
theorem K8(w:World)(T o:Nat)(most:Int)(l:ax)(F:Nat->Nat->Prop)(k:List UInt8)(r:Rw)(h:cd w T most o l F)(hF: ∀b q,F b q->b<w.heap.size)(hk:1<=k.length/\k.length<=16)(hr: ∀c,I6 (r.aM c)):
  Calls prog 37 #[.pointer (some ⟨T,0,none⟩),.string ⟨k.toArray⟩,r.val] w (vN T o most l k r F w):=by
 have hmm:=h.Jw;have hll:=h.len;obtain⟨hb0,k0⟩:=qn w (.cells #[.int .i64 r.a,.int .i64 r.b,.int .i64 r.c,.int .i64 r.d] 113);obtain⟨hb1,k1⟩:=qn (w.alloc (.cells #[.int .i64 r.a,.int .i64 r.b,.int .i64 r.c,.int .i64 r.d] 113)) (.cells #[.int .i64 0,.int .i64 0,.int .i64 0,.int .i64 0] 113);have hs1:(w.alloc (.cells #[.int .i64 r.a,.int .i64 r.b,.int .i64 r.c,.int .i64 r.d] 113)).heap.size=w.heap.size+1:=by simp
 have H0:=al (show Below w.heap.size w ((w.alloc (.cells #[.int .i64 r.a,.int .i64 r.b,.int .i64 r.c,.int .i64 r.d] 113)).alloc (.cells #[.int .i64 0,.int .i64 0,.int .i64 0,.int .i64 0] 113))/\
  ((w.alloc (.cells #[.int .i64 r.a,.int .i64 r.b,.int .i64 r.c,.int .i64 r.d] 113)).alloc (.cells #[.int .i64 0,.int .i64 0,.int .i64 0,.int .i64 0] 113)).heap[w.heap.size]?=some (.cells #[.int .i64 r.a,.int .i64 r.b,.int .i64 r.c,.int .i64 r.d] 113 (0,0))/\
  ((w.alloc (.cells #[.int .i64 r.a,.int .i64 r.b,.int .i64 r.c,.int .i64 r.d] 113)).alloc (.cells #[.int .i64 0,.int .i64 0,.int .i64 0,.int .i64 0] 113)).heap[w.heap.size+1]?=some (.cells #[.int .i64 0,.int .i64 0,.int .i64 0,.int .i64 0] 113 (0,0))from
  ⟨hb0.x (hb1.m hb0.size),pt hb1 k0,by rw[<-hs1];exact k1⟩)
 obtain⟨ra,rb,rc,rd⟩:=r;unfold Rw.val;simp only at H0;clear hb0 k0 hb1 k1 hs1;have HH:=al (ab h (ab hF (ab hk (ab hr (ab hmm hll)))));clear h hF hk hr hmm hll;go_enter func37,ntmps37;go_upto_region 1 with fail;have H1:=H0.o;clear H0;generalize (w.alloc (.cells #[.int .i64 ra,.int .i64 rb,.int .i64 rc,.int .i64 rd] 113)).alloc (.cells #[.int .i64 0,.int .i64 0,.int .i64 0,.int .i64 0] 113)=w1 at H1⊢;obtain⟨hb1,kr,ka⟩:=H1;obtain⟨R,hR⟩:=qt (w.heap.size);rw[hR]at kr ka⊢;obtain⟨A,hA⟩:=qt (R+1);rw[hA]at ka⊢;have h1:=HH.o.1.below hb1;have HC:=al (ab (uJ w1 T k) (look_ok w1 T o most l F k h1 HH.o.d.1));rw[vM HH.o.d.1]at HC;have H:=al (ab hb1 (ab kr (ab ka (ab hR (ab hA h1)))));clear hb1 kr ka hR hA h1;go_wp2_with fail;refine HC.o.1.m ?_;rintro e w2 ⟨rfl,rfl⟩;go_wp2_with fail;refine HC.o.2.m ?_;rintro e w2 ⟨v,rfl,hv,hb⟩;have kr:=pt hb H.o.2.1;have ka:=pt hb H.o.d.1;have h2:=H.o.q.2.below hb;have hb2:=H.o.1.x (hb.m H.o.1.size);have Mn: ∀b,v=.pointer (some ⟨b,0,none⟩)->A<b:=fun b e=>by have:=hv.2 b e;have:=aQ H.o.d.1;omega
 have H2:=al (ab hb2 (ab kr (ab ka (ab h2 (ab hv.1 Mn)))));clear kr ka h2 hb2 Mn hb HC;obtain⟨t,Fs,hW,g2,g3,g4,g5,g6,g7,g8⟩:=H2.o.t.1;have Qx: ∀q,¬rZ Fs R q:=fun q hq=>by have:=HH.o.2.1 R q (g7 R q hq);have:=H.o.t.1;omega
 have hFA: ∀q,¬rZ Fs A q:=fun q hq=>by have:=HH.o.2.1 A q (g7 A q hq);have:=H.o.t.1;have:=H.o.q.1;omega
 have XC: ∀b q,rZ Fs b q->b<w.heap.size:=fun b q hq=>HH.o.2.1 b q (g7 b q hq);have hTw:T<w.heap.size:=HH.o.2.1 T 0 (g8 0);have c0:=hW.c0;have HT:=al (ab hW (ab g2 (ab g3 (ab g4 (ab g5 (ab g6 (ab g7 (ab g8 (ab Qx (ab hFA (ab XC hTw)))))))))));clear hW g2 g3 g4 g5 g6 g7 g8 Qx hFA XC hTw
 cases hq:au k l with
 |none=>
  rw[hq]at hv;obtain⟨rfl,-⟩:=hv;obtain⟨N,hN⟩: ∃N:Nat,l.length=N:=⟨_,rfl⟩;have HL:=al (fun n=>tL (w2.drewN n) T o most l F (H2.o.t.1.eJ ((ox (fun _=>False) w2).drewN n) (fun _ _ _ h=>h)));rw[hN]at HL;by_cases hge:most<=(N:Int)
  ·have HQ:=al (show au k l=none/\most<=(l.length:Int)from⟨hq,by rw[hN];exact hge⟩);clear hq hN;go_wp2_with fail;go_quiet((go_at_call 56;exact nu (HL.o _)));rename_i nq;clear c0 hge;go_upto_region 6 with fail;obtain⟨w3,hw3⟩:=qt (w2.drewN nq);have hb3:Below w2.heap.size w2 w3:=by rw[<-hw3];exact Only.aG ((ox (fun _=>False) w2).drewN nq) (aE _) (fun _ _ h=>h)
   rw[hw3];have k3:=pt hb3 H2.o.d.1;obtain⟨⟨z0,z1,z2,z3⟩,y0,y1,y2,y3⟩:=cL k3;have yK:=al (ab hb3 k3);clear hb3 k3 hw3;go_wp2_with fail;have HO:=al (b6 (v0:=.int .i64 0) (v1:=.int .i64 0) (v2:=.int .i64 0) (v3:=.int .i64 0) yK.o.2);generalize (((w3.setCell ⟨A,0,none⟩ (.int .i64 0)).setCell ⟨A,1,none⟩ (.int .i64 0)).setCell ⟨A,2,none⟩ (.int .i64 0)).setCell ⟨A,3,none⟩ (.int .i64 0)=ze at HO⊢;refine dr (dm rfl _ _ _ _ _ _ _ rfl HO.o.1 underlying113 rfl (by kernel_rfl)) rfl ?_;have hE:zj most l k=16:=by unfold zj;rw[fi HQ.o]
   have hR:Ci most l k ⟨ra,rb,rc,rd⟩=l:=by unfold Ci;rw[fi HQ.o]
   unfold vN;rw[hE,hR,HQ.o.1];have Oq:Below w.heap.size w ze:=(H2.o.1.x (yK.o.1.m H2.o.1.size)).x (Only.aG (HO.o.2) (da H2.o.1.size yK.o.1.size) (fun k hk h=>by have:=H.o.t.1;have:=H.o.q.1;omega));exact⟨rfl,(HH.o.1.below Oq).m (fun b q h=>.inl h),oy Oq F⟩
  ·have HQ:=al (show au k l=none/\ ¬most<=(l.length:Int)from⟨hq,by rw[hN];exact hge⟩);clear hq hN;go_wp2_with fail;go_quiet((go_at_call 56;exact nu (HL.o _)));rename_i nq;simp only[show decide (most<=(N:Int))=false from decide_eq_false (by omega)];clear c0 hge;go_upto_region 7 with fail;generalize hW0:w2.drewN nq=W0;have hb0:Below w2.heap.size w2 W0:=by rw[<-hW0];exact Only.aG ((ox (fun _=>False) w2).drewN nq) (aE _) (fun _ _ h=>h)
   clear hW0;have kM:Below w2.heap.size w2 W0.drew:=hb0.drew;have Zx:Only (fun b=> ∃q,Fs 0 b q) w2 W0.drew:=oj kM _;clear hb0;refine o0 (S:=(fun W=>Only (fun b=> ∃q,Fs 0 b q) w2 W)) (by kernel_rfl) Zx (fun ph=>?_);generalize hW3:W0.drew=W3 at ph kM⊢;clear hW3 Zx;refine aI [0,2] ?_
   iterate 2 (refine bO (v:=?_) (fun wS hSw=>?_) ph ?_;rotate_left;(go_simp;try rfl);try simp only[ai,aj,ak,ar])
   refine aJ ?_;refine dR 3 (v:=?_) (fun wS hSw=>?_) ph ?_;rotate_left
   ·obtain⟨⟨u0,u1,u2,u3⟩,-⟩:=cL (hSw.heap H2.o.2.1 (fun⟨q,hq⟩=>HT.o.q.q.1 q ⟨0,by decide,hq⟩));go_simp;try rfl
   try simp only[ai,aj,ak,ar]
   refine aW 1 (fun K hK=>?_);go_simp;refine(nT _ T (t 0) ((kM.cell (p:=⟨T,1,none⟩) (by have:=HT.o.1.lt;exact this)).x (HT.o.1.ci (i:=0) (by decide)))).m ?_;rintro e wn ⟨rfl,rfl⟩
   try go_simp
   refine hK.o _ _ (ph) ?_;clear hK K ph;intro ph
   try simp only[ai,aj,ak,ar]
   refine aW 4 (fun K hK=>?_);go_simp;refine(Am _ ⟨ra,rb,rc,rd⟩ HH.o.t.1).m ?_;rintro e wn ⟨A2,c2,rfl,hx,aR⟩;have Ej:=kM.x (aR.m kM.size);have hcv:=BS (P:=prog) 41 9 5 underlying41 underlying5 underlying9 (Rd.aU (F:=fun _=>True) hx (fun _ _=>trivial));rw[fa]at hcv;have kM:=Ej;clear Ej hx
   try go_simp
   refine hK.o _ _ (ph.x (oj aR _) (fun _ _ h=>h)) ?_;clear hK K ph aR;intro ph
   try simp only[ai,aj,ak,ar]
   refine aW 5 (fun K hK=>?_);go_simp;refine hK.o _ _ (ph) ?_;clear hK K ph hcv;intro ph
   try simp only[ai,aj,ak,ar]
   refine aW 6 (fun K hK=>?_);go_simp;refine(qU _ (t 0) o (iC l 0) (Fs 0) (k,fT ⟨ra,rb,rc,rd⟩) ((HT.o.1.tree 0 (by decide)).below kM) (fun b q hq=>cq (HT.o.1.Qw 0 (by decide) b q hq) kM.size) HH.o.d.1.1 (by have:=HH.o.d.1;exact da this.2 (by decide)) (da (rP _) (by decide)) (by rw[kI HT.o.2.1 HT.o.d.1];have:=HT.o.q.2.1;have:=HT.o.q.1;omega)).m ?_;rintro e wn ⟨rfl,ht,VU⟩;have Sm:=al (ab kM (ab ht VU));have Ot:=VU.only;clear kM ht VU
   try go_simp
   refine hK.o _ _ (ph.x Ot (fun _ _ h=>h)) ?_;clear hK K ph Ot;intro ph
   try simp only[ai,aj,ak,ar]
   refine pb (by kernel_rfl) ?_ _;obtain⟨Sl,hW1,Zy,jq⟩:=HT.o.1.one (by decide) Sm.o.1 Sm.o.2.1 Sm.o.d;clear Sm ph kM;have qh: ∀b,w.heap.size<=b-> ∀q,¬rZ Fs b q:=fun b hb q hq=>by have:=HT.o.q.q.d.1 b q hq;omega
   have Zz:=jq.heap H2.o.2.1 HT.o.q.q.1;have kA5:=jq.heap H2.o.d.1 HT.o.q.q.2.1
   have Ek: ∀i,i<5->(jw (iC l) 0 (ins (k,fT ⟨ra,rb,rc,rd⟩) (iC l 0)) i).length<=900000:=fun i hi=>by
    have h1:=kI HT.o.2.1 HT.o.d.1 i;have h0:=kI HT.o.2.1 HT.o.d.1 0;have h2:=HT.o.q.2.1;have h3:=HT.o.q.1;unfold jw;split
    ·have:=lT (k,fT ⟨ra,rb,rc,rd⟩) (iC l 0);rw[<-oO]at this;omega
    ·omega
   have HU:=al (Jy wn T o most t _ Sl k (.pointer none) (.pointer (some ⟨R,0,none⟩)) none (some ⟨ra,rb,rc,rd⟩) hW1 HH.o.d.1 (show vh _ _ none from rfl) ⟨_,rfl,Zz⟩ (fun h=>by cases h.2) (fun r hr=>by cases hr) (fun r hr=>by injection hr with hr;subst hr;exact HH.o.t.1) Ek);have H5:=al (ab Zy (ab jq qh));clear hW1 Zy jq Zz kA5 Ek qh;go_wp2_with fail;refine HU.o.m ?_;rintro e w9 ⟨rfl,hP⟩;have yL:=hP.from_ H5.o.1 H5.o.2.1;obtain⟨_,_,_,XD⟩:=id yL;have VV:=XD.heap H2.o.d.1 HT.o.q.q.2.1;obtain⟨⟨z0,z1,z2,z3⟩,y0,y1,y2,y3⟩:=cL VV;have H9:=al (ab yL VV);clear hP yL XD VV HU;go_wp2_with fail;have HO:=al (b6 (v0:=.int .i64 0) (v1:=.int .i64 0) (v2:=.int .i64 0) (v3:=.int .i64 0) H9.o.2);generalize (((w9.setCell ⟨A,0,none⟩ (.int .i64 0)).setCell ⟨A,1,none⟩ (.int .i64 0)).setCell ⟨A,2,none⟩ (.int .i64 0)).setCell ⟨A,3,none⟩ (.int .i64 0)=ze at HO⊢;refine dr (dm rfl _ _ _ _ _ _ _ rfl HO.o.1 underlying113 rfl (by kernel_rfl)) rfl ?_;have hE:zj most l k=0:=by unfold zj;rw[ff (fun h=>by have h1:=HQ.o.2;have h2:=h.2;omega)]
   have hR:Ci most l k ⟨ra,rb,rc,rd⟩=bP (k,⟨ra,rb,rc,rd⟩) l:=by unfold Ci;rw[ff (fun h=>by have h1:=HQ.o.2;have h2:=h.2;omega)]
   unfold vN;rw[hE,hR,HQ.o.1]
   have DA:((bP (k,(⟨ra,rb,rc,rd⟩:Rw)) l).length:Int)<=most:=by have h1:=ki (p:=(k,(⟨ra,rb,rc,rd⟩:Rw))) HT.o.2.1;simp only[HQ.o.1,lP,nh,if_false]at h1;have h2:=HT.o.q.2.1;have h3:=HQ.o.2;rw[h1];omega
   have he: ∀i,i<5->(Nu k none (some ⟨ra,rb,rc,rd⟩)).foldl lu (jw (iC l) 0 (ins (k,fT ⟨ra,rb,rc,rd⟩) (iC l 0))) i=iC (bP (k,⟨ra,rb,rc,rd⟩) l) i:=fun i hi=>by have:=DT (k:=k) (r:=⟨ra,rb,rc,rd⟩) HT.o.2.1 HT.o.d.1 HH.o.t.1 i hi;rw[HQ.o.1]at this;exact this
   refine⟨rfl,JA H2.o.1 H9.o.1 HO.o.2 (by have:=H.o.t.1;have:=H.o.q.1;omega) (aQ H2.o.d.1) HT.o.q.q.2.1 HT.o.q.q.t HT.o.q.d.1 HT.o.q.t.1 he (eK HT.o.2.1) (HT.o.d.1.ins HH.o.t.1) (Ei HT.o.t.1 HH.o.d.1) HT.o.q.1 DA⟩
 |some old=>
  obtain⟨oa,ob,oc,od⟩:=old;have HQ:=al hq;rw[hq]at hv;obtain⟨⟨B,rfl,BR⟩,-⟩:=hv;have hB:w2.heap[B]?=some (.cells #[.int .i64 oa,.int .i64 ob,.int .i64 oc,.int .i64 od] 113 (0,0))/\A<B:=⟨BR,H2.o.q.2 B rfl⟩;clear hq BR;go_wp2_with fail;go_quiet(fail);rename_i nq;clear c0;go_upto_region 7 with fail;generalize hW0:w2.drewN nq=W0;have hb0:Below w2.heap.size w2 W0:=by rw[<-hW0];exact Only.aG ((ox (fun _=>False) w2).drewN nq) (aE _) (fun _ _ h=>h)
  clear hW0;have kM:Below w2.heap.size w2 W0.drew:=hb0.drew;have Zx:Only (fun b=> ∃q,Fs 0 b q) w2 W0.drew:=oj kM _;clear hb0;refine o0 (S:=(fun W=>Only (fun b=> ∃q,Fs 0 b q) w2 W)) (by kernel_rfl) Zx (fun ph=>?_);generalize hW3:W0.drew=W3 at ph kM⊢;clear hW3 Zx;refine aI [0,2] ?_
  iterate 2 (refine bO (v:=?_) (fun wS hSw=>?_) ph ?_;rotate_left;(go_simp;try rfl);try simp only[ai,aj,ak,ar])
  refine aJ ?_;refine dR 3 (v:=?_) (fun wS hSw=>?_) ph ?_;rotate_left
  ·obtain⟨⟨u0,u1,u2,u3⟩,-⟩:=cL (hSw.heap H2.o.2.1 (fun⟨q,hq⟩=>HT.o.q.q.1 q ⟨0,by decide,hq⟩));go_simp;try rfl
  try simp only[ai,aj,ak,ar]
  refine aW 1 (fun K hK=>?_);go_simp;refine(nT _ T (t 0) ((kM.cell (p:=⟨T,1,none⟩) (by have:=HT.o.1.lt;exact this)).x (HT.o.1.ci (i:=0) (by decide)))).m ?_;rintro e wn ⟨rfl,rfl⟩
  try go_simp
  refine hK.o _ _ (ph) ?_;clear hK K ph;intro ph
  try simp only[ai,aj,ak,ar]
  refine aW 4 (fun K hK=>?_);go_simp;refine(Am _ ⟨ra,rb,rc,rd⟩ HH.o.t.1).m ?_;rintro e wn ⟨A2,c2,rfl,hx,aR⟩;have Ej:=kM.x (aR.m kM.size);have hcv:=BS (P:=prog) 41 9 5 underlying41 underlying5 underlying9 (Rd.aU (F:=fun _=>True) hx (fun _ _=>trivial));rw[fa]at hcv;have kM:=Ej;clear Ej hx
  try go_simp
  refine hK.o _ _ (ph.x (oj aR _) (fun _ _ h=>h)) ?_;clear hK K ph aR;intro ph
  try simp only[ai,aj,ak,ar]
  refine aW 5 (fun K hK=>?_);go_simp;refine hK.o _ _ (ph) ?_;clear hK K ph hcv;intro ph
  try simp only[ai,aj,ak,ar]
  refine aW 6 (fun K hK=>?_);go_simp;refine(qU _ (t 0) o (iC l 0) (Fs 0) (k,fT ⟨ra,rb,rc,rd⟩) ((HT.o.1.tree 0 (by decide)).below kM) (fun b q hq=>cq (HT.o.1.Qw 0 (by decide) b q hq) kM.size) HH.o.d.1.1 (by have:=HH.o.d.1;exact da this.2 (by decide)) (da (rP _) (by decide)) (by rw[kI HT.o.2.1 HT.o.d.1];have:=HT.o.q.2.1;have:=HT.o.q.1;omega)).m ?_;rintro e wn ⟨rfl,ht,VU⟩;have Sm:=al (ab kM (ab ht VU));have Ot:=VU.only;clear kM ht VU
  try go_simp
  refine hK.o _ _ (ph.x Ot (fun _ _ h=>h)) ?_;clear hK K ph Ot;intro ph
  try simp only[ai,aj,ak,ar]
  refine pb (by kernel_rfl) ?_ _;obtain⟨Sl,hW1,Zy,jq⟩:=HT.o.1.one (by decide) Sm.o.1 Sm.o.2.1 Sm.o.d;clear Sm ph kM;have qh: ∀b,w.heap.size<=b-> ∀q,¬rZ Fs b q:=fun b hb q hq=>by have:=HT.o.q.q.d.1 b q hq;omega
  have Zz:=jq.heap H2.o.2.1 HT.o.q.q.1;have kA5:=jq.heap H2.o.d.1 HT.o.q.q.2.1
  have Ek: ∀i,i<5->(jw (iC l) 0 (ins (k,fT ⟨ra,rb,rc,rd⟩) (iC l 0)) i).length<=900000:=fun i hi=>by
   have h1:=kI HT.o.2.1 HT.o.d.1 i;have h0:=kI HT.o.2.1 HT.o.d.1 0;have h2:=HT.o.q.2.1;have h3:=HT.o.q.1;unfold jw;split
   ·have:=lT (k,fT ⟨ra,rb,rc,rd⟩) (iC l 0);rw[<-oO]at this;omega
   ·omega
  have kB5:=jq.heap hB.1 (qh _ (by have:=hB.2;have:=H.o.t.1;have:=H.o.q.1;omega));have HU:=al (Jy wn T o most t _ Sl k (.pointer (some ⟨B,0,none⟩)) (.pointer (some ⟨R,0,none⟩)) (some ⟨oa,ob,oc,od⟩) (some ⟨ra,rb,rc,rd⟩) hW1 HH.o.d.1 (show vh _ _ (some ⟨oa,ob,oc,od⟩)from⟨_,rfl,kB5⟩) ⟨_,rfl,Zz⟩ (fun h=>by cases h.2) (fun r hr=>by injection hr with hr;subst hr;exact HT.o.d.1 _ ((aD HT.o.2.1).1 HQ.o)) (fun r hr=>by injection hr with hr;subst hr;exact HH.o.t.1) Ek);have H5:=al (ab Zy (ab jq qh));clear hW1 Zy jq Zz kA5 Ek qh kB5;go_wp2_with fail;refine HU.o.m ?_;rintro e w9 ⟨rfl,hP⟩;have yL:=hP.from_ H5.o.1 H5.o.2.1;obtain⟨_,_,_,XD⟩:=id yL;have VV:=XD.heap H2.o.d.1 HT.o.q.q.2.1;obtain⟨⟨z0,z1,z2,z3⟩,y0,y1,y2,y3⟩:=cL VV;have kB9:=XD.heap hB.1 (H5.o.d _ (by have:=hB.2;have:=H.o.t.1;have:=H.o.q.1;omega));obtain⟨⟨x0,x1,x2,x3⟩,-⟩:=cL kB9;have hBA: ¬B=A:=by have:=hB.2;omega
  have H9:=al (ab yL VV);clear hP yL XD VV HU kB9;go_wp2_with fail;have HO:=al (b6 (v0:=.int .i64 oa) (v1:=.int .i64 ob) (v2:=.int .i64 oc) (v3:=.int .i64 od) H9.o.2);generalize (((w9.setCell ⟨A,0,none⟩ (.int .i64 oa)).setCell ⟨A,1,none⟩ (.int .i64 ob)).setCell ⟨A,2,none⟩ (.int .i64 oc)).setCell ⟨A,3,none⟩ (.int .i64 od)=ze at HO⊢;refine dr (dm rfl _ _ _ _ _ _ _ rfl HO.o.1 underlying113 rfl (by kernel_rfl)) rfl ?_;have hE:zj most l k=0:=by unfold zj;rw[ff (fun h=>by rw[HQ.o]at h;cases h.1)]
  have hR:Ci most l k ⟨ra,rb,rc,rd⟩=bP (k,⟨ra,rb,rc,rd⟩) l:=by unfold Ci;rw[ff (fun h=>by rw[HQ.o]at h;cases h.1)]
  unfold vN;rw[hE,hR,HQ.o]
  have DA:((bP (k,(⟨ra,rb,rc,rd⟩:Rw)) l).length:Int)<=most:=by have h1:=ki (p:=(k,(⟨ra,rb,rc,rd⟩:Rw))) HT.o.2.1;simp only[HQ.o,lz,if_true]at h1;have h2:=HT.o.q.2.1;rw[h1];omega
  have he: ∀i,i<5->(Nu k (some ⟨oa,ob,oc,od⟩) (some ⟨ra,rb,rc,rd⟩)).foldl lu (jw (iC l) 0 (ins (k,fT ⟨ra,rb,rc,rd⟩) (iC l 0))) i=iC (bP (k,⟨ra,rb,rc,rd⟩) l) i:=fun i hi=>by have:=DT (k:=k) (r:=⟨ra,rb,rc,rd⟩) HT.o.2.1 HT.o.d.1 HH.o.t.1 i hi;rw[HQ.o]at this;exact this
  refine⟨rfl,JA H2.o.1 H9.o.1 HO.o.2 (by have:=H.o.t.1;have:=H.o.q.1;omega) (aQ H2.o.d.1) HT.o.q.q.2.1 HT.o.q.q.t HT.o.q.d.1 HT.o.q.t.1 he (eK HT.o.2.1) (HT.o.d.1.ins HH.o.t.1) (Ei HT.o.t.1 HH.o.d.1) HT.o.q.1 DA⟩
end Go.Proofs.YtmkofmeojbcakaaGreatDoor
