import Derived.Test.YtagemonojdgbdaaGreatDoorF17
import Derived.Test.YtagemonojdgbdaaGreatDoorF18
namespace Go.Proofs.YtagemonojdgbdaaGreatDoor
set_option maxRecDepth 100000
set_option maxHeartbeats 16000000
open Go.RowKit
def lh(a:Nat):Value:=.pointer (some ⟨a,0,none⟩)
structure gS (w:World) (T:Nat) (most:Int) (o:Nat) (t:Nat->Nat) (ls:Nat->List Pr) (Fs:Nat->Nat->Nat->Prop):Prop where
 blk:w.heap[T]?=some (.cells #[.int .i64 most,lh (t 0),lh (t 1),lh (t 2),lh (t 3),lh (t 4)] 151 (0,0))
 tree: ∀i,i<5->bC w (t i) o (ls i) (Fs i)
 apart: ∀i j,i<5->j<5->i≠j-> ∀b q,Fs i b q-> ¬Fs j b q
 lj: ∀i,i<5-> ∀b q,Fs i b q->b<w.heap.size
 own: ∀i,i<5-> ∀q,¬Fs i T q
def qo(Fs:Nat->Nat->Nat->Prop)(b q:Nat):Prop:= ∃i,i<5/\Fs i b q
section
variable{w w':World}{T o:Nat}{most:Int}{t:Nat->Nat}{ls Vu:Nat->List Pr}{Fs:Nat->Nat->Nat->Prop}{S:Nat->Prop}{G:Nat->Nat->Prop}
theorem gS.congr(h:gS w T most o t ls Fs)(e: ∀i,i<5->ls i=Vu i):gS w T most o t Vu Fs:=
 ⟨h.blk,fun i hi=>by rw[<-e i hi];exact h.tree i hi,h.apart,h.lj,h.own⟩
theorem gS.eO(h:gS w T most o t ls Fs)(ho:Only S w w')(hT: ¬S T)(hd: ∀b q,qo Fs b q-> ¬S b):gS w' T most o t ls Fs:=
 ⟨ho.heap h.blk hT,fun i hi=>(h.tree i hi).eO ho (fun b q hf=>hd b q ⟨i,hi,hf⟩),h.apart,fun i hi b q hf=>cq (h.lj i hi b q hf) ho.size,h.own⟩
theorem gS.below(h:gS w T most o t ls Fs)(hb:Below w.heap.size w w'):gS w' T most o t ls Fs:=h.eO (qe hb) (fun h=>h) (fun _ _ _ h=>h)
theorem gS.lt(h:gS w T most o t ls Fs):T<w.heap.size:=oS h.blk
theorem gS.upd(h:gS w T most o t ls Fs){i:Nat}(hi:i<5){l':List Pr}(ht:bC w' (t i) o l' (fun b q=>Fs i b q\/w.heap.size<=b))(ho:OnlyC (Fs i) w w'):
  gS w' T most o t (iY ls i l') (iY Fs i (fun b q=>(Fs i b q\/w.heap.size<=b)/\b<w'.heap.size)):=by
 have hT:=h.lt;refine⟨ho.heap h.blk (h.own i hi),fun j hj=>?_,fun a b ha hb hab x y h1 h2=>?_,fun j hj b q hf=>?_,fun j hj q hf=>?_⟩
 ·by_cases Es:j=i
  ·subst Es;rw[fg,fg];exact ht.bound
  ·rw[fh _ _ Es,fh _ _ Es];exact(h.tree j hj).only ho (fun b q hf=>h.apart j i hj hi Es b q hf)
 ·by_cases hai:a=i
  ·subst hai;have XF:b≠a:=fun e=>hab e.symm;rw[fg]at h1;rw[fh _ _ XF]at h2;rcases h1.1 with h1|h1
   ·exact h.apart a b ha hb hab x y h1 h2
   ·have:=h.lj b hb x y h2;omega
  ·rw[fh _ _ hai]at h1;by_cases XF:b=i
   ·subst XF;rw[fg]at h2;rcases h2.1 with h2|h2
    ·exact h.apart a b ha hb hab x y h1 h2
    ·have:=h.lj a ha x y h1;omega
   ·rw[fh _ _ XF]at h2;exact h.apart a b ha hb hab x y h1 h2
 ·by_cases Es:j=i
  ·subst Es;rw[fg]at hf;exact hf.2
  ·rw[fh _ _ Es]at hf;exact cq (h.lj j hj b q hf) ho.size
 ·by_cases Es:j=i
  ·subst Es;rw[fg]at hf;rcases hf.1 with hf|hf
   ·exact h.own j hj q hf
   ·omega
  ·rw[fh _ _ Es]at hf;exact h.own j hj q hf
theorem Gt{i N M:Nat}(hi:i<5){b q:Nat}(h:qo (iY Fs i (fun b q=>(Fs i b q\/N<=b)/\b<M)) b q):qo Fs b q\/N<=b:=by
 obtain⟨j,hj,hf⟩:=h;by_cases Es:j=i
 ·subst Es;rw[fg]at hf;exact hf.1.elim (fun h=>.inl ⟨j,hj,h⟩) .inr
 ·rw[fh _ _ Es]at hf;exact .inl ⟨j,hj,hf⟩
theorem gS.c0(h:gS w T most o t ls Fs):w.cell? ⟨T,0,none⟩=some (.int .i64 most):=by simp[World.cell?,h.blk]
theorem gS.ci(h:gS w T most o t ls Fs){i:Nat}(hi:i<5):w.cell? ⟨T,i+1,none⟩=some (lh (t i)):=by
 match i,hi with
 |0,_|1,_|2,_|3,_|4,_=>simp[World.cell?,h.blk]
end
def cE(w:World)(T:Nat)(most:Int)(o:Nat)(l:av)(F:Nat->Nat->Prop):Prop:=
 ∃t Fs,gS w T most o t (gQ l) Fs/\ez l/\RowsFit l/\(∀q∈l,1<=q.1.length/\q.1.length<=16)/\(1<=most/\most<=1024)/\(l.length:Int)<=most/\(∀b q,qo Fs b q->F b q)/\ ∀q,F T q
section
variable{w w':World}{T o:Nat}{most:Int}{l:av}{F G:Nat->Nat->Prop}{S:Nat->Prop}
theorem cE.eO(h:cE w T most o l F)(ho:Only S w w')(hd: ∀b q,F b q-> ¬S b):cE w' T most o l F:=by obtain⟨t,Fs,h1,h2,h3,h4,h5,h6,h7,h8⟩:=h;exact⟨t,Fs,h1.eO ho (hd T 0 (h8 0)) (fun b q hf=>hd b q (h7 b q hf)),h2,h3,h4,h5,h6,h7,h8⟩
theorem cE.below(h:cE w T most o l F)(hb:Below w.heap.size w w'):cE w' T most o l F:=h.eO (qe hb) (fun _ _ _ h=>h)
theorem cE.mono(h:cE w T most o l F)(hF: ∀b q,F b q->G b q):cE w T most o l G:=by obtain⟨t,Fs,h1,h2,h3,h4,h5,h6,h7,h8⟩:=h;exact⟨t,Fs,h1,h2,h3,h4,h5,h6,fun b q hf=>hF b q (h7 b q hf),fun q=>hF T q (h8 q)⟩
theorem cE.bound(h:cE w T most o l F):cE w T most o l (fun b q=>F b q/\b<w.heap.size):=by obtain⟨t,Fs,h1,h2,h3,h4,h5,h6,h7,h8⟩:=h;exact⟨t,Fs,h1,h2,h3,h4,h5,h6,fun b q hf=>⟨h7 b q hf,let⟨i,hi,hf⟩:=hf;h1.lj i hi b q hf⟩,fun q=>⟨h8 q,h1.lt⟩⟩
theorem cE.up(h:cE w T most o l F):ez l:=by obtain⟨t,Fs,h1,h2,_⟩:=h;exact h2
theorem cE.fit(h:cE w T most o l F):RowsFit l:=by obtain⟨t,Fs,h1,h2,h3,_⟩:=h;exact h3
theorem cE.Gu(h:cE w T most o l F):1<=most/\most<=1024:=by obtain⟨t,Fs,h1,h2,h3,h4,h5,_⟩:=h;exact h5
theorem cE.len(h:cE w T most o l F):(l.length:Int)<=most:=by obtain⟨t,Fs,h1,h2,h3,h4,h5,h6,_⟩:=h;exact h6
end
theorem Et{w:World}{T N o:Nat}(h1:w.heap[T]?=some (.cells #[.int .i64 o,.int .i64 0,.pointer (some ⟨N,0,none⟩)] 203 (0,0)))(h2:w.heap[N]?=some (.cells #[.slice none 0 0,.slice none 0 0] 201 (0,0)))
  (ho:2<=o/\o<=16) (hne:N≠T):bC w T o [] (fun b _=>b=T\/b=N):=by
 refine⟨0,N,.mk [] [],fun b _=>b=N,h1,⟨rfl,.slice none 0 0,.slice none 0 0,[],fun i b _=>i=0/\b=N,h2,fun _=>⟨rfl,rfl⟩,az.nil _ _ _ _,az.nil _ _ _ _,rfl,fun i p k hp _=>by simp at hp,fun i b q h=>h.2,fun i j b q h h'=>h.1.trans h'.1.symm⟩,?_,rfl,eh,ho,fun b q h=>.inr h,fun q=>.inl rfl,fun q h=>hne h.symm⟩;exact⟨dj _,dj _,rfl⟩
theorem Co(w:World)(n:Nat)(h1:2<=n)(h2:n<=16):Calls Tryz.prog 57 #[.int .i64 n] w fun e w'=>
  ∃T F,e=.returned (.tuple #[.pointer (some ⟨T,0,none⟩),.int .i64 0])/\bC w' T n [] F/\(∀b q,F b q->w.heap.size<=b/\b<w'.heap.size)/\Below w.heap.size w w':=by
 have hb:=af w (.cells #[.slice none 0 0,.slice none 0 0] 201);have k1:=an w (.cells #[.slice none 0 0,.slice none 0 0] 201);have hb2:=af (w.alloc (.cells #[.slice none 0 0,.slice none 0 0] 201)) (.cells #[.int .i64 n,.int .i64 0,.pointer (some ⟨w.heap.size,0,none⟩)] 203);have k2:=an (w.alloc (.cells #[.slice none 0 0,.slice none 0 0] 201)) (.cells #[.int .i64 n,.int .i64 0,.pointer (some ⟨w.heap.size,0,none⟩)] 203)
 have H:=al (show ∃T F,T=w.heap.size+1/\bC ((w.alloc (.cells #[.slice none 0 0,.slice none 0 0] 201)).alloc (.cells #[.int .i64 n,.int .i64 0,.pointer (some ⟨w.heap.size,0,none⟩)] 203)) T n [] F/\(∀b q,F b q->w.heap.size<=b/\b<w.heap.size+2)/\Below w.heap.size w ((w.alloc (.cells #[.slice none 0 0,.slice none 0 0] 201)).alloc (.cells #[.int .i64 n,.int .i64 0,.pointer (some ⟨w.heap.size,0,none⟩)] 203))from
  ⟨_,fun b _=>b=w.heap.size+1\/b=w.heap.size,rfl,Et (by simpa using k2) (pw hb2 k1) ⟨h1,h2⟩ (by omega),fun b q h=>by omega,hb.trans (hb2.mono (by simp))⟩)
 have h1': ¬(n:Int)<2:=by omega
 have h2': ¬(16:Int)<(n:Int):=by omega
 clear hb k1 hb2 k2;go_enter Tryz.func57,Tryz.ntmps57;go_wp2_with fail
 go_ret2
 obtain⟨T,F,e,h3,h4,h5⟩:=H.out;subst e;exact⟨_,rfl,F,h3,fun b q h=>by have:=h4 b q h;simp;omega,h5⟩
def pG(w wr:World)(T:Nat)(most:Int)(n k:Nat):Prop:=
 ∃(cs:Array Value) (t:Nat->Nat) (Fs:Nat->Nat->Nat->Prop),wr.heap[T]?=some (.cells cs 151 (0,0))/\cs.size=6/\cs[0]?=some (.int .i64 most)/\Below w.heap.size w wr/\w.heap.size<=T/\
  (∀j,j<k->cs[j+1]?=some (lh (t j))/\bC wr (t j) n [] (Fs j)/\(∀b q,Fs j b q->(w.heap.size<=b/\b<wr.heap.size)/\b≠T))/\ ∀i j,i<k->j<k->i≠j-> ∀b q,Fs i b q-> ¬Fs j b q
theorem pG.more{w wr w':World}{T x:Nat}{most:Int}{n k:Nat}{F:Nat->Nat->Prop}(h:pG w wr T most n k)(hk:k<5)(hb:Below wr.heap.size wr w')(hE:bC w' x n [] F)(hF: ∀b q,F b q->wr.heap.size<=b/\b<w'.heap.size):pG w (w'.setCell ⟨T,k+1,none⟩ (lh x)) T most n (k+1):=by
 obtain⟨cs,t,Fs,h1,h2,h3,h5,h6,h7,h8⟩:=h;have DF:=oS h1;have h1':=pw hb h1;have ho:=Only.bp w' T (k+1) (lh x);refine⟨cs.setIfInBounds (k+1) (lh x),iY t k x,iY Fs k F,by simp[World.setCell,Array.getElem?_modify,h1'],by simpa using h2,?_,(h5.trans (hb.mono h5.size)).setCell (p:=⟨T,k+1,none⟩) h6 _,h6,fun j hj=>?_,fun i j hi hj hij b q q1 q2=>?_⟩
 ·rw[ix,ff (by omega)];exact h3
 ·by_cases hjk:j=k
  ·subst hjk;rw[fg,fg,ix,fi rfl,fi (by omega)];refine⟨rfl,hE.eO ho (fun b q hf e=>?_),fun b q hf=>?_⟩
   ·have:=hF b q hf;omega
   ·have:=hF b q hf;have:=h5.size;have:=ho.size;omega
  ·obtain⟨a1,a2,a3⟩:=h7 j (by omega);rw[fh _ _ hjk,fh _ _ hjk,ix,ff (by omega)];refine⟨a1,(a2.below hb).eO ho (fun b q hf e=>(a3 b q hf).2 e),fun b q hf=>?_⟩;have:=a3 b q hf;have:=hb.size;have:=ho.size;omega
 ·by_cases hik:i=k
  ·subst hik;have Es:j≠i:=fun e=>hij e.symm;rw[fg]at q1;rw[fh _ _ Es]at q2;have h1:=hF b q q1;have h2:=(h7 j (by omega)).2.2 b q q2;omega
  ·rw[fh _ _ hik]at q1;by_cases hjk:j=k
   ·subst hjk;rw[fg]at q2;have h1:=hF b q q2;have h2:=(h7 i (by omega)).2.2 b q q1;omega
   ·rw[fh _ _ hjk]at q2;exact h8 i j (by omega) (by omega) hij b q q1 q2
theorem pG.all{w wr:World}{T:Nat}{most:Int}{n:Nat}(h:pG w wr T most n 5)(h1:1<=most)(h2:most<=1024):cE wr T most n [] (fun b _=>w.heap.size<=b/\b<wr.heap.size):=by
 obtain⟨⟨l⟩,t,Fs,g1,g2,g3,g5,g6,g7,g8⟩:=h
 match l,g2 with
 |[c0,c1,c2,c3,c4,c5],_=>
  have a0:=(g7 0 (by decide)).1;have a1:=(g7 1 (by decide)).1;have a2:=(g7 2 (by decide)).1;have a3:=(g7 3 (by decide)).1;have a4:=(g7 4 (by decide)).1;simp at g3 a0 a1 a2 a3 a4;subst g3 a0 a1 a2 a3 a4;refine⟨t,Fs,⟨g1,fun i hi=>?_,g8,fun i hi b q hf=>((g7 i hi).2.2 b q hf).1.2,fun i hi q hf=>((g7 i hi).2.2 T q hf).2 rfl⟩,eh,fun q hq=>by simp at hq,fun q hq=>by simp at hq,⟨h1,h2⟩,by simp;omega,fun b q hf=>?_,fun q=>⟨g6,oS g1⟩⟩
  ·have:gQ [] i=[]:=by unfold gQ;split<;>rfl
   rw[this];exact(g7 i hi).2.1
  ·obtain⟨i,hi,hf⟩:=hf;exact((g7 i hi).2.2 b q hf).1
theorem Eu(w:World)(most:Int)(n:Nat)(h1:1<=most)(h2:most<=1024)(h3:2<=n)(h4:n<=16):Calls Tryz.prog 33 #[.int .i64 most,.int .i64 n] w fun e w'=>
  ∃T,e=.returned (.tuple #[.pointer (some ⟨T,0,none⟩),.int .i64 0])/\cE w' T most n [] (fun b _=>w.heap.size<=b/\b<w'.heap.size)/\Below w.heap.size w w':=by
 have hb0:=af w (.cells #[.int .i64 most,.pointer none,.pointer none,.pointer none,.pointer none,.pointer none] 151);have k0:=an w (.cells #[.int .i64 most,.pointer none,.pointer none,.pointer none,.pointer none,.pointer none] 151);have m1: ¬most<1:=by omega
 have m2: ¬1024<most:=by omega
 have HN:=al (ab h3 (ab h4 (ab h1 h2)));go_enter Tryz.func33,Tryz.ntmps33;go_upto_region 4 with fail;generalize w.alloc (.cells #[.int .i64 most,.pointer none,.pointer none,.pointer none,.pointer none,.pointer none] 151)=w1 at hb0 k0⊢;obtain⟨T,hT⟩: ∃x,w.heap.size=x:=⟨_,rfl⟩;rw[hT]at k0⊢;have HS:=al (show pG w w1 T most n 0 from⟨_,fun _=>0,fun _ _ _=>False,k0,rfl,rfl,hb0,by omega,fun j hj=>by omega,fun i j hi=>by omega⟩);clear hb0 k0 hT h3 h4;go_wp2_with fail
 go_loopw [19] (fun i wr=> ∃k:Nat,k<=5/\i=.int .i64 (k:Int)/\pG w wr T most n k) (fun i _=>5-(intOf i).toNat)
 case atStart=>exact⟨0,by decide,rfl,HS.out⟩
 case round=>
  obtain⟨k,hk,rfl,hR⟩:=hrel;by_cases hlt:k<5
  ·have HR:=al hR;have HC:=al (Co wr n HN.out.1 HN.out.2.1);clear hR;go_wp2_with fail;refine HC.out.mono ?_;rintro e w2 ⟨x,F,rfl,hE,hF,hb⟩;have hM:=HR.out.more hlt hb hE hF;obtain⟨cs,t,Fs,q1,q2,_⟩:=HR.out;have q1':=pw hb q1;obtain⟨cv,hcv⟩: ∃v,cs[k+1]?=some v:=⟨_,ir (by omega)⟩;have z0:w2.cell? ⟨T,1+k,none⟩=some cv:=by rw[Nat.add_comm 1 k];simp[World.cell?,q1',hcv]
   have z1:w2.frozen? ⟨T,1+k,none⟩=false:=by simp[World.frozen?,q1']
   have i1:(0:Int)<=(k:Int):=by omega
   have i2:(k:Int)<5:=by omega
   have HM:=al hM;clear hM q1 q1' q2 hcv hE hF hb HC;go_wp2_with fail;go_roundw
   case rel=>exact⟨k+1,by omega,by go_num,by rw[Nat.add_comm 1 k];exact HM.out⟩
   case measure=>simp[intOf];omega
  ·obtain rfl:k=5:=by omega
   have HR:=al hR;clear hR;go_wp2_with fail
   go_ret2
   have hA:=HR.out.all HN.out.2.2.1 HN.out.2.2.2;obtain⟨cs,t,Fs,q1,q2,q3,q5,q6,q7⟩:=id HR.out;exact⟨T,rfl,hA,q5⟩
end Go.Proofs.YtagemonojdgbdaaGreatDoor
