import Derived.Test.YtmkofmeojbcakaaGreatDoorC17
import Derived.Test.YtmkofmeojbcakaaGreatDoorC24
import Derived.Test.YtmkofmeojbcakaaGreatDoorC43
namespace Go.Proofs.YtmkofmeojbcakaaGreatDoor
open Go.Proofs.Tryz
set_option maxRecDepth 100000
set_option maxHeartbeats 16000000
open Go.RowKit
structure Ln where
 n:Int
 r:Rw
def ln5(x:Ln):List Value:=[.int .i64 x.n,.int .i64 x.r.a,.int .i64 x.r.b,.int .i64 x.r.c,.int .i64 x.r.d]
def Ff(w:World)(F:Nat->Prop)(v:Value)(l:List Ln):Prop:=aS 5 w F v (l.map ln5)
theorem aaI{w:World}{F:Nat->Prop}{A:Option Addr}{n c:Nat}{l:List Ln}(h:Ff w F (.slice A n c) l){j:Nat}{x:Ln}(hj:l[j]?=some x):
  ∃b o,A=some ⟨b,o,none⟩/\F b/\w.cell? ⟨b,o+j*5,none⟩=some (.int .i64 x.n)/\w.cell? ⟨b,o+j*5+1,none⟩=some (.int .i64 x.r.a)/\w.cell? ⟨b,o+j*5+2,none⟩=some (.int .i64 x.r.b)/\
   w.cell? ⟨b,o+j*5+3,none⟩=some (.int .i64 x.r.c)/\w.cell? ⟨b,o+j*5+4,none⟩=some (.int .i64 x.r.d):=by
 obtain⟨A',n',c',hv,hl,_,_,hx⟩:=h;injection hv with h1 h2 h3;subst h1 h2 h3;have hlt:=(b8.1 hj).1;obtain⟨b,o,rfl,hF,hc⟩:=hx (by simp at hl;omega);have hx':(l.map ln5)[j]?=some (ln5 x):=by simp[hj]
 exact⟨b,o,rfl,hF,hc j _ hx' 0 _ rfl,hc j _ hx' 1 _ rfl,hc j _ hx' 2 _ rfl,hc j _ hx' 3 _ rfl,hc j _ hx' 4 _ rfl⟩
theorem yF{w:World}{F:Nat->Prop}{v:Value}{l:List Ln}(h:Ff w F v l): ∃A c,v=.slice A l.length c/\l.length<=c/\c<=maxLen:=by obtain⟨A',n',c',hv,hl,h1,h2,_⟩:=h;simp at hl;exact⟨A',c',by rw[hl];exact hv,by omega,h2⟩
def Iw(x:Ln):List UInt8×Rw:=(Lib.itoa (aZ x.n),x.r)
def pF(xs:List Ln):Nat->ax
 |0=>[]
 |j+1=>match xs[j]? with
  |some x=>Aw (Iw x) false (pF xs j)
  |none=>pF xs j
theorem mX(xs:List Ln): ∀j,fc (pF xs j)
 |0=>et
 |j+1=>by
  rw[pF];split
  ·rw[xX (mX xs j)];exact eK (mX xs j)
  ·exact mX xs j
def Qc(r:Rw)(k:Nat):Prop:= ∀c,c<k->aZ (r.aM c)=r.aM c
noncomputable def l9:List Ln->ax->Option ax
 |[],l=>some l
 |x::xs,l=> @ite _ (Qc x.r 4/\au (Iw x).1 l=none) (Classical.propDecidable _) (l9 xs (bP (Iw x) l)) none
theorem pG{x:Ln}{xs:List Ln}{l:ax}(h:Qc x.r 4/\au (Iw x).1 l=none):l9 (x::xs) l=l9 xs (bP (Iw x) l):=by rw[l9];exact @if_pos _ (Classical.propDecidable _) h _ _ _
theorem mY{x:Ln}{xs:List Ln}{l:ax}(h: ¬(Qc x.r 4/\au (Iw x).1 l=none)):l9 (x::xs) l=none:=by rw[l9];exact @if_neg _ (Classical.propDecidable _) h _ _ _
noncomputable def eP(xs:List Ln)(most:Int):Option ax:=if 30<xs.length\/most<1\/60<most\/most<(xs.length:Int)then none else l9 xs []
def mZ(p:Option ax)(most:Int)(w:World)(e:Ending)(w':World):Prop:=
 Below w.heap.size w w'/\(p=none->e=.returned (.pointer none))/\ ∀l,p=some l-> ∃T F,e=.returned (.pointer (some ⟨T,0,none⟩))/\cd w' T most 3 l F/\ ∀b q,F b q->w.heap.size<=b/\b<w'.heap.size
theorem mZ.no{p:Option ax}{most:Int}{w w':World}(hp:p=none)(hb:Below w.heap.size w w'):mZ p most w (.returned (.pointer none)) w':=⟨hb,fun _=>rfl,fun l h=>by rw[hp]at h;cases h⟩
theorem TJ{r:Rw}(h:Qc r 4): ∀c,I6 (r.aM c):=by
 have h4: ∀c,c<4->I6 (r.aM c):=fun c hc=>by have h1:=jW (r.aM c);rw[h c hc]at h1;unfold aK at h1;exact⟨by omega,by omega⟩
 intro c
 match c with
 |0=>exact h4 0 (by decide)
 |1=>exact h4 1 (by decide)
 |2=>exact h4 2 (by decide)
 |c+3=>exact h4 3 (by decide)
def lD(w1:World)(T:Nat)(most:Int)(l:ax)(E:Nat->Prop)(wr:World):Prop:=
 ∃F,cd wr T most 3 l F/\(∀b q,F b q->w1.heap.size<=b/\b<wr.heap.size/\ ¬E b)/\(∀k,E k->w1.heap.size<=k/\k<wr.heap.size)/\Below w1.heap.size w1 wr
def noE:Nat->Prop:=fun _=>False
section
variable{w w1 wr w2:World}{T:Nat}{most:Int}{l:ax}{E:Nat->Prop}
theorem lD.rC(h:lD w1 T most l E wr):Below w1.heap.size w1 wr:=by obtain⟨F,_,_,_,h⟩:=h;exact h
theorem lD.still(h:lD w1 T most l E wr)(hb:Below wr.heap.size wr w2):lD w1 T most l E w2:=by obtain⟨F,h1,h2,h4,h3⟩:=h;exact⟨F,h1.below hb,fun b q hf=>⟨(h2 b q hf).1,cq (h2 b q hf).2.1 hb.size,(h2 b q hf).2.2⟩,fun k hk=>⟨(h4 k hk).1,cq (h4 k hk).2 hb.size⟩,h3.x (hb.m h3.size)⟩
theorem lD.iX(h:lD w1 T most l E wr)(o:Obj):lD w1 T most l (fun k=>E k\/k=wr.heap.size) (wr.alloc o):=by
 obtain⟨F,h1,h2,h4,h3⟩:=h;have hb:=ae wr o;have hs:(wr.alloc o).heap.size=wr.heap.size+1:=by simp
 refine⟨F,h1.below hb,fun b q hf=>?_,fun k hk=>?_,h3.x (hb.m h3.size)⟩
 ·have:=h2 b q hf;refine⟨this.1,by omega,?_⟩;rintro(h|h)
  ·exact this.2.2 h
  ·omega
 ·have hs3:=h3.size;rcases hk with h|h
  ·have:=h4 k h;exact⟨by omega,by omega⟩
  ·exact⟨by omega,by omega⟩
theorem lD.box(h:lD w1 T most l E wr){S:Nat->Prop}(ho:Only S wr w2)(hS: ∀k,S k->E k):lD w1 T most l E w2:=by
 obtain⟨F,h1,h2,h4,h3⟩:=h
 exact⟨F,h1.eJ ho (fun b q hf hs=>(h2 b q hf).2.2 (hS b hs)),fun b q hf=>⟨(h2 b q hf).1,cq (h2 b q hf).2.1 ho.size,(h2 b q hf).2.2⟩,fun k hk=>⟨(h4 k hk).1,cq (h4 k hk).2 ho.size⟩,
  h3.x (ho.aG h3.size (fun k hk hs=>by have:=h4 k (hS k hs);omega))⟩
theorem lD.forget(h:lD w1 T most l E wr):lD w1 T most l noE wr:=by obtain⟨F,h1,h2,h4,h3⟩:=h;exact⟨F,h1,fun b q hf=>⟨(h2 b q hf).1,(h2 b q hf).2.1,fun h=>h⟩,fun k hk=>hk.elim,h3⟩
theorem lD.end_{p:Option ax}(hb:Below w.heap.size w w1)(h:lD w1 T most l E wr)(hp:p=some l):mZ p most w (.returned (.pointer (some ⟨T,0,none⟩))) wr:=by obtain⟨F,h1,h2,h4,h3⟩:=h;refine⟨hb.x (h3.m hb.size),fun e=>(by rw[hp]at e;cases e),fun l' e=>?_⟩;rw[hp]at e;injection e with e;subst e;exact⟨T,F,rfl,h1,fun b q hf=>⟨da hb.size (h2 b q hf).1,(h2 b q hf).2.1⟩⟩
theorem vV{k:List UInt8}{r:Rw}{q:Option Rw}(h:lD w1 T most l E wr)(hk:1<=k.length/\k.length<=16)(hr: ∀c,I6 (r.aM c))(hq:au k l=q)(hnf: ¬(au k l=none/\most<=(l.length:Int))):
  Calls prog 37 #[.pointer (some ⟨T,0,none⟩),.string ⟨k.toArray⟩,.agg #[.int .i64 r.a,.int .i64 r.b,.int .i64 r.c,.int .i64 r.d]] wr fun e w'=>
   ∃oa ob oc od:Int,e=.returned (.tuple #[.agg #[.int .i64 oa,.int .i64 ob,.int .i64 oc,.int .i64 od],.bool q.isSome,.int .i64 0])/\lD w1 T most (bP (k,r) l) E w'/\ ∀b o,E b->wr.heap[b]?=some o->w'.heap[b]?=some o:=by
 obtain⟨F,h1,h2,h4,h3⟩:=h;refine(K8 wr T 3 most l F k r h1 (fun b q hf=>(h2 b q hf).2.1) hk hr).m ?_;rintro e w' ⟨rfl,ht,ho⟩;have hE:zj most l k=0:=by unfold zj;rw[ff hnf]
 have hR:Ci most l k r=bP (k,r) l:=by unfold Ci;rw[ff hnf]
 rw[hR]at ht;rw[hE,hq];refine⟨_,_,_,_,rfl,⟨_,ht.bound,fun b q hf=>⟨?_,hf.2,fun hb=>?_⟩,fun k hk=>⟨(h4 k hk).1,cq (h4 k hk).2 ho.size⟩,h3.x (Only.aG ho.only h3.size (fun k hk ⟨q,hq⟩=>by have:=(h2 k q hq).1;omega))⟩,fun b o hb Yt=>ho.heap Yt (fun q hq=>(h2 b q hq).2.2 hb)⟩
 ·rcases hf.1 with h|h
  ·exact(h2 b q h).1
  ·exact da h3.size h
 ·rcases hf.1 with h|h
  ·exact(h2 b q h).2.2 hb
  ·have:=(h4 b hb).2;omega
end
theorem jn{xs:List Ln}{j:Nat}{x:Ln}{l:ax}(hx:xs[j]?=some x)(DA:pF xs j=l)(hll:l.length=j)(hq:au (Iw x).1 l=none):(bP (Iw x) l).length=j+1/\pF xs (j+1)=bP (Iw x) l:=by
 have hu:fc l:=by rw[<-DA];exact mX xs j
 constructor
 ·rw[ki hu,hq,hll];rfl
 ·rw[pF,hx];simp only[];rw[xX (mX xs j),DA]
theorem ng(w:World)(n:Int):Calls prog 36 #[.int .i64 n] w fun e w'=>e=.returned (.int .i64 (aZ n))/\w=w':=mS w n
theorem um(w:World)(n:Int)(h:aK n):Calls prog 38 #[.int .i64 n] w fun e w'=>e=.returned (.string ⟨(Lib.itoa n).toArray⟩)/\Below w.heap.size w w':=
 (yr n.natAbs n w (aE _) h.i64).m fun e w' ⟨h1,m,h2⟩=>⟨h1,by rw[h2];exact aG (aw _ _) m⟩
theorem Xc{w:World}{b p:Nat}{r:Rw}(h1:w.cell? ⟨b,p+1,none⟩=some (.int .i64 r.a))(h2:w.cell? ⟨b,p+2,none⟩=some (.int .i64 r.b))(h3:w.cell? ⟨b,p+3,none⟩=some (.int .i64 r.c))(h4:w.cell? ⟨b,p+4,none⟩=some (.int .i64 r.d)){k:Nat}(hk:k<4):
  w.cell? ⟨b,p+1+k,none⟩=some (.int .i64 (r.aM k)):=by
 match k,hk with
 |0,_=>exact h1
 |1,_=>exact h2
 |2,_=>exact h3
 |3,_=>exact h4
theorem Ix(w:World)(F:Nat->Prop)(v:Value)(xs:List Ln)(most:Int)(hv:Ff w F v xs):
  Calls prog 15 #[.agg #[v,.int .i64 most]] w (mZ (eP xs most) most w):=by
 obtain⟨A,c,rfl,hlc,hcm⟩:=yF hv;unfold maxLen at hcm;obtain⟨hb0,k0⟩:=qn w (.cells #[.slice A xs.length c,.int .i64 most] 26);have hv1:=(show Ff _ _ _ _ from aS.below hv hb0);have HG:=al (show eP xs most=if 30<xs.length\/most<1\/60<most\/most<(xs.length:Int)then none else l9 xs []from rfl);obtain⟨N,hN⟩:=qt (xs.length);rw[hN]at hv1 hlc hb0 k0 HG⊢;have HL:=al hN;clear hv hN;go_enter func15,ntmps15;go_upto_region 1 with fail;generalize w.alloc (.cells #[.slice A N c,.int .i64 most] 26)=w1 at hb0 k0 hv1⊢;obtain⟨X,hX⟩:=qt (w.heap.size);rw[hX]at k0⊢;have x0:w1.cell? ⟨X,0,none⟩=some (.slice A N c):=by simp[World.cell?,k0]
 have x1:w1.cell? ⟨X,1,none⟩=some (.int .i64 most):=by simp[World.cell?,k0]
 have H1:=al (ab hb0 (ab x0 (ab x1 hv1)));clear hb0 k0 hX hv1;by_cases c1:30<N
 ·have c1':(30:Int)<(N:Int):=by omega
  have HE:=al (show eP xs most=none by rw[HG.o];exact fi (.inl c1));clear c1;go_wp2_with fail;go_ret
  exact mZ.no HE.o H1.o.1
 by_cases c2:most<1
 ·have c1': ¬(30:Int)<(N:Int):=by omega
  have HE:=al (show eP xs most=none by rw[HG.o];exact fi (.inr (.inl c2)));clear c1;go_wp2_with fail;go_ret
  exact mZ.no HE.o H1.o.1
 by_cases c3:60<most
 ·have c1': ¬(30:Int)<(N:Int):=by omega
  have HE:=al (show eP xs most=none by rw[HG.o];exact fi (.inr (.inr (.inl c3))));clear c1;go_wp2_with fail;go_ret
  exact mZ.no HE.o H1.o.1
 by_cases c4:most<(N:Int)
 ·have c1': ¬(30:Int)<(N:Int):=by omega
  have HE:=al (show eP xs most=none by rw[HG.o];exact fi (.inr (.inr (.inr c4))));clear c1;go_wp2_with fail;go_ret
  exact mZ.no HE.o H1.o.1
 have c1': ¬(30:Int)<(N:Int):=by omega
 have HE:=al (show eP xs most=l9 xs [] by rw[HG.o];exact ff (by omega));have HM:=al (show(N<=30/\1<=most/\most<=60/\(N:Int)<=most)from⟨by omega,by omega,by omega,by omega⟩);have HT:=al (xU w1 most 3 HM.o.2.1 (by have:=HM.o;omega) (by decide) (by decide));clear c1 HG;go_wp2_with fail;refine HT.o.m ?_;rintro e w2 ⟨T,rfl,hTa,hb2⟩;have HR:=al (show lD w1 T most [] noE w2 from⟨_,hTa,fun b q h=>⟨h.1,h.2,fun h=>h⟩,fun k hk=>hk.elim,hb2⟩);clear hTa hb2 HT c1' c2 c3 c4 x0 x1;go_wp2_with fail
 go_loopw [5] (fun i wr=> ∃(j:Nat) (l:ax),j<=N/\i=.int .i64 (j:Int)/\lD w1 T most l noE wr/\l9 xs []=l9 (xs.drop j) l/\l.length=j/\pF xs j=l) (fun i _=>N-(intOf i).toNat)
 case atStart=>exact⟨0,[],by omega,rfl,HR.o,by simp,rfl,rfl⟩
 case round=>
  obtain⟨j,l,hj,rfl,hR,heq,hll,DA⟩:=hrel;have hbr:Below w1.heap.size w1 wr:=hR.rC;have x0:=ah hbr H1.o.2.1;by_cases hlt:j<N
  ·obtain⟨x,hx⟩: ∃x,xs[j]?=some x:=⟨_,ao (by rw[HL.o];exact hlt)⟩
   have hdr:xs.drop j=x::xs.drop (j+1):=by have h1:=b8.1 hx;rw[<-h1.2];exact List.drop_eq_getElem_cons h1.1
   rw[hdr]at heq;obtain⟨b,o,rfl,hF,d0,d1,d2,d3,d4⟩:=aaI H1.o.t hx;obtain⟨n,ra,rb,rc,rd⟩:=x;simp only at d0 d1 d2 d3 d4;have i1:(0:Int)<=(j:Int):=by omega
   have i2:(j:Int)<(N:Int):=by omega
   have HD:=al (ab d0 (ab d1 (ab d2 (ab d3 d4))));have HW:=al (ab hR (ab heq (ab hll (ab DA (ab hx hbr)))));clear hR heq hll DA hx hdr hbr d0 d1 d2 d3 d4;go_wp2_with fail
   go_loopw [6] (fun i wq=> ∃k:Nat,k<=4/\i=.int .i64 (k:Int)/\Qc ⟨ra,rb,rc,rd⟩ k/\Below wr.heap.size wr wq) (fun i _=>4-(intOf i).toNat)
   case atStart=>exact⟨0,by decide,rfl,fun c hc=>by omega,aw _ _⟩
   case round=>
    obtain⟨k,hk,rfl,hrc,jV⟩:=hrel;have zC:=HW.o.q.2.x (jV.m HW.o.q.2.size);have x0:=ah zC H1.o.2.1;have e0:=ah zC HD.o.1;have e1:=ah zC HD.o.2.1;have e2:=ah zC HD.o.d.1;have e3:=ah zC HD.o.t.1;have e4:=ah zC HD.o.q;by_cases hk4:k<4
    ·have j1:(0:Int)<=(k:Int):=by omega
     have j2:(k:Int)<4:=by omega
     have ec:=Xc (r:=⟨ra,rb,rc,rd⟩) e1 e2 e3 e4 hk4;obtain⟨v,hv⟩:=qt (Rw.aM ⟨ra,rb,rc,rd⟩ k);rw[hv]at ec;by_cases hcl:aZ v=v
     ·have HC:=al (fun w=>ng w v);rw[hcl]at HC;have HQ:=al (ab hrc (ab jV (show aZ (Rw.aM ⟨ra,rb,rc,rd⟩ k)=Rw.aM ⟨ra,rb,rc,rd⟩ k by rw[hv,hcl])));clear hrc jV zC hcl hv e0 e1 e2 e3 e4;go_wp2_with fail;go_quiet((go_at_call 36;exact nu (HC.o _)));rename_i nq;clear x0 ec;go_wp2_with fail;go_roundw
      case rel=>
       refine⟨k+1,by omega,by go_num,fun c hc=>?_,Only.aG ((pw HQ.o.2.1).drewN nq) (aE _) (fun _ _ h=>h)⟩;by_cases e:c=k
       ·subst e;exact HQ.o.d
       ·exact HQ.o.1 c (by omega)
      case measure=>simp[intOf];omega
     ·obtain⟨u,hu⟩:=qt (aZ v);have HC:=al (fun w=>ng w v);rw[hu]at HC hcl;have huv:(u !=v)=true:=by simpa using hcl
      have HN:=al (show eP xs most=none from by
       rw[HE.o,HW.o.2.1]
       exact mY (fun h=>hcl (by rw[<-hu,<-hv];exact h.1 k hk4)))
      have HB:=al (show Below w.heap.size w wr from H1.o.1.x (zC.m H1.o.1.size));clear hrc jV zC hcl hv hu e0 e1 e2 e3 e4;go_wp2_with fail;go_quiet((go_at_call 36;exact nu (HC.o _)));rename_i nq;clear x0 ec;go_wp2_with fail;go_ret
      exact mZ.no HN.o (Only.aG ((pw HB.o).drewN nq) (aE _) (fun _ _ h=>h))
    ·obtain rfl:k=4:=by omega
     have HQ:=al (ab hrc (HW.o.1.still jV));have Qd:=al (ab (jW n) (ab (ij (jW n)) (TJ hrc)));clear hrc jV zC x0 e0 e1 e2 e3 e4;obtain⟨q,hq⟩:=qt (au (Lib.itoa (aZ n)) l);have HK:=al hq;clear hq;go_wp2_with fail;go_upto_region 14 with fail;have HT:=al (show lD w1 T most l noE wr.drew from HQ.o.2.still (aw _ _).drew);have NF:=al (show ¬(au (Lib.itoa (aZ n)) l=none/\most<=(l.length:Int))from fun h=>by have h1:=HW.o.d.1;have h2:=HM.o;have h3:=h.2;rw[h1]at h3;omega);refine o0 (S:=(fun W=> ∃l E,lD w1 T most l E W)) (by kernel_rfl) ⟨_,_,HQ.o.2.still (aw _ _).drew⟩ (fun ph=>?_);generalize wr.drew=W3 at HT ph⊢;refine aI [0,1] ?_
     iterate 2 (refine bO (v:=?_) (fun wS hSw=>?_) ph ?_;rotate_left;(go_simp;try rfl);try simp only[ai,aj,ak,ar])
     refine aJ ?_;refine dR 2 (v:=?_) (fun wS hSw=>?_) ph ?_;rotate_left
     ·obtain⟨_,_,Qz⟩:=hSw;have uo:=Qz.rC;have x0:=ah uo H1.o.2.1;have e0:=ah uo HD.o.1;have e1:=ah uo HD.o.2.1;have e2:=ah uo HD.o.d.1;have e3:=ah uo HD.o.t.1;have e4:=ah uo HD.o.q;go_simp;try rfl
     try simp only[ai,aj,ak,ar]
     refine aI [3,4,5] ?_
     iterate 3 (refine bO (v:=?_) (fun wS hSw=>?_) ph ?_;rotate_left;(go_simp;try rfl);try simp only[ai,aj,ak,ar])
     refine aJ ?_;refine dR 6 (v:=?_) (fun wS hSw=>?_) ph ?_;rotate_left
     ·obtain⟨_,_,Qz⟩:=hSw;have uo:=Qz.rC;have x0:=ah uo H1.o.2.1;have e0:=ah uo HD.o.1;have e1:=ah uo HD.o.2.1;have e2:=ah uo HD.o.d.1;have e3:=ah uo HD.o.t.1;have e4:=ah uo HD.o.q;go_simp;try rfl
     try simp only[ai,aj,ak,ar]
     refine dR 9 (v:=?_) (fun wS hSw=>?_) ph ?_;rotate_left
     ·go_simp;try rfl
     try simp only[ai,aj,ak,ar]
     refine dR 10 (v:=?_) (fun wS hSw=>?_) ph ?_;rotate_left
     ·obtain⟨_,_,Qz⟩:=hSw;have uo:=Qz.rC;have x0:=ah uo H1.o.2.1;have e0:=ah uo HD.o.1;have e1:=ah uo HD.o.2.1;have e2:=ah uo HD.o.d.1;have e3:=ah uo HD.o.t.1;have e4:=ah uo HD.o.q;go_simp;try rfl
     try simp only[ai,aj,ak,ar]
     refine aI [11,12,13] ?_
     iterate 3 (refine bO (v:=?_) (fun wS hSw=>?_) ph ?_;rotate_left;(go_simp;try rfl);try simp only[ai,aj,ak,ar])
     refine aJ ?_;refine dR 14 (v:=?_) (fun wS hSw=>?_) ph ?_;rotate_left
     ·obtain⟨_,_,Qz⟩:=hSw;have uo:=Qz.rC;have x0:=ah uo H1.o.2.1;have e0:=ah uo HD.o.1;have e1:=ah uo HD.o.2.1;have e2:=ah uo HD.o.d.1;have e3:=ah uo HD.o.t.1;have e4:=ah uo HD.o.q;go_simp;try rfl
     try simp only[ai,aj,ak,ar]
     refine pf (rs:=[7,20]) (by kernel_rfl) (by simp) (bE (i:=7) rfl (fun K hK=>?_) (bE (i:=20) rfl (fun K hK=>?_) oT))
     focus
      go_simp;refine(ng _ n).m ?_;rintro e wn ⟨rfl,rfl⟩
      try go_simp
      refine hK.o _ _ (ph) ?_;clear hK K ph;intro ph
      try simp only[ai,aj,ak,ar]
      refine pf (rs:=[8,20]) (by kernel_rfl) (by simp) (bE (i:=8) rfl (fun K hK=>?_) (bE (i:=20) rfl (fun K hK=>?_) oT))
      focus
       go_simp;refine(um _ (aZ n) Qd.o.1).m ?_;rintro e wk ⟨rfl,aR⟩;have nj:=al (HT.o.still aR);clear HT;have HT:=nj;clear nj
       try go_simp
       refine hK.o _ _ (⟨_,_,HT.o⟩) ?_;clear hK K ph aR;intro ph
       try simp only[ai,aj,ak,ar]
       refine pf (rs:=[15,20]) (by kernel_rfl) (by simp) (bE (i:=15) rfl (fun K hK=>?_) (bE (i:=20) rfl (fun K hK=>?_) oT))
       focus
        go_simp;refine(vV (r:=⟨ra,rb,rc,rd⟩) HT.o Qd.o.2.1 Qd.o.d HK.o NF.o).m ?_;rintro e wp ⟨oa,ob,oc,od,rfl,D7,QF⟩;have nj:=al (D7);clear HT;have HT:=nj;clear nj;clear D7 QF
        try go_simp
        refine hK.o _ _ (⟨_,_,HT.o⟩) ?_;clear hK K ph;intro ph
        try simp only[ai,aj,ak,ar]
        refine aI [16,17,18,19] ?_
        iterate 4 (refine bO (v:=?_) (fun wS hSw=>?_) ph ?_;rotate_left;(go_simp;try rfl);try simp only[ai,aj,ak,ar])
        refine aJ ?_;refine aW 20 (fun K hK=>?_);go_simp;refine hK.o _ _ (⟨_,_,HT.o.iX _⟩) ?_;clear hK K ph;intro ph
        try simp only[ai,aj,ak,ar]
        have nj:=al (HT.o.iX (.cells #[.int .i64 0,.int .i64 0,.int .i64 0,.int .i64 0] 113));have HZ:=al (an wp (.cells #[.int .i64 0,.int .i64 0,.int .i64 0,.int .i64 0] 113));clear HT;generalize wp.heap.size=Z at nj HZ ph⊢;generalize wp.alloc (.cells #[.int .i64 0,.int .i64 0,.int .i64 0,.int .i64 0] 113)=wz at nj HZ ph⊢;have HT:=nj;clear nj
       rotate_left
       focus
        go_simp;refine hK.o _ _ (⟨_,_,HT.o.iX _⟩) ?_;clear hK K ph;intro ph
        try simp only[ai,aj,ak,ar]
        have nj:=al (HT.o.iX (.cells #[.int .i64 0,.int .i64 0,.int .i64 0,.int .i64 0] 113));have HZ:=al (an wk (.cells #[.int .i64 0,.int .i64 0,.int .i64 0,.int .i64 0] 113));clear HT;generalize wk.heap.size=Z at nj HZ ph⊢;generalize wk.alloc (.cells #[.int .i64 0,.int .i64 0,.int .i64 0,.int .i64 0] 113)=wz at nj HZ ph⊢;have HT:=nj;clear nj;refine aW 15 (fun K hK=>?_);go_simp;refine(vV (r:=⟨ra,rb,rc,rd⟩) HT.o Qd.o.2.1 Qd.o.d HK.o NF.o).m ?_;rintro e wp ⟨oa,ob,oc,od,rfl,D7,QF⟩;have nj:=al (D7);clear HT;have HT:=nj;clear nj;have JY:=al (QF _ _ (.inr rfl) HZ.o);clear HZ;have HZ:=JY;clear JY;clear D7 QF
        try go_simp
        refine hK.o _ _ (⟨_,_,HT.o⟩) ?_;clear hK K ph;intro ph
        try simp only[ai,aj,ak,ar]
        refine aI [16,17,18,19] ?_
        iterate 4 (refine bO (v:=?_) (fun wS hSw=>?_) ph ?_;rotate_left;(go_simp;try rfl);try simp only[ai,aj,ak,ar])
        refine aJ ?_
      rotate_left 2
      focus
       go_simp;refine hK.o _ _ (⟨_,_,HT.o.iX _⟩) ?_;clear hK K ph;intro ph
       try simp only[ai,aj,ak,ar]
       have nj:=al (HT.o.iX (.cells #[.int .i64 0,.int .i64 0,.int .i64 0,.int .i64 0] 113));have HZ:=al (an W3 (.cells #[.int .i64 0,.int .i64 0,.int .i64 0,.int .i64 0] 113));clear HT;generalize W3.heap.size=Z at nj HZ ph⊢;generalize W3.alloc (.cells #[.int .i64 0,.int .i64 0,.int .i64 0,.int .i64 0] 113)=wz at nj HZ ph⊢;have HT:=nj;clear nj;refine aW 8 (fun K hK=>?_);go_simp;refine(um _ (aZ n) Qd.o.1).m ?_;rintro e wk ⟨rfl,aR⟩;have nj:=al (HT.o.still aR);clear HT;have HT:=nj;clear nj;have JY:=al (pt aR HZ.o);clear HZ;have HZ:=JY;clear JY
       try go_simp
       refine hK.o _ _ (⟨_,_,HT.o⟩) ?_;clear hK K ph aR;intro ph
       try simp only[ai,aj,ak,ar]
       refine aW 15 (fun K hK=>?_);go_simp;refine(vV (r:=⟨ra,rb,rc,rd⟩) HT.o Qd.o.2.1 Qd.o.d HK.o NF.o).m ?_;rintro e wp ⟨oa,ob,oc,od,rfl,D7,QF⟩;have nj:=al (D7);clear HT;have HT:=nj;clear nj;have JY:=al (QF _ _ (.inr rfl) HZ.o);clear HZ;have HZ:=JY;clear JY;clear D7 QF
       try go_simp
       refine hK.o _ _ (⟨_,_,HT.o⟩) ?_;clear hK K ph;intro ph
       try simp only[ai,aj,ak,ar]
       refine aI [16,17,18,19] ?_
       iterate 4 (refine bO (v:=?_) (fun wS hSw=>?_) ph ?_;rotate_left;(go_simp;try rfl);try simp only[ai,aj,ak,ar])
       refine aJ ?_
     rotate_left 3
     focus
      go_simp;refine hK.o _ _ (⟨_,_,HT.o.iX _⟩) ?_;clear hK K ph;intro ph
      try simp only[ai,aj,ak,ar]
      have nj:=al (HT.o.iX (.cells #[.int .i64 0,.int .i64 0,.int .i64 0,.int .i64 0] 113));have HZ:=al (an W3 (.cells #[.int .i64 0,.int .i64 0,.int .i64 0,.int .i64 0] 113));clear HT;generalize W3.heap.size=Z at nj HZ ph⊢;generalize W3.alloc (.cells #[.int .i64 0,.int .i64 0,.int .i64 0,.int .i64 0] 113)=wz at nj HZ ph⊢;have HT:=nj;clear nj;refine aW 7 (fun K hK=>?_);go_simp;refine(ng _ n).m ?_;rintro e wn ⟨rfl,rfl⟩
      try go_simp
      refine hK.o _ _ (ph) ?_;clear hK K ph;intro ph
      try simp only[ai,aj,ak,ar]
      refine aW 8 (fun K hK=>?_);go_simp;refine(um _ (aZ n) Qd.o.1).m ?_;rintro e wk ⟨rfl,aR⟩;have nj:=al (HT.o.still aR);clear HT;have HT:=nj;clear nj;have JY:=al (pt aR HZ.o);clear HZ;have HZ:=JY;clear JY
      try go_simp
      refine hK.o _ _ (⟨_,_,HT.o⟩) ?_;clear hK K ph aR;intro ph
      try simp only[ai,aj,ak,ar]
      refine aW 15 (fun K hK=>?_);go_simp;refine(vV (r:=⟨ra,rb,rc,rd⟩) HT.o Qd.o.2.1 Qd.o.d HK.o NF.o).m ?_;rintro e wp ⟨oa,ob,oc,od,rfl,D7,QF⟩;have nj:=al (D7);clear HT;have HT:=nj;clear nj;have JY:=al (QF _ _ (.inr rfl) HZ.o);clear HZ;have HZ:=JY;clear JY;clear D7 QF
      try go_simp
      refine hK.o _ _ (⟨_,_,HT.o⟩) ?_;clear hK K ph;intro ph
      try simp only[ai,aj,ak,ar]
      refine aI [16,17,18,19] ?_
      iterate 4 (refine bO (v:=?_) (fun wS hSw=>?_) ph ?_;rotate_left;(go_simp;try rfl);try simp only[ai,aj,ak,ar])
      refine aJ ?_
     all_goals
      refine aW 21 (fun K hK=>?_);obtain⟨⟨z0,z1,z2,z3⟩,y0,y1,y2,y3⟩:=cL HZ.o;go_simp;refine hK.o _ _ (⟨_,_,HT.o.box (b6 (v0:=.int .i64 oa) (v1:=.int .i64 ob) (v2:=.int .i64 oc) (v3:=.int .i64 od) HZ.o).2 (fun k hk=>.inr hk)⟩) ?_;clear hK K ph z0 z1 z2 z3 y0 y1 y2 y3;intro ph
      try simp only[ai,aj,ak,ar]
      refine aI [22,23] ?_
      iterate 2 (refine bO (v:=?_) (fun wS hSw=>?_) ph ?_;rotate_left;(go_simp;try rfl);try simp only[ai,aj,ak,ar])
      refine aJ ?_;refine pb (by kernel_rfl) ?_ _;have Qe:=al (HT.o.box (b6 (v0:=.int .i64 oa) (v1:=.int .i64 ob) (v2:=.int .i64 oc) (v3:=.int .i64 od) HZ.o).2 (fun k hk=>.inr hk)).forget;clear HT ph
      cases q with
      |none=>
       simp only[lP];go_wp2_with fail;go_roundw
       case rel=>
        refine⟨j+1,bP (Lib.itoa (aZ n),⟨ra,rb,rc,rd⟩) l,by omega,by go_num,Qe.o,?_,?_,?_⟩
        ·rw[HW.o.2.1,pG (x:=⟨n,⟨ra,rb,rc,rd⟩⟩) (show Qc (⟨ra,rb,rc,rd⟩:Rw) 4/\au (Lib.itoa (aZ n)) l=none from⟨HQ.o.1,HK.o⟩)];rfl
        ·exact(jn HW.o.q.1 HW.o.t.1 HW.o.d.1 HK.o).1
        ·exact(jn HW.o.q.1 HW.o.t.1 HW.o.d.1 HK.o).2
       case measure=>simp[intOf];omega
      |some old=>
       simp only[lz]
       have HN:=al (show eP xs most=none from by
        rw[HE.o,HW.o.2.1]
        exact mY (fun h=>by
         have h2:=h.2;have h3:=HK.o;rw[show(Iw ⟨n,⟨ra,rb,rc,rd⟩⟩).1=Lib.itoa (aZ n)from rfl,h3]at h2
         cases h2))
       go_wp2_with fail;go_ret
       exact mZ.no HN.o (H1.o.1.x (Qe.o.rC.m H1.o.1.size))
  ·obtain rfl:j=N:=by omega
   have hnil:xs.drop j=[]:=eS (by rw[HL.o];exact aE _);rw[hnil,l9]at heq;have HF:=al (hR.end_ H1.o.1 (HE.o.x heq));clear hR heq hll DA hbr hnil;go_wp2_with fail;go_ret
   exact HF.o
def Iy(p:Prop)(w:World)(e:Ending)(w':World):Prop:= ∃b:Bool,e=.returned (.bool b)/\(b=true->p)/\Below w.heap.size w w'
theorem Iy.no{p:Prop}{w w':World}(hb:Below w.heap.size w w'):Iy p w (.returned (.bool false)) w':=⟨false,rfl,fun h=>(by cases h),hb⟩
theorem Iy.yes{p:Prop}{w w':World}(h:p)(hb:Below w.heap.size w w'):Iy p w (.returned (.bool true)) w':=⟨true,rfl,fun _=>h,hb⟩
theorem Qf(w:World)(G:Nat->Prop)(v:Value)(l:List aO)(h:gu w G v l):
  Calls prog 39 #[v] w (Iy (opsE l=0) w):=by
 obtain⟨A,c,rfl,hlc,hcm⟩:=h.slice;have H:=al h;clear h;by_cases hl:l.length<=64
 ·have HL:=al hl;have hl':(l.length:Int)<=64:=by omega
  clear hl;go_enter func39,ntmps39;go_wp2_with fail;refine(zb w G _ l H.o (by have:=HL.o;omega)).m ?_;rintro e w1 ⟨A1,c1,rfl,h1,hb1⟩;have H1:=al (ab h1 hb1);clear h1 hb1;go_wp2_with fail;refine(za w1 _ _ l H1.o.1).m ?_;rintro e w2 ⟨rfl,hb2⟩;have HB:=al (H1.o.2.x (hb2.m H1.o.2.size));clear hb2;by_cases he:opsE l=0
  ·have HE:=al he;rw[he];clear he;go_wp2_with fail;go_ret
   exact Iy.yes HE.o HB.o
  ·obtain⟨n,hn⟩:=qt (opsE l);rw[hn]at he⊢;have g1:(n==0)=false:=by simpa using he
   clear hn;go_wp2_with fail;go_ret
   exact Iy.no HB.o
 ·have hl': ¬(l.length:Int)<=64:=by omega
  clear hl;go_enter func39,ntmps39;go_wp2_with fail;go_ret
  exact Iy.no (aw _ _)
theorem Qg{w:World}{F:Nat->Prop}{A:Option Addr}{m c:Nat}{xs:List Int}(h:Rd w F (.slice A m c) (xs.map (Value.int .i64))):xs.length=m/\ ∀k x,xs[k]?=some x-> ∃b o,A=some ⟨b,o,none⟩/\w.cell? ⟨b,o+k,none⟩=some (.int .i64 x):=by obtain⟨A',n',c',hv,hl,_,_,hx⟩:=h;injection hv with h1 h2 h3;subst h1 h2 h3;simp at hl;refine⟨hl,fun k x hk=>?_⟩;have hlt:=(b8.1 hk).1;obtain⟨b,o,rfl,_,hu⟩:=hx (by omega);exact⟨b,o,rfl,hu k _ (by simp[hk])⟩
theorem pH{w:World}{F:Nat->Prop}{v:Value}{xs:List Int}(h:Rd w F v (xs.map (Value.int .i64))): ∃A c,v=.slice A xs.length c/\xs.length<=maxLen:=by obtain⟨A',n',c',hv,hl,h1,h2,_⟩:=h;simp at hl;subst hl;exact⟨A',c',hv,by omega⟩
def Xd(l:List aO)(xs:List Int)(fuel:Int):Prop:=(∀x∈xs,aK x)/\opsE l=0/\xs.length<=8/\0<=fuel/\fuel<=10000
def okN(xs:List Int)(j:Nat):Prop:= ∀k,k<j-> ∀x,xs[k]?=some x->aK x
theorem TK{xs:List Int}(h:okN xs xs.length): ∀x∈xs,aK x:=by intro x hx;obtain⟨k,hk,e⟩:=List.getElem_of_mem hx;exact h k hk x (by rw[List.getElem?_eq_getElem hk,e])
theorem Iz{n:Int}(h:aZ n=n):aK n:=by have:=jW n;rw[h]at this;exact this
theorem Xe(w:World)(F G:Nat->Prop)(v u:Value)(l:List aO)(xs:List Int)(fuel:Int)(h:gu w G v l)(hu:Rd w F u (xs.map (Value.int .i64))):
  Calls prog 16 #[v,.agg #[u,.int .i64 fuel]] w (Iy (Xd l xs fuel) w):=by
 obtain⟨A,c,rfl,Uk⟩:=pH hu;unfold maxLen at Uk;obtain⟨hb0,k0⟩:=qn w (.cells #[.slice A xs.length c,.int .i64 fuel] 67);obtain⟨N,hN⟩:=qt (xs.length);have HU:=al (ab hu h);rw[hN]at HU Uk hb0 k0⊢;have HL:=al hN;clear hN hu h;go_enter func16,ntmps16;go_upto_region 1 with fail;generalize w.alloc (.cells #[.slice A N c,.int .i64 fuel] 67)=w1 at hb0 k0⊢;obtain⟨X,hX⟩:=qt (w.heap.size);rw[hX]at k0⊢;have x0:w1.cell? ⟨X,0,none⟩=some (.slice A N c):=by simp[World.cell?,k0]
 have x1:w1.cell? ⟨X,1,none⟩=some (.int .i64 fuel):=by simp[World.cell?,k0]
 have H1:=al (ab hb0 (ab x0 (ab x1 (ab (HU.o.1.below hb0) (aS.below HU.o.2 hb0)))));clear hb0 k0 hX x0 x1;go_wp2_with fail
 go_loopw [5] (fun i wr=> ∃j:Nat,j<=N/\i=.int .i64 (j:Int)/\okN xs j/\Below w1.heap.size w1 wr) (fun i _=>N-(intOf i).toNat)
 case atStart=>exact⟨0,by omega,rfl,fun k hk=>by omega,aw _ _⟩
 case round=>
  obtain⟨j,hj,rfl,hok,hb⟩:=hrel;have x0:=ah hb H1.o.2.1;by_cases hlt:j<N
  ·obtain⟨x,hx⟩: ∃x,xs[j]?=some x:=⟨_,ao (by rw[HL.o];exact hlt)⟩;obtain⟨b,o,rfl,d0⟩:=(Qg H1.o.t.1).2 j x hx;have e0:=ah hb d0;have i1:(0:Int)<=(j:Int):=by omega
   have i2:(j:Int)<(N:Int):=by omega
   have HW:=al (ab hok (ab hb hx));have HC:=al (fun W=>ng W x);clear hok hb hx d0;go_upto_region 4 with fail;have HZ:=al (ab x0 e0);clear x0 e0;refine o0 (S:=(fun W=>Below wr.heap.size wr W)) (by kernel_rfl) (aw _ _).drew (fun ph=>?_);refine dR 0 (v:=?_) (fun wS hSw=>?_) ph ?_;rotate_left
   ·go_simp;try rfl
   try simp only[ai,aj,ak,ar]
   refine dR 1 (v:=?_) (fun wS hSw=>?_) ph ?_;rotate_left
   ·have x0:=ah hSw HZ.o.1;have e0:=ah hSw HZ.o.2;go_simp;try rfl
   try simp only[ai,aj,ak,ar]
   refine aI [2,3] ?_
   iterate 2 (refine bO (v:=?_) (fun wS hSw=>?_) ph ?_;rotate_left;(go_simp;try rfl);try simp only[ai,aj,ak,ar])
   refine aJ ?_;refine dR 4 (v:=?_) (fun wS hSw=>?_) ph ?_;rotate_left
   ·have x0:=ah hSw HZ.o.1;have e0:=ah hSw HZ.o.2;go_simp;try rfl
   try simp only[ai,aj,ak,ar]
   refine dR 6 (v:=?_) (fun wS hSw=>?_) ph ?_;rotate_left
   ·go_simp;try rfl
   try simp only[ai,aj,ak,ar]
   refine dR 7 (v:=?_) (fun wS hSw=>?_) ph ?_;rotate_left
   ·have x0:=ah hSw HZ.o.1;have e0:=ah hSw HZ.o.2;go_simp;try rfl
   try simp only[ai,aj,ak,ar]
   refine aI [8,9] ?_
   iterate 2 (refine bO (v:=?_) (fun wS hSw=>?_) ph ?_;rotate_left;(go_simp;try rfl);try simp only[ai,aj,ak,ar])
   refine aJ ?_;refine dR 10 (v:=?_) (fun wS hSw=>?_) ph ?_;rotate_left
   ·have x0:=ah hSw HZ.o.1;have e0:=ah hSw HZ.o.2;go_simp;try rfl
   try simp only[ai,aj,ak,ar]
   refine aW 5 (fun K hK=>?_);go_simp;refine(HC.o _).m ?_;rintro e wn ⟨rfl,rfl⟩
   try go_simp
   refine hK.o _ _ (ph) ?_;clear hK K ph;intro ph
   try simp only[ai,aj,ak,ar]
   refine dR 11 (v:=?_) (fun wS hSw=>?_) ph ?_;rotate_left
   ·go_simp;try rfl
   try simp only[ai,aj,ak,ar]
   refine pb (by kernel_rfl) ?_ _;have HD:=al ph;clear ph;generalize wr.drew=wd at HD⊢;by_cases hc:aZ x=x
   ·have UO:=al (Iz hc);rw[hc];clear hc;go_wp2_with fail;go_roundw
    case rel=>
     refine⟨j+1,by omega,by go_num,fun k hk y hy=>?_,HW.o.2.1.x (HD.o.m HW.o.2.1.size)⟩;rcases Nat.lt_or_eq_of_le (Nat.le_of_lt_succ hk)with h|h
     ·exact HW.o.1 k h y hy
     ·subst h;rw[HW.o.d]at hy;injection hy with hy;rw[<-hy];exact UO.o
    case measure=>simp[intOf];omega
   ·go_wp2_with fail;go_ret
    exact Iy.no (H1.o.1.x ((HW.o.2.1.x (HD.o.m HW.o.2.1.size)).m H1.o.1.size))
  ·obtain rfl:j=N:=by omega
   have HW:=al (ab hok hb);clear hok;go_wp2_with fail;refine(Qf wr G _ l (aS.below H1.o.q hb)).m ?_;rintro e w2 ⟨bb,rfl,hbb,hb2⟩;have x0:=ah hb2 (ah hb H1.o.2.1);have x1:=ah hb2 (ah hb H1.o.d.1);have HB:=al (ab hbb (show Below w.heap.size w w2 from H1.o.1.x ((hb.x (hb2.m hb.size)).m H1.o.1.size)));clear hb hb2 hbb
   cases bb with
   |false=>
    go_wp2_with fail;go_ret
    exact Iy.no HB.o.2
   |true=>
    have HE:=al (HB.o.1 rfl);by_cases c1:j<=8
    ·have c1':(j:Int)<=8:=by omega
     by_cases c2:0<=fuel
     ·by_cases c3:fuel<=10000
      ·have HQ:=al (show Xd l xs fuel from⟨TK (by rw[HL.o];exact HW.o.1),HE.o,by rw[HL.o];exact c1,c2,c3⟩);clear c1;go_wp2_with fail;go_ret
       exact Iy.yes HQ.o HB.o.2
      ·have g3:decide (fuel<=10000)=false:=decide_eq_false c3;clear c1;go_wp2_with fail;go_ret
       exact Iy.no HB.o.2
     ·clear c1;go_wp2_with fail;go_ret
      exact Iy.no HB.o.2
    ·have c1': ¬(j:Int)<=8:=by omega
     clear c1;go_wp2_with fail;go_ret
     exact Iy.no HB.o.2
theorem Xf{x:Ln}(h:Qc x.r 4):PA (Iw x):=by
 refine⟨⟨aZ x.n,jW _,rfl⟩,fun c=>?_⟩
 have h4: ∀c,c<4->aK (x.r.aM c):=fun c hc=>by have h1:=jW (x.r.aM c);rw[h c hc]at h1;exact h1
 match c with
 |0=>exact h4 0 (by decide)
 |1=>exact h4 1 (by decide)
 |2=>exact h4 2 (by decide)
 |c+3=>exact h4 3 (by decide)
theorem yG: ∀(xs:List Ln) (l l':ax),dH l->l9 xs l=some l'->dH l'
 |[],l,l',h,e=>by rw[l9]at e;injection e with e;subst e;exact h
 |x::xs,l,l',h,e=>by
  rcases Classical.em (Qc x.r 4/\au (Iw x).1 l=none)with hc|hc
  ·rw[pG hc]at e;exact yG xs _ l' (h.ins (Xf hc.1)) e
  ·rw[mY hc]at e;cases e
theorem CL{xs:List Ln}{most:Int}{l:ax}(h:eP xs most=some l):dH l:=by
 unfold eP at h;split at h
 ·cases h
 ·exact yG xs [] l ⟨by simp[fc],fun q hq=>by simp at hq⟩ h
section
open Go.ChangeShapes Go.WideShapes Go.ChangeAt Go.RowKit Go.Deep
theorem Tryz.Qh:prog.cellsOf 113=4:=by kernel_rfl
theorem Tryz.JZ:prog.cellsOf 115=5:=by kernel_rfl
theorem Tryz.Qi:prog.cellsOf 24=1:=by kernel_rfl
theorem Tryz.Fg:prog.cellsOf 26=2:=by kernel_rfl
theorem Fh{H:Type}{enc:TypeId×Value->H}{W:World}{fuel:Nat}{c0 c1 c2 c3:Value}{x:DataW H×List MemPlace}(hf:DataW.trod enc prog W 0 (fun _=>true) true fuel 113 [c0,c1,c2,c3]=some x):
  ∃r:Rw,c0=.int .i64 r.a/\c1=.int .i64 r.b/\c2=.int .i64 r.c/\c3=.int .i64 r.d:=by
 obtain⟨xs,m,_,_,hl,hx,hi⟩:=DataW.trod_array underlying113 hf
 have key: ∀i,i<4-> ∃n:Int,(([c0,c1,c2,c3]:List Value)[i]?)=some (.int .i64 n):=by
  intro i hi4;have hh:=hi i hi4;rw[Tryz.Ct,List.getElem?_eq_getElem (by rw[hx];exact hi4)]at hh
  have h1:(List.take 1 (List.drop (i*1) [c0,c1,c2,c3]))=[[c0,c1,c2,c3][i]]:=by
   have:i=0\/i=1\/i=2\/i=3:=by omega
   rcases this with rfl|rfl|rfl|rfl<;>rfl
  rw[h1]at hh;obtain⟨n,h2,_,h3⟩:=DataW.trod_int underlying3 hh;refine⟨n,?_⟩;rw[List.getElem?_eq_getElem (by simpa using hi4)];simp at h2;rw[h2]
 obtain⟨n0,e0⟩:=key 0 (by decide);obtain⟨n1,e1⟩:=key 1 (by decide);obtain⟨n2,e2⟩:=key 2 (by decide);obtain⟨n3,e3⟩:=key 3 (by decide);simp at e0 e1 e2 e3;exact⟨⟨n0,n1,n2,n3⟩,e0,e1,e2,e3⟩
theorem IA{H:Type}{enc:TypeId×Value->H}{W:World}{fuel:Nat}{cs:List Value}{x:DataW H×List MemPlace}(h:DataW.trod enc prog W 0 (fun _=>true) true fuel 115 cs=some x):
  ∃y:Ln,cs=ln5 y/\km y.n:=by
 obtain⟨xs,n,_,_,hlen,hxl,hf⟩:=DataW.trod_struct underlying115 h;rw[Tryz.JZ]at hlen
 match cs,hlen with
 |[v0,v1,v2,v3,v4],_=>have hx: ∀i,i<2-> ∃y,xs[i]?=some y:=fun i hi=>⟨_,ao (by rw[hxl];exact hi)⟩;obtain⟨y0,e0⟩:=hx 0 (by decide);obtain⟨y1,e1⟩:=hx 1 (by decide);have f0:=hf 0 _ rfl;rw[e0]at f0;change DataW.trod enc prog W 0 (fun _=>true) true n 3 (List.take (prog.cellsOf 3) (List.drop 0 [v0,v1,v2,v3,v4]))=_ at f0;rw[Tryz.Ct]at f0;have f1:=hf 1 _ rfl;rw[e1]at f1;change DataW.trod enc prog W 0 (fun _=>true) true n 113 (List.take (prog.cellsOf 113) (List.drop 1 [v0,v1,v2,v3,v4]))=_ at f1;rw[Tryz.Qh]at f1;obtain⟨n0,h0,_,w0⟩:=DataW.trod_int underlying3 f0;obtain⟨r,rfl,rfl,rfl,rfl⟩:=Fh f1;simp at h0;subst h0;exact⟨⟨n0,r⟩,rfl,bounds_i64 w0⟩
theorem zD{H:Type}{enc:TypeId×Value->H}{W:World}{fuel:Nat}{cs:List Value}{x:DataW H×List MemPlace}(h:DataW.trod enc prog W 0 (fun _=>true) true fuel 26 cs=some x):
  ∃(u:Value) (xs:List Ln) (most:Int),cs=[u,.int .i64 most]/\Ff W (fun _=>True) u xs/\(∀x∈xs,km x.n)/\km most:=by
 obtain⟨xs,n,_,_,hlen,hxl,hf⟩:=DataW.trod_struct underlying26 h;rw[Tryz.Fg]at hlen
 match cs,hlen with
 |[v0,v1],_=>have hx: ∀i,i<2-> ∃y,xs[i]?=some y:=fun i hi=>⟨_,ao (by rw[hxl];exact hi)⟩;obtain⟨y0,e0⟩:=hx 0 (by decide);obtain⟨y1,e1⟩:=hx 1 (by decide);have f0:=hf 0 _ rfl;rw[e0]at f0;change DataW.trod enc prog W 0 (fun _=>true) true n 24 (List.take (prog.cellsOf 24) (List.drop 0 [v0,v1]))=_ at f0;rw[Tryz.Qi]at f0;have f1:=hf 1 _ rfl;rw[e1]at f1;change DataW.trod enc prog W 0 (fun _=>true) true n 3 (List.take (prog.cellsOf 3) (List.drop 1 [v0,v1]))=_ at f1;rw[Tryz.Ct]at f1;obtain⟨n1,h1,_,w1⟩:=DataW.trod_int underlying3 f1;obtain⟨u,l,h2,r2,g2⟩:=mr 24 115 underlying24 5 (by decide) Tryz.JZ ln5 (fun _=>rfl) (fun y=>km y.n) ⟨0,.zero⟩ (fun _ cs _ hh=>IA hh) f0;simp at h1 h2;subst h1 h2;exact⟨_,l,n1,rfl,r2,g2,bounds_i64 w1⟩
end
section
open Go.ChangeShapes Go.WideShapes Go.ChangeAt Go.RowKit Go.Deep
theorem Tryz.Ma:prog.cellsOf 28=4:=by kernel_rfl
theorem Tryz.IB:prog.cellsOf 23=1:=by kernel_rfl
theorem Tryz.TL:prog.cellsOf 29=2:=by kernel_rfl
theorem Mb{H:Type}{enc:TypeId×Value->H}{W:World}{v:Value}{d:DataW H}{p:List MemPlace}{base:Nat}(hval:Value.okWide prog W .any base 28 v)
  (h:DataW.Trod enc prog W 0 (fun _=>true) true 28 v d p): ∃(u:Value) (xs:List Int) (u2:Value) (ls:List Ln) (most tries:Int),v=.agg #[u,u2,.int .i64 most,.int .i64 tries]/\Rd W (fun _=>True) u (jc xs)/\Ff W (fun _=>True) u2 ls:=by
 obtain⟨⟨cl⟩,rfl,hs⟩:=okWide_struct underlying28 hval;obtain⟨fuel,h⟩:=h;obtain⟨xs,n,_,_,hlen,hxl,hf⟩:=DataW.trod_struct underlying28 h;rw[Tryz.Ma]at hlen
 match cl,hlen with
 |[v0,v1,v2,v3],_=>
  have hx: ∀i,i<3-> ∃y,xs[i]?=some y:=fun i hi=>⟨_,ao (by rw[hxl];exact hi)⟩;obtain⟨y0,e0⟩:=hx 0 (by decide);obtain⟨y1,e1⟩:=hx 1 (by decide);obtain⟨y2,e2⟩:=hx 2 (by decide);have f0:=hf 0 _ rfl;rw[e0]at f0;change DataW.trod enc prog W 0 (fun _=>true) true n 23 (List.take (prog.cellsOf 23) (List.drop 0 [v0,v1,v2,v3]))=_ at f0;rw[Tryz.IB]at f0;have f1:=hf 1 _ rfl;rw[e1]at f1;change DataW.trod enc prog W 0 (fun _=>true) true n 26 (List.take (prog.cellsOf 26) (List.drop 1 [v0,v1,v2,v3]))=_ at f1;rw[Tryz.Fg]at f1;have f2:=hf 2 _ rfl;rw[e2]at f2;change DataW.trod enc prog W 0 (fun _=>true) true n 3 (List.take (prog.cellsOf 3) (List.drop 3 [v0,v1,v2,v3]))=_ at f2;rw[Tryz.l6]at f2;obtain⟨n2,h2,_,_⟩:=DataW.trod_int underlying3 f2
  obtain⟨u,l,h0,r0,-⟩:=mr 23 3 underlying23 1 (by decide) Tryz.l6 Wh (fun _=>rfl) yn 0 (fun _ cs _ hh=>by
   obtain⟨n,rfl,_,w⟩:=DataW.trod_int underlying3 hh
   exact⟨n,rfl,bounds_i64 w⟩) f0
  obtain⟨u2,ls,m,h1,r1,-,-⟩:=zD f1;simp at h0 h1 h2;obtain⟨rfl,rfl⟩:=h1;subst h0 h2;exact⟨_,l,_,ls,m,n2,rfl,Lx r0,r1⟩
theorem Qj{H:Type}{enc:TypeId×Value->H}{W:World}{v:Value}{d:DataW H}{p:List MemPlace}{base:Nat}(hval:Value.okWide prog W .any base 29 v)
  (h:DataW.Trod enc prog W 0 (fun _=>true) true 29 v d p): ∃x0 x1:Int,v=.agg #[.int .i64 x0,.int .i64 x1]:=by
 obtain⟨⟨cl⟩,rfl,hs⟩:=zq underlying29 hval;rw[Tryz.TL]at hs;obtain⟨fuel,hf⟩:=h;obtain⟨xs,m,_,_,hl,hx,hi⟩:=DataW.trod_array underlying29 hf
 match cl,hs with
 |[c0,c1],_=>have f0:=hi 0 (by decide);have f1:=hi 1 (by decide);rw[Tryz.l6,List.getElem?_eq_getElem (by rw[hx];decide)]at f0 f1;obtain⟨n0,h0,_,_⟩:=DataW.trod_int underlying3 f0;obtain⟨n1,h1,_,_⟩:=DataW.trod_int underlying3 f1;simp[Value.cells]at h0 h1;subst h0 h1;exact⟨n0,n1,rfl⟩
end
end Go.Proofs.YtmkofmeojbcakaaGreatDoor
