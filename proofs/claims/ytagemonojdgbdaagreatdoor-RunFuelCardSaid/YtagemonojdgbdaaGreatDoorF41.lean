import Derived.Test.YtagemonojdgbdaaGreatDoorF32
import Derived.Test.YtagemonojdgbdaaGreatDoorF40
namespace Go.Proofs.YtagemonojdgbdaaGreatDoor
set_option maxRecDepth 100000
set_option maxHeartbeats 16000000
open Go.RowKit
structure Ln where
 n:Int
 r:Rw
def WS(x:Ln):List Value:=[.int .i64 x.n,.int .i64 x.r.a,.int .i64 x.r.b,.int .i64 x.r.c,.int .i64 x.r.d]
def E7(w:World)(F:Nat->Prop)(v:Value)(l:List Ln):Prop:=cd 5 w F v (l.map WS)
theorem WT{w:World}{F:Nat->Prop}{A:Option Addr}{n c:Nat}{l:List Ln}(h:E7 w F (.slice A n c) l){j:Nat}{x:Ln}(hj:l[j]?=some x):
  ∃b o,A=some ⟨b,o,none⟩/\F b/\w.cell? ⟨b,o+j*5,none⟩=some (.int .i64 x.n)/\w.cell? ⟨b,o+j*5+1,none⟩=some (.int .i64 x.r.a)/\w.cell? ⟨b,o+j*5+2,none⟩=some (.int .i64 x.r.b)/\
   w.cell? ⟨b,o+j*5+3,none⟩=some (.int .i64 x.r.c)/\w.cell? ⟨b,o+j*5+4,none⟩=some (.int .i64 x.r.d):=by
 obtain⟨A',n',c',hv,hl,_,_,hx⟩:=h;injection hv with h1 h2 h3;subst h1 h2 h3;have hlt:=(b8.1 hj).1;obtain⟨b,o,rfl,hF,hc⟩:=hx (by simp at hl;omega);have hx':(l.map WS)[j]?=some (WS x):=by simp[hj]
 exact⟨b,o,rfl,hF,hc j _ hx' 0 _ rfl,hc j _ hx' 1 _ rfl,hc j _ hx' 2 _ rfl,hc j _ hx' 3 _ rfl,hc j _ hx' 4 _ rfl⟩
theorem Dc{w:World}{F:Nat->Prop}{v:Value}{l:List Ln}(h:E7 w F v l): ∃A c,v=.slice A l.length c/\l.length<=c/\c<=maxLen:=by obtain⟨A',n',c',hv,hl,h1,h2,_⟩:=h;simp at hl;exact⟨A',c',by rw[hl];exact hv,by omega,h2⟩
def E8(x:Ln):List UInt8×Rw:=(Lib.itoa (aR x.n),x.r)
def nJ(xs:List Ln):Nat->av
 |0=>[]
 |j+1=>match xs[j]? with
  |some x=>yA (E8 x) false (nJ xs j)
  |none=>nJ xs j
theorem lQ(xs:List Ln): ∀j,ez (nJ xs j)
 |0=>eh
 |j+1=>by
  rw[nJ];split
  ·rw[vh (lQ xs j)];exact dR (lQ xs j)
  ·exact lQ xs j
def MJ(r:Rw)(k:Nat):Prop:= ∀c,c<k->aR (r.aK c)=r.aK c
noncomputable def kU:List Ln->av->Option av
 |[],l=>some l
 |x::xs,l=> @ite _ (MJ x.r 4/\au (E8 x).1 l=none) (Classical.propDecidable _) (kU xs (bE (E8 x) l)) none
theorem nK{x:Ln}{xs:List Ln}{l:av}(h:MJ x.r 4/\au (E8 x).1 l=none):kU (x::xs) l=kU xs (bE (E8 x) l):=by rw[kU];exact @if_pos _ (Classical.propDecidable _) h _ _ _
theorem lR{x:Ln}{xs:List Ln}{l:av}(h: ¬(MJ x.r 4/\au (E8 x).1 l=none)):kU (x::xs) l=none:=by rw[kU];exact @if_neg _ (Classical.propDecidable _) h _ _ _
noncomputable def eI(xs:List Ln)(most:Int):Option av:=if 30<xs.length\/most<1\/60<most\/most<(xs.length:Int)then none else kU xs []
def lS(p:Option av)(most:Int)(w:World)(e:Ending)(w':World):Prop:=
 Below w.heap.size w w'/\(p=none->e=.returned (.pointer none))/\ ∀l,p=some l-> ∃T F,e=.returned (.pointer (some ⟨T,0,none⟩))/\cE w' T most 3 l F/\ ∀b q,F b q->w.heap.size<=b/\b<w'.heap.size
theorem lS.no{p:Option av}{most:Int}{w w':World}(hp:p=none)(hb:Below w.heap.size w w'):lS p most w (.returned (.pointer none)) w':=⟨hb,fun _=>rfl,fun l h=>by rw[hp]at h;cases h⟩
theorem PJ{r:Rw}(h:MJ r 4): ∀c,I6 (r.aK c):=by
 have h4: ∀c,c<4->I6 (r.aK c):=fun c hc=>by have h1:=jB (r.aK c);rw[h c hc]at h1;unfold aI at h1;exact⟨by omega,by omega⟩
 intro c
 match c with
 |0=>exact h4 0 (by decide)
 |1=>exact h4 1 (by decide)
 |2=>exact h4 2 (by decide)
 |c+3=>exact h4 3 (by decide)
def jx(w1:World)(T:Nat)(most:Int)(l:av)(E:Nat->Prop)(wr:World):Prop:=
 ∃F,cE wr T most 3 l F/\(∀b q,F b q->w1.heap.size<=b/\b<wr.heap.size/\ ¬E b)/\(∀k,E k->w1.heap.size<=k/\k<wr.heap.size)/\Below w1.heap.size w1 wr
def WU:Nat->Prop:=fun _=>False
section
variable{w w1 wr w2:World}{T:Nat}{most:Int}{l:av}{E:Nat->Prop}
theorem jx.oI(h:jx w1 T most l E wr):Below w1.heap.size w1 wr:=by obtain⟨F,_,_,_,h⟩:=h;exact h
theorem jx.still(h:jx w1 T most l E wr)(hb:Below wr.heap.size wr w2):jx w1 T most l E w2:=by obtain⟨F,h1,h2,h4,h3⟩:=h;exact⟨F,h1.below hb,fun b q hf=>⟨(h2 b q hf).1,cq (h2 b q hf).2.1 hb.size,(h2 b q hf).2.2⟩,fun k hk=>⟨(h4 k hk).1,cq (h4 k hk).2 hb.size⟩,h3.trans (hb.mono h3.size)⟩
theorem jx.fB(h:jx w1 T most l E wr)(o:Obj):jx w1 T most l (fun k=>E k\/k=wr.heap.size) (wr.alloc o):=by
 obtain⟨F,h1,h2,h4,h3⟩:=h;have hb:=af wr o;have hs:(wr.alloc o).heap.size=wr.heap.size+1:=by simp
 refine⟨F,h1.below hb,fun b q hf=>?_,fun k hk=>?_,h3.trans (hb.mono h3.size)⟩
 ·have:=h2 b q hf;refine⟨this.1,by omega,?_⟩;rintro(h|h)
  ·exact this.2.2 h
  ·omega
 ·have hs3:=h3.size;rcases hk with h|h
  ·have:=h4 k h;exact⟨by omega,by omega⟩
  ·exact⟨by omega,by omega⟩
theorem jx.box(h:jx w1 T most l E wr){S:Nat->Prop}(ho:Only S wr w2)(hS: ∀k,S k->E k):jx w1 T most l E w2:=by
 obtain⟨F,h1,h2,h4,h3⟩:=h
 exact⟨F,h1.eO ho (fun b q hf hs=>(h2 b q hf).2.2 (hS b hs)),fun b q hf=>⟨(h2 b q hf).1,cq (h2 b q hf).2.1 ho.size,(h2 b q hf).2.2⟩,fun k hk=>⟨(h4 k hk).1,cq (h4 k hk).2 ho.size⟩,
  h3.trans (ho.aG h3.size (fun k hk hs=>by have:=h4 k (hS k hs);omega))⟩
theorem jx.forget(h:jx w1 T most l E wr):jx w1 T most l WU wr:=by obtain⟨F,h1,h2,h4,h3⟩:=h;exact⟨F,h1,fun b q hf=>⟨(h2 b q hf).1,(h2 b q hf).2.1,fun h=>h⟩,fun k hk=>hk.elim,h3⟩
theorem jx.end_{p:Option av}(hb:Below w.heap.size w w1)(h:jx w1 T most l E wr)(hp:p=some l):lS p most w (.returned (.pointer (some ⟨T,0,none⟩))) wr:=by obtain⟨F,h1,h2,h4,h3⟩:=h;refine⟨hb.trans (h3.mono hb.size),fun e=>(by rw[hp]at e;cases e),fun l' e=>?_⟩;rw[hp]at e;injection e with e;subst e;exact⟨T,F,rfl,h1,fun b q hf=>⟨de hb.size (h2 b q hf).1,(h2 b q hf).2.1⟩⟩
theorem kW{k:List UInt8}{r:Rw}{q:Option Rw}(h:jx w1 T most l E wr)(hk:1<=k.length/\k.length<=16)(hr: ∀c,I6 (r.aK c))(hq:au k l=q)(hnf: ¬(au k l=none/\most<=(l.length:Int))):
  Calls Tryz.prog 35 #[.pointer (some ⟨T,0,none⟩),.string ⟨k.toArray⟩,.agg #[.int .i64 r.a,.int .i64 r.b,.int .i64 r.c,.int .i64 r.d]] wr fun e w'=>
   ∃oa ob oc od:Int,e=.returned (.tuple #[.agg #[.int .i64 oa,.int .i64 ob,.int .i64 oc,.int .i64 od],.bool q.isSome,.int .i64 0])/\jx w1 T most (bE (k,r) l) E w'/\ ∀b o,E b->wr.heap[b]?=some o->w'.heap[b]?=some o:=by
 obtain⟨F,h1,h2,h4,h3⟩:=h;refine(I5 wr T 3 most l F k r h1 (fun b q hf=>(h2 b q hf).2.1) hk hr).mono ?_;rintro e w' ⟨rfl,ht,ho⟩;have hE:wW most l k=0:=by unfold wW;rw[ff hnf]
 have hR:zO most l k r=bE (k,r) l:=by unfold zO;rw[ff hnf]
 rw[hR]at ht;rw[hE,hq];refine⟨_,_,_,_,rfl,⟨_,ht.bound,fun b q hf=>⟨?_,hf.2,fun hb=>?_⟩,fun k hk=>⟨(h4 k hk).1,cq (h4 k hk).2 ho.size⟩,h3.trans (Only.aG ho.only h3.size (fun k hk ⟨q,hq⟩=>by have:=(h2 k q hq).1;omega))⟩,fun b o hb VA=>ho.heap VA (fun q hq=>(h2 b q hq).2.2 hb)⟩
 ·rcases hf.1 with h|h
  ·exact(h2 b q h).1
  ·exact de h3.size h
 ·rcases hf.1 with h|h
  ·exact(h2 b q h).2.2 hb
  ·have:=(h4 b hb).2;omega
end
theorem iT{xs:List Ln}{j:Nat}{x:Ln}{l:av}(hx:xs[j]?=some x)(II:nJ xs j=l)(hll:l.length=j)(hq:au (E8 x).1 l=none):(bE (E8 x) l).length=j+1/\nJ xs (j+1)=bE (E8 x) l:=by
 have hu:ez l:=by rw[<-II];exact lQ xs j
 constructor
 ·rw[jH hu,hq,hll];rfl
 ·rw[nJ,hx];simp only[];rw[vh (lQ xs j),II]
theorem iz(w:World)(n:Int):Calls Tryz.prog 34 #[.int .i64 n] w fun e w'=>e=.returned (.int .i64 (aR n))/\w=w':=lO w n
theorem jD(w:World)(n:Int)(h:aI n):Calls Tryz.prog 9 #[.int .i64 n] w fun e w'=>e=.returned (.string ⟨(Lib.itoa n).toArray⟩)/\Below w.heap.size w w':=
 (vz n.natAbs n w (aq _) h.i64).mono fun e w' ⟨h1,m,h2⟩=>⟨h1,by rw[h2];exact aG (aw _ _) m⟩
theorem S7{w:World}{b p:Nat}{r:Rw}(h1:w.cell? ⟨b,p+1,none⟩=some (.int .i64 r.a))(h2:w.cell? ⟨b,p+2,none⟩=some (.int .i64 r.b))(h3:w.cell? ⟨b,p+3,none⟩=some (.int .i64 r.c))(h4:w.cell? ⟨b,p+4,none⟩=some (.int .i64 r.d)){k:Nat}(hk:k<4):
  w.cell? ⟨b,p+1+k,none⟩=some (.int .i64 (r.aK k)):=by
 match k,hk with
 |0,_=>exact h1
 |1,_=>exact h2
 |2,_=>exact h3
 |3,_=>exact h4
theorem E9(w:World)(F:Nat->Prop)(v:Value)(xs:List Ln)(most:Int)(hv:E7 w F v xs):
  Calls Tryz.prog 6 #[.agg #[v,.int .i64 most]] w (lS (eI xs most) most w):=by
 obtain⟨A,c,rfl,hlc,hcm⟩:=Dc hv;unfold maxLen at hcm;have hb0:=af w (.cells #[.slice A xs.length c,.int .i64 most] 24);have k0:=an w (.cells #[.slice A xs.length c,.int .i64 most] 24);have hv1:=(show E7 _ _ _ _ from cd.below hv hb0);have HG:=al (show eI xs most=if 30<xs.length\/most<1\/60<most\/most<(xs.length:Int)then none else kU xs []from rfl);obtain⟨N,hN⟩: ∃N,xs.length=N:=⟨_,rfl⟩;rw[hN]at hv1 hlc hb0 k0 HG⊢;have HL:=al hN;clear hv hN;go_enter Tryz.func6,Tryz.ntmps6;go_upto_region 1 with fail;generalize w.alloc (.cells #[.slice A N c,.int .i64 most] 24)=w1 at hb0 k0 hv1⊢;obtain⟨X,hX⟩: ∃x,w.heap.size=x:=⟨_,rfl⟩;rw[hX]at k0⊢;have x0:w1.cell? ⟨X,0,none⟩=some (.slice A N c):=by simp[World.cell?,k0]
 have x1:w1.cell? ⟨X,1,none⟩=some (.int .i64 most):=by simp[World.cell?,k0]
 have H1:=al (ab hb0 (ab x0 (ab x1 hv1)));clear hb0 k0 hX hv1;by_cases c1:30<N
 ·have c1':(30:Int)<(N:Int):=by omega
  have HE:=al (show eI xs most=none by rw[HG.out];exact fi (.inl c1));clear c1;go_wp2_with fail;go_ret
  exact lS.no HE.out H1.out.1
 by_cases c2:most<1
 ·have c1': ¬(30:Int)<(N:Int):=by omega
  have HE:=al (show eI xs most=none by rw[HG.out];exact fi (.inr (.inl c2)));clear c1;go_wp2_with fail;go_ret
  exact lS.no HE.out H1.out.1
 by_cases c3:60<most
 ·have c1': ¬(30:Int)<(N:Int):=by omega
  have HE:=al (show eI xs most=none by rw[HG.out];exact fi (.inr (.inr (.inl c3))));clear c1;go_wp2_with fail;go_ret
  exact lS.no HE.out H1.out.1
 by_cases c4:most<(N:Int)
 ·have c1': ¬(30:Int)<(N:Int):=by omega
  have HE:=al (show eI xs most=none by rw[HG.out];exact fi (.inr (.inr (.inr c4))));clear c1;go_wp2_with fail;go_ret
  exact lS.no HE.out H1.out.1
 have c1': ¬(30:Int)<(N:Int):=by omega
 have HE:=al (show eI xs most=kU xs [] by rw[HG.out];exact ff (by omega));have HM:=al (show(N<=30/\1<=most/\most<=60/\(N:Int)<=most)from⟨by omega,by omega,by omega,by omega⟩);have HT:=al (Eu w1 most 3 HM.out.2.1 (by have:=HM.out;omega) (by decide) (by decide));clear c1 HG;go_wp2_with fail;refine HT.out.mono ?_;rintro e w2 ⟨T,rfl,hTa,hb2⟩;have HR:=al (show jx w1 T most [] WU w2 from⟨_,hTa,fun b q h=>⟨h.1,h.2,fun h=>h⟩,fun k hk=>hk.elim,hb2⟩);clear hTa hb2 HT c1' c2 c3 c4 x0 x1;go_wp2_with fail
 go_loopw [5] (fun i wr=> ∃(j:Nat) (l:av),j<=N/\i=.int .i64 (j:Int)/\jx w1 T most l WU wr/\kU xs []=kU (xs.drop j) l/\l.length=j/\nJ xs j=l) (fun i _=>N-(intOf i).toNat)
 case atStart=>exact⟨0,[],by omega,rfl,HR.out,by simp,rfl,rfl⟩
 case round=>
  obtain⟨j,l,hj,rfl,hR,heq,hll,II⟩:=hrel;have hbr:Below w1.heap.size w1 wr:=hR.oI;have x0:=ag hbr H1.out.2.1;by_cases hlt:j<N
  ·obtain⟨x,hx⟩: ∃x,xs[j]?=some x:=⟨_,ao (by rw[HL.out];exact hlt)⟩
   have hdr:xs.drop j=x::xs.drop (j+1):=by have h1:=b8.1 hx;rw[<-h1.2];exact List.drop_eq_getElem_cons h1.1
   rw[hdr]at heq;obtain⟨b,o,rfl,hF,d0,d1,d2,d3,d4⟩:=WT H1.out.2.2.2 hx;obtain⟨n,ra,rb,rc,rd⟩:=x;simp only at d0 d1 d2 d3 d4;have i1:(0:Int)<=(j:Int):=by omega
   have i2:(j:Int)<(N:Int):=by omega
   have HD:=al (ab d0 (ab d1 (ab d2 (ab d3 d4))));have HW:=al (ab hR (ab heq (ab hll (ab II (ab hx hbr)))));clear hR heq hll II hx hdr hbr d0 d1 d2 d3 d4;go_wp2_with fail
   go_loopw [6] (fun i wq=> ∃k:Nat,k<=4/\i=.int .i64 (k:Int)/\MJ ⟨ra,rb,rc,rd⟩ k/\Below wr.heap.size wr wq) (fun i _=>4-(intOf i).toNat)
   case atStart=>exact⟨0,by decide,rfl,fun c hc=>by omega,aw _ _⟩
   case round=>
    obtain⟨k,hk,rfl,hrc,sV⟩:=hrel;have xm:=HW.out.2.2.2.2.2.trans (sV.mono HW.out.2.2.2.2.2.size);have x0:=ag xm H1.out.2.1;have e0:=ag xm HD.out.1;have e1:=ag xm HD.out.2.1;have e2:=ag xm HD.out.2.2.1;have e3:=ag xm HD.out.2.2.2.1;have e4:=ag xm HD.out.2.2.2.2;by_cases hk4:k<4
    ·have j1:(0:Int)<=(k:Int):=by omega
     have j2:(k:Int)<4:=by omega
     have ec:=S7 (r:=⟨ra,rb,rc,rd⟩) e1 e2 e3 e4 hk4;obtain⟨v,hv⟩: ∃v,Rw.aK ⟨ra,rb,rc,rd⟩ k=v:=⟨_,rfl⟩;rw[hv]at ec;by_cases hcl:aR v=v
     ·have HC:=al (fun w=>iz w v);rw[hcl]at HC;have HQ:=al (ab hrc (ab sV (show aR (Rw.aK ⟨ra,rb,rc,rd⟩ k)=Rw.aK ⟨ra,rb,rc,rd⟩ k by rw[hv,hcl])));clear hrc sV xm hcl hv e0 e1 e2 e3 e4;go_wp2_with fail;go_quiet((go_at_call 34;exact lW (HC.out _)));rename_i nq;clear x0 ec;go_wp2_with fail;go_roundw
      case rel=>
       refine⟨k+1,by omega,by go_num,fun c hc=>?_,Only.aG ((qe HQ.out.2.1).drewN nq) (aq _) (fun _ _ h=>h)⟩;by_cases e:c=k
       ·subst e;exact HQ.out.2.2
       ·exact HQ.out.1 c (by omega)
      case measure=>simp[intOf];omega
     ·obtain⟨u,hu⟩: ∃u,aR v=u:=⟨_,rfl⟩;have HC:=al (fun w=>iz w v);rw[hu]at HC hcl;have huv:(u !=v)=true:=by simpa using hcl
      have HN:=al (show eI xs most=none from by
       rw[HE.out,HW.out.2.1]
       exact lR (fun h=>hcl (by rw[<-hu,<-hv];exact h.1 k hk4)))
      have HB:=al (show Below w.heap.size w wr from H1.out.1.trans (xm.mono H1.out.1.size));clear hrc sV xm hcl hv hu e0 e1 e2 e3 e4;go_wp2_with fail;go_quiet((go_at_call 34;exact lW (HC.out _)));rename_i nq;clear x0 ec;go_wp2_with fail;go_ret
      exact lS.no HN.out (Only.aG ((qe HB.out).drewN nq) (aq _) (fun _ _ h=>h))
    ·obtain rfl:k=4:=by omega
     have HQ:=al (ab hrc (HW.out.1.still sV));have vS:=al (ab (jB n) (ab (gI (jB n)) (PJ hrc)));clear hrc sV xm x0 e0 e1 e2 e3 e4
     cases hq:au (Lib.itoa (aR n)) l with
     |none=>
      have HK:=al hq;clear hq;go_wp2_with fail;go_upto_region 14 with fail;have HT:=al (show jx w1 T most l WU wr.drew from HQ.out.2.still (aw _ _).drew);have NF:=al (show ¬(au (Lib.itoa (aR n)) l=none/\most<=(l.length:Int))from fun h=>by have h1:=HW.out.2.2.1;have h2:=HM.out;have h3:=h.2;rw[h1]at h3;omega);refine pb (S:=(fun W=> ∃l E,jx w1 T most l E W)) (by kernel_rfl) ⟨_,_,HQ.out.2.still (aw _ _).drew⟩ (fun pt=>?_);generalize wr.drew=W3 at HT pt⊢;refine aM [0,1] ?_
      iterate 2 (refine bX (v:=?_) (fun wS hSw=>?_) pt ?_;rotate_left;(go_simp;try with_reducible rfl);try simp only[ai,aj,ak,ar])
      refine aN ?_;refine fJ 2 (v:=?_) (fun wS hSw=>?_) pt ?_;rotate_left
      ·obtain⟨_,_,AO⟩:=hSw;have iA:=AO.oI;have x0:=ag iA H1.out.2.1;have e0:=ag iA HD.out.1;have e1:=ag iA HD.out.2.1;have e2:=ag iA HD.out.2.2.1;have e3:=ag iA HD.out.2.2.2.1;have e4:=ag iA HD.out.2.2.2.2;go_simp;try with_reducible rfl
      try simp only[ai,aj,ak,ar]
      refine aM [3,4,5] ?_
      iterate 3 (refine bX (v:=?_) (fun wS hSw=>?_) pt ?_;rotate_left;(go_simp;try with_reducible rfl);try simp only[ai,aj,ak,ar])
      refine aN ?_;refine fJ 6 (v:=?_) (fun wS hSw=>?_) pt ?_;rotate_left
      ·obtain⟨_,_,AO⟩:=hSw;have iA:=AO.oI;have x0:=ag iA H1.out.2.1;have e0:=ag iA HD.out.1;have e1:=ag iA HD.out.2.1;have e2:=ag iA HD.out.2.2.1;have e3:=ag iA HD.out.2.2.2.1;have e4:=ag iA HD.out.2.2.2.2;go_simp;try with_reducible rfl
      try simp only[ai,aj,ak,ar]
      refine fJ 9 (v:=?_) (fun wS hSw=>?_) pt ?_;rotate_left
      ·go_simp;try with_reducible rfl
      try simp only[ai,aj,ak,ar]
      refine fJ 10 (v:=?_) (fun wS hSw=>?_) pt ?_;rotate_left
      ·obtain⟨_,_,AO⟩:=hSw;have iA:=AO.oI;have x0:=ag iA H1.out.2.1;have e0:=ag iA HD.out.1;have e1:=ag iA HD.out.2.1;have e2:=ag iA HD.out.2.2.1;have e3:=ag iA HD.out.2.2.2.1;have e4:=ag iA HD.out.2.2.2.2;go_simp;try with_reducible rfl
      try simp only[ai,aj,ak,ar]
      refine aM [11,12,13] ?_
      iterate 3 (refine bX (v:=?_) (fun wS hSw=>?_) pt ?_;rotate_left;(go_simp;try with_reducible rfl);try simp only[ai,aj,ak,ar])
      refine aN ?_;refine fJ 14 (v:=?_) (fun wS hSw=>?_) pt ?_;rotate_left
      ·obtain⟨_,_,AO⟩:=hSw;have iA:=AO.oI;have x0:=ag iA H1.out.2.1;have e0:=ag iA HD.out.1;have e1:=ag iA HD.out.2.1;have e2:=ag iA HD.out.2.2.1;have e3:=ag iA HD.out.2.2.2.1;have e4:=ag iA HD.out.2.2.2.2;go_simp;try with_reducible rfl
      try simp only[ai,aj,ak,ar]
      refine ph (rs:=[7,20]) (by kernel_rfl) (by simp) (bP (i:=7) rfl (fun K hK=>?_) (bP (i:=20) rfl (fun K hK=>?_) o0))
      ·skip
       go_simp;refine(iz _ n).mono ?_;rintro e wn ⟨rfl,rfl⟩
       try go_simp
       refine hK.out _ _ (pt) ?_;clear hK K pt;intro pt
       try simp only[ai,aj,ak,ar]
       refine ph (rs:=[8,20]) (by kernel_rfl) (by simp) (bP (i:=8) rfl (fun K hK=>?_) (bP (i:=20) rfl (fun K hK=>?_) o0))
       ·skip
        go_simp;refine(jD _ (aR n) vS.out.1).mono ?_;rintro e wk ⟨rfl,cD⟩;have eB:=al (HT.out.still cD);clear HT;have HT:=eB;clear eB
        try go_simp
        refine hK.out _ _ (⟨_,_,HT.out⟩) ?_;clear hK K pt cD;intro pt
        try simp only[ai,aj,ak,ar]
        refine ph (rs:=[15,20]) (by kernel_rfl) (by simp) (bP (i:=15) rfl (fun K hK=>?_) (bP (i:=20) rfl (fun K hK=>?_) o0))
        ·skip
         go_simp;refine(kW (r:=⟨ra,rb,rc,rd⟩) HT.out vS.out.2.1 vS.out.2.2 HK.out NF.out).mono ?_;rintro e wp ⟨oa,ob,oc,od,rfl,qd,xo⟩;have eB:=al (qd);clear HT;have HT:=eB;clear eB;clear qd xo
         try go_simp
         refine hK.out _ _ (⟨_,_,HT.out⟩) ?_;clear hK K pt;intro pt
         try simp only[ai,aj,ak,ar]
         refine aM [16,17,18,19] ?_
         iterate 4 (refine bX (v:=?_) (fun wS hSw=>?_) pt ?_;rotate_left;(go_simp;try with_reducible rfl);try simp only[ai,aj,ak,ar])
         refine aN ?_;refine aW 20 (fun K hK=>?_);go_simp;refine hK.out _ _ (⟨_,_,HT.out.fB _⟩) ?_;clear hK K pt;intro pt
         try simp only[ai,aj,ak,ar]
         have eB:=al (HT.out.fB (.cells #[.int .i64 0,.int .i64 0,.int .i64 0,.int .i64 0] 26));have HZ:=al (an wp (.cells #[.int .i64 0,.int .i64 0,.int .i64 0,.int .i64 0] 26));clear HT;generalize wp.heap.size=Z at eB HZ pt⊢;generalize wp.alloc (.cells #[.int .i64 0,.int .i64 0,.int .i64 0,.int .i64 0] 26)=wz at eB HZ pt⊢;have HT:=eB;clear eB;refine aW 21 (fun K hK=>?_);obtain⟨⟨z0,z1,z2,z3⟩,y0,y1,y2,y3⟩:=ct HZ.out;go_simp;refine hK.out _ _ (⟨_,_,HT.out.box (bK (v0:=.int .i64 oa) (v1:=.int .i64 ob) (v2:=.int .i64 oc) (v3:=.int .i64 od) HZ.out).2 (fun k hk=>.inr hk)⟩) ?_;clear hK K pt z0 z1 z2 z3 y0 y1 y2 y3;intro pt
         try simp only[ai,aj,ak,ar]
         refine aM [22,23] ?_
         iterate 2 (refine bX (v:=?_) (fun wS hSw=>?_) pt ?_;rotate_left;(go_simp;try with_reducible rfl);try simp only[ai,aj,ak,ar])
         refine aN ?_;refine pf (by kernel_rfl) ?_ _;have Fa:=al (HT.out.box (bK (v0:=.int .i64 oa) (v1:=.int .i64 ob) (v2:=.int .i64 oc) (v3:=.int .i64 od) HZ.out).2 (fun k hk=>.inr hk)).forget;clear HT pt;go_wp2_with fail;go_roundw
         case rel=>
          refine⟨j+1,bE (Lib.itoa (aR n),⟨ra,rb,rc,rd⟩) l,by omega,by go_num,Fa.out,?_,?_,?_⟩
          ·rw[HW.out.2.1,nK (x:=⟨n,⟨ra,rb,rc,rd⟩⟩) (show MJ (⟨ra,rb,rc,rd⟩:Rw) 4/\au (Lib.itoa (aR n)) l=none from⟨HQ.out.1,HK.out⟩)];rfl
          ·exact(iT HW.out.2.2.2.2.1 HW.out.2.2.2.1 HW.out.2.2.1 HK.out).1
          ·exact(iT HW.out.2.2.2.2.1 HW.out.2.2.2.1 HW.out.2.2.1 HK.out).2
         case measure=>simp[intOf];omega
        ·skip
         go_simp;refine hK.out _ _ (⟨_,_,HT.out.fB _⟩) ?_;clear hK K pt;intro pt
         try simp only[ai,aj,ak,ar]
         have eB:=al (HT.out.fB (.cells #[.int .i64 0,.int .i64 0,.int .i64 0,.int .i64 0] 26));have HZ:=al (an wk (.cells #[.int .i64 0,.int .i64 0,.int .i64 0,.int .i64 0] 26));clear HT;generalize wk.heap.size=Z at eB HZ pt⊢;generalize wk.alloc (.cells #[.int .i64 0,.int .i64 0,.int .i64 0,.int .i64 0] 26)=wz at eB HZ pt⊢;have HT:=eB;clear eB;refine aW 15 (fun K hK=>?_);go_simp;refine(kW (r:=⟨ra,rb,rc,rd⟩) HT.out vS.out.2.1 vS.out.2.2 HK.out NF.out).mono ?_;rintro e wp ⟨oa,ob,oc,od,rfl,qd,xo⟩;have eB:=al (qd);clear HT;have HT:=eB;clear eB;have qJ:=al (xo _ _ (.inr rfl) HZ.out);clear HZ;have HZ:=qJ;clear qJ;clear qd xo
         try go_simp
         refine hK.out _ _ (⟨_,_,HT.out⟩) ?_;clear hK K pt;intro pt
         try simp only[ai,aj,ak,ar]
         refine aM [16,17,18,19] ?_
         iterate 4 (refine bX (v:=?_) (fun wS hSw=>?_) pt ?_;rotate_left;(go_simp;try with_reducible rfl);try simp only[ai,aj,ak,ar])
         refine aN ?_;refine aW 21 (fun K hK=>?_);obtain⟨⟨z0,z1,z2,z3⟩,y0,y1,y2,y3⟩:=ct HZ.out;go_simp;refine hK.out _ _ (⟨_,_,HT.out.box (bK (v0:=.int .i64 oa) (v1:=.int .i64 ob) (v2:=.int .i64 oc) (v3:=.int .i64 od) HZ.out).2 (fun k hk=>.inr hk)⟩) ?_;clear hK K pt z0 z1 z2 z3 y0 y1 y2 y3;intro pt
         try simp only[ai,aj,ak,ar]
         refine aM [22,23] ?_
         iterate 2 (refine bX (v:=?_) (fun wS hSw=>?_) pt ?_;rotate_left;(go_simp;try with_reducible rfl);try simp only[ai,aj,ak,ar])
         refine aN ?_;refine pf (by kernel_rfl) ?_ _;have Fa:=al (HT.out.box (bK (v0:=.int .i64 oa) (v1:=.int .i64 ob) (v2:=.int .i64 oc) (v3:=.int .i64 od) HZ.out).2 (fun k hk=>.inr hk)).forget;clear HT pt;go_wp2_with fail;go_roundw
         case rel=>
          refine⟨j+1,bE (Lib.itoa (aR n),⟨ra,rb,rc,rd⟩) l,by omega,by go_num,Fa.out,?_,?_,?_⟩
          ·rw[HW.out.2.1,nK (x:=⟨n,⟨ra,rb,rc,rd⟩⟩) (show MJ (⟨ra,rb,rc,rd⟩:Rw) 4/\au (Lib.itoa (aR n)) l=none from⟨HQ.out.1,HK.out⟩)];rfl
          ·exact(iT HW.out.2.2.2.2.1 HW.out.2.2.2.1 HW.out.2.2.1 HK.out).1
          ·exact(iT HW.out.2.2.2.2.1 HW.out.2.2.2.1 HW.out.2.2.1 HK.out).2
         case measure=>simp[intOf];omega
       ·skip
        go_simp;refine hK.out _ _ (⟨_,_,HT.out.fB _⟩) ?_;clear hK K pt;intro pt
        try simp only[ai,aj,ak,ar]
        have eB:=al (HT.out.fB (.cells #[.int .i64 0,.int .i64 0,.int .i64 0,.int .i64 0] 26));have HZ:=al (an W3 (.cells #[.int .i64 0,.int .i64 0,.int .i64 0,.int .i64 0] 26));clear HT;generalize W3.heap.size=Z at eB HZ pt⊢;generalize W3.alloc (.cells #[.int .i64 0,.int .i64 0,.int .i64 0,.int .i64 0] 26)=wz at eB HZ pt⊢;have HT:=eB;clear eB;refine aW 8 (fun K hK=>?_);go_simp;refine(jD _ (aR n) vS.out.1).mono ?_;rintro e wk ⟨rfl,cD⟩;have eB:=al (HT.out.still cD);clear HT;have HT:=eB;clear eB;have qJ:=al (pw cD HZ.out);clear HZ;have HZ:=qJ;clear qJ
        try go_simp
        refine hK.out _ _ (⟨_,_,HT.out⟩) ?_;clear hK K pt cD;intro pt
        try simp only[ai,aj,ak,ar]
        refine aW 15 (fun K hK=>?_);go_simp;refine(kW (r:=⟨ra,rb,rc,rd⟩) HT.out vS.out.2.1 vS.out.2.2 HK.out NF.out).mono ?_;rintro e wp ⟨oa,ob,oc,od,rfl,qd,xo⟩;have eB:=al (qd);clear HT;have HT:=eB;clear eB;have qJ:=al (xo _ _ (.inr rfl) HZ.out);clear HZ;have HZ:=qJ;clear qJ;clear qd xo
        try go_simp
        refine hK.out _ _ (⟨_,_,HT.out⟩) ?_;clear hK K pt;intro pt
        try simp only[ai,aj,ak,ar]
        refine aM [16,17,18,19] ?_
        iterate 4 (refine bX (v:=?_) (fun wS hSw=>?_) pt ?_;rotate_left;(go_simp;try with_reducible rfl);try simp only[ai,aj,ak,ar])
        refine aN ?_;refine aW 21 (fun K hK=>?_);obtain⟨⟨z0,z1,z2,z3⟩,y0,y1,y2,y3⟩:=ct HZ.out;go_simp;refine hK.out _ _ (⟨_,_,HT.out.box (bK (v0:=.int .i64 oa) (v1:=.int .i64 ob) (v2:=.int .i64 oc) (v3:=.int .i64 od) HZ.out).2 (fun k hk=>.inr hk)⟩) ?_;clear hK K pt z0 z1 z2 z3 y0 y1 y2 y3;intro pt
        try simp only[ai,aj,ak,ar]
        refine aM [22,23] ?_
        iterate 2 (refine bX (v:=?_) (fun wS hSw=>?_) pt ?_;rotate_left;(go_simp;try with_reducible rfl);try simp only[ai,aj,ak,ar])
        refine aN ?_;refine pf (by kernel_rfl) ?_ _;have Fa:=al (HT.out.box (bK (v0:=.int .i64 oa) (v1:=.int .i64 ob) (v2:=.int .i64 oc) (v3:=.int .i64 od) HZ.out).2 (fun k hk=>.inr hk)).forget;clear HT pt;go_wp2_with fail;go_roundw
        case rel=>
         refine⟨j+1,bE (Lib.itoa (aR n),⟨ra,rb,rc,rd⟩) l,by omega,by go_num,Fa.out,?_,?_,?_⟩
         ·rw[HW.out.2.1,nK (x:=⟨n,⟨ra,rb,rc,rd⟩⟩) (show MJ (⟨ra,rb,rc,rd⟩:Rw) 4/\au (Lib.itoa (aR n)) l=none from⟨HQ.out.1,HK.out⟩)];rfl
         ·exact(iT HW.out.2.2.2.2.1 HW.out.2.2.2.1 HW.out.2.2.1 HK.out).1
         ·exact(iT HW.out.2.2.2.2.1 HW.out.2.2.2.1 HW.out.2.2.1 HK.out).2
        case measure=>simp[intOf];omega
      ·skip
       go_simp;refine hK.out _ _ (⟨_,_,HT.out.fB _⟩) ?_;clear hK K pt;intro pt
       try simp only[ai,aj,ak,ar]
       have eB:=al (HT.out.fB (.cells #[.int .i64 0,.int .i64 0,.int .i64 0,.int .i64 0] 26));have HZ:=al (an W3 (.cells #[.int .i64 0,.int .i64 0,.int .i64 0,.int .i64 0] 26));clear HT;generalize W3.heap.size=Z at eB HZ pt⊢;generalize W3.alloc (.cells #[.int .i64 0,.int .i64 0,.int .i64 0,.int .i64 0] 26)=wz at eB HZ pt⊢;have HT:=eB;clear eB;refine aW 7 (fun K hK=>?_);go_simp;refine(iz _ n).mono ?_;rintro e wn ⟨rfl,rfl⟩
       try go_simp
       refine hK.out _ _ (pt) ?_;clear hK K pt;intro pt
       try simp only[ai,aj,ak,ar]
       refine aW 8 (fun K hK=>?_);go_simp;refine(jD _ (aR n) vS.out.1).mono ?_;rintro e wk ⟨rfl,cD⟩;have eB:=al (HT.out.still cD);clear HT;have HT:=eB;clear eB;have qJ:=al (pw cD HZ.out);clear HZ;have HZ:=qJ;clear qJ
       try go_simp
       refine hK.out _ _ (⟨_,_,HT.out⟩) ?_;clear hK K pt cD;intro pt
       try simp only[ai,aj,ak,ar]
       refine aW 15 (fun K hK=>?_);go_simp;refine(kW (r:=⟨ra,rb,rc,rd⟩) HT.out vS.out.2.1 vS.out.2.2 HK.out NF.out).mono ?_;rintro e wp ⟨oa,ob,oc,od,rfl,qd,xo⟩;have eB:=al (qd);clear HT;have HT:=eB;clear eB;have qJ:=al (xo _ _ (.inr rfl) HZ.out);clear HZ;have HZ:=qJ;clear qJ;clear qd xo
       try go_simp
       refine hK.out _ _ (⟨_,_,HT.out⟩) ?_;clear hK K pt;intro pt
       try simp only[ai,aj,ak,ar]
       refine aM [16,17,18,19] ?_
       iterate 4 (refine bX (v:=?_) (fun wS hSw=>?_) pt ?_;rotate_left;(go_simp;try with_reducible rfl);try simp only[ai,aj,ak,ar])
       refine aN ?_;refine aW 21 (fun K hK=>?_);obtain⟨⟨z0,z1,z2,z3⟩,y0,y1,y2,y3⟩:=ct HZ.out;go_simp;refine hK.out _ _ (⟨_,_,HT.out.box (bK (v0:=.int .i64 oa) (v1:=.int .i64 ob) (v2:=.int .i64 oc) (v3:=.int .i64 od) HZ.out).2 (fun k hk=>.inr hk)⟩) ?_;clear hK K pt z0 z1 z2 z3 y0 y1 y2 y3;intro pt
       try simp only[ai,aj,ak,ar]
       refine aM [22,23] ?_
       iterate 2 (refine bX (v:=?_) (fun wS hSw=>?_) pt ?_;rotate_left;(go_simp;try with_reducible rfl);try simp only[ai,aj,ak,ar])
       refine aN ?_;refine pf (by kernel_rfl) ?_ _;have Fa:=al (HT.out.box (bK (v0:=.int .i64 oa) (v1:=.int .i64 ob) (v2:=.int .i64 oc) (v3:=.int .i64 od) HZ.out).2 (fun k hk=>.inr hk)).forget;clear HT pt;go_wp2_with fail;go_roundw
       case rel=>
        refine⟨j+1,bE (Lib.itoa (aR n),⟨ra,rb,rc,rd⟩) l,by omega,by go_num,Fa.out,?_,?_,?_⟩
        ·rw[HW.out.2.1,nK (x:=⟨n,⟨ra,rb,rc,rd⟩⟩) (show MJ (⟨ra,rb,rc,rd⟩:Rw) 4/\au (Lib.itoa (aR n)) l=none from⟨HQ.out.1,HK.out⟩)];rfl
        ·exact(iT HW.out.2.2.2.2.1 HW.out.2.2.2.1 HW.out.2.2.1 HK.out).1
        ·exact(iT HW.out.2.2.2.2.1 HW.out.2.2.2.1 HW.out.2.2.1 HK.out).2
       case measure=>simp[intOf];omega
     |some old=>
      have HK:=al hq;clear hq;go_wp2_with fail;go_upto_region 14 with fail;have HT:=al (show jx w1 T most l WU wr.drew from HQ.out.2.still (aw _ _).drew);have NF:=al (show ¬(au (Lib.itoa (aR n)) l=none/\most<=(l.length:Int))from fun h=>by have h1:=HW.out.2.2.1;have h2:=HM.out;have h3:=h.2;rw[h1]at h3;omega);refine pb (S:=(fun W=> ∃l E,jx w1 T most l E W)) (by kernel_rfl) ⟨_,_,HQ.out.2.still (aw _ _).drew⟩ (fun pt=>?_);generalize wr.drew=W3 at HT pt⊢;refine aM [0,1] ?_
      iterate 2 (refine bX (v:=?_) (fun wS hSw=>?_) pt ?_;rotate_left;(go_simp;try with_reducible rfl);try simp only[ai,aj,ak,ar])
      refine aN ?_;refine fJ 2 (v:=?_) (fun wS hSw=>?_) pt ?_;rotate_left
      ·obtain⟨_,_,AO⟩:=hSw;have iA:=AO.oI;have x0:=ag iA H1.out.2.1;have e0:=ag iA HD.out.1;have e1:=ag iA HD.out.2.1;have e2:=ag iA HD.out.2.2.1;have e3:=ag iA HD.out.2.2.2.1;have e4:=ag iA HD.out.2.2.2.2;go_simp;try with_reducible rfl
      try simp only[ai,aj,ak,ar]
      refine aM [3,4,5] ?_
      iterate 3 (refine bX (v:=?_) (fun wS hSw=>?_) pt ?_;rotate_left;(go_simp;try with_reducible rfl);try simp only[ai,aj,ak,ar])
      refine aN ?_;refine fJ 6 (v:=?_) (fun wS hSw=>?_) pt ?_;rotate_left
      ·obtain⟨_,_,AO⟩:=hSw;have iA:=AO.oI;have x0:=ag iA H1.out.2.1;have e0:=ag iA HD.out.1;have e1:=ag iA HD.out.2.1;have e2:=ag iA HD.out.2.2.1;have e3:=ag iA HD.out.2.2.2.1;have e4:=ag iA HD.out.2.2.2.2;go_simp;try with_reducible rfl
      try simp only[ai,aj,ak,ar]
      refine fJ 9 (v:=?_) (fun wS hSw=>?_) pt ?_;rotate_left
      ·go_simp;try with_reducible rfl
      try simp only[ai,aj,ak,ar]
      refine fJ 10 (v:=?_) (fun wS hSw=>?_) pt ?_;rotate_left
      ·obtain⟨_,_,AO⟩:=hSw;have iA:=AO.oI;have x0:=ag iA H1.out.2.1;have e0:=ag iA HD.out.1;have e1:=ag iA HD.out.2.1;have e2:=ag iA HD.out.2.2.1;have e3:=ag iA HD.out.2.2.2.1;have e4:=ag iA HD.out.2.2.2.2;go_simp;try with_reducible rfl
      try simp only[ai,aj,ak,ar]
      refine aM [11,12,13] ?_
      iterate 3 (refine bX (v:=?_) (fun wS hSw=>?_) pt ?_;rotate_left;(go_simp;try with_reducible rfl);try simp only[ai,aj,ak,ar])
      refine aN ?_;refine fJ 14 (v:=?_) (fun wS hSw=>?_) pt ?_;rotate_left
      ·obtain⟨_,_,AO⟩:=hSw;have iA:=AO.oI;have x0:=ag iA H1.out.2.1;have e0:=ag iA HD.out.1;have e1:=ag iA HD.out.2.1;have e2:=ag iA HD.out.2.2.1;have e3:=ag iA HD.out.2.2.2.1;have e4:=ag iA HD.out.2.2.2.2;go_simp;try with_reducible rfl
      try simp only[ai,aj,ak,ar]
      refine ph (rs:=[7,20]) (by kernel_rfl) (by simp) (bP (i:=7) rfl (fun K hK=>?_) (bP (i:=20) rfl (fun K hK=>?_) o0))
      ·skip
       go_simp;refine(iz _ n).mono ?_;rintro e wn ⟨rfl,rfl⟩
       try go_simp
       refine hK.out _ _ (pt) ?_;clear hK K pt;intro pt
       try simp only[ai,aj,ak,ar]
       refine ph (rs:=[8,20]) (by kernel_rfl) (by simp) (bP (i:=8) rfl (fun K hK=>?_) (bP (i:=20) rfl (fun K hK=>?_) o0))
       ·skip
        go_simp;refine(jD _ (aR n) vS.out.1).mono ?_;rintro e wk ⟨rfl,cD⟩;have eB:=al (HT.out.still cD);clear HT;have HT:=eB;clear eB
        try go_simp
        refine hK.out _ _ (⟨_,_,HT.out⟩) ?_;clear hK K pt cD;intro pt
        try simp only[ai,aj,ak,ar]
        refine ph (rs:=[15,20]) (by kernel_rfl) (by simp) (bP (i:=15) rfl (fun K hK=>?_) (bP (i:=20) rfl (fun K hK=>?_) o0))
        ·skip
         go_simp;refine(kW (r:=⟨ra,rb,rc,rd⟩) HT.out vS.out.2.1 vS.out.2.2 HK.out NF.out).mono ?_;rintro e wp ⟨oa,ob,oc,od,rfl,qd,xo⟩;have eB:=al (qd);clear HT;have HT:=eB;clear eB;clear qd xo
         try go_simp
         refine hK.out _ _ (⟨_,_,HT.out⟩) ?_;clear hK K pt;intro pt
         try simp only[ai,aj,ak,ar]
         refine aM [16,17,18,19] ?_
         iterate 4 (refine bX (v:=?_) (fun wS hSw=>?_) pt ?_;rotate_left;(go_simp;try with_reducible rfl);try simp only[ai,aj,ak,ar])
         refine aN ?_;refine aW 20 (fun K hK=>?_);go_simp;refine hK.out _ _ (⟨_,_,HT.out.fB _⟩) ?_;clear hK K pt;intro pt
         try simp only[ai,aj,ak,ar]
         have eB:=al (HT.out.fB (.cells #[.int .i64 0,.int .i64 0,.int .i64 0,.int .i64 0] 26));have HZ:=al (an wp (.cells #[.int .i64 0,.int .i64 0,.int .i64 0,.int .i64 0] 26));clear HT;generalize wp.heap.size=Z at eB HZ pt⊢;generalize wp.alloc (.cells #[.int .i64 0,.int .i64 0,.int .i64 0,.int .i64 0] 26)=wz at eB HZ pt⊢;have HT:=eB;clear eB;refine aW 21 (fun K hK=>?_);obtain⟨⟨z0,z1,z2,z3⟩,y0,y1,y2,y3⟩:=ct HZ.out;go_simp;refine hK.out _ _ (⟨_,_,HT.out.box (bK (v0:=.int .i64 oa) (v1:=.int .i64 ob) (v2:=.int .i64 oc) (v3:=.int .i64 od) HZ.out).2 (fun k hk=>.inr hk)⟩) ?_;clear hK K pt z0 z1 z2 z3 y0 y1 y2 y3;intro pt
         try simp only[ai,aj,ak,ar]
         refine aM [22,23] ?_
         iterate 2 (refine bX (v:=?_) (fun wS hSw=>?_) pt ?_;rotate_left;(go_simp;try with_reducible rfl);try simp only[ai,aj,ak,ar])
         refine aN ?_;refine pf (by kernel_rfl) ?_ _;have Fa:=al (HT.out.box (bK (v0:=.int .i64 oa) (v1:=.int .i64 ob) (v2:=.int .i64 oc) (v3:=.int .i64 od) HZ.out).2 (fun k hk=>.inr hk)).forget;clear HT pt
         have HN:=al (show eI xs most=none from by
          rw[HE.out,HW.out.2.1]
          exact lR (fun h=>by
           have h2:=h.2;have h3:=HK.out;rw[show(E8 ⟨n,⟨ra,rb,rc,rd⟩⟩).1=Lib.itoa (aR n)from rfl,h3]at h2
           cases h2))
         go_wp2_with fail;go_ret
         exact lS.no HN.out (H1.out.1.trans (Fa.out.oI.mono H1.out.1.size))
        ·skip
         go_simp;refine hK.out _ _ (⟨_,_,HT.out.fB _⟩) ?_;clear hK K pt;intro pt
         try simp only[ai,aj,ak,ar]
         have eB:=al (HT.out.fB (.cells #[.int .i64 0,.int .i64 0,.int .i64 0,.int .i64 0] 26));have HZ:=al (an wk (.cells #[.int .i64 0,.int .i64 0,.int .i64 0,.int .i64 0] 26));clear HT;generalize wk.heap.size=Z at eB HZ pt⊢;generalize wk.alloc (.cells #[.int .i64 0,.int .i64 0,.int .i64 0,.int .i64 0] 26)=wz at eB HZ pt⊢;have HT:=eB;clear eB;refine aW 15 (fun K hK=>?_);go_simp;refine(kW (r:=⟨ra,rb,rc,rd⟩) HT.out vS.out.2.1 vS.out.2.2 HK.out NF.out).mono ?_;rintro e wp ⟨oa,ob,oc,od,rfl,qd,xo⟩;have eB:=al (qd);clear HT;have HT:=eB;clear eB;have qJ:=al (xo _ _ (.inr rfl) HZ.out);clear HZ;have HZ:=qJ;clear qJ;clear qd xo
         try go_simp
         refine hK.out _ _ (⟨_,_,HT.out⟩) ?_;clear hK K pt;intro pt
         try simp only[ai,aj,ak,ar]
         refine aM [16,17,18,19] ?_
         iterate 4 (refine bX (v:=?_) (fun wS hSw=>?_) pt ?_;rotate_left;(go_simp;try with_reducible rfl);try simp only[ai,aj,ak,ar])
         refine aN ?_;refine aW 21 (fun K hK=>?_);obtain⟨⟨z0,z1,z2,z3⟩,y0,y1,y2,y3⟩:=ct HZ.out;go_simp;refine hK.out _ _ (⟨_,_,HT.out.box (bK (v0:=.int .i64 oa) (v1:=.int .i64 ob) (v2:=.int .i64 oc) (v3:=.int .i64 od) HZ.out).2 (fun k hk=>.inr hk)⟩) ?_;clear hK K pt z0 z1 z2 z3 y0 y1 y2 y3;intro pt
         try simp only[ai,aj,ak,ar]
         refine aM [22,23] ?_
         iterate 2 (refine bX (v:=?_) (fun wS hSw=>?_) pt ?_;rotate_left;(go_simp;try with_reducible rfl);try simp only[ai,aj,ak,ar])
         refine aN ?_;refine pf (by kernel_rfl) ?_ _;have Fa:=al (HT.out.box (bK (v0:=.int .i64 oa) (v1:=.int .i64 ob) (v2:=.int .i64 oc) (v3:=.int .i64 od) HZ.out).2 (fun k hk=>.inr hk)).forget;clear HT pt
         have HN:=al (show eI xs most=none from by
          rw[HE.out,HW.out.2.1]
          exact lR (fun h=>by
           have h2:=h.2;have h3:=HK.out;rw[show(E8 ⟨n,⟨ra,rb,rc,rd⟩⟩).1=Lib.itoa (aR n)from rfl,h3]at h2
           cases h2))
         go_wp2_with fail;go_ret
         exact lS.no HN.out (H1.out.1.trans (Fa.out.oI.mono H1.out.1.size))
       ·skip
        go_simp;refine hK.out _ _ (⟨_,_,HT.out.fB _⟩) ?_;clear hK K pt;intro pt
        try simp only[ai,aj,ak,ar]
        have eB:=al (HT.out.fB (.cells #[.int .i64 0,.int .i64 0,.int .i64 0,.int .i64 0] 26));have HZ:=al (an W3 (.cells #[.int .i64 0,.int .i64 0,.int .i64 0,.int .i64 0] 26));clear HT;generalize W3.heap.size=Z at eB HZ pt⊢;generalize W3.alloc (.cells #[.int .i64 0,.int .i64 0,.int .i64 0,.int .i64 0] 26)=wz at eB HZ pt⊢;have HT:=eB;clear eB;refine aW 8 (fun K hK=>?_);go_simp;refine(jD _ (aR n) vS.out.1).mono ?_;rintro e wk ⟨rfl,cD⟩;have eB:=al (HT.out.still cD);clear HT;have HT:=eB;clear eB;have qJ:=al (pw cD HZ.out);clear HZ;have HZ:=qJ;clear qJ
        try go_simp
        refine hK.out _ _ (⟨_,_,HT.out⟩) ?_;clear hK K pt cD;intro pt
        try simp only[ai,aj,ak,ar]
        refine aW 15 (fun K hK=>?_);go_simp;refine(kW (r:=⟨ra,rb,rc,rd⟩) HT.out vS.out.2.1 vS.out.2.2 HK.out NF.out).mono ?_;rintro e wp ⟨oa,ob,oc,od,rfl,qd,xo⟩;have eB:=al (qd);clear HT;have HT:=eB;clear eB;have qJ:=al (xo _ _ (.inr rfl) HZ.out);clear HZ;have HZ:=qJ;clear qJ;clear qd xo
        try go_simp
        refine hK.out _ _ (⟨_,_,HT.out⟩) ?_;clear hK K pt;intro pt
        try simp only[ai,aj,ak,ar]
        refine aM [16,17,18,19] ?_
        iterate 4 (refine bX (v:=?_) (fun wS hSw=>?_) pt ?_;rotate_left;(go_simp;try with_reducible rfl);try simp only[ai,aj,ak,ar])
        refine aN ?_;refine aW 21 (fun K hK=>?_);obtain⟨⟨z0,z1,z2,z3⟩,y0,y1,y2,y3⟩:=ct HZ.out;go_simp;refine hK.out _ _ (⟨_,_,HT.out.box (bK (v0:=.int .i64 oa) (v1:=.int .i64 ob) (v2:=.int .i64 oc) (v3:=.int .i64 od) HZ.out).2 (fun k hk=>.inr hk)⟩) ?_;clear hK K pt z0 z1 z2 z3 y0 y1 y2 y3;intro pt
        try simp only[ai,aj,ak,ar]
        refine aM [22,23] ?_
        iterate 2 (refine bX (v:=?_) (fun wS hSw=>?_) pt ?_;rotate_left;(go_simp;try with_reducible rfl);try simp only[ai,aj,ak,ar])
        refine aN ?_;refine pf (by kernel_rfl) ?_ _;have Fa:=al (HT.out.box (bK (v0:=.int .i64 oa) (v1:=.int .i64 ob) (v2:=.int .i64 oc) (v3:=.int .i64 od) HZ.out).2 (fun k hk=>.inr hk)).forget;clear HT pt
        have HN:=al (show eI xs most=none from by
         rw[HE.out,HW.out.2.1]
         exact lR (fun h=>by
          have h2:=h.2;have h3:=HK.out;rw[show(E8 ⟨n,⟨ra,rb,rc,rd⟩⟩).1=Lib.itoa (aR n)from rfl,h3]at h2
          cases h2))
        go_wp2_with fail;go_ret
        exact lS.no HN.out (H1.out.1.trans (Fa.out.oI.mono H1.out.1.size))
      ·skip
       go_simp;refine hK.out _ _ (⟨_,_,HT.out.fB _⟩) ?_;clear hK K pt;intro pt
       try simp only[ai,aj,ak,ar]
       have eB:=al (HT.out.fB (.cells #[.int .i64 0,.int .i64 0,.int .i64 0,.int .i64 0] 26));have HZ:=al (an W3 (.cells #[.int .i64 0,.int .i64 0,.int .i64 0,.int .i64 0] 26));clear HT;generalize W3.heap.size=Z at eB HZ pt⊢;generalize W3.alloc (.cells #[.int .i64 0,.int .i64 0,.int .i64 0,.int .i64 0] 26)=wz at eB HZ pt⊢;have HT:=eB;clear eB;refine aW 7 (fun K hK=>?_);go_simp;refine(iz _ n).mono ?_;rintro e wn ⟨rfl,rfl⟩
       try go_simp
       refine hK.out _ _ (pt) ?_;clear hK K pt;intro pt
       try simp only[ai,aj,ak,ar]
       refine aW 8 (fun K hK=>?_);go_simp;refine(jD _ (aR n) vS.out.1).mono ?_;rintro e wk ⟨rfl,cD⟩;have eB:=al (HT.out.still cD);clear HT;have HT:=eB;clear eB;have qJ:=al (pw cD HZ.out);clear HZ;have HZ:=qJ;clear qJ
       try go_simp
       refine hK.out _ _ (⟨_,_,HT.out⟩) ?_;clear hK K pt cD;intro pt
       try simp only[ai,aj,ak,ar]
       refine aW 15 (fun K hK=>?_);go_simp;refine(kW (r:=⟨ra,rb,rc,rd⟩) HT.out vS.out.2.1 vS.out.2.2 HK.out NF.out).mono ?_;rintro e wp ⟨oa,ob,oc,od,rfl,qd,xo⟩;have eB:=al (qd);clear HT;have HT:=eB;clear eB;have qJ:=al (xo _ _ (.inr rfl) HZ.out);clear HZ;have HZ:=qJ;clear qJ;clear qd xo
       try go_simp
       refine hK.out _ _ (⟨_,_,HT.out⟩) ?_;clear hK K pt;intro pt
       try simp only[ai,aj,ak,ar]
       refine aM [16,17,18,19] ?_
       iterate 4 (refine bX (v:=?_) (fun wS hSw=>?_) pt ?_;rotate_left;(go_simp;try with_reducible rfl);try simp only[ai,aj,ak,ar])
       refine aN ?_;refine aW 21 (fun K hK=>?_);obtain⟨⟨z0,z1,z2,z3⟩,y0,y1,y2,y3⟩:=ct HZ.out;go_simp;refine hK.out _ _ (⟨_,_,HT.out.box (bK (v0:=.int .i64 oa) (v1:=.int .i64 ob) (v2:=.int .i64 oc) (v3:=.int .i64 od) HZ.out).2 (fun k hk=>.inr hk)⟩) ?_;clear hK K pt z0 z1 z2 z3 y0 y1 y2 y3;intro pt
       try simp only[ai,aj,ak,ar]
       refine aM [22,23] ?_
       iterate 2 (refine bX (v:=?_) (fun wS hSw=>?_) pt ?_;rotate_left;(go_simp;try with_reducible rfl);try simp only[ai,aj,ak,ar])
       refine aN ?_;refine pf (by kernel_rfl) ?_ _;have Fa:=al (HT.out.box (bK (v0:=.int .i64 oa) (v1:=.int .i64 ob) (v2:=.int .i64 oc) (v3:=.int .i64 od) HZ.out).2 (fun k hk=>.inr hk)).forget;clear HT pt
       have HN:=al (show eI xs most=none from by
        rw[HE.out,HW.out.2.1]
        exact lR (fun h=>by
         have h2:=h.2;have h3:=HK.out;rw[show(E8 ⟨n,⟨ra,rb,rc,rd⟩⟩).1=Lib.itoa (aR n)from rfl,h3]at h2
         cases h2))
       go_wp2_with fail;go_ret
       exact lS.no HN.out (H1.out.1.trans (Fa.out.oI.mono H1.out.1.size))
  ·obtain rfl:j=N:=by omega
   have hnil:xs.drop j=[]:=eS (by rw[HL.out];exact aq _);rw[hnil,kU]at heq;have HF:=al (hR.end_ H1.out.1 (HE.out.trans heq));clear hR heq hll II hbr hnil;go_wp2_with fail;go_ret
   exact HF.out
structure PK (fuel bd:Int) (p q:PS av×Int):Prop where
 most:p.1.steps<=fuel
 bound:p.1.steps<=bd
 same:p.2≠20->q=p
 steps:p.2=20->p.1.steps=fuel
 value:p.2=20->p.1.value=0
 more:p.2=20->p.1.steps<=q.1.steps
 fit:p.2=20->Good q.1.cl->ju (aV p.1.cl) (aV q.1.cl)
 end_:p.2=20->10000<bd\/q.2≠20
theorem MK{ops:List aH}(he:opsE ops=0)(most fuel:Int)(hf:0<=fuel/\fuel<=10000)(ok:Cl->Bool)(args:List Int)(rows:av):
  PK fuel ((min (lj ops 0 ops.length) 10001:Nat):Int) (pL most fuel ok ops args rows) (pL most 10000 ok ops args rows):=by
 have hm:=Jp most hf.2 ok ops args rows;have h1:=yI most fuel ok ops args rows;have h2:=yI most 10000 ok ops args rows;have b1:=C9 he most fuel ok args rows;have b2:=C9 he most 10000 ok args rows;have h1m:=h1.most hf.1;have h2m:=h2.most (show(0:Int)<=10000 by decide);have Hc:=h1.value;have h1d:=h1.JW;have h2d:=h2.JW;obtain⟨iX,hm2⟩:=hm;clear h1 h2;generalize pL most fuel ok ops args rows=p at *;generalize pL most 10000 ok ops args rows=q at *;unfold pN at b1 b2;refine⟨h1m,?_,iX,fun e=>?_,fun e=>?_,fun e=>(hm2 e).1,fun e hg=>I9 (hm2 e).2 hg,fun e=>?_⟩
 ·split at b1<;>omega
 ·have:=h1d e;omega
 ·exact Hc (by rw[e];decide)
 ·by_cases hq:q.2=20
  ·refine .inl ?_;have:=h2d hq;rw[fi hq]at b2;omega
  ·exact .inr hq
theorem S8{x:Ln}(h:MJ x.r 4):My (E8 x):=by
 refine⟨⟨aR x.n,jB _,rfl⟩,fun c=>?_⟩
 have h4: ∀c,c<4->aI (x.r.aK c):=fun c hc=>by have h1:=jB (x.r.aK c);rw[h c hc]at h1;exact h1
 match c with
 |0=>exact h4 0 (by decide)
 |1=>exact h4 1 (by decide)
 |2=>exact h4 2 (by decide)
 |c+3=>exact h4 3 (by decide)
theorem vF: ∀(xs:List Ln) (l l':av),dF l->kU xs l=some l'->dF l'
 |[],l,l',h,e=>by rw[kU]at e;injection e with e;subst e;exact h
 |x::xs,l,l',h,e=>by
  rcases Classical.em (MJ x.r 4/\au (E8 x).1 l=none)with hc|hc
  ·rw[nK hc]at e;exact vF xs _ l' (h.ins (S8 hc.1)) e
  ·rw[lR hc]at e;cases e
theorem Ap{xs:List Ln}{most:Int}{l:av}(h:eI xs most=some l):dF l:=by
 unfold eI at h;split at h
 ·cases h
 ·exact vF xs [] l ⟨by simp[ez],fun q hq=>by simp at hq⟩ h
section
open Go.ChangeShapes Go.WideShapes Go.ChangeAt Go.RowKit Go.Deep
theorem Tryz.ML:Tryz.prog.cellsOf 26=4:=by kernel_rfl
theorem Tryz.G0:Tryz.prog.cellsOf 28=5:=by kernel_rfl
theorem Tryz.MN:Tryz.prog.cellsOf 22=1:=by kernel_rfl
theorem Tryz.MO:Tryz.prog.cellsOf 24=2:=by kernel_rfl
theorem Dd{H:Type}{enc:TypeId×Value->H}{W:World}{fuel:Nat}{c0 c1 c2 c3:Value}{x:DataW H×List MemPlace}(hf:DataW.trod enc Tryz.prog W 0 (fun _=>true) true fuel 26 [c0,c1,c2,c3]=some x):
  ∃r:Rw,c0=.int .i64 r.a/\c1=.int .i64 r.b/\c2=.int .i64 r.c/\c3=.int .i64 r.d:=by
 obtain⟨xs,m,_,_,hl,hx,hi⟩:=DataW.trod_array Tryz.underlying26 hf
 have key: ∀i,i<4-> ∃n:Int,(([c0,c1,c2,c3]:List Value)[i]?)=some (.int .i64 n):=by
  intro i hi4;have hh:=hi i hi4;rw[Tryz.Ac,List.getElem?_eq_getElem (by rw[hx];exact hi4)]at hh
  have h1:(List.take 1 (List.drop (i*1) [c0,c1,c2,c3]))=[[c0,c1,c2,c3][i]]:=by
   have:i=0\/i=1\/i=2\/i=3:=by omega
   rcases this with rfl|rfl|rfl|rfl<;>rfl
  rw[h1]at hh;obtain⟨n,h2,_,h3⟩:=DataW.trod_int Tryz.underlying3 hh;refine⟨n,?_⟩;rw[List.getElem?_eq_getElem (by simpa using hi4)];simp at h2;rw[h2]
 obtain⟨n0,e0⟩:=key 0 (by decide);obtain⟨n1,e1⟩:=key 1 (by decide);obtain⟨n2,e2⟩:=key 2 (by decide);obtain⟨n3,e3⟩:=key 3 (by decide);simp at e0 e1 e2 e3;exact⟨⟨n0,n1,n2,n3⟩,e0,e1,e2,e3⟩
theorem Fb{H:Type}{enc:TypeId×Value->H}{W:World}{fuel:Nat}{cs:List Value}{x:DataW H×List MemPlace}(h:DataW.trod enc Tryz.prog W 0 (fun _=>true) true fuel 28 cs=some x):
  ∃y:Ln,cs=WS y/\jN y.n:=by
 obtain⟨xs,n,_,_,hlen,hxl,hf⟩:=DataW.trod_struct Tryz.underlying28 h;rw[Tryz.G0]at hlen
 match cs,hlen with
 |[v0,v1,v2,v3,v4],_=>have hx: ∀i,i<2-> ∃y,xs[i]?=some y:=fun i hi=>⟨_,ao (by rw[hxl];exact hi)⟩;obtain⟨y0,e0⟩:=hx 0 (by decide);obtain⟨y1,e1⟩:=hx 1 (by decide);have f0:=hf 0 _ rfl;rw[e0]at f0;change DataW.trod enc Tryz.prog W 0 (fun _=>true) true n 3 (List.take (Tryz.prog.cellsOf 3) (List.drop 0 [v0,v1,v2,v3,v4]))=_ at f0;rw[Tryz.Ac]at f0;have f1:=hf 1 _ rfl;rw[e1]at f1;change DataW.trod enc Tryz.prog W 0 (fun _=>true) true n 26 (List.take (Tryz.prog.cellsOf 26) (List.drop 1 [v0,v1,v2,v3,v4]))=_ at f1;rw[Tryz.ML]at f1;obtain⟨n0,h0,_,w0⟩:=DataW.trod_int Tryz.underlying3 f0;obtain⟨r,rfl,rfl,rfl,rfl⟩:=Dd f1;simp at h0;subst h0;exact⟨⟨n0,r⟩,rfl,bounds_i64 w0⟩
theorem Fe{H:Type}{enc:TypeId×Value->H}{W:World}{v:Value}{d:DataW H}{p:List MemPlace}{base:Nat}(hval:Value.okWide Tryz.prog W .any base 24 v)
  (h:DataW.Trod enc Tryz.prog W 0 (fun _=>true) true 24 v d p): ∃(u:Value) (xs:List Ln) (most:Int),v=.agg #[u,.int .i64 most]/\E7 W (fun _=>True) u xs/\(∀x∈xs,jN x.n)/\jN most:=by
 obtain⟨cs,rfl,hs⟩:=okWide_struct Tryz.underlying24 hval;obtain⟨fuel,h⟩:=h;obtain⟨xs,n,_,_,hlen,hxl,hf⟩:=DataW.trod_struct Tryz.underlying24 h;rw[Tryz.MO]at hlen;obtain⟨cl⟩:=cs
 match cl,hlen with
 |[v0,v1],_=>have hx: ∀i,i<2-> ∃y,xs[i]?=some y:=fun i hi=>⟨_,ao (by rw[hxl];exact hi)⟩;obtain⟨y0,e0⟩:=hx 0 (by decide);obtain⟨y1,e1⟩:=hx 1 (by decide);have f0:=hf 0 _ rfl;rw[e0]at f0;change DataW.trod enc Tryz.prog W 0 (fun _=>true) true n 22 (List.take (Tryz.prog.cellsOf 22) (List.drop 0 [v0,v1]))=_ at f0;rw[Tryz.MN]at f0;have f1:=hf 1 _ rfl;rw[e1]at f1;change DataW.trod enc Tryz.prog W 0 (fun _=>true) true n 3 (List.take (Tryz.prog.cellsOf 3) (List.drop 1 [v0,v1]))=_ at f1;rw[Tryz.Ac]at f1;obtain⟨n1,h1,_,w1⟩:=DataW.trod_int Tryz.underlying3 f1;obtain⟨u,l,h2,r2,g2⟩:=ll 22 28 Tryz.underlying22 5 (by decide) Tryz.G0 WS (fun _=>rfl) (fun y=>jN y.n) ⟨0,.zero⟩ (fun _ cs _ hh=>Fb hh) f0;simp at h1 h2;subst h1 h2;exact⟨_,l,n1,rfl,r2,g2,bounds_i64 w1⟩
end
end Go.Proofs.YtagemonojdgbdaaGreatDoor
