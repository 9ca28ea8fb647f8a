import Derived.Test.YtagemonojdgbdaaGreatDoorF09
import Derived.Test.YtagemonojdgbdaaGreatDoorF44
import Derived.Maps.OwnIn
namespace Go.Proofs.YtagemonojdgbdaaGreatDoor
set_option maxRecDepth 100000
set_option maxHeartbeats 16000000
open Go.RowKit
def Jy(w:World)(X:Nat):List UInt8:=match w.cell? ⟨X,3,none⟩with
 |some (.string s)=>s.data.toList
 |_=>[]
theorem lT.Jy{w:World}{X T:Nat}{lo hi at_:List UInt8}(h:lT w X T lo hi at_):Jy w X=at_:=by unfold Proofs.YtagemonojdgbdaaGreatDoor.Jy;rw[h.cells.2.2.1]
def Tc(x:Pr)(args:Array Value):Prop:= ∃v k,x.1=dB v k/\args= #[.agg #[.int .i64 v,.string ⟨k.toArray⟩]]
def Xa(l:List Pr):Prop:= ∀p∈l,∃v k,I6 v/\(1<=k.length/\k.length<=16)/\p.1=dB v k
def yL(X:Nat):Value:=.func (.func 218) #[.pointer (some ⟨X,0,none⟩)] #[]
theorem Fw(w:World)(X:Nat):Calls Tryz.prog 217 #[yL X] w fun e w'=>
  ∃N,e=.returned (.func (.func 237) #[] #[.pointer (some ⟨N,0,none⟩)])/\w.heap.size<=N/\w'.heap[N]?=some (.cells #[yL X] 329 (0,0))/\Below w.heap.size w w':=by
 unfold yL;have hb:=af w (.cells #[.func (.func 218) #[.pointer (some ⟨X,0,none⟩)] #[]] 329);have k0:=an w (.cells #[.func (.func 218) #[.pointer (some ⟨X,0,none⟩)] #[]] 329);have H:=al (ab k0 hb);clear k0 hb;go_enter Tryz.func217,Tryz.ntmps217;go_wp2_with fail;go_ret
 exact⟨_,rfl,aq _,H.out.1,H.out.2⟩
theorem Jz{at_ hi:List UInt8}{l tl:List Pr}{p:Pr}(hu:Up l)(h:(cN at_ l).takeWhile (jk hi)=p::tl):rL hi at_ l=some p/\(cN (p.1++[0]) l).takeWhile (jk hi)=tl/\(cN (p.1++[0]) l).length<(cN at_ l).length/\p∈l:=by
 unfold rL;rw[nU]
 cases hr:cN at_ l with
 |nil=>rw[hr]at h;simp at h
 |cons q r=>
  rw[hr]at h;rw[List.takeWhile_cons]at h;split at h
  ·rename_i hq;injection h with h1 h2;subst h1;have hn:=xG hu hr;refine⟨by simp[hq],by rw[hn];exact h2,by rw[hn];simp,qV (key:=at_) (by rw[hr];simp)⟩
  ·cases h
theorem MV{at_ hi:List UInt8}{l:List Pr}(h:(cN at_ l).takeWhile (jk hi)=[]):rL hi at_ l=none:=by
 unfold rL;rw[nU]
 cases hr:cN at_ l with
 |nil=>rfl
 |cons q r=>
  rw[hr,List.takeWhile_cons]at h;split at h
  ·cases h
  ·rename_i hq;simp[hq]
theorem Dh(w:World)(X T o N:Nat)(l:List Pr)(F:Nat->Nat->Prop)(lo hi kg:List UInt8)(hc:lT w X T lo hi kg)(ht:bC w T o l F)(hu:Up l)(hE:Xa l)(hN:w.heap[N]?=some (.cells #[yL X] 329 (0,0)))
  (hXF: ∀q,¬F X q) (hXN:X≠N):
  Rx Tryz.prog 237 #[.pointer (some ⟨N,0,none⟩)] (fun _ x args _ _=>Tc x args) (fun k=>(∃q,F k q)\/k=N) (fun k=>k=X) (fun xs=>xs=(cN kg l).takeWhile (jk hi)) (fun pre=>pre<+:(cN kg l).takeWhile (jk hi)) w:=by
 intro l0 J Jx W U0 hJ Ov hag Kn h0 hY;have hc1:lT W X T lo hi kg:=hag.heap hc (fun h=>h);have HF:=al (ab hu (ab hE (ab hXF hXN)));have HJ:=al (ab hJ (ab Kn hY));have H0:=al (ab (ht.eO hag (fun _ _ _ h=>h)) (ab (hag.heap hN (fun h=>h)) (aO hc1)));have HS:=al (show ∃(pre tl:List Pr) (at_:List UInt8) (U:Nat->Prop),lT W X T lo hi at_/\(cN at_ l).takeWhile (jk hi)=tl/\pre++tl=(cN kg l).takeWhile (jk hi)/\J pre U W/\Only (fun k=>U0 k\/k=X) W W/\Grow W U0 U from⟨[],_,kg,U0,hc1,rfl,rfl,h0,oB _ _,Grow.refl _ _⟩);clear hu hE hXF hXN hJ Kn hY hag ht hN hc h0 hc1;refine callsIn_of_wp Tryz.func237 rfl trivial ?_ rfl;simp only[Tryz.ntmps237,nF,iS,nx,Nat.reduceAdd,Nat.reduceSub,Array.replicate_succ,Array.replicate_zero,List.push_toArray,List.append_toArray,fs,ox]
 gi_wp2
 gi_loopw [] (fun wr=> ∃(pre tl:List Pr) (at_:List UInt8) (U:Nat->Prop),lT wr X T lo hi at_/\(cN at_ l).takeWhile (jk hi)=tl/\pre++tl=(cN kg l).takeWhile (jk hi)/\J pre U wr/\Only (fun k=>U0 k\/k=X) W wr/\Grow W U0 U)
  (fun wr=>(cN (Jy wr X) l).length)
 case atStart=>exact HS.out
 case round=>
  obtain⟨pre,tl,at_,U,hcw,htl,hpre,hJs,ho,hg⟩:=hrel;have htr:bC wr T o l F:=H0.out.1.eO ho (fun b q hb e=>e.elim (HJ.out.2.1 b (.inl (.inl ⟨q,hb⟩))) (fun e=>HF.out.2.2.1 q (e▸hb)));have hN:=ho.heap H0.out.2.1 (fun e=>e.elim (HJ.out.2.1 N (.inl (.inr rfl))) (fun e=>HF.out.2.2.2 e.symm));have c9:wr.cell? ⟨N,0,none⟩=some (.func (.func 218) #[.pointer (some ⟨X,0,none⟩)] #[]):=by simp[World.cell?,hN,yL]
  have HX:=al (Fv wr X T o l F lo hi at_ hcw htr (fun p hp=>by
   obtain⟨v,k,-,h2,h3⟩:=HF.out.2.1 p hp;rw[h3];simp[dB,bU]
   omega))
  have hen:=enters_of Tryz.func218 (by kernel_rfl) rfl;have HR:=al (ab hcw (ab htr (ab htl (ab hpre (ab hJs (ab ho hg))))));have hXU: ¬U X:=fun h=>(hg X h).elim (HJ.out.2.1 X (.inr rfl)) (fun h=>by have:=H0.out.2.2;omega);have HU:=al hXU;clear hcw htr hN
  cases tl with
  |nil=>
   rw[MV htl]at HX;clear htl hpre hJs ho hg hXU
   gi_wp2
   refine⟨trivial,?_⟩;refine(callsIn_wide.2 HX.out).mono ?_;rintro e w1 ⟨rfl,hb1⟩;have HB:=al hb1;clear hb1 c9
   gi_wp2
   refine dq (du rfl _ _ _) rfl ?_;obtain⟨-,-,-,hpre,hJs,ho,hg⟩:=HR.out;rw[gd]at hpre;exact⟨⟨_,rfl⟩,.inl ⟨pre,U,hpre,HJ.out.1.2 _ _ _ _ _ hJs (qe HB.out) (fun _ h=>h.elim),ho.trans (oy HB.out _) (fun _ _ h=>h),hg⟩⟩
  |cons p tl=>
   obtain⟨q1,q2,q3,q4⟩:=Jz HF.out.1 htl;rw[q1]at HX;obtain⟨v,k,hv,hk,hpk⟩:=HF.out.2.1 p q4;have HP:=al (ab q2 (ab q3 (ab hv (ab hk hpk))));clear htl hpre hJs ho hg hXU q1 q2 q3 q4 hv hk
   gi_wp2
   refine⟨trivial,?_⟩;refine(callsIn_wide.2 HX.out).mono ?_;rintro e w1 ⟨rfl,Xb,vO⟩;have H1:=al (ab Xb vO);rw[hpk];clear Xb vO c9 HX hpk
   gi_wp2_with (refine⟨trivial,?_⟩;gi_at_call 238;refine(callsIn_wide.2 (Fu w1 v k HP.out.2.2.1 HP.out.2.2.2.1)).mono ?_;rintro e w2 ⟨rfl,hb2⟩)
   have hb3:=hb2.trans ((af w2 (.cells #[.int .i64 v,.string ⟨k.toArray⟩] 216)).mono hb2.size);generalize w2.alloc (.cells #[.int .i64 v,.string ⟨k.toArray⟩] 216)=w3 at hb3⊢;have hJ3:J pre U w3:=HJ.out.1.2 _ _ _ _ _ (HJ.out.1.2 _ _ _ _ _ HR.out.2.2.2.2.1 H1.out.2 (fun j e=>⟨.inr e,fun hu=>HU.out (e▸hu)⟩)) (qe hb3) (fun _ h=>h.elim)
   have H3:=al (show lT w3 X T lo hi (p.1++[0])/\Only (fun k=>U0 k\/k=X) W w3/\W.heap.size<=w3.heap.size from
    ⟨pw hb3 H1.out.1,(HR.out.2.2.2.2.2.1.trans H1.out.2 (fun _ _ e=>.inr e)).trans (oy hb3 _) (fun _ _ h=>h),by have:=HR.out.2.2.2.2.2.1.size;have:=H1.out.2.size;have:=hb3.size;omega⟩)
   clear hb2 hb3;obtain⟨fn,tmps,assign,body,hy,Rp⟩:=HJ.out.2.2 pre p _ U _ hJ3 ⟨v,k,HP.out.2.2.2.2,rfl⟩;rw[hy];refine⟨fun h=>by simp[Fence.wide]at h,(zj Rp).mono ?_⟩;clear hJ3 hy;rintro e w4 (⟨rfl,U',T5,nv,hg4⟩|⟨rfl,U',Xc,nv,hg4⟩)
   ·have H4:=al (ab T5 (ab nv hg4));clear T5 nv hg4
    gi_wp2
    go_roundw
    case rel=>obtain⟨T5,nv,hg4⟩:=H4.out;obtain⟨-,-,-,hpre,-,-,hg⟩:=HR.out;exact⟨pre++[p],tl,p.1++[0],U',nv.heap H3.out.1 HU.out,HP.out.1,by rw[<-hpre];simp,T5,H3.out.2.1.trans nv (fun j hj h=>(hg j h).elim .inl (fun h=>by omega)),hg.trans hg4 H3.out.2.2⟩
    case measure=>have h4:lT w4 X T lo hi (p.1++[0]):=H4.out.2.1.heap H3.out.1 HU.out;rw[h4.Jy,HR.out.1.Jy];exact HP.out.2.1
   ·have H4:=al (ab Xc (ab nv hg4));clear Xc nv hg4
    gi_wp2
    refine dq (du rfl _ _ _) rfl ?_;obtain⟨T5,nv,hg4⟩:=H4.out;obtain⟨-,-,-,hpre,-,-,hg⟩:=HR.out;exact⟨⟨_,rfl⟩,.inr ⟨pre++[p],U',⟨tl,by rw[<-hpre];simp⟩,T5,H3.out.2.1.trans nv (fun j hj h=>(hg j h).elim .inl (fun h=>by omega)),hg.trans hg4 H3.out.2.2⟩⟩
attribute [local go_sem] Oper.semAt_some
def Di(k:List UInt8):Value:=.string ⟨k.toArray⟩
def Td(x:Pr):Value:=Di (x.1.drop 8)
def Av(b0 V M m:Nat)(xs:List Pr)(U:Nat->Prop)(W:World):Prop:=
 ∃v,W.heap[V]?=some (.cells #[v] 223 (0,0))/\W.heap[M]?=some (.cells #[.int .i64 (m:Int)] 3 (0,0))/\W.ownsRow b0 9 1 v xs.length (xs.map Td)/\(∀k,U k↔k=V\/k=M\/v.ownBlock=some k)/\xs.length<=m/\V<b0/\M<b0/\V≠M/\b0<=W.heap.size
def PQ(b0 V M m:Nat)(c:Code)(xs:List Pr)(U:Nat->Prop)(W:World):Prop:=c=.exit 0/\ ∃ys x,xs=ys++[x]/\ys.length=m/\Av b0 V M m ys U W
theorem Av.vH{b0 V M m:Nat}{Bs:Nat->Prop}:kF Bs (Av b0 V M m):=by
 refine⟨?_,?_⟩
 ·rintro pre U A ⟨v,h1,h2,h3,h4,-⟩ k hk;rcases(h4 k).1 hk with rfl|rfl|h
  ·exact aO h1
  ·exact aO h2
  ·exact(h3.lt k h).2
 ·rintro pre U A B S ⟨v,h1,h2,h3,h4,h5,h6,h7,h8,h9⟩ ho hS;exact⟨v,ho.heap h1 (fun h=>(hS V h).2 ((h4 V).2 (.inl rfl))),ho.heap h2 (fun h=>(hS M h).2 ((h4 M).2 (.inr (.inl rfl)))),bu h3 ho (fun g hg h=>(hS g h).2 ((h4 g).2 (.inr (.inr hg)))),h4,h5,h6,h7,h8,de h9 ho.size⟩
theorem PQ.vH{b0 V M m:Nat}{Bs:Nat->Prop}(c:Code):kF Bs (PQ b0 V M m c):=by
 refine⟨?_,?_⟩
 ·rintro pre U A ⟨-,ys,x,-,-,h⟩ k hk;exact(Av.vH (Bs:=Bs)).1 _ _ _ h k hk
 ·rintro pre U A B S ⟨hc,ys,x,h1,h2,h⟩ ho hS;exact⟨hc,ys,x,h1,h2,(Av.vH (Bs:=Bs)).2 _ _ _ _ _ h ho hS⟩
theorem Tryz.MW:(Tryz.prog.info? 9).map (fun i=>(i.zero,i.size,i.bytes))=some (some (.string ⟨#[]⟩),1,16):=by kernel_rfl
def yM(ks:List (List UInt8))(w:World)(e:Ending)(w':World):Prop:=
 ∃A c,e=.returned (.tuple #[.slice A ks.length c,.int .i64 0])/\w'.ownsRow w.heap.size 9 1 (.slice A ks.length c) ks.length (ks.map Di)/\Below w.heap.size w w'
theorem PR{c:Nat}{l:av}(h:ez l)(hf:RowsFit l)(hk: ∀q∈l,1<=q.1.length/\q.1.length<=16):Xa (qU c l):=by intro p hp;obtain⟨q,hq,rfl⟩:=ep.1 ((eP c h hf).mem_iff.1 hp);exact⟨q.2.aK c,q.1,hf q hq c,hk q hq,rfl⟩
theorem vI(w:World)(T o:Nat)(most:Int)(l:av)(F:Nat->Nat->Prop)(c m:Nat)(lo hi:Int)(h:cE w T most o l F)(hF: ∀b q,F b q->b<w.heap.size)(hc:c<4)(hlo:I6 lo)(hhi:I6 hi)(hle:lo<=hi)(hm:m<=100000):
  Calls Tryz.prog 180 #[.pointer (some ⟨T,0,none⟩),.int .i64 (c:Int),.int .i64 lo,.int .i64 hi,.int .i64 (m:Int)] w (yM ((cJ c lo hi l).take m) w):=by
 have hb0:=af w (.cells #[.int .i64 (m:Int)] 3);have k0:=an w (.cells #[.int .i64 (m:Int)] 3);have H:=al (ab h (ab hF (ab hlo (ab hhi (ab hle (ab hm hc))))));have g1: ¬(c:Int)<0:=by omega
 have g2: ¬(4:Int)<=(c:Int):=by omega
 have g3: ¬(m:Int)<0:=by omega
 clear h hF hlo hhi hle hm hc;refine BO Tryz.func180 rfl ?_;simp only[Tryz.ntmps180,nF,iS,nx,Nat.reduceAdd,Nat.reduceSub,Array.replicate_succ,Array.replicate_zero,List.push_toArray,List.append_toArray,fs,ox];go_upto_region 1 with fail;generalize w.alloc (.cells #[.int .i64 (m:Int)] 3)=w1 at hb0 k0⊢;obtain⟨M,hM⟩: ∃x,w.heap.size=x:=⟨_,rfl⟩;rw[hM]at k0⊢;have HM:=al (ab hM (ab hb0 k0));clear hM hb0 k0;go_wp2_with fail;refine(Jv w1 lo hi H.out.2.2.1 H.out.2.2.2.1 H.out.2.2.2.2.1).mono ?_;rintro e w2 ⟨rfl,hb2⟩;have pP:=HM.out.2.1.trans (hb2.mono HM.out.2.1.size);have k2:=pw hb2 HM.out.2.2;have z0:w2.cell? ⟨M,0,none⟩=some (.int .i64 (m:Int)):=by simp[World.cell?,k2]
 have fR:=al (ab pP k2);obtain⟨t,Fs,hW,hup,hfit,qK,Xd,hlen,QS,qf⟩:=H.out.1.below pP;have HT:=al (ab hW (ab hup (ab hfit (ab qK (ab QS qf)))));have HI:=al (si w2 T (t (c+1)) c H.out.2.2.2.2.2.2 (hW.ci (by have:=H.out.2.2.2.2.2.2;omega)));unfold lh at HI;clear hb2 pP k2 hW hup hfit qK Xd hlen QS qf g1 g2;go_wp2_with fail;refine HI.out.mono ?_;rintro e w3 ⟨rfl,rfl⟩;clear HI;go_wp2_with fail;refine(Jw w2 (t (c+1)) (pfx lo) (Bw hi) ?_).mono ?_
 ·unfold Bw;by_cases g:hi<9223372036854775807
  ·rw[fi g];right;rw[qT ⟨by have:=H.out.2.2.2.1.1;omega,by omega⟩ H.out.2.2.1];have:=H.out.2.2.2.2.1;omega
  ·rw[ff g];exact .inl rfl
 rintro e w4 ⟨X,rfl,hX,hC,hb4⟩;have hx:=af w4 (.cells #[.slice none 0 0] 223);have kx:=an w4 (.cells #[.slice none 0 0] 223);have HC:=al (ab hX (ab hC hb4));clear hX hC hb4 z0 g3;go_upto_region 14 with fail;generalize w4.alloc (.cells #[.slice none 0 0] 223)=w5 at hx kx⊢;obtain⟨V,hV⟩: ∃x,w4.heap.size=x:=⟨_,rfl⟩;rw[hV]at kx⊢
 have H5:=al (show Below w.heap.size w w5/\w5.heap[V]?=some (.cells #[.slice none 0 0] 223 (0,0))/\w5.heap[M]?=some (.cells #[.int .i64 (m:Int)] 3 (0,0))/\lT w5 X (t (c+1)) (pfx lo) (Bw hi) (pfx lo)/\Below w2.heap.size w2 w5/\(w.heap.size=M/\M<X/\X<V)from by
  have h25:Below w2.heap.size w2 w5:=HC.out.2.2.trans (hx.mono HC.out.2.2.size);have ZU:=aO fR.out.2
  exact⟨fR.out.1.trans (h25.mono fR.out.1.size),kx,pw h25 fR.out.2,pw hx HC.out.2.1,h25,HM.out.1,by have:=HC.out.1;omega,by have:=aO HC.out.2.1;omega⟩)
 clear hx kx hV;have HN:=al (Fw w5 X);unfold yL at HN;go_wp2_with fail;refine HN.out.mono ?_;rintro e w6 ⟨N,rfl,hN5,kN,iL⟩;have hHT:=HT.out;obtain⟨hW,hup,hfit,qK,QS,qf⟩:=hHT;have hc5:c+1<5:=by have:=H.out.2.2.2.2.2.2;omega
 have Xe:Below w2.heap.size w2 w6:=H5.out.2.2.2.2.1.trans (iL.mono H5.out.2.2.2.2.1.size);have htl:gQ l (c+1)=qU c l:=by unfold gQ;rw[ff (by omega)];rfl
 have uS:bC w6 (t (c+1)) o (qU c l) (Fs (c+1)):=by have:=(hW.tree (c+1) hc5).below Xe;rwa[htl]at this
 have wI:lT w6 X (t (c+1)) (pfx lo) (Bw hi) (pfx lo):=pw iL H5.out.2.2.2.1;have TW: ∀b q,Fs (c+1) b q->b<w.heap.size:=fun b q hb=>H.out.2.1 b q (QS b q ⟨c+1,hc5,hb⟩);have hXl:=H5.out.2.2.2.2.2;have hseq:=Dh w6 X (t (c+1)) o N (qU c l) (Fs (c+1)) (pfx lo) (Bw hi) (pfx lo) wI uS (gZ c l) (PR hup hfit qK) kN (fun q hb=>by have:=TW X q hb;omega) (by have:=aO H5.out.2.1;omega);have dP:=N5 (c:=c) hup hfit H.out.2.2.1 H.out.2.2.2.1
 have hI0:Av w6.heap.size V M m [] (fun k=>k=V\/k=M\/(Value.slice none 0 0).ownBlock=some k) w6:=
  ⟨.slice none 0 0,pw iL H5.out.2.1,pw iL H5.out.2.2.1,ee _ _ _ _,fun k=>Iff.rfl,dj _,by have:=aO H5.out.2.1;have:=iL.size;omega,by have:=aO H5.out.2.2.1;have:=iL.size;omega,by omega,aq _⟩
 have H6:=al (ab hseq (ab dP (ab hI0 (ab (H5.out.1.trans (iL.mono H5.out.1.size)) (ab (aO kN) (ab (aO wI) (ab TW (ab hN5 (aO H5.out.2.1)))))))));clear hW hup hfit qK QS qf Xe htl uS wI TW hXl hseq dP hI0 hN5 kN iL hc5;obtain⟨i0,hi0,hz0,hz1,hz2⟩:=eC Tryz.MW;have HI:=al (ab hi0 (ab hz0 (ab hz1 hz2)));clear hi0 hz0 hz1 hz2;go_wp2_with fail
 refine BQ (α:=Pr) (fun t Y=>t.setIfInBounds 17 (.pointer (some ⟨Y,0,none⟩))) (fun v=>.cells v.cells 216 (0,0)) rfl (enters_of Tryz.func237 (by kernel_rfl) rfl) H6.out.1 ?TB ?Ow
  (Av w6.heap.size V M m) (PQ w6.heap.size V M m) Av.vH PQ.vH _ H6.out.2.2.1 ?Uz ?p7 ?hbody ?hdone ?BP
 case TB=>
  obtain⟨-,-,-,-,h1,h2,h3,h4,-⟩:=H6.out;have h5:=H5.out.1.size;rintro k ((⟨q,hq⟩|rfl)|rfl)
  ·have:=h3 k q hq;omega
  ·exact h1
  ·exact h2
 case Ow=>rintro x args ⟨v,k,-,h⟩;exact⟨_,h⟩
 case Uz=>
  obtain⟨-,-,-,-,h1,h2,h3,h4,h6⟩:=H6.out;have h5:=H5.out.2.2.2.2.2;rintro k ((⟨q,hq⟩|rfl)|rfl) (e|e|e)
  ·have:=h3 k q hq;omega
  ·have:=h3 k q hq;omega
  ·cases e
  ·omega
  ·omega
  ·cases e
  ·omega
  ·omega
  ·cases e
 case p7=>
  rintro l0 x v W K ⟨v',k',-,hv⟩ hK;obtain rfl:v=_:=by injection hv with hv;injection hv with hv _
  have hb:=af W (.cells #[.int .i64 v',.string ⟨k'.toArray⟩] 216);have hk:=hK _ _ (aq _) (an W (.cells #[.int .i64 v',.string ⟨k'.toArray⟩] 216)) hb;simp only[List.setIfInBounds_toArray,List.set_cons_zero,List.set_cons_succ]at hk⊢;have HK:=al hk;clear hK hk hb hv
  gi_wp2
  exact HK.out
 case hbody=>
  rintro l0 pre x v Y U W ⟨vs,h1,h2,h3,h4,h5,h6,h7,h8,h9⟩ ⟨v',k',hx,hv⟩ hY hUY;obtain rfl:v=_:=by injection hv with hv;injection hv with hv _
  obtain⟨A,cp,rfl⟩:=ah h3;obtain⟨n,hn⟩: ∃n,pre.length=n:=⟨_,rfl⟩;rw[hn]at h1 h3 h4 h5;have zV:W.cell? ⟨V,0,none⟩=some (.slice A n cp):=by simp[World.cell?,h1]
  have fV:W.frozen? ⟨V,0,none⟩=false:=by simp[World.frozen?,h1]
  have zM:W.cell? ⟨M,0,none⟩=some (.int .i64 (m:Int)):=by simp[World.cell?,h2]
  have zY:W.cell? ⟨Y,1,none⟩=some (.string ⟨k'.toArray⟩):=by simp[World.cell?,hY,Value.cells]
  have HJ:=al (show Av w6.heap.size V M m pre U W from⟨.slice A n cp,h1,h2,by rw[hn];exact h3,h4,by rw[hn];exact h5,h6,h7,h8,h9⟩);have HX:=al (ab hx (ab h1 (ab h3 (ab h4 (ab hn (ab h9 (ab h2 (ab h5 (ab h6 (ab h7 h8))))))))));simp only[List.setIfInBounds_toArray,List.set_cons_zero,List.set_cons_succ];clear h1 h2 h3 h4 h5 h6 h7 h8 h9 hx hv hY hUY hn;by_cases g:n=m
  ·have hg:(n:Int)=(m:Int):=by omega
   have HG:=al (ab g trivial);clear g
   gi_wp2
   exact⟨U,⟨rfl,pre,x,rfl,by rw[HX.out.2.2.2.2.1,HG.out.1],HJ.out⟩,oB _ _,Grow.refl _ _⟩
  ·have hg: ¬(n:Int)=(m:Int):=by omega
   have HG:=al (ab g trivial);have mK:n<100000:=by have:=HX.out.2.2.2.2.2.2.2.1;have:=H.out.2.2.2.2.2.1;omega
   have hb1:=af W (.cells #[.string ⟨k'.toArray⟩] 9);have HA:=al (ab (ef (an W (.cells #[.string ⟨k'.toArray⟩] 9))) (ab (bu HX.out.2.2.1 (qe hb1) (fun _ _ h=>h)) (ab hb1 mK)));clear g hb1 mK
   gi_wp2_with (gi_at_builtin;go_loud (refine wpListIn_append_own_at _ rfl _ _ 223 rfl w6.heap.size 9 i0 (.string ⟨#[]⟩) 1 16 Tryz.underlying223 HI.out.1 HI.out.2.1 HI.out.2.2.1 HI.out.2.2.2 rfl (by decide) (.slice A n cp) n _ rfl HA.out.2.1 ⟨W.heap.size,0,none⟩ 1 1 [.string ⟨k'.toArray⟩] rfl rfl HA.out.1 (by simp[Value.oneCell']) (by have:=HA.out.2.2.2;unfold maxLen;omega) (by have:=HA.out.2.2.2;omega) (by have:=HX.out.2.2.2.2.2.1;have:=HA.out.2.2.1.size;omega) ?_);intro v2 w7 hown hgrow _ hat;obtain⟨A2,Vn,rfl⟩:=ah hown;have k7:=(Only.of_grownBy hgrow).heap (pw HA.out.2.2.1 HX.out.2.1) (fun e=>by have:=(HX.out.2.2.1.lt V e).1;have:=HX.out.2.2.2.2.2.2.2.2.1;omega);have m7:=(Only.of_grownBy hgrow).heap (pw HA.out.2.2.1 HX.out.2.2.2.2.2.2.1) (fun e=>by have:=(HX.out.2.2.1.lt M e).1;have:=HX.out.2.2.2.2.2.2.2.2.2.1;omega);have q0:w7.cell? ⟨V,0,none⟩=some (.slice A n cp):=(by simp[World.cell?,k7]);have q1:w7.frozen? ⟨V,0,none⟩=false:=(by simp[World.frozen?,k7]);have HO:=al (ab hown (ab hgrow (ab hat (ab k7 m7))));clear hown hgrow hat k7 m7)
   obtain⟨hown,hgrow,hat,k7,m7⟩:=HO.out;obtain⟨hx,-,h3,h4,hn,h9,-,h5,h6,h7,h8⟩:=HX.out;have V2:Only (fun k=>U k) W w7:=(oy HA.out.2.2.1 _).trans (Only.of_grownBy hgrow) (fun k _ e=>(h4 k).2 (.inr (.inr e)));refine⟨fun k=>k=V\/k=M\/(Value.slice A2 (n+1) Vn).ownBlock=some k,⟨.slice A2 (n+1) Vn,by have:=dr w7 V 0 _ _ (.slice A2 (n+1) Vn) k7;simpa using this,(aT w7 V 0 _).heap m7 (fun e=>h8 e.symm),?_,fun k=>Iff.rfl,?_,h6,h7,h8,?_⟩,V2.trans (aT w7 V 0 _) (fun k _ e=>(h4 k).2 (.inl e)),?_⟩
   ·rw[gk,hn,im,show[x].map Td=[.string ⟨k'.toArray⟩] by simp[Td,Di,hx,mW]];exact bu hown (aT w7 V 0 _) (fun g hg e=>by have:=(hown.lt g hg).1;omega)
   ·rw[gk,hn];have:=HG.out.1;simp;omega
   ·have:=V2.size;show w6.heap.size<=(w7.setCell _ _).heap.size;simp[World.setCell];omega
   ·rintro k (e|e|e)
    ·exact .inl ((h4 k).2 (.inl e))
    ·exact .inl ((h4 k).2 (.inr (.inl e)))
    ·rcases hat with hat|hat
     ·exact .inl ((h4 k).2 (.inr (.inr (hat▸e))))
     ·rw[hat]at e;have:=HA.out.2.2.1.size;injection e with e;exact .inr (by omega)
 case hdone=>
  rintro D xs U W hD hUD hS ⟨v,h1,h2,h3,h4,h5,h6,h7,h8,h9⟩ ho hk;obtain⟨A,cp,rfl⟩:=ah h3;have zV:W.cell? ⟨V,0,none⟩=some (.slice A xs.length cp):=by simp[World.cell?,h1]
  have hks:(cJ c lo hi l).take m=xs.map fun p=>p.1.drop 8:=by
   unfold cJ;rw[<-H6.out.2.1,gC]
   ·rw[hS];rfl
   ·rw[fb];show((cN (pfx lo) (qU c l)).takeWhile (jk (Bw hi))).length<=m;rw[<-hS];exact h5
  obtain⟨ys,hys⟩: ∃ys,ys=xs:=⟨_,rfl⟩;rw[<-hys]at h3 h5 hks zV;clear h1 hS hys;have h1:=trivial
  have hbW:Below w.heap.size w W:=H6.out.2.2.2.1.trans (ho.aG H6.out.2.2.2.1.size (fun k hk e=>by
   have q:=H5.out.2.2.2.2.2;rcases e with(e|e|e)|e
   ·omega
   ·omega
   ·cases e
   ·omega))
  have HD:=al (ab h3 (ab hk (ab hbW (ab hks (ab hD H6.out.2.2.2.1.size)))));clear h1 h2 h3 h4 h5 h6 h7 h8 h9 ho hk hbW hks hD hUD;go_wp2_with fail;refine uh (v:=.tuple #[.slice A ys.length cp,.int .i64 0]) HD.out.2.1 (by simp[results,Tryz.results180,go_sem]) ⟨A,cp,?_,?_,?_⟩
  ·rw[HD.out.2.2.2.1,fb]
  ·rw[HD.out.2.2.2.1,fb,List.map_map];exact dW (ownsRow_putObj HD.out.1 _ HD.out.2.1 rfl) (fun g hg=>by have:=(HD.out.1.lt g hg).1;have:=HD.out.2.2.2.2.2;omega)
  ·exact HD.out.2.2.1.trans ((Only.putObj _ D _).aG HD.out.2.2.1.size (fun k hk e=>by have:=HD.out.2.2.2.2;omega))
 case BP=>
  rintro D c0 pre U W hD hUD hS ⟨rfl,ys,x,hpre,hlen,v,h1,h2,h3,h4,h5,h6,h7,h8,h9⟩ ho hk;obtain⟨A,cp,rfl⟩:=ah h3;have zV:W.cell? ⟨V,0,none⟩=some (.slice A ys.length cp):=by simp[World.cell?,h1]
  have hks:(cJ c lo hi l).take m=ys.map fun p=>p.1.drop 8:=by
   obtain⟨zs,hzs⟩:=hS;have hzs:ys++([x]++zs)=N3 (pfx lo) (Bw hi) (qU c l):=by rw[<-lk,<-hpre];exact hzs
   unfold cJ;rw[<-H6.out.2.1,<-hzs,im,List.take_append_of_le_length (by simp;omega),gC (by simp;omega)]
  clear hS hpre hlen
  have hbW:Below w.heap.size w W:=H6.out.2.2.2.1.trans (ho.aG H6.out.2.2.2.1.size (fun k hk e=>by
   have q:=H5.out.2.2.2.2.2;rcases e with(e|e|e)|e
   ·omega
   ·omega
   ·cases e
   ·omega))
  have HD:=al (ab h3 (ab hk (ab hbW (ab hks (ab hD H6.out.2.2.2.1.size)))));clear h1 h2 h3 h4 h5 h6 h7 h8 h9 ho hk hbW hks hD hUD;go_wp2_with fail;refine uh (v:=.tuple #[.slice A ys.length cp,.int .i64 0]) HD.out.2.1 (by simp[results,Tryz.results180,go_sem]) ⟨A,cp,?_,?_,?_⟩
  ·rw[HD.out.2.2.2.1,fb]
  ·rw[HD.out.2.2.2.1,fb,List.map_map];exact dW (ownsRow_putObj HD.out.1 _ HD.out.2.1 rfl) (fun g hg=>by have:=(HD.out.1.lt g hg).1;have:=HD.out.2.2.2.2.2;omega)
  ·exact HD.out.2.2.1.trans ((Only.putObj _ D _).aG HD.out.2.2.1.size (fun k hk e=>by have:=HD.out.2.2.2.2;omega))
end Go.Proofs.YtagemonojdgbdaaGreatDoor
