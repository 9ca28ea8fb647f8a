import Derived.Test.YtmkofmeojbcakaaGreatDoorC25
import Derived.Test.YtmkofmeojbcakaaGreatDoorC37
import Derived.Maps.OwnIn
namespace Go.Proofs.YtmkofmeojbcakaaGreatDoor
open Go.Proofs.Tryz
set_option maxRecDepth 100000
set_option maxHeartbeats 16000000
open Go.RowKit
theorem mz{P:Program}{w:World}{a:Addr}{m:Mode}(f:Fn)(x y:Array Value):(store a (.func f x y) m).run P w=stored P w a (.func f x y) m:=run_store P w a _ m rfl
attribute [local go_sem] Oper.semAt_some mz
attribute [local go_sem] Oper.semAt_some mz
def zw(w:World)(L:Nat):Prop:=w.heap[L]?=some (.cells #[.slice none 0 0] 83 (0,0))
theorem zw.below{w w':World}{L:Nat}(h:zw w L)(hb:Below w.heap.size w w'):zw w' L:=pt hb h
theorem yt(w:World):Calls prog 17 #[.slice none 0 0] w fun e w'=> ∃L,e=.returned (.tuple #[.pointer (some ⟨L,0,none⟩),.int .i64 0])/\w.heap.size<=L/\zw w' L/\Below w.heap.size w w':=by
 obtain⟨hb,k0⟩:=qn w (.cells #[.slice none 0 0] 83);have HB:=al (ab hb k0);clear hb k0;go_enter func17,ntmps17;go_wp2
 go_step3
 go_wp2
 go_step3
 go_wp2
 go_loopw [5,12] (fun e i wr=>e=.int .i64 0/\i=.int .i64 0/\wr=w.alloc (.cells #[.slice none 0 0] 83)) (fun _ i _=>0)
 case atStart=>exact⟨rfl,rfl,rfl⟩
 case round=>
  obtain⟨rfl,rfl,rfl⟩:=hrel;go_wp2;rw[kn]
  go_ret2
  exact⟨_,rfl,aE _,HB.o.2,HB.o.1⟩
def LP(w:World)(X:Nat):List UInt8:=match w.cell? ⟨X,3,none⟩with
 |some (.string s)=>s.data.toList
 |_=>[]
theorem mR.LP{w:World}{X T:Nat}{lo hi at_:List UInt8}(h:mR w X T lo hi at_):LP w X=at_:=by unfold Proofs.YtmkofmeojbcakaaGreatDoor.LP;rw[h.cells.2.2.1]
def WB(x:Pr)(args:Array Value):Prop:= ∃v k,x.1=dP v k/\args= #[.agg #[.int .i64 v,.string ⟨k.toArray⟩]]
def aas(l:List Pr):Prop:= ∀p∈l,∃v k,I6 v/\(1<=k.length/\k.length<=16)/\p.1=dP v k
def Bf(X:Nat):Value:=.func (.func 214) #[.pointer (some ⟨X,0,none⟩)] #[]
theorem Ia(w:World)(X:Nat):Calls prog 213 #[Bf X] w fun e w'=>
  ∃N,e=.returned (.func (.func 226) #[] #[.pointer (some ⟨N,0,none⟩)])/\w.heap.size<=N/\w'.heap[N]?=some (.cells #[Bf X] 322 (0,0))/\Below w.heap.size w w':=by
 unfold Bf;obtain⟨hb,k0⟩:=qn w (.cells #[.func (.func 214) #[.pointer (some ⟨X,0,none⟩)] #[]] 322);have H:=al (ab k0 hb);clear k0 hb;go_enter func213,ntmps213;go_wp2;go_ret
 exact⟨_,rfl,aE _,H.o.1,H.o.2⟩
theorem LQ{at_ hi:List UInt8}{l tl:List Pr}{p:Pr}(hu:Up l)(h:(dh at_ l).takeWhile (jG hi)=p::tl):uj hi at_ l=some p/\(dh (p.1++[0]) l).takeWhile (jG hi)=tl/\(dh (p.1++[0]) l).length<(dh at_ l).length/\p∈l:=by
 unfold uj;rw[pN]
 cases hr:dh at_ l with
 |nil=>rw[hr]at h;simp at h
 |cons q r=>
  rw[hr]at h;rw[List.takeWhile_cons]at h;split at h
  ·rename_i hq;injection h with h1 h2;subst h1;have hn:=zO hu hr;refine⟨by simp[hq],by rw[hn];exact h2,by rw[hn];simp,sX (key:=at_) (by rw[hr];simp)⟩
  ·cases h
theorem Pq{at_ hi:List UInt8}{l:List Pr}(h:(dh at_ l).takeWhile (jG hi)=[]):uj hi at_ l=none:=by
 unfold uj;rw[pN]
 cases hr:dh at_ l with
 |nil=>rfl
 |cons q r=>
  rw[hr,List.takeWhile_cons]at h;split at h
  ·cases h
  ·rename_i hq;simp[hq]
theorem EW(w:World)(X T o N:Nat)(l:List Pr)(F:Nat->Nat->Prop)(lo hi ln:List UInt8)(hc:mR w X T lo hi ln)(ht:bM w T o l F)(hu:Up l)(hE:aas l)(hN:w.heap[N]?=some (.cells #[Bf X] 322 (0,0)))
  (Uy: ∀q,¬F X q) (hXN:X≠N):
  VY prog 226 #[.pointer (some ⟨N,0,none⟩)] (fun _ x args _ _=>WB x args) (fun k=>(∃q,F k q)\/k=N) (fun k=>k=X) (fun xs=>xs=(dh ln l).takeWhile (jG hi)) (fun pre=>pre<+:(dh ln l).takeWhile (jG hi)) w:=by
 intro l0 J Jx W U0 hJ Su hag MX h0 hY;have hc1:mR W X T lo hi ln:=hag.heap hc (fun h=>h);have HF:=al (ab hu (ab hE (ab Uy hXN)));have HJ:=al (ab hJ (ab MX hY));have H0:=al (ab (ht.eJ hag (fun _ _ _ h=>h)) (ab (hag.heap hN (fun h=>h)) (aQ hc1)));have HS:=al (show ∃(pre tl:List Pr) (at_:List UInt8) (U:Nat->Prop),mR W X T lo hi at_/\(dh at_ l).takeWhile (jG hi)=tl/\pre++tl=(dh ln l).takeWhile (jG hi)/\J pre U W/\Only (fun k=>U0 k\/k=X) W W/\Grow W U0 U from⟨[],_,ln,U0,hc1,rfl,rfl,h0,ox _ _,Grow.refl _ _⟩);clear hu hE Uy hXN hJ MX hY hag ht hN hc h0 hc1;refine callsIn_of_wp func226 rfl trivial ?_ rfl;simp only[ntmps226,nF,fm,ix,Nat.reduceAdd,Nat.reduceSub,Array.replicate_succ,Array.replicate_zero,List.push_toArray,List.append_toArray,fs,oe]
 gi_wp2
 gi_loopw [] (fun wr=> ∃(pre tl:List Pr) (at_:List UInt8) (U:Nat->Prop),mR wr X T lo hi at_/\(dh at_ l).takeWhile (jG hi)=tl/\pre++tl=(dh ln l).takeWhile (jG hi)/\J pre U wr/\Only (fun k=>U0 k\/k=X) W wr/\Grow W U0 U)
  (fun wr=>(dh (LP wr X) l).length)
 case atStart=>exact HS.o
 case round=>
  obtain⟨pre,tl,at_,U,hcw,htl,hpre,hJs,ho,hg⟩:=hrel;have htr:bM wr T o l F:=H0.o.1.eJ ho (fun b q hb e=>e.elim (HJ.o.2.1 b (.inl (.inl ⟨q,hb⟩))) (fun e=>HF.o.d.1 q (e▸hb)));have hN:=ho.heap H0.o.2.1 (fun e=>e.elim (HJ.o.2.1 N (.inl (.inr rfl))) (fun e=>HF.o.t e.symm));have c9:wr.cell? ⟨N,0,none⟩=some (.func (.func 214) #[.pointer (some ⟨X,0,none⟩)] #[]):=by simp[World.cell?,hN,Bf]
  have HX:=al (Hz wr X T o l F lo hi at_ hcw htr (fun p hp=>by
   obtain⟨v,k,-,h2,h3⟩:=HF.o.2.1 p hp;rw[h3];simp[dP,cu]
   omega))
  have hen:=enters_of func214 (by kernel_rfl) rfl;have HR:=al (ab hcw (ab htr (ab htl (ab hpre (ab hJs (ab ho hg))))));have hXU: ¬U X:=fun h=>(hg X h).elim (HJ.o.2.1 X (.inr rfl)) (fun h=>by have:=H0.o.d;omega);have HU:=al hXU;clear hcw htr hN
  cases tl with
  |nil=>
   rw[Pq htl]at HX;clear htl hpre hJs ho hg hXU
   gi_wp2
   refine⟨trivial,?_⟩;refine(callsIn_wide.2 HX.o).m ?_;rintro e w1 ⟨rfl,hb1⟩;have HB:=al hb1;clear hb1 c9
   gi_wp2
   refine dr (du rfl _ _ _) rfl ?_;obtain⟨-,-,-,hpre,hJs,ho,hg⟩:=HR.o;rw[gn]at hpre;exact⟨⟨_,rfl⟩,.inl ⟨pre,U,hpre,HJ.o.1.2 _ _ _ _ _ hJs (pw HB.o) (fun _ h=>h.elim),ho.x (oj HB.o _) (fun _ _ h=>h),hg⟩⟩
  |cons p tl=>
   obtain⟨q1,q2,q3,q4⟩:=LQ HF.o.1 htl;rw[q1]at HX;obtain⟨v,k,hv,hk,hpk⟩:=HF.o.2.1 p q4;have HP:=al (ab q2 (ab q3 (ab hv (ab hk hpk))));clear htl hpre hJs ho hg hXU q1 q2 q3 q4 hv hk
   gi_wp2
   refine⟨trivial,?_⟩;refine(callsIn_wide.2 HX.o).m ?_;rintro e w1 ⟨rfl,aat,jq⟩;have H1:=al (ab aat jq);rw[hpk];clear aat jq c9 HX hpk
   gi_wp2_with (refine⟨trivial,?_⟩;gi_at_call 227;refine(callsIn_wide.2 (Hy w1 v k HP.o.d.1 HP.o.t.1)).m ?_;rintro e w2 ⟨rfl,hb2⟩)
   have hb3:=hb2.x ((ae w2 (.cells #[.int .i64 v,.string ⟨k.toArray⟩] 201)).m hb2.size);generalize w2.alloc (.cells #[.int .i64 v,.string ⟨k.toArray⟩] 201)=w3 at hb3⊢;have hJ3:J pre U w3:=HJ.o.1.2 _ _ _ _ _ (HJ.o.1.2 _ _ _ _ _ HR.o.q.1 H1.o.2 (fun j e=>⟨.inr e,fun hu=>HU.o (e▸hu)⟩)) (pw hb3) (fun _ h=>h.elim)
   have H3:=al (show mR w3 X T lo hi (p.1++[0])/\Only (fun k=>U0 k\/k=X) W w3/\W.heap.size<=w3.heap.size from
    ⟨pt hb3 H1.o.1,(HR.o.q.2.1.x H1.o.2 (fun _ _ e=>.inr e)).x (oj hb3 _) (fun _ _ h=>h),by have:=HR.o.q.2.1.size;have:=H1.o.2.size;have:=hb3.size;omega⟩)
   clear hb2 hb3;obtain⟨fn,tmps,assign,body,hy,hRR⟩:=HJ.o.d pre p _ U _ hJ3 ⟨v,k,HP.o.q,rfl⟩;rw[hy];refine⟨fun h=>by simp[Fence.wide]at h,(Cn hRR).m ?_⟩;clear hJ3 hy;rintro e w4 (⟨rfl,U',XP,lX,hg4⟩|⟨rfl,U',aau,lX,hg4⟩)
   ·have H4:=al (ab XP (ab lX hg4));clear XP lX hg4
    gi_wp2
    go_roundw
    case rel=>obtain⟨XP,lX,hg4⟩:=H4.o;obtain⟨-,-,-,hpre,-,-,hg⟩:=HR.o;exact⟨pre++[p],tl,p.1++[0],U',lX.heap H3.o.1 HU.o,HP.o.1,by rw[<-hpre];simp,XP,H3.o.2.1.x lX (fun j hj h=>(hg j h).elim .inl (fun h=>by omega)),hg.x hg4 H3.o.d⟩
    case measure=>have h4:mR w4 X T lo hi (p.1++[0]):=H4.o.2.1.heap H3.o.1 HU.o;rw[h4.LP,HR.o.1.LP];exact HP.o.2.1
   ·have H4:=al (ab aau (ab lX hg4));clear aau lX hg4
    gi_wp2
    refine dr (du rfl _ _ _) rfl ?_;obtain⟨XP,lX,hg4⟩:=H4.o;obtain⟨-,-,-,hpre,-,-,hg⟩:=HR.o;exact⟨⟨_,rfl⟩,.inr ⟨pre++[p],U',⟨tl,by rw[<-hpre];simp⟩,XP,H3.o.2.1.x lX (fun j hj h=>(hg j h).elim .inl (fun h=>by omega)),hg.x hg4 H3.o.d⟩⟩
attribute [local go_sem] Oper.semAt_some
def EX(k:List UInt8):Value:=.string ⟨k.toArray⟩
def WC(x:Pr):Value:=EX (x.1.drop 8)
def CC(b0 V M m:Nat)(xs:List Pr)(U:Nat->Prop)(W:World):Prop:=
 ∃v,W.heap[V]?=some (.cells #[v] 219 (0,0))/\W.heap[M]?=some (.cells #[.int .i64 (m:Int)] 3 (0,0))/\W.ownsRow b0 9 1 v xs.length (xs.map WC)/\(∀k,U k↔k=V\/k=M\/v.ownBlock=some k)/\xs.length<=m/\V<b0/\M<b0/\V≠M/\b0<=W.heap.size
def S7(b0 V M m:Nat)(c:Code)(xs:List Pr)(U:Nat->Prop)(W:World):Prop:=c=.exit 0/\ ∃ys x,xs=ys++[x]/\ys.length=m/\CC b0 V M m ys U W
theorem CC.yu{b0 V M m:Nat}{Bs:Nat->Prop}:lW Bs (CC b0 V M m):=by
 refine⟨?_,?_⟩
 ·rintro pre U A ⟨v,h1,h2,h3,h4,-⟩ k hk;rcases(h4 k).1 hk with rfl|rfl|h
  ·exact aQ h1
  ·exact aQ h2
  ·exact(h3.lt k h).2
 ·rintro pre U A B S ⟨v,h1,h2,h3,h4,h5,h6,h7,h8,h9⟩ ho hS;exact⟨v,ho.heap h1 (fun h=>(hS V h).2 ((h4 V).2 (.inl rfl))),ho.heap h2 (fun h=>(hS M h).2 ((h4 M).2 (.inr (.inl rfl)))),aT h3 ho (fun g hg h=>(hS g h).2 ((h4 g).2 (.inr (.inr hg)))),h4,h5,h6,h7,h8,da h9 ho.size⟩
theorem S7.yu{b0 V M m:Nat}{Bs:Nat->Prop}(c:Code):lW Bs (S7 b0 V M m c):=by
 refine⟨?_,?_⟩
 ·rintro pre U A ⟨-,ys,x,-,-,h⟩ k hk;exact(CC.yu (Bs:=Bs)).1 _ _ _ h k hk
 ·rintro pre U A B S ⟨hc,ys,x,h1,h2,h⟩ ho hS;exact⟨hc,ys,x,h1,h2,(CC.yu (Bs:=Bs)).2 _ _ _ _ _ h ho hS⟩
theorem Tryz.Ps:(prog.info? 9).map (fun i=>(i.zero,i.size,i.bytes))=some (some (.string ⟨#[]⟩),1,16):=by kernel_rfl
def Bg(ks:List (List UInt8))(w:World)(e:Ending)(w':World):Prop:=
 ∃A c,e=.returned (.tuple #[.slice A ks.length c,.int .i64 0])/\w'.ownsRow w.heap.size 9 1 (.slice A ks.length c) ks.length (ks.map EX)/\Below w.heap.size w w'
theorem S8{c:Nat}{l:ax}(h:fc l)(hf:RowsFit l)(hk: ∀q∈l,1<=q.1.length/\q.1.length<=16):aas (sW c l):=by intro p hp;obtain⟨q,hq,rfl⟩:=ew.1 ((fp c h hf).mem_iff.1 hp);exact⟨q.2.aM c,q.1,hf q hq c,hk q hq,rfl⟩
theorem yw(w:World)(T o:Nat)(most:Int)(l:ax)(F:Nat->Nat->Prop)(c m:Nat)(lo hi:Int)(h:cd w T most o l F)(hF: ∀b q,F b q->b<w.heap.size)(hc:c<4)(hlo:I6 lo)(hhi:I6 hi)(hle:lo<=hi)(hm:m<=100000):
  Calls prog 187 #[.pointer (some ⟨T,0,none⟩),.int .i64 (c:Int),.int .i64 lo,.int .i64 hi,.int .i64 (m:Int)] w (Bg ((cV c lo hi l).take m) w):=by
 obtain⟨hb0,k0⟩:=qn w (.cells #[.int .i64 (m:Int)] 3);have H:=al (ab h (ab hF (ab hlo (ab hhi (ab hle (ab hm hc))))));have g1: ¬(c:Int)<0:=by omega
 have g2: ¬(4:Int)<=(c:Int):=by omega
 have g3: ¬(m:Int)<0:=by omega
 clear h hF hlo hhi hle hm hc;refine Em func187 rfl ?_;simp only[ntmps187,nF,fm,ix,Nat.reduceAdd,Nat.reduceSub,Array.replicate_succ,Array.replicate_zero,List.push_toArray,List.append_toArray,fs,oe];go_upto_region 1 with fail;generalize w.alloc (.cells #[.int .i64 (m:Int)] 3)=w1 at hb0 k0⊢;obtain⟨M,hM⟩:=qt (w.heap.size);rw[hM]at k0⊢;have HM:=al (ab hM (ab hb0 k0));clear hM hb0 k0;go_wp2_with fail;refine(LN w1 lo hi H.o.d.1 H.o.t.1 H.o.q.1).m ?_;rintro e w2 ⟨rfl,hb2⟩;have ru:=HM.o.2.1.x (hb2.m HM.o.2.1.size);have k2:=pt hb2 HM.o.d;have z0:w2.cell? ⟨M,0,none⟩=some (.int .i64 (m:Int)):=by simp[World.cell?,k2]
 have fg:=al (ab ru k2);obtain⟨t,Fs,hW,hup,hfit,sH,aav,hlen,Ul,qi⟩:=H.o.1.below ru;have HT:=al (ab hW (ab hup (ab hfit (ab sH (ab Ul qi)))));have HI:=al (uI w2 T (t (c+1)) c H.o.q.d (hW.ci (by have:=H.o.q.d;omega)));unfold mn at HI;clear hb2 ru k2 hW hup hfit sH aav hlen Ul qi g1 g2;go_wp2_with fail;refine HI.o.m ?_;rintro e w3 ⟨rfl,rfl⟩;clear HI;go_wp2_with fail;refine(LO w2 (t (c+1)) (pfx lo) (Di hi) ?_).m ?_
 ·unfold Di;by_cases g:hi<9223372036854775807
  ·rw[fi g];right;rw[sV ⟨by have:=H.o.t.1.1;omega,by omega⟩ H.o.d.1];have:=H.o.q.1;omega
  ·rw[ff g];exact .inl rfl
 rintro e w4 ⟨X,rfl,hX,hC,hb4⟩;obtain⟨hx,kx⟩:=qn w4 (.cells #[.slice none 0 0] 219);have HC:=al (ab hX (ab hC hb4));clear hX hC hb4 z0 g3;go_upto_region 14 with fail;generalize w4.alloc (.cells #[.slice none 0 0] 219)=w5 at hx kx⊢;obtain⟨V,hV⟩:=qt (w4.heap.size);rw[hV]at kx⊢
 have H5:=al (show Below w.heap.size w w5/\w5.heap[V]?=some (.cells #[.slice none 0 0] 219 (0,0))/\w5.heap[M]?=some (.cells #[.int .i64 (m:Int)] 3 (0,0))/\mR w5 X (t (c+1)) (pfx lo) (Di hi) (pfx lo)/\Below w2.heap.size w2 w5/\(w.heap.size=M/\M<X/\X<V)from by
  have h25:Below w2.heap.size w2 w5:=HC.o.d.x (hx.m HC.o.d.size);have hMl:=aQ fg.o.2
  exact⟨fg.o.1.x (h25.m fg.o.1.size),kx,pt h25 fg.o.2,pt hx HC.o.2.1,h25,HM.o.1,by have:=HC.o.1;omega,by have:=aQ HC.o.2.1;omega⟩)
 clear hx kx hV;have HN:=al (Ia w5 X);unfold Bf at HN;go_wp2_with fail;refine HN.o.m ?_;rintro e w6 ⟨N,rfl,hN5,kN,fC⟩;have hHT:=HT.o;obtain⟨hW,hup,hfit,sH,Ul,qi⟩:=hHT;have hc5:c+1<5:=by have:=H.o.q.d;omega
 have Ib:Below w2.heap.size w2 w6:=H5.o.q.1.x (fC.m H5.o.q.1.size);have htl:iC l (c+1)=sW c l:=by unfold iC;rw[ff (by omega)];rfl
 have xV:bM w6 (t (c+1)) o (sW c l) (Fs (c+1)):=by have:=(hW.tree (c+1) hc5).below Ib;rwa[htl]at this
 have yX:mR w6 X (t (c+1)) (pfx lo) (Di hi) (pfx lo):=pt fC H5.o.t.1;have XC: ∀b q,Fs (c+1) b q->b<w.heap.size:=fun b q hb=>H.o.2.1 b q (Ul b q ⟨c+1,hc5,hb⟩);have XK:=H5.o.q.2;have hseq:=EW w6 X (t (c+1)) o N (sW c l) (Fs (c+1)) (pfx lo) (Di hi) (pfx lo) yX xV (iO c l) (S8 hup hfit sH) kN (fun q hb=>by have:=XC X q hb;omega) (by have:=aQ H5.o.2.1;omega);have dI:=QX (c:=c) hup hfit H.o.d.1 H.o.t.1
 have hI0:CC w6.heap.size V M m [] (fun k=>k=V\/k=M\/(Value.slice none 0 0).ownBlock=some k) w6:=
  ⟨.slice none 0 0,pt fC H5.o.2.1,pt fC H5.o.d.1,ea _ _ _ _,fun k=>Iff.rfl,dq _,by have:=aQ H5.o.2.1;have:=fC.size;omega,by have:=aQ H5.o.d.1;have:=fC.size;omega,by omega,aE _⟩
 have H6:=al (ab hseq (ab dI (ab hI0 (ab (H5.o.1.x (fC.m H5.o.1.size)) (ab (aQ kN) (ab (aQ yX) (ab XC (ab hN5 (aQ H5.o.2.1)))))))));clear hW hup hfit sH Ul qi Ib htl xV yX XC XK hseq dI hI0 hN5 kN fC hc5;obtain⟨i0,hi0,hz0,hz1,hz2⟩:=ep Tryz.Ps;have HI:=al (ab hi0 (ab hz0 (ab hz1 hz2)));clear hi0 hz0 hz1 hz2;go_wp2_with fail
 refine Eo (α:=Pr) (fun t Y=>t.setIfInBounds 17 (.pointer (some ⟨Y,0,none⟩))) (fun v=>.cells v.cells 201 (0,0)) rfl (enters_of func226 (by kernel_rfl) rfl) H6.o.1 ?XG ?Sv
  (CC w6.heap.size V M m) (S7 w6.heap.size V M m) CC.yu S7.yu _ H6.o.d.1 ?ZH ?se ?hbody ?hdone ?En
 case XG=>
  obtain⟨-,-,-,-,h1,h2,h3,h4,-⟩:=H6.o;have h5:=H5.o.1.size;rintro k ((⟨q,hq⟩|rfl)|rfl)
  ·have:=h3 k q hq;omega
  ·exact h1
  ·exact h2
 case Sv=>rintro x args ⟨v,k,-,h⟩;exact⟨_,h⟩
 case ZH=>
  obtain⟨-,-,-,-,h1,h2,h3,h4,h6⟩:=H6.o;have h5:=H5.o.q.2;rintro k ((⟨q,hq⟩|rfl)|rfl) (e|e|e)
  ·have:=h3 k q hq;omega
  ·have:=h3 k q hq;omega
  ·cases e
  ·omega
  ·omega
  ·cases e
  ·omega
  ·omega
  ·cases e
 case se=>
  rintro l0 x v W K ⟨v',k',-,hv⟩ hK;obtain rfl:v=_:=by injection hv with hv;injection hv with hv _
  have hb:=ae W (.cells #[.int .i64 v',.string ⟨k'.toArray⟩] 201);have hk:=hK _ _ (aE _) (an W (.cells #[.int .i64 v',.string ⟨k'.toArray⟩] 201)) hb;simp only[List.setIfInBounds_toArray,List.set_cons_zero,List.set_cons_succ]at hk⊢;have HK:=al hk;clear hK hk hb hv
  gi_wp2
  exact HK.o
 case hbody=>
  rintro l0 pre x v Y U W ⟨vs,h1,h2,h3,h4,h5,h6,h7,h8,h9⟩ ⟨v',k',hx,hv⟩ hY hUY;obtain rfl:v=_:=by injection hv with hv;injection hv with hv _
  obtain⟨A,cp,rfl⟩:=ag h3;obtain⟨n,hn⟩:=qt (pre.length);rw[hn]at h1 h3 h4 h5;have zV:W.cell? ⟨V,0,none⟩=some (.slice A n cp):=by simp[World.cell?,h1]
  have fV:W.frozen? ⟨V,0,none⟩=false:=by simp[World.frozen?,h1]
  have zM:W.cell? ⟨M,0,none⟩=some (.int .i64 (m:Int)):=by simp[World.cell?,h2]
  have zY:W.cell? ⟨Y,1,none⟩=some (.string ⟨k'.toArray⟩):=by simp[World.cell?,hY,Value.cells]
  have HJ:=al (show CC w6.heap.size V M m pre U W from⟨.slice A n cp,h1,h2,by rw[hn];exact h3,h4,by rw[hn];exact h5,h6,h7,h8,h9⟩);have HX:=al (ab hx (ab h1 (ab h3 (ab h4 (ab hn (ab h9 (ab h2 (ab h5 (ab h6 (ab h7 h8))))))))));simp only[List.setIfInBounds_toArray,List.set_cons_zero,List.set_cons_succ];clear h1 h2 h3 h4 h5 h6 h7 h8 h9 hx hv hY hUY hn;by_cases g:n=m
  ·have hg:(n:Int)=(m:Int):=by omega
   have HG:=al (ab g trivial);clear g
   gi_wp2
   exact⟨U,⟨rfl,pre,x,rfl,by rw[HX.o.q.1,HG.o.1],HJ.o⟩,ox _ _,Grow.refl _ _⟩
  ·have hg: ¬(n:Int)=(m:Int):=by omega
   have HG:=al (ab g trivial);have oq:n<100000:=by have:=HX.o.q.t.1;have:=H.o.q.2.1;omega
   have hb1:=ae W (.cells #[.string ⟨k'.toArray⟩] 9);have HA:=al (ab (eb (an W (.cells #[.string ⟨k'.toArray⟩] 9))) (ab (aT HX.o.d.1 (pw hb1) (fun _ _ h=>h)) (ab hb1 oq)));clear g hb1 oq
   gi_wp2_with (gi_at_builtin;go_loud (refine wpListIn_append_own_at _ rfl _ _ 219 rfl w6.heap.size 9 i0 (.string ⟨#[]⟩) 1 16 underlying219 HI.o.1 HI.o.2.1 HI.o.d.1 HI.o.t rfl (by decide) (.slice A n cp) n _ rfl HA.o.2.1 ⟨W.heap.size,0,none⟩ 1 1 [.string ⟨k'.toArray⟩] rfl rfl HA.o.1 (by simp[Value.oneCell']) (by have:=HA.o.t;unfold maxLen;omega) (by have:=HA.o.t;omega) (by have:=HX.o.q.2.1;have:=HA.o.d.1.size;omega) ?_);intro v2 w7 hown hgrow _ hat;obtain⟨A2,Zp,rfl⟩:=ag hown;have k7:=(Only.of_grownBy hgrow).heap (pt HA.o.d.1 HX.o.2.1) (fun e=>by have:=(HX.o.d.1.lt V e).1;have:=HX.o.q.q.1;omega);have m7:=(Only.of_grownBy hgrow).heap (pt HA.o.d.1 HX.o.q.d.1) (fun e=>by have:=(HX.o.d.1.lt M e).1;have:=HX.o.q.q.2.1;omega);have q0:w7.cell? ⟨V,0,none⟩=some (.slice A n cp):=(by simp[World.cell?,k7]);have q1:w7.frozen? ⟨V,0,none⟩=false:=(by simp[World.frozen?,k7]);have HO:=al (ab hown (ab hgrow (ab hat (ab k7 m7))));clear hown hgrow hat k7 m7)
   obtain⟨hown,hgrow,hat,k7,m7⟩:=HO.o;obtain⟨hx,-,h3,h4,hn,h9,-,h5,h6,h7,h8⟩:=HX.o;have Z4:Only (fun k=>U k) W w7:=(oj HA.o.d.1 _).x (Only.of_grownBy hgrow) (fun k _ e=>(h4 k).2 (.inr (.inr e)));refine⟨fun k=>k=V\/k=M\/(Value.slice A2 (n+1) Zp).ownBlock=some k,⟨.slice A2 (n+1) Zp,by have:=db w7 V 0 _ _ (.slice A2 (n+1) Zp) k7;simpa using this,(bj w7 V 0 _).heap m7 (fun e=>h8 e.symm),?_,fun k=>Iff.rfl,?_,h6,h7,h8,?_⟩,Z4.x (bj w7 V 0 _) (fun k _ e=>(h4 k).2 (.inl e)),?_⟩
   ·rw[fb,hn,gk,show[x].map WC=[.string ⟨k'.toArray⟩] by simp[WC,EX,hx,oP]];exact aT hown (bj w7 V 0 _) (fun g hg e=>by have:=(hown.lt g hg).1;omega)
   ·rw[fb,hn];have:=HG.o.1;simp;omega
   ·have:=Z4.size;show w6.heap.size<=(w7.setCell _ _).heap.size;simp[World.setCell];omega
   ·rintro k (e|e|e)
    ·exact .inl ((h4 k).2 (.inl e))
    ·exact .inl ((h4 k).2 (.inr (.inl e)))
    ·rcases hat with hat|hat
     ·exact .inl ((h4 k).2 (.inr (.inr (hat▸e))))
     ·rw[hat]at e;have:=HA.o.d.1.size;injection e with e;exact .inr (by omega)
 case hdone=>
  rintro D xs U W hD hUD hS ⟨v,h1,h2,h3,h4,h5,h6,h7,h8,h9⟩ ho hk;obtain⟨A,cp,rfl⟩:=ag h3;have zV:W.cell? ⟨V,0,none⟩=some (.slice A xs.length cp):=by simp[World.cell?,h1]
  have hks:(cV c lo hi l).take m=xs.map fun p=>p.1.drop 8:=by
   unfold cV;rw[<-H6.o.2.1,gE]
   ·rw[hS];rfl
   ·rw[fa];show((dh (pfx lo) (sW c l)).takeWhile (jG (Di hi))).length<=m;rw[<-hS];exact h5
  obtain⟨ys,hys⟩:=qS (xs);rw[<-hys]at h3 h5 hks zV;clear h1 hS hys;have h1:=trivial
  have hbW:Below w.heap.size w W:=H6.o.t.1.x (ho.aG H6.o.t.1.size (fun k hk e=>by
   have q:=H5.o.q.2;rcases e with(e|e|e)|e
   ·omega
   ·omega
   ·cases e
   ·omega))
  have HD:=al (ab h3 (ab hk (ab hbW (ab hks (ab hD H6.o.t.1.size)))));clear h1 h2 h3 h4 h5 h6 h7 h8 h9 ho hk hbW hks hD hUD;go_wp2_with fail;refine xZ (v:=.tuple #[.slice A ys.length cp,.int .i64 0]) HD.o.2.1 (by simp[results,Tryz.results187,go_sem]) ⟨A,cp,?_,?_,?_⟩
  ·rw[HD.o.t.1,fa]
  ·rw[HD.o.t.1,fa,List.map_map];exact dM (ownsRow_putObj HD.o.1 _ HD.o.2.1 rfl) (fun g hg=>by have:=(HD.o.1.lt g hg).1;have:=HD.o.q.2;omega)
  ·exact HD.o.d.1.x ((Only.putObj _ D _).aG HD.o.d.1.size (fun k hk e=>by have:=HD.o.q;omega))
 case En=>
  rintro D c0 pre U W hD hUD hS ⟨rfl,ys,x,hpre,hlen,v,h1,h2,h3,h4,h5,h6,h7,h8,h9⟩ ho hk;obtain⟨A,cp,rfl⟩:=ag h3;have zV:W.cell? ⟨V,0,none⟩=some (.slice A ys.length cp):=by simp[World.cell?,h1]
  have hks:(cV c lo hi l).take m=ys.map fun p=>p.1.drop 8:=by
   obtain⟨zs,hzs⟩:=hS;have hzs:ys++([x]++zs)=QV (pfx lo) (Di hi) (sW c l):=by rw[<-kt,<-hpre];exact hzs
   unfold cV;rw[<-H6.o.2.1,<-hzs,gk,List.take_append_of_le_length (by simp;omega),gE (by simp;omega)]
  clear hS hpre hlen
  have hbW:Below w.heap.size w W:=H6.o.t.1.x (ho.aG H6.o.t.1.size (fun k hk e=>by
   have q:=H5.o.q.2;rcases e with(e|e|e)|e
   ·omega
   ·omega
   ·cases e
   ·omega))
  have HD:=al (ab h3 (ab hk (ab hbW (ab hks (ab hD H6.o.t.1.size)))));clear h1 h2 h3 h4 h5 h6 h7 h8 h9 ho hk hbW hks hD hUD;go_wp2_with fail;refine xZ (v:=.tuple #[.slice A ys.length cp,.int .i64 0]) HD.o.2.1 (by simp[results,Tryz.results187,go_sem]) ⟨A,cp,?_,?_,?_⟩
  ·rw[HD.o.t.1,fa]
  ·rw[HD.o.t.1,fa,List.map_map];exact dM (ownsRow_putObj HD.o.1 _ HD.o.2.1 rfl) (fun g hg=>by have:=(HD.o.1.lt g hg).1;have:=HD.o.q.2;omega)
  ·exact HD.o.d.1.x ((Only.putObj _ D _).aG HD.o.d.1.size (fun k hk e=>by have:=HD.o.q;omega))
end Go.Proofs.YtmkofmeojbcakaaGreatDoor
