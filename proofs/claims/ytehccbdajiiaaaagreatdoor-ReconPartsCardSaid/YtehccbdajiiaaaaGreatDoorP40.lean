import Derived.Test.YtehccbdajiiaaaaGreatDoorP07
import Derived.Test.YtehccbdajiiaaaaGreatDoorP39
import Derived.Maps.OwnIn
namespace Go.Proofs.YtehccbdajiiaaaaGreatDoor
open Go.Proofs.Tryz
set_option maxRecDepth 100000
set_option maxHeartbeats 16000000
open Go.RowKit
def Mr(w:World)(X:Nat):List UInt8:=match w.cell? ⟨X,3,none⟩with
 |some (.string s)=>s.data.toList
 |_=>[]
theorem mU.Mr{w:World}{X T:Nat}{lo hi a:List UInt8}(h:mU w X T lo hi a):Mr w X=a:=by unfold Proofs.YtehccbdajiiaaaaGreatDoor.Mr;rw[h.cells.2.2.1]
def X7(x:Pr)(args:Array Value):Prop:= ∃v k,x.1=dI v k/\args= #[.agg #[rv v,sd k]]
def abq(l:List Pr):Prop:= ∀p∈l,∃v k,I6 v/\(1<=k.length/\k.length<=16)/\p.1=dI v k
def Bn(X:Nat):Value:=.func (.func 233) #[r7 X] #[]
theorem IJ(w:World)(X:Nat):Calls prog 232 #[Bn X] w fun e a=>
  ∃N,e=.returned (.func (.func 253) #[] #[r7 N])/\w.heap.size<=N/\a.heap[N]?=some (.cells #[Bn X] 338 (0,0))/\Below w.heap.size w a:=by
 unfold Bn;obtain⟨a,b⟩:=rk w (.cells #[.func (.func 233) #[r7 X] #[]] 338);have H:=AI b a;clear b a;go_enter func232,ntmps232;go_wp2_with fail;go_ret
 exact⟨_,rfl,b8 _,H.o.1,H.o.2⟩
theorem Ms{a hi:List UInt8}{l b:List Pr}{p:Pr}(g:Up l)(h:(cU a l).takeWhile (jO hi)=p::b):tH hi a l=some p/\(cU (p.1++[0]) l).takeWhile (jO hi)=b/\(cU (p.1++[0]) l).length<(cU a l).length/\p∈l:=by
 unfold tH;rw[pj]
 cases hr:cU a l with
 |nil=>rw[hr]at h;simp at h
 |cons q r=>
  rw[hr]at h;rw[List.takeWhile_cons]at h;split at h
  ·rename_i f;injection h with e d;subst e;have c:=zP g hr;refine⟨by simp[f],by rw[c];exact d,by rw[c];simp,sB (key:=a) (by rw[hr];simp)⟩
  ·cases h
theorem Qm{a hi:List UInt8}{l:List Pr}(h:(cU a l).takeWhile (jO hi)=[]):tH hi a l=none:=by
 unfold tH;rw[pj]
 cases hr:cU a l with
 |nil=>rfl
 |cons q r=>
  rw[hr,List.takeWhile_cons]at h;split at h
  ·cases h
  ·rename_i b;simp[b]
theorem Fx(w:World)(X T o N:Nat)(l:List Pr)(F:Nat->Nat->Prop)(lo hi lH:List UInt8)(hc:mU w X T lo hi lH)(ht:bM w T o l F)(hu:Up l)(hE:abq l)(hN:w.heap[N]?=some (.cells #[Bn X] 338 (0,0)))
  (hXF: ∀q,¬F X q) (hXN:X≠N):
  R4 prog 253 #[.pointer (some ⟨N,0,none⟩)] (fun _ x args _ _=>X7 x args) (fun k=>(∃q,F k q)\/k=N) (fun k=>k=X) (fun xs=>xs=(cU lH l).takeWhile (jO hi)) (fun pre=>pre<+:(cU lH l).takeWhile (jO hi)) w:=by
 intro l0 J Jx W U0 hJ BU hag rp h0 hY;have hc1:mU W X T lo hi lH:=hag.heap hc (fun h=>h);have HF:=al (ab hu (ab hE (ab hXF hXN)));have HJ:=al (ab hJ (ab rp hY));have H0:=al (ab (ht.dR hag (fun _ _ _ h=>h)) (ab (hag.heap hN (fun h=>h)) (aP hc1)));have HS:=al (show ∃(pre tl:List Pr) (at_:List UInt8) (U:Nat->Prop),mU W X T lo hi at_/\(cU at_ l).takeWhile (jO hi)=tl/\pre++tl=(cU lH l).takeWhile (jO hi)/\J pre U W/\Only (fun k=>U0 k\/k=X) W W/\Grow W U0 U from⟨[],_,lH,U0,hc1,rfl,rfl,h0,oT _ _,Grow.refl _ _⟩);clear hu hE hXF hXN hJ rp hY hag ht hN hc h0 hc1;refine callsIn_of_wp func253 rfl trivial ?_ rfl;simp only[ntmps253,nw,jj,nF,Nat.reduceAdd,Nat.reduceSub,Array.replicate_succ,Array.replicate_zero,List.push_toArray,List.append_toArray,fm,nh]
 gi_wp2
 gi_loopw [] (fun wr=> ∃(pre tl:List Pr) (at_:List UInt8) (U:Nat->Prop),mU wr X T lo hi at_/\(cU at_ l).takeWhile (jO hi)=tl/\pre++tl=(cU lH l).takeWhile (jO hi)/\J pre U wr/\Only (fun k=>U0 k\/k=X) W wr/\Grow W U0 U)
  (fun wr=>(cU (Mr wr X) l).length)
 case atStart=>exact HS.o
 case round=>
  obtain⟨pre,tl,at_,U,hcw,htl,hpre,hJs,ho,hg⟩:=hrel;have htr:bM wr T o l F:=H0.o.1.dR ho (fun b q hb e=>e.elim (HJ.o.2.1 b (.inl (.inl ⟨q,hb⟩))) (fun e=>HF.o.d.1 q (e▸hb)));have hN:=ho.heap H0.o.2.1 (fun e=>e.elim (HJ.o.2.1 N (.inl (.inr rfl))) (fun e=>HF.o.t e.symm));have c9:wr.cell? ⟨N,0,none⟩=some (.func (.func 233) #[.pointer (some ⟨X,0,none⟩)] #[]):=by simp[World.cell?,hN,Bn]
  have HX:=al (II wr X T o l F lo hi at_ hcw htr (fun p hp=>by
   obtain⟨v,k,-,h2,h3⟩:=HF.o.2.1 p hp;rw[h3];simp[dI,cg]
   omega))
  have hen:=enters_of func233 (by kernel_rfl) rfl;have HR:=al (ab hcw (ab htr (ab htl (ab hpre (ab hJs (ab ho hg))))));have hXU: ¬U X:=fun h=>(hg X h).elim (HJ.o.2.1 X (.inr rfl)) (fun h=>by have:=H0.o.d;omega);have HU:=al hXU;clear hcw htr hN
  cases tl with
  |nil=>
   rw[Qm htl]at HX;clear htl hpre hJs ho hg hXU
   gi_wp2
   refine⟨trivial,?_⟩;refine(callsIn_wide.2 HX.o).m ?_;rintro e w1 ⟨rfl,hb1⟩;have HB:=al hb1;clear hb1 c9
   gi_wp2
   refine dj (du rfl _ _ _) rfl ?_;obtain⟨-,-,-,hpre,hJs,ho,hg⟩:=HR.o;rw[gr]at hpre;exact⟨⟨_,rfl⟩,.inl ⟨pre,U,hpre,HJ.o.1.2 _ _ _ _ _ hJs (ri HB.o) (fun _ h=>h.elim),ho.x (oS HB.o _) (fun _ _ h=>h),hg⟩⟩
  |cons p tl=>
   obtain⟨q1,q2,q3,q4⟩:=Ms HF.o.1 htl;rw[q1]at HX;obtain⟨v,k,hv,hk,hpk⟩:=HF.o.2.1 p q4;have HP:=al (ab q2 (ab q3 (ab hv (ab hk hpk))));clear htl hpre hJs ho hg hXU q1 q2 q3 q4 hv hk
   gi_wp2
   refine⟨trivial,?_⟩;refine(callsIn_wide.2 HX.o).m ?_;rintro e w1 ⟨rfl,abr,je⟩;have H1:=al (ab abr je);rw[hpk];clear abr je c9 HX hpk
   gi_wp2_with (refine⟨trivial,?_⟩;gi_at_call 254;refine(callsIn_wide.2 (IH w1 v k HP.o.d.1 HP.o.t.1)).m ?_;rintro e w2 ⟨rfl,hb2⟩)
   have hb3:=hb2.x ((af w2 (.cells #[.int .i64 v,.string ⟨k.toArray⟩] 273)).m hb2.size);generalize w2.alloc (.cells #[.int .i64 v,.string ⟨k.toArray⟩] 273)=w3 at hb3⊢;have hJ3:J pre U w3:=HJ.o.1.2 _ _ _ _ _ (HJ.o.1.2 _ _ _ _ _ HR.o.q.1 H1.o.2 (fun j e=>⟨.inr e,fun hu=>HU.o (e▸hu)⟩)) (ri hb3) (fun _ h=>h.elim)
   have H3:=al (show mU w3 X T lo hi (p.1++[0])/\Only (fun k=>U0 k\/k=X) W w3/\W.heap.size<=w3.heap.size from
    ⟨qS hb3 H1.o.1,(HR.o.q.2.1.x H1.o.2 (fun _ _ e=>.inr e)).x (oS hb3 _) (fun _ _ h=>h),by have:=HR.o.q.2.1.size;have:=H1.o.2.size;have:=hb3.size;omega⟩)
   clear hb2 hb3;obtain⟨fn,tmps,assign,body,hy,hRR⟩:=HJ.o.d pre p _ U _ hJ3 ⟨v,k,HP.o.q,rfl⟩;rw[hy];refine⟨fun h=>by simp[Fence.wide]at h,(ru hRR).m ?_⟩;clear hJ3 hy;rintro e w4 (⟨rfl,U',Vi,iI,hg4⟩|⟨rfl,U',abt,iI,hg4⟩)
   ·have H4:=al (ab Vi (ab iI hg4));clear Vi iI hg4
    gi_wp2
    go_roundw
    case rel=>obtain⟨Vi,iI,hg4⟩:=H4.o;obtain⟨-,-,-,hpre,-,-,hg⟩:=HR.o;exact⟨pre++[p],tl,p.1++[0],U',iI.heap H3.o.1 HU.o,HP.o.1,by rw[<-hpre];simp,Vi,H3.o.2.1.x iI (fun j hj h=>(hg j h).elim .inl (fun h=>by omega)),hg.x hg4 H3.o.d⟩
    case measure=>have h4:mU w4 X T lo hi (p.1++[0]):=H4.o.2.1.heap H3.o.1 HU.o;rw[h4.Mr,HR.o.1.Mr];exact HP.o.2.1
   ·have H4:=al (ab abt (ab iI hg4));clear abt iI hg4
    gi_wp2
    refine dj (du rfl _ _ _) rfl ?_;obtain⟨Vi,iI,hg4⟩:=H4.o;obtain⟨-,-,-,hpre,-,-,hg⟩:=HR.o;exact⟨⟨_,rfl⟩,.inr ⟨pre++[p],U',⟨tl,by rw[<-hpre];simp⟩,Vi,H3.o.2.1.x iI (fun j hj h=>(hg j h).elim .inl (fun h=>by omega)),hg.x hg4 H3.o.d⟩⟩
attribute [local go_sem] Oper.semAt_some
def Fy(k:List UInt8):Value:=sd k
def X8(x:Pr):Value:=Fy (x.1.drop 8)
def CX(a V M m:Nat)(xs:List Pr)(U:Nat->Prop)(W:World):Prop:=
 ∃v,W.heap[V]?=some (.cells #[v] 122 (0,0))/\W.heap[M]?=some (td (m:Int))/\W.ownsRow a 9 1 v xs.length (xs.map X8)/\(∀k,U k↔k=V\/k=M\/v.ownBlock=some k)/\xs.length<=m/\V<a/\M<a/\V≠M/\a<=W.heap.size
def TU(b V M m:Nat)(c:Code)(xs:List Pr)(U:Nat->Prop)(W:World):Prop:=c=.exit 0/\ ∃a x,xs=a++[x]/\a.length=m/\CX b V M m a U W
theorem CX.lC{n V M m:Nat}{Bs:Nat->Prop}:ib Bs (CX n V M m):=by
 refine⟨?_,?_⟩
 ·rintro g U A ⟨v,d,c,e,a,-⟩ k b;rcases(a k).1 b with rfl|rfl|h
  ·exact aP d
  ·exact aP c
  ·exact(e.lt k h).2
 ·rintro g U A B S ⟨v,d,c,e,a,p,j,i,k,l⟩ b f;exact⟨v,b.heap d (fun h=>(f V h).2 ((a V).2 (.inl rfl))),b.heap c (fun h=>(f M h).2 ((a M).2 (.inr (.inl rfl)))),aQ e b (fun q o h=>(f q h).2 ((a q).2 (.inr (.inr o)))),a,p,j,i,k,dp l b.size⟩
theorem TU.lC{g V M m:Nat}{Bs:Nat->Prop}(c:Code):ib Bs (TU g V M m c):=by
 refine⟨?_,?_⟩
 ·rintro b U A ⟨-,a,x,-,-,j⟩ k d;exact(CX.lC (Bs:=Bs)).1 _ _ _ j k d
 ·rintro b U A B S ⟨i,a,x,e,d,j⟩ f h;exact⟨i,a,x,e,d,(CX.lC (Bs:=Bs)).2 _ _ _ _ _ j f h⟩
theorem Tryz.Qn:(prog.info? 9).map (fun i=>(i.zero,i.size,i.bytes))=some (some (.string ⟨#[]⟩),1,16):=by kernel_rfl
def Bo(ks:List (List UInt8))(w:World)(e:Ending)(w':World):Prop:=
 ∃A c,e=.returned (.tuple #[.slice A ks.length c,rv 0])/\w'.ownsRow w.heap.size 9 1 (.slice A ks.length c) ks.length (ks.map Fy)/\Below w.heap.size w w'
theorem TV{c:Nat}{l:az}(h:dK l)(b:RowsFit l)(e: ∀q∈l,1<=q.1.length/\q.1.length<=16):abq (sA c l):=by intro p d;obtain⟨q,a,rfl⟩:=eh.1 ((fh c h b).mem_iff.1 d);exact⟨q.2.aL c,q.1,b q a c,e q a,rfl⟩
theorem yj(w:World)(T o:Nat)(most:Int)(l:az)(F:Nat->Nat->Prop)(c m:Nat)(lo hi:Int)(h:bK w T most o l F)(j: ∀r Z,F r Z->r<w.heap.size)(i:c<4)(d:I6 lo)(e:I6 hi)(f:lo<=hi)(g:m<=100000):
  Calls prog 201 #[.pointer (some ⟨T,0,none⟩),.int .i64 (c:Int),.int .i64 lo,.int .i64 hi,.int .i64 (m:Int)] w (Bo ((cO c lo hi l).take m) w):=by
 obtain⟨b,a⟩:=rk w (.cells #[.int .i64 (m:Int)] 3);have H:=al (ab h (ab j (ab d (ab e (ab f (ab g i))))));have n: ¬(c:Int)<0:=by omega
 have s: ¬(4:Int)<=(c:Int):=by omega
 have u: ¬(m:Int)<0:=by omega
 clear h j d e f g i;refine oz func201 rfl ?_;simp only[ntmps201,nw,jj,nF,Nat.reduceAdd,Nat.reduceSub,Array.replicate_succ,Array.replicate_zero,List.push_toArray,List.append_toArray,fm,nh];go_upto_region 1 with fail;generalize w.alloc (.cells #[.int .i64 (m:Int)] 3)=e at b a⊢;obtain⟨M,d⟩:=rl (w.heap.size);rw[d]at a⊢;have HM:=al (ab d (ab b a));clear d b a;go_wp2_with fail;refine(Mo e lo hi H.o.d.1 H.o.t.1 H.o.q.1).m ?_;rintro e C ⟨rfl,a⟩;have i:=HM.o.2.1.x (a.m HM.o.2.1.size);have g:=qS a HM.o.d;have v:C.cell? ⟨M,0,none⟩=some (.int .i64 (m:Int)):=by simp[World.cell?,g]
 have fu:=al (ab i g);obtain⟨t,Fs,f,d,b,j,q,ac,k,p⟩:=H.o.1.below i;have HT:=al (ab f (ab d (ab b (ab j (ab k p)))));have K:=al (uh C T (t (c+1)) c H.o.q.d (f.ci (by have:=H.o.q.d;omega)));unfold lN at K;clear a i g f d b j q ac k p n s;go_wp2_with fail;refine K.o.m ?_;rintro e w3 ⟨rfl,rfl⟩;clear K;go_wp2_with fail;refine(Mq C (t (c+1)) (pfx lo) (DD hi) ?_).m ?_
 ·unfold DD;by_cases g:hi<9223372036854775807
  ·rw[fi g];right;rw[sy ⟨by have:=H.o.t.1.1;omega,by omega⟩ H.o.d.1];have:=H.o.q.1;omega
  ·rw[ff g];exact .inl rfl
 rintro e w4 ⟨X,rfl,i,q,a⟩;obtain⟨G,n⟩:=rk w4 (.cells #[.slice none 0 0] 122);have HC:=al (ab i (ab q a));clear i q a v u;go_upto_region 14 with fail;generalize w4.alloc (.cells #[.slice none 0 0] 122)=a at G n⊢;obtain⟨V,s⟩:=rl (w4.heap.size);rw[s]at n⊢
 have i:=al (show Below w.heap.size w a/\a.heap[V]?=some (.cells #[.slice none 0 0] 122 (0,0))/\a.heap[M]?=some (.cells #[.int .i64 (m:Int)] 3 (0,0))/\mU a X (t (c+1)) (pfx lo) (DD hi) (pfx lo)/\Below C.heap.size C a/\(w.heap.size=M/\M<X/\X<V)from by
  have q:Below C.heap.size C a:=HC.o.d.x (G.m HC.o.d.size);have u:=aP fu.o.2
  exact⟨fu.o.1.x (q.m fu.o.1.size),n,qS q fu.o.2,qS G HC.o.2.1,q,HM.o.1,by have:=HC.o.1;omega,by have:=aP HC.o.2.1;omega⟩)
 clear G n s;have HN:=al (IJ a X);unfold Bn at HN;go_wp2_with fail;refine HN.o.m ?_;rintro e s ⟨N,rfl,A,v,a⟩;have ap:=HT.o;obtain⟨f,d,b,j,k,p⟩:=ap;have q:c+1<5:=by have:=H.o.q.d;omega
 have B:Below C.heap.size C s:=i.o.q.1.x (a.m i.o.q.1.size);have D:fA l (c+1)=sA c l:=by unfold fA;rw[ff (by omega)];rfl
 have I:bM s (t (c+1)) o (sA c l) (Fs (c+1)):=by have:=(f.tree (c+1) q).below B;rwa[D]at this
 have u:mU s X (t (c+1)) (pfx lo) (DD hi) (pfx lo):=qS a i.o.t.1;have x: ∀r Z,Fs (c+1) r Z->r<w.heap.size:=fun r Z n=>H.o.2.1 r Z (k r Z ⟨c+1,q,n⟩);have L:=i.o.q.2;have z:=Fx s X (t (c+1)) o N (sA c l) (Fs (c+1)) (pfx lo) (DD hi) (pfx lo) u I (iW c l) (TV d b j) v (fun Z n=>by have:=x X Z n;omega) (by have:=aP i.o.2.1;omega);have E:=RA (c:=c) d b H.o.d.1 H.o.t.1
 have J:CX s.heap.size V M m [] (fun y=>y=V\/y=M\/(Value.slice none 0 0).ownBlock=some y) s:=
  ⟨.slice none 0 0,qS a i.o.2.1,qS a i.o.d.1,ea _ _ _ _,fun y=>Iff.rfl,dq _,by have:=aP i.o.2.1;have:=a.size;omega,by have:=aP i.o.d.1;have:=a.size;omega,by omega,b8 _⟩
 have r:=al (ab z (ab E (ab J (ab (i.o.1.x (a.m i.o.1.size)) (ab (aP v) (ab (aP u) (ab x (ab A (aP i.o.2.1)))))))));clear f d b j k p B D I u x L z E J A v a q;obtain⟨i0,d,f,b,a⟩:=ef Tryz.Qn;have K:=al (ab d (ab f (ab b a)));clear d f b a;go_wp2_with fail
 refine DZ (α:=Pr) (fun t Y=>t.setIfInBounds 17 (.pointer (some ⟨Y,0,none⟩))) (fun v=>.cells v.cells 273 (0,0)) rfl (enters_of func253 (by kernel_rfl) rfl) r.o.1 ?MU ?KO
  (CX s.heap.size V M m) (TU s.heap.size V M m) CX.lC TU.lC _ r.o.d.1 ?Jt ?fW ?hbody ?hdone ?oC
 case MU=>
  obtain⟨-,-,-,-,d,u,b,f,-⟩:=r.o;have k:=i.o.1.size;rintro y ((⟨Z,a⟩|rfl)|rfl)
  ·have:=b y Z a;omega
  ·exact d
  ·exact u
 case KO=>rintro x a' ⟨v,y,-,h⟩;exact⟨_,h⟩
 case Jt=>
  obtain⟨-,-,-,-,d,u,b,f,B⟩:=r.o;have k:=i.o.q.2;rintro y ((⟨Z,a⟩|rfl)|rfl) (e|e|e)
  ·have:=b y Z a;omega
  ·have:=b y Z a;omega
  ·cases e
  ·omega
  ·omega
  ·cases e
  ·omega
  ·omega
  ·cases e
 case fW=>
  rintro l0 x v W z ⟨v',I,-,p⟩ a;obtain rfl:v=_:=by injection p with p;injection p with p _
  have n:=af W (.cells #[.int .i64 v',.string ⟨I.toArray⟩] 273);have j:=a _ _ (b8 _) (an W (.cells #[.int .i64 v',.string ⟨I.toArray⟩] 273)) n;simp only[List.setIfInBounds_toArray,List.set_cons_zero,List.set_cons_succ]at j⊢;have q:=al j;clear a j n p
  gi_wp2
  exact q.o
 case hbody=>
  rintro l0 aa x v Y U W ⟨vs,d,u,b,f,k,B,E,z,O⟩ ⟨v',I,G,p⟩ D J;obtain rfl:v=_:=by injection p with p;injection p with p _
  obtain⟨A,q,rfl⟩:=ar b;obtain⟨n,L⟩:=rl (aa.length);rw[L]at d b f k;have zV:W.cell? ⟨V,0,none⟩=some (.slice A n q):=by simp[World.cell?,d]
  have fV:W.frozen? ⟨V,0,none⟩=false:=by simp[World.frozen?,d]
  have zM:W.cell? ⟨M,0,none⟩=some (.int .i64 (m:Int)):=by simp[World.cell?,u]
  have zY:W.cell? ⟨Y,1,none⟩=some (.string ⟨I.toArray⟩):=by simp[World.cell?,D,Value.cells]
  have HJ:=al (show CX s.heap.size V M m aa U W from⟨.slice A n q,d,u,by rw[L];exact b,f,by rw[L];exact k,B,E,z,O⟩);have a:=al (ab G (ab d (ab b (ab f (ab L (ab O (ab u (ab k (ab B (ab E z))))))))));simp only[List.setIfInBounds_toArray,List.set_cons_zero,List.set_cons_succ];clear d u b f k B E z O G p D J L;by_cases g:n=m
  ·have P:(n:Int)=(m:Int):=by omega
   have HG:=al (ab g trivial);clear g
   gi_wp2
   exact⟨U,⟨rfl,aa,x,rfl,by rw[a.o.q.1,HG.o.1],HJ.o⟩,oT _ _,Grow.refl _ _⟩
  ·have P: ¬(n:Int)=(m:Int):=by omega
   have HG:=al (ab g trivial);have J:n<100000:=by have:=a.o.q.t.1;have:=H.o.q.2.1;omega
   have D:=af W (.cells #[.string ⟨I.toArray⟩] 9);have p:=al (ab (eb (an W (.cells #[.string ⟨I.toArray⟩] 9))) (ab (aQ a.o.d.1 (ri D) (fun _ _ h=>h)) (ab D J)));clear g D J
   gi_wp2_with (gi_at_builtin;go_loud (refine wpListIn_append_own_at _ rfl _ _ 122 rfl s.heap.size 9 i0 (.string ⟨#[]⟩) 1 16 underlying122 K.o.1 K.o.2.1 K.o.d.1 K.o.t rfl (by decide) (.slice A n q) n _ rfl p.o.2.1 ⟨W.heap.size,0,none⟩ 1 1 [.string ⟨I.toArray⟩] rfl rfl p.o.1 (by simp[Value.oneCell']) (by have:=p.o.t;unfold maxLen;omega) (by have:=p.o.t;omega) (by have:=a.o.q.2.1;have:=p.o.d.1.size;omega) ?_);intro v2 J R Q _ D;obtain⟨A2,ad,rfl⟩:=ar R;have S:=(Only.of_grownBy Q).heap (qS p.o.d.1 a.o.2.1) (fun e=>by have:=(a.o.d.1.lt V e).1;have:=a.o.q.q.1;omega);have m7:=(Only.of_grownBy Q).heap (qS p.o.d.1 a.o.q.d.1) (fun e=>by have:=(a.o.d.1.lt M e).1;have:=a.o.q.q.2.1;omega);have q0:J.cell? ⟨V,0,none⟩=some (.slice A n q):=(by simp[World.cell?,S]);have q1:J.frozen? ⟨V,0,none⟩=false:=(by simp[World.frozen?,S]);have HO:=al (ab R (ab Q (ab D (ab S m7))));clear R Q D S m7)
   obtain⟨R,Q,D,S,m7⟩:=HO.o;obtain⟨G,-,b,f,L,O,-,k,B,E,z⟩:=a.o;have am:Only (fun y=>U y) W J:=(oS p.o.d.1 _).x (Only.of_grownBy Q) (fun y _ e=>(f y).2 (.inr (.inr e)));refine⟨fun y=>y=V\/y=M\/(Value.slice A2 (n+1) ad).ownBlock=some y,⟨.slice A2 (n+1) ad,by have:=dd J V 0 _ _ (.slice A2 (n+1) ad) S;simpa using this,(bg J V 0 _).heap m7 (fun e=>z e.symm),?_,fun y=>Iff.rfl,?_,B,E,z,?_⟩,am.x (bg J V 0 _) (fun y _ e=>(f y).2 (.inl e)),?_⟩
   ·rw[gk,L,ix,show[x].map X8=[.string ⟨I.toArray⟩] by simp[X8,Fy,G,ov]];exact aQ R (bg J V 0 _) (fun g P e=>by have:=(R.lt g P).1;omega)
   ·rw[gk,L];have:=HG.o.1;simp;omega
   ·have:=am.size;show s.heap.size<=(J.setCell _ _).heap.size;simp[World.setCell];omega
   ·rintro y (e|e|e)
    ·exact .inl ((f y).2 (.inl e))
    ·exact .inl ((f y).2 (.inr (.inl e)))
    ·rcases D with D|D
     ·exact .inl ((f y).2 (.inr (.inr (D▸e))))
     ·rw[D]at e;have:=p.o.d.1.size;injection e with e;exact .inr (by omega)
 case hdone=>
  rintro D Y U W R S I ⟨v,d,u,b,f,k,B,E,z,O⟩ Q j;obtain⟨A,q,rfl⟩:=ar b;have zV:W.cell? ⟨V,0,none⟩=some (.slice A Y.length q):=by simp[World.cell?,d]
  have n:(cO c lo hi l).take m=Y.map fun p=>p.1.drop 8:=by
   unfold cO;rw[<-r.o.2.1,gE]
   ·rw[I];rfl
   ·rw[eS];show((cU (pfx lo) (sA c l)).takeWhile (jO (DD hi))).length<=m;rw[<-I];exact k
  obtain⟨J,a⟩:=rm (Y);rw[<-a]at b k n zV;clear d I a;have d:=trivial
  have L:Below w.heap.size w W:=r.o.t.1.x (Q.aI r.o.t.1.size (fun y j e=>by
   have Z:=i.o.q.2;rcases e with(e|e|e)|e
   ·omega
   ·omega
   ·cases e
   ·omega))
  have a:=al (ab b (ab j (ab L (ab n (ab R r.o.t.1.size)))));clear d u b f k B E z O Q j L n R S;go_wp2_with fail;refine kG (v:=.tuple #[.slice A J.length q,.int .i64 0]) a.o.2.1 (by simp[results,Tryz.results201,go_sem]) ⟨A,q,?_,?_,?_⟩
  ·rw[a.o.t.1,eS]
  ·rw[a.o.t.1,eS,List.map_map];exact dF (ownsRow_putObj a.o.1 _ a.o.2.1 rfl) (fun g P=>by have:=(a.o.1.lt g P).1;have:=a.o.q.2;omega)
  ·exact a.o.d.1.x ((Only.putObj _ D _).aI a.o.d.1.size (fun y j e=>by have:=a.o.q;omega))
 case oC=>
  rintro D c0 aa U W R S I ⟨rfl,J,x,Y,ac,v,d,u,b,f,k,B,E,z,O⟩ Q j;obtain⟨A,q,rfl⟩:=ar b;have zV:W.cell? ⟨V,0,none⟩=some (.slice A J.length q):=by simp[World.cell?,d]
  have n:(cO c lo hi l).take m=J.map fun p=>p.1.drop 8:=by
   obtain⟨zs,p⟩:=I;have p:J++([x]++zs)=Ry (pfx lo) (DD hi) (sA c l):=by rw[<-lz,<-Y];exact p
   unfold cO;rw[<-r.o.2.1,<-p,ix,List.take_append_of_le_length (by simp;omega),gE (by simp;omega)]
  clear I Y ac
  have L:Below w.heap.size w W:=r.o.t.1.x (Q.aI r.o.t.1.size (fun y j e=>by
   have Z:=i.o.q.2;rcases e with(e|e|e)|e
   ·omega
   ·omega
   ·cases e
   ·omega))
  have a:=al (ab b (ab j (ab L (ab n (ab R r.o.t.1.size)))));clear d u b f k B E z O Q j L n R S;go_wp2_with fail;refine kG (v:=.tuple #[.slice A J.length q,.int .i64 0]) a.o.2.1 (by simp[results,Tryz.results201,go_sem]) ⟨A,q,?_,?_,?_⟩
  ·rw[a.o.t.1,eS]
  ·rw[a.o.t.1,eS,List.map_map];exact dF (ownsRow_putObj a.o.1 _ a.o.2.1 rfl) (fun g P=>by have:=(a.o.1.lt g P).1;have:=a.o.q.2;omega)
  ·exact a.o.d.1.x ((Only.putObj _ D _).aI a.o.d.1.size (fun y j e=>by have:=a.o.q;omega))
end Go.Proofs.YtehccbdajiiaaaaGreatDoor
