import Derived.Test.YtehccbdajiiaaaaGreatDoorS26
import Derived.Test.YtehccbdajiiaaaaGreatDoorS28
import Derived.Maps.OwnIn
namespace Go.Proofs.YtehccbdajiiaaaaGreatDoor
open Go.Proofs.Tryz
set_option maxRecDepth 100000
set_option maxHeartbeats 16000000
open Go.RowKit
def M9(w:World)(X:Nat):List UInt8:=match w.cell? ⟨X,3,none⟩with
 |some (.string s)=>s.data.toList
 |_=>[]
theorem ng.M9{w:World}{X T:Nat}{lo hi a:List UInt8}(h:ng w X T lo hi a):M9 w X=a:=by unfold Proofs.YtehccbdajiiaaaaGreatDoor.M9;rw[h.cells.2.2.1]
def Yr(x:Pr)(args:Array Value):Prop:= ∃v k,x.1=dM v k/\args= #[.agg #[rm v,r7 k]]
def abv(l:List Pr):Prop:= ∀p∈l,∃v k,I6 v/\(1<=k.length/\k.length<=16)/\p.1=dM v k
def BS(X:Nat):Value:=.func (.func 233) #[rv X] #[]
theorem Jg(w:World)(X:Nat):Calls prog 232 #[BS X] w fun e a=>
  ∃N,e=.returned (.func (.func 253) #[] #[rv N])/\w.heap.size<=N/\a.heap[N]?=some (.cells #[BS X] 338 (0,0))/\Below w.heap.size w a:=by
 unfold BS;obtain⟨b,a⟩:=rj w (.cells #[.func (.func 233) #[rv X] #[]] 338);have H:=AD a b;clear a b;go_enter func232,ntmps232;go_wp2_with fail;go_ret
 exact⟨_,rfl,b8 _,H.o.1,H.o.2⟩
theorem Na{a hi:List UInt8}{l c:List Pr}{p:Pr}(d:Up l)(h:(dm a l).takeWhile (jV hi)=p::c):ub hi a l=some p/\(dm (p.1++[0]) l).takeWhile (jV hi)=c/\(dm (p.1++[0]) l).length<(dm a l).length/\p∈l:=by
 unfold ub;rw[pL]
 cases hr:dm a l with
 |nil=>rw[hr]at h;simp at h
 |cons q r=>
  rw[hr]at h;rw[List.takeWhile_cons]at h;split at h
  ·rename_i f;injection h with g e;subst g;have b:=AL d hr;refine⟨by simp[f],by rw[b];exact e,by rw[b];simp,tv (key:=a) (by rw[hr];simp)⟩
  ·cases h
theorem QE{a hi:List UInt8}{l:List Pr}(h:(dm a l).takeWhile (jV hi)=[]):ub hi a l=none:=by
 unfold ub;rw[pL]
 cases hr:dm a l with
 |nil=>rfl
 |cons q r=>
  rw[hr,List.takeWhile_cons]at h;split at h
  ·cases h
  ·rename_i b;simp[b]
theorem FV(w:World)(X T o N:Nat)(l:List Pr)(F:Nat->Nat->Prop)(lo hi lT:List UInt8)(hc:ng w X T lo hi lT)(ht:bM w T o l F)(hu:Up l)(hE:abv l)(hN:w.heap[N]?=some (.cells #[BS X] 338 (0,0)))
  (hXF: ∀q,¬F X q) (hXN:X≠N):
  Uz prog 253 #[.pointer (some ⟨N,0,none⟩)] (fun _ x args _ _=>Yr x args) (fun k=>(∃q,F k q)\/k=N) (fun k=>k=X) (fun xs=>xs=(dm lT l).takeWhile (jV hi)) (fun pre=>pre<+:(dm lT l).takeWhile (jV hi)) w:=by
 intro l0 J Jx W U0 hJ qH hag mA h0 hY;have hc1:ng W X T lo hi lT:=hag.heap hc (fun h=>h);have HF:=al (ab hu (ab hE (ab hXF hXN)));have HJ:=al (ab hJ (ab mA hY));have H0:=al (ab (ht.dC hag (fun _ _ _ h=>h)) (ab (hag.heap hN (fun h=>h)) (aM hc1)));have HS:=al (show ∃(pre tl:List Pr) (at_:List UInt8) (U:Nat->Prop),ng W X T lo hi at_/\(dm at_ l).takeWhile (jV hi)=tl/\pre++tl=(dm lT l).takeWhile (jV hi)/\J pre U W/\Only (fun k=>U0 k\/k=X) W W/\Grow W U0 U from⟨[],_,lT,U0,hc1,rfl,rfl,h0,oE _ _,Grow.refl _ _⟩);clear hu hE hXF hXN hJ mA hY hag ht hN hc h0 hc1;refine callsIn_of_wp func253 rfl trivial ?_ rfl;simp only[ntmps253,lz,gn,lp,Nat.reduceAdd,Nat.reduceSub,Array.replicate_succ,Array.replicate_zero,List.push_toArray,List.append_toArray,fj,lE]
 gi_wp2
 gi_loopw [] (fun wr=> ∃(pre tl:List Pr) (at_:List UInt8) (U:Nat->Prop),ng wr X T lo hi at_/\(dm at_ l).takeWhile (jV hi)=tl/\pre++tl=(dm lT l).takeWhile (jV hi)/\J pre U wr/\Only (fun k=>U0 k\/k=X) W wr/\Grow W U0 U)
  (fun wr=>(dm (M9 wr X) l).length)
 case atStart=>exact HS.o
 case round=>
  obtain⟨pre,tl,at_,U,hcw,htl,hpre,hJs,ho,hg⟩:=hrel;have htr:bM wr T o l F:=H0.o.1.dC ho (fun b q hb e=>e.elim (HJ.o.2.1 b (.inl (.inl ⟨q,hb⟩))) (fun e=>HF.o.d.1 q (e▸hb)));have hN:=ho.heap H0.o.2.1 (fun e=>e.elim (HJ.o.2.1 N (.inl (.inr rfl))) (fun e=>HF.o.t e.symm));have c9:wr.cell? ⟨N,0,none⟩=some (.func (.func 233) #[.pointer (some ⟨X,0,none⟩)] #[]):=by simp[World.cell?,hN,BS]
  have HX:=al (Jd wr X T o l F lo hi at_ hcw htr (fun p hp=>by
   obtain⟨v,k,-,h2,h3⟩:=HF.o.2.1 p hp;rw[h3];simp[dM,cu]
   omega))
  have hen:=enters_of func233 (by kernel_rfl) rfl;have HR:=al (ab hcw (ab htr (ab htl (ab hpre (ab hJs (ab ho hg))))));have hXU: ¬U X:=fun h=>(hg X h).elim (HJ.o.2.1 X (.inr rfl)) (fun h=>by have:=H0.o.d;omega);have HU:=al hXU;clear hcw htr hN
  cases tl with
  |nil=>
   rw[QE htl]at HX;clear htl hpre hJs ho hg hXU
   gi_wp2
   refine⟨trivial,?_⟩;refine(callsIn_wide.2 HX.o).m ?_;rintro e w1 ⟨rfl,hb1⟩;have HB:=al hb1;clear hb1 c9
   gi_wp2
   refine dj (du rfl _ _ _) rfl ?_;obtain⟨-,-,-,hpre,hJs,ho,hg⟩:=HR.o;rw[fs]at hpre;exact⟨⟨_,rfl⟩,.inl ⟨pre,U,hpre,HJ.o.1.2 _ _ _ _ _ hJs (qS HB.o) (fun _ h=>h.elim),ho.x (oB HB.o _) (fun _ _ h=>h),hg⟩⟩
  |cons p tl=>
   obtain⟨q1,q2,q3,q4⟩:=Na HF.o.1 htl;rw[q1]at HX;obtain⟨v,k,hv,hk,hpk⟩:=HF.o.2.1 p q4;have HP:=al (ab q2 (ab q3 (ab hv (ab hk hpk))));clear htl hpre hJs ho hg hXU q1 q2 q3 q4 hv hk
   gi_wp2
   refine⟨trivial,?_⟩;refine(callsIn_wide.2 HX.o).m ?_;rintro e w1 ⟨rfl,abw,je⟩;have H1:=al (ab abw je);rw[hpk];clear abw je c9 HX hpk
   gi_wp2_with (refine⟨trivial,?_⟩;gi_at_call 254;refine(callsIn_wide.2 (Jc w1 v k HP.o.d.1 HP.o.t.1)).m ?_;rintro e w2 ⟨rfl,hb2⟩)
   have hb3:=hb2.x ((ae w2 (.cells #[.int .i64 v,.string ⟨k.toArray⟩] 273)).m hb2.size);generalize w2.alloc (.cells #[.int .i64 v,.string ⟨k.toArray⟩] 273)=w3 at hb3⊢;have hJ3:J pre U w3:=HJ.o.1.2 _ _ _ _ _ (HJ.o.1.2 _ _ _ _ _ HR.o.q.1 H1.o.2 (fun j e=>⟨.inr e,fun hu=>HU.o (e▸hu)⟩)) (qS hb3) (fun _ h=>h.elim)
   have H3:=al (show ng w3 X T lo hi (p.1++[0])/\Only (fun k=>U0 k\/k=X) W w3/\W.heap.size<=w3.heap.size from
    ⟨qt hb3 H1.o.1,(HR.o.q.2.1.x H1.o.2 (fun _ _ e=>.inr e)).x (oB hb3 _) (fun _ _ h=>h),by have:=HR.o.q.2.1.size;have:=H1.o.2.size;have:=hb3.size;omega⟩)
   clear hb2 hb3;obtain⟨fn,tmps,assign,body,hy,hRR⟩:=HJ.o.d pre p _ U _ hJ3 ⟨v,k,HP.o.q,rfl⟩;rw[hy];refine⟨fun h=>by simp[Fence.wide]at h,(nX hRR).m ?_⟩;clear hJ3 hy;rintro e w4 (⟨rfl,U',Wm,lX,hg4⟩|⟨rfl,U',abx,lX,hg4⟩)
   ·have H4:=al (ab Wm (ab lX hg4));clear Wm lX hg4
    gi_wp2
    go_roundw
    case rel=>obtain⟨Wm,lX,hg4⟩:=H4.o;obtain⟨-,-,-,hpre,-,-,hg⟩:=HR.o;exact⟨pre++[p],tl,p.1++[0],U',lX.heap H3.o.1 HU.o,HP.o.1,by rw[<-hpre];simp,Wm,H3.o.2.1.x lX (fun j hj h=>(hg j h).elim .inl (fun h=>by omega)),hg.x hg4 H3.o.d⟩
    case measure=>have h4:ng w4 X T lo hi (p.1++[0]):=H4.o.2.1.heap H3.o.1 HU.o;rw[h4.M9,HR.o.1.M9];exact HP.o.2.1
   ·have H4:=al (ab abx (ab lX hg4));clear abx lX hg4
    gi_wp2
    refine dj (du rfl _ _ _) rfl ?_;obtain⟨Wm,lX,hg4⟩:=H4.o;obtain⟨-,-,-,hpre,-,-,hg⟩:=HR.o;exact⟨⟨_,rfl⟩,.inr ⟨pre++[p],U',⟨tl,by rw[<-hpre];simp⟩,Wm,H3.o.2.1.x lX (fun j hj h=>(hg j h).elim .inl (fun h=>by omega)),hg.x hg4 H3.o.d⟩⟩
attribute [local go_sem] Oper.semAt_some
def FW(k:List UInt8):Value:=r7 k
def Yt(x:Pr):Value:=FW (x.1.drop 8)
def Dm(a V M m:Nat)(xs:List Pr)(U:Nat->Prop)(W:World):Prop:=
 ∃v,W.heap[V]?=some (.cells #[v] 122 (0,0))/\W.heap[M]?=some (td (m:Int))/\W.ownsRow a 9 1 v xs.length (xs.map Yt)/\(∀k,U k↔k=V\/k=M\/v.ownBlock=some k)/\xs.length<=m/\V<a/\M<a/\V≠M/\a<=W.heap.size
def UA(b V M m:Nat)(c:Code)(xs:List Pr)(U:Nat->Prop)(W:World):Prop:=c=.exit 0/\ ∃a x,xs=a++[x]/\a.length=m/\Dm b V M m a U W
theorem Dm.jl{l V M m:Nat}{Bs:Nat->Prop}:iJ Bs (Dm l V M m):=by
 refine⟨?_,?_⟩
 ·rintro g U A ⟨v,c,e,f,a,-⟩ k b;rcases(a k).1 b with rfl|rfl|h
  ·exact aM c
  ·exact aM e
  ·exact(f.lt k h).2
 ·rintro g U A B S ⟨v,c,e,f,a,i,n,o,j,k⟩ b d;exact⟨v,b.heap c (fun h=>(d V h).2 ((a V).2 (.inl rfl))),b.heap e (fun h=>(d M h).2 ((a M).2 (.inr (.inl rfl)))),aJ f b (fun q p h=>(d q h).2 ((a q).2 (.inr (.inr p)))),a,i,n,o,j,dd k b.size⟩
theorem UA.jl{e V M m:Nat}{Bs:Nat->Prop}(c:Code):iJ Bs (UA e V M m c):=by
 refine⟨?_,?_⟩
 ·rintro b U A ⟨-,a,x,-,-,j⟩ k d;exact(Dm.jl (Bs:=Bs)).1 _ _ _ j k d
 ·rintro b U A B S ⟨d,a,x,f,h,j⟩ i g;exact⟨d,a,x,f,h,(Dm.jl (Bs:=Bs)).2 _ _ _ _ _ j i g⟩
theorem Tryz.QF:(prog.info? 9).map (fun i=>(i.zero,i.size,i.bytes))=some (some (.string ⟨#[]⟩),1,16):=by kernel_rfl
def BU(ks:List (List UInt8))(w:World)(e:Ending)(w':World):Prop:=
 ∃A c,e=.returned (.tuple #[.slice A ks.length c,rm 0])/\w'.ownsRow w.heap.size 9 1 (.slice A ks.length c) ks.length (ks.map FW)/\Below w.heap.size w w'
theorem UB{c:Nat}{l:az}(h:dR l)(a:RowsFit l)(d: ∀q∈l,1<=q.1.length/\q.1.length<=16):abv (tu c l):=by intro p e;obtain⟨q,b,rfl⟩:=ep.1 ((fx c h a).mem_iff.1 e);exact⟨q.2.aO c,q.1,a q b c,d q b,rfl⟩
theorem yH(w:World)(T o:Nat)(most:Int)(l:az)(F:Nat->Nat->Prop)(c m:Nat)(lo hi:Int)(h:bz w T most o l F)(i: ∀y Z,F y Z->y<w.heap.size)(g:c<4)(f:I6 lo)(d:I6 hi)(e:lo<=hi)(j:m<=100000):
  Calls prog 201 #[.pointer (some ⟨T,0,none⟩),.int .i64 (c:Int),.int .i64 lo,.int .i64 hi,.int .i64 (m:Int)] w (BU ((cU c lo hi l).take m) w):=by
 obtain⟨b,a⟩:=rj w (.cells #[.int .i64 (m:Int)] 3);have H:=al (ab h (ab i (ab f (ab d (ab e (ab j g))))));have q: ¬(c:Int)<0:=by omega
 have n: ¬(4:Int)<=(c:Int):=by omega
 have u: ¬(m:Int)<0:=by omega
 clear h i f d e j g;refine fX func201 rfl ?_;simp only[ntmps201,lz,gn,lp,Nat.reduceAdd,Nat.reduceSub,Array.replicate_succ,Array.replicate_zero,List.push_toArray,List.append_toArray,fj,lE];go_upto_region 1 with fail;generalize w.alloc (.cells #[.int .i64 (m:Int)] 3)=e at b a⊢;obtain⟨M,d⟩:=rk (w.heap.size);rw[d]at a⊢;have HM:=al (ab d (ab b a));clear d b a;go_wp2_with fail;refine(M3 e lo hi H.o.d.1 H.o.t.1 H.o.q.1).m ?_;rintro e C ⟨rfl,a⟩;have g:=HM.o.2.1.x (a.m HM.o.2.1.size);have f:=qt a HM.o.d;have r:C.cell? ⟨M,0,none⟩=some (.int .i64 (m:Int)):=by simp[World.cell?,f]
 have dh:=al (ab g f);obtain⟨t,Fs,i,d,b,k,s,ac,j,p⟩:=H.o.1.below g;have HT:=al (ab i (ab d (ab b (ab k (ab j p)))));have J:=al (uN C T (t (c+1)) c H.o.q.d (i.ci (by have:=H.o.q.d;omega)));unfold lK at J;clear a g f i d b k s ac j p q n;go_wp2_with fail;refine J.o.m ?_;rintro e w3 ⟨rfl,rfl⟩;clear J;go_wp2_with fail;refine(M4 C (t (c+1)) (pfx lo) (En hi) ?_).m ?_
 ·unfold En;by_cases g:hi<9223372036854775807
  ·rw[ff g];right;rw[tq ⟨by have:=H.o.t.1.1;omega,by omega⟩ H.o.d.1];have:=H.o.q.1;omega
  ·rw[fb g];exact .inl rfl
 rintro e w4 ⟨X,rfl,q,f,a⟩;obtain⟨E,n⟩:=rj w4 (.cells #[.slice none 0 0] 122);have HC:=al (ab q (ab f a));clear q f a r u;go_upto_region 14 with fail;generalize w4.alloc (.cells #[.slice none 0 0] 122)=a at E n⊢;obtain⟨V,r⟩:=rk (w4.heap.size);rw[r]at n⊢
 have f:=al (show Below w.heap.size w a/\a.heap[V]?=some (.cells #[.slice none 0 0] 122 (0,0))/\a.heap[M]?=some (.cells #[.int .i64 (m:Int)] 3 (0,0))/\ng a X (t (c+1)) (pfx lo) (En hi) (pfx lo)/\Below C.heap.size C a/\(w.heap.size=M/\M<X/\X<V)from by
  have q:Below C.heap.size C a:=HC.o.d.x (E.m HC.o.d.size);have s:=aM dh.o.2
  exact⟨dh.o.1.x (q.m dh.o.1.size),n,qt q dh.o.2,qt E HC.o.2.1,q,HM.o.1,by have:=HC.o.1;omega,by have:=aM HC.o.2.1;omega⟩)
 clear E n r;have HN:=al (Jg a X);unfold BS at HN;go_wp2_with fail;refine HN.o.m ?_;rintro e u ⟨N,rfl,B,x,a⟩;have ap:=HT.o;obtain⟨i,d,b,k,j,p⟩:=ap;have r:c+1<5:=by have:=H.o.q.d;omega
 have A:Below C.heap.size C u:=f.o.q.1.x (a.m f.o.q.1.size);have D:fc l (c+1)=tu c l:=by unfold fc;rw[fb (by omega)];rfl
 have I:bM u (t (c+1)) o (tu c l) (Fs (c+1)):=by have:=(i.tree (c+1) r).below A;rwa[D]at this
 have v:ng u X (t (c+1)) (pfx lo) (En hi) (pfx lo):=qt a f.o.t.1;have s: ∀y Z,Fs (c+1) y Z->y<w.heap.size:=fun y Z n=>H.o.2.1 y Z (j y Z ⟨c+1,r,n⟩);have L:=f.o.q.2;have z:=FV u X (t (c+1)) o N (tu c l) (Fs (c+1)) (pfx lo) (En hi) (pfx lo) v I (iY c l) (UB d b k) x (fun Z n=>by have:=s X Z n;omega) (by have:=aM f.o.2.1;omega);have G:=SR (c:=c) d b H.o.d.1 H.o.t.1
 have K:Dm u.heap.size V M m [] (fun y=>y=V\/y=M\/(Value.slice none 0 0).ownBlock=some y) u:=
  ⟨.slice none 0 0,qt a f.o.2.1,qt a f.o.d.1,dy _ _ _ _,fun y=>Iff.rfl,dq _,by have:=aM f.o.2.1;have:=a.size;omega,by have:=aM f.o.d.1;have:=a.size;omega,by omega,b8 _⟩
 have q:=al (ab z (ab G (ab K (ab (f.o.1.x (a.m f.o.1.size)) (ab (aM x) (ab (aM v) (ab s (ab B (aM f.o.2.1)))))))));clear i d b k j p A D I v s L z G K B x a r;obtain⟨i0,i,a,d,b⟩:=eh Tryz.QF;have J:=al (ab i (ab a (ab d b)));clear i a d b;go_wp2_with fail
 refine FU (α:=Pr) (fun t Y=>t.setIfInBounds 17 (.pointer (some ⟨Y,0,none⟩))) (fun v=>.cells v.cells 273 (0,0)) rfl (enters_of func253 (by kernel_rfl) rfl) q.o.1 ?Ai ?M7
  (Dm u.heap.size V M m) (UA u.heap.size V M m) Dm.jl UA.jl _ q.o.d.1 ?wC ?cF ?hbody ?hdone ?lN
 case Ai=>
  obtain⟨-,-,-,-,d,s,b,i,-⟩:=q.o;have j:=f.o.1.size;rintro y ((⟨Z,a⟩|rfl)|rfl)
  ·have:=b y Z a;omega
  ·exact d
  ·exact s
 case M7=>rintro x a' ⟨v,y,-,h⟩;exact⟨_,h⟩
 case wC=>
  obtain⟨-,-,-,-,d,s,b,i,z⟩:=q.o;have j:=f.o.q.2;rintro y ((⟨Z,a⟩|rfl)|rfl) (e|e|e)
  ·have:=b y Z a;omega
  ·have:=b y Z a;omega
  ·cases e
  ·omega
  ·omega
  ·cases e
  ·omega
  ·omega
  ·cases e
 case cF=>
  rintro l0 x v W K ⟨v',L,-,p⟩ a;obtain rfl:v=_:=by injection p with p;injection p with p _
  have n:=ae W (.cells #[.int .i64 v',.string ⟨L.toArray⟩] 273);have k:=a _ _ (b8 _) (an W (.cells #[.int .i64 v',.string ⟨L.toArray⟩] 273)) n;simp only[List.setIfInBounds_toArray,List.set_cons_zero,List.set_cons_succ]at k⊢;have r:=al k;clear a k n p
  gi_wp2
  exact r.o
 case hbody=>
  rintro l0 aa x v Y U W ⟨vs,d,s,b,i,j,z,G,B,I⟩ ⟨v',L,E,p⟩ D O;obtain rfl:v=_:=by injection p with p;injection p with p _
  obtain⟨A,r,rfl⟩:=ai b;obtain⟨n,K⟩:=rk (aa.length);rw[K]at d b i j;have zV:W.cell? ⟨V,0,none⟩=some (.slice A n r):=by simp[World.cell?,d]
  have fV:W.frozen? ⟨V,0,none⟩=false:=by simp[World.frozen?,d]
  have zM:W.cell? ⟨M,0,none⟩=some (.int .i64 (m:Int)):=by simp[World.cell?,s]
  have zY:W.cell? ⟨Y,1,none⟩=some (.string ⟨L.toArray⟩):=by simp[World.cell?,D,Value.cells]
  have HJ:=al (show Dm u.heap.size V M m aa U W from⟨.slice A n r,d,s,by rw[K];exact b,i,by rw[K];exact j,z,G,B,I⟩);have a:=al (ab E (ab d (ab b (ab i (ab K (ab I (ab s (ab j (ab z (ab G B))))))))));simp only[List.setIfInBounds_toArray,List.set_cons_zero,List.set_cons_succ];clear d s b i j z G B I E p D O K;by_cases g:n=m
  ·have P:(n:Int)=(m:Int):=by omega
   have HG:=al (ab g trivial);clear g
   gi_wp2
   exact⟨U,⟨rfl,aa,x,rfl,by rw[a.o.q.1,HG.o.1],HJ.o⟩,oE _ _,Grow.refl _ _⟩
  ·have P: ¬(n:Int)=(m:Int):=by omega
   have HG:=al (ab g trivial);have O:n<100000:=by have:=a.o.q.t.1;have:=H.o.q.2.1;omega
   have D:=ae W (.cells #[.string ⟨L.toArray⟩] 9);have p:=al (ab (eb (an W (.cells #[.string ⟨L.toArray⟩] 9))) (ab (aJ a.o.d.1 (qS D) (fun _ _ h=>h)) (ab D O)));clear g D O
   gi_wp2_with (gi_at_builtin;go_loud (refine wpListIn_append_own_at _ rfl _ _ 122 rfl u.heap.size 9 i0 (.string ⟨#[]⟩) 1 16 underlying122 J.o.1 J.o.2.1 J.o.d.1 J.o.t rfl (by decide) (.slice A n r) n _ rfl p.o.2.1 ⟨W.heap.size,0,none⟩ 1 1 [.string ⟨L.toArray⟩] rfl rfl p.o.1 (by simp[Value.oneCell']) (by have:=p.o.t;unfold maxLen;omega) (by have:=p.o.t;omega) (by have:=a.o.q.2.1;have:=p.o.d.1.size;omega) ?_);intro v2 O R Q _ D;obtain⟨A2,ad,rfl⟩:=ai R;have S:=(Only.of_grownBy Q).heap (qt p.o.d.1 a.o.2.1) (fun e=>by have:=(a.o.d.1.lt V e).1;have:=a.o.q.q.1;omega);have m7:=(Only.of_grownBy Q).heap (qt p.o.d.1 a.o.q.d.1) (fun e=>by have:=(a.o.d.1.lt M e).1;have:=a.o.q.q.2.1;omega);have q0:O.cell? ⟨V,0,none⟩=some (.slice A n r):=(by simp[World.cell?,S]);have q1:O.frozen? ⟨V,0,none⟩=false:=(by simp[World.frozen?,S]);have HO:=al (ab R (ab Q (ab D (ab S m7))));clear R Q D S m7)
   obtain⟨R,Q,D,S,m7⟩:=HO.o;obtain⟨E,-,b,i,K,I,-,j,z,G,B⟩:=a.o;have am:Only (fun y=>U y) W O:=(oB p.o.d.1 _).x (Only.of_grownBy Q) (fun y _ e=>(i y).2 (.inr (.inr e)));refine⟨fun y=>y=V\/y=M\/(Value.slice A2 (n+1) ad).ownBlock=some y,⟨.slice A2 (n+1) ad,by have:=dp O V 0 _ _ (.slice A2 (n+1) ad) S;simpa using this,(bg O V 0 _).heap m7 (fun e=>B e.symm),?_,fun y=>Iff.rfl,?_,z,G,B,?_⟩,am.x (bg O V 0 _) (fun y _ e=>(i y).2 (.inl e)),?_⟩
   ·rw[gr,K,gR,show[x].map Yt=[.string ⟨L.toArray⟩] by simp[Yt,FW,E,oU]];exact aJ R (bg O V 0 _) (fun g P e=>by have:=(R.lt g P).1;omega)
   ·rw[gr,K];have:=HG.o.1;simp;omega
   ·have:=am.size;show u.heap.size<=(O.setCell _ _).heap.size;simp[World.setCell];omega
   ·rintro y (e|e|e)
    ·exact .inl ((i y).2 (.inl e))
    ·exact .inl ((i y).2 (.inr (.inl e)))
    ·rcases D with D|D
     ·exact .inl ((i y).2 (.inr (.inr (D▸e))))
     ·rw[D]at e;have:=p.o.d.1.size;injection e with e;exact .inr (by omega)
 case hdone=>
  rintro D S U W Q Y L ⟨v,d,s,b,i,j,z,G,B,I⟩ R k;obtain⟨A,r,rfl⟩:=ai b;have zV:W.cell? ⟨V,0,none⟩=some (.slice A S.length r):=by simp[World.cell?,d]
  have n:(cU c lo hi l).take m=S.map fun p=>p.1.drop 8:=by
   unfold cU;rw[<-q.o.2.1,fm]
   ·rw[L];rfl
   ·rw[fa];show((dm (pfx lo) (tu c l)).takeWhile (jV (En hi))).length<=m;rw[<-L];exact j
  obtain⟨K,a⟩:=rl (S);rw[<-a]at b j n zV;clear d L a;have d:=trivial
  have O:Below w.heap.size w W:=q.o.t.1.x (R.aH q.o.t.1.size (fun y k e=>by
   have Z:=f.o.q.2;rcases e with(e|e|e)|e
   ·omega
   ·omega
   ·cases e
   ·omega))
  have a:=al (ab b (ab k (ab O (ab n (ab Q q.o.t.1.size)))));clear d s b i j z G B I R k O n Q Y;go_wp2_with fail;refine jk (v:=.tuple #[.slice A K.length r,.int .i64 0]) a.o.2.1 (by simp[results,Tryz.results201,go_sem]) ⟨A,r,?_,?_,?_⟩
  ·rw[a.o.t.1,fa]
  ·rw[a.o.t.1,fa,List.map_map];exact dI (ownsRow_putObj a.o.1 _ a.o.2.1 rfl) (fun g P=>by have:=(a.o.1.lt g P).1;have:=a.o.q.2;omega)
  ·exact a.o.d.1.x ((Only.putObj _ D _).aH a.o.d.1.size (fun y k e=>by have:=a.o.q;omega))
 case lN=>
  rintro D c0 aa U W Q Y L ⟨rfl,K,x,S,ac,v,d,s,b,i,j,z,G,B,I⟩ R k;obtain⟨A,r,rfl⟩:=ai b;have zV:W.cell? ⟨V,0,none⟩=some (.slice A K.length r):=by simp[World.cell?,d]
  have n:(cU c lo hi l).take m=K.map fun p=>p.1.drop 8:=by
   obtain⟨zs,p⟩:=L;have p:K++([x]++zs)=SP (pfx lo) (En hi) (tu c l):=by rw[<-kh,<-S];exact p
   unfold cU;rw[<-q.o.2.1,<-p,gR,List.take_append_of_le_length (by simp;omega),fm (by simp;omega)]
  clear L S ac
  have O:Below w.heap.size w W:=q.o.t.1.x (R.aH q.o.t.1.size (fun y k e=>by
   have Z:=f.o.q.2;rcases e with(e|e|e)|e
   ·omega
   ·omega
   ·cases e
   ·omega))
  have a:=al (ab b (ab k (ab O (ab n (ab Q q.o.t.1.size)))));clear d s b i j z G B I R k O n Q Y;go_wp2_with fail;refine jk (v:=.tuple #[.slice A K.length r,.int .i64 0]) a.o.2.1 (by simp[results,Tryz.results201,go_sem]) ⟨A,r,?_,?_,?_⟩
  ·rw[a.o.t.1,fa]
  ·rw[a.o.t.1,fa,List.map_map];exact dI (ownsRow_putObj a.o.1 _ a.o.2.1 rfl) (fun g P=>by have:=(a.o.1.lt g P).1;have:=a.o.q.2;omega)
  ·exact a.o.d.1.x ((Only.putObj _ D _).aH a.o.d.1.size (fun y k e=>by have:=a.o.q;omega))
end Go.Proofs.YtehccbdajiiaaaaGreatDoor
