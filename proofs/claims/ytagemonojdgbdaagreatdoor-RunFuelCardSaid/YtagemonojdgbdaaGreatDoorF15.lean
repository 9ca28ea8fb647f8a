import Derived.Test.YtagemonojdgbdaaGreatDoorF05
import Derived.Test.YtagemonojdgbdaaGreatDoorF14
namespace Go.Proofs.YtagemonojdgbdaaGreatDoor
set_option maxRecDepth 100000
set_option maxHeartbeats 16000000
open Go.RowKit
theorem ed{w:World}{T:Nat}{a b c:Value}(h:w.heap[T]?=some (.cells #[a,b,c] 203 (0,0))):(w.cell? ⟨T,0,none⟩=some a/\w.cell? ⟨T,1,none⟩=some b/\w.cell? ⟨T,2,none⟩=some c)/\w.frozen? ⟨T,1,none⟩=false/\w.frozen? ⟨T,2,none⟩=false:=by simp[World.cell?,World.frozen?,h]
theorem Gg{w:World}{T:Nat}{a b c:Value}(h:w.heap[T]?=some (.cells #[a,b,c] 203 (0,0)))(x:Value):(w.setCell ⟨T,1,none⟩ x).heap[T]?=some (.cells #[a,x,c] 203 (0,0)):=by have:=dr w T 1 _ _ x h;simpa using this
theorem zq{w:World}{T:Nat}{a b c:Value}(h:w.heap[T]?=some (.cells #[a,b,c] 203 (0,0)))(x:Value):(w.setCell ⟨T,2,none⟩ x).heap[T]?=some (.cells #[a,b,x] 203 (0,0)):=by have:=dr w T 2 _ _ x h;simpa using this
theorem sS{w W9:World}{T o d r:Nat}{l:List Pr}{y:ND}{F K9:Nat->Nat->Prop}{p:Pr}{cnt:Int}(hup:Up l)(ho:2<=o)(eo:o<=16)(qf: ∀q,F T q)(_Xz:T<w.heap.size)
  (k9:W9.heap[T]?=some (.cells #[.int .i64 o,.int .i64 cnt,.pointer (some ⟨r,0,none⟩)] 203 (0,0))) (RQ:cnt=(ins p l).length) (hn:ay W9 d r y K9) (hK: ∀b q,K9 b q->F b q\/w.heap.size<=b) (OE: ∀q,¬K9 T q)
  (hwf:eX d o (if d=0 then 0 else 1) (2*o-1) y) (htl:ba d y=ins p l):bC W9 T o (ins p l) (fun b q=>F b q\/w.heap.size<=b):=by
 subst RQ;exact⟨d,r,y,K9,k9,hn,hwf,htl,by rw[mV];exact dR hup,⟨ho,eo⟩,hK,fun q=>.inl (qf q),OE⟩
theorem sU{p:Pr}{l:List Pr}(hup:Up l):(ins p l).length=if(look p.1 l).isSome then l.length else l.length+1:=by rw[mV,look_eq];exact jH hup
def K1(T o:Nat)(l:List Pr)(p:Pr)(F:Nat->Nat->Prop)(w:World)(e:Ending)(w':World):Prop:=
 e=.returned (.tuple #[.string ⟨((look p.1 l).getD []).toArray⟩,.bool (look p.1 l).isSome,.int .i64 0])/\bC w' T o (ins p l) (fun b q=>F b q\/w.heap.size<=b)/\OnlyC F w w'
theorem pE(w:World)(T o:Nat)(l:List Pr)(F:Nat->Nat->Prop)(p:Pr)(h:bC w T o l F)(hF: ∀b q,F b q->b<w.heap.size)(hk1:1<=p.1.length)(hk2:p.1.length<=64)(hv:p.2.length<=256)(hl:l.length<=1000000):
  Calls Tryz.prog 62 #[.pointer (some ⟨T,0,none⟩),.string ⟨p.1.toArray⟩,.string ⟨p.2.toArray⟩] w (K1 T o l p F w):=by
 obtain⟨d,r,x,KK,k0,hn,hwf,htl,hup,⟨ho,eo⟩,UX,qf,OE⟩:=h;obtain⟨⟨t0,-,t2⟩,-,-⟩:=ed k0;have tS:=ab t0 t2;have m1: ¬(256:Int)<(p.2.length:Int):=by omega
 have HC:=al (jm w T ⟨p.1.toArray⟩ (by exact hk1) (by exact hk2));have HA:=al (ab k0 (ab hn (ab hwf (ab htl (ab hup (ab ho (ab eo (ab UX (ab qf (ab OE (ab hF hl)))))))))));clear k0 hn hwf htl hup ho eo UX qf OE hF hl hk1 hk2 hv t0 t2;go_enter Tryz.func62,Tryz.ntmps62;go_wp2_with fail;refine HC.out.mono ?_;rintro e w1 ⟨rfl,hw1⟩;obtain rfl:w=w1:=hw1.symm;clear HC;go_upto_region 6 with fail;refine pb (S:=(fun W=>W.cell? ⟨T,0,none⟩=some (.int .i64 o)/\W.cell? ⟨T,2,none⟩=some (.pointer (some ⟨r,0,none⟩)))) (by kernel_rfl) tS (fun pt=>?_);generalize hW3:World.drew w=W3 at pt⊢;have HB:=al (show ay W3 d r x KK/\W3.heap[T]?=some (.cells #[.int .i64 o,.int .i64 l.length,.pointer (some ⟨r,0,none⟩)] 203 (0,0))/\Below w.heap.size w W3 from hW3▸⟨HA.out.2.1.below (aw _ _).drew,HA.out.1,(aw _ _).drew⟩);clear hW3 tS;refine aM [0,1,2,3,4,5,6,7,8,9,10] ?_
 iterate 11 (refine bX (v:=?_) (fun wS hSw=>?_) pt ?_;rotate_left;(obtain⟨s0,s1⟩:=hSw;go_simp;try with_reducible rfl);try simp only[ai,aj,ak,ar])
 refine aN ?_;refine aW 11 (fun K hK=>?_);go_simp;refine(KZ HA.out.2.2.2.2.2.1 HA.out.2.2.2.2.2.2.1 p d W3 r _ x KK HB.out.1 (fun b q hh=>cq (HA.out.2.2.2.2.2.2.2.2.2.2.1 b q (HA.out.2.2.2.2.2.2.2.1 b q hh)) HB.out.2.2.size) HA.out.2.2.1 (by rw[HA.out.2.2.2.1];exact HA.out.2.2.2.2.1)).mono ?_;rintro e wn ⟨rfl,Qx,how⟩;have HK:=al (ab Qx how);clear Qx how;rw[HA.out.2.2.2.1]
 try go_simp
 refine hK.out _ _ (dt pt HK.out.2 (HA.out.2.2.2.2.2.2.2.2.2.1 0) (HA.out.2.2.2.2.2.2.2.2.2.1 2)) ?_;clear hK K pt;intro pt
 try simp only[ai,aj,ak,ar]
 refine aM [12,13,14,15,16] ?_
 iterate 5 (refine bX (v:=?_) (fun wS hSw=>?_) pt ?_;rotate_left;(obtain⟨s0,s1⟩:=hSw;go_simp;try with_reducible rfl);try simp only[ai,aj,ak,ar])
 refine aN ?_;refine pf (by kernel_rfl) ?_ _;have HR:=al (show World.cell? wn ⟨T,0,none⟩=_/\_ from pt);clear pt;obtain⟨b0,hb0⟩: ∃b,(look p.1 l).isSome=b:=⟨_,rfl⟩;obtain⟨s0,hs0⟩: ∃s,(⟨((look p.1 l).getD []).toArray⟩:ByteArray)=s:=⟨_,rfl⟩;rw[hs0,hb0];have lV:=al (ab hs0 hb0);clear hs0 hb0;have k4:=HK.out.2.heap HB.out.2.1 HA.out.2.2.2.2.2.2.2.2.2.1;have RS:OnlyC F w wn:=(oE HB.out.2.2 F).trans HK.out.2 (fun b q _ hh=>HA.out.2.2.2.2.2.2.2.1 b q hh);have YM:=HK.out.1.bound
 cases b0 with
 |true=>
  have H9:=al (ab k4 (ab YM RS));clear k4 YM RS;go_upto_region 9 with fail;obtain⟨W9,YN⟩: ∃y,y=wn:=⟨_,rfl⟩;rw[<-YN]at H9⊢;have HW9:=al YN;clear YN;obtain⟨YK,YL,B6,H3,g1,-,g3,-⟩:=H9.out.2.1.base;obtain⟨A3,c3,e3,-⟩:=g3.slice;rw[fb]at e3;subst e3;obtain⟨n3,ln⟩: ∃y,(gp d x p o).ps.length=y:=⟨_,rfl⟩;rw[ln]at g1;obtain⟨⟨z3,-⟩,-,-⟩:=ae g1;obtain⟨⟨t0,-,t2⟩,-,tf⟩:=ed H9.out.1;have hput:=pS HA.out.2.2.2.2.2.1 p HA.out.2.2.1 (by rw[HA.out.2.2.2.1];exact HA.out.2.2.2.2.1);have KX:=hput.2.len.2;rw[ln]at KX;have fM:=al (ab hput ln);clear hput g1 g3 ln;have io:(2:Int)<=(o:Int):=by have:=HA.out.2.2.2.2.2.1;omega
  have io2:(o:Int)<=16:=by have:=HA.out.2.2.2.2.2.2.1;omega
  have Qy:T<w.heap.size:=oS HA.out.1;have lq:=al Qy;clear Qy;by_cases fc:2*o-1<n3
  ·have i3:2*(o:Int)-1<(n3:Int):=by omega
   have zo:=al fc;clear fc KX;go_quiet(fail)
   have RT: ∀X Y,World.cell? (((W9.drewN nq).alloc X).alloc Y) ⟨T,2,none⟩=some (.pointer (some ⟨r,0,none⟩))/\World.frozen? (((W9.drewN nq).alloc X).alloc Y) ⟨T,2,none⟩=false:=fun X Y=>by have hb:Below W9.heap.size W9 (((W9.drewN nq).alloc X).alloc Y):=((aG (aw W9.heap.size W9) nq).alloc (aq _) X).alloc (by simp) Y;have hk:=pw hb H9.out.1;exact⟨(ed hk).1.2.2,(ed hk).2.2⟩
   have RU:=RT (.cells #[.pointer (some ⟨r,0,none⟩)] 197) (.cells #[.slice none 0 0,.slice (some ⟨W9.heap.size,0,none⟩) 1 1] 201);obtain⟨hq2,YO⟩:=RU;clear RT;go_upto_region 11 with fail;clear hq2 YO;have hbW:Below W9.heap.size W9 (W9.drewN nq):=aG (aw _ _) nq;have zr:(W9.drewN nq).heap.size=W9.heap.size:=rfl;generalize W9.drewN nq=Wq at hbW zr⊢;have kS:=an Wq (.cells #[.pointer (some ⟨r,0,none⟩)] 197);have bS:=af Wq (.cells #[.pointer (some ⟨r,0,none⟩)] 197);have OG:(Wq.alloc (.cells #[.pointer (some ⟨r,0,none⟩)] 197)).heap.size=W9.heap.size+1:=by simp[zr]
   rw[zr]at kS;obtain⟨S,hS⟩: ∃y,W9.heap.size=y:=⟨_,rfl⟩;rw[hS]at kS OG⊢;generalize Wq.alloc (.cells #[.pointer (some ⟨r,0,none⟩)] 197)=wa at kS bS OG⊢;have kN:=an wa (.cells #[.slice none 0 0,.slice (some ⟨S,0,none⟩) 1 1] 201);have bN:=af wa (.cells #[.slice none 0 0,.slice (some ⟨S,0,none⟩) 1 1] 201);rw[OG]at kN;generalize wa.alloc (.cells #[.slice none 0 0,.slice (some ⟨S,0,none⟩) 1 1] 201)=wb at kN bN⊢;have Ee:Below W9.heap.size W9 wb:=(hbW.trans (bS.mono hbW.size)).trans (bN.mono (de hbW.size bS.size));have HZ:=al (ab hS (ab Ee (ab (pw bN kS) kN)));clear hbW zr kS bS OG kN bN hS Ee;have kT:=zq (pw HZ.out.2.1 H9.out.1) (.pointer (some ⟨S+1,0,none⟩));obtain⟨⟨u0,-,u2⟩,-,-⟩:=ed kT;have tS:=ab u0 u2;clear u0 u2;have nb:=((H9.out.2.1.below HZ.out.2.1).FY HZ.out.2.2.2 HZ.out.2.2.1 (by omega) (fun q hh=>by have:=hh.2;have:=HZ.out.1;omega) (fun q hh=>by have:=hh.2;have:=HZ.out.1;omega)).only (OnlyC.bp wb T 2 (.pointer (some ⟨S+1,0,none⟩))) (fun b q hh e=>?_);rotate_left
   ·obtain⟨rfl,-⟩:=e;have h1:=lq.out;have h2:=oS H9.out.1;have h3:=HZ.out.1;rcases hh with hh|hh|hh
    ·rcases hh.1 with h4|h4
     ·exact HA.out.2.2.2.2.2.2.2.2.2.1 _ h4
     ·have:=HB.out.2.2.size;omega
    ·omega
    ·omega
   have HQ:=al (ab nb (ab kT (((H9.out.2.2.trans (oE HZ.out.2.1 F) (fun _ _ _ h=>h)).trans (OnlyC.bp wb T 2 (.pointer (some ⟨S+1,0,none⟩))) (fun b q _ e=>by obtain⟨rfl,rfl⟩:=e;exact HA.out.2.2.2.2.2.2.2.2.1 _)))));clear nb kT;have K3:(wb.setCell ⟨T,2,none⟩ (.pointer (some ⟨S+1,0,none⟩))).heap.size=wb.heap.size:=by simp[World.setCell]
   generalize (wb.setCell ⟨T,2,none⟩ (.pointer (some ⟨S+1,0,none⟩)))=wK at HQ tS K3⊢;refine pb (S:=(fun W=>W.cell? ⟨T,0,none⟩=some (.int .i64 o)/\W.cell? ⟨T,2,none⟩=some (.pointer (some ⟨S+1,0,none⟩)))) (by kernel_rfl) tS (fun pt=>?_);generalize K4:World.drew wK=UY at pt⊢;have Ef:Below wK.heap.size wK UY:=K4▸(aw _ _).drew;have HV:=al (ab (HQ.out.1.below Ef) Ef);clear K4 tS Ef;refine aM [0,1,2,3,4,5,6,7] ?_
   iterate 8 (refine bX (v:=?_) (fun wS hSw=>?_) pt ?_;rotate_left;(obtain⟨s0,s1⟩:=hSw;go_simp;try with_reducible rfl);try simp only[ai,aj,ak,ar])
   refine aN ?_;refine aW 8 (fun K hK=>?_);go_simp;refine(uq UY d (S+1) 0 o (.mk [] [gp d x p o]) (gp d x p o) _ HV.out.1.bound (fun b q hh=>hh.2) rfl (dj _) (by simp) (by simp) (by rw[fM.out.2];have:=zo.out;have:=fM.out.1.2.len.2;rw[fM.out.2]at this;omega) (fun hd=>by obtain⟨d1,rfl⟩: ∃d1,d=d1+1:=⟨d-1,by omega⟩;have h1:=fM.out.1.2.kids;have h2:=fM.out.2;have h3:=zo.out;have h4:=fM.out.1.2.len.2;omega) HA.out.2.2.2.2.2.1 HA.out.2.2.2.2.2.2.1).mono ?_;rintro e wn ⟨rfl,K5,Ix⟩;have OH:=al (ab K5 Ix);clear K5 Ix
   try go_simp
   refine hK.out _ _ (dt pt OH.out.2 (fun hh=>by rcases hh.1 with hh|hh|hh;(· rcases hh.1 with h4|h4;(· exact HA.out.2.2.2.2.2.2.2.2.2.1 _ h4);(· have:=HB.out.2.2.size;have:=lq.out;omega));(· have:=lq.out;have:=oS H9.out.1;have:=HZ.out.1;omega);(· have:=lq.out;have:=oS H9.out.1;have:=HZ.out.1;omega)) (fun hh=>by rcases hh.1 with hh|hh|hh;(· rcases hh.1 with h4|h4;(· exact HA.out.2.2.2.2.2.2.2.2.2.1 _ h4);(· have:=HB.out.2.2.size;have:=lq.out;omega));(· have:=lq.out;have:=oS H9.out.1;have:=HZ.out.1;omega);(· have:=lq.out;have:=oS H9.out.1;have:=HZ.out.1;omega))) ?_;clear hK K pt;intro pt
   try simp only[ai,aj,ak,ar]
   refine pf (by kernel_rfl) ?_ _;have HH:=al (show World.cell? wn ⟨T,0,none⟩=_/\_ from pt);clear pt;go_wp2_with fail
   go_ret3
   have hy:eX d o (2*o) (2*o) (gp d x p o):=fM.out.1.2.re (by rw[fM.out.2];have:=zo.out;omega) (by rw[fM.out.2];have:=zo.out;have:=fM.out.1.2.len.2;rw[fM.out.2]at this;omega);have hrs:=xJ HA.out.2.2.2.2.2.1 hy;have k12:=OH.out.2.heap (pw HV.out.2 HQ.out.2.1) (fun q=>(fun hh=>by rcases hh.1 with hh|hh|hh;(· rcases hh.1 with h4|h4;(· exact HA.out.2.2.2.2.2.2.2.2.2.1 _ h4);(· have:=HB.out.2.2.size;have:=lq.out;omega));(· have:=lq.out;have:=oS H9.out.1;have:=HZ.out.1;omega);(· have:=lq.out;have:=oS H9.out.1;have:=HZ.out.1;omega)));have hte:=sS (F:=F) (w:=w) HA.out.2.2.2.2.1 HA.out.2.2.2.2.2.1 HA.out.2.2.2.2.2.2.1 HA.out.2.2.2.2.2.2.2.2.1 lq.out k12 (by rw[sU HA.out.2.2.2.2.1,lV.out.2];rfl) OH.out.1 ?_ ?_ (by rw[ff (by omega)];exact hrs.2) (by rw[hrs.1,fM.out.1.1,HA.out.2.2.2.1])
   ·refine⟨by rw[<-lV.out.1,<-lV.out.2];rfl,hte,(HQ.out.2.2.trans (oE HV.out.2 F) (fun _ _ _ h=>h)).trans OH.out.2 (fun b q hb hh=>?_)⟩;have h1:=HB.out.2.2.size;have h2:=oS H9.out.1;have h3:=HZ.out.1;have h4:=H9.out.2.2.size;rcases hh.1 with hh|hh|hh
    ·rcases hh.1 with h5|h5
     ·exact HA.out.2.2.2.2.2.2.2.1 b q h5
     ·omega
    ·omega
    ·omega
   ·intro b q hh;have h1:=HB.out.2.2.size;have h3:=HZ.out.1;have h4:=H9.out.2.2.size;have h6:=HV.out.2.size;have h7:=HZ.out.2.1.size;rcases hh with hh|hh
    ·rcases hh.1 with hh|hh|hh
     ·rcases hh.1 with h5|h5
      ·exact .inl (HA.out.2.2.2.2.2.2.2.1 b q h5)
      ·exact .inr (by omega)
     ·exact .inr (by omega)
     ·exact .inr (by omega)
    ·exact .inr (by omega)
   ·intro q hh;rcases hh with hh|hh
    ·exact(fun hh=>by rcases hh.1 with hh|hh|hh;(· rcases hh.1 with h4|h4;(· exact HA.out.2.2.2.2.2.2.2.2.2.1 _ h4);(· have:=HB.out.2.2.size;have:=lq.out;omega));(· have:=lq.out;have:=oS H9.out.1;have:=HZ.out.1;omega);(· have:=lq.out;have:=oS H9.out.1;have:=HZ.out.1;omega)) hh
    ·have h1:=lq.out;have h3:=HZ.out.1;have h4:=H9.out.2.2.size;have h6:=HV.out.2.size;have h7:=HZ.out.2.1.size;omega
  ·have i3: ¬2*(o:Int)-1<(n3:Int):=by omega
   have zo:=al fc;clear fc KX;go_quiet(fail);go_wp2_with fail
   go_ret3
   have hte:=sS (F:=F) (w:=w) HA.out.2.2.2.2.1 HA.out.2.2.2.2.2.1 HA.out.2.2.2.2.2.2.1 HA.out.2.2.2.2.2.2.2.2.1 lq.out H9.out.1 (by rw[sU HA.out.2.2.2.2.1,lV.out.2];rfl) H9.out.2.1 (fun b q hh=>hh.1.elim (fun h=>.inl (HA.out.2.2.2.2.2.2.2.1 b q h)) (fun h=>.inr (de HB.out.2.2.size h))) (fun q hh=>hh.1.elim (HA.out.2.2.2.2.2.2.2.2.2.1 q) (fun h=>by have:=lq.out;have:=HB.out.2.2.size;omega)) (fM.out.1.2.re fM.out.1.2.len.1 (by rw[fM.out.2];have:=zo.out;omega)) (by rw[fM.out.1.1,HA.out.2.2.2.1]);exact⟨by rw[<-lV.out.1,<-lV.out.2];rfl,hte.below (aG (aw _ _) _),H9.out.2.2.drewN _⟩
 |false=>
  obtain⟨⟨-,t1,-⟩,YP,-⟩:=ed k4;have il:(l.length:Int)<=1000000:=by have:=HA.out.2.2.2.2.2.2.2.2.2.2.2;omega
  go_upto_region 9 with fail;have k5:=Gg k4 (.int .i64 ((l.length:Int)+1));have Qz:=(HK.out.1.only (OnlyC.bp wn T 1 (.int .i64 ((l.length:Int)+1))) (fun b q hh e=>by have e1:=e.1;rw[e1]at hh;rcases hh with h5|h5;(· exact HA.out.2.2.2.2.2.2.2.2.2.1 q h5);(· have h6:=HB.out.2.2.size;have h7:=oS HA.out.1;omega))).bound;have RV:=RS.trans (OnlyC.bp wn T 1 (.int .i64 ((l.length:Int)+1))) (fun b q _ e=>by obtain⟨rfl,rfl⟩:=e;exact HA.out.2.2.2.2.2.2.2.2.1 _);clear t1 YP k4 YM RS;generalize wn.setCell ⟨T,1,none⟩ (.int .i64 ((l.length:Int)+1))=W9 at k5 Qz RV⊢;have H9:=al (ab k5 (ab Qz RV));clear k5 Qz RV;obtain⟨YK,YL,B6,H3,g1,-,g3,-⟩:=H9.out.2.1.base;obtain⟨A3,c3,e3,-⟩:=g3.slice;rw[fb]at e3;subst e3;obtain⟨n3,ln⟩: ∃y,(gp d x p o).ps.length=y:=⟨_,rfl⟩;rw[ln]at g1;obtain⟨⟨z3,-⟩,-,-⟩:=ae g1;obtain⟨⟨t0,-,t2⟩,-,tf⟩:=ed H9.out.1;have hput:=pS HA.out.2.2.2.2.2.1 p HA.out.2.2.1 (by rw[HA.out.2.2.2.1];exact HA.out.2.2.2.2.1);have KX:=hput.2.len.2;rw[ln]at KX;have fM:=al (ab hput ln);clear hput g1 g3 ln;have io:(2:Int)<=(o:Int):=by have:=HA.out.2.2.2.2.2.1;omega
  have io2:(o:Int)<=16:=by have:=HA.out.2.2.2.2.2.2.1;omega
  have Qy:T<w.heap.size:=oS HA.out.1;have lq:=al Qy;clear Qy;by_cases fc:2*o-1<n3
  ·have i3:2*(o:Int)-1<(n3:Int):=by omega
   have zo:=al fc;clear fc KX;go_quiet(fail)
   have RT: ∀X Y,World.cell? (((W9.drewN nq).alloc X).alloc Y) ⟨T,2,none⟩=some (.pointer (some ⟨r,0,none⟩))/\World.frozen? (((W9.drewN nq).alloc X).alloc Y) ⟨T,2,none⟩=false:=fun X Y=>by have hb:Below W9.heap.size W9 (((W9.drewN nq).alloc X).alloc Y):=((aG (aw W9.heap.size W9) nq).alloc (aq _) X).alloc (by simp) Y;have hk:=pw hb H9.out.1;exact⟨(ed hk).1.2.2,(ed hk).2.2⟩
   have RU:=RT (.cells #[.pointer (some ⟨r,0,none⟩)] 197) (.cells #[.slice none 0 0,.slice (some ⟨W9.heap.size,0,none⟩) 1 1] 201);obtain⟨hq2,YO⟩:=RU;clear RT;go_upto_region 11 with fail;clear hq2 YO;have hbW:Below W9.heap.size W9 (W9.drewN nq):=aG (aw _ _) nq;have zr:(W9.drewN nq).heap.size=W9.heap.size:=rfl;generalize W9.drewN nq=Wq at hbW zr⊢;have kS:=an Wq (.cells #[.pointer (some ⟨r,0,none⟩)] 197);have bS:=af Wq (.cells #[.pointer (some ⟨r,0,none⟩)] 197);have OG:(Wq.alloc (.cells #[.pointer (some ⟨r,0,none⟩)] 197)).heap.size=W9.heap.size+1:=by simp[zr]
   rw[zr]at kS;obtain⟨S,hS⟩: ∃y,W9.heap.size=y:=⟨_,rfl⟩;rw[hS]at kS OG⊢;generalize Wq.alloc (.cells #[.pointer (some ⟨r,0,none⟩)] 197)=wa at kS bS OG⊢;have kN:=an wa (.cells #[.slice none 0 0,.slice (some ⟨S,0,none⟩) 1 1] 201);have bN:=af wa (.cells #[.slice none 0 0,.slice (some ⟨S,0,none⟩) 1 1] 201);rw[OG]at kN;generalize wa.alloc (.cells #[.slice none 0 0,.slice (some ⟨S,0,none⟩) 1 1] 201)=wb at kN bN⊢;have Ee:Below W9.heap.size W9 wb:=(hbW.trans (bS.mono hbW.size)).trans (bN.mono (de hbW.size bS.size));have HZ:=al (ab hS (ab Ee (ab (pw bN kS) kN)));clear hbW zr kS bS OG kN bN hS Ee;have kT:=zq (pw HZ.out.2.1 H9.out.1) (.pointer (some ⟨S+1,0,none⟩));obtain⟨⟨u0,-,u2⟩,-,-⟩:=ed kT;have tS:=ab u0 u2;clear u0 u2;have nb:=((H9.out.2.1.below HZ.out.2.1).FY HZ.out.2.2.2 HZ.out.2.2.1 (by omega) (fun q hh=>by have:=hh.2;have:=HZ.out.1;omega) (fun q hh=>by have:=hh.2;have:=HZ.out.1;omega)).only (OnlyC.bp wb T 2 (.pointer (some ⟨S+1,0,none⟩))) (fun b q hh e=>?_);rotate_left
   ·obtain⟨rfl,-⟩:=e;have h1:=lq.out;have h2:=oS H9.out.1;have h3:=HZ.out.1;rcases hh with hh|hh|hh
    ·rcases hh.1 with h4|h4
     ·exact HA.out.2.2.2.2.2.2.2.2.2.1 _ h4
     ·have:=HB.out.2.2.size;omega
    ·omega
    ·omega
   have HQ:=al (ab nb (ab kT (((H9.out.2.2.trans (oE HZ.out.2.1 F) (fun _ _ _ h=>h)).trans (OnlyC.bp wb T 2 (.pointer (some ⟨S+1,0,none⟩))) (fun b q _ e=>by obtain⟨rfl,rfl⟩:=e;exact HA.out.2.2.2.2.2.2.2.2.1 _)))));clear nb kT;have K3:(wb.setCell ⟨T,2,none⟩ (.pointer (some ⟨S+1,0,none⟩))).heap.size=wb.heap.size:=by simp[World.setCell]
   generalize (wb.setCell ⟨T,2,none⟩ (.pointer (some ⟨S+1,0,none⟩)))=wK at HQ tS K3⊢;refine pb (S:=(fun W=>W.cell? ⟨T,0,none⟩=some (.int .i64 o)/\W.cell? ⟨T,2,none⟩=some (.pointer (some ⟨S+1,0,none⟩)))) (by kernel_rfl) tS (fun pt=>?_);generalize K4:World.drew wK=UY at pt⊢;have Ef:Below wK.heap.size wK UY:=K4▸(aw _ _).drew;have HV:=al (ab (HQ.out.1.below Ef) Ef);clear K4 tS Ef;refine aM [0,1,2,3,4,5,6,7] ?_
   iterate 8 (refine bX (v:=?_) (fun wS hSw=>?_) pt ?_;rotate_left;(obtain⟨s0,s1⟩:=hSw;go_simp;try with_reducible rfl);try simp only[ai,aj,ak,ar])
   refine aN ?_;refine aW 8 (fun K hK=>?_);go_simp;refine(uq UY d (S+1) 0 o (.mk [] [gp d x p o]) (gp d x p o) _ HV.out.1.bound (fun b q hh=>hh.2) rfl (dj _) (by simp) (by simp) (by rw[fM.out.2];have:=zo.out;have:=fM.out.1.2.len.2;rw[fM.out.2]at this;omega) (fun hd=>by obtain⟨d1,rfl⟩: ∃d1,d=d1+1:=⟨d-1,by omega⟩;have h1:=fM.out.1.2.kids;have h2:=fM.out.2;have h3:=zo.out;have h4:=fM.out.1.2.len.2;omega) HA.out.2.2.2.2.2.1 HA.out.2.2.2.2.2.2.1).mono ?_;rintro e wn ⟨rfl,K5,Ix⟩;have OH:=al (ab K5 Ix);clear K5 Ix
   try go_simp
   refine hK.out _ _ (dt pt OH.out.2 (fun hh=>by rcases hh.1 with hh|hh|hh;(· rcases hh.1 with h4|h4;(· exact HA.out.2.2.2.2.2.2.2.2.2.1 _ h4);(· have:=HB.out.2.2.size;have:=lq.out;omega));(· have:=lq.out;have:=oS H9.out.1;have:=HZ.out.1;omega);(· have:=lq.out;have:=oS H9.out.1;have:=HZ.out.1;omega)) (fun hh=>by rcases hh.1 with hh|hh|hh;(· rcases hh.1 with h4|h4;(· exact HA.out.2.2.2.2.2.2.2.2.2.1 _ h4);(· have:=HB.out.2.2.size;have:=lq.out;omega));(· have:=lq.out;have:=oS H9.out.1;have:=HZ.out.1;omega);(· have:=lq.out;have:=oS H9.out.1;have:=HZ.out.1;omega))) ?_;clear hK K pt;intro pt
   try simp only[ai,aj,ak,ar]
   refine pf (by kernel_rfl) ?_ _;have HH:=al (show World.cell? wn ⟨T,0,none⟩=_/\_ from pt);clear pt;go_wp2_with fail
   go_ret3
   have hy:eX d o (2*o) (2*o) (gp d x p o):=fM.out.1.2.re (by rw[fM.out.2];have:=zo.out;omega) (by rw[fM.out.2];have:=zo.out;have:=fM.out.1.2.len.2;rw[fM.out.2]at this;omega);have hrs:=xJ HA.out.2.2.2.2.2.1 hy;have k12:=OH.out.2.heap (pw HV.out.2 HQ.out.2.1) (fun q=>(fun hh=>by rcases hh.1 with hh|hh|hh;(· rcases hh.1 with h4|h4;(· exact HA.out.2.2.2.2.2.2.2.2.2.1 _ h4);(· have:=HB.out.2.2.size;have:=lq.out;omega));(· have:=lq.out;have:=oS H9.out.1;have:=HZ.out.1;omega);(· have:=lq.out;have:=oS H9.out.1;have:=HZ.out.1;omega)));have hte:=sS (F:=F) (w:=w) HA.out.2.2.2.2.1 HA.out.2.2.2.2.2.1 HA.out.2.2.2.2.2.2.1 HA.out.2.2.2.2.2.2.2.2.1 lq.out k12 (by rw[sU HA.out.2.2.2.2.1,lV.out.2];rfl) OH.out.1 ?_ ?_ (by rw[ff (by omega)];exact hrs.2) (by rw[hrs.1,fM.out.1.1,HA.out.2.2.2.1])
   ·refine⟨by rw[<-lV.out.1,<-lV.out.2];rfl,hte,(HQ.out.2.2.trans (oE HV.out.2 F) (fun _ _ _ h=>h)).trans OH.out.2 (fun b q hb hh=>?_)⟩;have h1:=HB.out.2.2.size;have h2:=oS H9.out.1;have h3:=HZ.out.1;have h4:=H9.out.2.2.size;rcases hh.1 with hh|hh|hh
    ·rcases hh.1 with h5|h5
     ·exact HA.out.2.2.2.2.2.2.2.1 b q h5
     ·omega
    ·omega
    ·omega
   ·intro b q hh;have h1:=HB.out.2.2.size;have h3:=HZ.out.1;have h4:=H9.out.2.2.size;have h6:=HV.out.2.size;have h7:=HZ.out.2.1.size;rcases hh with hh|hh
    ·rcases hh.1 with hh|hh|hh
     ·rcases hh.1 with h5|h5
      ·exact .inl (HA.out.2.2.2.2.2.2.2.1 b q h5)
      ·exact .inr (by omega)
     ·exact .inr (by omega)
     ·exact .inr (by omega)
    ·exact .inr (by omega)
   ·intro q hh;rcases hh with hh|hh
    ·exact(fun hh=>by rcases hh.1 with hh|hh|hh;(· rcases hh.1 with h4|h4;(· exact HA.out.2.2.2.2.2.2.2.2.2.1 _ h4);(· have:=HB.out.2.2.size;have:=lq.out;omega));(· have:=lq.out;have:=oS H9.out.1;have:=HZ.out.1;omega);(· have:=lq.out;have:=oS H9.out.1;have:=HZ.out.1;omega)) hh
    ·have h1:=lq.out;have h3:=HZ.out.1;have h4:=H9.out.2.2.size;have h6:=HV.out.2.size;have h7:=HZ.out.2.1.size;omega
  ·have i3: ¬2*(o:Int)-1<(n3:Int):=by omega
   have zo:=al fc;clear fc KX;go_quiet(fail);go_wp2_with fail
   go_ret3
   have hte:=sS (F:=F) (w:=w) HA.out.2.2.2.2.1 HA.out.2.2.2.2.2.1 HA.out.2.2.2.2.2.2.1 HA.out.2.2.2.2.2.2.2.2.1 lq.out H9.out.1 (by rw[sU HA.out.2.2.2.2.1,lV.out.2];rfl) H9.out.2.1 (fun b q hh=>hh.1.elim (fun h=>.inl (HA.out.2.2.2.2.2.2.2.1 b q h)) (fun h=>.inr (de HB.out.2.2.size h))) (fun q hh=>hh.1.elim (HA.out.2.2.2.2.2.2.2.2.2.1 q) (fun h=>by have:=lq.out;have:=HB.out.2.2.size;omega)) (fM.out.1.2.re fM.out.1.2.len.1 (by rw[fM.out.2];have:=zo.out;omega)) (by rw[fM.out.1.1,HA.out.2.2.2.1]);exact⟨by rw[<-lV.out.1,<-lV.out.2];rfl,hte.below (aG (aw _ _) _),H9.out.2.2.drewN _⟩
theorem JO(n:Nat)(h:n<=100000):(True->wrap64 (n:Int)=(n:Int))/\(True->IntKind.i64.wrap (n:Int)=(n:Int)):=by rw[fm];unfold wrap64;exact⟨fun _=>by omega,fun _=>by omega⟩
theorem Ca{kl kr:ND}{s z:Pr}{m:Nat}(hm:kl.ps.length=m+1)(hz:kl.ps[m]?=some z):dN 0 kl s kr=(.mk (kl.ps.take m) [],z,.mk (s::kr.ps) []):=by show(ND.mk (kl.ps.take (kl.ps.length-1)) [],kl.ps[kl.ps.length-1]?.getD ([],[]),ND.mk (s::kr.ps) [])=_;rw[hm,nw,hz];rfl
theorem qg{d:Nat}{kl kr k0:ND}{s z:Pr}{m:Nat}(hd:d≠0)(hm:kl.ps.length=m+1)(hz:kl.ps[m]?=some z)(hk:kl.ks.length=m+2)(dX:kl.ks[m+1]?=some k0):dN d kl s kr=(.mk (kl.ps.take m) (kl.ks.take (m+1)),z,.mk (s::kr.ps) (k0::kr.ks)):=by obtain⟨d1,rfl⟩: ∃d1,d=d1+1:=⟨d-1,by omega⟩;show(ND.mk (kl.ps.take (kl.ps.length-1)) (kl.ks.take (kl.ks.length-1)),kl.ps[kl.ps.length-1]?.getD ([],[]),ND.mk (s::kr.ps) (kl.ks[kl.ks.length-1]?.getD Bg::kr.ks))=_;rw[hm,nw,hz,hk,show m+2-1=m+1 by omega,dX];rfl
theorem az.fe{w:World}{b o n c i:Nat}{ps:List Pr}{F:Nat->Nat->Prop}(k v:List UInt8)(h:az 2 210 w (.slice (some ⟨b,o,none⟩) n c) (ps.map ax) F)(hi:i<ps.length):
  az 2 210 ((w.setCell ⟨b,o+i*2,none⟩ (.string ⟨k.toArray⟩)).setCell ⟨b,o+i*2+1,none⟩ (.string ⟨v.toArray⟩)) (.slice (some ⟨b,o,none⟩) n c) ((ps.take i++(k,v)::ps.drop (i+1)).map ax) F/\
   OnlyC F w ((w.setCell ⟨b,o+i*2,none⟩ (.string ⟨k.toArray⟩)).setCell ⟨b,o+i*2+1,none⟩ (.string ⟨v.toArray⟩)):=by
 obtain⟨b',o',c',cs,e1,q2,q3,q4,q6,q7,q8,q9⟩:=h.lies (by simp;omega);simp only[fb,gR,fj,mZ,and_true]at e1;obtain⟨⟨rfl,rfl⟩,rfl,rfl⟩:=e1;rw[fb]at q2;obtain⟨cs',k1,k2,k3,k4⟩:=bY (t:=210) [.string ⟨k.toArray⟩,.string ⟨v.toArray⟩] (o+i*2) w cs q6 (by simp;omega);have ho:=bG b [.string ⟨k.toArray⟩,.string ⟨v.toArray⟩] (o+i*2) w;constructor
 ·refine az.rewritten k1 k2 q7 q8 (by simp;omega) q2 q3 (fun x hx=>by obtain⟨y,_,rfl⟩:=ep.1 hx;rfl) (fun j u hj=>?_)
  have hlk:(((ps.take i).map ax).flatten).length=i*2:=by rw[bA (k:=2) (fun x hx=>by obtain⟨y,_,rfl⟩:=List.mem_map.1 hx;rfl)];simp;omega
  obtain⟨z0,hz0⟩: ∃z,ps[i]?=some z:=⟨_,ao hi⟩;have hsp:ps=ps.take i++z0::ps.drop (i+1):=dI hz0;have e1:((ps.take i++(k,v)::ps.drop (i+1)).map ax).flatten=((ps.take i).map ax).flatten++(.string ⟨k.toArray⟩:: .string ⟨v.toArray⟩::((ps.drop (i+1)).map ax).flatten):=by simp[ax]
  have e2:(ps.map ax).flatten=((ps.take i).map ax).flatten++(.string ⟨z0.1.toArray⟩:: .string ⟨z0.2.toArray⟩::((ps.drop (i+1)).map ax).flatten):=by
   conv=>lhs;rw[hsp]
   simp[ax]
  rw[e1]at hj;rw[e2]at q9;by_cases c1:i*2<=j/\j<i*2+2
  ·rw[kd (by omega),hlk]at hj
   have:=k4 (j-i*2) u (by
    obtain⟨t,ht⟩: ∃t,j-i*2=t:=⟨_,rfl⟩;rw[ht]at hj⊢
    match t,ht,hj with
    |0,_,hj=>simpa using hj
    |1,_,hj=>simpa using hj
    |t+2,ht,_=>omega)
   rw[show o+i*2+(j-i*2)=o+j by omega]at this;exact this
  ·rw[k3 (o+j) (by simp;omega)];refine q9 j u ?_;rw[List.getElem?_append]at hj⊢;split
   ·rename_i c2;rw[fi c2]at hj;exact hj
   ·rename_i c2;rw[ff c2,hlk]at hj;rw[hlk]at c2⊢;obtain⟨t,ht⟩: ∃t,j-i*2=t:=⟨_,rfl⟩;rw[ht]at hj⊢
    match t,ht,hj with
    |0,ht,_=>omega
    |1,ht,_=>omega
    |t+2,_,hj=>simpa using hj
 ·refine ho.mono (fun b' q _ e=>?_);obtain⟨rfl,h1,h2⟩:=e;exact q8 _ (by omega) (by simp at h2;omega)
theorem gD{W W':World}{F:Nat->Nat->Prop}{b1 q1 b2 q2 b3 q3:Nat}{v1 v2 v3:Value}(h:W.cell? ⟨b1,q1,none⟩=some v1/\W.cell? ⟨b2,q2,none⟩=some v2/\W.cell? ⟨b3,q3,none⟩=some v3)(ho:OnlyC F W W')(h1: ¬F b1 q1)(h2: ¬F b2 q2)(h3: ¬F b3 q3):W'.cell? ⟨b1,q1,none⟩=some v1/\W'.cell? ⟨b2,q2,none⟩=some v2/\W'.cell? ⟨b3,q3,none⟩=some v3:=
 ⟨ho.cell h.1 h1,ho.cell h.2.1 h2,ho.cell h.2.2 h3⟩
theorem rz{W W':World}{p1 p2 p3:Addr}{v1 v2 v3:Value}(h:W.cell? p1=some v1/\W.cell? p2=some v2/\W.cell? p3=some v3)(hb:Below W.heap.size W W'):W'.cell? p1=some v1/\W'.cell? p2=some v2/\W'.cell? p3=some v3:=
 ⟨(hb.cell (aE _ _ h.1)).trans h.1,(hb.cell (aE _ _ h.2.1)).trans h.2.1,(hb.cell (aE _ _ h.2.2)).trans h.2.2⟩
theorem az.jS{w:World}{b o n c i:Nat}{ps:List Pr}{F:Nat->Nat->Prop}{p:Pr}(h:az 2 210 w (.slice (some ⟨b,o,none⟩) n c) (ps.map ax) F)(hp:ps[i]?=some p):
  (w.cell? ⟨b,o+i*2,none⟩=some (.string ⟨p.1.toArray⟩)/\w.cell? ⟨b,o+i*2+1,none⟩=some (.string ⟨p.2.toArray⟩))/\w.frozen? ⟨b,o+i*2,none⟩=false/\w.frozen? ⟨b,o+i*2+1,none⟩=false:=by
 obtain⟨b',o',c',e1,_,_,h1,h2,h3,h4⟩:=h.pair hp;simp only[gR,fj,mZ,and_true]at e1;obtain⟨⟨rfl,rfl⟩,rfl,rfl⟩:=e1;exact⟨⟨h1,h2⟩,h3,h4⟩
theorem az.Cb{w:World}{b o n c i p:Nat}{ps:List Nat}{F:Nat->Nat->Prop}(h:az 1 197 w (.slice (some ⟨b,o,none⟩) n c) (ps.map aL) F)(hp:ps[i]?=some p):w.cell? ⟨b,o+i,none⟩=some (.pointer (some ⟨p,0,none⟩)):=by obtain⟨b',o',c',e1,_,_,h1⟩:=h.ptr hp;simp only[gR,fj,mZ,and_true]at e1;obtain⟨⟨rfl,rfl⟩,rfl,rfl⟩:=e1;exact h1
theorem az.pF{w:World}{b o n c i:Nat}{ps:List Pr}{F:Nat->Nat->Prop}(h:az 2 210 w (.slice (some ⟨b,o,none⟩) n c) (ps.map ax) F)(hi:i<ps.length):F b (o+i*2)/\F b (o+i*2+1):=by obtain⟨b',o',c',cs,e1,q2,q3,q4,q6,q7,q8,q9⟩:=h.lies (by simp;omega);simp only[fb,gR,fj,mZ,and_true]at e1;obtain⟨⟨rfl,rfl⟩,rfl,rfl⟩:=e1;rw[fb]at q2;exact⟨q8 _ (by omega) (by omega),q8 _ (by omega) (by omega)⟩
theorem az.Cc{w:World}{b o n c i:Nat}{ps:List Nat}{F:Nat->Nat->Prop}(h:az 1 197 w (.slice (some ⟨b,o,none⟩) n c) (ps.map aL) F)(hi:i<ps.length):F b (o+i):=by obtain⟨b',o',c',cs,e1,q2,q3,q4,q6,q7,q8,q9⟩:=h.lies (by simp;omega);simp only[fb,gR,fj,mZ,and_true]at e1;obtain⟨⟨rfl,rfl⟩,rfl,rfl⟩:=e1;rw[fb]at q2;exact q8 _ (by omega) (by omega)
theorem Ce(w:World)(d a i i1:Nat)(x:ND)(F:Nat->Nat->Prop)(h:ay w (d+1) a x F)(hF: ∀b q,F b q->b<w.heap.size)(hi1:i1=i+1)(hi:i+1<x.ks.length)(hps:x.ks.length=x.ps.length+1)(hpl:x.ps.length<=900)
  (YQ:1<=(aQ x i).ps.length) (RO:(aQ x i).ps.length<=900) (UZ:(aQ x (i+1)).ps.length<=900) (hkk:d≠0->(aQ x i).ks.length=(aQ x i).ps.length+1) (U1:(aQ x (i+1)).ks.length<=901):
  Calls Tryz.prog 211 #[.pointer (some ⟨a,0,none⟩),.int .i64 i1] w fun e w'=>e=.returned (.tuple #[])/\ay w' (d+1) a (sA x i (dN d (aQ x i) (gi x i) (aQ x (i+1)))) (fun b q=>F b q\/w.heap.size<=b)/\OnlyC F w w':=by
 obtain⟨_,vp,vk,aA,H,hO,_⟩:=h.open_;have uw:=df (x:=x) (i:=i) (by omega);have uy:=df (x:=x) (i:=i+1) (by omega);generalize U2:aQ x i=kl at *;generalize U3:aQ x (i+1)=kr at *;clear U2 U3;obtain⟨l,hl⟩: ∃y,aA[i]?=some y:=⟨_,ao (by rw[hO.2.2.2.2.1];omega)⟩;obtain⟨r,hr⟩: ∃y,aA[i+1]?=some y:=⟨_,ao (by rw[hO.2.2.2.2.1];omega)⟩;obtain⟨mR,vl,ul,pl,Hl,hL,DF⟩:=(show ay w d l kl (H (i+3))from hO.2.2.2.2.2.1 i l kl hl uw).open_;obtain⟨hdr,vr,ur,pr,Hr,hR,Nw⟩:=(show ay w d r kr (H (i+4))from hO.2.2.2.2.2.1 (i+1) r kr hr uy).open_;have hB:=bt.start hO hF hL hR;obtain⟨s,hs⟩: ∃p,x.ps[i]?=some p:=⟨_,ao (by omega)⟩;have Cf:gi x i=s:=by unfold gi;rw[hs];rfl
 rw[Cf];obtain⟨m,hm⟩: ∃m,kl.ps.length=m+1:=⟨kl.ps.length-1,by omega⟩;obtain⟨z,hz⟩: ∃p,kl.ps[m]?=some p:=⟨_,ao (by omega)⟩;obtain⟨bn,on,cn,e0,-,-,s0,s1,-⟩:=hO.2.2.1.pair hs;subst e0;obtain⟨bl,ol,cl,e0,-,-,-⟩:=hL.2.2.1.pair hz;subst e0;obtain⟨Ar,cr,e0,-⟩:=hR.2.2.1.slice;rw[fb]at e0;subst e0;obtain⟨bk,ok,ck,e0,-,-,r1⟩:=hO.2.2.2.1.ptr hl;obtain⟨bk',ok',ck',NB,-,-,r2⟩:=hO.2.2.2.1.ptr hr;subst e0;simp only[gR,fj,mZ,and_true,true_and]at NB;obtain⟨⟨rfl,rfl⟩,rfl⟩:=NB;obtain⟨Al,QA,e0,-⟩:=hL.2.2.2.1.slice;rw[fb]at e0;subst e0;obtain⟨TL,NC,e0,-⟩:=hR.2.2.2.1.slice;rw[fb]at e0;subst e0;obtain⟨np,mH⟩: ∃y,x.ps.length=y:=⟨_,rfl⟩;obtain⟨nr,vP⟩: ∃y,kr.ps.length=y:=⟨_,rfl⟩;obtain⟨nk,jP⟩: ∃y,aA.length=y:=⟨_,rfl⟩;obtain⟨Cg,jo⟩: ∃y,pl.length=y:=⟨_,rfl⟩;obtain⟨zt,jq⟩: ∃y,pr.length=y:=⟨_,rfl⟩;obtain⟨nl,hnl⟩: ∃y,kl.ps.length=y:=⟨_,rfl⟩;have gN:=hO.2.2.2.2.1;have QB:=hL.2.2.2.2.1;have Gh:=hR.2.2.2.2.1;rw[mH,jP]at hO;rw[hnl,jo]at hL;rw[vP,jq]at hR;rw[mH,jP,hnl,jo,vP,jq]at hB;have rW:=(hO.2.2.1.pF (i:=i) (by omega));have HA:=al (ab hO (ab hF (ab hL (ab DF (ab hR (ab Nw (ab hl (ab hr (ab uw (ab uy (ab hs (ab hz (ab mR hdr)))))))))))));have HN:=al (show np=x.ps.length/\nr=kr.ps.length/\nk=aA.length/\Cg=pl.length/\zt=pr.length/\nl=kl.ps.length/\kl.ps.length=m+1/\aA.length=x.ks.length/\pl.length=kl.ks.length/\pr.length=kr.ks.length/\i+1<x.ks.length/\x.ks.length=x.ps.length+1/\i1=i+1/\(d≠0->kl.ks.length=kl.ps.length+1)from⟨mH.symm,vP.symm,jP.symm,jo.symm,jq.symm,hnl.symm,hm,gN,QB,Gh,hi,hps,hi1,hkk⟩);have HB:=al hB;have HP:=al rW;obtain⟨⟨Gi,TM⟩,-,-⟩:=ae hB.kg.1;have j1:(i1:Int)-1=(i:Int):=by omega
 have j2:(0:Int)<=(i:Int):=by omega
 have j3:(i:Int)<(nk:Int):=by omega
 have j4:(i1:Int)<(nk:Int):=by omega
 have j5:(0:Int)<=(i1:Int):=by omega
 have j6:(i:Int)<(np:Int):=by omega
 have j7:(nl:Int)-1=(m:Int):=by omega
 have j8:(0:Int)<=(m:Int):=by omega
 have j9:(m:Int)<(nl:Int):=by omega
 have j10:nl<=900:=by omega
 obtain⟨j11,j12⟩:=JO i (by omega);obtain⟨j13,j14⟩:=JO m (by omega);have r2':w.cell? ⟨bk,ok+i1,none⟩=some (.pointer (some ⟨r,0,none⟩)):=by rw[hi1];exact r2
 clear r2 h hO hF hL DF hR Nw hl hr uw uy hB hs hz hm mH vP jP jo jq hnl gN QB Gh rW hi1 Cf YQ hkk mR hdr;go_enter Tryz.func211,Tryz.ntmps211;go_wp2_with fail;go_quiet(fail);go_upto_region 1 with fail;have sV:Below w.heap.size w (w.drewN nq):=aG (aw _ _) nq;generalize w.drewN nq=wq at sV⊢;have QC:=(sV.cell (aE _ _ s0)).trans s0;have QD:=(sV.cell (aE _ _ s1)).trans s1;have HB:=al (HB.out.below sV);clear Gi TM r1 r2' s0 s1 sV;obtain⟨⟨cl0,-⟩,-,-⟩:=ae HB.out.ft.1;go_upto_region 2 with fail;clear cl0;obtain⟨⟨Gi,-⟩,-,-⟩:=ae HB.out.kg.1;have tS:=ab Gi (ab QC QD);clear Gi QC QD;refine pb (S:=(fun W=>W.cell? ⟨a,0,none⟩=some (.slice (some ⟨bn,on,none⟩) np cn)/\W.cell? ⟨bn,on+i*2,none⟩=some (.string ⟨s.1.toArray⟩)/\W.cell? ⟨bn,on+i*2+1,none⟩=some (.string ⟨s.2.toArray⟩))) (by kernel_rfl) tS (fun pt=>?_);generalize hW3:World.drew wq=W3 at pt⊢;have HB:=al (HB.out.below (w1:=W3) (hW3▸(aw _ _).drew));clear hW3 tS;refine aM [0,1,2,3,5,6,7,8,9,10,11,12] ?_
 iterate 12 (refine bX (v:=?_) (fun wS hSw=>?_) pt ?_;rotate_left;(obtain⟨s0,s1,s2⟩:=hSw;go_simp;try with_reducible rfl);try simp only[ai,aj,ak,ar])
 refine aN ?_;refine ph (rs:=[4,13]) (by kernel_rfl) (by simp) (bP (i:=4) rfl (fun K hK=>?_) (bP (i:=13) rfl (fun K hK=>?_) o0))
 ·skip
  obtain⟨⟨r6,-⟩,-,-⟩:=ae HB.out.gu.1;go_simp;refine hK.out _ _ (pt) ?_;clear hK K pt r6;intro pt
  try simp only[ai,aj,ak,ar]
  refine aW 13 (fun K hK=>?_);go_simp;refine hK.out _ _ (rz pt (af _ _)) ?_;clear hK K pt;intro pt
  try simp only[ai,aj,ak,ar]
  have kV:=an W3 (.cells #[.string ⟨s.1.toArray⟩,.string ⟨s.2.toArray⟩] 210);have bV:=af W3 (.cells #[.string ⟨s.1.toArray⟩,.string ⟨s.2.toArray⟩] 210);have hvb: ∀q,¬Hr 1 W3.heap.size q:=fun q hh=>Nat.lt_irrefl _ (HB.out.Uu hh);generalize W3.alloc (.cells #[.string ⟨s.1.toArray⟩,.string ⟨s.2.toArray⟩] 210)=W5 at kV bV pt⊢;obtain⟨VB,gA⟩: ∃y,W3.heap.size=y:=⟨_,rfl⟩;rw[gA]at kV hvb⊢;have HV:=al (ab kV hvb);have HB:=al (HB.out.below bV);clear kV bV gA hvb;refine aW 14 (fun K hK=>?_);go_simp;refine(iG W5 (Hr 1) _ (kr.ps.map ax) 0 _ rfl (ax s) VB HB.out.gu.2.1 (dj _) (by rw[fb];omega) (by rfl) (by simp[ax,Value.oneCell']) (dA _) HV.out.1 HV.out.2).mono ?_;rintro e wn ⟨v6,rfl,bM,eA⟩;rw[dV]at bM;simp only[jj,fs,List.drop_zero]at bM;obtain⟨A6,c6,fy,-⟩:=bM.slice;obtain⟨n6,eY⟩: ∃y,((s::kr.ps).map ax).length=y:=⟨_,rfl⟩;rw[eY]at fy;subst fy;clear eY;have H6:=al (ab bM eA);clear bM eA
  try go_simp
  refine hK.out _ _ (gD pt H6.out.2 (fun hh=>HB.out.Ut hh rfl) (fun hh=>HB.out.rQ HP.out.1 hh) (fun hh=>HB.out.rQ HP.out.2 hh)) ?_;clear hK K pt;intro pt
  try simp only[ai,aj,ak,ar]
  refine aM [15,16] ?_
  iterate 2 (refine bX (v:=?_) (fun wS hSw=>?_) pt ?_;rotate_left;(obtain⟨s0,s1,s2⟩:=hSw;go_simp;try with_reducible rfl);try simp only[ai,aj,ak,ar])
  refine aN ?_;refine aW 17 (fun K hK=>?_);obtain⟨⟨r6,-⟩,rf,-⟩:=ae (H6.out.2.heap HB.out.gu.1 (fun q hh=>HB.out.Oi hh rfl));go_simp;refine hK.out _ _ (gD pt (OnlyC.bp _ r 0 _) (fun e=>HB.out.e02 e.1) (fun e=>HB.out.Hq HP.out.1 e.1) (fun e=>HB.out.Hq HP.out.2 e.1)) ?_;clear hK K pt r6 rf;intro pt
  try simp only[ai,aj,ak,ar]
  refine pf (by kernel_rfl) ?_ _;have dU:=HB.out.p2 (aw _ _) H6.out.2 H6.out.1;clear pt;generalize wn.setCell ⟨r,0,none⟩ (.slice A6 n6 c6)=w7 at dU⊢;have HB:=al dU;clear dU HV H6;obtain⟨c3,c4⟩:=(HB.out.ft.2.1.jS HA.out.2.2.2.2.2.2.2.2.2.2.2.1).1;obtain⟨⟨c1,-⟩,-,-⟩:=ae HB.out.kg.1;obtain⟨⟨c2,-⟩,-,-⟩:=ae HB.out.ft.1;have tS:=ab c1 (ab c2 (ab c3 c4));clear c1 c2 c3 c4;have HZ:=al (HB.out.ft.2.1.pF (i:=m) (by have:=HN.out.2.2.2.2.2.2.1;omega));go_upto_region 3 with fail;refine pb (S:=(fun W=>W.cell? ⟨a,0,none⟩=some (.slice (some ⟨bn,on,none⟩) np cn)/\W.cell? ⟨l,0,none⟩=some (.slice (some ⟨bl,ol,none⟩) nl cl)/\W.cell? ⟨bl,ol+m*2,none⟩=some (.string ⟨z.1.toArray⟩)/\W.cell? ⟨bl,ol+m*2+1,none⟩=some (.string ⟨z.2.toArray⟩))) (by kernel_rfl) tS (fun pt=>?_);generalize hW3:World.drew w7=W3 at pt⊢;have HB:=al (HB.out.below (w1:=W3) (hW3▸(aw _ _).drew));clear hW3 tS;refine aM [0,1,2,3,4,5,6,7,8,9,10,11,12,13] ?_
  iterate 14 (refine bX (v:=?_) (fun wS hSw=>?_) pt ?_;rotate_left;(obtain⟨s0,s1,s2,s3⟩:=hSw;go_simp;try with_reducible rfl);try simp only[ai,aj,ak,ar])
  refine aN ?_;refine aW 14 (fun K hK=>?_);obtain⟨⟨c5,c6⟩,f5,f6⟩:=HB.out.kg.2.1.jS HA.out.2.2.2.2.2.2.2.2.2.2.1;go_simp;refine hK.out _ _ (uu pt (HB.out.kg.2.1.fe (i:=i) z.1 z.2 (by have:=HN.out.2.2.2.2.2.2.2.2.2.2.1;have:=HN.out.2.2.2.2.2.2.2.2.2.2.2.1;omega)).2 (fun hh=>HB.out.Hp hh rfl) (fun hh=>HB.out.vX hh rfl) (fun hh=>HB.out.mG hh HZ.out.1) (fun hh=>HB.out.mG hh HZ.out.2)) ?_;clear hK K pt c5 c6 f5 f6;intro pt
  try simp only[ai,aj,ak,ar]
  refine pf (by kernel_rfl) ?_ _;have AB:=HB.out.i0 (HB.out.kg.2.1.fe (i:=i) z.1 z.2 (by have:=HN.out.2.2.2.2.2.2.2.2.2.2.1;have:=HN.out.2.2.2.2.2.2.2.2.2.2.2.1;omega)).2 (HB.out.kg.2.1.fe (i:=i) z.1 z.2 (by have:=HN.out.2.2.2.2.2.2.2.2.2.2.1;have:=HN.out.2.2.2.2.2.2.2.2.2.2.2.1;omega)).1;clear pt;generalize (W3.setCell ⟨bn,on+i*2,none⟩ (.string ⟨z.1.toArray⟩)).setCell ⟨bn,on+i*2+1,none⟩ (.string ⟨z.2.toArray⟩)=w8 at AB⊢;have HB:=al AB;clear AB HZ;obtain⟨⟨c2,-⟩,-,-⟩:=ae HB.out.ft.1;go_wp2_with fail;refine(kD w8 (Hl 1) _ (kl.ps.map ax) m _ _ rfl (by simp) HB.out.ft.2.1 (by rw[fb];have:=HN.out.2.2.2.2.2.2.1;omega) (by rw[fb];omega) (dA _)).mono ?_;rintro e w9 ⟨v9,rfl,cu,eU⟩;rw[<-mc,<-kn,<-im]at cu;have Ci:kl.ps.drop (m+1)=[]:=eS (by have:=HN.out.2.2.2.2.2.2.1;omega);rw[Ci,gd]at cu;obtain⟨A9,c9,fQ,-⟩:=cu.slice;obtain⟨n9,fG⟩: ∃y,((kl.ps.take m).map ax).length=y:=⟨_,rfl⟩;rw[fG]at fQ;subst fQ;clear fG Ci c2;have H9:=al (ab cu eU);clear cu eU;obtain⟨⟨c2,-⟩,f2,-⟩:=ae (H9.out.2.heap HB.out.ft.1 (fun q hh=>HB.out.BF hh rfl));go_upto_region 5 with fail;clear c2 f2;have hB4:=HB.out.p1 (aw _ _) H9.out.2 (H9.out.1.mono (fun b q hh=>.inl hh));generalize w9.setCell ⟨l,0,none⟩ (.slice A9 n9 c9)=wA at hB4⊢;have HB:=al hB4;clear hB4 H9;obtain⟨⟨-,c2⟩,-,-⟩:=ae HB.out.ft.1;by_cases hd:d=0
  ·subst hd;have e1:kl.ks=[]:=HA.out.2.2.2.2.2.2.2.2.2.2.2.2.1 rfl;have e2:kr.ks=[]:=HA.out.2.2.2.2.2.2.2.2.2.2.2.2.2 rfl;have dX:Cg=0:=by rw[HN.out.2.2.2.1,HN.out.2.2.2.2.2.2.2.2.1,e1];rfl
   subst dX;have iW:=al (dG wA l QA Al c2);have HE:=al (ab e1 e2);clear c2 e1 e2;go_wp2_with fail;refine iW.out.mono ?_;rintro e wZ ⟨rfl,Eg⟩;subst Eg;go_wp2_with fail
   first|refine et (du rfl _ _ _) rfl ?_|refine dq (du rfl _ _ _) rfl ?_
   obtain⟨e1,e2⟩:=HE.out;have hE:=fZ HA.out.1 HA.out.2.1 (by have:=HN.out.2.2.2.2.2.2.2.2.2.2.1;omega) HA.out.2.2.1 HA.out.2.2.2.1 HA.out.2.2.2.2.1 HA.out.2.2.2.2.2.1 HB.out 0 0 (aq _) (dj _) [] (fun _ _ _=>False) 0 0 (aq _) (dj _) [] (fun _ _ _=>False) rfl HA.out.2.2.2.2.2.2.1 HA.out.2.2.2.2.2.2.2.1 (by simp) (by simp) (fun _ _ _ h=>h.elim) (fun _ _ _ h=>h.elim) (fun _ _ _ _ h=>h.elim) (fun _ _ _ _ h=>h.elim) (fun m p k hm=>by simp at hm) (fun m p k hm=>by simp at hm) (by simp[e1]) (by simp[e2]);rw[Ca HN.out.2.2.2.2.2.2.1 HA.out.2.2.2.2.2.2.2.2.2.2.2.1];refine⟨rfl,?_,hE.2⟩;have h1:=hE.1;simp only[e1,e2,List.take_nil,List.drop_nil,kb,gd]at h1;exact h1
  ·have hkk:=HN.out.2.2.2.2.2.2.2.2.2.2.2.2.2 hd;obtain⟨m1,iX⟩: ∃y,y=m+1:=⟨_,rfl⟩;have uz:pl.length=m1+1:=by have:=HN.out.2.2.2.2.2.2.2.2.1;have:=HN.out.2.2.2.2.2.2.1;omega
   obtain⟨p0,hp0⟩: ∃p,pl[m1]?=some p:=⟨_,ao (by omega)⟩;obtain⟨k0,dX⟩: ∃p,kl.ks[m1]?=some p:=⟨_,ao (by have:=HN.out.2.2.2.2.2.2.2.2.1;omega)⟩;have zu:=HB.out;obtain⟨U4,U5,YR,e0,-,-,-⟩:=zu.ft.2.2.ptr hp0;simp only[gR]at e0;obtain⟨rfl,-,rfl⟩:=e0;have jo:Cg=m1+1:=by rw[HN.out.2.2.2.1];exact uz
   have iW:=al (eQ wA l Cg QA _ (by omega) c2);have HB:=al zu;have HM:=al (ab iX (ab uz (ab hp0 (ab dX (ab hkk (ab jo (zu.ft.2.2.Cc (i:=m1) (by omega))))))));have q1:(m:Int)+1=(m1:Int):=by omega
   have q2:m1<=901:=by have:=HN.out.2.2.2.2.2.2.1;omega
   obtain⟨q3,q4⟩:=JO m1 (by omega);have q5:(0:Int)<=(m1:Int):=by omega
   have q6:(m1:Int)<(Cg:Int):=by omega
   have q7:Cg<=902:=by omega
   clear zu iX uz hp0 dX hkk jo hd c2;go_wp2_with fail;refine iW.out.mono ?_;rintro e wZ ⟨rfl,Eg⟩;subst Eg;clear iW;obtain⟨⟨-,c1⟩,-,-⟩:=ae HB.out.ft.1;have tS:=ab c1 (HB.out.ft.2.2.Cb HM.out.2.2.1);clear c1;go_upto_region 6 with fail;refine pb (S:=(fun W=>W.cell? ⟨l,1,none⟩=some (.slice (some ⟨U4,U5,none⟩) Cg QA)/\W.cell? ⟨U4,U5+m1,none⟩=some (.pointer (some ⟨p0,0,none⟩)))) (by kernel_rfl) tS (fun pt=>?_);generalize hW3:World.drew wA=W3 at pt⊢;have HB:=al (HB.out.below (w1:=W3) (hW3▸(aw _ _).drew));clear hW3 tS;refine aM [0,1,2,3,5,6,7,8,9,10,11,12] ?_
   iterate 12 (refine bX (v:=?_) (fun wS hSw=>?_) pt ?_;rotate_left;(obtain⟨s0,s1⟩:=hSw;go_simp;try with_reducible rfl);try simp only[ai,aj,ak,ar])
   refine aN ?_;refine ph (rs:=[4,13]) (by kernel_rfl) (by simp) (bP (i:=4) rfl (fun K hK=>?_) (bP (i:=13) rfl (fun K hK=>?_) o0))
   ·skip
    obtain⟨⟨-,r6⟩,-,-⟩:=ae HB.out.gu.1;go_simp;refine hK.out _ _ (pt) ?_;clear hK K pt r6;intro pt
    try simp only[ai,aj,ak,ar]
    refine aW 13 (fun K hK=>?_);go_simp;refine hK.out _ _ (kK pt (af _ _)) ?_;clear hK K pt;intro pt
    try simp only[ai,aj,ak,ar]
    have kV:=an W3 (.cells #[.pointer (some ⟨p0,0,none⟩)] 197);have bV:=af W3 (.cells #[.pointer (some ⟨p0,0,none⟩)] 197);have hvb: ∀q,¬Hr 2 W3.heap.size q:=fun q hh=>Nat.lt_irrefl _ (HB.out.Oj hh);generalize W3.alloc (.cells #[.pointer (some ⟨p0,0,none⟩)] 197)=W5 at kV bV pt⊢;obtain⟨VB,gA⟩: ∃y,W3.heap.size=y:=⟨_,rfl⟩;rw[gA]at kV hvb⊢;have HV:=al (ab kV hvb);have HB:=al (HB.out.below bV);clear kV bV gA hvb;refine aW 14 (fun K hK=>?_);go_simp;refine(iH W5 (Hr 2) _ (pr.map aL) 0 _ rfl (aL p0) VB HB.out.gu.2.2 (dj _) (by rw[fb];have:=HN.out.2.2.2.2.2.2.2.2.2.1;omega) (by rfl) (by simp[aL,Value.oneCell']) (bQ _) HV.out.1 HV.out.2).mono ?_;rintro e wn ⟨v6,rfl,bM,eA⟩;rw[dV]at bM;simp only[jj,fs,List.drop_zero]at bM;obtain⟨A7,c7,fy,-⟩:=bM.slice;obtain⟨n7,eY⟩: ∃y,((p0::pr).map aL).length=y:=⟨_,rfl⟩;rw[eY]at fy;subst fy;clear eY;have H6:=al (ab bM eA);clear bM eA
    try go_simp
    refine hK.out _ _ (dt pt H6.out.2 (fun hh=>HB.out.BG hh rfl) (fun hh=>HB.out.rR HM.out.2.2.2.2.2.2 hh)) ?_;clear hK K pt;intro pt
    try simp only[ai,aj,ak,ar]
    refine aM [15,16] ?_
    iterate 2 (refine bX (v:=?_) (fun wS hSw=>?_) pt ?_;rotate_left;(obtain⟨s0,s1⟩:=hSw;go_simp;try with_reducible rfl);try simp only[ai,aj,ak,ar])
    refine aN ?_;refine aW 17 (fun K hK=>?_);obtain⟨⟨-,r6⟩,-,rf⟩:=ae (H6.out.2.heap HB.out.gu.1 (fun q hh=>HB.out.BH hh rfl));go_simp;refine hK.out _ _ (dt pt (OnlyC.bp _ r 1 _) (fun e=>HB.out.e12 e.1) (fun e=>HB.out.wh HM.out.2.2.2.2.2.2 e.1)) ?_;clear hK K pt r6 rf;intro pt
    try simp only[ai,aj,ak,ar]
    refine pf (by kernel_rfl) ?_ _;have dU:=HB.out.k2 (aw _ _) H6.out.2 H6.out.1;clear pt;generalize wn.setCell ⟨r,1,none⟩ (.slice A7 n7 c7)=wB at dU⊢;have HB:=al dU;clear dU HV H6;obtain⟨⟨-,c2⟩,-,-⟩:=ae HB.out.ft.1;go_wp2_with fail;refine(iC wB (Hl 2) _ (pl.map aL) m1 _ _ (by simp) (by omega) HB.out.ft.2.2 (by rw[fb];have:=HM.out.2.1;omega) (by rw[fb];have:=HM.out.2.1;omega) (bQ _)).mono ?_;rintro e w9 ⟨v9,rfl,cu,eU⟩;rw[<-mc,<-kn,<-im]at cu;obtain⟨A8,c8,fQ,-⟩:=cu.slice;obtain⟨n8,fG⟩: ∃y,((pl.take m1++pl.drop (m1+1)).map aL).length=y:=⟨_,rfl⟩;rw[fG]at fQ;subst fQ;clear fG c2;have H9:=al (ab cu eU);clear cu eU;obtain⟨⟨-,c2⟩,-,f2⟩:=ae (H9.out.2.heap HB.out.ft.1 (fun q hh=>HB.out.vY hh rfl));go_wp2_with fail
    first|refine et (du rfl _ _ _) rfl ?_|refine dq (du rfl _ _ _) rfl ?_
    have zw:=HB.out.k1 (aw _ _) H9.out.2 (H9.out.1.mono (fun b q hh=>.inl hh));obtain⟨iX,uz,hp0,dX,hkk,jo,-⟩:=HM.out;have hlk:kl.ks.length=m1+1:=by rw[hkk,HN.out.2.2.2.2.2.2.1,iX]
    have hsub:bL w d p0 k0 (Hl (m1+3)):=(HA.out.2.2.1).2.2.2.2.2.1 m1 p0 k0 hp0 dX
    have hE:=fZ HA.out.1 HA.out.2.1 (by have:=HN.out.2.2.2.2.2.2.2.2.2.2.1;omega) HA.out.2.2.1 HA.out.2.2.2.1 HA.out.2.2.2.2.1 HA.out.2.2.2.2.2.1 zw m1 (m1+1) (by omega) (by omega) [] (fun _ _ _=>False) 0 0 (aq _) (dj _) [(p0,k0)] (pX (Hl (m1+3)) (fun _ _=>False)) rfl HA.out.2.2.2.2.2.2.1 HA.out.2.2.2.2.2.2.2.1 (by simp) (by simp) (fun _ _ _ h=>h.elim) (fun mm b q h=>match mm,h with|0,h=>⟨m1,aq _,by omega,h⟩|1,h=>h.elim|_+2,h=>h.elim) (fun _ _ _ _ h=>h.elim)
     (fun mm Eh b q h1 h2=>by
      match mm,h1,Eh,h2 with
      |0,_,0,_=>rfl
      |1,h1,_,_=>exact h1.elim
      |_+2,h1,_,_=>exact h1.elim
      |0,_,1,h2=>exact h2.elim
      |0,_,_+2,h2=>exact h2.elim)
     (fun mm p k hm=>by simp at hm)
     (fun mm p k hm=>by
      match mm,hm with
      |0,hm=>simp only[gr,fj,lP]at hm;obtain⟨rfl,rfl⟩:=hm;exact hsub
      |mm+1,hm=>simp at hm)
     (fun e=>by have h1:=HA.out.2.2.2.2.2.2.2.2.2.2.2.2.1 e;rw[h1]at hlk;simp at hlk) (fun e=>by have h1:=HA.out.2.2.2.2.2.2.2.2.2.2.2.2.1 e;rw[h1]at hlk;simp at hlk)
    have hd0:d≠0:=fun e=>by have h1:=HA.out.2.2.2.2.2.2.2.2.2.2.2.2.1 e;rw[h1]at hlk;simp at hlk
    rw[qg hd0 HN.out.2.2.2.2.2.2.1 HA.out.2.2.2.2.2.2.2.2.2.2.2.1 (by rw[hlk,iX]) (iX▸dX)];refine⟨rfl,?_,hE.2⟩;have h1:=hE.1;have Ei:kl.ks.drop (m1+1)=[]:=eS (by omega);simp only[Ei,jj,List.drop_zero,kb,lx,gd,fs,ox]at h1;rw[iX]at h1;exact h1
   ·skip
    go_simp;refine hK.out _ _ (kK pt (af _ _)) ?_;clear hK K pt;intro pt
    try simp only[ai,aj,ak,ar]
    have kV:=an W3 (.cells #[.pointer (some ⟨p0,0,none⟩)] 197);have bV:=af W3 (.cells #[.pointer (some ⟨p0,0,none⟩)] 197);have hvb: ∀q,¬Hr 2 W3.heap.size q:=fun q hh=>Nat.lt_irrefl _ (HB.out.Oj hh);generalize W3.alloc (.cells #[.pointer (some ⟨p0,0,none⟩)] 197)=W5 at kV bV pt⊢;obtain⟨VB,gA⟩: ∃y,W3.heap.size=y:=⟨_,rfl⟩;rw[gA]at kV hvb⊢;have HV:=al (ab kV hvb);have HB:=al (HB.out.below bV);clear kV bV gA hvb;refine aW 4 (fun K hK=>?_);obtain⟨⟨-,r6⟩,-,-⟩:=ae HB.out.gu.1;go_simp;refine hK.out _ _ (pt) ?_;clear hK K pt r6;intro pt
    try simp only[ai,aj,ak,ar]
    refine aW 14 (fun K hK=>?_);go_simp;refine(iH W5 (Hr 2) _ (pr.map aL) 0 _ rfl (aL p0) VB HB.out.gu.2.2 (dj _) (by rw[fb];have:=HN.out.2.2.2.2.2.2.2.2.2.1;omega) (by rfl) (by simp[aL,Value.oneCell']) (bQ _) HV.out.1 HV.out.2).mono ?_;rintro e wn ⟨v6,rfl,bM,eA⟩;rw[dV]at bM;simp only[jj,fs,List.drop_zero]at bM;obtain⟨A7,c7,fy,-⟩:=bM.slice;obtain⟨n7,eY⟩: ∃y,((p0::pr).map aL).length=y:=⟨_,rfl⟩;rw[eY]at fy;subst fy;clear eY;have H6:=al (ab bM eA);clear bM eA
    try go_simp
    refine hK.out _ _ (dt pt H6.out.2 (fun hh=>HB.out.BG hh rfl) (fun hh=>HB.out.rR HM.out.2.2.2.2.2.2 hh)) ?_;clear hK K pt;intro pt
    try simp only[ai,aj,ak,ar]
    refine aM [15,16] ?_
    iterate 2 (refine bX (v:=?_) (fun wS hSw=>?_) pt ?_;rotate_left;(obtain⟨s0,s1⟩:=hSw;go_simp;try with_reducible rfl);try simp only[ai,aj,ak,ar])
    refine aN ?_;refine aW 17 (fun K hK=>?_);obtain⟨⟨-,r6⟩,-,rf⟩:=ae (H6.out.2.heap HB.out.gu.1 (fun q hh=>HB.out.BH hh rfl));go_simp;refine hK.out _ _ (dt pt (OnlyC.bp _ r 1 _) (fun e=>HB.out.e12 e.1) (fun e=>HB.out.wh HM.out.2.2.2.2.2.2 e.1)) ?_;clear hK K pt r6 rf;intro pt
    try simp only[ai,aj,ak,ar]
    refine pf (by kernel_rfl) ?_ _;have dU:=HB.out.k2 (aw _ _) H6.out.2 H6.out.1;clear pt;generalize wn.setCell ⟨r,1,none⟩ (.slice A7 n7 c7)=wB at dU⊢;have HB:=al dU;clear dU HV H6;obtain⟨⟨-,c2⟩,-,-⟩:=ae HB.out.ft.1;go_wp2_with fail;refine(iC wB (Hl 2) _ (pl.map aL) m1 _ _ (by simp) (by omega) HB.out.ft.2.2 (by rw[fb];have:=HM.out.2.1;omega) (by rw[fb];have:=HM.out.2.1;omega) (bQ _)).mono ?_;rintro e w9 ⟨v9,rfl,cu,eU⟩;rw[<-mc,<-kn,<-im]at cu;obtain⟨A8,c8,fQ,-⟩:=cu.slice;obtain⟨n8,fG⟩: ∃y,((pl.take m1++pl.drop (m1+1)).map aL).length=y:=⟨_,rfl⟩;rw[fG]at fQ;subst fQ;clear fG c2;have H9:=al (ab cu eU);clear cu eU;obtain⟨⟨-,c2⟩,-,f2⟩:=ae (H9.out.2.heap HB.out.ft.1 (fun q hh=>HB.out.vY hh rfl));go_wp2_with fail
    first|refine et (du rfl _ _ _) rfl ?_|refine dq (du rfl _ _ _) rfl ?_
    have zw:=HB.out.k1 (aw _ _) H9.out.2 (H9.out.1.mono (fun b q hh=>.inl hh));obtain⟨iX,uz,hp0,dX,hkk,jo,-⟩:=HM.out;have hlk:kl.ks.length=m1+1:=by rw[hkk,HN.out.2.2.2.2.2.2.1,iX]
    have hsub:bL w d p0 k0 (Hl (m1+3)):=(HA.out.2.2.1).2.2.2.2.2.1 m1 p0 k0 hp0 dX
    have hE:=fZ HA.out.1 HA.out.2.1 (by have:=HN.out.2.2.2.2.2.2.2.2.2.2.1;omega) HA.out.2.2.1 HA.out.2.2.2.1 HA.out.2.2.2.2.1 HA.out.2.2.2.2.2.1 zw m1 (m1+1) (by omega) (by omega) [] (fun _ _ _=>False) 0 0 (aq _) (dj _) [(p0,k0)] (pX (Hl (m1+3)) (fun _ _=>False)) rfl HA.out.2.2.2.2.2.2.1 HA.out.2.2.2.2.2.2.2.1 (by simp) (by simp) (fun _ _ _ h=>h.elim) (fun mm b q h=>match mm,h with|0,h=>⟨m1,aq _,by omega,h⟩|1,h=>h.elim|_+2,h=>h.elim) (fun _ _ _ _ h=>h.elim)
     (fun mm Eh b q h1 h2=>by
      match mm,h1,Eh,h2 with
      |0,_,0,_=>rfl
      |1,h1,_,_=>exact h1.elim
      |_+2,h1,_,_=>exact h1.elim
      |0,_,1,h2=>exact h2.elim
      |0,_,_+2,h2=>exact h2.elim)
     (fun mm p k hm=>by simp at hm)
     (fun mm p k hm=>by
      match mm,hm with
      |0,hm=>simp only[gr,fj,lP]at hm;obtain⟨rfl,rfl⟩:=hm;exact hsub
      |mm+1,hm=>simp at hm)
     (fun e=>by have h1:=HA.out.2.2.2.2.2.2.2.2.2.2.2.2.1 e;rw[h1]at hlk;simp at hlk) (fun e=>by have h1:=HA.out.2.2.2.2.2.2.2.2.2.2.2.2.1 e;rw[h1]at hlk;simp at hlk)
    have hd0:d≠0:=fun e=>by have h1:=HA.out.2.2.2.2.2.2.2.2.2.2.2.2.1 e;rw[h1]at hlk;simp at hlk
    rw[qg hd0 HN.out.2.2.2.2.2.2.1 HA.out.2.2.2.2.2.2.2.2.2.2.2.1 (by rw[hlk,iX]) (iX▸dX)];refine⟨rfl,?_,hE.2⟩;have h1:=hE.1;have Ei:kl.ks.drop (m1+1)=[]:=eS (by omega);simp only[Ei,jj,List.drop_zero,kb,lx,gd,fs,ox]at h1;rw[iX]at h1;exact h1
 ·skip
  go_simp;refine hK.out _ _ (rz pt (af _ _)) ?_;clear hK K pt;intro pt
  try simp only[ai,aj,ak,ar]
  have kV:=an W3 (.cells #[.string ⟨s.1.toArray⟩,.string ⟨s.2.toArray⟩] 210);have bV:=af W3 (.cells #[.string ⟨s.1.toArray⟩,.string ⟨s.2.toArray⟩] 210);have hvb: ∀q,¬Hr 1 W3.heap.size q:=fun q hh=>Nat.lt_irrefl _ (HB.out.Uu hh);generalize W3.alloc (.cells #[.string ⟨s.1.toArray⟩,.string ⟨s.2.toArray⟩] 210)=W5 at kV bV pt⊢;obtain⟨VB,gA⟩: ∃y,W3.heap.size=y:=⟨_,rfl⟩;rw[gA]at kV hvb⊢;have HV:=al (ab kV hvb);have HB:=al (HB.out.below bV);clear kV bV gA hvb;refine aW 4 (fun K hK=>?_);obtain⟨⟨r6,-⟩,-,-⟩:=ae HB.out.gu.1;go_simp;refine hK.out _ _ (pt) ?_;clear hK K pt r6;intro pt
  try simp only[ai,aj,ak,ar]
  refine aW 14 (fun K hK=>?_);go_simp;refine(iG W5 (Hr 1) _ (kr.ps.map ax) 0 _ rfl (ax s) VB HB.out.gu.2.1 (dj _) (by rw[fb];omega) (by rfl) (by simp[ax,Value.oneCell']) (dA _) HV.out.1 HV.out.2).mono ?_;rintro e wn ⟨v6,rfl,bM,eA⟩;rw[dV]at bM;simp only[jj,fs,List.drop_zero]at bM;obtain⟨A6,c6,fy,-⟩:=bM.slice;obtain⟨n6,eY⟩: ∃y,((s::kr.ps).map ax).length=y:=⟨_,rfl⟩;rw[eY]at fy;subst fy;clear eY;have H6:=al (ab bM eA);clear bM eA
  try go_simp
  refine hK.out _ _ (gD pt H6.out.2 (fun hh=>HB.out.Ut hh rfl) (fun hh=>HB.out.rQ HP.out.1 hh) (fun hh=>HB.out.rQ HP.out.2 hh)) ?_;clear hK K pt;intro pt
  try simp only[ai,aj,ak,ar]
  refine aM [15,16] ?_
  iterate 2 (refine bX (v:=?_) (fun wS hSw=>?_) pt ?_;rotate_left;(obtain⟨s0,s1,s2⟩:=hSw;go_simp;try with_reducible rfl);try simp only[ai,aj,ak,ar])
  refine aN ?_;refine aW 17 (fun K hK=>?_);obtain⟨⟨r6,-⟩,rf,-⟩:=ae (H6.out.2.heap HB.out.gu.1 (fun q hh=>HB.out.Oi hh rfl));go_simp;refine hK.out _ _ (gD pt (OnlyC.bp _ r 0 _) (fun e=>HB.out.e02 e.1) (fun e=>HB.out.Hq HP.out.1 e.1) (fun e=>HB.out.Hq HP.out.2 e.1)) ?_;clear hK K pt r6 rf;intro pt
  try simp only[ai,aj,ak,ar]
  refine pf (by kernel_rfl) ?_ _;have dU:=HB.out.p2 (aw _ _) H6.out.2 H6.out.1;clear pt;generalize wn.setCell ⟨r,0,none⟩ (.slice A6 n6 c6)=w7 at dU⊢;have HB:=al dU;clear dU HV H6;obtain⟨c3,c4⟩:=(HB.out.ft.2.1.jS HA.out.2.2.2.2.2.2.2.2.2.2.2.1).1;obtain⟨⟨c1,-⟩,-,-⟩:=ae HB.out.kg.1;obtain⟨⟨c2,-⟩,-,-⟩:=ae HB.out.ft.1;have tS:=ab c1 (ab c2 (ab c3 c4));clear c1 c2 c3 c4;have HZ:=al (HB.out.ft.2.1.pF (i:=m) (by have:=HN.out.2.2.2.2.2.2.1;omega));go_upto_region 3 with fail;refine pb (S:=(fun W=>W.cell? ⟨a,0,none⟩=some (.slice (some ⟨bn,on,none⟩) np cn)/\W.cell? ⟨l,0,none⟩=some (.slice (some ⟨bl,ol,none⟩) nl cl)/\W.cell? ⟨bl,ol+m*2,none⟩=some (.string ⟨z.1.toArray⟩)/\W.cell? ⟨bl,ol+m*2+1,none⟩=some (.string ⟨z.2.toArray⟩))) (by kernel_rfl) tS (fun pt=>?_);generalize hW3:World.drew w7=W3 at pt⊢;have HB:=al (HB.out.below (w1:=W3) (hW3▸(aw _ _).drew));clear hW3 tS;refine aM [0,1,2,3,4,5,6,7,8,9,10,11,12,13] ?_
  iterate 14 (refine bX (v:=?_) (fun wS hSw=>?_) pt ?_;rotate_left;(obtain⟨s0,s1,s2,s3⟩:=hSw;go_simp;try with_reducible rfl);try simp only[ai,aj,ak,ar])
  refine aN ?_;refine aW 14 (fun K hK=>?_);obtain⟨⟨c5,c6⟩,f5,f6⟩:=HB.out.kg.2.1.jS HA.out.2.2.2.2.2.2.2.2.2.2.1;go_simp;refine hK.out _ _ (uu pt (HB.out.kg.2.1.fe (i:=i) z.1 z.2 (by have:=HN.out.2.2.2.2.2.2.2.2.2.2.1;have:=HN.out.2.2.2.2.2.2.2.2.2.2.2.1;omega)).2 (fun hh=>HB.out.Hp hh rfl) (fun hh=>HB.out.vX hh rfl) (fun hh=>HB.out.mG hh HZ.out.1) (fun hh=>HB.out.mG hh HZ.out.2)) ?_;clear hK K pt c5 c6 f5 f6;intro pt
  try simp only[ai,aj,ak,ar]
  refine pf (by kernel_rfl) ?_ _;have AB:=HB.out.i0 (HB.out.kg.2.1.fe (i:=i) z.1 z.2 (by have:=HN.out.2.2.2.2.2.2.2.2.2.2.1;have:=HN.out.2.2.2.2.2.2.2.2.2.2.2.1;omega)).2 (HB.out.kg.2.1.fe (i:=i) z.1 z.2 (by have:=HN.out.2.2.2.2.2.2.2.2.2.2.1;have:=HN.out.2.2.2.2.2.2.2.2.2.2.2.1;omega)).1;clear pt;generalize (W3.setCell ⟨bn,on+i*2,none⟩ (.string ⟨z.1.toArray⟩)).setCell ⟨bn,on+i*2+1,none⟩ (.string ⟨z.2.toArray⟩)=w8 at AB⊢;have HB:=al AB;clear AB HZ;obtain⟨⟨c2,-⟩,-,-⟩:=ae HB.out.ft.1;go_wp2_with fail;refine(kD w8 (Hl 1) _ (kl.ps.map ax) m _ _ rfl (by simp) HB.out.ft.2.1 (by rw[fb];have:=HN.out.2.2.2.2.2.2.1;omega) (by rw[fb];omega) (dA _)).mono ?_;rintro e w9 ⟨v9,rfl,cu,eU⟩;rw[<-mc,<-kn,<-im]at cu;have Ci:kl.ps.drop (m+1)=[]:=eS (by have:=HN.out.2.2.2.2.2.2.1;omega);rw[Ci,gd]at cu;obtain⟨A9,c9,fQ,-⟩:=cu.slice;obtain⟨n9,fG⟩: ∃y,((kl.ps.take m).map ax).length=y:=⟨_,rfl⟩;rw[fG]at fQ;subst fQ;clear fG Ci c2;have H9:=al (ab cu eU);clear cu eU;obtain⟨⟨c2,-⟩,f2,-⟩:=ae (H9.out.2.heap HB.out.ft.1 (fun q hh=>HB.out.BF hh rfl));go_upto_region 5 with fail;clear c2 f2;have hB4:=HB.out.p1 (aw _ _) H9.out.2 (H9.out.1.mono (fun b q hh=>.inl hh));generalize w9.setCell ⟨l,0,none⟩ (.slice A9 n9 c9)=wA at hB4⊢;have HB:=al hB4;clear hB4 H9;obtain⟨⟨-,c2⟩,-,-⟩:=ae HB.out.ft.1;by_cases hd:d=0
  ·subst hd;have e1:kl.ks=[]:=HA.out.2.2.2.2.2.2.2.2.2.2.2.2.1 rfl;have e2:kr.ks=[]:=HA.out.2.2.2.2.2.2.2.2.2.2.2.2.2 rfl;have dX:Cg=0:=by rw[HN.out.2.2.2.1,HN.out.2.2.2.2.2.2.2.2.1,e1];rfl
   subst dX;have iW:=al (dG wA l QA Al c2);have HE:=al (ab e1 e2);clear c2 e1 e2;go_wp2_with fail;refine iW.out.mono ?_;rintro e wZ ⟨rfl,Eg⟩;subst Eg;go_wp2_with fail
   first|refine et (du rfl _ _ _) rfl ?_|refine dq (du rfl _ _ _) rfl ?_
   obtain⟨e1,e2⟩:=HE.out;have hE:=fZ HA.out.1 HA.out.2.1 (by have:=HN.out.2.2.2.2.2.2.2.2.2.2.1;omega) HA.out.2.2.1 HA.out.2.2.2.1 HA.out.2.2.2.2.1 HA.out.2.2.2.2.2.1 HB.out 0 0 (aq _) (dj _) [] (fun _ _ _=>False) 0 0 (aq _) (dj _) [] (fun _ _ _=>False) rfl HA.out.2.2.2.2.2.2.1 HA.out.2.2.2.2.2.2.2.1 (by simp) (by simp) (fun _ _ _ h=>h.elim) (fun _ _ _ h=>h.elim) (fun _ _ _ _ h=>h.elim) (fun _ _ _ _ h=>h.elim) (fun m p k hm=>by simp at hm) (fun m p k hm=>by simp at hm) (by simp[e1]) (by simp[e2]);rw[Ca HN.out.2.2.2.2.2.2.1 HA.out.2.2.2.2.2.2.2.2.2.2.2.1];refine⟨rfl,?_,hE.2⟩;have h1:=hE.1;simp only[e1,e2,List.take_nil,List.drop_nil,kb,gd]at h1;exact h1
  ·have hkk:=HN.out.2.2.2.2.2.2.2.2.2.2.2.2.2 hd;obtain⟨m1,iX⟩: ∃y,y=m+1:=⟨_,rfl⟩;have uz:pl.length=m1+1:=by have:=HN.out.2.2.2.2.2.2.2.2.1;have:=HN.out.2.2.2.2.2.2.1;omega
   obtain⟨p0,hp0⟩: ∃p,pl[m1]?=some p:=⟨_,ao (by omega)⟩;obtain⟨k0,dX⟩: ∃p,kl.ks[m1]?=some p:=⟨_,ao (by have:=HN.out.2.2.2.2.2.2.2.2.1;omega)⟩;have zu:=HB.out;obtain⟨U4,U5,YR,e0,-,-,-⟩:=zu.ft.2.2.ptr hp0;simp only[gR]at e0;obtain⟨rfl,-,rfl⟩:=e0;have jo:Cg=m1+1:=by rw[HN.out.2.2.2.1];exact uz
   have iW:=al (eQ wA l Cg QA _ (by omega) c2);have HB:=al zu;have HM:=al (ab iX (ab uz (ab hp0 (ab dX (ab hkk (ab jo (zu.ft.2.2.Cc (i:=m1) (by omega))))))));have q1:(m:Int)+1=(m1:Int):=by omega
   have q2:m1<=901:=by have:=HN.out.2.2.2.2.2.2.1;omega
   obtain⟨q3,q4⟩:=JO m1 (by omega);have q5:(0:Int)<=(m1:Int):=by omega
   have q6:(m1:Int)<(Cg:Int):=by omega
   have q7:Cg<=902:=by omega
   clear zu iX uz hp0 dX hkk jo hd c2;go_wp2_with fail;refine iW.out.mono ?_;rintro e wZ ⟨rfl,Eg⟩;subst Eg;clear iW;obtain⟨⟨-,c1⟩,-,-⟩:=ae HB.out.ft.1;have tS:=ab c1 (HB.out.ft.2.2.Cb HM.out.2.2.1);clear c1;go_upto_region 6 with fail;refine pb (S:=(fun W=>W.cell? ⟨l,1,none⟩=some (.slice (some ⟨U4,U5,none⟩) Cg QA)/\W.cell? ⟨U4,U5+m1,none⟩=some (.pointer (some ⟨p0,0,none⟩)))) (by kernel_rfl) tS (fun pt=>?_);generalize hW3:World.drew wA=W3 at pt⊢;have HB:=al (HB.out.below (w1:=W3) (hW3▸(aw _ _).drew));clear hW3 tS;refine aM [0,1,2,3,5,6,7,8,9,10,11,12] ?_
   iterate 12 (refine bX (v:=?_) (fun wS hSw=>?_) pt ?_;rotate_left;(obtain⟨s0,s1⟩:=hSw;go_simp;try with_reducible rfl);try simp only[ai,aj,ak,ar])
   refine aN ?_;refine ph (rs:=[4,13]) (by kernel_rfl) (by simp) (bP (i:=4) rfl (fun K hK=>?_) (bP (i:=13) rfl (fun K hK=>?_) o0))
   ·skip
    obtain⟨⟨-,r6⟩,-,-⟩:=ae HB.out.gu.1;go_simp;refine hK.out _ _ (pt) ?_;clear hK K pt r6;intro pt
    try simp only[ai,aj,ak,ar]
    refine aW 13 (fun K hK=>?_);go_simp;refine hK.out _ _ (kK pt (af _ _)) ?_;clear hK K pt;intro pt
    try simp only[ai,aj,ak,ar]
    have kV:=an W3 (.cells #[.pointer (some ⟨p0,0,none⟩)] 197);have bV:=af W3 (.cells #[.pointer (some ⟨p0,0,none⟩)] 197);have hvb: ∀q,¬Hr 2 W3.heap.size q:=fun q hh=>Nat.lt_irrefl _ (HB.out.Oj hh);generalize W3.alloc (.cells #[.pointer (some ⟨p0,0,none⟩)] 197)=W5 at kV bV pt⊢;obtain⟨VB,gA⟩: ∃y,W3.heap.size=y:=⟨_,rfl⟩;rw[gA]at kV hvb⊢;have HV:=al (ab kV hvb);have HB:=al (HB.out.below bV);clear kV bV gA hvb;refine aW 14 (fun K hK=>?_);go_simp;refine(iH W5 (Hr 2) _ (pr.map aL) 0 _ rfl (aL p0) VB HB.out.gu.2.2 (dj _) (by rw[fb];have:=HN.out.2.2.2.2.2.2.2.2.2.1;omega) (by rfl) (by simp[aL,Value.oneCell']) (bQ _) HV.out.1 HV.out.2).mono ?_;rintro e wn ⟨v6,rfl,bM,eA⟩;rw[dV]at bM;simp only[jj,fs,List.drop_zero]at bM;obtain⟨A7,c7,fy,-⟩:=bM.slice;obtain⟨n7,eY⟩: ∃y,((p0::pr).map aL).length=y:=⟨_,rfl⟩;rw[eY]at fy;subst fy;clear eY;have H6:=al (ab bM eA);clear bM eA
    try go_simp
    refine hK.out _ _ (dt pt H6.out.2 (fun hh=>HB.out.BG hh rfl) (fun hh=>HB.out.rR HM.out.2.2.2.2.2.2 hh)) ?_;clear hK K pt;intro pt
    try simp only[ai,aj,ak,ar]
    refine aM [15,16] ?_
    iterate 2 (refine bX (v:=?_) (fun wS hSw=>?_) pt ?_;rotate_left;(obtain⟨s0,s1⟩:=hSw;go_simp;try with_reducible rfl);try simp only[ai,aj,ak,ar])
    refine aN ?_;refine aW 17 (fun K hK=>?_);obtain⟨⟨-,r6⟩,-,rf⟩:=ae (H6.out.2.heap HB.out.gu.1 (fun q hh=>HB.out.BH hh rfl));go_simp;refine hK.out _ _ (dt pt (OnlyC.bp _ r 1 _) (fun e=>HB.out.e12 e.1) (fun e=>HB.out.wh HM.out.2.2.2.2.2.2 e.1)) ?_;clear hK K pt r6 rf;intro pt
    try simp only[ai,aj,ak,ar]
    refine pf (by kernel_rfl) ?_ _;have dU:=HB.out.k2 (aw _ _) H6.out.2 H6.out.1;clear pt;generalize wn.setCell ⟨r,1,none⟩ (.slice A7 n7 c7)=wB at dU⊢;have HB:=al dU;clear dU HV H6;obtain⟨⟨-,c2⟩,-,-⟩:=ae HB.out.ft.1;go_wp2_with fail;refine(iC wB (Hl 2) _ (pl.map aL) m1 _ _ (by simp) (by omega) HB.out.ft.2.2 (by rw[fb];have:=HM.out.2.1;omega) (by rw[fb];have:=HM.out.2.1;omega) (bQ _)).mono ?_;rintro e w9 ⟨v9,rfl,cu,eU⟩;rw[<-mc,<-kn,<-im]at cu;obtain⟨A8,c8,fQ,-⟩:=cu.slice;obtain⟨n8,fG⟩: ∃y,((pl.take m1++pl.drop (m1+1)).map aL).length=y:=⟨_,rfl⟩;rw[fG]at fQ;subst fQ;clear fG c2;have H9:=al (ab cu eU);clear cu eU;obtain⟨⟨-,c2⟩,-,f2⟩:=ae (H9.out.2.heap HB.out.ft.1 (fun q hh=>HB.out.vY hh rfl));go_wp2_with fail
    first|refine et (du rfl _ _ _) rfl ?_|refine dq (du rfl _ _ _) rfl ?_
    have zw:=HB.out.k1 (aw _ _) H9.out.2 (H9.out.1.mono (fun b q hh=>.inl hh));obtain⟨iX,uz,hp0,dX,hkk,jo,-⟩:=HM.out;have hlk:kl.ks.length=m1+1:=by rw[hkk,HN.out.2.2.2.2.2.2.1,iX]
    have hsub:bL w d p0 k0 (Hl (m1+3)):=(HA.out.2.2.1).2.2.2.2.2.1 m1 p0 k0 hp0 dX
    have hE:=fZ HA.out.1 HA.out.2.1 (by have:=HN.out.2.2.2.2.2.2.2.2.2.2.1;omega) HA.out.2.2.1 HA.out.2.2.2.1 HA.out.2.2.2.2.1 HA.out.2.2.2.2.2.1 zw m1 (m1+1) (by omega) (by omega) [] (fun _ _ _=>False) 0 0 (aq _) (dj _) [(p0,k0)] (pX (Hl (m1+3)) (fun _ _=>False)) rfl HA.out.2.2.2.2.2.2.1 HA.out.2.2.2.2.2.2.2.1 (by simp) (by simp) (fun _ _ _ h=>h.elim) (fun mm b q h=>match mm,h with|0,h=>⟨m1,aq _,by omega,h⟩|1,h=>h.elim|_+2,h=>h.elim) (fun _ _ _ _ h=>h.elim)
     (fun mm Eh b q h1 h2=>by
      match mm,h1,Eh,h2 with
      |0,_,0,_=>rfl
      |1,h1,_,_=>exact h1.elim
      |_+2,h1,_,_=>exact h1.elim
      |0,_,1,h2=>exact h2.elim
      |0,_,_+2,h2=>exact h2.elim)
     (fun mm p k hm=>by simp at hm)
     (fun mm p k hm=>by
      match mm,hm with
      |0,hm=>simp only[gr,fj,lP]at hm;obtain⟨rfl,rfl⟩:=hm;exact hsub
      |mm+1,hm=>simp at hm)
     (fun e=>by have h1:=HA.out.2.2.2.2.2.2.2.2.2.2.2.2.1 e;rw[h1]at hlk;simp at hlk) (fun e=>by have h1:=HA.out.2.2.2.2.2.2.2.2.2.2.2.2.1 e;rw[h1]at hlk;simp at hlk)
    have hd0:d≠0:=fun e=>by have h1:=HA.out.2.2.2.2.2.2.2.2.2.2.2.2.1 e;rw[h1]at hlk;simp at hlk
    rw[qg hd0 HN.out.2.2.2.2.2.2.1 HA.out.2.2.2.2.2.2.2.2.2.2.2.1 (by rw[hlk,iX]) (iX▸dX)];refine⟨rfl,?_,hE.2⟩;have h1:=hE.1;have Ei:kl.ks.drop (m1+1)=[]:=eS (by omega);simp only[Ei,jj,List.drop_zero,kb,lx,gd,fs,ox]at h1;rw[iX]at h1;exact h1
   ·skip
    go_simp;refine hK.out _ _ (kK pt (af _ _)) ?_;clear hK K pt;intro pt
    try simp only[ai,aj,ak,ar]
    have kV:=an W3 (.cells #[.pointer (some ⟨p0,0,none⟩)] 197);have bV:=af W3 (.cells #[.pointer (some ⟨p0,0,none⟩)] 197);have hvb: ∀q,¬Hr 2 W3.heap.size q:=fun q hh=>Nat.lt_irrefl _ (HB.out.Oj hh);generalize W3.alloc (.cells #[.pointer (some ⟨p0,0,none⟩)] 197)=W5 at kV bV pt⊢;obtain⟨VB,gA⟩: ∃y,W3.heap.size=y:=⟨_,rfl⟩;rw[gA]at kV hvb⊢;have HV:=al (ab kV hvb);have HB:=al (HB.out.below bV);clear kV bV gA hvb;refine aW 4 (fun K hK=>?_);obtain⟨⟨-,r6⟩,-,-⟩:=ae HB.out.gu.1;go_simp;refine hK.out _ _ (pt) ?_;clear hK K pt r6;intro pt
    try simp only[ai,aj,ak,ar]
    refine aW 14 (fun K hK=>?_);go_simp;refine(iH W5 (Hr 2) _ (pr.map aL) 0 _ rfl (aL p0) VB HB.out.gu.2.2 (dj _) (by rw[fb];have:=HN.out.2.2.2.2.2.2.2.2.2.1;omega) (by rfl) (by simp[aL,Value.oneCell']) (bQ _) HV.out.1 HV.out.2).mono ?_;rintro e wn ⟨v6,rfl,bM,eA⟩;rw[dV]at bM;simp only[jj,fs,List.drop_zero]at bM;obtain⟨A7,c7,fy,-⟩:=bM.slice;obtain⟨n7,eY⟩: ∃y,((p0::pr).map aL).length=y:=⟨_,rfl⟩;rw[eY]at fy;subst fy;clear eY;have H6:=al (ab bM eA);clear bM eA
    try go_simp
    refine hK.out _ _ (dt pt H6.out.2 (fun hh=>HB.out.BG hh rfl) (fun hh=>HB.out.rR HM.out.2.2.2.2.2.2 hh)) ?_;clear hK K pt;intro pt
    try simp only[ai,aj,ak,ar]
    refine aM [15,16] ?_
    iterate 2 (refine bX (v:=?_) (fun wS hSw=>?_) pt ?_;rotate_left;(obtain⟨s0,s1⟩:=hSw;go_simp;try with_reducible rfl);try simp only[ai,aj,ak,ar])
    refine aN ?_;refine aW 17 (fun K hK=>?_);obtain⟨⟨-,r6⟩,-,rf⟩:=ae (H6.out.2.heap HB.out.gu.1 (fun q hh=>HB.out.BH hh rfl));go_simp;refine hK.out _ _ (dt pt (OnlyC.bp _ r 1 _) (fun e=>HB.out.e12 e.1) (fun e=>HB.out.wh HM.out.2.2.2.2.2.2 e.1)) ?_;clear hK K pt r6 rf;intro pt
    try simp only[ai,aj,ak,ar]
    refine pf (by kernel_rfl) ?_ _;have dU:=HB.out.k2 (aw _ _) H6.out.2 H6.out.1;clear pt;generalize wn.setCell ⟨r,1,none⟩ (.slice A7 n7 c7)=wB at dU⊢;have HB:=al dU;clear dU HV H6;obtain⟨⟨-,c2⟩,-,-⟩:=ae HB.out.ft.1;go_wp2_with fail;refine(iC wB (Hl 2) _ (pl.map aL) m1 _ _ (by simp) (by omega) HB.out.ft.2.2 (by rw[fb];have:=HM.out.2.1;omega) (by rw[fb];have:=HM.out.2.1;omega) (bQ _)).mono ?_;rintro e w9 ⟨v9,rfl,cu,eU⟩;rw[<-mc,<-kn,<-im]at cu;obtain⟨A8,c8,fQ,-⟩:=cu.slice;obtain⟨n8,fG⟩: ∃y,((pl.take m1++pl.drop (m1+1)).map aL).length=y:=⟨_,rfl⟩;rw[fG]at fQ;subst fQ;clear fG c2;have H9:=al (ab cu eU);clear cu eU;obtain⟨⟨-,c2⟩,-,f2⟩:=ae (H9.out.2.heap HB.out.ft.1 (fun q hh=>HB.out.vY hh rfl));go_wp2_with fail
    first|refine et (du rfl _ _ _) rfl ?_|refine dq (du rfl _ _ _) rfl ?_
    have zw:=HB.out.k1 (aw _ _) H9.out.2 (H9.out.1.mono (fun b q hh=>.inl hh));obtain⟨iX,uz,hp0,dX,hkk,jo,-⟩:=HM.out;have hlk:kl.ks.length=m1+1:=by rw[hkk,HN.out.2.2.2.2.2.2.1,iX]
    have hsub:bL w d p0 k0 (Hl (m1+3)):=(HA.out.2.2.1).2.2.2.2.2.1 m1 p0 k0 hp0 dX
    have hE:=fZ HA.out.1 HA.out.2.1 (by have:=HN.out.2.2.2.2.2.2.2.2.2.2.1;omega) HA.out.2.2.1 HA.out.2.2.2.1 HA.out.2.2.2.2.1 HA.out.2.2.2.2.2.1 zw m1 (m1+1) (by omega) (by omega) [] (fun _ _ _=>False) 0 0 (aq _) (dj _) [(p0,k0)] (pX (Hl (m1+3)) (fun _ _=>False)) rfl HA.out.2.2.2.2.2.2.1 HA.out.2.2.2.2.2.2.2.1 (by simp) (by simp) (fun _ _ _ h=>h.elim) (fun mm b q h=>match mm,h with|0,h=>⟨m1,aq _,by omega,h⟩|1,h=>h.elim|_+2,h=>h.elim) (fun _ _ _ _ h=>h.elim)
     (fun mm Eh b q h1 h2=>by
      match mm,h1,Eh,h2 with
      |0,_,0,_=>rfl
      |1,h1,_,_=>exact h1.elim
      |_+2,h1,_,_=>exact h1.elim
      |0,_,1,h2=>exact h2.elim
      |0,_,_+2,h2=>exact h2.elim)
     (fun mm p k hm=>by simp at hm)
     (fun mm p k hm=>by
      match mm,hm with
      |0,hm=>simp only[gr,fj,lP]at hm;obtain⟨rfl,rfl⟩:=hm;exact hsub
      |mm+1,hm=>simp at hm)
     (fun e=>by have h1:=HA.out.2.2.2.2.2.2.2.2.2.2.2.2.1 e;rw[h1]at hlk;simp at hlk) (fun e=>by have h1:=HA.out.2.2.2.2.2.2.2.2.2.2.2.2.1 e;rw[h1]at hlk;simp at hlk)
    have hd0:d≠0:=fun e=>by have h1:=HA.out.2.2.2.2.2.2.2.2.2.2.2.2.1 e;rw[h1]at hlk;simp at hlk
    rw[qg hd0 HN.out.2.2.2.2.2.2.1 HA.out.2.2.2.2.2.2.2.2.2.2.2.1 (by rw[hlk,iX]) (iX▸dX)];refine⟨rfl,?_,hE.2⟩;have h1:=hE.1;have Ei:kl.ks.drop (m1+1)=[]:=eS (by omega);simp only[Ei,jj,List.drop_zero,kb,lx,gd,fs,ox]at h1;rw[iX]at h1;exact h1
end Go.Proofs.YtagemonojdgbdaaGreatDoor
