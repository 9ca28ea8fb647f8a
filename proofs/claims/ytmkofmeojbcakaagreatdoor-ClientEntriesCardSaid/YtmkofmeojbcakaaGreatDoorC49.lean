import Derived.Test.YtmkofmeojbcakaaGreatDoorC48
namespace Go.Proofs.YtmkofmeojbcakaaGreatDoor
open Go.Proofs.Tryz
set_option maxRecDepth 100000
set_option maxHeartbeats 16000000
open Go.RowKit
section
open Go.RowKit Go.Maps Go.WideShapes
theorem TP{w:World}{X:Nat}{u:Value}{t:TypeId}(h:w.heap[X]?=some (.cells #[u] t (0,0))):Rd w (fun _=>True) (.slice (some ⟨X,0,none⟩) 1 1) [u]:=
 ⟨_,1,1,rfl,rfl,aE _,by simp[maxLen],fun _=>⟨X,0,rfl,trivial,fun i x hi=>by
  match i,hi with
  |0,hi=>
   simp at hi;subst hi
   simp[World.cell?,h]⟩⟩
theorem Fj(w:World):(Instr.field 56 (.agg #[.int .i64 30,.int .i64 2,.int .i64 100]) 2).run prog w=.ok (.int .i64 100) w:=by kernel_rfl
def iz(n:Nat):List (List UInt8):=List.replicate n [1]
theorem IE(n:Nat):iz n++[[1]]=iz (n+1):=List.replicate_succ'.symm
theorem Mc(w:World)(F:Nat->Prop)(vo va v:Value)(ops:List aO)(args:List Int)(xs:List Ln)(most tries t0 t1:Int)(ho:gu w F vo ops)(hof: ∀o∈ops,o.fits)(ha:Rd w F va (jc args))(hv:Ff w F v xs)
  (hs:gS w) (hn:kH w) (h10:gh w) (hE:oJ w):
  Calls prog 3 #[vo,.agg #[va,v,.int .i64 most,.int .i64 tries],.agg #[.int .i64 t0,.int .i64 t1]] w fun e w'=>e=.returned (.bool true)/\Below w.heap.size w w':=by
 obtain⟨A,c,rfl,-,-⟩:=yF hv;obtain⟨Aa,ca,rfl,-⟩:=pH ha;obtain⟨Ao,co,rfl,-,-⟩:=ho.slice;have HV:=al (ab ho (ab ha hv));have HT:=al (ab hs (ab hn (ab h10 (ab hE hof))));obtain⟨N,hN⟩:=qt (xs.length);obtain⟨Na,XX⟩:=qt (args.length);obtain⟨No,XY⟩:=qt (ops.length);have HNl:=al (ab XX XY);rw[hN,XX,XY]at HV⊢;obtain⟨hb0,k0⟩:=qn w (.cells #[.slice Aa Na ca,.slice A N c,.int .i64 most,.int .i64 tries] 28);obtain⟨hb1,k1⟩:=qn (w.alloc (.cells #[.slice Aa Na ca,.slice A N c,.int .i64 most,.int .i64 tries] 28)) (.cells #[.int .i64 t0,.int .i64 t1] 29);rw[show(w.alloc (.cells #[.slice Aa Na ca,.slice A N c,.int .i64 most,.int .i64 tries] 28)).heap.size=w.heap.size+1 by simp]at k1;have H0:=al (ab (hb0.x (hb1.m hb0.size)) (ab (pt hb1 k0) k1));clear hb0 k0 hb1 k1 ho ha hv hs hn h10 hE hof hN XX XY;go_enter func3,ntmps3;go_upto_region 1 with fail;have H1:=H0.o;clear H0;generalize (w.alloc (.cells #[.slice Aa Na ca,.slice A N c,.int .i64 most,.int .i64 tries] 28)).alloc (.cells #[.int .i64 t0,.int .i64 t1] 29)=w1 at H1⊢;obtain⟨hb1,kx,ky⟩:=H1;obtain⟨X,hX⟩:=qt (w.heap.size);rw[hX]at kx ky⊢;obtain⟨Y,hY⟩:=qt (X+1);rw[hY]at ky⊢;clear hX hY;obtain⟨⟨x0,x1,x2,x3⟩,-⟩:=cL kx;have H1:=al (ab hb1 (ab kx ky));clear hb1 kx ky;have HS:=al (Qk w1 F _ _ _ ops args xs most tries (aS.below HV.o.1 H1.o.1) (HV.o.2.1.below H1.o.1) (aS.below HV.o.d H1.o.1));go_wp2_with fail;refine HS.o.m ?_;rintro e w2 ⟨pc,A0,m0,k0,A1,m1,k1,p2,p3,b,rfl,hb2,Xi⟩;clear HS x0 x1 x2 x3;go_upto_region 2 with fail;obtain⟨hb3,k3⟩:=qn w2 (.cells #[.slice A0 m0 k0,.slice A1 m1 k1,.pointer p2,.pointer p3] 34);obtain⟨S,hS⟩:=qt (w2.heap.size);rw[hS]at k3⊢;generalize w2.alloc (.cells #[.slice A0 m0 k0,.slice A1 m1 k1,.pointer p2,.pointer p3] 34)=w3 at hb3 k3⊢;have gy:=hb2.x (hb3.m hb2.size);have H3:=al (ab (H1.o.1.x (gy.m H1.o.1.size)) (ab (pt gy H1.o.2.1) (ab (pt gy H1.o.d) (ab k3 (ab hS (ab H1.o.1.size (ab (aQ H1.o.2.1) (ab (aQ H1.o.d) hb3))))))));clear hb2 hb3 k3 hS gy H1;have y0:w3.cell? ⟨Y,0,none⟩=some (.int .i64 t0):=by simp[World.cell?,H3.o.d.1]
 have y1:w3.cell? ⟨Y,1,none⟩=some (.int .i64 t1):=by simp[World.cell?,H3.o.d.1]
 rcases(show b=false\/b=true/\t0<0\/b=true/\ ¬t0<0/\20<t0\/b=true/\ ¬t0<0/\ ¬20<t0/\t1<0\/b=true/\ ¬t0<0/\ ¬20<t0/\ ¬t1<0/\20<t1\/b=true/\ ¬t0<0/\ ¬20<t0/\ ¬t1<0/\ ¬20<t1 from by cases b<;>simp<;>omega)with rfl|⟨rfl,g0⟩|⟨rfl,g0,g1⟩|⟨rfl,g0,g1,g2⟩|⟨rfl,g0,g1,g2,g3⟩|⟨rfl,g0,g1,g2,g3⟩
 rotate_right
 ·obtain⟨n0,rfl⟩: ∃n:Nat,t0=(n:Int):=⟨t0.toNat,by omega⟩;obtain⟨n1,rfl⟩: ∃n:Nat,t1=(n:Int):=⟨t1.toNat,by omega⟩;have hn0:n0<=20:=by omega
  have sK:n1<=20:=by omega
  obtain⟨R,m,L,T,FT,l,rfl,rfl,rfl,hl,hM,Zi,hLm,TM,hL3,Ti,hT3,qi⟩:=Xi rfl;have HM:=al (ab (CL hl) (ab hM (ab hn0 sK)));obtain⟨hb3,kx,ky,ks,hS,h1s,XK,hYl,hbb⟩:=H3.o;have Fx:R<w2.heap.size:=aQ Ti.1;have HP:=al (show L<m/\m<R/\R<w3.heap.size/\w.heap.size<=L from by have:=hbb.size;exact⟨by omega,by omega,by omega,by omega⟩)
  have HA:=al (show ∀W,Only (fun k=>k=L\/k=R\/k=m) w3 W->(W.cell? ⟨X,0,none⟩=some (.slice Aa Na ca)/\W.cell? ⟨Y,0,none⟩=some (.int .i64 (n0:Int))/\W.cell? ⟨Y,1,none⟩=some (.int .i64 (n1:Int))/\W.cell? ⟨S,2,none⟩=some (.pointer (some ⟨T,0,none⟩))/\W.cell? ⟨S,3,none⟩=some (.pointer (some ⟨L,0,none⟩)))/\cd W T most 3 l FT/\Below w.heap.size w W from fun W ho=>by
   have dd: ∀k,k<w1.heap.size\/k=S-> ¬((fun k=>k=L\/k=R\/k=m) k):=fun k hk e=>by have:=h1s;rcases hk with hk|hk<;>rcases e with e|e|e<;>omega
   have qx:=ho.heap kx (dd X (.inl XK));have qy:=ho.heap ky (dd Y (.inl hYl));have qs:=ho.heap ks (dd S (.inr rfl));refine⟨⟨?_,?_,?_,?_,?_⟩,(hT3.below hbb).eJ ho (fun b q hb e=>?_),hb3.x (ho.aG hb3.size (fun k hk e=>?_))⟩
   ·simp[World.cell?,qx]
   ·simp[World.cell?,qy]
   ·simp[World.cell?,qy]
   ·simp[World.cell?,qs]
   ·simp[World.cell?,qs]
   ·have:=qi b q hb;rcases e with e|e|e<;>omega
   ·rcases e with e|e|e<;>omega)
  have HL0:=al (show fw w3 (fun k=>k=L\/w3.heap.size<=k) L (iz 0)/\CE w3 R L 100 tries m from⟨(zw.atR (hL3.below hbb)).m (fun k h=>.inl h),Ti.below hbb⟩);have HFT:=al (show ∀b q,FT b q->b<w3.heap.size from fun b q h=>by have:=qi b q h;have:=hbb.size;omega);clear Xi hl hM hn0 sK Zi hLm TM hL3 Ti hT3 qi hb3 kx ky ks hS h1s XK hYl hbb Fx;go_wp2_with fail;clear y0 y1 g0 g1 g2 g3
  go_loopw [10] (fun i wr=> ∃j:Nat,j<=n0/\i=.int .i64 (j:Int)/\Only (fun k=>k=L\/k=R\/k=m) w3 wr/\fw wr (fun k=>k=L\/w3.heap.size<=k) L (iz j)/\CE wr R L 100 tries m) (fun i _=>n0-(intOf i).toNat)
  case atStart=>exact⟨0,by omega,rfl,ox _ _,HL0.o⟩
  case round=>
   obtain⟨j,hj,rfl,sM,hLj,hCj⟩:=hrel;obtain⟨⟨x0,y0,y1,s2,s3⟩,-,-⟩:=HA.o wr sM;have HW:=al (ab sM (ab hLj hCj));clear sM hLj hCj x0;by_cases hlt:j<n0
   ·have NR:=HM.o.d.1;obtain⟨hb,kb⟩:=qn wr (.cells #[.int .u8 1] 5);have HG:=al (tR _ _ L _ (HW.o.2.1.below hb) (by simp[iz];have:=HM.o.d.1;omega) _ _ 1 1 [1] (TP kb) (by decide));have HB:=al hb;clear hb kb;have i1:(j:Int)<(n0:Int):=by omega
    go_wp2_with fail;refine HG.o.m ?_;rintro e wq ⟨rfl,QH,FL,hLq,hFq⟩;have hb0:=HB.o.size
    have HQ:=al (show Only (fun k=>k=L\/k=R\/k=m) w3 wq/\fw wq (fun k=>k=L\/w3.heap.size<=k) L (iz (j+1))/\CE wq R L 100 tries m from by
     have h3:=HW.o.1.size;obtain⟨p1,p2,p3,p4⟩:=HP.o;have hC:=HW.o.d.below HB.o;refine⟨(HW.o.1.x (pw HB.o) (fun _ _ h=>h.elim)).x QH (fun k hk h=>by rcases h with h|h;exact .inl h;omega),?_,QH.heap hC.1 (fun e=>by rcases e with e|e<;>omega),hC.2.only QH (fun e=>by rcases e with e|e<;>omega)⟩;rw[<-IE]
     exact hLq.m (fun k hk=>by rcases hFq k hk with h|h;exact h;exact .inr (by omega)))
    clear QH hLq hFq hb0 HG HW HB y0 y1 s2 s3 i1;go_wp2_with fail;go_roundw
    case rel=>exact⟨j+1,by omega,by go_num,HQ.o⟩
    case measure=>simp[intOf];omega
   ·obtain rfl:n0=j:=by omega
    obtain⟨w4,rfl⟩:=qS (wr);go_wp2_with fail;clear y0 y1 s2 s3 hlt
    go_loopw [11] (fun i W=> ∃n:Nat,n<=n1/\i=.int .i64 (n:Int)/\Only (fun k=>k=R) w4 W/\ ∃qs,qs.length=n/\lC W R L 100 tries m w4.heap.size qs) (fun i _=>n1-(intOf i).toNat)
    case atStart=>exact⟨0,by omega,rfl,ox _ _,[],rfl,lC.of HW.o.d _⟩
    case round=>
     obtain⟨n,hn,rfl,qR,qs,hq,hcl⟩:=hrel;have sM:=HW.o.1.x qR (fun _ _ h=>.inr (.inl h));obtain⟨⟨x0,y0,y1,s2,s3⟩,Xj,hbl⟩:=HA.o wr sM;have HQ:=al (ab hq (ab hcl (ab qR (ab hbl (ab sM (show w4.heap.size<=wr.heap.size/\R<w4.heap.size from⟨qR.size,cq HP.o.d.1 HW.o.1.size⟩))))));have Fl:=al HM.o.t;have H4:=al hn;clear qR hcl Xj hbl sM hn;by_cases hlt:n<n1
     ·have NR:=Fl.o;have i1:(n:Int)<(n1:Int):=by omega
      have HS:=al (rz wr (fun _=>True) R L 100 tries m w4.heap.size qs HQ.o.2.1 HQ.o.q.2.1 HQ.o.q.d (by have:=Fl.o;omega) [] [] (.slice none 0 0) (.slice none 0 0) ⟨aS.nil _ _ _,Rd.nil _ _,aS.nil _ _ _,(show yn (qs.length:Int)from⟨by omega,by have:=Fl.o;omega⟩),by simp,by simp,by simp⟩ (by
       have:=iw (id:=(qs.length:Int)) (ops:=[]) (args:=[]) (l:=[]) ⟨by omega,by have:=Fl.o;omega⟩ (by decide) (by decide) (by simp) Good.nil (by rw[gT];decide);rw[gT]at this
       exact this) (HT.o.1.below HQ.o.t.1) (by decide) (by decide))
      clear hq x0 s2 s3;go_wp2_with fail;refine HS.o.m ?_;rintro e wq ⟨rfl,Q,A1,c1,A2,c2,hcq,-,-,-,-,QH⟩;have HR:=al (show Only (fun k=>k=R) w4 wq/\ ∃qs,qs.length=n+1/\lC wq R L 100 tries m w4.heap.size qs from⟨HQ.o.d.1.x QH (fun k hk h=>h.elim id (fun h=>by omega)),qs++[Q],by simp[HQ.o.1],hcq⟩);clear hcq QH HS y0 y1 i1;go_wp2_with fail;go_roundw
      case rel=>exact⟨n+1,by omega,by go_num,HR.o⟩
      case measure=>simp[intOf];omega
     ·obtain rfl:n=n1:=by have:=H4.o;omega
      obtain⟨w5,rfl⟩:=qS (wr);have hM:=HM.o.2.1;have h64:=(p8 hM.2.1).1
      have HS:=al (rz w5 F R L 100 tries m w4.heap.size qs HQ.o.2.1 HQ.o.q.2.1 HQ.o.q.d (by have:=Fl.o;omega) ops args (.slice Ao No co) (.slice Aa Na ca) ⟨aS.below HV.o.1 HQ.o.t.1,HV.o.2.1.below HQ.o.t.1,aS.nil _ _ _,(show yn (qs.length:Int)from⟨by omega,by have:=Fl.o;omega⟩),HT.o.q,fun n hn=>by have:=hM.1 n hn;unfold aK at this;exact⟨by omega,by omega⟩,by simp⟩ (by
       have:=iw (id:=(qs.length:Int)) (ops:=ops) (args:=args) (l:=[]) ⟨by omega,by have:=Fl.o;omega⟩ hM.2.1 hM.2.2.1 hM.1 Good.nil (by rw[gT];decide);rw[gT]at this
       exact this) (HT.o.1.below HQ.o.t.1) (by omega) (by have:=hM.2.2.1;omega))
      clear hM h64 hlt;go_wp2_with fail;refine HS.o.m ?_;rintro e w6 ⟨rfl,Q,A1,c1,A2,c2,hcl,hQ0,hQ,ho,ha,QH⟩;rw[hq];have XJ:Only (fun k=>k=R) w4 w6:=HQ.o.d.1.x QH (fun k hk h=>h.elim id (fun h=>by omega));have h36:=HW.o.1.x XJ (fun _ _ h=>.inr (.inl h));obtain⟨p1,p2,p3,p4⟩:=HP.o;have acb:=HW.o.1.size;have acd:=HQ.o.q.2.1;have hap: ¬((R=L\/w3.heap.size<=R)/\R<w4.heap.size)/\ ¬((m=L\/w3.heap.size<=m)/\m<w4.heap.size)/\ ¬((Q=L\/w3.heap.size<=Q)/\Q<w4.heap.size)/\m≠R/\m≠Q/\R≠Q/\m<w4.heap.size/\ ∀k,(fun k=>(k=L\/w3.heap.size<=k)/\k<w4.heap.size) k->k<w4.heap.size:=⟨fun h=>by omega,fun h=>by omega,fun h=>by omega,by omega,by omega,by omega,by omega,fun k h=>h.2⟩;obtain⟨⟨x0,y0,y1,s2,s3⟩,Xj,hbl⟩:=HA.o w6 h36;have hM:=HM.o.2.1;have Q5:=(HW.o.2.1.bound.only XJ (fun k hk e=>by have hk:(k=L\/w3.heap.size<=k)/\k<w4.heap.size:=hk;have e:k=R:=e;omega));have hmp:=HW.o.t.only XJ (fun e=>by have e:m=R:=e;omega);have HY:=al (J0 (w:=w6) (n:=n) (f:=100) (tr:=tries) (o:=3) ops args (iz n0) hcl (by rw[<-hq];simp) (by have:=Fl.o;omega) hQ hmp Q5 (by have:=HM.o.d.1;simp[iz];omega) (HT.o.2.1.below hbl) hap HT.o.q (G:=fun k=>k<w6.heap.size) (aS.m (aS.bound ho (gm _) (by decide)) (fun k hk=>hk.2)) (fun k hk=>hk) hM.2.1 (HT.o.1.below hbl) ha hM.2.2.1 hM.1 (by decide) Xj (fun b q hb=>cq (HFT.o b q hb) h36.size) HM.o.1 (HT.o.d.1.below hbl) (HT.o.t.1.below hbl));have H6:=al (ab h36 (show w3.heap.size<=Q by omega));clear hcl hQ0 hQ ho ha QH XJ h36 acb acd hap Xj hbl hM Q5 hmp HS p1 p2 p3 p4 hq x0;go_wp2_with fail;refine HY.o.m ?_;rintro e w7 ⟨rfl,-,-,FL,-,-,-,-,-,hL7,SC⟩
      have h37:=H6.o.1.x SC (fun k hk h=>by
       have h:((k=L\/w3.heap.size<=k)/\k<w4.heap.size)\/k=m\/k=Q:=h;have:=H6.o.2;rcases h with⟨h|h,-⟩|h|h
       ·exact .inl h
       ·omega
       ·exact .inr (.inr h)
       ·omega)
      rw[show((iz n0).length:Int)=(n0:Int) by simp[iz]];obtain⟨⟨x0,y0,y1,s2,s3⟩,Xj,hbl⟩:=HA.o w7 h37;obtain⟨l1,C4⟩:=qt (aX (vw most 100 (fun _=>true) ops args l).1.cl);have hF7: ∀b q,FT b q->b<w7.heap.size:=fun b q hb=>cq (HFT.o b q hb) h37.size;have XZ:=al (fun(W:World) (hb:Below w7.heap.size w7 W)=>JW (w:=W) (G:=fun k=>F k/\k<w.heap.size) (F:=F) (n:Int) ops (.slice Ao No co) (.slice Aa Na ca) args 100 ⟨by omega,by have:=Fl.o;omega⟩ HT.o.q (aS.below (aS.bound HV.o.1 (gm _) (by decide)) (hbl.x (hb.m hbl.size))) (fun k hk=>by have:=hk.2;have:=hbl.size;have:=hb.size;omega) HM.o.2.1.2.1 (HT.o.1.below (hbl.x (hb.m hbl.size))) (HV.o.2.1.below (hbl.x (hb.m hbl.size))) HM.o.2.1.2.2.1 HM.o.2.1.1 (by decide) (Xj.below hb) (fun b q hq=>cq (hF7 b q hq) hb.size) HM.o.1 (HT.o.d.1.below (hbl.x (hb.m hbl.size))) (HT.o.t.1.below (hbl.x (hb.m hbl.size))));have X0:=al (fun(cl:List Cl) (hg:Good cl) (h64:(aX cl).length<=64)=>iw (id:=(n:Int)) (l:=cl) ⟨by omega,by have:=Fl.o;omega⟩ HM.o.2.1.2.1 HM.o.2.1.2.2.1 HM.o.2.1.1 hg h64);rw[C4]at hL7;have fu:=al (ab hL7 hbl);have HCf:=l8;unfold rK at HCf;have HCg:=al HCf;have HZ:=al (ab x0 (ab y0 (ab y1 (ab s2 s3))));have HK1:=al C4;clear hL7 SC h37 Xj hbl hF7 HCf HY C4 x0 y0 y1 s2 s3;go_upto_region 14 with fail;refine o0 (S:=(fun w'=>Below w7.heap.size w7 w')) (by kernel_rfl) ((aw _ _).drew) (fun ph=>?_);refine dR 0 (v:=?_) (fun wS hSw=>?_) ph ?_;rotate_left
      ·go_simp;try rfl
      try simp only[ai,aj,ak,ar]
      refine dR 1 (v:=?_) (fun wS hSw=>?_) ph ?_;rotate_left
      ·have c0:=ah hSw HZ.o.d.1;go_simp;try rfl
      try simp only[ai,aj,ak,ar]
      refine aI [2,3] ?_
      iterate 2 (refine bO (v:=?_) (fun wS hSw=>?_) ph ?_;rotate_left;(go_simp;try rfl);try simp only[ai,aj,ak,ar])
      refine aJ ?_;refine dR 4 (v:=?_) (fun wS hSw=>?_) ph ?_;rotate_left
      ·have c0:=ah hSw HZ.o.1;go_simp;try rfl
      try simp only[ai,aj,ak,ar]
      refine dR 5 (v:=?_) (fun wS hSw=>?_) ph ?_;rotate_left
      ·go_simp;try rfl
      try simp only[ai,aj,ak,ar]
      refine dR 6 (v:=?_) (fun wS hSw=>?_) ph ?_;rotate_left
      ·have c0:=ah hSw HZ.o.t.1;go_simp;try rfl
      try simp only[ai,aj,ak,ar]
      refine pf (rs:=[7,13]) (by kernel_rfl) (by simp) (bE (i:=7) rfl (fun K hK=>?_) (bE (i:=13) rfl (fun K hK=>?_) oT))
      focus
       go_simp;refine(HCg.o _).m ?_;rintro e wn ⟨rfl,aR⟩;have HW:=al (da ph.size aR.size)
       try go_simp
       refine hK.o _ _ (ph.x (aR.m ph.size)) ?_;clear hK K ph aR;intro ph
       try simp only[ai,aj,ak,ar]
       refine dR 8 (v:=?_) (fun wS hSw=>?_) ph ?_;rotate_left
       ·have hfd:=Fj;go_simp;try rfl
       try simp only[ai,aj,ak,ar]
       refine pf (rs:=[9,13]) (by kernel_rfl) (by simp) (bE (i:=9) rfl (fun K hK=>?_) (bE (i:=13) rfl (fun K hK=>?_) oT))
       focus
        go_simp;refine(XZ.o _ ph).m ?_;rintro e wn ⟨B1,d1,B2,d2,B3,d3,A4,d4,rfl,hE,iy,sN,aR⟩;obtain⟨p,hp⟩:=qt (vw most 100 (fun _=>true) ops args l);have UL:=al HK1.o;rw[hp]at hE iy sN⊢;obtain⟨cl,hcl⟩:=qt (aX p.1.cl);obtain rfl:l1=cl:=by rw[<-hcl,<-hp];exact UL.o.symm
        obtain⟨v1,hv1⟩:=qt (CJ p);obtain⟨s1,hs1⟩:=qt (p.1.steps);obtain⟨e1,yg⟩:=qt (p.2);have hz0:=X0.o p.1.cl sN iy;rw[hcl]at hE iy hz0⊢;rw[hv1,hs1,yg];have HW:=al (da ph.size aR.size);have HE:=al (ab (dD.mono (G':=fun _=>True) hE (fun _ _=>trivial)) (ab iy hz0));clear hE iy sN hz0 hp hcl hv1 hs1 yg UL
        try go_simp
        refine hK.o _ _ (ph.x (aR.m ph.size)) ?_;clear hK K ph aR;intro ph
        try simp only[ai,aj,ak,ar]
        refine aI [10,11,12] ?_
        iterate 3 (refine bO (v:=?_) (fun wS hSw=>?_) ph ?_;rotate_left;(go_simp;try rfl);try simp only[ai,aj,ak,ar])
        refine aJ ?_;refine aW 13 (fun K hK=>?_);go_simp;refine hK.o _ _ (ph.x ((ae _ _).m ph.size)) ?_;clear hK K ph;intro ph
        try simp only[ai,aj,ak,ar]
        have HE:=al (ab (dD.below (dD.mono (G':=fun k=>k≠wn.heap.size) HE.o.1.bound (fun k hk e=>by have:=hk.2;omega)) (ae wn (.cells #[.int .i64 0,.slice none 0 0,.slice none 0 0,.slice none 0 0,.int .i64 0,.int .i64 0,.slice none 0 0,.int .i64 0] 52))) HE.o.2);have kp:(wn.alloc (.cells #[.int .i64 0,.slice none 0 0,.slice none 0 0,.slice none 0 0,.int .i64 0,.int .i64 0,.slice none 0 0,.int .i64 0] 52)).heap[wn.heap.size]?=_:=an wn (.cells #[.int .i64 0,.slice none 0 0,.slice none 0 0,.slice none 0 0,.int .i64 0,.int .i64 0,.slice none 0 0,.int .i64 0] 52);obtain⟨P,hP⟩:=qS (wn.heap.size);have yL:=al (show w7.heap.size<=P by have:=HW.o;omega);rw[<-hP]at kp HE;rw[show(⟨wn.heap.size,0,none⟩:Addr)=⟨P,0,none⟩ by rw[hP]];generalize wn.alloc (.cells #[.int .i64 0,.slice none 0 0,.slice none 0 0,.slice none 0 0,.int .i64 0,.int .i64 0,.slice none 0 0,.int .i64 0] 52)=wn at kp ph HE⊢;have KP:=al kp;clear kp hP
       rotate_left
       focus
        go_simp;refine hK.o _ _ (ph.x ((ae _ _).m ph.size)) ?_;clear hK K ph;intro ph
        try simp only[ai,aj,ak,ar]
        have kp:(wn.alloc (.cells #[.int .i64 0,.slice none 0 0,.slice none 0 0,.slice none 0 0,.int .i64 0,.int .i64 0,.slice none 0 0,.int .i64 0] 52)).heap[wn.heap.size]?=_:=an wn (.cells #[.int .i64 0,.slice none 0 0,.slice none 0 0,.slice none 0 0,.int .i64 0,.int .i64 0,.slice none 0 0,.int .i64 0] 52);obtain⟨P,hP⟩:=qS (wn.heap.size);have yL:=al (show w7.heap.size<=P by have:=HW.o;omega);rw[<-hP]at kp;rw[show(⟨wn.heap.size,0,none⟩:Addr)=⟨P,0,none⟩ by rw[hP]];generalize wn.alloc (.cells #[.int .i64 0,.slice none 0 0,.slice none 0 0,.slice none 0 0,.int .i64 0,.int .i64 0,.slice none 0 0,.int .i64 0] 52)=wn at kp ph⊢;have KP:=al kp;clear kp hP;refine aW 9 (fun K hK=>?_);go_simp;refine(XZ.o _ ph).m ?_;rintro e wn ⟨B1,d1,B2,d2,B3,d3,A4,d4,rfl,hE,iy,sN,aR⟩;obtain⟨p,hp⟩:=qt (vw most 100 (fun _=>true) ops args l);have UL:=al HK1.o;rw[hp]at hE iy sN⊢;obtain⟨cl,hcl⟩:=qt (aX p.1.cl);obtain rfl:l1=cl:=by rw[<-hcl,<-hp];exact UL.o.symm
        obtain⟨v1,hv1⟩:=qt (CJ p);obtain⟨s1,hs1⟩:=qt (p.1.steps);obtain⟨e1,yg⟩:=qt (p.2);have hz0:=X0.o p.1.cl sN iy;rw[hcl]at hE iy hz0⊢;rw[hv1,hs1,yg];have HW:=al (da ph.size aR.size);have HE:=al (ab (dD.mono (G':=fun k=>k≠P) hE (fun k hk e=>by have:=aQ KP.o;omega)) (ab iy hz0));clear hE iy sN hz0 hp hcl hv1 hs1 yg UL;have KP:=al (pt aR KP.o)
        try go_simp
        refine hK.o _ _ (ph.x (aR.m ph.size)) ?_;clear hK K ph aR;intro ph
        try simp only[ai,aj,ak,ar]
        refine aI [10,11,12] ?_
        iterate 3 (refine bO (v:=?_) (fun wS hSw=>?_) ph ?_;rotate_left;(go_simp;try rfl);try simp only[ai,aj,ak,ar])
        refine aJ ?_
      rotate_left 2
      focus
       go_simp;refine hK.o _ _ (ph.x ((ae _ _).m ph.size)) ?_;clear hK K ph;intro ph
       try simp only[ai,aj,ak,ar]
       have kp:((w7.alloc (.cells #[.int .i64 0,.slice none 0 0,.slice none 0 0,.slice none 0 0,.int .i64 0,.int .i64 0,.slice none 0 0,.int .i64 0] 52)).drew).heap[w7.heap.size]?=_:=an w7 (.cells #[.int .i64 0,.slice none 0 0,.slice none 0 0,.slice none 0 0,.int .i64 0,.int .i64 0,.slice none 0 0,.int .i64 0] 52);obtain⟨P,hP⟩:=qS (w7.heap.size);have yL:=al (show w7.heap.size<=P by omega);rw[<-hP]at kp;rw[show(⟨w7.heap.size,0,none⟩:Addr)=⟨P,0,none⟩ by rw[hP]];generalize (w7.alloc (.cells #[.int .i64 0,.slice none 0 0,.slice none 0 0,.slice none 0 0,.int .i64 0,.int .i64 0,.slice none 0 0,.int .i64 0] 52)).drew=wn at kp ph⊢;have KP:=al kp;clear kp hP;refine aW 7 (fun K hK=>?_);go_simp;refine(HCg.o _).m ?_;rintro e wn ⟨rfl,aR⟩;have HW:=al (da ph.size aR.size);have KP:=al (pt aR KP.o)
       try go_simp
       refine hK.o _ _ (ph.x (aR.m ph.size)) ?_;clear hK K ph aR;intro ph
       try simp only[ai,aj,ak,ar]
       refine dR 8 (v:=?_) (fun wS hSw=>?_) ph ?_;rotate_left
       ·have hfd:=Fj;go_simp;try rfl
       try simp only[ai,aj,ak,ar]
       refine aW 9 (fun K hK=>?_);go_simp;refine(XZ.o _ ph).m ?_;rintro e wn ⟨B1,d1,B2,d2,B3,d3,A4,d4,rfl,hE,iy,sN,aR⟩;obtain⟨p,hp⟩:=qt (vw most 100 (fun _=>true) ops args l);have UL:=al HK1.o;rw[hp]at hE iy sN⊢;obtain⟨cl,hcl⟩:=qt (aX p.1.cl);obtain rfl:l1=cl:=by rw[<-hcl,<-hp];exact UL.o.symm
       obtain⟨v1,hv1⟩:=qt (CJ p);obtain⟨s1,hs1⟩:=qt (p.1.steps);obtain⟨e1,yg⟩:=qt (p.2);have hz0:=X0.o p.1.cl sN iy;rw[hcl]at hE iy hz0⊢;rw[hv1,hs1,yg];have HW:=al (da ph.size aR.size);have HE:=al (ab (dD.mono (G':=fun k=>k≠P) hE (fun k hk e=>by have:=aQ KP.o;omega)) (ab iy hz0));clear hE iy sN hz0 hp hcl hv1 hs1 yg UL;have KP:=al (pt aR KP.o)
       try go_simp
       refine hK.o _ _ (ph.x (aR.m ph.size)) ?_;clear hK K ph aR;intro ph
       try simp only[ai,aj,ak,ar]
       refine aI [10,11,12] ?_
       iterate 3 (refine bO (v:=?_) (fun wS hSw=>?_) ph ?_;rotate_left;(go_simp;try rfl);try simp only[ai,aj,ak,ar])
       refine aJ ?_
      all_goals
       refine aW 14 (fun K hK=>?_);have kP:=KP.o;have y0:wn.frozen? ⟨P,0,none⟩=false:=by simp[World.frozen?,kP]
       have y1:wn.frozen? ⟨P,1,none⟩=false:=by simp[World.frozen?,kP]
       have y2:wn.frozen? ⟨P,2,none⟩=false:=by simp[World.frozen?,kP]
       have y3:wn.frozen? ⟨P,3,none⟩=false:=by simp[World.frozen?,kP]
       have y4:wn.frozen? ⟨P,4,none⟩=false:=by simp[World.frozen?,kP]
       have y5:wn.frozen? ⟨P,5,none⟩=false:=by simp[World.frozen?,kP]
       have y6:wn.frozen? ⟨P,6,none⟩=false:=by simp[World.frozen?,kP]
       have y7:wn.frozen? ⟨P,7,none⟩=false:=by simp[World.frozen?,kP]
       have x0:wn.cell? ⟨P,0,none⟩=some (.int .i64 0):=by simp[World.cell?,kP]
       have x1:wn.cell? ⟨P,1,none⟩=some (.slice none 0 0):=by simp[World.cell?,kP]
       have x2:wn.cell? ⟨P,2,none⟩=some (.slice none 0 0):=by simp[World.cell?,kP]
       have x3:wn.cell? ⟨P,3,none⟩=some (.slice none 0 0):=by simp[World.cell?,kP]
       have x4:wn.cell? ⟨P,4,none⟩=some (.int .i64 0):=by simp[World.cell?,kP]
       have x5:wn.cell? ⟨P,5,none⟩=some (.int .i64 0):=by simp[World.cell?,kP]
       have x6:wn.cell? ⟨P,6,none⟩=some (.slice none 0 0):=by simp[World.cell?,kP]
       have x7:wn.cell? ⟨P,7,none⟩=some (.int .i64 0):=by simp[World.cell?,kP]
       have fH:=yL.o;go_simp;refine hK.o _ _ (((((((((ph.setCell (p:=⟨P,0,none⟩) fH _).setCell (p:=⟨P,1,none⟩) fH _).setCell (p:=⟨P,2,none⟩) fH _).setCell (p:=⟨P,3,none⟩) fH _).setCell (p:=⟨P,4,none⟩) fH _).setCell (p:=⟨P,5,none⟩) fH _).setCell (p:=⟨P,6,none⟩) fH _).setCell (p:=⟨P,7,none⟩) fH _)) ?_;clear hK K ph y0 x0 y1 x1 y2 x2 y3 x3 y4 x4 y5 x5 y6 x6 y7 x7 kP fH;intro ph
       try simp only[ai,aj,ak,ar]
       have kp:=sJ (v0:=.int .i64 (n:Int)) (v1:=.slice B1 ops.length d1) (v2:=.slice B2 args.length d2) (v3:=.slice B3 l1.length d3) (v4:=.int .i64 v1) (v5:=.int .i64 s1) (v6:=.slice A4 l1.length d4) (v7:=.int .i64 e1) KP.o;have yM:=og wn P (.int .i64 (n:Int)) (.slice B1 ops.length d1) (.slice B2 args.length d2) (.slice B3 l1.length d3) (.int .i64 v1) (.int .i64 s1) (.slice A4 l1.length d4) (.int .i64 e1);generalize ((((((((wn.setCell ⟨P,0,none⟩ (.int .i64 (n:Int))).setCell ⟨P,1,none⟩ (.slice B1 ops.length d1)).setCell ⟨P,2,none⟩ (.slice B2 args.length d2)).setCell ⟨P,3,none⟩ (.slice B3 l1.length d3)).setCell ⟨P,4,none⟩ (.int .i64 v1)).setCell ⟨P,5,none⟩ (.int .i64 s1)).setCell ⟨P,6,none⟩ (.slice A4 l1.length d4)).setCell ⟨P,7,none⟩ (.int .i64 e1))=wz at kp yM ph⊢;have HE:=al (ab (HE.o.1.only yM (fun k hk e=>hk e)) HE.o.2);have KP:=al kp;clear kp yM;refine dR 15 (v:=?_) (fun wS hSw=>?_) ph ?_;rotate_left
       ·go_simp;try rfl
       try simp only[ai,aj,ak,ar]
       refine pb (by kernel_rfl) ?_ _;have HW:=al ph;have p0:wz.cell? ⟨P,0,none⟩=some (.int .i64 (n:Int)):=by simp[World.cell?,KP.o]
       have p1:wz.cell? ⟨P,1,none⟩=some (.slice B1 ops.length d1):=by simp[World.cell?,KP.o]
       have p2:wz.cell? ⟨P,2,none⟩=some (.slice B2 args.length d2):=by simp[World.cell?,KP.o]
       have p3:wz.cell? ⟨P,3,none⟩=some (.slice B3 l1.length d3):=by simp[World.cell?,KP.o]
       have hbz:=fu.o.2.x (ph.m fu.o.2.size);have HC:=al (jm wz _ ⟨(n:Int),ops,args,l1⟩ _ _ _ HE.o.1 (HT.o.1.below hbz) (HT.o.2.1.below hbz) (by have:=HE.o.2.1;show l1.length<=1000;omega));have hlen:=ni HE.o.d HE.o.2.1;unfold LC at HC;obtain⟨bs,hbs⟩:=qt (kE (inside ⟨(n:Int),ops,args,l1⟩));have fu:=fu.o;rw[hbs]at HC hlen fu;have Ql:=al hlen;have fu:=al fu;clear ph KP yL hbs hlen hbz;go_wp2_with fail;refine HC.o.m ?_;rintro en w8 ⟨sL,⟨hz,_⟩|⟨_,A3,c3,rfl,hO⟩⟩
       ·exact absurd HE.o.d hz
       have J1:=HW.o.x (sL.m HW.o.size);have H8:=al (ab J1 (Rd.aU hO (F:=fun _=>True) (fun _ _=>trivial)));have s3:=ah J1 HZ.o.q;have UM:=al (OV w8 _ L _ (fu.o.1.below J1) n0 bs (by simp[iz]) Ql.o);clear sL hO J1 HC p0 p1 p2 p3;go_wp2_with fail;refine UM.o.m ?_;rintro e w9 ⟨A5,c5,rfl,hO,qV⟩;have Fk:=H8.o.1.x (qV.m H8.o.1.size);have HG:=al (ab (Rd.aU hO (F:=fun _=>True) (fun _ _=>trivial)) (Rd.below H8.o.2 qV));have H9:=al (ab (ah Fk HZ.o.2.1) (ab (ah Fk HZ.o.d.1) (ah Fk HZ.o.q)));have oz:=al Fk;have Qq:=al (show(((iz n0++[bs]).length:Nat):Int)=(n0:Int)+1 by simp[iz]);clear hO qV Fk s3 UM;have NR:=HM.o.d.1;go_upto_region 17 with fail;refine o0 (S:=(fun w'=>Below w9.heap.size w9 w')) (by kernel_rfl) ((aw _ _).drew) (fun ph=>?_);refine aI [0,1,2,3,4,5,6,7,8,9,10,11,12,13,14,15,16,17,18,19,20] ?_
       iterate 21 (refine bO (v:=?_) (fun wS hSw=>?_) ph ?_;rotate_left;(go_simp;try rfl);try simp only[ai,aj,ak,ar])
       refine aJ ?_;refine dR 21 (v:=?_) (fun wS hSw=>?_) ph ?_;rotate_left
       ·have c0:=ah hSw H9.o.2.1;go_simp;try rfl
       try simp only[ai,aj,ak,ar]
       refine aI [22,23,24,25,26] ?_
       iterate 5 (refine bO (v:=?_) (fun wS hSw=>?_) ph ?_;rotate_left;(go_simp;try rfl);try simp only[ai,aj,ak,ar])
       refine aJ ?_;refine dR 27 (v:=?_) (fun wS hSw=>?_) ph ?_;rotate_left
       ·have c0:=ah hSw H9.o.1;go_simp;try rfl
       try simp only[ai,aj,ak,ar]
       refine aI [28,29,30,31] ?_
       iterate 4 (refine bO (v:=?_) (fun wS hSw=>?_) ph ?_;rotate_left;(go_simp;try rfl);try simp only[ai,aj,ak,ar])
       refine aJ ?_;refine dR 32 (v:=?_) (fun wS hSw=>?_) ph ?_;rotate_left
       ·have c0:=ah hSw H9.o.d;go_simp;try rfl
       try simp only[ai,aj,ak,ar]
       refine dR 34 (v:=?_) (fun wS hSw=>?_) ph ?_;rotate_left
       ·go_simp;try rfl
       try simp only[ai,aj,ak,ar]
       refine dR 35 (v:=?_) (fun wS hSw=>?_) ph ?_;rotate_left
       ·have c0:=ah hSw H9.o.1;go_simp;try rfl
       try simp only[ai,aj,ak,ar]
       refine uE (i:=36) (v:=.int .i64 ((n0:Int)+1)) rfl (by kernel_rfl) (by kernel_rfl) (by kernel_rfl) (fun _ _ _ h=>h) (by rfl) (fun wS hSw=>?_) ph ?_
       ·have hw:IntKind.i64.wrap ((n0:Int)+1)=(n0:Int)+1:=(by rw[gr];omega);go_simp
       try simp only[ai,aj,ak,ar]
       refine aW 33 (fun K hK=>?_);go_simp;refine(tT _ _ L _ (fu.o.1.below (oz.o.x (ph.m oz.o.size)))).m ?_;rintro e wn ⟨rfl,rfl⟩;rw[Qq.o]
       try go_simp
       refine hK.o _ _ (ph) ?_;clear hK K ph;intro ph
       try simp only[ai,aj,ak,ar]
       refine uE (i:=37) (v:=.bool true) rfl (by kernel_rfl) (by kernel_rfl) (by kernel_rfl) (fun _ _ _ h=>h) (by rfl) (fun wS hSw=>?_) ph ?_
       ·go_simp
       try simp only[ai,aj,ak,ar]
       refine aI [38,39,40,41] ?_
       iterate 4 (refine bO (v:=?_) (fun wS hSw=>?_) ph ?_;rotate_left;(go_simp;try rfl);try simp only[ai,aj,ak,ar])
       refine aJ ?_;refine aW 42 (fun K hK=>?_);go_simp;refine(tU _ _ _ _ _ bs (Rd.below HG.o.1 ph) (Rd.below HG.o.2 ph)).m ?_;rintro e wn ⟨rfl,aR⟩
       try go_simp
       refine hK.o _ _ (ph.x (aR.m ph.size)) ?_;clear hK K ph aR;intro ph
       try simp only[ai,aj,ak,ar]
       refine aI [43,44] ?_
       iterate 2 (refine bO (v:=?_) (fun wS hSw=>?_) ph ?_;rotate_left;(go_simp;try rfl);try simp only[ai,aj,ak,ar])
       refine aJ ?_;refine aW 45 (fun K hK=>?_);go_simp;refine(ma _ (HT.o.1.below (fu.o.2.x ((oz.o.x (ph.m oz.o.size)).m fu.o.2.size))) (HT.o.2.1.below (fu.o.2.x ((oz.o.x (ph.m oz.o.size)).m fu.o.2.size))) (HT.o.d.1.below (fu.o.2.x ((oz.o.x (ph.m oz.o.size)).m fu.o.2.size))) (HT.o.t.1.below (fu.o.2.x ((oz.o.x (ph.m oz.o.size)).m fu.o.2.size)))).m ?_;rintro e wn ⟨rfl,aR⟩
       try go_simp
       refine hK.o _ _ (ph.x (aR.m ph.size)) ?_;clear hK K ph aR;intro ph
       try simp only[ai,aj,ak,ar]
       refine aI [46,47] ?_
       iterate 2 (refine bO (v:=?_) (fun wS hSw=>?_) ph ?_;rotate_left;(go_simp;try rfl);try simp only[ai,aj,ak,ar])
       refine aJ ?_;refine pb (by kernel_rfl) ?_ _;have hF:=oz.o.x (ph.m oz.o.size);have HF:=al (fu.o.2.x (hF.m fu.o.2.size));clear ph hF;go_wp2_with fail;go_ret
       exact⟨rfl,HF.o⟩
 all_goals
  clear Xi;go_wp2_with fail;clear y0 y1;have hb:=H3.o.1;refine(ma w3 (HT.o.1.below hb) (HT.o.2.1.below hb) (HT.o.d.1.below hb) (HT.o.t.1.below hb)).m ?_;rintro e wz ⟨rfl,hbz⟩;have HBZ:=al (hb.x (hbz.m hb.size));clear hbz hb;go_wp2_with fail;go_ret
  exact⟨rfl,HBZ.o⟩
end
end Go.Proofs.YtmkofmeojbcakaaGreatDoor
