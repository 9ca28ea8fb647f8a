import Derived.Test.YtagemonojdgbdaaGreatDoorF15
namespace Go.Proofs.YtagemonojdgbdaaGreatDoor
set_option maxRecDepth 100000
set_option maxHeartbeats 16000000
open Go.RowKit
theorem Gj{kl kr:ND}{s z:Pr}(hz:kr.ps[0]?=some z):fO 0 kl s kr=(.mk (kl.ps++[s]) [],z,.mk (kr.ps.drop 1) []):=by show(ND.mk (kl.ps++[s]) [],kr.ps[0]?.getD ([],[]),ND.mk (kr.ps.drop 1) [])=_;rw[hz];rfl
theorem sW{d:Nat}{kl kr k0:ND}{s z:Pr}(hd:d≠0)(hz:kr.ps[0]?=some z)(dX:kr.ks[0]?=some k0):fO d kl s kr=(.mk (kl.ps++[s]) (kl.ks++[k0]),z,.mk (kr.ps.drop 1) (kr.ks.drop 1)):=by obtain⟨d1,rfl⟩: ∃d1,d=d1+1:=⟨d-1,by omega⟩;show(ND.mk (kl.ps++[s]) (kl.ks++[kr.ks[0]?.getD Bg]),kr.ps[0]?.getD ([],[]),ND.mk (kr.ps.drop 1) (kr.ks.drop 1))=_;rw[hz,dX];rfl
theorem qh(w:World)(d a i:Nat)(x:ND)(F:Nat->Nat->Prop)(h:ay w (d+1) a x F)(hF: ∀b q,F b q->b<w.heap.size)(hi:i+1<x.ks.length)(hps:x.ks.length=x.ps.length+1)(hpl:x.ps.length<=900)
  (U6:1<=(aQ x (i+1)).ps.length) (RO:(aQ x i).ps.length<=900) (UZ:(aQ x (i+1)).ps.length<=900) (hkk:d≠0->1<=(aQ x (i+1)).ks.length) (YS:(aQ x i).ks.length<=901) (U1:(aQ x (i+1)).ks.length<=901):
  Calls Tryz.prog 212 #[.pointer (some ⟨a,0,none⟩),.int .i64 i] w fun e w'=>e=.returned (.tuple #[])/\ay w' (d+1) a (sA x i (fO d (aQ x i) (gi x i) (aQ x (i+1)))) (fun b q=>F b q\/w.heap.size<=b)/\OnlyC F w w':=by
 obtain⟨_,vp,vk,aA,H,hO,_⟩:=h.open_;have uw:=df (x:=x) (i:=i) (by omega);have uy:=df (x:=x) (i:=i+1) (by omega);generalize U2:aQ x i=kl at *;generalize U3:aQ x (i+1)=kr at *;clear U2 U3;obtain⟨l,hl⟩: ∃y,aA[i]?=some y:=⟨_,ao (by rw[hO.2.2.2.2.1];omega)⟩;obtain⟨r,hr⟩: ∃y,aA[i+1]?=some y:=⟨_,ao (by rw[hO.2.2.2.2.1];omega)⟩;obtain⟨mR,vl,ul,pl,Hl,hL,DF⟩:=(show ay w d l kl (H (i+3))from hO.2.2.2.2.2.1 i l kl hl uw).open_;obtain⟨hdr,vr,ur,pr,Hr,hR,Nw⟩:=(show ay w d r kr (H (i+4))from hO.2.2.2.2.2.1 (i+1) r kr hr uy).open_;have hB:=bt.start hO hF hL hR;obtain⟨s,hs⟩: ∃p,x.ps[i]?=some p:=⟨_,ao (by omega)⟩;obtain⟨iP,hiP,K6,K7,K8⟩:=eC Tryz.Dv;obtain⟨iN,U7,Lb,Lc,Ld⟩:=eC Tryz.Dx;have HI:=al (ab hiP (ab K6 (ab K7 (ab K8 (ab U7 (ab Lb (ab Lc Ld)))))));clear hiP K6 K7 K8 U7 Lb Lc Ld;have Cf:gi x i=s:=by unfold gi;rw[hs];rfl
 rw[Cf];obtain⟨i1,hi1⟩: ∃y,y=i+1:=⟨_,rfl⟩;obtain⟨z,hz⟩: ∃p,kr.ps[0]?=some p:=⟨_,ao (by omega)⟩;obtain⟨bn,on,cn,e0,-,-,s0,s1,-⟩:=hO.2.2.1.pair hs;subst e0;obtain⟨br,TN,cr,e0,-,-,-⟩:=hR.2.2.1.pair hz;subst e0;obtain⟨Al0,cl,e0,-⟩:=hL.2.2.1.slice;rw[fb]at e0;subst e0;obtain⟨bk,ok,ck,e0,-,-,r1⟩:=hO.2.2.2.1.ptr hl;obtain⟨bk',ok',ck',NB,-,-,r2⟩:=hO.2.2.2.1.ptr hr;subst e0;simp only[gR,fj,mZ,and_true,true_and]at NB;obtain⟨⟨rfl,rfl⟩,rfl⟩:=NB;obtain⟨Al,QA,e0,-⟩:=hL.2.2.2.1.slice;rw[fb]at e0;subst e0;obtain⟨TL,NC,e0,-⟩:=hR.2.2.2.1.slice;rw[fb]at e0;subst e0;obtain⟨np,mH⟩: ∃y,x.ps.length=y:=⟨_,rfl⟩;obtain⟨nr,vP⟩: ∃y,kr.ps.length=y:=⟨_,rfl⟩;obtain⟨nk,jP⟩: ∃y,aA.length=y:=⟨_,rfl⟩;obtain⟨Cg,jo⟩: ∃y,pl.length=y:=⟨_,rfl⟩;obtain⟨zt,jq⟩: ∃y,pr.length=y:=⟨_,rfl⟩;obtain⟨nl,hnl⟩: ∃y,kl.ps.length=y:=⟨_,rfl⟩;have gN:=hO.2.2.2.2.1;have QB:=hL.2.2.2.2.1;have Gh:=hR.2.2.2.2.1;rw[mH,jP]at hO;rw[hnl,jo]at hL;rw[vP,jq]at hR;rw[mH,jP,hnl,jo,vP,jq]at hB;have rW:=(hO.2.2.1.pF (i:=i) (by omega));have HA:=al (ab hO (ab hF (ab hL (ab DF (ab hR (ab Nw (ab hl (ab hr (ab uw (ab uy (ab hs (ab hz (ab mR hdr)))))))))))));have HN:=al (show np=x.ps.length/\nr=kr.ps.length/\nk=aA.length/\Cg=pl.length/\zt=pr.length/\nl=kl.ps.length/\1<=kr.ps.length/\aA.length=x.ks.length/\pl.length=kl.ks.length/\pr.length=kr.ks.length/\i+1<x.ks.length/\x.ks.length=x.ps.length+1/\i1=i+1/\(d≠0->1<=kr.ks.length)from⟨mH.symm,vP.symm,jP.symm,jo.symm,jq.symm,hnl.symm,U6,gN,QB,Gh,hi,hps,hi1,hkk⟩);have HB:=al hB;have HP:=al rW;obtain⟨⟨Gi,TM⟩,-,-⟩:=ae hB.kg.1;have j1:(i:Int)+1=(i1:Int):=by omega
 have j2:(0:Int)<=(i:Int):=by omega
 have j3:(i:Int)<(nk:Int):=by omega
 have j4:(i1:Int)<(nk:Int):=by omega
 have j5:(0:Int)<=(i1:Int):=by omega
 have j6:(i:Int)<(np:Int):=by omega
 have j7:(0:Int)<(nr:Int):=by omega
 have j8:0<nr:=by omega
 have j10:nl<=900:=by omega
 obtain⟨j11,j12⟩:=JO i1 (by omega);have r2':w.cell? ⟨bk,ok+i1,none⟩=some (.pointer (some ⟨r,0,none⟩)):=by rw[hi1];exact r2
 clear r2 h hO hF hL DF hR Nw hl hr uw uy hB hs hz mH vP jP jo jq hnl gN QB Gh rW hi1 Cf U6 hkk mR hdr;go_enter Tryz.func212,Tryz.ntmps212;go_wp2_with fail;go_quiet(fail);go_upto_region 1 with fail;have sV:Below w.heap.size w (w.drewN nq):=aG (aw _ _) nq;generalize w.drewN nq=wq at sV⊢;have QC:=(sV.cell (aE _ _ s0)).trans s0;have QD:=(sV.cell (aE _ _ s1)).trans s1;have HB:=al (HB.out.below sV);clear Gi TM r1 r2' s0 s1 sV;obtain⟨⟨Gi,-⟩,-,-⟩:=ae HB.out.kg.1;have tS:=ab Gi (ab QC QD);clear Gi QC QD;refine pb (S:=(fun W=>W.cell? ⟨a,0,none⟩=some (.slice (some ⟨bn,on,none⟩) np cn)/\W.cell? ⟨bn,on+i*2,none⟩=some (.string ⟨s.1.toArray⟩)/\W.cell? ⟨bn,on+i*2+1,none⟩=some (.string ⟨s.2.toArray⟩))) (by kernel_rfl) tS (fun pt=>?_);generalize hW3:World.drew wq=W3 at pt⊢;have HB:=al (HB.out.below (w1:=W3) (hW3▸(aw _ _).drew));clear hW3 tS;refine aM [0,1,2,3,5,6,7,8,9,10,11] ?_
 iterate 11 (refine bX (v:=?_) (fun wS hSw=>?_) pt ?_;rotate_left;(obtain⟨s0,s1,s2⟩:=hSw;go_simp;try with_reducible rfl);try simp only[ai,aj,ak,ar])
 refine aN ?_;refine ph (rs:=[4,12]) (by kernel_rfl) (by simp) (bP (i:=4) rfl (fun K hK=>?_) (bP (i:=12) rfl (fun K hK=>?_) o0))
 ·skip
  obtain⟨⟨r6,-⟩,-,-⟩:=ae HB.out.ft.1;go_simp;refine hK.out _ _ (pt) ?_;clear hK K pt r6;intro pt
  try simp only[ai,aj,ak,ar]
  refine aW 12 (fun K hK=>?_);go_simp;refine hK.out _ _ (rz pt (af _ _)) ?_;clear hK K pt;intro pt
  try simp only[ai,aj,ak,ar]
  have kV:=an W3 (.cells #[.string ⟨s.1.toArray⟩,.string ⟨s.2.toArray⟩] 210);have bV:=af W3 (.cells #[.string ⟨s.1.toArray⟩,.string ⟨s.2.toArray⟩] 210);generalize W3.alloc (.cells #[.string ⟨s.1.toArray⟩,.string ⟨s.2.toArray⟩] 210)=W5 at kV bV pt⊢;obtain⟨VB,gA⟩: ∃y,W3.heap.size=y:=⟨_,rfl⟩;rw[gA]at kV⊢;have HV:=al kV;have HB:=al (HB.out.below bV);clear kV bV gA;refine aW 13 (fun K hK=>?_);refine cI _ (by rfl) _ _ 198 (by rfl) iP (.agg #[.string ⟨#[]⟩,.string ⟨#[]⟩]) 32 Tryz.underlying198 HI.out.1 HI.out.2.1 HI.out.2.2.1 HI.out.2.2.2.1 (by rfl) (by decide) _ (kl.ps.map ax) (by rfl) HB.out.ft.2.1 ⟨VB,0,none⟩ 1 1 [ax s] (by rfl) rfl (fun y hy=>by rw[fl]at hy;subst hy;rfl) (fun j u hj=>by rw[gE,gn];exact oT HV.out (by simpa[ax]using hj)) (by simp[ax,Value.oneCell']) (by rw[fb];unfold maxLen;omega) (by rw[fb];omega) ?_;intro v6 wn bM eA;rw[show kl.ps.map ax++[ax s]=(kl.ps++[s]).map ax by simp]at bM;obtain⟨A6,c6,fy,-⟩:=bM.slice;obtain⟨n6,eY⟩: ∃y,((kl.ps++[s]).map ax).length=y:=⟨_,rfl⟩;rw[eY]at fy;subst fy;clear eY;have H6:=al (ab bM eA);clear bM eA;refine hK.out _ _ (gD pt H6.out.2 (fun hh=>HB.out.Oh hh rfl) (fun hh=>HB.out.mG HP.out.1 hh) (fun hh=>HB.out.mG HP.out.2 hh)) ?_;clear hK K pt;intro pt
  try simp only[ai,aj,ak,ar]
  refine aM [14,15] ?_
  iterate 2 (refine bX (v:=?_) (fun wS hSw=>?_) pt ?_;rotate_left;(obtain⟨s0,s1,s2⟩:=hSw;go_simp;try with_reducible rfl);try simp only[ai,aj,ak,ar])
  refine aN ?_;refine aW 16 (fun K hK=>?_);obtain⟨⟨r6,-⟩,rf,-⟩:=ae (H6.out.2.heap HB.out.ft.1 (fun q hh=>HB.out.BF hh rfl));go_simp;refine hK.out _ _ (gD pt (OnlyC.bp _ l 0 _) (fun e=>HB.out.Xt e.1) (fun e=>HB.out.vX HP.out.1 e.1) (fun e=>HB.out.vX HP.out.2 e.1)) ?_;clear hK K pt r6 rf;intro pt
  try simp only[ai,aj,ak,ar]
  refine pf (by kernel_rfl) ?_ _;have dU:=HB.out.p1 (aw _ _) H6.out.2 H6.out.1;clear pt;generalize wn.setCell ⟨l,0,none⟩ (.slice A6 n6 c6)=w7 at dU⊢;have HB:=al dU;clear dU HV H6;have c34:=(HB.out.gu.2.1.jS HA.out.2.2.2.2.2.2.2.2.2.2.2.1).1;rw[Nat.zero_mul,mu]at c34;obtain⟨c3,c4⟩:=c34;obtain⟨⟨c1,-⟩,-,-⟩:=ae HB.out.kg.1;obtain⟨⟨c2,-⟩,-,-⟩:=ae HB.out.gu.1;have tS:=ab c1 (ab c2 (ab c3 c4));clear c1 c2 c3 c4;have HZ:=al (by have h0:=HB.out.gu.2.1.pF (i:=0) HN.out.2.2.2.2.2.2.1;rw[Nat.zero_mul,mu]at h0;exact h0);go_upto_region 2 with fail;refine pb (S:=(fun W=>W.cell? ⟨a,0,none⟩=some (.slice (some ⟨bn,on,none⟩) np cn)/\W.cell? ⟨r,0,none⟩=some (.slice (some ⟨br,TN,none⟩) nr cr)/\W.cell? ⟨br,TN,none⟩=some (.string ⟨z.1.toArray⟩)/\W.cell? ⟨br,TN+1,none⟩=some (.string ⟨z.2.toArray⟩))) (by kernel_rfl) tS (fun pt=>?_);generalize hW3:World.drew w7=W3 at pt⊢;have HB:=al (HB.out.below (w1:=W3) (hW3▸(aw _ _).drew));clear hW3 tS;refine aM [0,1,2,3,4,5,6,7,8,9,10,11] ?_
  iterate 12 (refine bX (v:=?_) (fun wS hSw=>?_) pt ?_;rotate_left;(obtain⟨s0,s1,s2,s3⟩:=hSw;go_simp;try with_reducible rfl);try simp only[ai,aj,ak,ar])
  refine aN ?_;refine aW 12 (fun K hK=>?_);obtain⟨⟨c5,c6⟩,f5,f6⟩:=HB.out.kg.2.1.jS HA.out.2.2.2.2.2.2.2.2.2.2.1;go_simp;refine hK.out _ _ (uu pt (HB.out.kg.2.1.fe (i:=i) z.1 z.2 (by have:=HN.out.2.2.2.2.2.2.2.2.2.2.1;have:=HN.out.2.2.2.2.2.2.2.2.2.2.2.1;omega)).2 (fun hh=>HB.out.Hp hh rfl) (fun hh=>HB.out.Hq hh rfl) (fun hh=>HB.out.rQ hh HZ.out.1) (fun hh=>HB.out.rQ hh HZ.out.2)) ?_;clear hK K pt c5 c6 f5 f6;intro pt
  try simp only[ai,aj,ak,ar]
  refine pf (by kernel_rfl) ?_ _;have AB:=HB.out.i0 (HB.out.kg.2.1.fe (i:=i) z.1 z.2 (by have:=HN.out.2.2.2.2.2.2.2.2.2.2.1;have:=HN.out.2.2.2.2.2.2.2.2.2.2.2.1;omega)).2 (HB.out.kg.2.1.fe (i:=i) z.1 z.2 (by have:=HN.out.2.2.2.2.2.2.2.2.2.2.1;have:=HN.out.2.2.2.2.2.2.2.2.2.2.2.1;omega)).1;clear pt;generalize (W3.setCell ⟨bn,on+i*2,none⟩ (.string ⟨z.1.toArray⟩)).setCell ⟨bn,on+i*2+1,none⟩ (.string ⟨z.2.toArray⟩)=w8 at AB⊢;have HB:=al AB;clear AB HZ;obtain⟨⟨c2,-⟩,-,-⟩:=ae HB.out.gu.1;go_wp2_with fail;refine(kD w8 (Hr 1) _ (kr.ps.map ax) 0 _ _ rfl (by simp) HB.out.gu.2.1 (by rw[fb];exact HN.out.2.2.2.2.2.2.1) (by rw[fb];omega) (dA _)).mono ?_;rintro e w9 ⟨v9,rfl,cu,eU⟩;rw[jj,fs,<-kn]at cu;obtain⟨A9,c9,fQ,-⟩:=cu.slice;obtain⟨n9,fG⟩: ∃y,((kr.ps.drop (0+1)).map ax).length=y:=⟨_,rfl⟩;rw[fG]at fQ;subst fQ;clear fG c2;have H9:=al (ab cu eU);clear cu eU;obtain⟨⟨c2,-⟩,f2,-⟩:=ae (H9.out.2.heap HB.out.gu.1 (fun q hh=>HB.out.Oi hh rfl));go_upto_region 4 with fail;clear c2 f2;have hB4:=HB.out.p2 (aw _ _) H9.out.2 (H9.out.1.mono (fun b q hh=>.inl hh));generalize w9.setCell ⟨r,0,none⟩ (.slice A9 n9 c9)=wA at hB4⊢;have HB:=al hB4;clear hB4 H9;obtain⟨⟨-,c2⟩,-,-⟩:=ae HB.out.gu.1;by_cases hd:d=0
  ·subst hd;have e1:kl.ks=[]:=HA.out.2.2.2.2.2.2.2.2.2.2.2.2.1 rfl;have e2:kr.ks=[]:=HA.out.2.2.2.2.2.2.2.2.2.2.2.2.2 rfl;have dX:zt=0:=by rw[HN.out.2.2.2.2.1,HN.out.2.2.2.2.2.2.2.2.2.1,e2];rfl
   subst dX;have iW:=al (dG wA r NC TL c2);have HE:=al (ab e1 e2);clear c2 e1 e2;go_wp2_with fail;refine iW.out.mono ?_;rintro e wZ ⟨rfl,Eg⟩;subst Eg;go_wp2_with fail
   first|refine et (du rfl _ _ _) rfl ?_|refine dq (du rfl _ _ _) rfl ?_
   obtain⟨e1,e2⟩:=HE.out;have hE:=fZ HA.out.1 HA.out.2.1 (by have:=HN.out.2.2.2.2.2.2.2.2.2.2.1;omega) HA.out.2.2.1 HA.out.2.2.2.1 HA.out.2.2.2.2.1 HA.out.2.2.2.2.2.1 HB.out 0 0 (aq _) (dj _) [] (fun _ _ _=>False) 0 0 (aq _) (dj _) [] (fun _ _ _=>False) rfl HA.out.2.2.2.2.2.2.1 HA.out.2.2.2.2.2.2.2.1 (by simp) (by simp) (fun _ _ _ h=>h.elim) (fun _ _ _ h=>h.elim) (fun _ _ _ _ h=>h.elim) (fun _ _ _ _ h=>h.elim) (fun m p k hm=>by simp at hm) (fun m p k hm=>by simp at hm) (by simp[e1]) (by simp[e2]);rw[Gj HA.out.2.2.2.2.2.2.2.2.2.2.2.1];refine⟨rfl,?_,hE.2⟩;have h1:=hE.1;simp only[e1,e2,List.take_nil,List.drop_nil,kb,gd]at h1;exact h1
  ·have hkk:=HN.out.2.2.2.2.2.2.2.2.2.2.2.2.2 hd;obtain⟨p0,hp0⟩: ∃p,pr[0]?=some p:=⟨_,ao (by have:=HN.out.2.2.2.2.2.2.2.2.2.1;omega)⟩;obtain⟨k0,dX⟩: ∃p,kr.ks[0]?=some p:=⟨_,ao (by omega)⟩;have zu:=HB.out;obtain⟨U8,U9,YT,e0,-,-,-⟩:=zu.gu.2.2.ptr hp0;simp only[gR]at e0;obtain⟨rfl,-,rfl⟩:=e0;have jq:0<zt:=by rw[HN.out.2.2.2.2.1,HN.out.2.2.2.2.2.2.2.2.2.1];exact hkk
   have iW:=al (eQ wA r zt NC _ jq c2);have HB:=al zu;have HM:=al (ab hp0 (ab dX (ab hkk (ab hd (by have h0:=zu.gu.2.2.Cc (i:=0) (by rw[<-HN.out.2.2.2.2.1];exact jq);rw[mu]at h0;exact h0)))));have q6:(0:Int)<(zt:Int):=by omega
   have q7:zt<=902:=by have:=HN.out.2.2.2.2.1;have:=HN.out.2.2.2.2.2.2.2.2.2.1;omega
   clear zu hp0 dX hkk hd c2;go_wp2_with fail;refine iW.out.mono ?_;rintro e wZ ⟨rfl,Eg⟩;subst Eg;clear iW;obtain⟨⟨-,c1⟩,-,-⟩:=ae HB.out.gu.1;have c9:=HB.out.gu.2.2.Cb HM.out.1;rw[mu]at c9;have tS:=ab c1 c9;clear c1 c9;go_upto_region 5 with fail;refine pb (S:=(fun W=>W.cell? ⟨r,1,none⟩=some (.slice (some ⟨U8,U9,none⟩) zt NC)/\W.cell? ⟨U8,U9,none⟩=some (.pointer (some ⟨p0,0,none⟩)))) (by kernel_rfl) tS (fun pt=>?_);generalize hW3:World.drew wA=W3 at pt⊢;have HB:=al (HB.out.below (w1:=W3) (hW3▸(aw _ _).drew));clear hW3 tS;refine aM [0,1,2,3,5,6,7,8,9,10] ?_
   iterate 10 (refine bX (v:=?_) (fun wS hSw=>?_) pt ?_;rotate_left;(obtain⟨s0,s1⟩:=hSw;go_simp;try with_reducible rfl);try simp only[ai,aj,ak,ar])
   refine aN ?_;refine ph (rs:=[4,11]) (by kernel_rfl) (by simp) (bP (i:=4) rfl (fun K hK=>?_) (bP (i:=11) rfl (fun K hK=>?_) o0))
   ·skip
    obtain⟨⟨-,r6⟩,-,-⟩:=ae HB.out.ft.1;go_simp;refine hK.out _ _ (pt) ?_;clear hK K pt r6;intro pt
    try simp only[ai,aj,ak,ar]
    refine aW 11 (fun K hK=>?_);go_simp;refine hK.out _ _ (kK pt (af _ _)) ?_;clear hK K pt;intro pt
    try simp only[ai,aj,ak,ar]
    have kV:=an W3 (.cells #[.pointer (some ⟨p0,0,none⟩)] 197);have bV:=af W3 (.cells #[.pointer (some ⟨p0,0,none⟩)] 197);generalize W3.alloc (.cells #[.pointer (some ⟨p0,0,none⟩)] 197)=W5 at kV bV pt⊢;obtain⟨VB,gA⟩: ∃y,W3.heap.size=y:=⟨_,rfl⟩;rw[gA]at kV⊢;have HV:=al kV;have HB:=al (HB.out.below bV);clear kV bV gA;refine aW 12 (fun K hK=>?_);refine cI _ (by rfl) _ _ 199 (by rfl) iN (.pointer none) 8 Tryz.underlying199 HI.out.2.2.2.2.1 HI.out.2.2.2.2.2.1 HI.out.2.2.2.2.2.2.1 HI.out.2.2.2.2.2.2.2 (by rfl) (by decide) _ (pl.map aL) (by rfl) HB.out.ft.2.2 ⟨VB,0,none⟩ 1 1 [aL p0] (by rfl) rfl (fun y hy=>by rw[fl]at hy;subst hy;rfl) (fun j u hj=>by rw[gE,gn];exact oT HV.out (by simpa[aL]using hj)) (by simp[aL,Value.oneCell']) (by rw[fb];have:=HN.out.2.2.2.2.2.2.2.2.1;unfold maxLen;omega) (by rw[fb];have:=HN.out.2.2.2.2.2.2.2.2.1;omega) ?_;intro v6 wn bM eA;rw[show pl.map aL++[aL p0]=(pl++[p0]).map aL by simp]at bM;obtain⟨A7,c7,fy,-⟩:=bM.slice;obtain⟨n7,eY⟩: ∃y,((pl++[p0]).map aL).length=y:=⟨_,rfl⟩;rw[eY]at fy;subst fy;clear eY;have H6:=al (ab bM eA);clear bM eA;refine hK.out _ _ (dt pt H6.out.2 (fun hh=>HB.out.wh hh rfl) (fun hh=>HB.out.rR hh HM.out.2.2.2.2)) ?_;clear hK K pt;intro pt
    try simp only[ai,aj,ak,ar]
    refine aM [13,14] ?_
    iterate 2 (refine bX (v:=?_) (fun wS hSw=>?_) pt ?_;rotate_left;(obtain⟨s0,s1⟩:=hSw;go_simp;try with_reducible rfl);try simp only[ai,aj,ak,ar])
    refine aN ?_;refine aW 15 (fun K hK=>?_);obtain⟨⟨-,r6⟩,-,rf⟩:=ae (H6.out.2.heap HB.out.ft.1 (fun q hh=>HB.out.vY hh rfl));go_simp;refine hK.out _ _ (dt pt (OnlyC.bp _ l 1 _) (fun e=>HB.out.e12 e.1.symm) (fun e=>HB.out.BG HM.out.2.2.2.2 e.1)) ?_;clear hK K pt r6 rf;intro pt
    try simp only[ai,aj,ak,ar]
    refine pf (by kernel_rfl) ?_ _;have dU:=HB.out.k1 (aw _ _) H6.out.2 H6.out.1;clear pt;generalize wn.setCell ⟨l,1,none⟩ (.slice A7 n7 c7)=wB at dU⊢;have HB:=al dU;clear dU HV H6;obtain⟨⟨-,c2⟩,-,-⟩:=ae HB.out.gu.1;go_wp2_with fail;refine(iC wB (Hr 2) _ (pr.map aL) 0 _ _ rfl (by simp) HB.out.gu.2.2 (by rw[fb,<-HN.out.2.2.2.2.1];exact jq) (by rw[fb,<-HN.out.2.2.2.2.1];omega) (bQ _)).mono ?_;rintro e w9 ⟨v9,rfl,cu,eU⟩;rw[jj,fs,<-kn]at cu;obtain⟨A8,c8,fQ,-⟩:=cu.slice;obtain⟨n8,fG⟩: ∃y,((pr.drop (0+1)).map aL).length=y:=⟨_,rfl⟩;rw[fG]at fQ;subst fQ;clear fG c2;have H9:=al (ab cu eU);clear cu eU;obtain⟨⟨-,c2⟩,-,f2⟩:=ae (H9.out.2.heap HB.out.gu.1 (fun q hh=>HB.out.BH hh rfl));go_wp2_with fail
    first|refine et (du rfl _ _ _) rfl ?_|refine dq (du rfl _ _ _) rfl ?_
    have zw:=HB.out.k2 (aw _ _) H9.out.2 (H9.out.1.mono (fun b q hh=>.inl hh));obtain⟨hp0,dX,hkk,hd,-⟩:=HM.out;have hsub:bL w d p0 k0 (Hr (0+3)):=(HA.out.2.2.2.2.1).2.2.2.2.2.1 0 p0 k0 hp0 dX
    have hE:=fZ HA.out.1 HA.out.2.1 (by have:=HN.out.2.2.2.2.2.2.2.2.2.2.1;omega) HA.out.2.2.1 HA.out.2.2.2.1 HA.out.2.2.2.2.1 HA.out.2.2.2.2.2.1 zw kl.ks.length kl.ks.length (aq _) (aq _) [(p0,k0)] (pX (Hr (0+3)) (fun _ _=>False)) 0 1 (by decide) hkk [] (fun _ _ _=>False) rfl HA.out.2.2.2.2.2.2.1 HA.out.2.2.2.2.2.2.2.1 (by rw[<-HN.out.2.2.2.2.2.2.2.2.1];simp) (by simp) (fun mm b q h=>match mm,h with|0,h=>⟨0,aq _,by omega,h⟩|1,h=>h.elim|_+2,h=>h.elim) (fun _ _ _ h=>h.elim)
     (fun mm Eh b q h1 h2=>by
      match mm,h1,Eh,h2 with
      |0,_,0,_=>rfl
      |1,h1,_,_=>exact h1.elim
      |_+2,h1,_,_=>exact h1.elim
      |0,_,1,h2=>exact h2.elim
      |0,_,_+2,h2=>exact h2.elim) (fun _ _ _ _ h=>h.elim)
     (fun mm p k hm=>by
      match mm,hm with
      |0,hm=>simp only[gr,fj,lP]at hm;obtain⟨rfl,rfl⟩:=hm;exact hsub
      |mm+1,hm=>simp at hm)
     (fun mm p k hm=>by simp at hm)
     (fun e=>absurd e hd) (fun e=>absurd e hd)
    rw[sW hd HA.out.2.2.2.2.2.2.2.2.2.2.2.1 dX];refine⟨rfl,?_,hE.2⟩;have h1:=hE.1;simp only[ie,List.drop_length,jj,kb,lx,gd,fs]at h1;exact h1
   ·skip
    go_simp;refine hK.out _ _ (kK pt (af _ _)) ?_;clear hK K pt;intro pt
    try simp only[ai,aj,ak,ar]
    have kV:=an W3 (.cells #[.pointer (some ⟨p0,0,none⟩)] 197);have bV:=af W3 (.cells #[.pointer (some ⟨p0,0,none⟩)] 197);generalize W3.alloc (.cells #[.pointer (some ⟨p0,0,none⟩)] 197)=W5 at kV bV pt⊢;obtain⟨VB,gA⟩: ∃y,W3.heap.size=y:=⟨_,rfl⟩;rw[gA]at kV⊢;have HV:=al kV;have HB:=al (HB.out.below bV);clear kV bV gA;refine aW 4 (fun K hK=>?_);obtain⟨⟨-,r6⟩,-,-⟩:=ae HB.out.ft.1;go_simp;refine hK.out _ _ (pt) ?_;clear hK K pt r6;intro pt
    try simp only[ai,aj,ak,ar]
    refine aW 12 (fun K hK=>?_);refine cI _ (by rfl) _ _ 199 (by rfl) iN (.pointer none) 8 Tryz.underlying199 HI.out.2.2.2.2.1 HI.out.2.2.2.2.2.1 HI.out.2.2.2.2.2.2.1 HI.out.2.2.2.2.2.2.2 (by rfl) (by decide) _ (pl.map aL) (by rfl) HB.out.ft.2.2 ⟨VB,0,none⟩ 1 1 [aL p0] (by rfl) rfl (fun y hy=>by rw[fl]at hy;subst hy;rfl) (fun j u hj=>by rw[gE,gn];exact oT HV.out (by simpa[aL]using hj)) (by simp[aL,Value.oneCell']) (by rw[fb];have:=HN.out.2.2.2.2.2.2.2.2.1;unfold maxLen;omega) (by rw[fb];have:=HN.out.2.2.2.2.2.2.2.2.1;omega) ?_;intro v6 wn bM eA;rw[show pl.map aL++[aL p0]=(pl++[p0]).map aL by simp]at bM;obtain⟨A7,c7,fy,-⟩:=bM.slice;obtain⟨n7,eY⟩: ∃y,((pl++[p0]).map aL).length=y:=⟨_,rfl⟩;rw[eY]at fy;subst fy;clear eY;have H6:=al (ab bM eA);clear bM eA;refine hK.out _ _ (dt pt H6.out.2 (fun hh=>HB.out.wh hh rfl) (fun hh=>HB.out.rR hh HM.out.2.2.2.2)) ?_;clear hK K pt;intro pt
    try simp only[ai,aj,ak,ar]
    refine aM [13,14] ?_
    iterate 2 (refine bX (v:=?_) (fun wS hSw=>?_) pt ?_;rotate_left;(obtain⟨s0,s1⟩:=hSw;go_simp;try with_reducible rfl);try simp only[ai,aj,ak,ar])
    refine aN ?_;refine aW 15 (fun K hK=>?_);obtain⟨⟨-,r6⟩,-,rf⟩:=ae (H6.out.2.heap HB.out.ft.1 (fun q hh=>HB.out.vY hh rfl));go_simp;refine hK.out _ _ (dt pt (OnlyC.bp _ l 1 _) (fun e=>HB.out.e12 e.1.symm) (fun e=>HB.out.BG HM.out.2.2.2.2 e.1)) ?_;clear hK K pt r6 rf;intro pt
    try simp only[ai,aj,ak,ar]
    refine pf (by kernel_rfl) ?_ _;have dU:=HB.out.k1 (aw _ _) H6.out.2 H6.out.1;clear pt;generalize wn.setCell ⟨l,1,none⟩ (.slice A7 n7 c7)=wB at dU⊢;have HB:=al dU;clear dU HV H6;obtain⟨⟨-,c2⟩,-,-⟩:=ae HB.out.gu.1;go_wp2_with fail;refine(iC wB (Hr 2) _ (pr.map aL) 0 _ _ rfl (by simp) HB.out.gu.2.2 (by rw[fb,<-HN.out.2.2.2.2.1];exact jq) (by rw[fb,<-HN.out.2.2.2.2.1];omega) (bQ _)).mono ?_;rintro e w9 ⟨v9,rfl,cu,eU⟩;rw[jj,fs,<-kn]at cu;obtain⟨A8,c8,fQ,-⟩:=cu.slice;obtain⟨n8,fG⟩: ∃y,((pr.drop (0+1)).map aL).length=y:=⟨_,rfl⟩;rw[fG]at fQ;subst fQ;clear fG c2;have H9:=al (ab cu eU);clear cu eU;obtain⟨⟨-,c2⟩,-,f2⟩:=ae (H9.out.2.heap HB.out.gu.1 (fun q hh=>HB.out.BH hh rfl));go_wp2_with fail
    first|refine et (du rfl _ _ _) rfl ?_|refine dq (du rfl _ _ _) rfl ?_
    have zw:=HB.out.k2 (aw _ _) H9.out.2 (H9.out.1.mono (fun b q hh=>.inl hh));obtain⟨hp0,dX,hkk,hd,-⟩:=HM.out;have hsub:bL w d p0 k0 (Hr (0+3)):=(HA.out.2.2.2.2.1).2.2.2.2.2.1 0 p0 k0 hp0 dX
    have hE:=fZ HA.out.1 HA.out.2.1 (by have:=HN.out.2.2.2.2.2.2.2.2.2.2.1;omega) HA.out.2.2.1 HA.out.2.2.2.1 HA.out.2.2.2.2.1 HA.out.2.2.2.2.2.1 zw kl.ks.length kl.ks.length (aq _) (aq _) [(p0,k0)] (pX (Hr (0+3)) (fun _ _=>False)) 0 1 (by decide) hkk [] (fun _ _ _=>False) rfl HA.out.2.2.2.2.2.2.1 HA.out.2.2.2.2.2.2.2.1 (by rw[<-HN.out.2.2.2.2.2.2.2.2.1];simp) (by simp) (fun mm b q h=>match mm,h with|0,h=>⟨0,aq _,by omega,h⟩|1,h=>h.elim|_+2,h=>h.elim) (fun _ _ _ h=>h.elim)
     (fun mm Eh b q h1 h2=>by
      match mm,h1,Eh,h2 with
      |0,_,0,_=>rfl
      |1,h1,_,_=>exact h1.elim
      |_+2,h1,_,_=>exact h1.elim
      |0,_,1,h2=>exact h2.elim
      |0,_,_+2,h2=>exact h2.elim) (fun _ _ _ _ h=>h.elim)
     (fun mm p k hm=>by
      match mm,hm with
      |0,hm=>simp only[gr,fj,lP]at hm;obtain⟨rfl,rfl⟩:=hm;exact hsub
      |mm+1,hm=>simp at hm)
     (fun mm p k hm=>by simp at hm)
     (fun e=>absurd e hd) (fun e=>absurd e hd)
    rw[sW hd HA.out.2.2.2.2.2.2.2.2.2.2.2.1 dX];refine⟨rfl,?_,hE.2⟩;have h1:=hE.1;simp only[ie,List.drop_length,jj,kb,lx,gd,fs]at h1;exact h1
 ·skip
  go_simp;refine hK.out _ _ (rz pt (af _ _)) ?_;clear hK K pt;intro pt
  try simp only[ai,aj,ak,ar]
  have kV:=an W3 (.cells #[.string ⟨s.1.toArray⟩,.string ⟨s.2.toArray⟩] 210);have bV:=af W3 (.cells #[.string ⟨s.1.toArray⟩,.string ⟨s.2.toArray⟩] 210);generalize W3.alloc (.cells #[.string ⟨s.1.toArray⟩,.string ⟨s.2.toArray⟩] 210)=W5 at kV bV pt⊢;obtain⟨VB,gA⟩: ∃y,W3.heap.size=y:=⟨_,rfl⟩;rw[gA]at kV⊢;have HV:=al kV;have HB:=al (HB.out.below bV);clear kV bV gA;refine aW 4 (fun K hK=>?_);obtain⟨⟨r6,-⟩,-,-⟩:=ae HB.out.ft.1;go_simp;refine hK.out _ _ (pt) ?_;clear hK K pt r6;intro pt
  try simp only[ai,aj,ak,ar]
  refine aW 13 (fun K hK=>?_);refine cI _ (by rfl) _ _ 198 (by rfl) iP (.agg #[.string ⟨#[]⟩,.string ⟨#[]⟩]) 32 Tryz.underlying198 HI.out.1 HI.out.2.1 HI.out.2.2.1 HI.out.2.2.2.1 (by rfl) (by decide) _ (kl.ps.map ax) (by rfl) HB.out.ft.2.1 ⟨VB,0,none⟩ 1 1 [ax s] (by rfl) rfl (fun y hy=>by rw[fl]at hy;subst hy;rfl) (fun j u hj=>by rw[gE,gn];exact oT HV.out (by simpa[ax]using hj)) (by simp[ax,Value.oneCell']) (by rw[fb];unfold maxLen;omega) (by rw[fb];omega) ?_;intro v6 wn bM eA;rw[show kl.ps.map ax++[ax s]=(kl.ps++[s]).map ax by simp]at bM;obtain⟨A6,c6,fy,-⟩:=bM.slice;obtain⟨n6,eY⟩: ∃y,((kl.ps++[s]).map ax).length=y:=⟨_,rfl⟩;rw[eY]at fy;subst fy;clear eY;have H6:=al (ab bM eA);clear bM eA;refine hK.out _ _ (gD pt H6.out.2 (fun hh=>HB.out.Oh hh rfl) (fun hh=>HB.out.mG HP.out.1 hh) (fun hh=>HB.out.mG HP.out.2 hh)) ?_;clear hK K pt;intro pt
  try simp only[ai,aj,ak,ar]
  refine aM [14,15] ?_
  iterate 2 (refine bX (v:=?_) (fun wS hSw=>?_) pt ?_;rotate_left;(obtain⟨s0,s1,s2⟩:=hSw;go_simp;try with_reducible rfl);try simp only[ai,aj,ak,ar])
  refine aN ?_;refine aW 16 (fun K hK=>?_);obtain⟨⟨r6,-⟩,rf,-⟩:=ae (H6.out.2.heap HB.out.ft.1 (fun q hh=>HB.out.BF hh rfl));go_simp;refine hK.out _ _ (gD pt (OnlyC.bp _ l 0 _) (fun e=>HB.out.Xt e.1) (fun e=>HB.out.vX HP.out.1 e.1) (fun e=>HB.out.vX HP.out.2 e.1)) ?_;clear hK K pt r6 rf;intro pt
  try simp only[ai,aj,ak,ar]
  refine pf (by kernel_rfl) ?_ _;have dU:=HB.out.p1 (aw _ _) H6.out.2 H6.out.1;clear pt;generalize wn.setCell ⟨l,0,none⟩ (.slice A6 n6 c6)=w7 at dU⊢;have HB:=al dU;clear dU HV H6;have c34:=(HB.out.gu.2.1.jS HA.out.2.2.2.2.2.2.2.2.2.2.2.1).1;rw[Nat.zero_mul,mu]at c34;obtain⟨c3,c4⟩:=c34;obtain⟨⟨c1,-⟩,-,-⟩:=ae HB.out.kg.1;obtain⟨⟨c2,-⟩,-,-⟩:=ae HB.out.gu.1;have tS:=ab c1 (ab c2 (ab c3 c4));clear c1 c2 c3 c4;have HZ:=al (by have h0:=HB.out.gu.2.1.pF (i:=0) HN.out.2.2.2.2.2.2.1;rw[Nat.zero_mul,mu]at h0;exact h0);go_upto_region 2 with fail;refine pb (S:=(fun W=>W.cell? ⟨a,0,none⟩=some (.slice (some ⟨bn,on,none⟩) np cn)/\W.cell? ⟨r,0,none⟩=some (.slice (some ⟨br,TN,none⟩) nr cr)/\W.cell? ⟨br,TN,none⟩=some (.string ⟨z.1.toArray⟩)/\W.cell? ⟨br,TN+1,none⟩=some (.string ⟨z.2.toArray⟩))) (by kernel_rfl) tS (fun pt=>?_);generalize hW3:World.drew w7=W3 at pt⊢;have HB:=al (HB.out.below (w1:=W3) (hW3▸(aw _ _).drew));clear hW3 tS;refine aM [0,1,2,3,4,5,6,7,8,9,10,11] ?_
  iterate 12 (refine bX (v:=?_) (fun wS hSw=>?_) pt ?_;rotate_left;(obtain⟨s0,s1,s2,s3⟩:=hSw;go_simp;try with_reducible rfl);try simp only[ai,aj,ak,ar])
  refine aN ?_;refine aW 12 (fun K hK=>?_);obtain⟨⟨c5,c6⟩,f5,f6⟩:=HB.out.kg.2.1.jS HA.out.2.2.2.2.2.2.2.2.2.2.1;go_simp;refine hK.out _ _ (uu pt (HB.out.kg.2.1.fe (i:=i) z.1 z.2 (by have:=HN.out.2.2.2.2.2.2.2.2.2.2.1;have:=HN.out.2.2.2.2.2.2.2.2.2.2.2.1;omega)).2 (fun hh=>HB.out.Hp hh rfl) (fun hh=>HB.out.Hq hh rfl) (fun hh=>HB.out.rQ hh HZ.out.1) (fun hh=>HB.out.rQ hh HZ.out.2)) ?_;clear hK K pt c5 c6 f5 f6;intro pt
  try simp only[ai,aj,ak,ar]
  refine pf (by kernel_rfl) ?_ _;have AB:=HB.out.i0 (HB.out.kg.2.1.fe (i:=i) z.1 z.2 (by have:=HN.out.2.2.2.2.2.2.2.2.2.2.1;have:=HN.out.2.2.2.2.2.2.2.2.2.2.2.1;omega)).2 (HB.out.kg.2.1.fe (i:=i) z.1 z.2 (by have:=HN.out.2.2.2.2.2.2.2.2.2.2.1;have:=HN.out.2.2.2.2.2.2.2.2.2.2.2.1;omega)).1;clear pt;generalize (W3.setCell ⟨bn,on+i*2,none⟩ (.string ⟨z.1.toArray⟩)).setCell ⟨bn,on+i*2+1,none⟩ (.string ⟨z.2.toArray⟩)=w8 at AB⊢;have HB:=al AB;clear AB HZ;obtain⟨⟨c2,-⟩,-,-⟩:=ae HB.out.gu.1;go_wp2_with fail;refine(kD w8 (Hr 1) _ (kr.ps.map ax) 0 _ _ rfl (by simp) HB.out.gu.2.1 (by rw[fb];exact HN.out.2.2.2.2.2.2.1) (by rw[fb];omega) (dA _)).mono ?_;rintro e w9 ⟨v9,rfl,cu,eU⟩;rw[jj,fs,<-kn]at cu;obtain⟨A9,c9,fQ,-⟩:=cu.slice;obtain⟨n9,fG⟩: ∃y,((kr.ps.drop (0+1)).map ax).length=y:=⟨_,rfl⟩;rw[fG]at fQ;subst fQ;clear fG c2;have H9:=al (ab cu eU);clear cu eU;obtain⟨⟨c2,-⟩,f2,-⟩:=ae (H9.out.2.heap HB.out.gu.1 (fun q hh=>HB.out.Oi hh rfl));go_upto_region 4 with fail;clear c2 f2;have hB4:=HB.out.p2 (aw _ _) H9.out.2 (H9.out.1.mono (fun b q hh=>.inl hh));generalize w9.setCell ⟨r,0,none⟩ (.slice A9 n9 c9)=wA at hB4⊢;have HB:=al hB4;clear hB4 H9;obtain⟨⟨-,c2⟩,-,-⟩:=ae HB.out.gu.1;by_cases hd:d=0
  ·subst hd;have e1:kl.ks=[]:=HA.out.2.2.2.2.2.2.2.2.2.2.2.2.1 rfl;have e2:kr.ks=[]:=HA.out.2.2.2.2.2.2.2.2.2.2.2.2.2 rfl;have dX:zt=0:=by rw[HN.out.2.2.2.2.1,HN.out.2.2.2.2.2.2.2.2.2.1,e2];rfl
   subst dX;have iW:=al (dG wA r NC TL c2);have HE:=al (ab e1 e2);clear c2 e1 e2;go_wp2_with fail;refine iW.out.mono ?_;rintro e wZ ⟨rfl,Eg⟩;subst Eg;go_wp2_with fail
   first|refine et (du rfl _ _ _) rfl ?_|refine dq (du rfl _ _ _) rfl ?_
   obtain⟨e1,e2⟩:=HE.out;have hE:=fZ HA.out.1 HA.out.2.1 (by have:=HN.out.2.2.2.2.2.2.2.2.2.2.1;omega) HA.out.2.2.1 HA.out.2.2.2.1 HA.out.2.2.2.2.1 HA.out.2.2.2.2.2.1 HB.out 0 0 (aq _) (dj _) [] (fun _ _ _=>False) 0 0 (aq _) (dj _) [] (fun _ _ _=>False) rfl HA.out.2.2.2.2.2.2.1 HA.out.2.2.2.2.2.2.2.1 (by simp) (by simp) (fun _ _ _ h=>h.elim) (fun _ _ _ h=>h.elim) (fun _ _ _ _ h=>h.elim) (fun _ _ _ _ h=>h.elim) (fun m p k hm=>by simp at hm) (fun m p k hm=>by simp at hm) (by simp[e1]) (by simp[e2]);rw[Gj HA.out.2.2.2.2.2.2.2.2.2.2.2.1];refine⟨rfl,?_,hE.2⟩;have h1:=hE.1;simp only[e1,e2,List.take_nil,List.drop_nil,kb,gd]at h1;exact h1
  ·have hkk:=HN.out.2.2.2.2.2.2.2.2.2.2.2.2.2 hd;obtain⟨p0,hp0⟩: ∃p,pr[0]?=some p:=⟨_,ao (by have:=HN.out.2.2.2.2.2.2.2.2.2.1;omega)⟩;obtain⟨k0,dX⟩: ∃p,kr.ks[0]?=some p:=⟨_,ao (by omega)⟩;have zu:=HB.out;obtain⟨U8,U9,YT,e0,-,-,-⟩:=zu.gu.2.2.ptr hp0;simp only[gR]at e0;obtain⟨rfl,-,rfl⟩:=e0;have jq:0<zt:=by rw[HN.out.2.2.2.2.1,HN.out.2.2.2.2.2.2.2.2.2.1];exact hkk
   have iW:=al (eQ wA r zt NC _ jq c2);have HB:=al zu;have HM:=al (ab hp0 (ab dX (ab hkk (ab hd (by have h0:=zu.gu.2.2.Cc (i:=0) (by rw[<-HN.out.2.2.2.2.1];exact jq);rw[mu]at h0;exact h0)))));have q6:(0:Int)<(zt:Int):=by omega
   have q7:zt<=902:=by have:=HN.out.2.2.2.2.1;have:=HN.out.2.2.2.2.2.2.2.2.2.1;omega
   clear zu hp0 dX hkk hd c2;go_wp2_with fail;refine iW.out.mono ?_;rintro e wZ ⟨rfl,Eg⟩;subst Eg;clear iW;obtain⟨⟨-,c1⟩,-,-⟩:=ae HB.out.gu.1;have c9:=HB.out.gu.2.2.Cb HM.out.1;rw[mu]at c9;have tS:=ab c1 c9;clear c1 c9;go_upto_region 5 with fail;refine pb (S:=(fun W=>W.cell? ⟨r,1,none⟩=some (.slice (some ⟨U8,U9,none⟩) zt NC)/\W.cell? ⟨U8,U9,none⟩=some (.pointer (some ⟨p0,0,none⟩)))) (by kernel_rfl) tS (fun pt=>?_);generalize hW3:World.drew wA=W3 at pt⊢;have HB:=al (HB.out.below (w1:=W3) (hW3▸(aw _ _).drew));clear hW3 tS;refine aM [0,1,2,3,5,6,7,8,9,10] ?_
   iterate 10 (refine bX (v:=?_) (fun wS hSw=>?_) pt ?_;rotate_left;(obtain⟨s0,s1⟩:=hSw;go_simp;try with_reducible rfl);try simp only[ai,aj,ak,ar])
   refine aN ?_;refine ph (rs:=[4,11]) (by kernel_rfl) (by simp) (bP (i:=4) rfl (fun K hK=>?_) (bP (i:=11) rfl (fun K hK=>?_) o0))
   ·skip
    obtain⟨⟨-,r6⟩,-,-⟩:=ae HB.out.ft.1;go_simp;refine hK.out _ _ (pt) ?_;clear hK K pt r6;intro pt
    try simp only[ai,aj,ak,ar]
    refine aW 11 (fun K hK=>?_);go_simp;refine hK.out _ _ (kK pt (af _ _)) ?_;clear hK K pt;intro pt
    try simp only[ai,aj,ak,ar]
    have kV:=an W3 (.cells #[.pointer (some ⟨p0,0,none⟩)] 197);have bV:=af W3 (.cells #[.pointer (some ⟨p0,0,none⟩)] 197);generalize W3.alloc (.cells #[.pointer (some ⟨p0,0,none⟩)] 197)=W5 at kV bV pt⊢;obtain⟨VB,gA⟩: ∃y,W3.heap.size=y:=⟨_,rfl⟩;rw[gA]at kV⊢;have HV:=al kV;have HB:=al (HB.out.below bV);clear kV bV gA;refine aW 12 (fun K hK=>?_);refine cI _ (by rfl) _ _ 199 (by rfl) iN (.pointer none) 8 Tryz.underlying199 HI.out.2.2.2.2.1 HI.out.2.2.2.2.2.1 HI.out.2.2.2.2.2.2.1 HI.out.2.2.2.2.2.2.2 (by rfl) (by decide) _ (pl.map aL) (by rfl) HB.out.ft.2.2 ⟨VB,0,none⟩ 1 1 [aL p0] (by rfl) rfl (fun y hy=>by rw[fl]at hy;subst hy;rfl) (fun j u hj=>by rw[gE,gn];exact oT HV.out (by simpa[aL]using hj)) (by simp[aL,Value.oneCell']) (by rw[fb];have:=HN.out.2.2.2.2.2.2.2.2.1;unfold maxLen;omega) (by rw[fb];have:=HN.out.2.2.2.2.2.2.2.2.1;omega) ?_;intro v6 wn bM eA;rw[show pl.map aL++[aL p0]=(pl++[p0]).map aL by simp]at bM;obtain⟨A7,c7,fy,-⟩:=bM.slice;obtain⟨n7,eY⟩: ∃y,((pl++[p0]).map aL).length=y:=⟨_,rfl⟩;rw[eY]at fy;subst fy;clear eY;have H6:=al (ab bM eA);clear bM eA;refine hK.out _ _ (dt pt H6.out.2 (fun hh=>HB.out.wh hh rfl) (fun hh=>HB.out.rR hh HM.out.2.2.2.2)) ?_;clear hK K pt;intro pt
    try simp only[ai,aj,ak,ar]
    refine aM [13,14] ?_
    iterate 2 (refine bX (v:=?_) (fun wS hSw=>?_) pt ?_;rotate_left;(obtain⟨s0,s1⟩:=hSw;go_simp;try with_reducible rfl);try simp only[ai,aj,ak,ar])
    refine aN ?_;refine aW 15 (fun K hK=>?_);obtain⟨⟨-,r6⟩,-,rf⟩:=ae (H6.out.2.heap HB.out.ft.1 (fun q hh=>HB.out.vY hh rfl));go_simp;refine hK.out _ _ (dt pt (OnlyC.bp _ l 1 _) (fun e=>HB.out.e12 e.1.symm) (fun e=>HB.out.BG HM.out.2.2.2.2 e.1)) ?_;clear hK K pt r6 rf;intro pt
    try simp only[ai,aj,ak,ar]
    refine pf (by kernel_rfl) ?_ _;have dU:=HB.out.k1 (aw _ _) H6.out.2 H6.out.1;clear pt;generalize wn.setCell ⟨l,1,none⟩ (.slice A7 n7 c7)=wB at dU⊢;have HB:=al dU;clear dU HV H6;obtain⟨⟨-,c2⟩,-,-⟩:=ae HB.out.gu.1;go_wp2_with fail;refine(iC wB (Hr 2) _ (pr.map aL) 0 _ _ rfl (by simp) HB.out.gu.2.2 (by rw[fb,<-HN.out.2.2.2.2.1];exact jq) (by rw[fb,<-HN.out.2.2.2.2.1];omega) (bQ _)).mono ?_;rintro e w9 ⟨v9,rfl,cu,eU⟩;rw[jj,fs,<-kn]at cu;obtain⟨A8,c8,fQ,-⟩:=cu.slice;obtain⟨n8,fG⟩: ∃y,((pr.drop (0+1)).map aL).length=y:=⟨_,rfl⟩;rw[fG]at fQ;subst fQ;clear fG c2;have H9:=al (ab cu eU);clear cu eU;obtain⟨⟨-,c2⟩,-,f2⟩:=ae (H9.out.2.heap HB.out.gu.1 (fun q hh=>HB.out.BH hh rfl));go_wp2_with fail
    first|refine et (du rfl _ _ _) rfl ?_|refine dq (du rfl _ _ _) rfl ?_
    have zw:=HB.out.k2 (aw _ _) H9.out.2 (H9.out.1.mono (fun b q hh=>.inl hh));obtain⟨hp0,dX,hkk,hd,-⟩:=HM.out;have hsub:bL w d p0 k0 (Hr (0+3)):=(HA.out.2.2.2.2.1).2.2.2.2.2.1 0 p0 k0 hp0 dX
    have hE:=fZ HA.out.1 HA.out.2.1 (by have:=HN.out.2.2.2.2.2.2.2.2.2.2.1;omega) HA.out.2.2.1 HA.out.2.2.2.1 HA.out.2.2.2.2.1 HA.out.2.2.2.2.2.1 zw kl.ks.length kl.ks.length (aq _) (aq _) [(p0,k0)] (pX (Hr (0+3)) (fun _ _=>False)) 0 1 (by decide) hkk [] (fun _ _ _=>False) rfl HA.out.2.2.2.2.2.2.1 HA.out.2.2.2.2.2.2.2.1 (by rw[<-HN.out.2.2.2.2.2.2.2.2.1];simp) (by simp) (fun mm b q h=>match mm,h with|0,h=>⟨0,aq _,by omega,h⟩|1,h=>h.elim|_+2,h=>h.elim) (fun _ _ _ h=>h.elim)
     (fun mm Eh b q h1 h2=>by
      match mm,h1,Eh,h2 with
      |0,_,0,_=>rfl
      |1,h1,_,_=>exact h1.elim
      |_+2,h1,_,_=>exact h1.elim
      |0,_,1,h2=>exact h2.elim
      |0,_,_+2,h2=>exact h2.elim) (fun _ _ _ _ h=>h.elim)
     (fun mm p k hm=>by
      match mm,hm with
      |0,hm=>simp only[gr,fj,lP]at hm;obtain⟨rfl,rfl⟩:=hm;exact hsub
      |mm+1,hm=>simp at hm)
     (fun mm p k hm=>by simp at hm)
     (fun e=>absurd e hd) (fun e=>absurd e hd)
    rw[sW hd HA.out.2.2.2.2.2.2.2.2.2.2.2.1 dX];refine⟨rfl,?_,hE.2⟩;have h1:=hE.1;simp only[ie,List.drop_length,jj,kb,lx,gd,fs]at h1;exact h1
   ·skip
    go_simp;refine hK.out _ _ (kK pt (af _ _)) ?_;clear hK K pt;intro pt
    try simp only[ai,aj,ak,ar]
    have kV:=an W3 (.cells #[.pointer (some ⟨p0,0,none⟩)] 197);have bV:=af W3 (.cells #[.pointer (some ⟨p0,0,none⟩)] 197);generalize W3.alloc (.cells #[.pointer (some ⟨p0,0,none⟩)] 197)=W5 at kV bV pt⊢;obtain⟨VB,gA⟩: ∃y,W3.heap.size=y:=⟨_,rfl⟩;rw[gA]at kV⊢;have HV:=al kV;have HB:=al (HB.out.below bV);clear kV bV gA;refine aW 4 (fun K hK=>?_);obtain⟨⟨-,r6⟩,-,-⟩:=ae HB.out.ft.1;go_simp;refine hK.out _ _ (pt) ?_;clear hK K pt r6;intro pt
    try simp only[ai,aj,ak,ar]
    refine aW 12 (fun K hK=>?_);refine cI _ (by rfl) _ _ 199 (by rfl) iN (.pointer none) 8 Tryz.underlying199 HI.out.2.2.2.2.1 HI.out.2.2.2.2.2.1 HI.out.2.2.2.2.2.2.1 HI.out.2.2.2.2.2.2.2 (by rfl) (by decide) _ (pl.map aL) (by rfl) HB.out.ft.2.2 ⟨VB,0,none⟩ 1 1 [aL p0] (by rfl) rfl (fun y hy=>by rw[fl]at hy;subst hy;rfl) (fun j u hj=>by rw[gE,gn];exact oT HV.out (by simpa[aL]using hj)) (by simp[aL,Value.oneCell']) (by rw[fb];have:=HN.out.2.2.2.2.2.2.2.2.1;unfold maxLen;omega) (by rw[fb];have:=HN.out.2.2.2.2.2.2.2.2.1;omega) ?_;intro v6 wn bM eA;rw[show pl.map aL++[aL p0]=(pl++[p0]).map aL by simp]at bM;obtain⟨A7,c7,fy,-⟩:=bM.slice;obtain⟨n7,eY⟩: ∃y,((pl++[p0]).map aL).length=y:=⟨_,rfl⟩;rw[eY]at fy;subst fy;clear eY;have H6:=al (ab bM eA);clear bM eA;refine hK.out _ _ (dt pt H6.out.2 (fun hh=>HB.out.wh hh rfl) (fun hh=>HB.out.rR hh HM.out.2.2.2.2)) ?_;clear hK K pt;intro pt
    try simp only[ai,aj,ak,ar]
    refine aM [13,14] ?_
    iterate 2 (refine bX (v:=?_) (fun wS hSw=>?_) pt ?_;rotate_left;(obtain⟨s0,s1⟩:=hSw;go_simp;try with_reducible rfl);try simp only[ai,aj,ak,ar])
    refine aN ?_;refine aW 15 (fun K hK=>?_);obtain⟨⟨-,r6⟩,-,rf⟩:=ae (H6.out.2.heap HB.out.ft.1 (fun q hh=>HB.out.vY hh rfl));go_simp;refine hK.out _ _ (dt pt (OnlyC.bp _ l 1 _) (fun e=>HB.out.e12 e.1.symm) (fun e=>HB.out.BG HM.out.2.2.2.2 e.1)) ?_;clear hK K pt r6 rf;intro pt
    try simp only[ai,aj,ak,ar]
    refine pf (by kernel_rfl) ?_ _;have dU:=HB.out.k1 (aw _ _) H6.out.2 H6.out.1;clear pt;generalize wn.setCell ⟨l,1,none⟩ (.slice A7 n7 c7)=wB at dU⊢;have HB:=al dU;clear dU HV H6;obtain⟨⟨-,c2⟩,-,-⟩:=ae HB.out.gu.1;go_wp2_with fail;refine(iC wB (Hr 2) _ (pr.map aL) 0 _ _ rfl (by simp) HB.out.gu.2.2 (by rw[fb,<-HN.out.2.2.2.2.1];exact jq) (by rw[fb,<-HN.out.2.2.2.2.1];omega) (bQ _)).mono ?_;rintro e w9 ⟨v9,rfl,cu,eU⟩;rw[jj,fs,<-kn]at cu;obtain⟨A8,c8,fQ,-⟩:=cu.slice;obtain⟨n8,fG⟩: ∃y,((pr.drop (0+1)).map aL).length=y:=⟨_,rfl⟩;rw[fG]at fQ;subst fQ;clear fG c2;have H9:=al (ab cu eU);clear cu eU;obtain⟨⟨-,c2⟩,-,f2⟩:=ae (H9.out.2.heap HB.out.gu.1 (fun q hh=>HB.out.BH hh rfl));go_wp2_with fail
    first|refine et (du rfl _ _ _) rfl ?_|refine dq (du rfl _ _ _) rfl ?_
    have zw:=HB.out.k2 (aw _ _) H9.out.2 (H9.out.1.mono (fun b q hh=>.inl hh));obtain⟨hp0,dX,hkk,hd,-⟩:=HM.out;have hsub:bL w d p0 k0 (Hr (0+3)):=(HA.out.2.2.2.2.1).2.2.2.2.2.1 0 p0 k0 hp0 dX
    have hE:=fZ HA.out.1 HA.out.2.1 (by have:=HN.out.2.2.2.2.2.2.2.2.2.2.1;omega) HA.out.2.2.1 HA.out.2.2.2.1 HA.out.2.2.2.2.1 HA.out.2.2.2.2.2.1 zw kl.ks.length kl.ks.length (aq _) (aq _) [(p0,k0)] (pX (Hr (0+3)) (fun _ _=>False)) 0 1 (by decide) hkk [] (fun _ _ _=>False) rfl HA.out.2.2.2.2.2.2.1 HA.out.2.2.2.2.2.2.2.1 (by rw[<-HN.out.2.2.2.2.2.2.2.2.1];simp) (by simp) (fun mm b q h=>match mm,h with|0,h=>⟨0,aq _,by omega,h⟩|1,h=>h.elim|_+2,h=>h.elim) (fun _ _ _ h=>h.elim)
     (fun mm Eh b q h1 h2=>by
      match mm,h1,Eh,h2 with
      |0,_,0,_=>rfl
      |1,h1,_,_=>exact h1.elim
      |_+2,h1,_,_=>exact h1.elim
      |0,_,1,h2=>exact h2.elim
      |0,_,_+2,h2=>exact h2.elim) (fun _ _ _ _ h=>h.elim)
     (fun mm p k hm=>by
      match mm,hm with
      |0,hm=>simp only[gr,fj,lP]at hm;obtain⟨rfl,rfl⟩:=hm;exact hsub
      |mm+1,hm=>simp at hm)
     (fun mm p k hm=>by simp at hm)
     (fun e=>absurd e hd) (fun e=>absurd e hd)
    rw[sW hd HA.out.2.2.2.2.2.2.2.2.2.2.2.1 dX];refine⟨rfl,?_,hE.2⟩;have h1:=hE.1;simp only[ie,List.drop_length,jj,kb,lx,gd,fs]at h1;exact h1
theorem ng(w:World)(d a i:Nat)(x:ND)(F:Nat->Nat->Prop)(h:ay w (d+1) a x F)(hF: ∀b q,F b q->b<w.heap.size)(hi:i+1<x.ks.length)(hps:x.ks.length=x.ps.length+1)(hpl:x.ps.length<=900)
  (RO:(aQ x i).ps.length<=900) (UZ:(aQ x (i+1)).ps.length<=900) (YS:(aQ x i).ks.length<=901) (U1:(aQ x (i+1)).ks.length<=901):
  Calls Tryz.prog 213 #[.pointer (some ⟨a,0,none⟩),.int .i64 i] w fun e w'=>e=.returned (.tuple #[])/\ay w' (d+1) a (sB x i (kE (aQ x i) (gi x i) (aQ x (i+1)))) (fun b q=>F b q\/w.heap.size<=b)/\OnlyC F w w':=by
 obtain⟨_,vp,vk,aA,H,hO,_⟩:=h.open_;have uw:=df (x:=x) (i:=i) (by omega);have uy:=df (x:=x) (i:=i+1) (by omega);generalize U2:aQ x i=kl at *;generalize U3:aQ x (i+1)=kr at *;clear U2 U3;obtain⟨l,hl⟩: ∃y,aA[i]?=some y:=⟨_,ao (by rw[hO.2.2.2.2.1];omega)⟩;obtain⟨r,hr⟩: ∃y,aA[i+1]?=some y:=⟨_,ao (by rw[hO.2.2.2.2.1];omega)⟩;obtain⟨mR,vl,ul,pl,Hl,hL,DF⟩:=(show ay w d l kl (H (i+3))from hO.2.2.2.2.2.1 i l kl hl uw).open_;obtain⟨hdr,vr,ur,pr,Hr,hR,Nw⟩:=(show ay w d r kr (H (i+4))from hO.2.2.2.2.2.1 (i+1) r kr hr uy).open_;have hB:=bt.start hO hF hL hR;obtain⟨s,hs⟩: ∃p,x.ps[i]?=some p:=⟨_,ao (by omega)⟩;obtain⟨iP,hiP,K6,K7,K8⟩:=eC Tryz.Dv;obtain⟨iN,U7,Lb,Lc,Ld⟩:=eC Tryz.Dx;have HI:=al (ab hiP (ab K6 (ab K7 (ab K8 (ab U7 (ab Lb (ab Lc Ld)))))));clear hiP K6 K7 K8 U7 Lb Lc Ld;have Cf:gi x i=s:=by unfold gi;rw[hs];rfl
 rw[Cf];obtain⟨i1,hi1⟩: ∃y,y=i+1:=⟨_,rfl⟩;obtain⟨bn,on,cn,e0,-,-,s0,s1,-⟩:=hO.2.2.1.pair hs;subst e0;obtain⟨Ar,cr,e0,-⟩:=hR.2.2.1.slice;rw[fb]at e0;subst e0;obtain⟨Al0,cl,e0,-⟩:=hL.2.2.1.slice;rw[fb]at e0;subst e0;obtain⟨bk,ok,ck,e0,-,-,r1⟩:=hO.2.2.2.1.ptr hl;obtain⟨bk',ok',ck',NB,-,-,r2⟩:=hO.2.2.2.1.ptr hr;subst e0;simp only[gR,fj,mZ,and_true,true_and]at NB;obtain⟨⟨rfl,rfl⟩,rfl⟩:=NB;obtain⟨Al,QA,e0,-⟩:=hL.2.2.2.1.slice;rw[fb]at e0;subst e0;obtain⟨TL,NC,e0,-⟩:=hR.2.2.2.1.slice;rw[fb]at e0;subst e0;obtain⟨np,mH⟩: ∃y,x.ps.length=y:=⟨_,rfl⟩;obtain⟨nr,vP⟩: ∃y,kr.ps.length=y:=⟨_,rfl⟩;obtain⟨nk,jP⟩: ∃y,aA.length=y:=⟨_,rfl⟩;obtain⟨Cg,jo⟩: ∃y,pl.length=y:=⟨_,rfl⟩;obtain⟨zt,jq⟩: ∃y,pr.length=y:=⟨_,rfl⟩;obtain⟨nl,hnl⟩: ∃y,kl.ps.length=y:=⟨_,rfl⟩;have gN:=hO.2.2.2.2.1;have QB:=hL.2.2.2.2.1;have Gh:=hR.2.2.2.2.1;rw[mH,jP]at hO;rw[hnl,jo]at hL;rw[vP,jq]at hR;rw[mH,jP,hnl,jo,vP,jq]at hB;have rW:=(hO.2.2.1.pF (i:=i) (by omega));have HA:=al (ab hO (ab hF (ab hL (ab DF (ab hR (ab Nw (ab hl (ab hr (ab uw (ab uy (ab hs (ab mR hdr))))))))))));have HN:=al (show np=x.ps.length/\nr=kr.ps.length/\nk=aA.length/\Cg=pl.length/\zt=pr.length/\nl=kl.ps.length/\aA.length=x.ks.length/\pl.length=kl.ks.length/\pr.length=kr.ks.length/\i+1<x.ks.length/\x.ks.length=x.ps.length+1/\i1=i+1 from⟨mH.symm,vP.symm,jP.symm,jo.symm,jq.symm,hnl.symm,gN,QB,Gh,hi,hps,hi1⟩);have HB:=al hB;have HP:=al rW;obtain⟨⟨Gi,TM⟩,-,-⟩:=ae hB.kg.1;have j1:(i:Int)+1=(i1:Int):=by omega
 have j2:(0:Int)<=(i:Int):=by omega
 have j3:(i:Int)<(nk:Int):=by omega
 have j4:(i1:Int)<(nk:Int):=by omega
 have j5:(0:Int)<=(i1:Int):=by omega
 have j6:(i:Int)<(np:Int):=by omega
 have j8:nr<=900:=by omega
 have j10:nl<=900:=by omega
 obtain⟨j11,j12⟩:=JO i1 (by omega);have r2':w.cell? ⟨bk,ok+i1,none⟩=some (.pointer (some ⟨r,0,none⟩)):=by rw[hi1];exact r2
 clear r2 h hO hF hL DF hR Nw hl hr uw uy hB hs mH vP jP jo jq hnl gN QB Gh rW hi1 Cf mR hdr;go_enter Tryz.func213,Tryz.ntmps213;go_wp2_with fail;go_quiet(fail);go_upto_region 1 with fail;have sV:Below w.heap.size w (w.drewN nq):=aG (aw _ _) nq;generalize w.drewN nq=wq at sV⊢;have QC:=(sV.cell (aE _ _ s0)).trans s0;have QD:=(sV.cell (aE _ _ s1)).trans s1;have HB:=al (HB.out.below sV);clear Gi TM r1 r2' s0 s1 sV;obtain⟨⟨Gi,-⟩,-,-⟩:=ae HB.out.kg.1;have tS:=ab Gi (ab QC QD);clear Gi QC QD;refine pb (S:=(fun W=>W.cell? ⟨a,0,none⟩=some (.slice (some ⟨bn,on,none⟩) np cn)/\W.cell? ⟨bn,on+i*2,none⟩=some (.string ⟨s.1.toArray⟩)/\W.cell? ⟨bn,on+i*2+1,none⟩=some (.string ⟨s.2.toArray⟩))) (by kernel_rfl) tS (fun pt=>?_);generalize hW3:World.drew wq=W3 at pt⊢;have HB:=al (HB.out.below (w1:=W3) (hW3▸(aw _ _).drew));clear hW3 tS;refine aM [0,1,2,3,5,6,7,8,9,10,11] ?_
 iterate 11 (refine bX (v:=?_) (fun wS hSw=>?_) pt ?_;rotate_left;(obtain⟨s0,s1,s2⟩:=hSw;go_simp;try with_reducible rfl);try simp only[ai,aj,ak,ar])
 refine aN ?_;refine ph (rs:=[4,12]) (by kernel_rfl) (by simp) (bP (i:=4) rfl (fun K hK=>?_) (bP (i:=12) rfl (fun K hK=>?_) o0))
 ·skip
  obtain⟨⟨r6,-⟩,-,-⟩:=ae HB.out.ft.1;go_simp;refine hK.out _ _ (pt) ?_;clear hK K pt r6;intro pt
  try simp only[ai,aj,ak,ar]
  refine aW 12 (fun K hK=>?_);go_simp;refine hK.out _ _ (rz pt (af _ _)) ?_;clear hK K pt;intro pt
  try simp only[ai,aj,ak,ar]
  have kV:=an W3 (.cells #[.string ⟨s.1.toArray⟩,.string ⟨s.2.toArray⟩] 210);have bV:=af W3 (.cells #[.string ⟨s.1.toArray⟩,.string ⟨s.2.toArray⟩] 210);generalize W3.alloc (.cells #[.string ⟨s.1.toArray⟩,.string ⟨s.2.toArray⟩] 210)=W5 at kV bV pt⊢;obtain⟨VB,gA⟩: ∃y,W3.heap.size=y:=⟨_,rfl⟩;rw[gA]at kV⊢;have HV:=al kV;have HB:=al (HB.out.below bV);clear kV bV gA;refine aW 13 (fun K hK=>?_);refine cI _ (by rfl) _ _ 198 (by rfl) iP (.agg #[.string ⟨#[]⟩,.string ⟨#[]⟩]) 32 Tryz.underlying198 HI.out.1 HI.out.2.1 HI.out.2.2.1 HI.out.2.2.2.1 (by rfl) (by decide) _ (kl.ps.map ax) (by rfl) HB.out.ft.2.1 ⟨VB,0,none⟩ 1 1 [ax s] (by rfl) rfl (fun y hy=>by rw[fl]at hy;subst hy;rfl) (fun j u hj=>by rw[gE,gn];exact oT HV.out (by simpa[ax]using hj)) (by simp[ax,Value.oneCell']) (by rw[fb];unfold maxLen;omega) (by rw[fb];omega) ?_;intro v6 wn bM eA;rw[show kl.ps.map ax++[ax s]=(kl.ps++[s]).map ax by simp]at bM;obtain⟨A6,c6,fy,-⟩:=bM.slice;obtain⟨n6,eY⟩: ∃y,((kl.ps++[s]).map ax).length=y:=⟨_,rfl⟩;rw[eY]at fy;subst fy;clear eY;have H6:=al (ab bM eA);clear bM eA;refine hK.out _ _ (gD pt H6.out.2 (fun hh=>HB.out.Oh hh rfl) (fun hh=>HB.out.mG HP.out.1 hh) (fun hh=>HB.out.mG HP.out.2 hh)) ?_;clear hK K pt;intro pt
  try simp only[ai,aj,ak,ar]
  refine aM [14,15] ?_
  iterate 2 (refine bX (v:=?_) (fun wS hSw=>?_) pt ?_;rotate_left;(obtain⟨s0,s1,s2⟩:=hSw;go_simp;try with_reducible rfl);try simp only[ai,aj,ak,ar])
  refine aN ?_;refine aW 16 (fun K hK=>?_);obtain⟨⟨r6,-⟩,rf,-⟩:=ae (H6.out.2.heap HB.out.ft.1 (fun q hh=>HB.out.BF hh rfl));go_simp;refine hK.out _ _ (gD pt (OnlyC.bp _ l 0 _) (fun e=>HB.out.Xt e.1) (fun e=>HB.out.vX HP.out.1 e.1) (fun e=>HB.out.vX HP.out.2 e.1)) ?_;clear hK K pt r6 rf;intro pt
  try simp only[ai,aj,ak,ar]
  refine pf (by kernel_rfl) ?_ _;have dU:=HB.out.p1 (aw _ _) H6.out.2 H6.out.1;clear pt;generalize wn.setCell ⟨l,0,none⟩ (.slice A6 n6 c6)=w7 at dU⊢;have HB:=al dU;clear dU HV H6;obtain⟨⟨c2,-⟩,-,-⟩:=ae HB.out.gu.1;have tS:=c2;clear c2;go_upto_region 2 with fail;refine pb (S:=(fun W=>W.cell? ⟨r,0,none⟩=some (.slice Ar nr cr))) (by kernel_rfl) tS (fun pt=>?_);generalize hW3:World.drew w7=W3 at pt⊢;have HB:=al (HB.out.below (w1:=W3) (hW3▸(aw _ _).drew));clear hW3 tS;refine aM [0,1,2,3,5,6,7] ?_
  iterate 7 (refine bX (v:=?_) (fun wS hSw=>?_) pt ?_;rotate_left;(go_simp;try with_reducible rfl);try simp only[ai,aj,ak,ar])
  refine aN ?_;refine fJ 8 (v:=?_) (fun wS hSw=>?_) pt ?_;rotate_left
  ·have s0:=hSw;go_simp;try with_reducible rfl
  try simp only[ai,aj,ak,ar]
  refine aW 4 (fun K hK=>?_);obtain⟨⟨r6,-⟩,rf,-⟩:=ae (HB.out.ft.1);go_simp;refine hK.out _ _ (pt) ?_;clear hK K pt r6 rf;intro pt
  try simp only[ai,aj,ak,ar]
  refine aW 9 (fun K hK=>?_);refine fW _ (by rfl) _ _ 198 (by rfl) iP (.agg #[.string ⟨#[]⟩,.string ⟨#[]⟩]) 32 Tryz.underlying198 HI.out.1 HI.out.2.1 HI.out.2.2.1 HI.out.2.2.2.1 (by rfl) (by decide) _ ((kl.ps++[s]).map ax) (by rfl) HB.out.ft.2.1 _ (kr.ps.map ax) (by rfl) HB.out.gu.2.1 (dA _) (by simp;unfold maxLen;omega) (by simp;omega) ?_;intro v6 wn bM eA;rw[<-im]at bM;obtain⟨A7,c7,fy,-⟩:=bM.slice;obtain⟨n7,eY⟩: ∃y,(((kl.ps++[s])++kr.ps).map ax).length=y:=⟨_,rfl⟩;rw[eY]at fy;subst fy;clear eY;have H6:=al (ab bM eA);clear bM eA;refine hK.out _ _ (H6.out.2.cell pt (fun hh=>HB.out.Us hh rfl)) ?_;clear hK K pt;intro pt
  try simp only[ai,aj,ak,ar]
  refine aM [10,11] ?_
  iterate 2 (refine bX (v:=?_) (fun wS hSw=>?_) pt ?_;rotate_left;(go_simp;try with_reducible rfl);try simp only[ai,aj,ak,ar])
  refine aN ?_;refine aW 12 (fun K hK=>?_);obtain⟨⟨r6,-⟩,rf,-⟩:=ae (H6.out.2.heap HB.out.ft.1 (fun q hh=>HB.out.BF hh rfl));go_simp;refine hK.out _ _ ((OnlyC.bp _ l 0 _).cell pt (fun e=>HB.out.e12 e.1.symm)) ?_;clear hK K pt r6 rf;intro pt
  try simp only[ai,aj,ak,ar]
  refine pf (by kernel_rfl) ?_ _;have dU:=HB.out.p1 (aw _ _) H6.out.2 H6.out.1;clear pt;generalize wn.setCell ⟨l,0,none⟩ (.slice A7 n7 c7)=wE at dU⊢;have HB:=al dU;clear dU H6;obtain⟨⟨-,c2⟩,-,-⟩:=ae HB.out.gu.1;have tS:=c2;clear c2;go_upto_region 3 with fail;refine pb (S:=(fun W=>W.cell? ⟨r,1,none⟩=some (.slice TL zt NC))) (by kernel_rfl) tS (fun pt=>?_);generalize hW3:World.drew wE=W3 at pt⊢;have HB:=al (HB.out.below (w1:=W3) (hW3▸(aw _ _).drew));clear hW3 tS;refine aM [0,1,2,3,5,6,7] ?_
  iterate 7 (refine bX (v:=?_) (fun wS hSw=>?_) pt ?_;rotate_left;(go_simp;try with_reducible rfl);try simp only[ai,aj,ak,ar])
  refine aN ?_;refine fJ 8 (v:=?_) (fun wS hSw=>?_) pt ?_;rotate_left
  ·have s0:=hSw;go_simp;try with_reducible rfl
  try simp only[ai,aj,ak,ar]
  refine aW 4 (fun K hK=>?_);obtain⟨⟨-,r6⟩,-,rf⟩:=ae (HB.out.ft.1);go_simp;refine hK.out _ _ (pt) ?_;clear hK K pt r6 rf;intro pt
  try simp only[ai,aj,ak,ar]
  refine aW 9 (fun K hK=>?_);refine fW _ (by rfl) _ _ 199 (by rfl) iN (.pointer none) 8 Tryz.underlying199 HI.out.2.2.2.2.1 HI.out.2.2.2.2.2.1 HI.out.2.2.2.2.2.2.1 HI.out.2.2.2.2.2.2.2 (by rfl) (by decide) _ (pl.map aL) (by rfl) HB.out.ft.2.2 _ (pr.map aL) (by rfl) HB.out.gu.2.2 (bQ _) (by rw[fb,fb];have:=HN.out.2.2.2.2.2.2.2.1;have:=HN.out.2.2.2.2.2.2.2.2.1;unfold maxLen;omega) (by rw[fb,fb];have:=HN.out.2.2.2.2.2.2.2.1;have:=HN.out.2.2.2.2.2.2.2.2.1;omega) ?_;intro v6 wn bM eA;rw[<-im]at bM;obtain⟨A7,c7,fy,-⟩:=bM.slice;obtain⟨n7,eY⟩: ∃y,((pl++pr).map aL).length=y:=⟨_,rfl⟩;rw[eY]at fy;subst fy;clear eY;have H6:=al (ab bM eA);clear bM eA;refine hK.out _ _ (H6.out.2.cell pt (fun hh=>HB.out.wh hh rfl)) ?_;clear hK K pt;intro pt
  try simp only[ai,aj,ak,ar]
  refine aM [10,11] ?_
  iterate 2 (refine bX (v:=?_) (fun wS hSw=>?_) pt ?_;rotate_left;(go_simp;try with_reducible rfl);try simp only[ai,aj,ak,ar])
  refine aN ?_;refine aW 12 (fun K hK=>?_);obtain⟨⟨-,r6⟩,-,rf⟩:=ae (H6.out.2.heap HB.out.ft.1 (fun q hh=>HB.out.vY hh rfl));go_simp;refine hK.out _ _ ((OnlyC.bp _ l 1 _).cell pt (fun e=>HB.out.e12 e.1.symm)) ?_;clear hK K pt r6 rf;intro pt
  try simp only[ai,aj,ak,ar]
  refine pf (by kernel_rfl) ?_ _;have dU:=HB.out.k1 (aw _ _) H6.out.2 H6.out.1;clear pt;generalize wn.setCell ⟨l,1,none⟩ (.slice A7 n7 c7)=wF at dU⊢;have HB:=al dU;clear dU H6;obtain⟨⟨c1,-⟩,-,-⟩:=ae HB.out.kg.1;go_wp2_with fail;refine(kD wF (H 1) _ (x.ps.map ax) i _ _ rfl (by omega) HB.out.kg.2.1 (by rw[fb];have:=HN.out.2.2.2.2.2.2.2.2.2.1;have:=HN.out.2.2.2.2.2.2.2.2.2.2.1;omega) (by rw[fb];omega) (dA _)).mono ?_;rintro e w9 ⟨v9,rfl,cu,eU⟩;rw[<-mc,<-kn,<-im]at cu;obtain⟨A8,c8,fQ,-⟩:=cu.slice;obtain⟨n8,fG⟩: ∃y,((x.ps.take i++x.ps.drop (i+1)).map ax).length=y:=⟨_,rfl⟩;rw[fG]at fQ;subst fQ;clear fG c1;have H9:=al (ab cu eU);clear cu eU;obtain⟨⟨c1,-⟩,f1,-⟩:=ae (H9.out.2.heap HB.out.kg.1 (fun q hh=>HB.out.Hp hh rfl));go_upto_region 5 with fail;clear c1 f1;have hB4:=HB.out.p0 (aw _ _) H9.out.2 (H9.out.1.mono (fun b q hh=>.inl hh));generalize w9.setCell ⟨a,0,none⟩ (.slice A8 n8 c8)=wG at hB4⊢;have HB:=al hB4;clear hB4 H9;obtain⟨⟨-,c2⟩,-,-⟩:=ae HB.out.kg.1;go_wp2_with fail;refine(iC wG (H 2) _ (aA.map aL) i1 _ _ (by simp) (by omega) HB.out.kg.2.2 (by rw[fb];have:=HN.out.2.2.2.2.2.2.2.2.2.1;have:=HN.out.2.2.2.2.2.2.1;have:=HN.out.2.2.2.2.2.2.2.2.2.2.2;omega) (by rw[fb];have:=HN.out.2.2.2.2.2.2.1;have:=HN.out.2.2.2.2.2.2.2.2.2.2.1;omega) (bQ _)).mono ?_;rintro e wY ⟨v9,rfl,cu,eU⟩;rw[<-mc,<-kn,<-im]at cu;obtain⟨A9,c9,fQ,-⟩:=cu.slice;obtain⟨n9,fG⟩: ∃y,((aA.take i1++aA.drop (i1+1)).map aL).length=y:=⟨_,rfl⟩;rw[fG]at fQ;subst fQ;clear fG c2;have H9:=al (ab cu eU);clear cu eU;obtain⟨⟨-,c2⟩,-,f2⟩:=ae (H9.out.2.heap HB.out.kg.1 (fun q hh=>HB.out.Ur hh rfl));go_wp2_with fail
  first|refine et (du rfl _ _ _) rfl ?_|refine dq (du rfl _ _ _) rfl ?_
  have zw:=HB.out.k0 (aw _ _) H9.out.2 (H9.out.1.mono (fun b q hh=>.inl hh));have hE:=F4 HA.out.1 HA.out.2.1 (by have:=HN.out.2.2.2.2.2.2.2.2.2.1;omega) HA.out.2.2.1 HA.out.2.2.2.1 HA.out.2.2.2.2.1 zw ?_ rfl (fun e=>by rw[HA.out.2.2.2.2.2.2.2.2.2.2.2.1 e,HA.out.2.2.2.2.2.2.2.2.2.2.2.2 e];rfl)
  ·refine⟨rfl,?_,hE.2⟩;have h1:=hE.1;have e1:kl.ps++[s]++kr.ps=kl.ps++s::kr.ps:=by simp
   rw[e1]at h1;exact h1
  ·have h1:=HA.out.2.2.2.2.2.2.1;have h2:=(b8.1 h1);obtain⟨h3,h4⟩:=h2;rw[HN.out.2.2.2.2.2.2.2.2.2.2.2,List.take_succ_eq_append_getElem h3,h4]
 ·skip
  go_simp;refine hK.out _ _ (rz pt (af _ _)) ?_;clear hK K pt;intro pt
  try simp only[ai,aj,ak,ar]
  have kV:=an W3 (.cells #[.string ⟨s.1.toArray⟩,.string ⟨s.2.toArray⟩] 210);have bV:=af W3 (.cells #[.string ⟨s.1.toArray⟩,.string ⟨s.2.toArray⟩] 210);generalize W3.alloc (.cells #[.string ⟨s.1.toArray⟩,.string ⟨s.2.toArray⟩] 210)=W5 at kV bV pt⊢;obtain⟨VB,gA⟩: ∃y,W3.heap.size=y:=⟨_,rfl⟩;rw[gA]at kV⊢;have HV:=al kV;have HB:=al (HB.out.below bV);clear kV bV gA;refine aW 4 (fun K hK=>?_);obtain⟨⟨r6,-⟩,-,-⟩:=ae HB.out.ft.1;go_simp;refine hK.out _ _ (pt) ?_;clear hK K pt r6;intro pt
  try simp only[ai,aj,ak,ar]
  refine aW 13 (fun K hK=>?_);refine cI _ (by rfl) _ _ 198 (by rfl) iP (.agg #[.string ⟨#[]⟩,.string ⟨#[]⟩]) 32 Tryz.underlying198 HI.out.1 HI.out.2.1 HI.out.2.2.1 HI.out.2.2.2.1 (by rfl) (by decide) _ (kl.ps.map ax) (by rfl) HB.out.ft.2.1 ⟨VB,0,none⟩ 1 1 [ax s] (by rfl) rfl (fun y hy=>by rw[fl]at hy;subst hy;rfl) (fun j u hj=>by rw[gE,gn];exact oT HV.out (by simpa[ax]using hj)) (by simp[ax,Value.oneCell']) (by rw[fb];unfold maxLen;omega) (by rw[fb];omega) ?_;intro v6 wn bM eA;rw[show kl.ps.map ax++[ax s]=(kl.ps++[s]).map ax by simp]at bM;obtain⟨A6,c6,fy,-⟩:=bM.slice;obtain⟨n6,eY⟩: ∃y,((kl.ps++[s]).map ax).length=y:=⟨_,rfl⟩;rw[eY]at fy;subst fy;clear eY;have H6:=al (ab bM eA);clear bM eA;refine hK.out _ _ (gD pt H6.out.2 (fun hh=>HB.out.Oh hh rfl) (fun hh=>HB.out.mG HP.out.1 hh) (fun hh=>HB.out.mG HP.out.2 hh)) ?_;clear hK K pt;intro pt
  try simp only[ai,aj,ak,ar]
  refine aM [14,15] ?_
  iterate 2 (refine bX (v:=?_) (fun wS hSw=>?_) pt ?_;rotate_left;(obtain⟨s0,s1,s2⟩:=hSw;go_simp;try with_reducible rfl);try simp only[ai,aj,ak,ar])
  refine aN ?_;refine aW 16 (fun K hK=>?_);obtain⟨⟨r6,-⟩,rf,-⟩:=ae (H6.out.2.heap HB.out.ft.1 (fun q hh=>HB.out.BF hh rfl));go_simp;refine hK.out _ _ (gD pt (OnlyC.bp _ l 0 _) (fun e=>HB.out.Xt e.1) (fun e=>HB.out.vX HP.out.1 e.1) (fun e=>HB.out.vX HP.out.2 e.1)) ?_;clear hK K pt r6 rf;intro pt
  try simp only[ai,aj,ak,ar]
  refine pf (by kernel_rfl) ?_ _;have dU:=HB.out.p1 (aw _ _) H6.out.2 H6.out.1;clear pt;generalize wn.setCell ⟨l,0,none⟩ (.slice A6 n6 c6)=w7 at dU⊢;have HB:=al dU;clear dU HV H6;obtain⟨⟨c2,-⟩,-,-⟩:=ae HB.out.gu.1;have tS:=c2;clear c2;go_upto_region 2 with fail;refine pb (S:=(fun W=>W.cell? ⟨r,0,none⟩=some (.slice Ar nr cr))) (by kernel_rfl) tS (fun pt=>?_);generalize hW3:World.drew w7=W3 at pt⊢;have HB:=al (HB.out.below (w1:=W3) (hW3▸(aw _ _).drew));clear hW3 tS;refine aM [0,1,2,3,5,6,7] ?_
  iterate 7 (refine bX (v:=?_) (fun wS hSw=>?_) pt ?_;rotate_left;(go_simp;try with_reducible rfl);try simp only[ai,aj,ak,ar])
  refine aN ?_;refine fJ 8 (v:=?_) (fun wS hSw=>?_) pt ?_;rotate_left
  ·have s0:=hSw;go_simp;try with_reducible rfl
  try simp only[ai,aj,ak,ar]
  refine aW 4 (fun K hK=>?_);obtain⟨⟨r6,-⟩,rf,-⟩:=ae (HB.out.ft.1);go_simp;refine hK.out _ _ (pt) ?_;clear hK K pt r6 rf;intro pt
  try simp only[ai,aj,ak,ar]
  refine aW 9 (fun K hK=>?_);refine fW _ (by rfl) _ _ 198 (by rfl) iP (.agg #[.string ⟨#[]⟩,.string ⟨#[]⟩]) 32 Tryz.underlying198 HI.out.1 HI.out.2.1 HI.out.2.2.1 HI.out.2.2.2.1 (by rfl) (by decide) _ ((kl.ps++[s]).map ax) (by rfl) HB.out.ft.2.1 _ (kr.ps.map ax) (by rfl) HB.out.gu.2.1 (dA _) (by simp;unfold maxLen;omega) (by simp;omega) ?_;intro v6 wn bM eA;rw[<-im]at bM;obtain⟨A7,c7,fy,-⟩:=bM.slice;obtain⟨n7,eY⟩: ∃y,(((kl.ps++[s])++kr.ps).map ax).length=y:=⟨_,rfl⟩;rw[eY]at fy;subst fy;clear eY;have H6:=al (ab bM eA);clear bM eA;refine hK.out _ _ (H6.out.2.cell pt (fun hh=>HB.out.Us hh rfl)) ?_;clear hK K pt;intro pt
  try simp only[ai,aj,ak,ar]
  refine aM [10,11] ?_
  iterate 2 (refine bX (v:=?_) (fun wS hSw=>?_) pt ?_;rotate_left;(go_simp;try with_reducible rfl);try simp only[ai,aj,ak,ar])
  refine aN ?_;refine aW 12 (fun K hK=>?_);obtain⟨⟨r6,-⟩,rf,-⟩:=ae (H6.out.2.heap HB.out.ft.1 (fun q hh=>HB.out.BF hh rfl));go_simp;refine hK.out _ _ ((OnlyC.bp _ l 0 _).cell pt (fun e=>HB.out.e12 e.1.symm)) ?_;clear hK K pt r6 rf;intro pt
  try simp only[ai,aj,ak,ar]
  refine pf (by kernel_rfl) ?_ _;have dU:=HB.out.p1 (aw _ _) H6.out.2 H6.out.1;clear pt;generalize wn.setCell ⟨l,0,none⟩ (.slice A7 n7 c7)=wE at dU⊢;have HB:=al dU;clear dU H6;obtain⟨⟨-,c2⟩,-,-⟩:=ae HB.out.gu.1;have tS:=c2;clear c2;go_upto_region 3 with fail;refine pb (S:=(fun W=>W.cell? ⟨r,1,none⟩=some (.slice TL zt NC))) (by kernel_rfl) tS (fun pt=>?_);generalize hW3:World.drew wE=W3 at pt⊢;have HB:=al (HB.out.below (w1:=W3) (hW3▸(aw _ _).drew));clear hW3 tS;refine aM [0,1,2,3,5,6,7] ?_
  iterate 7 (refine bX (v:=?_) (fun wS hSw=>?_) pt ?_;rotate_left;(go_simp;try with_reducible rfl);try simp only[ai,aj,ak,ar])
  refine aN ?_;refine fJ 8 (v:=?_) (fun wS hSw=>?_) pt ?_;rotate_left
  ·have s0:=hSw;go_simp;try with_reducible rfl
  try simp only[ai,aj,ak,ar]
  refine aW 4 (fun K hK=>?_);obtain⟨⟨-,r6⟩,-,rf⟩:=ae (HB.out.ft.1);go_simp;refine hK.out _ _ (pt) ?_;clear hK K pt r6 rf;intro pt
  try simp only[ai,aj,ak,ar]
  refine aW 9 (fun K hK=>?_);refine fW _ (by rfl) _ _ 199 (by rfl) iN (.pointer none) 8 Tryz.underlying199 HI.out.2.2.2.2.1 HI.out.2.2.2.2.2.1 HI.out.2.2.2.2.2.2.1 HI.out.2.2.2.2.2.2.2 (by rfl) (by decide) _ (pl.map aL) (by rfl) HB.out.ft.2.2 _ (pr.map aL) (by rfl) HB.out.gu.2.2 (bQ _) (by rw[fb,fb];have:=HN.out.2.2.2.2.2.2.2.1;have:=HN.out.2.2.2.2.2.2.2.2.1;unfold maxLen;omega) (by rw[fb,fb];have:=HN.out.2.2.2.2.2.2.2.1;have:=HN.out.2.2.2.2.2.2.2.2.1;omega) ?_;intro v6 wn bM eA;rw[<-im]at bM;obtain⟨A7,c7,fy,-⟩:=bM.slice;obtain⟨n7,eY⟩: ∃y,((pl++pr).map aL).length=y:=⟨_,rfl⟩;rw[eY]at fy;subst fy;clear eY;have H6:=al (ab bM eA);clear bM eA;refine hK.out _ _ (H6.out.2.cell pt (fun hh=>HB.out.wh hh rfl)) ?_;clear hK K pt;intro pt
  try simp only[ai,aj,ak,ar]
  refine aM [10,11] ?_
  iterate 2 (refine bX (v:=?_) (fun wS hSw=>?_) pt ?_;rotate_left;(go_simp;try with_reducible rfl);try simp only[ai,aj,ak,ar])
  refine aN ?_;refine aW 12 (fun K hK=>?_);obtain⟨⟨-,r6⟩,-,rf⟩:=ae (H6.out.2.heap HB.out.ft.1 (fun q hh=>HB.out.vY hh rfl));go_simp;refine hK.out _ _ ((OnlyC.bp _ l 1 _).cell pt (fun e=>HB.out.e12 e.1.symm)) ?_;clear hK K pt r6 rf;intro pt
  try simp only[ai,aj,ak,ar]
  refine pf (by kernel_rfl) ?_ _;have dU:=HB.out.k1 (aw _ _) H6.out.2 H6.out.1;clear pt;generalize wn.setCell ⟨l,1,none⟩ (.slice A7 n7 c7)=wF at dU⊢;have HB:=al dU;clear dU H6;obtain⟨⟨c1,-⟩,-,-⟩:=ae HB.out.kg.1;go_wp2_with fail;refine(kD wF (H 1) _ (x.ps.map ax) i _ _ rfl (by omega) HB.out.kg.2.1 (by rw[fb];have:=HN.out.2.2.2.2.2.2.2.2.2.1;have:=HN.out.2.2.2.2.2.2.2.2.2.2.1;omega) (by rw[fb];omega) (dA _)).mono ?_;rintro e w9 ⟨v9,rfl,cu,eU⟩;rw[<-mc,<-kn,<-im]at cu;obtain⟨A8,c8,fQ,-⟩:=cu.slice;obtain⟨n8,fG⟩: ∃y,((x.ps.take i++x.ps.drop (i+1)).map ax).length=y:=⟨_,rfl⟩;rw[fG]at fQ;subst fQ;clear fG c1;have H9:=al (ab cu eU);clear cu eU;obtain⟨⟨c1,-⟩,f1,-⟩:=ae (H9.out.2.heap HB.out.kg.1 (fun q hh=>HB.out.Hp hh rfl));go_upto_region 5 with fail;clear c1 f1;have hB4:=HB.out.p0 (aw _ _) H9.out.2 (H9.out.1.mono (fun b q hh=>.inl hh));generalize w9.setCell ⟨a,0,none⟩ (.slice A8 n8 c8)=wG at hB4⊢;have HB:=al hB4;clear hB4 H9;obtain⟨⟨-,c2⟩,-,-⟩:=ae HB.out.kg.1;go_wp2_with fail;refine(iC wG (H 2) _ (aA.map aL) i1 _ _ (by simp) (by omega) HB.out.kg.2.2 (by rw[fb];have:=HN.out.2.2.2.2.2.2.2.2.2.1;have:=HN.out.2.2.2.2.2.2.1;have:=HN.out.2.2.2.2.2.2.2.2.2.2.2;omega) (by rw[fb];have:=HN.out.2.2.2.2.2.2.1;have:=HN.out.2.2.2.2.2.2.2.2.2.2.1;omega) (bQ _)).mono ?_;rintro e wY ⟨v9,rfl,cu,eU⟩;rw[<-mc,<-kn,<-im]at cu;obtain⟨A9,c9,fQ,-⟩:=cu.slice;obtain⟨n9,fG⟩: ∃y,((aA.take i1++aA.drop (i1+1)).map aL).length=y:=⟨_,rfl⟩;rw[fG]at fQ;subst fQ;clear fG c2;have H9:=al (ab cu eU);clear cu eU;obtain⟨⟨-,c2⟩,-,f2⟩:=ae (H9.out.2.heap HB.out.kg.1 (fun q hh=>HB.out.Ur hh rfl));go_wp2_with fail
  first|refine et (du rfl _ _ _) rfl ?_|refine dq (du rfl _ _ _) rfl ?_
  have zw:=HB.out.k0 (aw _ _) H9.out.2 (H9.out.1.mono (fun b q hh=>.inl hh));have hE:=F4 HA.out.1 HA.out.2.1 (by have:=HN.out.2.2.2.2.2.2.2.2.2.1;omega) HA.out.2.2.1 HA.out.2.2.2.1 HA.out.2.2.2.2.1 zw ?_ rfl (fun e=>by rw[HA.out.2.2.2.2.2.2.2.2.2.2.2.1 e,HA.out.2.2.2.2.2.2.2.2.2.2.2.2 e];rfl)
  ·refine⟨rfl,?_,hE.2⟩;have h1:=hE.1;have e1:kl.ps++[s]++kr.ps=kl.ps++s::kr.ps:=by simp
   rw[e1]at h1;exact h1
  ·have h1:=HA.out.2.2.2.2.2.2.1;have h2:=(b8.1 h1);obtain⟨h3,h4⟩:=h2;rw[HN.out.2.2.2.2.2.2.2.2.2.2.2,List.take_succ_eq_append_getElem h3,h4]
end Go.Proofs.YtagemonojdgbdaaGreatDoor
