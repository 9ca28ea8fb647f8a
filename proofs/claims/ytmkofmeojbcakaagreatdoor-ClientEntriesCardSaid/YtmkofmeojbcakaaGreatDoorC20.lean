import Derived.Test.YtmkofmeojbcakaaGreatDoorC19
namespace Go.Proofs.YtmkofmeojbcakaaGreatDoor
open Go.Proofs.Tryz
set_option maxRecDepth 100000
set_option maxHeartbeats 16000000
open Go.RowKit
theorem Jo{kl kr:ND}{s z:Pr}(hz:kr.ps[0]?=some z):gp 0 kl s kr=(.mk (kl.ps++[s]) [],z,.mk (kr.ps.drop 1) []):=by show(ND.mk (kl.ps++[s]) [],kr.ps[0]?.getD ([],[]),ND.mk (kr.ps.drop 1) [])=_;rw[hz];rfl
theorem vK{d:Nat}{kl kr k0:ND}{s z:Pr}(hd:d≠0)(hz:kr.ps[0]?=some z)(eQ:kr.ks[0]?=some k0):gp d kl s kr=(.mk (kl.ps++[s]) (kl.ks++[k0]),z,.mk (kr.ps.drop 1) (kr.ks.drop 1)):=by obtain⟨d1,rfl⟩: ∃d1,d=d1+1:=⟨d-1,by omega⟩;show(ND.mk (kl.ps++[s]) (kl.ks++[kr.ks[0]?.getD C0]),kr.ps[0]?.getD ([],[]),ND.mk (kr.ps.drop 1) (kr.ks.drop 1))=_;rw[hz,eQ];rfl
theorem rW(w:World)(d a i:Nat)(x:ND)(F:Nat->Nat->Prop)(h:ay w (d+1) a x F)(hF: ∀b q,F b q->b<w.heap.size)(hi:i+1<x.ks.length)(hps:x.ks.length=x.ps.length+1)(hpl:x.ps.length<=900)
  (Y7:1<=(aV x (i+1)).ps.length) (VA:(aV x i).ps.length<=900) (Y1:(aV x (i+1)).ps.length<=900) (hkk:d≠0->1<=(aV x (i+1)).ks.length) (abj:(aV x i).ks.length<=901) (Y2:(aV x (i+1)).ks.length<=901):
  Calls prog 197 #[.pointer (some ⟨a,0,none⟩),.int .i64 i] w fun e w'=>e=.returned (.tuple #[])/\ay w' (d+1) a (uS x i (gp d (aV x i) (gM x i) (aV x (i+1)))) (fun b q=>F b q\/w.heap.size<=b)/\OnlyC F w w':=by
 obtain⟨_,vp,vk,aA,H,hO,_⟩:=h.open_;have xN:=dF (x:=x) (i:=i) (by omega);have xO:=dF (x:=x) (i:=i+1) (by omega);generalize Y3:aV x i=kl at *;generalize Y4:aV x (i+1)=kr at *;clear Y3 Y4;obtain⟨l,hl⟩: ∃y,aA[i]?=some y:=⟨_,ao (by rw[hO.2.2.2.2.1];omega)⟩;obtain⟨r,hr⟩: ∃y,aA[i+1]?=some y:=⟨_,ao (by rw[hO.2.2.2.2.1];omega)⟩;obtain⟨oL,vl,ul,pl,Hl,hL,Ki⟩:=(show ay w d l kl (H (i+3))from hO.2.2.2.2.2.1 i l kl hl xN).open_;obtain⟨hdr,vr,ur,pr,Hr,hR,Qo⟩:=(show ay w d r kr (H (i+4))from hO.2.2.2.2.2.1 (i+1) r kr hr xO).open_;have hB:=bH.start hO hF hL hR;obtain⟨s,hs⟩: ∃p,x.ps[i]?=some p:=⟨_,ao (by omega)⟩;obtain⟨iP,hiP,N0,N2,N3⟩:=ep Tryz.Fv;obtain⟨iN,Y8,N4,N5,N8⟩:=ep Tryz.Fy;have HI:=al (ab hiP (ab N0 (ab N2 (ab N3 (ab Y8 (ab N4 (ab N5 N8)))))));clear hiP N0 N2 N3 Y8 N4 N5 N8;have Ed:gM x i=s:=by unfold gM;rw[hs];rfl
 rw[Ed];obtain⟨i1,hi1⟩:=qS (i+1);obtain⟨z,hz⟩: ∃p,kr.ps[0]?=some p:=⟨_,ao (by omega)⟩;obtain⟨bn,on,cn,e0,-,-,s0,s1,-⟩:=hO.2.2.1.pair hs;subst e0;obtain⟨br,Xz,cr,e0,-,-,-⟩:=hR.2.2.1.pair hz;subst e0;obtain⟨Al0,cl,e0,-⟩:=hL.2.2.1.slice;rw[fa]at e0;subst e0;obtain⟨bk,ok,ck,e0,-,-,r1⟩:=hO.2.2.2.1.ptr hl;obtain⟨bk',ok',ck',Qp,-,-,r2⟩:=hO.2.2.2.1.ptr hr;subst e0;simp only[ie,fl,nf,and_true,true_and]at Qp;obtain⟨⟨rfl,rfl⟩,rfl⟩:=Qp;obtain⟨Al,Ue,e0,-⟩:=hL.2.2.2.1.slice;rw[fa]at e0;subst e0;obtain⟨Xx,Qv,e0,-⟩:=hR.2.2.2.1.slice;rw[fa]at e0;subst e0;obtain⟨np,nS⟩:=qt (x.ps.length);obtain⟨nr,yJ⟩:=qt (kr.ps.length);obtain⟨nk,kJ⟩:=qt (aA.length);obtain⟨Ee,jI⟩:=qt (pl.length);obtain⟨BZ,jJ⟩:=qt (pr.length);obtain⟨nl,hnl⟩:=qt (kl.ps.length);have iA:=hO.2.2.2.2.1;have Uf:=hL.2.2.2.2.1;have Jm:=hR.2.2.2.2.1;rw[nS,kJ]at hO;rw[hnl,jI]at hL;rw[yJ,jJ]at hR;rw[nS,kJ,hnl,jI,yJ,jJ]at hB;have uG:=(hO.2.2.1.qW (i:=i) (by omega));have HA:=al (ab hO (ab hF (ab hL (ab Ki (ab hR (ab Qo (ab hl (ab hr (ab xN (ab xO (ab hs (ab hz (ab oL hdr)))))))))))));have HN:=al (show np=x.ps.length/\nr=kr.ps.length/\nk=aA.length/\Ee=pl.length/\BZ=pr.length/\nl=kl.ps.length/\1<=kr.ps.length/\aA.length=x.ks.length/\pl.length=kl.ks.length/\pr.length=kr.ks.length/\i+1<x.ks.length/\x.ks.length=x.ps.length+1/\i1=i+1/\(d≠0->1<=kr.ks.length)from⟨nS.symm,yJ.symm,kJ.symm,jI.symm,jJ.symm,hnl.symm,Y7,iA,Uf,Jm,hi,hps,hi1,hkk⟩);have HB:=al hB;have HP:=al uG;obtain⟨⟨Jn,Xy⟩,-,-⟩:=af hB.ln.1;have j1:(i:Int)+1=(i1:Int):=by omega
 have j2:(0:Int)<=(i:Int):=by omega
 have j3:(i:Int)<(nk:Int):=by omega
 have j4:(i1:Int)<(nk:Int):=by omega
 have j5:(0:Int)<=(i1:Int):=by omega
 have j6:(i:Int)<(np:Int):=by omega
 have j7:(0:Int)<(nr:Int):=by omega
 have j8:0<nr:=by omega
 have j10:nl<=900:=by omega
 obtain⟨j11,j12⟩:=Mk i1 (by omega);have r2':w.cell? ⟨bk,ok+i1,none⟩=some (.pointer (some ⟨r,0,none⟩)):=by rw[hi1];exact r2
 clear r2 h hO hF hL Ki hR Qo hl hr xN xO hB hs hz nS yJ kJ jI jJ hnl iA Uf Jm uG hi1 Ed Y7 hkk oL hdr;go_enter func197,ntmps197;go_wp2_with fail;go_quiet(fail);go_upto_region 1 with fail;have jV:Below w.heap.size w (w.drewN nq):=aG (aw _ _) nq;generalize w.drewN nq=wq at jV⊢;have Ug:=(jV.cell (aq _ _ s0)).x s0;have Uh:=(jV.cell (aq _ _ s1)).x s1;have HB:=al (HB.o.below jV);clear Jn Xy r1 r2' s0 s1 jV;obtain⟨⟨Jn,-⟩,-,-⟩:=af HB.o.ln.1;have tS:=ab Jn (ab Ug Uh);clear Jn Ug Uh;refine o0 (S:=(fun W=>W.cell? ⟨a,0,none⟩=some (.slice (some ⟨bn,on,none⟩) np cn)/\W.cell? ⟨bn,on+i*2,none⟩=some (.string ⟨s.1.toArray⟩)/\W.cell? ⟨bn,on+i*2+1,none⟩=some (.string ⟨s.2.toArray⟩))) (by kernel_rfl) tS (fun ph=>?_);generalize hW3:World.drew wq=W3 at ph⊢;have HB:=al (HB.o.below (w1:=W3) (hW3▸(aw _ _).drew));clear hW3 tS;refine aI [0,1,2,3,5,6,7,8,9,10,11] ?_
 iterate 11 (refine bO (v:=?_) (fun _ ⟨s0,s1,s2⟩=>?_) ph ?_;rotate_left;(go_simp;try rfl);try simp only[ai,aj,ak,ar])
 refine aJ ?_;refine pf (rs:=[4,12]) (by kernel_rfl) (by simp) (bE (i:=4) rfl (fun K hK=>?_) (bE (i:=12) rfl (fun K hK=>?_) oT))
 focus
  obtain⟨⟨r6,-⟩,-,-⟩:=af HB.o.fI.1;go_simp;refine hK.o _ _ (ph) ?_;clear hK K ph r6;intro ph
  try simp only[ai,aj,ak,ar]
  refine aW 12 (fun K hK=>?_);go_simp;refine hK.o _ _ (tJ ph (ae _ _)) ?_;clear hK K ph;intro ph
  try simp only[ai,aj,ak,ar]
  obtain⟨bV,kV⟩:=qn W3 (.cells #[.string ⟨s.1.toArray⟩,.string ⟨s.2.toArray⟩] 195);generalize W3.alloc (.cells #[.string ⟨s.1.toArray⟩,.string ⟨s.2.toArray⟩] 195)=W5 at kV bV ph⊢;obtain⟨VB,ib⟩:=qt (W3.heap.size);rw[ib]at kV⊢;have HV:=al kV;have HB:=al (HB.o.below bV);clear kV bV ib
 rotate_left
 focus
  go_simp;refine hK.o _ _ (tJ ph (ae _ _)) ?_;clear hK K ph;intro ph
  try simp only[ai,aj,ak,ar]
  obtain⟨bV,kV⟩:=qn W3 (.cells #[.string ⟨s.1.toArray⟩,.string ⟨s.2.toArray⟩] 195);generalize W3.alloc (.cells #[.string ⟨s.1.toArray⟩,.string ⟨s.2.toArray⟩] 195)=W5 at kV bV ph⊢;obtain⟨VB,ib⟩:=qt (W3.heap.size);rw[ib]at kV⊢;have HV:=al kV;have HB:=al (HB.o.below bV);clear kV bV ib;refine aW 4 (fun K hK=>?_);obtain⟨⟨r6,-⟩,-,-⟩:=af HB.o.fI.1;go_simp;refine hK.o _ _ (ph) ?_;clear hK K ph r6;intro ph
  try simp only[ai,aj,ak,ar]
 all_goals
  refine aW 13 (fun K hK=>?_);refine cU _ (by rfl) _ _ 182 (by rfl) iP (.agg #[.string ⟨#[]⟩,.string ⟨#[]⟩]) 32 underlying182 HI.o.1 HI.o.2.1 HI.o.d.1 HI.o.t.1 (by rfl) (by decide) _ (kl.ps.map av) (by rfl) HB.o.fI.2.1 ⟨VB,0,none⟩ 1 1 [av s] (by rfl) rfl (fun y hy=>by rw[fj]at hy;subst hy;rfl) (fun j u hj=>by rw[gO,gx];exact oS HV.o (by simpa[av]using hj)) (by simp[av,Value.oneCell']) (by rw[fa];unfold maxLen;omega) (by rw[fa];omega) ?_;intro v6 wn cj fe;rw[show kl.ps.map av++[av s]=(kl.ps++[s]).map av by simp]at cj;obtain⟨A6,c6,fL,-⟩:=cj.slice;obtain⟨n6,fB⟩:=qt (((kl.ps++[s]).map av).length);rw[fB]at fL;subst fL;clear fB;have H6:=al (ab cj fe);clear cj fe;refine hK.o _ _ (ic ph H6.o.2 (fun hh=>HB.o.Ra hh rfl) (fun hh=>HB.o.oh HP.o.1 hh) (fun hh=>HB.o.oh HP.o.2 hh)) ?_;clear hK K ph;intro ph
  try simp only[ai,aj,ak,ar]
  refine aI [14,15] ?_
  iterate 2 (refine bO (v:=?_) (fun _ ⟨s0,s1,s2⟩=>?_) ph ?_;rotate_left;(go_simp;try rfl);try simp only[ai,aj,ak,ar])
  refine aJ ?_;refine aW 16 (fun K hK=>?_);obtain⟨⟨r6,-⟩,rf,-⟩:=af (H6.o.2.heap HB.o.fI.1 (fun q hh=>HB.o.Dq hh rfl));go_simp;refine hK.o _ _ (ic ph (OnlyC.aN _ l 0 _) (fun e=>HB.o.e01 e.1) (fun e=>HB.o.yO HP.o.1 e.1) (fun e=>HB.o.yO HP.o.2 e.1)) ?_;clear hK K ph r6 rf;intro ph
  try simp only[ai,aj,ak,ar]
  refine pb (by kernel_rfl) ?_ _;have eV:=HB.o.p1 (aw _ _) H6.o.2 H6.o.1;clear ph;generalize wn.setCell ⟨l,0,none⟩ (.slice A6 n6 c6)=w7 at eV⊢;have HB:=al eV;clear eV HV H6;have c34:=(HB.o.gV.2.1.kK HA.o.q.q.t.1).1;rw[Nat.zero_mul,my]at c34;obtain⟨c3,c4⟩:=c34;obtain⟨⟨c1,-⟩,-,-⟩:=af HB.o.ln.1;obtain⟨⟨c2,-⟩,-,-⟩:=af HB.o.gV.1;have tS:=ab c1 (ab c2 (ab c3 c4));clear c1 c2 c3 c4;have HZ:=al (by have h0:=HB.o.gV.2.1.qW (i:=0) HN.o.q.d.1;rw[Nat.zero_mul,my]at h0;exact h0);go_upto_region 2 with fail;refine o0 (S:=(fun W=>W.cell? ⟨a,0,none⟩=some (.slice (some ⟨bn,on,none⟩) np cn)/\W.cell? ⟨r,0,none⟩=some (.slice (some ⟨br,Xz,none⟩) nr cr)/\W.cell? ⟨br,Xz,none⟩=some (.string ⟨z.1.toArray⟩)/\W.cell? ⟨br,Xz+1,none⟩=some (.string ⟨z.2.toArray⟩))) (by kernel_rfl) tS (fun ph=>?_);generalize hW3:World.drew w7=W3 at ph⊢;have HB:=al (HB.o.below (w1:=W3) (hW3▸(aw _ _).drew));clear hW3 tS;refine aI [0,1,2,3,4,5,6,7,8,9,10,11] ?_
  iterate 12 (refine bO (v:=?_) (fun _ ⟨s0,s1,s2,s3⟩=>?_) ph ?_;rotate_left;(go_simp;try rfl);try simp only[ai,aj,ak,ar])
  refine aJ ?_;refine aW 12 (fun K hK=>?_);obtain⟨⟨c5,c6⟩,f5,f6⟩:=HB.o.ln.2.1.kK HA.o.q.q.d.1;go_simp;refine hK.o _ _ (xM ph (HB.o.ln.2.1.fF (i:=i) z.1 z.2 (by have:=HN.o.q.q.d.1;have:=HN.o.q.q.t.1;omega)).2 (fun hh=>HB.o.Kg hh rfl) (fun hh=>HB.o.Kh hh rfl) (fun hh=>HB.o.uy hh HZ.o.1) (fun hh=>HB.o.uy hh HZ.o.2)) ?_;clear hK K ph c5 c6 f5 f6;intro ph
  try simp only[ai,aj,ak,ar]
  refine pb (by kernel_rfl) ?_ _;have Gt:=HB.o.i0 (HB.o.ln.2.1.fF (i:=i) z.1 z.2 (by have:=HN.o.q.q.d.1;have:=HN.o.q.q.t.1;omega)).2 (HB.o.ln.2.1.fF (i:=i) z.1 z.2 (by have:=HN.o.q.q.d.1;have:=HN.o.q.q.t.1;omega)).1;clear ph;generalize (W3.setCell ⟨bn,on+i*2,none⟩ (.string ⟨z.1.toArray⟩)).setCell ⟨bn,on+i*2+1,none⟩ (.string ⟨z.2.toArray⟩)=w8 at Gt⊢;have HB:=al Gt;clear Gt HZ;obtain⟨⟨c2,-⟩,-,-⟩:=af HB.o.gV.1;go_wp2_with fail;refine(lG w8 (Hr 1) _ (kr.ps.map av) 0 _ _ rfl (by simp) HB.o.gV.2.1 (by rw[fa];exact HN.o.q.d.1) (by rw[fa];omega) (dO _)).m ?_;rintro e w9 ⟨v9,rfl,cK,eB⟩;rw[kd,fs,<-lk]at cK;obtain⟨A9,c9,gw,-⟩:=cK.slice;obtain⟨n9,fU⟩:=qt (((kr.ps.drop (0+1)).map av).length);rw[fU]at gw;subst gw;clear fU c2;have H9:=al (ab cK eB);clear cK eB;obtain⟨⟨c2,-⟩,f2,-⟩:=af (H9.o.2.heap HB.o.gV.1 (fun q hh=>HB.o.Rb hh rfl));go_upto_region 4 with fail;clear c2 f2;have hB4:=HB.o.p2 (aw _ _) H9.o.2 (H9.o.1.m (fun b q hh=>.inl hh));generalize w9.setCell ⟨r,0,none⟩ (.slice A9 n9 c9)=wA at hB4⊢;have HB:=al hB4;clear hB4 H9;obtain⟨⟨-,c2⟩,-,-⟩:=af HB.o.gV.1;by_cases hd:d=0
  ·subst hd;have e1:kl.ks=[]:=HA.o.q.q.q.1 rfl;have e2:kr.ks=[]:=HA.o.q.q.q.2 rfl;have eQ:BZ=0:=by rw[HN.o.q.1,HN.o.q.q.2.1,e2];rfl
   subst eQ;have jy:=al (dZ wA r Qv Xx c2);have HE:=al (ab e1 e2);clear c2 e1 e2;go_wp2_with fail;refine jy.o.m ?_;rintro e wZ ⟨rfl,Gu⟩;subst Gu;go_wp2_with fail
   first|refine eC (du rfl _ _ _) rfl ?_|refine dr (du rfl _ _ _) rfl ?_
   obtain⟨e1,e2⟩:=HE.o;have hE:=gI HA.o.1 HA.o.2.1 (by have:=HN.o.q.q.d.1;omega) HA.o.d.1 HA.o.t.1 HA.o.q.1 HA.o.q.2.1 HB.o 0 0 (aE _) (dq _) [] (fun _ _ _=>False) 0 0 (aE _) (dq _) [] (fun _ _ _=>False) rfl HA.o.q.d.1 HA.o.q.t.1 (by simp) (by simp) (fun _ _ _ h=>h.elim) (fun _ _ _ h=>h.elim) (fun _ _ _ _ h=>h.elim) (fun _ _ _ _ h=>h.elim) (fun m p k hm=>by simp at hm) (fun m p k hm=>by simp at hm) (by simp[e1]) (by simp[e2]);rw[Jo HA.o.q.q.t.1];refine⟨rfl,?_,hE.2⟩;have h1:=hE.1;simp only[e1,e2,List.take_nil,List.drop_nil,kc,gn]at h1;exact h1
  ·have hkk:=HN.o.q.q.q.2 hd;obtain⟨p0,hp0⟩: ∃p,pr[0]?=some p:=⟨_,ao (by have:=HN.o.q.q.2.1;omega)⟩;obtain⟨k0,eQ⟩: ∃p,kr.ks[0]?=some p:=⟨_,ao (by omega)⟩;have B0:=HB.o;obtain⟨Y9,Za,abk,e0,-,-,-⟩:=B0.gV.2.2.ptr hp0;simp only[ie]at e0;obtain⟨rfl,-,rfl⟩:=e0;have jJ:0<BZ:=by rw[HN.o.q.1,HN.o.q.q.2.1];exact hkk
   have jy:=al (fq wA r BZ Qv _ jJ c2);have HB:=al B0;have HM:=al (ab hp0 (ab eQ (ab hkk (ab hd (by have h0:=B0.gV.2.2.Eb (i:=0) (by rw[<-HN.o.q.1];exact jJ);rw[my]at h0;exact h0)))));have q6:(0:Int)<(BZ:Int):=by omega
   have q7:BZ<=902:=by have:=HN.o.q.1;have:=HN.o.q.q.2.1;omega
   clear B0 hp0 eQ hkk hd c2;go_wp2_with fail;refine jy.o.m ?_;rintro e wZ ⟨rfl,Gu⟩;subst Gu;clear jy;obtain⟨⟨-,c1⟩,-,-⟩:=af HB.o.gV.1;have c9:=HB.o.gV.2.2.Ea HM.o.1;rw[my]at c9;have tS:=ab c1 c9;clear c1 c9;go_upto_region 5 with fail;refine o0 (S:=(fun W=>W.cell? ⟨r,1,none⟩=some (.slice (some ⟨Y9,Za,none⟩) BZ Qv)/\W.cell? ⟨Y9,Za,none⟩=some (.pointer (some ⟨p0,0,none⟩)))) (by kernel_rfl) tS (fun ph=>?_);generalize hW3:World.drew wA=W3 at ph⊢;have HB:=al (HB.o.below (w1:=W3) (hW3▸(aw _ _).drew));clear hW3 tS;refine aI [0,1,2,3,5,6,7,8,9,10] ?_
   iterate 10 (refine bO (v:=?_) (fun _ ⟨s0,s1⟩=>?_) ph ?_;rotate_left;(go_simp;try rfl);try simp only[ai,aj,ak,ar])
   refine aJ ?_;refine pf (rs:=[4,11]) (by kernel_rfl) (by simp) (bE (i:=4) rfl (fun K hK=>?_) (bE (i:=11) rfl (fun K hK=>?_) oT))
   focus
    obtain⟨⟨-,r6⟩,-,-⟩:=af HB.o.fI.1;go_simp;refine hK.o _ _ (ph) ?_;clear hK K ph r6;intro ph
    try simp only[ai,aj,ak,ar]
    refine aW 11 (fun K hK=>?_);go_simp;refine hK.o _ _ (lU ph (ae _ _)) ?_;clear hK K ph;intro ph
    try simp only[ai,aj,ak,ar]
    obtain⟨bV,kV⟩:=qn W3 (.cells #[.pointer (some ⟨p0,0,none⟩)] 181);generalize W3.alloc (.cells #[.pointer (some ⟨p0,0,none⟩)] 181)=W5 at kV bV ph⊢;obtain⟨VB,ib⟩:=qt (W3.heap.size);rw[ib]at kV⊢;have HV:=al kV;have HB:=al (HB.o.below bV);clear kV bV ib
   rotate_left
   focus
    go_simp;refine hK.o _ _ (lU ph (ae _ _)) ?_;clear hK K ph;intro ph
    try simp only[ai,aj,ak,ar]
    obtain⟨bV,kV⟩:=qn W3 (.cells #[.pointer (some ⟨p0,0,none⟩)] 181);generalize W3.alloc (.cells #[.pointer (some ⟨p0,0,none⟩)] 181)=W5 at kV bV ph⊢;obtain⟨VB,ib⟩:=qt (W3.heap.size);rw[ib]at kV⊢;have HV:=al kV;have HB:=al (HB.o.below bV);clear kV bV ib;refine aW 4 (fun K hK=>?_);obtain⟨⟨-,r6⟩,-,-⟩:=af HB.o.fI.1;go_simp;refine hK.o _ _ (ph) ?_;clear hK K ph r6;intro ph
    try simp only[ai,aj,ak,ar]
   all_goals
    refine aW 12 (fun K hK=>?_);refine cU _ (by rfl) _ _ 183 (by rfl) iN (.pointer none) 8 underlying183 HI.o.q.1 HI.o.q.2.1 HI.o.q.d.1 HI.o.q.t (by rfl) (by decide) _ (pl.map aP) (by rfl) HB.o.fI.2.2 ⟨VB,0,none⟩ 1 1 [aP p0] (by rfl) rfl (fun y hy=>by rw[fj]at hy;subst hy;rfl) (fun j u hj=>by rw[gO,gx];exact oS HV.o (by simpa[aP]using hj)) (by simp[aP,Value.oneCell']) (by rw[fa];have:=HN.o.q.q.1;unfold maxLen;omega) (by rw[fa];have:=HN.o.q.q.1;omega) ?_;intro v6 wn cj fe;rw[show pl.map aP++[aP p0]=(pl++[p0]).map aP by simp]at cj;obtain⟨A7,c7,fL,-⟩:=cj.slice;obtain⟨n7,fB⟩:=qt (((pl++[p0]).map aP).length);rw[fB]at fL;subst fL;clear fB;have H6:=al (ab cj fe);clear cj fe;refine hK.o _ _ (dK ph H6.o.2 (fun hh=>HB.o.yQ hh rfl) (fun hh=>HB.o.uz hh HM.o.q)) ?_;clear hK K ph;intro ph
    try simp only[ai,aj,ak,ar]
    refine aI [13,14] ?_
    iterate 2 (refine bO (v:=?_) (fun _ ⟨s0,s1⟩=>?_) ph ?_;rotate_left;(go_simp;try rfl);try simp only[ai,aj,ak,ar])
    refine aJ ?_;refine aW 15 (fun K hK=>?_);obtain⟨⟨-,r6⟩,-,rf⟩:=af (H6.o.2.heap HB.o.fI.1 (fun q hh=>HB.o.yP hh rfl));go_simp;refine hK.o _ _ (dK ph (OnlyC.aN _ l 1 _) (fun e=>HB.o.e12 e.1.symm) (fun e=>HB.o.Dr HM.o.q e.1)) ?_;clear hK K ph r6 rf;intro ph
    try simp only[ai,aj,ak,ar]
    refine pb (by kernel_rfl) ?_ _;have eV:=HB.o.k1 (aw _ _) H6.o.2 H6.o.1;clear ph;generalize wn.setCell ⟨l,1,none⟩ (.slice A7 n7 c7)=wB at eV⊢;have HB:=al eV;clear eV HV H6;obtain⟨⟨-,c2⟩,-,-⟩:=af HB.o.gV.1;go_wp2_with fail;refine(iZ wB (Hr 2) _ (pr.map aP) 0 _ _ rfl (by simp) HB.o.gV.2.2 (by rw[fa,<-HN.o.q.1];exact jJ) (by rw[fa,<-HN.o.q.1];omega) (ct _)).m ?_;rintro e w9 ⟨v9,rfl,cK,eB⟩;rw[kd,fs,<-lk]at cK;obtain⟨A8,c8,gw,-⟩:=cK.slice;obtain⟨n8,fU⟩:=qt (((pr.drop (0+1)).map aP).length);rw[fU]at gw;subst gw;clear fU c2;have H9:=al (ab cK eB);clear cK eB;obtain⟨⟨-,c2⟩,-,f2⟩:=af (H9.o.2.heap HB.o.gV.1 (fun q hh=>HB.o.Ds hh rfl));go_wp2_with fail
    first|refine eC (du rfl _ _ _) rfl ?_|refine dr (du rfl _ _ _) rfl ?_
    have Ca:=HB.o.k2 (aw _ _) H9.o.2 (H9.o.1.m (fun b q hh=>.inl hh));obtain⟨hp0,eQ,hkk,hd,-⟩:=HM.o;have hsub:b7 w d p0 k0 (Hr (0+3)):=(HA.o.q.1).2.2.2.2.2.1 0 p0 k0 hp0 eQ
    have hE:=gI HA.o.1 HA.o.2.1 (by have:=HN.o.q.q.d.1;omega) HA.o.d.1 HA.o.t.1 HA.o.q.1 HA.o.q.2.1 Ca kl.ks.length kl.ks.length (aE _) (aE _) [(p0,k0)] (rI (Hr (0+3)) (fun _ _=>False)) 0 1 (by decide) hkk [] (fun _ _ _=>False) rfl HA.o.q.d.1 HA.o.q.t.1 (by rw[<-HN.o.q.q.1];simp) (by simp) (fun mm b q h=>match mm,h with|0,h=>⟨0,aE _,by omega,h⟩|1,h=>h.elim|_+2,h=>h.elim) (fun _ _ _ h=>h.elim)
     (fun mm Gv b q h1 h2=>by
      match mm,h1,Gv,h2 with
      |0,_,0,_=>rfl
      |1,h1,_,_=>exact h1.elim
      |_+2,h1,_,_=>exact h1.elim
      |0,_,1,h2=>exact h2.elim
      |0,_,_+2,h2=>exact h2.elim) (fun _ _ _ _ h=>h.elim)
     (fun mm p k hm=>by
      match mm,hm with
      |0,hm=>simp only[im,fl,mc]at hm;obtain⟨rfl,rfl⟩:=hm;exact hsub
      |mm+1,hm=>simp at hm)
     (fun mm p k hm=>by simp at hm)
     (fun e=>absurd e hd) (fun e=>absurd e hd)
    rw[vK hd HA.o.q.q.t.1 eQ];refine⟨rfl,?_,hE.2⟩;have h1:=hE.1;simp only[gd,List.drop_length,kd,kc,lp,gn,fs]at h1;exact h1
theorem pj(w:World)(d a i:Nat)(x:ND)(F:Nat->Nat->Prop)(h:ay w (d+1) a x F)(hF: ∀b q,F b q->b<w.heap.size)(hi:i+1<x.ks.length)(hps:x.ks.length=x.ps.length+1)(hpl:x.ps.length<=900)
  (VA:(aV x i).ps.length<=900) (Y1:(aV x (i+1)).ps.length<=900) (abj:(aV x i).ks.length<=901) (Y2:(aV x (i+1)).ks.length<=901):
  Calls prog 198 #[.pointer (some ⟨a,0,none⟩),.int .i64 i] w fun e w'=>e=.returned (.tuple #[])/\ay w' (d+1) a (uT x i (lH (aV x i) (gM x i) (aV x (i+1)))) (fun b q=>F b q\/w.heap.size<=b)/\OnlyC F w w':=by
 obtain⟨_,vp,vk,aA,H,hO,_⟩:=h.open_;have xN:=dF (x:=x) (i:=i) (by omega);have xO:=dF (x:=x) (i:=i+1) (by omega);generalize Y3:aV x i=kl at *;generalize Y4:aV x (i+1)=kr at *;clear Y3 Y4;obtain⟨l,hl⟩: ∃y,aA[i]?=some y:=⟨_,ao (by rw[hO.2.2.2.2.1];omega)⟩;obtain⟨r,hr⟩: ∃y,aA[i+1]?=some y:=⟨_,ao (by rw[hO.2.2.2.2.1];omega)⟩;obtain⟨oL,vl,ul,pl,Hl,hL,Ki⟩:=(show ay w d l kl (H (i+3))from hO.2.2.2.2.2.1 i l kl hl xN).open_;obtain⟨hdr,vr,ur,pr,Hr,hR,Qo⟩:=(show ay w d r kr (H (i+4))from hO.2.2.2.2.2.1 (i+1) r kr hr xO).open_;have hB:=bH.start hO hF hL hR;obtain⟨s,hs⟩: ∃p,x.ps[i]?=some p:=⟨_,ao (by omega)⟩;obtain⟨iP,hiP,N0,N2,N3⟩:=ep Tryz.Fv;obtain⟨iN,Y8,N4,N5,N8⟩:=ep Tryz.Fy;have HI:=al (ab hiP (ab N0 (ab N2 (ab N3 (ab Y8 (ab N4 (ab N5 N8)))))));clear hiP N0 N2 N3 Y8 N4 N5 N8;have Ed:gM x i=s:=by unfold gM;rw[hs];rfl
 rw[Ed];obtain⟨i1,hi1⟩:=qS (i+1);obtain⟨bn,on,cn,e0,-,-,s0,s1,-⟩:=hO.2.2.1.pair hs;subst e0;obtain⟨Ar,cr,e0,-⟩:=hR.2.2.1.slice;rw[fa]at e0;subst e0;obtain⟨Al0,cl,e0,-⟩:=hL.2.2.1.slice;rw[fa]at e0;subst e0;obtain⟨bk,ok,ck,e0,-,-,r1⟩:=hO.2.2.2.1.ptr hl;obtain⟨bk',ok',ck',Qp,-,-,r2⟩:=hO.2.2.2.1.ptr hr;subst e0;simp only[ie,fl,nf,and_true,true_and]at Qp;obtain⟨⟨rfl,rfl⟩,rfl⟩:=Qp;obtain⟨Al,Ue,e0,-⟩:=hL.2.2.2.1.slice;rw[fa]at e0;subst e0;obtain⟨Xx,Qv,e0,-⟩:=hR.2.2.2.1.slice;rw[fa]at e0;subst e0;obtain⟨np,nS⟩:=qt (x.ps.length);obtain⟨nr,yJ⟩:=qt (kr.ps.length);obtain⟨nk,kJ⟩:=qt (aA.length);obtain⟨Ee,jI⟩:=qt (pl.length);obtain⟨BZ,jJ⟩:=qt (pr.length);obtain⟨nl,hnl⟩:=qt (kl.ps.length);have iA:=hO.2.2.2.2.1;have Uf:=hL.2.2.2.2.1;have Jm:=hR.2.2.2.2.1;rw[nS,kJ]at hO;rw[hnl,jI]at hL;rw[yJ,jJ]at hR;rw[nS,kJ,hnl,jI,yJ,jJ]at hB;have uG:=(hO.2.2.1.qW (i:=i) (by omega));have HA:=al (ab hO (ab hF (ab hL (ab Ki (ab hR (ab Qo (ab hl (ab hr (ab xN (ab xO (ab hs (ab oL hdr))))))))))));have HN:=al (show np=x.ps.length/\nr=kr.ps.length/\nk=aA.length/\Ee=pl.length/\BZ=pr.length/\nl=kl.ps.length/\aA.length=x.ks.length/\pl.length=kl.ks.length/\pr.length=kr.ks.length/\i+1<x.ks.length/\x.ks.length=x.ps.length+1/\i1=i+1 from⟨nS.symm,yJ.symm,kJ.symm,jI.symm,jJ.symm,hnl.symm,iA,Uf,Jm,hi,hps,hi1⟩);have HB:=al hB;have HP:=al uG;obtain⟨⟨Jn,Xy⟩,-,-⟩:=af hB.ln.1;have j1:(i:Int)+1=(i1:Int):=by omega
 have j2:(0:Int)<=(i:Int):=by omega
 have j3:(i:Int)<(nk:Int):=by omega
 have j4:(i1:Int)<(nk:Int):=by omega
 have j5:(0:Int)<=(i1:Int):=by omega
 have j6:(i:Int)<(np:Int):=by omega
 have j8:nr<=900:=by omega
 have j10:nl<=900:=by omega
 obtain⟨j11,j12⟩:=Mk i1 (by omega);have r2':w.cell? ⟨bk,ok+i1,none⟩=some (.pointer (some ⟨r,0,none⟩)):=by rw[hi1];exact r2
 clear r2 h hO hF hL Ki hR Qo hl hr xN xO hB hs nS yJ kJ jI jJ hnl iA Uf Jm uG hi1 Ed oL hdr;go_enter func198,ntmps198;go_wp2_with fail;go_quiet(fail);go_upto_region 1 with fail;have jV:Below w.heap.size w (w.drewN nq):=aG (aw _ _) nq;generalize w.drewN nq=wq at jV⊢;have Ug:=(jV.cell (aq _ _ s0)).x s0;have Uh:=(jV.cell (aq _ _ s1)).x s1;have HB:=al (HB.o.below jV);clear Jn Xy r1 r2' s0 s1 jV;obtain⟨⟨Jn,-⟩,-,-⟩:=af HB.o.ln.1;have tS:=ab Jn (ab Ug Uh);clear Jn Ug Uh;refine o0 (S:=(fun W=>W.cell? ⟨a,0,none⟩=some (.slice (some ⟨bn,on,none⟩) np cn)/\W.cell? ⟨bn,on+i*2,none⟩=some (.string ⟨s.1.toArray⟩)/\W.cell? ⟨bn,on+i*2+1,none⟩=some (.string ⟨s.2.toArray⟩))) (by kernel_rfl) tS (fun ph=>?_);generalize hW3:World.drew wq=W3 at ph⊢;have HB:=al (HB.o.below (w1:=W3) (hW3▸(aw _ _).drew));clear hW3 tS;refine aI [0,1,2,3,5,6,7,8,9,10,11] ?_
 iterate 11 (refine bO (v:=?_) (fun _ ⟨s0,s1,s2⟩=>?_) ph ?_;rotate_left;(go_simp;try rfl);try simp only[ai,aj,ak,ar])
 refine aJ ?_;refine pf (rs:=[4,12]) (by kernel_rfl) (by simp) (bE (i:=4) rfl (fun K hK=>?_) (bE (i:=12) rfl (fun K hK=>?_) oT))
 focus
  obtain⟨⟨r6,-⟩,-,-⟩:=af HB.o.fI.1;go_simp;refine hK.o _ _ (ph) ?_;clear hK K ph r6;intro ph
  try simp only[ai,aj,ak,ar]
  refine aW 12 (fun K hK=>?_);go_simp;refine hK.o _ _ (tJ ph (ae _ _)) ?_;clear hK K ph;intro ph
  try simp only[ai,aj,ak,ar]
  obtain⟨bV,kV⟩:=qn W3 (.cells #[.string ⟨s.1.toArray⟩,.string ⟨s.2.toArray⟩] 195);generalize W3.alloc (.cells #[.string ⟨s.1.toArray⟩,.string ⟨s.2.toArray⟩] 195)=W5 at kV bV ph⊢;obtain⟨VB,ib⟩:=qt (W3.heap.size);rw[ib]at kV⊢;have HV:=al kV;have HB:=al (HB.o.below bV);clear kV bV ib
 rotate_left
 focus
  go_simp;refine hK.o _ _ (tJ ph (ae _ _)) ?_;clear hK K ph;intro ph
  try simp only[ai,aj,ak,ar]
  obtain⟨bV,kV⟩:=qn W3 (.cells #[.string ⟨s.1.toArray⟩,.string ⟨s.2.toArray⟩] 195);generalize W3.alloc (.cells #[.string ⟨s.1.toArray⟩,.string ⟨s.2.toArray⟩] 195)=W5 at kV bV ph⊢;obtain⟨VB,ib⟩:=qt (W3.heap.size);rw[ib]at kV⊢;have HV:=al kV;have HB:=al (HB.o.below bV);clear kV bV ib;refine aW 4 (fun K hK=>?_);obtain⟨⟨r6,-⟩,-,-⟩:=af HB.o.fI.1;go_simp;refine hK.o _ _ (ph) ?_;clear hK K ph r6;intro ph
  try simp only[ai,aj,ak,ar]
 all_goals
  refine aW 13 (fun K hK=>?_);refine cU _ (by rfl) _ _ 182 (by rfl) iP (.agg #[.string ⟨#[]⟩,.string ⟨#[]⟩]) 32 underlying182 HI.o.1 HI.o.2.1 HI.o.d.1 HI.o.t.1 (by rfl) (by decide) _ (kl.ps.map av) (by rfl) HB.o.fI.2.1 ⟨VB,0,none⟩ 1 1 [av s] (by rfl) rfl (fun y hy=>by rw[fj]at hy;subst hy;rfl) (fun j u hj=>by rw[gO,gx];exact oS HV.o (by simpa[av]using hj)) (by simp[av,Value.oneCell']) (by rw[fa];unfold maxLen;omega) (by rw[fa];omega) ?_;intro v6 wn cj fe;rw[show kl.ps.map av++[av s]=(kl.ps++[s]).map av by simp]at cj;obtain⟨A6,c6,fL,-⟩:=cj.slice;obtain⟨n6,fB⟩:=qt (((kl.ps++[s]).map av).length);rw[fB]at fL;subst fL;clear fB;have H6:=al (ab cj fe);clear cj fe;refine hK.o _ _ (ic ph H6.o.2 (fun hh=>HB.o.Ra hh rfl) (fun hh=>HB.o.oh HP.o.1 hh) (fun hh=>HB.o.oh HP.o.2 hh)) ?_;clear hK K ph;intro ph
  try simp only[ai,aj,ak,ar]
  refine aI [14,15] ?_
  iterate 2 (refine bO (v:=?_) (fun _ ⟨s0,s1,s2⟩=>?_) ph ?_;rotate_left;(go_simp;try rfl);try simp only[ai,aj,ak,ar])
  refine aJ ?_;refine aW 16 (fun K hK=>?_);obtain⟨⟨r6,-⟩,rf,-⟩:=af (H6.o.2.heap HB.o.fI.1 (fun q hh=>HB.o.Dq hh rfl));go_simp;refine hK.o _ _ (ic ph (OnlyC.aN _ l 0 _) (fun e=>HB.o.e01 e.1) (fun e=>HB.o.yO HP.o.1 e.1) (fun e=>HB.o.yO HP.o.2 e.1)) ?_;clear hK K ph r6 rf;intro ph
  try simp only[ai,aj,ak,ar]
  refine pb (by kernel_rfl) ?_ _;have eV:=HB.o.p1 (aw _ _) H6.o.2 H6.o.1;clear ph;generalize wn.setCell ⟨l,0,none⟩ (.slice A6 n6 c6)=w7 at eV⊢;have HB:=al eV;clear eV HV H6;obtain⟨⟨c2,-⟩,-,-⟩:=af HB.o.gV.1;have tS:=c2;clear c2;go_upto_region 2 with fail;refine o0 (S:=(fun W=>W.cell? ⟨r,0,none⟩=some (.slice Ar nr cr))) (by kernel_rfl) tS (fun ph=>?_);generalize hW3:World.drew w7=W3 at ph⊢;have HB:=al (HB.o.below (w1:=W3) (hW3▸(aw _ _).drew));clear hW3 tS;refine aI [0,1,2,3,5,6,7] ?_
  iterate 7 (refine bO (v:=?_) (fun wS hSw=>?_) ph ?_;rotate_left;(go_simp;try rfl);try simp only[ai,aj,ak,ar])
  refine aJ ?_;refine dR 8 (v:=?_) (fun wS hSw=>?_) ph ?_;rotate_left
  ·have s0:=hSw;go_simp;try rfl
  try simp only[ai,aj,ak,ar]
  refine aW 4 (fun K hK=>?_);obtain⟨⟨r6,-⟩,rf,-⟩:=af (HB.o.fI.1);go_simp;refine hK.o _ _ (ph) ?_;clear hK K ph r6 rf;intro ph
  try simp only[ai,aj,ak,ar]
  refine aW 9 (fun K hK=>?_);refine gF _ (by rfl) _ _ 182 (by rfl) iP (.agg #[.string ⟨#[]⟩,.string ⟨#[]⟩]) 32 underlying182 HI.o.1 HI.o.2.1 HI.o.d.1 HI.o.t.1 (by rfl) (by decide) _ ((kl.ps++[s]).map av) (by rfl) HB.o.fI.2.1 _ (kr.ps.map av) (by rfl) HB.o.gV.2.1 (dO _) (by simp;unfold maxLen;omega) (by simp;omega) ?_;intro v6 wn cj fe;rw[<-gk]at cj;obtain⟨A7,c7,fL,-⟩:=cj.slice;obtain⟨n7,fB⟩:=qt ((((kl.ps++[s])++kr.ps).map av).length);rw[fB]at fL;subst fL;clear fB;have H6:=al (ab cj fe);clear cj fe;refine hK.o _ _ (H6.o.2.cell ph (fun hh=>HB.o.Yj hh rfl)) ?_;clear hK K ph;intro ph
  try simp only[ai,aj,ak,ar]
  refine aI [10,11] ?_
  iterate 2 (refine bO (v:=?_) (fun wS hSw=>?_) ph ?_;rotate_left;(go_simp;try rfl);try simp only[ai,aj,ak,ar])
  refine aJ ?_;refine aW 12 (fun K hK=>?_);obtain⟨⟨r6,-⟩,rf,-⟩:=af (H6.o.2.heap HB.o.fI.1 (fun q hh=>HB.o.Dq hh rfl));go_simp;refine hK.o _ _ ((OnlyC.aN _ l 0 _).cell ph (fun e=>HB.o.e12 e.1.symm)) ?_;clear hK K ph r6 rf;intro ph
  try simp only[ai,aj,ak,ar]
  refine pb (by kernel_rfl) ?_ _;have eV:=HB.o.p1 (aw _ _) H6.o.2 H6.o.1;clear ph;generalize wn.setCell ⟨l,0,none⟩ (.slice A7 n7 c7)=wE at eV⊢;have HB:=al eV;clear eV H6;obtain⟨⟨-,c2⟩,-,-⟩:=af HB.o.gV.1;have tS:=c2;clear c2;go_upto_region 3 with fail;refine o0 (S:=(fun W=>W.cell? ⟨r,1,none⟩=some (.slice Xx BZ Qv))) (by kernel_rfl) tS (fun ph=>?_);generalize hW3:World.drew wE=W3 at ph⊢;have HB:=al (HB.o.below (w1:=W3) (hW3▸(aw _ _).drew));clear hW3 tS;refine aI [0,1,2,3,5,6,7] ?_
  iterate 7 (refine bO (v:=?_) (fun wS hSw=>?_) ph ?_;rotate_left;(go_simp;try rfl);try simp only[ai,aj,ak,ar])
  refine aJ ?_;refine dR 8 (v:=?_) (fun wS hSw=>?_) ph ?_;rotate_left
  ·have s0:=hSw;go_simp;try rfl
  try simp only[ai,aj,ak,ar]
  refine aW 4 (fun K hK=>?_);obtain⟨⟨-,r6⟩,-,rf⟩:=af (HB.o.fI.1);go_simp;refine hK.o _ _ (ph) ?_;clear hK K ph r6 rf;intro ph
  try simp only[ai,aj,ak,ar]
  refine aW 9 (fun K hK=>?_);refine gF _ (by rfl) _ _ 183 (by rfl) iN (.pointer none) 8 underlying183 HI.o.q.1 HI.o.q.2.1 HI.o.q.d.1 HI.o.q.t (by rfl) (by decide) _ (pl.map aP) (by rfl) HB.o.fI.2.2 _ (pr.map aP) (by rfl) HB.o.gV.2.2 (ct _) (by rw[fa,fa];have:=HN.o.q.t.1;have:=HN.o.q.q.1;unfold maxLen;omega) (by rw[fa,fa];have:=HN.o.q.t.1;have:=HN.o.q.q.1;omega) ?_;intro v6 wn cj fe;rw[<-gk]at cj;obtain⟨A7,c7,fL,-⟩:=cj.slice;obtain⟨n7,fB⟩:=qt (((pl++pr).map aP).length);rw[fB]at fL;subst fL;clear fB;have H6:=al (ab cj fe);clear cj fe;refine hK.o _ _ (H6.o.2.cell ph (fun hh=>HB.o.yQ hh rfl)) ?_;clear hK K ph;intro ph
  try simp only[ai,aj,ak,ar]
  refine aI [10,11] ?_
  iterate 2 (refine bO (v:=?_) (fun wS hSw=>?_) ph ?_;rotate_left;(go_simp;try rfl);try simp only[ai,aj,ak,ar])
  refine aJ ?_;refine aW 12 (fun K hK=>?_);obtain⟨⟨-,r6⟩,-,rf⟩:=af (H6.o.2.heap HB.o.fI.1 (fun q hh=>HB.o.yP hh rfl));go_simp;refine hK.o _ _ ((OnlyC.aN _ l 1 _).cell ph (fun e=>HB.o.e12 e.1.symm)) ?_;clear hK K ph r6 rf;intro ph
  try simp only[ai,aj,ak,ar]
  refine pb (by kernel_rfl) ?_ _;have eV:=HB.o.k1 (aw _ _) H6.o.2 H6.o.1;clear ph;generalize wn.setCell ⟨l,1,none⟩ (.slice A7 n7 c7)=wF at eV⊢;have HB:=al eV;clear eV H6;obtain⟨⟨c1,-⟩,-,-⟩:=af HB.o.ln.1;go_wp2_with fail;refine(lG wF (H 1) _ (x.ps.map av) i _ _ rfl (by omega) HB.o.ln.2.1 (by rw[fa];have:=HN.o.q.q.2.1;have:=HN.o.q.q.d.1;omega) (by rw[fa];omega) (dO _)).m ?_;rintro e w9 ⟨v9,rfl,cK,eB⟩;rw[<-me,<-lk,<-gk]at cK;obtain⟨A8,c8,gw,-⟩:=cK.slice;obtain⟨n8,fU⟩:=qt (((x.ps.take i++x.ps.drop (i+1)).map av).length);rw[fU]at gw;subst gw;clear fU c1;have H9:=al (ab cK eB);clear cK eB;obtain⟨⟨c1,-⟩,f1,-⟩:=af (H9.o.2.heap HB.o.ln.1 (fun q hh=>HB.o.Kg hh rfl));go_upto_region 5 with fail;clear c1 f1;have hB4:=HB.o.p0 (aw _ _) H9.o.2 (H9.o.1.m (fun b q hh=>.inl hh));generalize w9.setCell ⟨a,0,none⟩ (.slice A8 n8 c8)=wG at hB4⊢;have HB:=al hB4;clear hB4 H9;obtain⟨⟨-,c2⟩,-,-⟩:=af HB.o.ln.1;go_wp2_with fail;refine(iZ wG (H 2) _ (aA.map aP) i1 _ _ (by simp) (by omega) HB.o.ln.2.2 (by rw[fa];have:=HN.o.q.q.2.1;have:=HN.o.q.d.1;have:=HN.o.q.q.t;omega) (by rw[fa];have:=HN.o.q.d.1;have:=HN.o.q.q.d.1;omega) (ct _)).m ?_;rintro e wY ⟨v9,rfl,cK,eB⟩;rw[<-me,<-lk,<-gk]at cK;obtain⟨A9,c9,gw,-⟩:=cK.slice;obtain⟨n9,fU⟩:=qt (((aA.take i1++aA.drop (i1+1)).map aP).length);rw[fU]at gw;subst gw;clear fU c2;have H9:=al (ab cK eB);clear cK eB;obtain⟨⟨-,c2⟩,-,f2⟩:=af (H9.o.2.heap HB.o.ln.1 (fun q hh=>HB.o.Yi hh rfl));go_wp2_with fail
  first|refine eC (du rfl _ _ _) rfl ?_|refine dr (du rfl _ _ _) rfl ?_
  have Ca:=HB.o.k0 (aw _ _) H9.o.2 (H9.o.1.m (fun b q hh=>.inl hh));have hE:=I1 HA.o.1 HA.o.2.1 (by have:=HN.o.q.q.2.1;omega) HA.o.d.1 HA.o.t.1 HA.o.q.1 Ca ?_ rfl (fun e=>by rw[HA.o.q.q.t.1 e,HA.o.q.q.q e];rfl)
  ·refine⟨rfl,?_,hE.2⟩;have h1:=hE.1;have e1:kl.ps++[s]++kr.ps=kl.ps++s::kr.ps:=by simp
   rw[e1]at h1;exact h1
  ·have h1:=HA.o.q.d.1;have h2:=(b8.1 h1);obtain⟨h3,h4⟩:=h2;rw[HN.o.q.q.t,List.take_succ_eq_append_getElem h3,h4]
end Go.Proofs.YtmkofmeojbcakaaGreatDoor
