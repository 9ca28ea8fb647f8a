import Derived.Test.YtmkofmeojbcakaaGreatDoorC20
namespace Go.Proofs.YtmkofmeojbcakaaGreatDoor
open Go.Proofs.Tryz
set_option maxRecDepth 100000
set_option maxHeartbeats 16000000
open Go.RowKit
theorem bg.rX{w:World}{d a bk ok nk ck:Nat}{x:ND}{F:Nat->Nat->Prop}{vp:Value}{aA:List Nat}{H:Nat->Nat->Nat->Prop}(h:bg w (ay w d) a x F vp (.slice (some ⟨bk,ok,none⟩) nk ck) aA H){j:Nat}(hj:j<x.ks.length):
  ∃p A c,w.cell? ⟨bk,ok+j,none⟩=some (.pointer (some ⟨p,0,none⟩))/\w.cell? ⟨p,0,none⟩=some (.slice A (aV x j).ps.length c):=by
 obtain⟨p,hp⟩: ∃y,aA[j]?=some y:=⟨_,ao (by rw[h.2.2.2.2.1];exact hj)⟩;have hn:=h.2.2.2.2.2.1 j p (aV x j) hp (dF hj);obtain⟨vp',vk',acg,H',g1,-,g3,-⟩:=ay.base hn;obtain⟨A,c,rfl,-⟩:=g3.slice;rw[fa]at g1;exact⟨p,A,c,h.2.2.2.1.Ea hp,(af g1).1.1⟩
theorem Cb(w:World)(d a i o lo hi:Nat)(x:ND)(F:Nat->Nat->Prop)(h:ay w (d+1) a x F)(hF: ∀b q,F b q->b<w.heap.size)(hk:wI d o i lo hi x)(hlo:1<=lo)(hhi:hi<=900)(ho:2<=o)(dY:o<=16):
  Calls prog 155 #[.pointer (some ⟨a,0,none⟩),.int .i64 i,.int .i64 o] w fun e w'=>e=.returned (.tuple #[])/\ay w' (d+1) a (jD d x i o) (fun b q=>F b q\/w.heap.size<=b)/\OnlyC F w w':=by
 have hxl:=hk.1;have hxh:=hk.2.1;have hps:=hk.2.2.1;have hil:=hk.2.2.2.1;have wi:=hk.2.2.2.2.2
 have wj: ∀j,j<x.ks.length->(aV x j).ps.length<=900/\(aV x j).ks.length<=901/\(d≠0->(aV x j).ks.length=(aV x j).ps.length+1):=by
  intro j hj
  have hwf: ∃lo' hi',fy d o lo' hi' (aV x j)/\hi'<=900:=by
   by_cases e:j=i
   ·subst e;exact⟨_,_,wi,by omega⟩
   ·exact⟨_,_,hk.kid e hj,by omega⟩
  obtain⟨lo',hi',hw,hle⟩:=hwf;have hl:=hw.len;refine⟨by omega,?_,fun hd=>?_⟩
  ·cases d with
   |zero=>rw[hw.none];simp
   |succ d=>rw[hw.kids];omega
  ·obtain⟨d1,rfl⟩: ∃d1,d=d1+1:=⟨d-1,by omega⟩;exact hw.kids
 have hN:=h;obtain⟨_,vp,vk,aA,H,hO,_⟩:=h.open_;obtain⟨l0,hl0⟩: ∃y,aA[i]?=some y:=⟨_,ao (by rw[hO.2.2.2.2.1];exact hil)⟩;obtain⟨bk,ok,ck,e0,-,-,-⟩:=hO.2.2.2.1.ptr hl0;subst e0;obtain⟨nk,kJ⟩:=qt (aA.length);have iA:=hO.2.2.2.2.1;rw[kJ]at hO iA;obtain⟨⟨-,Xy⟩,-,-⟩:=af hO.1;obtain⟨p0,A0,c0,k0,k1⟩:=bg.rX hO (j:=i) hil;obtain⟨n0,hn0⟩:=qt ((aV x i).ps.length);rw[hn0]at k1;obtain⟨m,hm⟩: ∃m,o=m+1:=⟨o-1,by omega⟩;have HA:=al (ab hN (ab hF (ab hO (ab hil (ab hps (ab hn0 (ab hm (ab wj (ab hk (ab hxh hhi))))))))));have j0:(o:Int)-1=(m:Int):=by omega
 have j2:(0:Int)<=(i:Int):=by omega
 have j3:(i:Int)<(nk:Int):=by omega
 obtain⟨y1,y2⟩:=Mk m (by omega);have acE:nk<=901:=by omega
 have vg:nk=x.ks.length:=iA;have KX:=wj i hil;have HLO:=al hlo;clear hN hF hO hps wj wi hk hxl hxh h hl0 iA kJ hlo hhi;by_cases c1:m<=n0
 ·have q1:(m:Int)<=(n0:Int):=by omega
  have HC:=al c1;clear hil hm hn0 vg KX c1;go_enter func155,ntmps155;go_wp2_with fail
  first|refine eC (du rfl _ _ _) rfl ?_|refine dr (du rfl _ _ _) rfl ?_
  have Vb:jD d x i o=x:=by unfold jD;rw[fi (by have:=HA.o.q.2.1;have:=HA.o.q.d.1;have:=HC.o;omega)]
  rw[Vb];exact⟨rfl,HA.o.1.m (fun b q hh=>.inl hh),OnlyC.refl _ _⟩
 ·have q1: ¬(m:Int)<=(n0:Int):=by omega
  have HC:=al c1;have jo:=HA.o.q.d.1;have sK:=HA.o.q.2.1
  have Zb:jD d x i o=if 0<i/\o-1<(aV x (i-1)).ps.length then uS x (i-1) (eF d (aV x (i-1)) (gM x (i-1)) (aV x i))
    else if i+1<x.ks.length/\o-1<(aV x (i+1)).ps.length then uS x i (gp d (aV x i) (gM x i) (aV x (i+1)))
    else if 0<i then uT x (i-1) (lH (aV x (i-1)) (gM x (i-1)) (aV x i))else uT x i (lH (aV x i) (gM x i) (aV x (i+1))):=by
   conv=>lhs;unfold jD
   rw[ff (by omega)]
  have HU:=al Zb;clear hm hn0 jo sK c1 Zb;by_cases ci:0<i
  ·obtain⟨i0,hi0⟩: ∃y,i=y+1:=⟨i-1,by omega⟩;obtain⟨p2,A2,c2,k2,k3⟩:=bg.rX HA.o.d.1 (j:=i0) (by omega);obtain⟨n2,oC⟩:=qt ((aV x i0).ps.length);rw[oC]at k3;have q2:(0:Int)<(i:Int):=by omega
   have q3:(i:Int)-1=(i0:Int):=by omega
   have q4:(0:Int)<=(i0:Int):=by omega
   have q5:(i0:Int)<(nk:Int):=by omega
   obtain⟨y3,y4⟩:=Mk i0 (by omega);have HI:=al (ab hi0 oC);have hw0:=HA.o.q.t.1 i0 (by omega);by_cases cl:m<n2
   ·have q6:(m:Int)<(n2:Int):=by omega
    have HL:=al cl;clear oC hi0 cl ci;go_enter func155,ntmps155;go_wp2_with fail;have HQ:=al (Ec w d a i0 i x F HA.o.1 HA.o.2.1 HI.o.1 (by have:=HI.o.1;omega) HA.o.q.1 (by have:=HA.o.q.q.2.1;have:=HA.o.q.q.d;omega) (by have:=HI.o.2;have:=HL.o;omega) hw0.1 (by rw[show i0+1=i from HI.o.1.symm];exact KX.1) hw0.2.2 (by rw[show i0+1=i from HI.o.1.symm];exact KX.2.1));refine HQ.o.m ?_;rintro e w2 ⟨rfl,hn,ho⟩;have HF:=al (ab hn ho);clear hn ho HQ;go_wp2_with fail
    first|refine eC (du rfl _ _ _) rfl ?_|refine dr (du rfl _ _ _) rfl ?_
    rw[HU.o,fi ⟨by have:=HI.o.1;omega,by rw[show i-1=i0 by have:=HI.o.1;omega];have:=HI.o.2;have:=HL.o;have:=HA.o.q.d.1;omega⟩,show i-1=i0 by have:=HI.o.1;omega];have h1:=HF.o.1;rw[show i0+1=i from HI.o.1.symm]at h1;exact⟨rfl,h1,HF.o.2⟩
   ·have q6: ¬(m:Int)<(n2:Int):=by omega
    have HL:=al cl
    have hnl: ¬(0<i/\o-1<(aV x (i-1)).ps.length):=by rintro⟨_,h2⟩;rw[show i-1=i0 by omega,oC]at h2;have:=HA.o.q.d.1;omega
    have XA:=al hnl;clear cl hnl;obtain⟨i1,hi1⟩:=qS (i+1);have q7:(i:Int)+1=(i1:Int):=by omega
    obtain⟨y5,y6⟩:=Mk i1 (by omega);have q8:(0:Int)<=(i1:Int):=by omega
    by_cases cr:i+1<x.ks.length
    ·obtain⟨p3,A3,c3,k4,k5⟩:=bg.rX HA.o.d.1 (j:=i+1) cr;rw[<-hi1]at k4;obtain⟨n3,mB⟩:=qt ((aV x (i+1)).ps.length);rw[mB]at k5;have q9:(i1:Int)<(nk:Int):=by omega
     have hw3:=HA.o.q.t.1 (i+1) cr;have hi2:=cr;have HH:=al (ab mB hi1);by_cases cx:m<n3
     ·have qa:(m:Int)<(n3:Int):=by omega
      have Zc:=al cx;clear oC hi0 ci;clear mB cx cr hi1;go_enter func155,ntmps155;go_wp2_with fail;have HQ:=al (rW w d a i x F HA.o.1 HA.o.2.1 hi2 HA.o.q.1 (by have:=HA.o.q.q.2.1;have:=HA.o.q.q.d;omega) (by have:=HH.o.1;have:=Zc.o;omega) KX.1 hw3.1 (fun hd=>by have:=hw3.2.2 hd;omega) KX.2.1 hw3.2.1);refine HQ.o.m ?_;rintro e w2 ⟨rfl,hn,ho⟩;have HF:=al (ab hn ho);clear hn ho HQ;go_wp2_with fail
      first|refine eC (du rfl _ _ _) rfl ?_|refine dr (du rfl _ _ _) rfl ?_
      rw[HU.o,ff XA.o,fi ⟨hi2,by have:=HH.o.1;have:=Zc.o;have:=HA.o.q.d.1;omega⟩];exact⟨rfl,HF.o.1,HF.o.2⟩
     ·have qa: ¬(m:Int)<(n3:Int):=by omega
      have yJ: ¬(i+1<x.ks.length/\o-1<(aV x (i+1)).ps.length):=by rintro⟨_,h2⟩;rw[mB]at h2;have:=HA.o.q.d.1;omega
      have Zd:=al yJ;clear oC hi0 ci;clear mB cx cr hi1 yJ;go_enter func155,ntmps155;go_wp2_with fail;have HQ:=al (pj w d a i0 x F HA.o.1 HA.o.2.1 (by have:=HI.o.1;omega) HA.o.q.1 (by have:=HA.o.q.q.2.1;have:=HA.o.q.q.d;omega) hw0.1 (by rw[show i0+1=i from HI.o.1.symm];exact KX.1) hw0.2.1 (by rw[show i0+1=i from HI.o.1.symm];exact KX.2.1));refine HQ.o.m ?_;rintro e w2 ⟨rfl,hn,ho⟩;have HF:=al (ab hn ho);clear hn ho HQ;go_wp2_with fail
      first|refine eC (du rfl _ _ _) rfl ?_|refine dr (du rfl _ _ _) rfl ?_
      rw[HU.o,ff XA.o,ff Zd.o];rw[fi (by have:=HI.o.1;omega),show i-1=i0 by have:=HI.o.1;omega];have h1:=HF.o.1;rw[show i0+1=i from HI.o.1.symm]at h1;exact⟨rfl,h1,HF.o.2⟩
    ·have q9: ¬(i1:Int)<(nk:Int):=by omega
     have Zd:=al (show ¬(i+1<x.ks.length/\o-1<(aV x (i+1)).ps.length)from fun h=>cr h.1);clear oC hi0 ci;clear cr hi1;go_enter func155,ntmps155;go_wp2_with fail;have HQ:=al (pj w d a i0 x F HA.o.1 HA.o.2.1 (by have:=HI.o.1;omega) HA.o.q.1 (by have:=HA.o.q.q.2.1;have:=HA.o.q.q.d;omega) hw0.1 (by rw[show i0+1=i from HI.o.1.symm];exact KX.1) hw0.2.1 (by rw[show i0+1=i from HI.o.1.symm];exact KX.2.1));refine HQ.o.m ?_;rintro e w2 ⟨rfl,hn,ho⟩;have HF:=al (ab hn ho);clear hn ho HQ;go_wp2_with fail
     first|refine eC (du rfl _ _ _) rfl ?_|refine dr (du rfl _ _ _) rfl ?_
     rw[HU.o,ff XA.o,ff Zd.o];rw[fi (by have:=HI.o.1;omega),show i-1=i0 by have:=HI.o.1;omega];have h1:=HF.o.1;rw[show i0+1=i from HI.o.1.symm]at h1;exact⟨rfl,h1,HF.o.2⟩
  ·have q2: ¬(0:Int)<(i:Int):=by omega
   have hnl: ¬(0<i/\o-1<(aV x (i-1)).ps.length):=fun h=>ci h.1;have XA:=al hnl;have HI:=al ci;clear hnl;obtain⟨i1,hi1⟩:=qS (i+1);have q7:(i:Int)+1=(i1:Int):=by omega
   obtain⟨y5,y6⟩:=Mk i1 (by omega);have q8:(0:Int)<=(i1:Int):=by omega
   by_cases cr:i+1<x.ks.length
   ·obtain⟨p3,A3,c3,k4,k5⟩:=bg.rX HA.o.d.1 (j:=i+1) cr;rw[<-hi1]at k4;obtain⟨n3,mB⟩:=qt ((aV x (i+1)).ps.length);rw[mB]at k5;have q9:(i1:Int)<(nk:Int):=by omega
    have hw3:=HA.o.q.t.1 (i+1) cr;have hi2:=cr;have HH:=al (ab mB hi1);by_cases cx:m<n3
    ·have qa:(m:Int)<(n3:Int):=by omega
     have Zc:=al cx;clear ci;clear mB cx cr hi1;go_enter func155,ntmps155;go_wp2_with fail;have HQ:=al (rW w d a i x F HA.o.1 HA.o.2.1 hi2 HA.o.q.1 (by have:=HA.o.q.q.2.1;have:=HA.o.q.q.d;omega) (by have:=HH.o.1;have:=Zc.o;omega) KX.1 hw3.1 (fun hd=>by have:=hw3.2.2 hd;omega) KX.2.1 hw3.2.1);refine HQ.o.m ?_;rintro e w2 ⟨rfl,hn,ho⟩;have HF:=al (ab hn ho);clear hn ho HQ;go_wp2_with fail
     first|refine eC (du rfl _ _ _) rfl ?_|refine dr (du rfl _ _ _) rfl ?_
     rw[HU.o,ff XA.o,fi ⟨hi2,by have:=HH.o.1;have:=Zc.o;have:=HA.o.q.d.1;omega⟩];exact⟨rfl,HF.o.1,HF.o.2⟩
    ·have qa: ¬(m:Int)<(n3:Int):=by omega
     have yJ: ¬(i+1<x.ks.length/\o-1<(aV x (i+1)).ps.length):=by rintro⟨_,h2⟩;rw[mB]at h2;have:=HA.o.q.d.1;omega
     have Zd:=al yJ;clear ci;clear mB cx cr hi1 yJ;go_enter func155,ntmps155;go_wp2_with fail;have HQ:=al (pj w d a i x F HA.o.1 HA.o.2.1 hi2 HA.o.q.1 (by have:=HA.o.q.q.2.1;have:=HA.o.q.q.d;omega) KX.1 hw3.1 KX.2.1 hw3.2.1);refine HQ.o.m ?_;rintro e w2 ⟨rfl,hn,ho⟩;have HF:=al (ab hn ho);clear hn ho HQ;go_wp2_with fail
     first|refine eC (du rfl _ _ _) rfl ?_|refine dr (du rfl _ _ _) rfl ?_
     rw[HU.o,ff XA.o,ff Zd.o];rw[ff HI.o];have h1:=HF.o.1;exact⟨rfl,h1,HF.o.2⟩
   ·exfalso;have h1:=HA.o.q.q.1.1;have h2:=HA.o.q.1;have h3:=HLO.o;omega
def Cc(d o:Nat):Prop:= ∀(w:World) (a lo hi:Nat) (x:ND) (F:Nat->Nat->Prop),ay w d a x F->(∀b q,F b q->b<w.heap.size)->fy d o lo hi x->1<=lo->hi<=900->
 Calls prog 154 #[.pointer (some ⟨a,0,none⟩),.int .i64 o] w fun e w'=>e=.returned (Qu (fZ d x o).2)/\ay w' d a (fZ d x o).1 (fun b q=>F b q\/w.heap.size<=b)/\OnlyC F w w'
theorem N9{w:World}{B:Nat}{a0 a1 v0 v1:Value}{t:TypeId}(h:w.heap[B]?=some (.cells #[a0,a1] t (0,0))):((w.setCell ⟨B,0,none⟩ v0).setCell ⟨B,1,none⟩ v1).heap[B]?=some (.cells #[v0,v1] t (0,0)):=by have h1:=db w B 0 _ _ v0 h;have h2:=db _ B 1 _ _ v1 h1;simpa using h2
theorem KY(o:Nat):Cc 0 o:=by
 intro w a lo hi x F h hF hw hlo hhi;have hks:=hw.none;have hlen:=hw.len;obtain⟨m,hm⟩: ∃m,x.ps.length=m+1:=⟨x.ps.length-1,by omega⟩;obtain⟨z,hz⟩: ∃p,x.ps[m]?=some p:=⟨_,ao (by omega)⟩
 have hres:fZ 0 x o=(.mk (x.ps.take m) [],z):=by show(ND.mk (x.ps.take (x.ps.length-1)) [],x.ps[x.ps.length-1]?.getD ([],[]))=_;rw[hm,nx,hz];rfl
 obtain⟨hb0,k0⟩:=qn w (.cells #[.string ⟨#[]⟩,.string ⟨#[]⟩] 195);have h1:=h.below hb0;go_enter func154,ntmps154;go_upto_region 1 with fail;generalize w.alloc (.cells #[.string ⟨#[]⟩,.string ⟨#[]⟩] 195)=w1 at hb0 k0 h1⊢;obtain⟨R0,hR⟩:=qt (w.heap.size);rw[hR]at k0⊢;obtain⟨hd0,vp,vk,aA,H,hO,-⟩:=h1.open_;have hp0:aA=[]:=dj (by rw[hO.2.2.2.2.1,hks];rfl);subst hp0;obtain⟨bl,ol,cl,e0,-,-,-⟩:=hO.2.2.1.pair hz;subst e0;obtain⟨A2,c2,e2,-⟩:=hO.2.2.2.1.slice;have e2:vk=.slice A2 0 c2:=by simpa using e2
 subst e2;obtain⟨n,hn⟩:=qt (x.ps.length);rw[hn]at hO;have DI: ∀b q,F b q->b<w1.heap.size:=fun b q hh=>cq (hF b q hh) hb0.size;have HA:=al (ab hO (ab hF (ab DI (ab hb0 (ab k0 (ab hR (ab hks (ab hz (ab hm hres)))))))));obtain⟨⟨z0,z1⟩,-,-⟩:=af hO.1;have jy:=al (dZ w1 a c2 A2 z1);have j1:(n:Int)-1=(m:Int):=by omega
 have j2:(0:Int)<=(m:Int):=by omega
 have j3:(m:Int)<(n:Int):=by omega
 have j4:n<=900:=by omega
 obtain⟨y1,y2⟩:=Mk m (by omega);obtain⟨⟨s0,s1⟩,-,-⟩:=hO.2.2.1.kK hz;clear h hF hw hlo hhi hks hlen hm hz hres hb0 k0 h1 hR hd0 hO hn DI;go_wp2_with fail;refine jy.o.m ?_;rintro e w2 ⟨rfl,hw2⟩;subst hw2;clear jy;go_upto_region 4 with fail;obtain⟨bZ,kZ⟩:=qn w1 (.cells #[.string ⟨z.1.toArray⟩,.string ⟨z.2.toArray⟩] 195);generalize w1.alloc (.cells #[.string ⟨z.1.toArray⟩,.string ⟨z.2.toArray⟩] 195)=w3 at bZ kZ⊢;obtain⟨ZB,VI⟩:=qt (w1.heap.size);rw[VI]at kZ⊢;have Ml:=bg.below (d:=0) HA.o.1 bZ;clear z0 z1 s0 s1;obtain⟨⟨z0,-⟩,-,-⟩:=af Ml.1;have H3:=al (ab bZ (ab kZ (ab VI Ml)));clear bZ kZ VI Ml;go_wp2_with fail;refine(lG w3 (H 1) _ (x.ps.map av) m _ _ rfl (by simp) H3.o.q.2.1 (by rw[fa];have:=HA.o.q.q.1;omega) (by rw[fa];have:=HA.o.q.q.1;omega) (dO _)).m ?_;rintro e w9 ⟨v9,rfl,cK,eB⟩;rw[<-me,<-lk,<-gk]at cK;have Ef:x.ps.drop (m+1)=[]:=eS (by have:=HA.o.q.q.1;omega);rw[Ef,gn]at cK;obtain⟨A9,c9,gw,-⟩:=cK.slice;obtain⟨n9,fU⟩:=qt (((x.ps.take m).map av).length);rw[fU]at gw;subst gw;clear fU Ef z0;have VJ:=eB.heap H3.o.t.1 (fun q hh=>HA.o.1.own.2.1 1 0 a q (by decide) hh (HA.o.1.2.1 q));have xQ: ∀b,w.heap.size<=b-> ∀q,¬F b q:=fun b hb q hh=>by have:=HA.o.2.1 b q hh;omega
 have hR9:=eB.heap (pt H3.o.1 HA.o.q.1) (fun q hh=>xQ R0 (by have:=HA.o.q.2.1;omega) q (HA.o.1.own.1 1 _ q hh));have hZ9:=eB.heap H3.o.2.1 (fun q hh=>xQ ZB (by have:=HA.o.t.1.size;have:=H3.o.d.1;omega) q (HA.o.1.own.1 1 _ q hh));have hRa: ¬R0=a:=fun e=>xQ R0 (by have:=HA.o.q.2.1;omega) 0 (HA.o.1.own.1 0 _ 0 (e▸HA.o.1.2.1 0));have hZa: ¬ZB=a:=fun e=>xQ ZB (by have:=HA.o.t.1.size;have:=H3.o.d.1;omega) 0 (HA.o.1.own.1 0 _ 0 (e▸HA.o.1.2.1 0));have H9:=al (ab cK (ab eB VJ));obtain⟨⟨z0,-⟩,zf,-⟩:=af VJ;clear cK eB VJ;go_upto_region 5 with fail;have KZ:=(OnlyC.aN w9 a 0 (.slice A9 n9 c9)).heap hR9 (fun q e=>hRa e.1);have VK:=(OnlyC.aN w9 a 0 (.slice A9 n9 c9)).heap hZ9 (fun q e=>hZa e.1);have h3:=H3.o.t
 have hr:=bg.pP (d:=0) (w':=w9.setCell ⟨a,0,none⟩ (.slice A9 n9 c9)) h3 (fun _=>HA.o.q.d.1) (fun b q hh=>cq (HA.o.d.1 b q hh) H3.o.1.size) (jb H9.o.d (.slice A9 n9 c9))
  ((H9.o.2.1.m (fun b q _ hh=>.inl hh)).x (OnlyC.aN w9 a 0 (.slice A9 n9 c9)) (fun b q _ e=>.inr e.1)) ((H9.o.1.only (OnlyC.aN w9 a 0 (.slice A9 n9 c9)) (fun b q hh e=>HA.o.1.own.2.2 1 b q (by decide) hh e.1)).m (fun b q hh=>.inl hh))
 clear z0 zf hR9 hZ9;generalize w9.setCell ⟨a,0,none⟩ (.slice A9 n9 c9)=ze at KZ VK hr⊢;obtain⟨z0,z1⟩:=ft VK;obtain⟨x0,x1⟩:=ft KZ;have f0:ze.frozen? ⟨R0,0,none⟩=false:=frozen_of_heap KZ 0;have f1:ze.frozen? ⟨R0,1,none⟩=false:=frozen_of_heap KZ 1;have H10:=al (ab hr KZ);clear hr KZ VK;go_wp2_with fail;have hp:=N9 (v0:=.string ⟨z.1.toArray⟩) (v1:=.string ⟨z.2.toArray⟩) H10.o.2;have hbW:Below w.heap.size w w3:=HA.o.t.1.x (H3.o.1.m HA.o.t.1.size);have oR:OnlyC (fun b _=>b=R0) ze ((ze.setCell ⟨R0,0,none⟩ (.string ⟨z.1.toArray⟩)).setCell ⟨R0,1,none⟩ (.string ⟨z.2.toArray⟩)):=((OnlyC.aN ze R0 0 _).m (fun b q _ e=>e.1)).x (OnlyC.aN _ R0 1 _) (fun b q _ e=>e.1);refine dr (results_cell_row rfl _ _ _ _ _ _ _ rfl hp underlying195 rfl (by kernel_rfl)) rfl ?_;rw[HA.o.q.q.2];have hr:=H10.o.1;rw[HA.o.q.d.1]at hr;refine⟨rfl,?_,(((oy hbW F).x hr.2 (fun _ _ _ h=>h)).x oR (fun b q hb e=>by subst e;have:=HA.o.q.2.1;omega))⟩;refine(hr.1.only oR (fun b q hh e=>?_)).m (fun b q hh=>hh.imp id (fun h=>da hbW.size h));subst e;have h5:=HA.o.q.2.1;have h6:=oE HA.o.q.1;have h7:=H3.o.1.size;rcases hh with hh|hh
 ·have:=HA.o.2.1 _ q hh;omega
 ·omega
theorem R6(d o:Nat)(ih:Cc d o)(ho:2<=o)(dY:o<=16):Cc (d+1) o:=by
 intro w a lo hi x F h hF hw hlo hhi;have hlen:=hw.len;have mK:=hw.kids;obtain⟨m,hm⟩: ∃m,x.ks.length=m+1:=⟨x.ks.length-1,by omega⟩;have hlm:x.ks.length-1=m:=by omega
 have hres:fZ (d+1) x o=(jD d (qL x m (fZ d (aV x m) o).1) m o,(fZ d (aV x m) o).2):=by show(jD d (qL x (x.ks.length-1) (fZ d (aV x (x.ks.length-1)) o).1) (x.ks.length-1) o,(fZ d (aV x (x.ks.length-1)) o).2)=_;rw[hlm]
 have hk:=dF (x:=x) (i:=m) (by omega);have wk:=hw.2.2.2 _ (de hk);have wl:=(rE ho wk (by omega)).2;have rY:=jR hw (i:=m) (by omega) (by rw[show o-1-1=o-2 by omega]at wl;exact wl);obtain⟨hb0,k0⟩:=qn w (.cells #[.string ⟨#[]⟩,.string ⟨#[]⟩] 195);have h1:=h.below hb0;go_enter func154,ntmps154;go_upto_region 1 with fail;generalize w.alloc (.cells #[.string ⟨#[]⟩,.string ⟨#[]⟩] 195)=w1 at hb0 k0 h1⊢;obtain⟨R0,hR⟩:=qt (w.heap.size);rw[hR]at k0⊢;obtain⟨-,vp,vk,aA,H,hO,-⟩:=h1.open_;obtain⟨l,hl⟩: ∃y,aA[m]?=some y:=⟨_,ao (by rw[hO.2.2.2.2.1];omega)⟩;obtain⟨bk,ok,ck,e0,-,-,r1⟩:=hO.2.2.2.1.ptr hl;subst e0;obtain⟨nk,kJ⟩:=qt (aA.length);have iA:=hO.2.2.2.2.1;rw[kJ]at hO iA;have DI: ∀b q,F b q->b<w1.heap.size:=fun b q hh=>cq (hF b q hh) hb0.size;have Jp:=al (ih w1 l (o-1) (2*o-1) (aV x m) (H (m+3)) (hO.2.2.2.2.2.1 m l _ hl hk) (fun b q hh=>DI b q (hO.own.1 _ b q hh)) wk (by omega) (by omega));obtain⟨⟨zk,zv⟩,hz⟩: ∃p,(fZ d (aV x m) o).2=p:=⟨_,rfl⟩;have HA:=al (ab hO (ab hF (ab DI (ab hb0 (ab k0 (ab hR (ab hl (ab hk (ab rY (ab hres (ab hz (ab hlo hhi))))))))))));obtain⟨⟨-,z1⟩,-,-⟩:=af hO.1;have jy:=al (fq w1 a nk ck _ (by omega) z1);have j1:(nk:Int)-1=(m:Int):=by omega
 have j2:(0:Int)<=(m:Int):=by omega
 have j3:(m:Int)<(nk:Int):=by omega
 have j4:nk<=901:=by omega
 obtain⟨y1,y2⟩:=Mk m (by omega);rw[hz]at Jp;unfold Qu at Jp;simp only at Jp;clear h hF hw hlo hhi hlen mK hm hlm hres hk wk wl rY hb0 k0 h1 hR hl hO iA kJ DI hz ih;go_wp2_with fail;refine jy.o.m ?_;rintro e w2 ⟨rfl,hw2⟩;subst hw2;clear jy;go_wp2_with fail;refine Jp.o.m ?_;rintro e w3 ⟨rfl,mB,rA⟩;clear Jp z1 r1;have hr:=HA.o.1.IX HA.o.d.1 HA.o.q.t.1 HA.o.q.d.1 rA mB;obtain⟨bZ,kZ⟩:=qn w3 (.cells #[.string ⟨zk.toArray⟩,.string ⟨zv.toArray⟩] 195);have xQ: ∀b,w.heap.size<=b-> ∀q,¬F b q:=fun b hb q hh=>by have:=HA.o.2.1 b q hh;omega
 have Ze:=rA.heap HA.o.q.1 (fun q hh=>xQ R0 (by have:=HA.o.q.2.1;omega) q (HA.o.1.own.1 _ _ q hh));have H3:=al (ab hr (ab bZ (ab kZ Ze)));clear hr bZ kZ Ze mB rA xQ;go_upto_region 8 with fail;have H4:=H3.o;clear H3;generalize w3.alloc (.cells #[.string ⟨zk.toArray⟩,.string ⟨zv.toArray⟩] 195)=w4 at H4⊢;obtain⟨hr,bZ,kZ,Ze⟩:=H4;obtain⟨ZB,VI⟩:=qt (w3.heap.size);rw[VI]at kZ⊢;have Ui:=pt bZ Ze;have hb4:=hr.1.bound.below bZ;have H4:=al (ab hr.2 (ab bZ (ab kZ (ab Ui (ab VI hb4)))));have hsz1:w.heap.size<=w1.heap.size:=HA.o.t.1.size;have HM:=al (Cb w4 d a m o lo hi _ _ hb4 (fun b q hh=>cq hh.2 bZ.size) HA.o.q.q.1 HA.o.q.q.t.1 HA.o.q.q.q ho dY);clear hr bZ kZ Ze Ui hb4 VI;go_wp2_with fail;refine HM.o.m ?_;rintro e w5 ⟨rfl,NT,jr⟩;clear HM;have acF:=oE HA.o.q.1
 have VL: ∀q,¬((F R0 q\/w1.heap.size<=R0)/\R0<w3.heap.size):=fun q hh=>by
  rcases hh.1 with h5|h5
  ·have:=HA.o.2.1 _ q h5;have:=HA.o.q.2.1;omega
  ·omega
 have Jm:=jr.heap H4.o.t.1 VL;have hZ5:=jr.heap H4.o.d.1 (fun q hh=>by have:=hh.2;have:=H4.o.q.1;omega);obtain⟨z0,z1⟩:=ft hZ5;obtain⟨x0,x1⟩:=ft Jm;have f0:w5.frozen? ⟨R0,0,none⟩=false:=frozen_of_heap Jm 0;have f1:w5.frozen? ⟨R0,1,none⟩=false:=frozen_of_heap Jm 1;have H5:=al (ab NT (ab jr (ab Jm VL)));clear NT jr Jm hZ5 VL;go_wp2_with fail;have hp:=N9 (v0:=.string ⟨zk.toArray⟩) (v1:=.string ⟨zv.toArray⟩) H5.o.d.1;have oR:OnlyC (fun b _=>b=R0) w5 ((w5.setCell ⟨R0,0,none⟩ (.string ⟨zk.toArray⟩)).setCell ⟨R0,1,none⟩ (.string ⟨zv.toArray⟩)):=((OnlyC.aN w5 R0 0 _).m (fun b q _ e=>e.1)).x (OnlyC.aN _ R0 1 _) (fun b q _ e=>e.1);refine dr (results_cell_row rfl _ _ _ _ _ _ _ rfl hp underlying195 rfl (by kernel_rfl)) rfl ?_;rw[HA.o.q.q.2.1,HA.o.q.q.d.1];have o13:OnlyC F w1 w4:=H4.o.1.x (oy H4.o.2.1 F) (fun _ _ _ h=>h);have o15:OnlyC F w w5:=((oy HA.o.t.1 F).x o13 (fun _ _ _ h=>h)).x H5.o.2.1 (fun b q hb hh=>hh.1.elim id (fun h=>by omega));refine⟨rfl,(H5.o.1.only oR (fun b q hh e=>?_)).m (fun b q hh=>?_),o15.x oR (fun b q hb e=>by subst e;have:=HA.o.q.2.1;omega)⟩
 ·subst e;rcases hh with hh|hh
  ·exact H5.o.t q hh
  ·have:=oE H4.o.t.1;omega
 ·rcases hh with hh|hh
  ·exact hh.1.imp id (fun h=>by omega)
  ·have:=H4.o.2.1.size;have:=H4.o.1.size;exact .inr (by omega)
theorem Jq{o:Nat}(ho:2<=o)(dY:o<=16): ∀d,Cc d o
 |0=>KY o
 |d+1=>R6 d o (Jq ho dY d) ho dY
def Oa(d o:Nat)(key:List UInt8):Prop:= ∀(w:World) (a lo hi:Nat) (x:ND) (F:Nat->Nat->Prop),ay w d a x F->(∀b q,F b q->b<w.heap.size)->fy d o lo hi x->(1<=lo\/d=0)->hi<=900->Up (bz d x)->
 Calls prog 125 #[.pointer (some ⟨a,0,none⟩),.string ⟨key.toArray⟩,.int .i64 o] w (Gn d a (nz d x key o) F (look key (bz d x)) w)
theorem Ob(o:Nat)(key:List UInt8):Oa 0 o key:=by
 intro w a lo hi x F h hF hw _ hhi hu;have hks:=hw.none;have hlen:=hw.len;have R7:=wR hw hu;have hlx:x.ps.length<=1000:=by omega
 have hpos:=eU key x.ps;have qA:=al (find_ok w F a x key h.base R7 hlx);obtain⟨i,hi⟩:=qt (posOf key x.ps);rw[hi]at qA hpos;have HH:=al (ab h (ab hF (ab hks (ab hi hlx))));by_cases hh:hit key x.ps=true
 ·obtain⟨v,hv⟩:=fO hh;rw[hi]at hv;have HV:=al (ab hh hv);rw[hh]at qA;clear h hF hw hks hlen R7 hlx hh hi hu hhi;go_enter func125,ntmps125;go_wp2_with fail;refine qA.o.m ?_;rintro e w2 ⟨rfl,hb2⟩;have h2:=HH.o.1.below hb2;obtain⟨hd0,vp,vk,aA,H,hO,-⟩:=h2.open_;have hp0:aA=[]:=dj (by rw[hO.2.2.2.2.1,HH.o.d.1];rfl);subst hp0;obtain⟨bl,ol,cl,e0,-,-,-⟩:=hO.2.2.1.pair hv;subst e0;obtain⟨A2,c2,e2,-⟩:=hO.2.2.2.1.slice;have e2:vk=.slice A2 0 c2:=by simpa using e2
  subst e2;obtain⟨n,hn⟩:=qt (x.ps.length);rw[hn]at hO hpos;have hil:=(b8.1 hv).1;have HA:=al (ab hO (ab hb2 hn));obtain⟨⟨z0,z1⟩,-,-⟩:=af hO.1;have jy:=al (dZ w2 a c2 A2 z1);obtain⟨⟨s0,s1⟩,-,-⟩:=hO.2.2.1.kK hv;have j2:(0:Int)<=(i:Int):=by omega
  have j3:(i:Int)<(n:Int):=by omega
  have j4:n<=1000:=by rw[<-hn];exact HH.o.q
  clear qA h2 hd0 hO hb2 hn hv hil hpos;go_wp2_with fail;refine jy.o.m ?_;rintro e w3 ⟨rfl,hw3⟩;subst hw3;go_wp2_with fail;refine jy.o.m ?_;rintro e w3 ⟨rfl,hw3⟩;subst hw3;clear jy z1;go_wp2_with fail;have hil:=(b8.1 HV.o.2).1;refine(lG w2 (H 1) _ (x.ps.map av) i _ _ rfl (by first|rfl|simp|omega) HA.o.1.2.2.1 (by rw[fa];exact hil) (by rw[fa];exact HH.o.q) (dO _)).m ?_;rintro e w9 ⟨v9,rfl,cK,eB⟩;rw[<-me,<-lk,<-gk]at cK;obtain⟨A9,c9,gw,-⟩:=cK.slice;obtain⟨n9,fU⟩:=qt (((x.ps.take i++x.ps.drop (i+1)).map av).length);rw[fU]at gw;subst gw;clear fU z0 s0 s1 hil;have VJ:=eB.heap HA.o.1.1 (fun q hh=>HA.o.1.own.2.1 1 0 a q (by decide) hh (HA.o.1.2.1 q));have H9:=al (ab cK (ab eB VJ));obtain⟨⟨z0,-⟩,zf,-⟩:=af VJ;clear cK eB VJ;go_wp2_with fail
  go_ret2
  have hF2: ∀b q,F b q->b<w2.heap.size:=fun b q hh=>cq (HH.o.2.1 b q hh) HA.o.2.1.size
  have hr:=bg.pP (d:=0) (w':=w9.setCell ⟨a,0,none⟩ (.slice A9 n9 c9)) HA.o.1 (fun _=>HH.o.d.1) hF2 (jb H9.o.d (.slice A9 n9 c9))
   ((H9.o.2.1.m (fun b q _ hh=>.inl hh)).x (OnlyC.aN w9 a 0 (.slice A9 n9 c9)) (fun b q _ e=>.inr e.1)) ((H9.o.1.only (OnlyC.aN w9 a 0 (.slice A9 n9 c9)) (fun b q hh e=>HA.o.1.own.2.2 1 b q (by decide) hh e.1)).m (fun b q hh=>.inl hh))
  rw[HH.o.d.1]at hr;have hi2:=HH.o.t.1;rw[zN HV.o.1,hi2];have hlk:look key x.ps=some v:=sU (by rw[hi2];exact HV.o.2);rw[show look key (bz 0 x)=some v from hlk];exact⟨rfl,hr.1.m (fun b q hh=>hh.imp id (fun h=>da HA.o.2.1.size h)),(oy HA.o.2.1 F).x hr.2 (fun _ _ _ h=>h)⟩
 ·simp only[Bool.not_eq_true]at hh;have HV:=al hh;rw[hh]at qA;clear h hF hw hks hlen R7 hlx hh hi hu hhi;go_enter func125,ntmps125;go_wp2_with fail;refine qA.o.m ?_;rintro e w2 ⟨rfl,hb2⟩;have h2:=HH.o.1.below hb2;obtain⟨hd0,vp,vk,aA,H,hO,-⟩:=h2.open_;have hp0:aA=[]:=dj (by rw[hO.2.2.2.2.1,HH.o.d.1];rfl);subst hp0;obtain⟨A2,c2,e2,-⟩:=hO.2.2.2.1.slice;have e2:vk=.slice A2 0 c2:=by simpa using e2
  subst e2;have HA:=al (ab h2 hb2);obtain⟨⟨z0,z1⟩,-,-⟩:=af hO.1;have jy:=al (dZ w2 a c2 A2 z1);clear qA h2 hd0 hO hb2 z0 z1;go_wp2_with fail;refine jy.o.m ?_;rintro e w3 ⟨rfl,hw3⟩;subst hw3;go_wp2_with fail
  go_ret2
  rw[wM HV.o,show look key (bz 0 x)=none from Dc HV.o];exact⟨rfl,HA.o.1.m (fun b q hh=>.inl hh),oy HA.o.2 F⟩
theorem VM(d o:Nat)(key:List UInt8)(ih:Oa d o key)(ho:2<=o)(dY:o<=16)(w:World)(a lo hi:Nat)(x:ND)(F:Nat->Nat->Prop)(h:ay w (d+1) a x F)(hF: ∀b q,F b q->b<w.heap.size)(hw:fy (d+1) o lo hi x)(hlo:1<=lo)(hhi:hi<=900)(hu:Up (bz (d+1) x))(hh:hit key x.ps=false):
  Calls prog 125 #[.pointer (some ⟨a,0,none⟩),.string ⟨key.toArray⟩,.int .i64 o] w (Gn (d+1) a (nz (d+1) x key o) F (look key (bz (d+1) x)) w):=by
 have hlen:=hw.len;have mK:=hw.kids;have R7:=wR hw hu;have hlx:x.ps.length<=1000:=by omega
 have hpos:=eU key x.ps;have qA:=al (find_ok w F a x key h.base R7 hlx);rw[hh]at qA;have hk:=dF (x:=x) (i:=posOf key x.ps) (by omega);have wk:=hw.2.2.2 _ (de hk)
 have huk:Up (bz d (aV x (posOf key x.ps))):=by have hu2:=hu;rw[<-dS x]at hu2;exact Up.kid mK hu2 hk
 have wl:=(Bz ho key wk (.inl (by omega)) huk).2;have rY:=jR hw (i:=posOf key x.ps) (by omega) (by rw[show o-1-1=o-2 by omega]at wl;exact wl)
 have om:look key (bz (d+1) x)=look key (bz d (aV x (posOf key x.ps))):=by have hu2:=hu;rw[<-dS x]at hu2;rw[<-dS x];exact BA mK hu2 hh hk
 rw[Bx hh,om];clear om wl;obtain⟨i,hi1⟩:=qt (posOf key x.ps);rw[hi1]at qA hpos hk wk huk rY⊢;have HH:=al (ab h (ab hF (ab hk (ab wk (ab huk (ab rY (ab hlo (ab hhi ih))))))));clear h hF hw hlo hhi hu hh R7 hk wk huk rY hi1 ih;go_enter func125,ntmps125;go_wp2_with fail;refine qA.o.m ?_;rintro e w2 ⟨rfl,hb2⟩;have h2:=HH.o.1.below hb2;obtain⟨-,vp,vk,aA,H,hO,-⟩:=h2.open_;obtain⟨l,hl⟩: ∃y,aA[i]?=some y:=⟨_,ao (by rw[hO.2.2.2.2.1];omega)⟩;obtain⟨bk,ok,ck,e0,-,-,r1⟩:=hO.2.2.2.1.ptr hl;subst e0;obtain⟨nk,kJ⟩:=qt (aA.length);have iA:=hO.2.2.2.2.1;rw[kJ]at hO iA;have hF2: ∀b q,F b q->b<w2.heap.size:=fun b q hh=>cq (HH.o.2.1 b q hh) hb2.size;have Jp:=al (HH.o.q.q w2 l (o-1) (2*o-1) (aV x i) (H (i+3)) (hO.2.2.2.2.2.1 i l _ hl HH.o.d.1) (fun b q hh=>hF2 b q (hO.own.1 _ b q hh)) HH.o.t.1 (.inl (by omega)) (by omega) HH.o.q.1);have HA:=al (ab hO (ab hb2 (ab hF2 hl)));obtain⟨⟨-,z1⟩,-,-⟩:=af hO.1;have jy:=al (fq w2 a nk ck _ (by omega) z1);have j2:(0:Int)<=(i:Int):=by omega
 have j3:(i:Int)<(nk:Int):=by omega
 have j4:nk<=1001:=by omega
 clear qA h2 hO hb2 hF2 hl kJ iA hlen mK hlx hpos;go_wp2_with fail;refine jy.o.m ?_;rintro e w3 ⟨rfl,hw3⟩;subst hw3;go_wp2_with fail;refine jy.o.m ?_;rintro e w3 ⟨rfl,hw3⟩;subst hw3;clear jy;go_wp2_with fail;refine Jp.o.m ?_;rintro e w3 ⟨rfl,mB,rA⟩;obtain⟨s0,hs0⟩:=qt ((⟨((look key (bz d (aV x i))).getD []).toArray⟩:ByteArray));obtain⟨b0,hb0⟩:=qt ((look key (bz d (aV x i))).isSome);rw[hs0,hb0];have lV:=al (ab hs0 hb0);have hr:=HA.o.1.IX HA.o.d.1 HH.o.d.1 HA.o.t rA mB;have hb4:=hr.1.bound;have H4:=al (ab hr.2 hb4);have HM:=al (Cb w3 d a i o lo hi _ _ hb4 (fun b q hh=>hh.2) HH.o.q.2.1 HH.o.q.d.1 HH.o.q.t.1 ho dY);clear Jp z1 r1 hr hb4 mB rA hs0 hb0;go_wp2_with fail;refine HM.o.m ?_;rintro e w5 ⟨rfl,NT,jr⟩;have H5:=al (ab NT jr);clear HM NT jr;go_wp2_with fail
 go_ret2
 have h6:=HA.o.2.1.size;have h7:=H4.o.1.size;refine⟨by rw[lV.o.1,lV.o.2];rfl,H5.o.1.m (fun b q hh=>?_),((oy HA.o.2.1 F).x H4.o.1 (fun _ _ _ h=>h)).x H5.o.2 (fun b q hb hh=>hh.1.elim id (fun h=>by omega))⟩;rcases hh with hh|hh
 ·exact hh.1.imp id (fun h=>by omega)
 ·exact .inr (by omega)
theorem R8(d o:Nat)(key:List UInt8)(ho:2<=o)(dY:o<=16)(w:World)(a lo hi:Nat)(x:ND)(F:Nat->Nat->Prop)(h:ay w (d+1) a x F)(hF: ∀b q,F b q->b<w.heap.size)(hw:fy (d+1) o lo hi x)(hlo:1<=lo)(hhi:hi<=900)(hu:Up (bz (d+1) x))(hh:hit key x.ps=true):
  Calls prog 125 #[.pointer (some ⟨a,0,none⟩),.string ⟨key.toArray⟩,.int .i64 o] w (Gn (d+1) a (nz (d+1) x key o) F (look key (bz (d+1) x)) w):=by
 have hlen:=hw.len;have mK:=hw.kids;have R7:=wR hw hu;have hlx:x.ps.length<=1000:=by omega
 have hpos:=eU key x.ps;obtain⟨v,hv⟩:=fO hh
 have om:look key (bz (d+1) x)=some v:=by have hu2:=hu;rw[<-dS x]at hu2⊢;exact wN mK hu2 hh hv
 have qA:=al (find_ok w F a x key h.base R7 hlx);rw[hh]at qA;have hk:=dF (x:=x) (i:=posOf key x.ps) (by omega);have wk:=hw.2.2.2 _ (de hk);have wl:=(rE ho wk (by omega)).2;rw[Db hh,om];obtain⟨i,hi1⟩:=qt (posOf key x.ps);rw[hi1]at qA hpos hk wk wl hv⊢;obtain⟨⟨zk,zv⟩,hz⟩: ∃p,(fZ d (aV x i) o).2=p:=⟨_,rfl⟩;rw[hz];have abl:=(b8.1 hv).1;have hwp:fy (d+1) o lo hi (oM x i (zk,zv)):=⟨by simp[oM];omega,by simp[oM];omega,by simp[oM];omega,hw.2.2.2⟩;have rY:=jR hwp (i:=i) (by show i<x.ks.length;omega) (by rw[show o-1-1=o-2 by omega]at wl;exact wl);have HH:=al (ab h (ab hF (ab hk (ab wk (ab hv (ab rY (ab hlo (ab hhi hz))))))));clear h hF hw hlo hhi hu hh R7 hk wk wl rY hi1 hv hwp om;go_enter func125,ntmps125;go_wp2_with fail;refine qA.o.m ?_;rintro e w2 ⟨rfl,hb2⟩;have h2:=HH.o.1.below hb2;obtain⟨-,vp,vk,aA,H,hO,-⟩:=h2.open_;obtain⟨l,hl⟩: ∃y,aA[i]?=some y:=⟨_,ao (by rw[hO.2.2.2.2.1];omega)⟩;obtain⟨bk,ok,ck,e0,-,-,r1⟩:=hO.2.2.2.1.ptr hl;subst e0;obtain⟨bn,on,cn,e0,-,-,s0,s1,-⟩:=hO.2.2.1.pair HH.o.q.1;subst e0;obtain⟨nk,kJ⟩:=qt (aA.length);obtain⟨np,nS⟩:=qt (x.ps.length);have iA:=hO.2.2.2.2.1;have hin:=hO.2.2.2.1.Eb (i:=i) (by rw[iA];omega);rw[kJ]at hO iA;rw[nS]at hO;have hF2: ∀b q,F b q->b<w2.heap.size:=fun b q hh=>cq (HH.o.2.1 b q hh) hb2.size;have HA:=al (ab hO (ab hb2 (ab hF2 (ab hl (ab hin nS)))));obtain⟨⟨z0,z1⟩,-,-⟩:=af hO.1;have jy:=al (fq w2 a nk ck _ (by omega) z1);have j2:(0:Int)<=(i:Int):=by omega
 have j3:(i:Int)<(nk:Int):=by omega
 have j4:nk<=1001:=by omega
 have j5:(i:Int)<(np:Int):=by omega
 have tS:=ab z0 (ab z1 r1);clear qA h2 hO hb2 hF2 hl kJ iA hlen mK hlx hpos hin nS abl;go_wp2_with fail;refine jy.o.m ?_;rintro e w3 ⟨rfl,hw3⟩;subst hw3;go_wp2_with fail;refine jy.o.m ?_;rintro e w3 ⟨rfl,hw3⟩;subst hw3;clear jy;go_upto_region 11 with fail;clear z0 z1 r1 s0 s1;refine o0 (S:=(fun W=>W.cell? ⟨a,0,none⟩=some (.slice (some ⟨bn,on,none⟩) np cn)/\W.cell? ⟨a,1,none⟩=some (.slice (some ⟨bk,ok,none⟩) nk ck)/\W.cell? ⟨bk,ok+i,none⟩=some (.pointer (some ⟨l,0,none⟩)))) (by kernel_rfl) tS (fun ph=>?_);generalize hW3:World.drew w2=W3 at ph⊢;have hbW:Below w2.heap.size w2 W3:=hW3▸(aw _ _).drew;have HB:=al (ab (bg.below (d:=d+1) HA.o.1 hbW) hbW);clear hW3 tS hbW;refine aI [0,1,2,3,4,5,6,7,8,9,10,11,12] ?_
 iterate 13 (refine bO (v:=?_) (fun _ ⟨s0,s1,s2⟩=>?_) ph ?_;rotate_left;(go_simp;try rfl);try simp only[ai,aj,ak,ar])
 refine aJ ?_;refine aW 13 (fun K hK=>?_);go_simp;refine(Jq ho dY d W3 l (o-1) (2*o-1) (aV x i) (H (i+3)) (HB.o.1.2.2.2.2.2.1 i l _ HA.o.t.1 HH.o.d.1) (fun b q hh=>cq (HA.o.d.1 b q (HA.o.1.own.1 _ b q hh)) HB.o.2.size) HH.o.t.1 (by omega) (by omega)).m ?_;rintro e wn ⟨rfl,mB,rA⟩;have HK:=al (ab mB rA);clear mB rA;rw[HH.o.q.q];unfold Qu;simp only
 try go_simp
 refine hK.o _ _ (ic ph HK.o.2 (HA.o.1.own.2.1 0 (i+3) a 0 (by omega) (HA.o.1.2.1 0)) (HA.o.1.own.2.1 0 (i+3) a 1 (by omega) (HA.o.1.2.1 1)) (HA.o.1.own.2.1 2 (i+3) bk (ok+i) (by omega) HA.o.q.1)) ?_;clear hK K ph;intro ph
 try simp only[ai,aj,ak,ar]
 refine dR 14 (v:=?_) (fun wS hSw=>?_) ph ?_;rotate_left
 ·obtain⟨s0,s1,s2⟩:=hSw;go_simp;try rfl
 try simp only[ai,aj,ak,ar]
 refine aW 15 (fun K hK=>?_);have hs4:=(HB.o.1.2.2.1.only HK.o.2 (fun b q=>HA.o.1.own.2.1 1 (i+3) b q (by omega)));obtain⟨⟨c5,c6⟩,f5,f6⟩:=hs4.kK HH.o.q.1;go_simp;refine hK.o _ _ (ic ph ((HB.o.1.2.2.1.only HK.o.2 (fun b q=>HA.o.1.own.2.1 1 (i+3) b q (by omega))).fF (i:=i) zk zv (b8.1 HH.o.q.1).1).2 (fun hh=>HA.o.1.own.2.2 1 a 0 (by decide) hh rfl) (fun hh=>HA.o.1.own.2.2 1 a 1 (by decide) hh rfl) (fun hh=>HA.o.1.own.2.1 1 2 bk (ok+i) (by decide) hh HA.o.q.1)) ?_;clear hK K ph hs4 c5 c6 f5 f6;intro ph
 try simp only[ai,aj,ak,ar]
 refine pb (by kernel_rfl) ?_ _;clear ph;have hr:=HB.o.1.IX (fun b q hh=>cq (HA.o.d.1 b q hh) HB.o.2.size) HH.o.d.1 HA.o.t.1 HK.o.2 HK.o.1;obtain⟨-,vp5,vk5,ach,H5,iA,-⟩:=hr.1.bound.open_;have hae:=HK.o.2.heap HB.o.1.1 (fun q hh=>HA.o.1.own.2.1 0 (i+3) a q (by omega) (HA.o.1.2.1 q) hh);have hee:=iA.1.symm.x hae;simp only[fl,Obj.cells.injEq,Array.mk.injEq,List.cons.injEq,and_true]at hee;obtain⟨e5,e6⟩:=hee;subst e5;have hsp:=iA.2.2.1.fF (i:=i) zk zv (b8.1 HH.o.q.1).1;have hrp:=iA.pP (w':=((wn.setCell ⟨bn,on+i*2,none⟩ (.string ⟨zk.toArray⟩)).setCell ⟨bn,on+i*2+1,none⟩ (.string ⟨zv.toArray⟩))) (fun e=>by omega) (fun b q hh=>hh.2) (hsp.2.heap iA.1 (fun q hh=>iA.own.2.1 1 0 a q (by decide) hh (iA.2.1 q))) (hsp.2.m (fun _ _ _ hh=>.inl hh)) (hsp.1.m (fun _ _ hh=>.inl hh));generalize ((wn.setCell ⟨bn,on+i*2,none⟩ (.string ⟨zk.toArray⟩)).setCell ⟨bn,on+i*2+1,none⟩ (.string ⟨zv.toArray⟩))=w4 at hrp⊢;have hb4:=hrp.1.bound;have HM:=al (Cb w4 d a i o lo hi _ _ hb4 (fun b q hh=>hh.2) HH.o.q.2.1 HH.o.q.d.1 HH.o.q.t.1 ho dY);have H4:=al (ab hr.2 (ab hrp.2 hb4));clear hr iA hae e6 hsp hrp hb4;go_wp2_with fail;refine HM.o.m ?_;rintro e w5 ⟨rfl,NT,jr⟩;have H5:=al (ab NT jr);clear HM NT jr;go_wp2_with fail
 go_ret2
 have h6:=HA.o.2.1.size;have h7:=H4.o.1.size;have h8:=H4.o.2.1.size;have h9:=HB.o.2.size;have oA:OnlyC F w w4:=(((oy HA.o.2.1 F).x (oy HB.o.2 F) (fun _ _ _ h=>h)).x H4.o.1 (fun _ _ _ h=>h)).x H4.o.2.1 (fun b q hb hh=>hh.1.elim id (fun h=>by omega));refine⟨rfl,H5.o.1.m (fun b q hh=>?_),oA.x H5.o.2 (fun b q hb hh=>hh.1.elim (fun h=>h.1.elim id (fun h=>by omega)) (fun h=>by omega))⟩;rcases hh with hh|hh
 ·rcases hh.1 with hh|hh
  ·exact hh.1.imp id (fun h=>by omega)
  ·exact .inr (by omega)
 ·exact .inr (by omega)
theorem Oc{o:Nat}(ho:2<=o)(dY:o<=16)(key:List UInt8): ∀d,Oa d o key
 |0=>Ob o key
 |d+1=>fun w a lo hi x F h hF hw hlo hhi hu=>by
  have Zf:1<=lo:=by rcases hlo with h|h;exact h;omega
  by_cases hh:hit key x.ps=true
  ·exact R8 d o key ho dY w a lo hi x F h hF hw Zf hhi hu hh
  ·simp only[Bool.not_eq_true]at hh;exact VM d o key (Oc ho dY key d) ho dY w a lo hi x F h hF hw Zf hhi hu hh
def Od(T o:Nat)(l:List Pr)(key:List UInt8)(F:Nat->Nat->Prop)(w:World)(e:Ending)(w':World):Prop:=
 e=.returned (.tuple #[.string ⟨((look key l).getD []).toArray⟩,.int .i64 (if(look key l).isSome then 0 else 14)])/\bM w' T o (del key l) (fun b q=>F b q\/w.heap.size<=b)/\OnlyC F w w'
theorem vL{w W9:World}{T o d r:Nat}{l:List Pr}{y:ND}{F K9:Nat->Nat->Prop}{key:List UInt8}{cnt:Int}(hup:Up l)(ho:2<=o)(dY:o<=16)(qi: ∀q,F T q)
  (k9:W9.heap[T]?=some (.cells #[.int .i64 o,.int .i64 cnt,.pointer (some ⟨r,0,none⟩)] 187 (0,0))) (VD:cnt=(del key l).length) (hn:ay W9 d r y K9) (hK: ∀b q,K9 b q->F b q\/w.heap.size<=b) (R3: ∀q,¬K9 T q)
  (hwf:fy d o (if d=0 then 0 else 1) (2*o-1) y) (htl:bz d y=del key l):bM W9 T o (del key l) (fun b q=>F b q\/w.heap.size<=b):=by
 subst VD;exact⟨d,r,y,K9,k9,hn,hwf,htl,by rw[del_eq];exact gG hup,⟨ho,dY⟩,hK,fun q=>.inl (qi q),R3⟩
theorem Aq{o:Nat}(key:List UInt8): ∀{d lo hi:Nat} {x:ND},fy d o lo hi x->Up (bz d x)->look key (bz d x)=none->nz d x key o=x
 |0,lo,hi,x,hw,hu,hl=>by
  by_cases hh:hit key x.ps=true
  ·obtain⟨v,hv⟩:=fO hh;have h1:look key x.ps=some v:=sU hv;rw[show look key (bz 0 x)=look key x.ps from rfl,h1]at hl;cases hl
  ·exact wM (by simpa using hh)
 |d+1,lo,hi,x,hw,hu,hl=>by
  have mK:=hw.kids;have hpos:=eU key x.ps;have hk:=dF (x:=x) (i:=posOf key x.ps) (by omega);have hu2:=hu;rw[<-dS x]at hu2;by_cases hh:hit key x.ps=true
  ·obtain⟨v,hv⟩:=fO hh;have h1:=wN mK hu2 hh hv;rw[dS,hl]at h1;cases h1
  ·simp only[Bool.not_eq_true]at hh;have h1:=BA mK hu2 hh hk;rw[dS,hl]at h1;have wk:=hw.2.2.2 _ (de hk);have ih:=Aq key wk (Up.kid mK hu2 hk) h1.symm
   have hs:qL x (posOf key x.ps) (aV x (posOf key x.ps))=x:=by unfold qL;rw[<-ed hk,dS]
   rw[Bx hh,ih,hs];unfold jD;rw[fi wk.len.1]
theorem Ce{key:List UInt8}{l:List Pr}(h:(look key l).isSome=false):(del key l)=l:=by
 rw[del_eq];refine iM ?_;rw[look_eq]at h
 cases e:au key l with
 |none=>rfl
 |some v=>rw[e]at h;simp at h
theorem Cf{key:List UInt8}{l:List Pr}(h:(look key l).isSome=true):(del key l).length+1=l.length:=by
 rw[del_eq];rw[look_eq]at h
 cases e:au key l with
 |none=>rw[e]at h;simp at h
 |some v=>exact wP e
theorem Gy(w:World)(T o:Nat)(l:List Pr)(F:Nat->Nat->Prop)(key:List UInt8)(h:bM w T o l F)(hF: ∀b q,F b q->b<w.heap.size)(hk1:1<=key.length)(hk2:key.length<=64)(hl:l.length<=1000000):
  Calls prog 84 #[.pointer (some ⟨T,0,none⟩),.string ⟨key.toArray⟩] w (Od T o l key F w):=by
 obtain⟨d,r,x,KK,k0,hn,hwf,htl,hup,⟨ho,dY⟩,YZ,qi,R3⟩:=h;obtain⟨⟨t0,-,t2⟩,-,-⟩:=eY k0;have tS:=ab t0 t2;have HC:=al (nB w T ⟨key.toArray⟩ (by exact hk1) (by exact hk2));have VO:=Bz ho key hwf (by by_cases e:d=0;exact .inr e;exact .inl (by rw[ff e];exact aE _)) (by rw[htl];exact hup);rw[htl]at VO;have K1:=al VO;have HA:=al (ab k0 (ab hn (ab hwf (ab htl (ab hup (ab ho (ab dY (ab YZ (ab qi (ab R3 (ab hF hl)))))))))));clear k0 hn hwf htl hup ho dY YZ qi R3 hF hl hk1 hk2 t0 t2 VO;go_enter func84,ntmps84;go_wp2_with fail;refine HC.o.m ?_;rintro e w1 ⟨rfl,hw1⟩;obtain rfl:w=w1:=hw1.symm;clear HC;go_upto_region 4 with fail;refine o0 (S:=(fun W=>W.cell? ⟨T,0,none⟩=some (.int .i64 o)/\W.cell? ⟨T,2,none⟩=some (.pointer (some ⟨r,0,none⟩)))) (by kernel_rfl) tS (fun ph=>?_);generalize hW3:World.drew w=W3 at ph⊢;have HB:=al (show ay W3 d r x KK/\W3.heap[T]?=some (.cells #[.int .i64 o,.int .i64 l.length,.pointer (some ⟨r,0,none⟩)] 187 (0,0))/\Below w.heap.size w W3 from hW3▸⟨HA.o.2.1.below (aw _ _).drew,HA.o.1,(aw _ _).drew⟩);clear hW3 tS;refine aI [0,1,2,3,4,5,6,7,8] ?_
 iterate 9 (refine bO (v:=?_) (fun _ ⟨s0,s1⟩=>?_) ph ?_;rotate_left;(go_simp;try rfl);try simp only[ai,aj,ak,ar])
 refine aJ ?_;refine aW 9 (fun K hK=>?_);go_simp;refine(Oc HA.o.q.2.1 HA.o.q.d.1 key d W3 r _ _ x KK HB.o.1 (fun b q hh=>cq (HA.o.q.q.d.1 b q (HA.o.q.t.1 b q hh)) HB.o.d.size) HA.o.d.1 (by by_cases e:d=0;exact .inr e;exact .inl (by rw[ff e];exact aE _)) (by have:=HA.o.q.d.1;omega) (by rw[HA.o.t.1];exact HA.o.q.1)).m ?_;rintro e wn ⟨rfl,Ub,how⟩;have HK:=al (ab Ub how);clear Ub how;rw[HA.o.t.1]
 try go_simp
 refine hK.o _ _ (dK ph HK.o.2 (HA.o.q.q.2.1 0) (HA.o.q.q.2.1 2)) ?_;clear hK K ph;intro ph
 try simp only[ai,aj,ak,ar]
 refine aI [10,11,12,13,14] ?_
 iterate 5 (refine bO (v:=?_) (fun _ ⟨s0,s1⟩=>?_) ph ?_;rotate_left;(go_simp;try rfl);try simp only[ai,aj,ak,ar])
 refine aJ ?_;refine pb (by kernel_rfl) ?_ _;clear ph;obtain⟨b0,hb0⟩:=qt ((look key l).isSome);obtain⟨s0,hs0⟩:=qt ((⟨((look key l).getD []).toArray⟩:ByteArray));rw[hs0,hb0];have lV:=al (ab hs0 hb0);clear hs0 hb0;have k4:=HK.o.2.heap HB.o.2.1 HA.o.q.q.2.1;have VE:OnlyC F w wn:=(oy HB.o.d F).x HK.o.2 (fun b q _ hh=>HA.o.q.t.1 b q hh);have Uc:T<w.heap.size:=oE HA.o.1;have oH:=al Uc;clear Uc;have Zg: ∀q,¬(KK T q\/W3.heap.size<=T):=fun q hh=>hh.elim (HA.o.q.q.2.1 q) (fun h=>by have:=oH.o;have:=HB.o.d.size;omega);have H4:=al (ab k4 (ab VE Zg));clear k4 VE Zg
 cases b0 with
 |false=>
  go_wp2_with fail
  go_ret2
  have hdn:=Ce lV.o.2;have hnone:look key l=none:=by cases e:look key l with|none=>rfl|some v=>have h1:=lV.o.2;rw[e]at h1;simp at h1
  have hsame:=Aq (o:=o) key HA.o.d.1 (by rw[HA.o.t.1];exact HA.o.q.1) (by rw[HA.o.t.1];exact hnone);have hnd:=HK.o.1;rw[hsame]at hnd;have hte:=vL (F:=F) (w:=w) (cnt:=(l.length:Int)) HA.o.q.1 HA.o.q.2.1 HA.o.q.d.1 HA.o.q.q.1 H4.o.1 (by rw[hdn]) hnd (fun b q hh=>hh.elim (fun h=>.inl (HA.o.q.t.1 b q h)) (fun h=>.inr (da HB.o.d.size h))) H4.o.d HA.o.d.1 (by rw[hdn];exact HA.o.t.1);refine⟨?_,hte,H4.o.2.1⟩;rw[hnone];rfl
 |true=>
  obtain⟨⟨-,t1,-⟩,tf1,-⟩:=eY H4.o.1;have il:(l.length:Int)<=1000000:=by have:=HA.o.q.q.t;omega
  have hds:=Cf lV.o.2;have il2:(1:Int)<=(l.length:Int):=by omega
  have HDS:=al hds;clear hds;go_upto_region 8 with fail;have k5:=Jl H4.o.1 (.int .i64 ((l.length:Int)-1));have Ud:=(HK.o.1.only (OnlyC.aN wn T 1 (.int .i64 ((l.length:Int)-1))) (fun b q hh e=>by have e1:=e.1;rw[e1]at hh;exact H4.o.d q hh)).bound;have VH:=H4.o.2.1.x (OnlyC.aN wn T 1 (.int .i64 ((l.length:Int)-1))) (fun b q _ e=>by obtain⟨rfl,rfl⟩:=e;exact HA.o.q.q.1 _);clear t1 tf1;generalize wn.setCell ⟨T,1,none⟩ (.int .i64 ((l.length:Int)-1))=W9 at k5 Ud VH⊢;obtain⟨hd0,vp3,vk3,D8,H3,hO,-⟩:=Ud.open_;obtain⟨A3,c3,e3,-⟩:=hO.2.2.1.slice;rw[fa]at e3;subst e3;obtain⟨A4,c4,e4,-⟩:=hO.2.2.2.1.slice;rw[fa]at e4;subst e4;obtain⟨n3,mB⟩:=qt ((nz d x key o).ps.length);obtain⟨nk,kJ⟩:=qt (D8.length);rw[mB,kJ]at hO;obtain⟨⟨z0,z1⟩,-,-⟩:=af hO.1;obtain⟨⟨-,-,t2⟩,-,tf2⟩:=eY k5;have HX:=al (ab k5 (ab Ud (ab VH (ab hd0 (ab hO (ab mB kJ))))));have hres:look key l=some ((look key l).getD []):=by cases e:look key l with|none=>have h1:=lV.o.2;rw[e]at h1;simp at h1|some v=>rfl
  have Gq:=al hres;clear k5 Ud VH hd0 hO mB hres;by_cases hz:n3=0
  ·subst hz;by_cases hk:nk=0
   ·have Zh:d=0:=by
     cases d with
     |zero=>rfl
     |succ d1=>have h1:=K1.o.2.kids;have h2:=HX.o.q.1.2.2.2.2.1;have h3:=HX.o.q.d;have h4:=HX.o.q.2.1;omega
    have HD:=al Zh;subst hk;have HL:=al (dZ W9 r c4 A4 z1);clear Zh;go_wp2_with fail;refine HL.o.m ?_;rintro e wL ⟨rfl,Zi⟩;subst Zi;go_wp2_with fail
    go_ret2
    have hte:=vL (F:=F) (w:=w) (cnt:=(l.length:Int)-1) HA.o.q.1 HA.o.q.2.1 HA.o.q.d.1 HA.o.q.q.1 HX.o.1 (by have:=HDS.o;omega) HX.o.2.1 (fun b q hh=>hh.1.elim (fun h=>.inl (HA.o.q.t.1 b q h)) (fun h=>.inr (da HB.o.d.size h))) (fun q hh=>H4.o.d q hh.1) (K1.o.2.re (by rw[fi (HD.o)];exact dq _) K1.o.2.len.2) K1.o.1;exact⟨by rw[lV.o.1,lV.o.2];rfl,hte,HX.o.d.1⟩
   ·obtain⟨d1,rfl⟩: ∃d1,d=d1+1:=by
     cases d with
     |zero=>exfalso;have h1:=K1.o.2.none;have h2:=HX.o.q.1.2.2.2.2.1;have h3:=HX.o.q.d;rw[h1]at h2;simp at h2;subst h2;simp at h3;omega
     |succ d1=>exact⟨d1,rfl⟩
    obtain⟨l0,hl0⟩: ∃y,D8[0]?=some y:=⟨_,ao (by have:=HX.o.q.d;omega)⟩;obtain⟨k9,I9⟩: ∃y,(nz (d1+1) x key o).ks[0]?=some y:=⟨_,ao (by have:=K1.o.2.kids;omega)⟩;obtain⟨bk,ok,ck,e5,-,-,r1⟩:=HX.o.q.1.2.2.2.1.ptr hl0;simp only[ie]at e5;obtain⟨rfl,-,rfl⟩:=e5;rw[my]at r1;have cY:=al (ab hl0 I9);have j1:(0:Int)<(nk:Int):=by omega
    have j2:nk<=1000000:=by have h1:=K1.o.2.kids;have h2:=HX.o.q.1.2.2.2.2.1;have h3:=HX.o.q.d;have h4:=HX.o.q.2.1;omega
    have HL:=al (fq W9 r nk c4 _ (by omega) z1);clear hl0 I9 hk;go_wp2_with fail;refine HL.o.m ?_;rintro e wL ⟨rfl,Zi⟩;subst Zi;go_wp2_with fail
    go_ret2
    have abm:=HX.o.q.1.2.2.2.2.2.1 0 l0 k9 cY.o.1 cY.o.2;have hwk:=K1.o.q k9 (de cY.o.2);have Oe:=fun b q (hh:H3 3 b q)=>HX.o.q.1.own.1 3 b q hh;have Zj:=(show ay W9 d1 l0 k9 (H3 3)from abm).only (OnlyC.aN W9 T 2 (.pointer (some ⟨l0,0,none⟩))) (fun b q hh e=>by have e1:=e.1;rw[e1]at hh;exact H4.o.d q (Oe _ q hh).1)
    have hks:(nz (d1+1) x key o).ks=[k9]:=by
     have h1:=K1.o.2.kids;have h4:=HX.o.q.2.1;rw[h4]at h1
     match hq:(nz (d1+1) x key o).ks,h1 with
     |[y],_=>have h5:=cY.o.2;rw[hq]at h5;simpa using h5
    have abn:bz d1 k9=del key l:=by rw[<-K1.o.1];have hps:(nz (d1+1) x key o).ps=[]:=dj HX.o.q.2.1;show _=flat ((nz (d1+1) x key o).ks.map (bz d1)) (nz (d1+1) x key o).ps;rw[hks,hps];rfl
    have hte:=vL (F:=F) (w:=w) (cnt:=(l.length:Int)-1) HA.o.q.1 HA.o.q.2.1 HA.o.q.d.1 HA.o.q.q.1 (BW HX.o.1 (.pointer (some ⟨l0,0,none⟩))) (by have:=HDS.o;omega) Zj (fun b q hh=>(Oe b q hh).1.elim (fun h=>.inl (HA.o.q.t.1 b q h)) (fun h=>.inr (da HB.o.d.size h))) (fun q hh=>H4.o.d q (Oe _ q hh).1) (hwk.re (by have h1:=hwk.len.1;have:=HA.o.q.2.1;split<;>omega) hwk.len.2) abn;exact⟨by rw[lV.o.1,lV.o.2];rfl,hte,HX.o.d.1.x (OnlyC.aN W9 T 2 _) (fun b q _ e=>by obtain⟨rfl,rfl⟩:=e;exact HA.o.q.q.1 _)⟩
  ·have hz2:((n3:Int)==0)=false:=by rw[beq_eq_false_iff_ne];omega
   have HZ:=al hz;go_wp2_with fail
   go_ret2
   have hte:=vL (F:=F) (w:=w) (cnt:=(l.length:Int)-1) HA.o.q.1 HA.o.q.2.1 HA.o.q.d.1 HA.o.q.q.1 HX.o.1 (by have:=HDS.o;omega) HX.o.2.1 (fun b q hh=>hh.1.elim (fun h=>.inl (HA.o.q.t.1 b q h)) (fun h=>.inr (da HB.o.d.size h))) (fun q hh=>H4.o.d q hh.1) (K1.o.2.re (by have h1:=HX.o.q.2.1;have h2:=HZ.o;split<;>omega) K1.o.2.len.2) K1.o.1;exact⟨by rw[lV.o.1,lV.o.2];rfl,hte,HX.o.d.1⟩
def xR:Nat->World->Value->Nat
 |0,_,_=>0
 |f+1,w,.pointer (some ⟨p,_,_⟩)=>match w.cell? ⟨p,1,none⟩with
  |some (.slice (some ad) (_+1) _)=>match w.cell? ad with
   |some q=>xR f w q+1
   |none=>0
  |_=>0
 |_+1,_,_=>0
theorem mL{w:World}{o:Nat}: ∀(d f lo:Nat) (p:Nat) (x:ND) (K:Nat->Nat->Prop),ay w d p x K->fy d o lo (2*o-1) x->d<=f->xR f w (.pointer (some ⟨p,0,none⟩))=d
 |0,0,_,_,_,_,_,_,_=>rfl
 |0,f+1,lo,p,x,K,h,hw,_=>by
  obtain⟨hd0,vp,vk,aA,H,hO,_⟩:=h.open_;have hp0:aA=[]:=dj (by rw[hO.2.2.2.2.1,hd0 rfl];rfl);subst hp0;obtain⟨A,c,e,_⟩:=hO.2.2.2.1.slice;have e:vk=.slice A 0 c:=by simpa using e
  subst e;have z1:=(af hO.1).1.2;simp only[xR,z1]
 |d+1,0,_,_,_,_,_,_,hf=>by omega
 |d+1,f+1,lo,p,x,K,h,hw,hf=>by obtain⟨hd0,vp,vk,aA,H,hO,_⟩:=h.open_;have hkl:=hw.kids;obtain⟨k,hk⟩: ∃k,x.ks[0]?=some k:=⟨_,ao (by omega)⟩;obtain⟨l,hl⟩: ∃l,aA[0]?=some l:=⟨_,ao (by rw[hO.2.2.2.2.1];omega)⟩;obtain⟨b,off,c,rfl,_,_,r2⟩:=hO.2.2.2.1.ptr hl;have z1:=(af hO.1).1.2;have ih:=mL d f _ l k _ (show ay w d l k _ from hO.2.2.2.2.2.1 0 l k hl hk) (hw.2.2.2 k (de hk)) (by omega);obtain⟨n,hn⟩: ∃n,aA.length=n+1:=⟨aA.length-1,by have:=(b8.1 hl).1;omega⟩;rw[hn]at z1;rw[my]at r2;simp only[xR,z1,r2,ih]
def Zk(c:Option Pr):List UInt8:=(c.map Prod.fst).getD []
def Zl(c:Option Pr):List UInt8:=(c.map Prod.snd).getD []
def XB(c:Option Pr):Int:=if c.isSome then 0 else 14
def Uj(o d0:Nat)(key:List UInt8)(l:List Pr)(w:World)(k v e q:Value)(wr:World):Prop:=
 ∃(d p lo:Nat) (x:ND) (KK:Nat->Nat->Prop) (c:Option Pr),k=.string ⟨(Zk c).toArray⟩/\v=.string ⟨(Zl c).toArray⟩/\e=.int .i64 (XB c)/\q=.pointer (some ⟨p,0,none⟩)/\ay wr d p x KK/\fy d o lo (2*o-1) x/\Up (bz d x)/\(ceil key (bz d x)).or c=ceil key l/\Below w.heap.size w wr/\d<=d0
def Zm(key:List UInt8)(l:List Pr)(w:World)(e:Ending)(w':World):Prop:=
 e=.returned (.tuple #[.string ⟨(Zk (ceil key l)).toArray⟩,.string ⟨(Zl (ceil key l)).toArray⟩,.int .i64 (XB (ceil key l))])/\Below w.heap.size w w'
theorem xS{o d:Nat}{key:List UInt8}{x:ND}{lo:Nat}(hw:fy d o lo (2*o-1) x)(hu:Up (bz d x))(h:d=0\/hit key x.ps=true):ceil key (bz d x)=x.ps[posOf key x.ps]?:=by
 cases d with
 |zero=>exact mD _
 |succ d=>
  rcases h with h|h
  ·omega
  ·rw[<-dS x]at hu⊢;exact C3 hw.kids hu h
theorem Au{o d:Nat}{key:List UInt8}{x k:ND}{lo:Nat}(hw:fy (d+1) o lo (2*o-1) x)(hu:Up (bz (d+1) x))(hk:x.ks[posOf key x.ps]?=some k)(c:Option Pr):(ceil key (bz (d+1) x)).or c=(ceil key (bz d k)).or (x.ps[posOf key x.ps]?.or c):=by have:=Bu (d:=d) (ps:=x.ps) (ks:=x.ks) hw.kids (by rw[dS];exact hu) hk;rw[dS]at this;rw[this,Option.or_assoc]
theorem Jr(w:World)(T o:Nat)(l:List Pr)(F:Nat->Nat->Prop)(key:List UInt8)(h:bM w T o l F):Calls prog 114 #[.pointer (some ⟨T,0,none⟩),.string ⟨key.toArray⟩] w (Zm key l w):=by
 obtain⟨d0,r,x0,K0,k0,hn0,Zn,VP,Zo,⟨ho,dY⟩,-,-,-⟩:=h;have c2:w.cell? ⟨T,2,none⟩=some (.pointer (some ⟨r,0,none⟩)):=by simp[World.cell?,k0]
 have H0:=al (show Uj o d0 key l w (.string ⟨#[]⟩) (.string ⟨#[]⟩) (.int .i64 14) (.pointer (some ⟨r,0,none⟩)) w from⟨d0,r,_,x0,K0,none,rfl,rfl,rfl,rfl,hn0,Zn,VP▸Zo,by rw[VP,Option.or_none],aw _ _,aE _⟩);clear k0 hn0 Zn VP Zo ho;go_enter func114,ntmps114;go_wp2_with fail
 go_step3
 go_wp2_with fail
 go_step3
 go_wp2_with fail
 go_loopw [4,5,6,7] (fun k v e q wr=>Uj o d0 key l w k v e q wr) (fun _ _ _ q wr=>xR d0 wr q)
 case atStart=>exact H0.o
 case round=>
  obtain⟨d,p,lo,x,KK,c,rfl,rfl,rfl,rfl,hn,hw,hu,hce,hb,hd⟩:=hrel;have hlen:x.ps.length<=1000:=by have:=hw.len;omega
  have HF:=al (find_ok wr KK p x key hn.base (wR hw hu) hlen);have hpos:=eU key x.ps;obtain⟨i,hi⟩:=qt (posOf key x.ps);rw[hi]at HF hpos;have HR:=al (ab hn (ab hw (ab hu (ab hce (ab hb (ab hd hi))))));clear hn hw hu hce hb hd hi;go_wp2_with fail;refine HF.o.m ?_;rintro e w2 ⟨rfl,hb2⟩;clear HF;have oC:=HR.o.1.below hb2;obtain⟨hd0,vp,vk,aA,H,hO,-⟩:=oC.open_;obtain⟨A,cp,e1,-⟩:=hO.2.2.1.slice;rw[fa]at e1;subst e1;obtain⟨A2,ck,e2,-⟩:=hO.2.2.2.1.slice;rw[fa]at e2;subst e2;obtain⟨nk,kJ⟩:=qt (aA.length);rw[kJ]at hO;obtain⟨⟨z0,z1⟩,-,-⟩:=af hO.1;have H2:=al (ab oC (ab hd0 (ab hO (ab hb2 kJ))));obtain⟨n,hnn⟩:=qt (x.ps.length);rw[hnn]at z0 hpos;have HN:=al hnn;clear oC hd0 hO hb2 kJ hnn;by_cases hlt:i<n
  ·obtain⟨pr,hp⟩: ∃pr,x.ps[posOf key x.ps]?=some pr:=⟨_,ao (by rw[HR.o.q.d,HN.o];exact hlt)⟩;have HC:=al hp;have hp2:=hp;rw[HR.o.q.d]at hp2;obtain⟨b,off,Zp,e1,-,-,y0,y1,-⟩:=H2.o.d.1.2.2.1.pair hp2;rw[HN.o]at e1;simp only[ie,true_and]at e1;obtain⟨rfl,rfl⟩:=e1;have i1:(0:Int)<=(i:Int):=by omega
   have i3:(i:Int)<(n:Int):=by omega
   obtain⟨bh,hbh⟩:=qt (hit key x.ps);have HB:=al hbh;rw[hbh];clear hp hp2 hbh
   cases bh with
   |true=>
    go_wp2_with fail;go_quiet(fail);go_wp2_with fail;rw[kn]
    go_ret3
    obtain⟨hn,hw,hu,hce,hb,hd,hi⟩:=HR.o;have hE:=xS (key:=key) hw hu (.inr HB.o);rw[HC.o]at hE;rw[hE]at hce;have hce:(some pr).or c=ceil key l:=hce;refine⟨by rw[<-hce];rfl,?_⟩;exact HR.o.q.1.x (Below.m (aG H2.o.t.1 _) HR.o.q.1.size)
   |false=>
    clear HB;go_wp2_with fail;go_quiet(fail);by_cases R9:d=0
    ·have eQ:nk=0:=by rw[<-H2.o.q,H2.o.d.1.2.2.2.2.1,H2.o.2.1 R9];rfl
     subst eQ;have HL:=al (dZ (w2.drewN nq) p ck A2 (by exact z1));have HD:=al R9;clear R9 z1;go_wp2_with fail;refine HL.o.m ?_;rintro e w3 ⟨rfl,hw3⟩;have HW3:=al hw3;clear hw3;go_wp2_with fail;rw[kn]
     go_ret3
     obtain⟨hn,hw,hu,hce,hb,hd,hi⟩:=HR.o;have hE:=xS (key:=key) hw hu (.inl HD.o);rw[HC.o]at hE;rw[hE]at hce;have hce:(some pr).or c=ceil key l:=hce;refine⟨by rw[<-hce];rfl,?_⟩;exact HR.o.q.1.x (Below.m (HW3.o▸(aG H2.o.t.1 _)) HR.o.q.1.size)
    ·obtain⟨d1,rfl⟩: ∃d1,d=d1+1:=⟨d-1,by omega⟩;have hkl:=HR.o.2.1.kids;have hik:i<x.ks.length:=by rw[hkl,HN.o];omega
     obtain⟨k,hk⟩: ∃k,x.ks[i]?=some k:=⟨_,ao hik⟩;obtain⟨l2,hl⟩: ∃y,aA[i]?=some y:=⟨_,ao (by rw[H2.o.d.1.2.2.2.2.1];exact hik)⟩;have YY:i<nk:=by rw[<-H2.o.q,H2.o.d.1.2.2.2.2.1];exact hik
     obtain⟨bk,ok,ck2,e2,-,-,r2⟩:=H2.o.d.1.2.2.2.1.ptr hl;simp only[H2.o.q,ie,true_and]at e2;obtain⟨rfl,rfl⟩:=e2;have D6:nk<=1001:=by rw[<-H2.o.q,H2.o.d.1.2.2.2.2.1,hkl];omega
     have HL:=al (fq (w2.drewN nq) p nk ck _ (by omega) (by exact z1));have HK:=al (ab hk hl);clear hk hl hkl hik R9;have i1:(0:Int)<=(i:Int):=by omega
     have i2:(i:Int)<(nk:Int):=by omega
     go_wp2_with fail;refine HL.o.m ?_;rintro e w3 ⟨rfl,hw3⟩;subst hw3;go_wp2_with fail;go_roundw
     case rel=>
      obtain⟨hn,hw,hu,hce,hb,hd,hi⟩:=HR.o;refine⟨d1,l2,_,k,_,(some pr),rfl,rfl,rfl,rfl,(show ay w2 d1 l2 k _ from H2.o.d.1.2.2.2.2.2.1 i l2 k HK.o.2 HK.o.1).below ?_,hw.2.2.2 k (de HK.o.1),Up.kid hw.kids (by rwa[<-dS x]at hu) HK.o.1,?_,hb.x (Below.m (aG H2.o.t.1 _) hb.size),by omega⟩
      ·exact aG (aw _ _) _
      ·rw[Au hw hu (by rw[hi];exact HK.o.1),HC.o]at hce;exact hce
     case measure=>obtain⟨hn,hw,hu,hce,hb,hd,hi⟩:=HR.o;rw[mL (o:=o) (d1+1) d0 _ p x KK hn hw hd];rw[mL (o:=o) d1 d0 _ l2 k _ (ay.below (show ay w2 d1 l2 k _ from H2.o.d.1.2.2.2.2.2.1 i l2 k HK.o.2 HK.o.1) (aG (Below.refl _ _) _)) (hw.2.2.2 k (List.mem_of_getElem? HK.o.1)) (by omega)];omega
  ·have yX:x.ps[posOf key x.ps]?=none:=List.getElem?_eq_none (by rw[HR.o.q.d,HN.o];omega);have hnh:hit key x.ps=false:=by unfold hit;rw[yX]
   have HC:=al yX;have i3: ¬(i:Int)<(n:Int):=by omega
   rw[hnh];clear yX hnh hlt;by_cases R9:d=0
   ·have eQ:nk=0:=by rw[<-H2.o.q,H2.o.d.1.2.2.2.2.1,H2.o.2.1 R9];rfl
    subst eQ;have HL:=al (dZ (w2) p ck A2 (by exact z1));have HD:=al R9;clear R9 z1;go_wp2_with fail;refine HL.o.m ?_;rintro e w3 ⟨rfl,hw3⟩;have HW3:=al hw3;clear hw3;go_wp2_with fail;rw[kn]
    go_ret3
    obtain⟨hn,hw,hu,hce,hb,hd,hi⟩:=HR.o;have hE:=xS (key:=key) hw hu (.inl HD.o);rw[HC.o]at hE;rw[hE]at hce;have hce:(none:Option Pr).or c=ceil key l:=hce;refine⟨by rw[<-hce];rfl,?_⟩;exact HR.o.q.1.x (Below.m (HW3.o▸H2.o.t.1) HR.o.q.1.size)
   ·obtain⟨d1,rfl⟩: ∃d1,d=d1+1:=⟨d-1,by omega⟩;have hkl:=HR.o.2.1.kids;have hik:i<x.ks.length:=by rw[hkl,HN.o];omega
    obtain⟨k,hk⟩: ∃k,x.ks[i]?=some k:=⟨_,ao hik⟩;obtain⟨l2,hl⟩: ∃y,aA[i]?=some y:=⟨_,ao (by rw[H2.o.d.1.2.2.2.2.1];exact hik)⟩;have YY:i<nk:=by rw[<-H2.o.q,H2.o.d.1.2.2.2.2.1];exact hik
    obtain⟨bk,ok,ck2,e2,-,-,r2⟩:=H2.o.d.1.2.2.2.1.ptr hl;simp only[H2.o.q,ie,true_and]at e2;obtain⟨rfl,rfl⟩:=e2;have D6:nk<=1001:=by rw[<-H2.o.q,H2.o.d.1.2.2.2.2.1,hkl];omega
    have HL:=al (fq (w2) p nk ck _ (by omega) (by exact z1));have HK:=al (ab hk hl);clear hk hl hkl hik R9;have i1:(0:Int)<=(i:Int):=by omega
    have i2:(i:Int)<(nk:Int):=by omega
    go_wp2_with fail;refine HL.o.m ?_;rintro e w3 ⟨rfl,hw3⟩;obtain rfl:w2=w3:=hw3;go_wp2_with fail;go_roundw
    case rel=>
     obtain⟨hn,hw,hu,hce,hb,hd,hi⟩:=HR.o;refine⟨d1,l2,_,k,_,c,rfl,rfl,rfl,rfl,(show ay w2 d1 l2 k _ from H2.o.d.1.2.2.2.2.2.1 i l2 k HK.o.2 HK.o.1).below ?_,hw.2.2.2 k (de HK.o.1),Up.kid hw.kids (by rwa[<-dS x]at hu) HK.o.1,?_,hb.x (Below.m H2.o.t.1 hb.size),by omega⟩
     ·exact aw _ _
     ·rw[Au hw hu (by rw[hi];exact HK.o.1),HC.o]at hce;exact hce
    case measure=>obtain⟨hn,hw,hu,hce,hb,hd,hi⟩:=HR.o;rw[mL (o:=o) (d1+1) d0 _ p x KK hn hw hd];rw[mL (o:=o) d1 d0 _ l2 k _ (ay.below (show ay w2 d1 l2 k _ from H2.o.d.1.2.2.2.2.2.1 i l2 k HK.o.2 HK.o.1) (Below.refl _ _)) (hw.2.2.2 k (List.mem_of_getElem? HK.o.1)) (by omega)];omega
def Og(key:List UInt8)(l:List Pr)(w:World)(e:Ending)(w':World):Prop:=
 e=.returned (.tuple #[.string ⟨((look key l).getD []).toArray⟩,.int .i64 (if(look key l).isSome then 0 else 14)])/\Below w.heap.size w w'
theorem Gz(w:World)(T o:Nat)(l:List Pr)(F:Nat->Nat->Prop)(key:List UInt8)(h:bM w T o l F)(hk1:1<=key.length)(hk2:key.length<=64):Calls prog 75 #[.pointer (some ⟨T,0,none⟩),.string ⟨key.toArray⟩] w (Og key l w):=by
 have HC:=al (ab (nB w T ⟨key.toArray⟩ (by exact hk1) (by exact hk2)) (Jr w T o l F key h));clear h hk1 hk2;go_enter func75,ntmps75;go_wp2_with fail;refine HC.o.1.m ?_;rintro e w1 ⟨rfl,hw1⟩;obtain rfl:w=w1:=hw1.symm;go_wp2_with fail;refine HC.o.2.m ?_;rintro e w2 ⟨rfl,hb⟩;have HB:=al hb;clear hb HC
 cases hc:ceil key l with
 |none=>
  have HL:=al (pL hc);unfold XB;simp only[lP];clear hc;go_wp2_with fail
  go_ret2
  exact⟨by rw[HL.o];rfl,HB.o⟩
 |some q=>
  have HL:=al (iL hc);unfold XB Zk Zl;simp only[lz,Option.map_some,Option.getD_some,if_true];clear hc;obtain⟨qk,qv⟩:=q;by_cases hq:qk=key
  ·subst hq;go_wp2_with fail
   go_ret2
   refine⟨?_,HB.o⟩;rw[show look qk l=some qv by simpa using HL.o];rfl
  ·have h1: ¬(⟨qk.toArray⟩:ByteArray)=⟨key.toArray⟩:=fun e=>hq (by injection e with e;simpa using e);have h3: ¬qk.toArray=key.toArray:=fun e=>hq (by simpa using e);have h4:(qk==key)=false:=beq_eq_false_iff_ne.2 hq;have HQ:=al hq;go_wp2_with fail
   go_ret2
   refine⟨?_,HB.o⟩;rw[show look key l=none by simpa[HQ.o]using HL.o];rfl
theorem GA(w:World)(T o:Nat)(l:List Pr)(F:Nat->Nat->Prop)(h:bM w T o l F):Calls prog 77 #[.pointer (some ⟨T,0,none⟩)] w fun e w'=>e=.returned (.int .i64 l.length)/\w=w':=by
 obtain⟨d,r,x,K,k0,-⟩:=h;have c1:w.cell? ⟨T,1,none⟩=some (.int .i64 l.length):=by simp[World.cell?,k0]
 clear k0;go_enter func77,ntmps77;go_wp2;go_ret
 exact⟨rfl,rfl⟩
end Go.Proofs.YtmkofmeojbcakaaGreatDoor
