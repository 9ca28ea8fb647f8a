import Derived.Test.YtagemonojdgbdaaGreatDoorF16
namespace Go.Proofs.YtagemonojdgbdaaGreatDoor
set_option maxRecDepth 100000
set_option maxHeartbeats 16000000
open Go.RowKit
theorem aS.qi{w:World}{d a bk ok nk ck:Nat}{x:ND}{F:Nat->Nat->Prop}{vp:Value}{aA:List Nat}{H:Nat->Nat->Nat->Prop}(h:aS w (ay w d) a x F vp (.slice (some ⟨bk,ok,none⟩) nk ck) aA H){j:Nat}(hj:j<x.ks.length):
  ∃p A c,w.cell? ⟨bk,ok+j,none⟩=some (.pointer (some ⟨p,0,none⟩))/\w.cell? ⟨p,0,none⟩=some (.slice A (aQ x j).ps.length c):=by
 obtain⟨p,hp⟩: ∃y,aA[j]?=some y:=⟨_,ao (by rw[h.2.2.2.2.1];exact hj)⟩;have hn:=h.2.2.2.2.2.1 j p (aQ x j) hp (df hj);obtain⟨vp',vk',aaj,H',g1,-,g3,-⟩:=ay.base hn;obtain⟨A,c,rfl,-⟩:=g3.slice;rw[fb]at g1;exact⟨p,A,c,h.2.2.2.1.Cb hp,(ae g1).1.1⟩
theorem zx(w:World)(d a i o lo hi:Nat)(x:ND)(F:Nat->Nat->Prop)(h:ay w (d+1) a x F)(hF: ∀b q,F b q->b<w.heap.size)(hk:tL d o i lo hi x)(hlo:1<=lo)(hhi:hi<=900)(ho:2<=o)(eo:o<=16):
  Calls Tryz.prog 173 #[.pointer (some ⟨a,0,none⟩),.int .i64 i,.int .i64 o] w fun e w'=>e=.returned (.tuple #[])/\ay w' (d+1) a (jd d x i o) (fun b q=>F b q\/w.heap.size<=b)/\OnlyC F w w':=by
 have hxl:=hk.1;have hxh:=hk.2.1;have hps:=hk.2.2.1;have hil:=hk.2.2.2.1;have wi:=hk.2.2.2.2.2
 have wj: ∀j,j<x.ks.length->(aQ x j).ps.length<=900/\(aQ x j).ks.length<=901/\(d≠0->(aQ x j).ks.length=(aQ x j).ps.length+1):=by
  intro j hj
  have hwf: ∃lo' hi',eX d o lo' hi' (aQ x j)/\hi'<=900:=by
   by_cases e:j=i
   ·subst e;exact⟨_,_,wi,by omega⟩
   ·exact⟨_,_,hk.kid e hj,by omega⟩
  obtain⟨lo',hi',hw,hle⟩:=hwf;have hl:=hw.len;refine⟨by omega,?_,fun hd=>?_⟩
  ·cases d with
   |zero=>rw[hw.none];simp
   |succ d=>rw[hw.kids];omega
  ·obtain⟨d1,rfl⟩: ∃d1,d=d1+1:=⟨d-1,by omega⟩;exact hw.kids
 have hN:=h;obtain⟨_,vp,vk,aA,H,hO,_⟩:=h.open_;obtain⟨l0,hl0⟩: ∃y,aA[i]?=some y:=⟨_,ao (by rw[hO.2.2.2.2.1];exact hil)⟩;obtain⟨bk,ok,ck,e0,-,-,-⟩:=hO.2.2.2.1.ptr hl0;subst e0;obtain⟨nk,jP⟩: ∃y,aA.length=y:=⟨_,rfl⟩;have gN:=hO.2.2.2.2.1;rw[jP]at hO gN;obtain⟨⟨-,TM⟩,-,-⟩:=ae hO.1;obtain⟨p0,A0,c0,k0,k1⟩:=aS.qi hO (j:=i) hil;obtain⟨n0,hn0⟩: ∃y,(aQ x i).ps.length=y:=⟨_,rfl⟩;rw[hn0]at k1;obtain⟨m,hm⟩: ∃m,o=m+1:=⟨o-1,by omega⟩;have HA:=al (ab hN (ab hF (ab hO (ab hil (ab hps (ab hn0 (ab hm (ab wj (ab hk (ab hxh hhi))))))))));have j0:(o:Int)-1=(m:Int):=by omega
 have j2:(0:Int)<=(i:Int):=by omega
 have j3:(i:Int)<(nk:Int):=by omega
 obtain⟨y1,y2⟩:=JO m (by omega);have aaw:nk<=901:=by omega
 have Gk:nk=x.ks.length:=gN;have Iy:=wj i hil;have HLO:=al hlo;clear hN hF hO hps wj wi hk hxl hxh h hl0 gN jP hlo hhi;by_cases c1:m<=n0
 ·have q1:(m:Int)<=(n0:Int):=by omega
  have HC:=al c1;clear hil hm hn0 Gk Iy c1;go_enter Tryz.func173,Tryz.ntmps173;go_wp2_with fail
  first|refine et (du rfl _ _ _) rfl ?_|refine dq (du rfl _ _ _) rfl ?_
  have RX:jd d x i o=x:=by unfold jd;rw[fi (by have:=HA.out.2.2.2.2.2.1;have:=HA.out.2.2.2.2.2.2.1;have:=HC.out;omega)]
  rw[RX];exact⟨rfl,HA.out.1.mono (fun b q hh=>.inl hh),OnlyC.refl _ _⟩
 ·have q1: ¬(m:Int)<=(n0:Int):=by omega
  have HC:=al c1;have iX:=HA.out.2.2.2.2.2.2.1;have tF:=HA.out.2.2.2.2.2.1
  have Va:jd d x i o=if 0<i/\o-1<(aQ x (i-1)).ps.length then sA x (i-1) (dN d (aQ x (i-1)) (gi x (i-1)) (aQ x i))
    else if i+1<x.ks.length/\o-1<(aQ x (i+1)).ps.length then sA x i (fO d (aQ x i) (gi x i) (aQ x (i+1)))
    else if 0<i then sB x (i-1) (kE (aQ x (i-1)) (gi x (i-1)) (aQ x i))else sB x i (kE (aQ x i) (gi x i) (aQ x (i+1))):=by
   conv=>lhs;unfold jd
   rw[ff (by omega)]
  have HU:=al Va;clear hm hn0 iX tF c1 Va;by_cases ci:0<i
  ·obtain⟨i0,hi0⟩: ∃y,i=y+1:=⟨i-1,by omega⟩;obtain⟨p2,A2,c2,k2,k3⟩:=aS.qi HA.out.2.2.1 (j:=i0) (by omega);obtain⟨n2,nZ⟩: ∃y,(aQ x i0).ps.length=y:=⟨_,rfl⟩;rw[nZ]at k3;have q2:(0:Int)<(i:Int):=by omega
   have q3:(i:Int)-1=(i0:Int):=by omega
   have q4:(0:Int)<=(i0:Int):=by omega
   have q5:(i0:Int)<(nk:Int):=by omega
   obtain⟨y3,y4⟩:=JO i0 (by omega);have HI:=al (ab hi0 nZ);have hw0:=HA.out.2.2.2.2.2.2.2.1 i0 (by omega);by_cases cl:m<n2
   ·have q6:(m:Int)<(n2:Int):=by omega
    have HL:=al cl;clear nZ hi0 cl ci;go_enter Tryz.func173,Tryz.ntmps173;go_wp2_with fail;have HQ:=al (Ce w d a i0 i x F HA.out.1 HA.out.2.1 HI.out.1 (by have:=HI.out.1;omega) HA.out.2.2.2.2.1 (by have:=HA.out.2.2.2.2.2.2.2.2.2.1;have:=HA.out.2.2.2.2.2.2.2.2.2.2;omega) (by have:=HI.out.2;have:=HL.out;omega) hw0.1 (by rw[show i0+1=i from HI.out.1.symm];exact Iy.1) hw0.2.2 (by rw[show i0+1=i from HI.out.1.symm];exact Iy.2.1));refine HQ.out.mono ?_;rintro e w2 ⟨rfl,hn,ho⟩;have HF:=al (ab hn ho);clear hn ho HQ;go_wp2_with fail
    first|refine et (du rfl _ _ _) rfl ?_|refine dq (du rfl _ _ _) rfl ?_
    rw[HU.out,fi ⟨by have:=HI.out.1;omega,by rw[show i-1=i0 by have:=HI.out.1;omega];have:=HI.out.2;have:=HL.out;have:=HA.out.2.2.2.2.2.2.1;omega⟩,show i-1=i0 by have:=HI.out.1;omega];have h1:=HF.out.1;rw[show i0+1=i from HI.out.1.symm]at h1;exact⟨rfl,h1,HF.out.2⟩
   ·have q6: ¬(m:Int)<(n2:Int):=by omega
    have HL:=al cl
    have hnl: ¬(0<i/\o-1<(aQ x (i-1)).ps.length):=by rintro⟨_,h2⟩;rw[show i-1=i0 by omega,nZ]at h2;have:=HA.out.2.2.2.2.2.2.1;omega
    have TP:=al hnl;clear cl hnl;obtain⟨i1,hi1⟩: ∃y,y=i+1:=⟨_,rfl⟩;have q7:(i:Int)+1=(i1:Int):=by omega
    obtain⟨y5,y6⟩:=JO i1 (by omega);have q8:(0:Int)<=(i1:Int):=by omega
    by_cases cr:i+1<x.ks.length
    ·obtain⟨p3,A3,c3,k4,k5⟩:=aS.qi HA.out.2.2.1 (j:=i+1) cr;rw[<-hi1]at k4;obtain⟨n3,ln⟩: ∃y,(aQ x (i+1)).ps.length=y:=⟨_,rfl⟩;rw[ln]at k5;have q9:(i1:Int)<(nk:Int):=by omega
     have hw3:=HA.out.2.2.2.2.2.2.2.1 (i+1) cr;have hi2:=cr;have HH:=al (ab ln hi1);by_cases cx:m<n3
     ·have qa:(m:Int)<(n3:Int):=by omega
      have Vb:=al cx;clear nZ hi0 ci;clear ln cx cr hi1;go_enter Tryz.func173,Tryz.ntmps173;go_wp2_with fail;have HQ:=al (qh w d a i x F HA.out.1 HA.out.2.1 hi2 HA.out.2.2.2.2.1 (by have:=HA.out.2.2.2.2.2.2.2.2.2.1;have:=HA.out.2.2.2.2.2.2.2.2.2.2;omega) (by have:=HH.out.1;have:=Vb.out;omega) Iy.1 hw3.1 (fun hd=>by have:=hw3.2.2 hd;omega) Iy.2.1 hw3.2.1);refine HQ.out.mono ?_;rintro e w2 ⟨rfl,hn,ho⟩;have HF:=al (ab hn ho);clear hn ho HQ;go_wp2_with fail
      first|refine et (du rfl _ _ _) rfl ?_|refine dq (du rfl _ _ _) rfl ?_
      rw[HU.out,ff TP.out,fi ⟨hi2,by have:=HH.out.1;have:=Vb.out;have:=HA.out.2.2.2.2.2.2.1;omega⟩];exact⟨rfl,HF.out.1,HF.out.2⟩
     ·have qa: ¬(m:Int)<(n3:Int):=by omega
      have vP: ¬(i+1<x.ks.length/\o-1<(aQ x (i+1)).ps.length):=by rintro⟨_,h2⟩;rw[ln]at h2;have:=HA.out.2.2.2.2.2.2.1;omega
      have Vc:=al vP;clear nZ hi0 ci;clear ln cx cr hi1 vP;go_enter Tryz.func173,Tryz.ntmps173;go_wp2_with fail;have HQ:=al (ng w d a i0 x F HA.out.1 HA.out.2.1 (by have:=HI.out.1;omega) HA.out.2.2.2.2.1 (by have:=HA.out.2.2.2.2.2.2.2.2.2.1;have:=HA.out.2.2.2.2.2.2.2.2.2.2;omega) hw0.1 (by rw[show i0+1=i from HI.out.1.symm];exact Iy.1) hw0.2.1 (by rw[show i0+1=i from HI.out.1.symm];exact Iy.2.1));refine HQ.out.mono ?_;rintro e w2 ⟨rfl,hn,ho⟩;have HF:=al (ab hn ho);clear hn ho HQ;go_wp2_with fail
      first|refine et (du rfl _ _ _) rfl ?_|refine dq (du rfl _ _ _) rfl ?_
      rw[HU.out,ff TP.out,ff Vc.out];rw[fi (by have:=HI.out.1;omega),show i-1=i0 by have:=HI.out.1;omega];have h1:=HF.out.1;rw[show i0+1=i from HI.out.1.symm]at h1;exact⟨rfl,h1,HF.out.2⟩
    ·have q9: ¬(i1:Int)<(nk:Int):=by omega
     have Vc:=al (show ¬(i+1<x.ks.length/\o-1<(aQ x (i+1)).ps.length)from fun h=>cr h.1);clear nZ hi0 ci;clear cr hi1;go_enter Tryz.func173,Tryz.ntmps173;go_wp2_with fail;have HQ:=al (ng w d a i0 x F HA.out.1 HA.out.2.1 (by have:=HI.out.1;omega) HA.out.2.2.2.2.1 (by have:=HA.out.2.2.2.2.2.2.2.2.2.1;have:=HA.out.2.2.2.2.2.2.2.2.2.2;omega) hw0.1 (by rw[show i0+1=i from HI.out.1.symm];exact Iy.1) hw0.2.1 (by rw[show i0+1=i from HI.out.1.symm];exact Iy.2.1));refine HQ.out.mono ?_;rintro e w2 ⟨rfl,hn,ho⟩;have HF:=al (ab hn ho);clear hn ho HQ;go_wp2_with fail
     first|refine et (du rfl _ _ _) rfl ?_|refine dq (du rfl _ _ _) rfl ?_
     rw[HU.out,ff TP.out,ff Vc.out];rw[fi (by have:=HI.out.1;omega),show i-1=i0 by have:=HI.out.1;omega];have h1:=HF.out.1;rw[show i0+1=i from HI.out.1.symm]at h1;exact⟨rfl,h1,HF.out.2⟩
  ·have q2: ¬(0:Int)<(i:Int):=by omega
   have hnl: ¬(0<i/\o-1<(aQ x (i-1)).ps.length):=fun h=>ci h.1;have TP:=al hnl;have HI:=al ci;clear hnl;obtain⟨i1,hi1⟩: ∃y,y=i+1:=⟨_,rfl⟩;have q7:(i:Int)+1=(i1:Int):=by omega
   obtain⟨y5,y6⟩:=JO i1 (by omega);have q8:(0:Int)<=(i1:Int):=by omega
   by_cases cr:i+1<x.ks.length
   ·obtain⟨p3,A3,c3,k4,k5⟩:=aS.qi HA.out.2.2.1 (j:=i+1) cr;rw[<-hi1]at k4;obtain⟨n3,ln⟩: ∃y,(aQ x (i+1)).ps.length=y:=⟨_,rfl⟩;rw[ln]at k5;have q9:(i1:Int)<(nk:Int):=by omega
    have hw3:=HA.out.2.2.2.2.2.2.2.1 (i+1) cr;have hi2:=cr;have HH:=al (ab ln hi1);by_cases cx:m<n3
    ·have qa:(m:Int)<(n3:Int):=by omega
     have Vb:=al cx;clear ci;clear ln cx cr hi1;go_enter Tryz.func173,Tryz.ntmps173;go_wp2_with fail;have HQ:=al (qh w d a i x F HA.out.1 HA.out.2.1 hi2 HA.out.2.2.2.2.1 (by have:=HA.out.2.2.2.2.2.2.2.2.2.1;have:=HA.out.2.2.2.2.2.2.2.2.2.2;omega) (by have:=HH.out.1;have:=Vb.out;omega) Iy.1 hw3.1 (fun hd=>by have:=hw3.2.2 hd;omega) Iy.2.1 hw3.2.1);refine HQ.out.mono ?_;rintro e w2 ⟨rfl,hn,ho⟩;have HF:=al (ab hn ho);clear hn ho HQ;go_wp2_with fail
     first|refine et (du rfl _ _ _) rfl ?_|refine dq (du rfl _ _ _) rfl ?_
     rw[HU.out,ff TP.out,fi ⟨hi2,by have:=HH.out.1;have:=Vb.out;have:=HA.out.2.2.2.2.2.2.1;omega⟩];exact⟨rfl,HF.out.1,HF.out.2⟩
    ·have qa: ¬(m:Int)<(n3:Int):=by omega
     have vP: ¬(i+1<x.ks.length/\o-1<(aQ x (i+1)).ps.length):=by rintro⟨_,h2⟩;rw[ln]at h2;have:=HA.out.2.2.2.2.2.2.1;omega
     have Vc:=al vP;clear ci;clear ln cx cr hi1 vP;go_enter Tryz.func173,Tryz.ntmps173;go_wp2_with fail;have HQ:=al (ng w d a i x F HA.out.1 HA.out.2.1 hi2 HA.out.2.2.2.2.1 (by have:=HA.out.2.2.2.2.2.2.2.2.2.1;have:=HA.out.2.2.2.2.2.2.2.2.2.2;omega) Iy.1 hw3.1 Iy.2.1 hw3.2.1);refine HQ.out.mono ?_;rintro e w2 ⟨rfl,hn,ho⟩;have HF:=al (ab hn ho);clear hn ho HQ;go_wp2_with fail
     first|refine et (du rfl _ _ _) rfl ?_|refine dq (du rfl _ _ _) rfl ?_
     rw[HU.out,ff TP.out,ff Vc.out];rw[ff HI.out];have h1:=HF.out.1;exact⟨rfl,h1,HF.out.2⟩
   ·exfalso;have h1:=HA.out.2.2.2.2.2.2.2.2.1.1;have h2:=HA.out.2.2.2.2.1;have h3:=HLO.out;omega
def zy(d o:Nat):Prop:= ∀(w:World) (a lo hi:Nat) (x:ND) (F:Nat->Nat->Prop),ay w d a x F->(∀b q,F b q->b<w.heap.size)->eX d o lo hi x->1<=lo->hi<=900->
 Calls Tryz.prog 172 #[.pointer (some ⟨a,0,none⟩),.int .i64 o] w fun e w'=>e=.returned (NA (fI d x o).2)/\ay w' d a (fI d x o).1 (fun b q=>F b q\/w.heap.size<=b)/\OnlyC F w w'
theorem Le{w:World}{B:Nat}{a0 a1 v0 v1:Value}{t:TypeId}(h:w.heap[B]?=some (.cells #[a0,a1] t (0,0))):((w.setCell ⟨B,0,none⟩ v0).setCell ⟨B,1,none⟩ v1).heap[B]?=some (.cells #[v0,v1] t (0,0)):=by have h1:=dr w B 0 _ _ v0 h;have h2:=dr _ B 1 _ _ v1 h1;simpa using h2
theorem Iz(o:Nat):zy 0 o:=by
 intro w a lo hi x F h hF hw hlo hhi;have hks:=hw.none;have hlen:=hw.len;obtain⟨m,hm⟩: ∃m,x.ps.length=m+1:=⟨x.ps.length-1,by omega⟩;obtain⟨z,hz⟩: ∃p,x.ps[m]?=some p:=⟨_,ao (by omega)⟩
 have hres:fI 0 x o=(.mk (x.ps.take m) [],z):=by show(ND.mk (x.ps.take (x.ps.length-1)) [],x.ps[x.ps.length-1]?.getD ([],[]))=_;rw[hm,nw,hz];rfl
 have hb0:=af w (.cells #[.string ⟨#[]⟩,.string ⟨#[]⟩] 210);have k0:=an w (.cells #[.string ⟨#[]⟩,.string ⟨#[]⟩] 210);have h1:=h.below hb0;go_enter Tryz.func172,Tryz.ntmps172;go_upto_region 1 with fail;generalize w.alloc (.cells #[.string ⟨#[]⟩,.string ⟨#[]⟩] 210)=w1 at hb0 k0 h1⊢;obtain⟨R0,hR⟩: ∃y,w.heap.size=y:=⟨_,rfl⟩;rw[hR]at k0⊢;obtain⟨hd0,vp,vk,aA,H,hO,-⟩:=h1.open_;have hp0:aA=[]:=db (by rw[hO.2.2.2.2.1,hks];rfl);subst hp0;obtain⟨bl,ol,cl,e0,-,-,-⟩:=hO.2.2.1.pair hz;subst e0;obtain⟨A2,c2,e2,-⟩:=hO.2.2.2.1.slice;have e2:vk=.slice A2 0 c2:=by simpa using e2
 subst e2;obtain⟨n,hn⟩: ∃y,x.ps.length=y:=⟨_,rfl⟩;rw[hn]at hO;have Lf: ∀b q,F b q->b<w1.heap.size:=fun b q hh=>cq (hF b q hh) hb0.size;have HA:=al (ab hO (ab hF (ab Lf (ab hb0 (ab k0 (ab hR (ab hks (ab hz (ab hm hres)))))))));obtain⟨⟨z0,z1⟩,-,-⟩:=ae hO.1;have iW:=al (dG w1 a c2 A2 z1);have j1:(n:Int)-1=(m:Int):=by omega
 have j2:(0:Int)<=(m:Int):=by omega
 have j3:(m:Int)<(n:Int):=by omega
 have j4:n<=900:=by omega
 obtain⟨y1,y2⟩:=JO m (by omega);obtain⟨⟨s0,s1⟩,-,-⟩:=hO.2.2.1.jS hz;clear h hF hw hlo hhi hks hlen hm hz hres hb0 k0 h1 hR hd0 hO hn Lf;go_wp2_with fail;refine iW.out.mono ?_;rintro e w2 ⟨rfl,hw2⟩;subst hw2;clear iW;go_upto_region 4 with fail;have bZ:=af w1 (.cells #[.string ⟨z.1.toArray⟩,.string ⟨z.2.toArray⟩] 210);have kZ:=an w1 (.cells #[.string ⟨z.1.toArray⟩,.string ⟨z.2.toArray⟩] 210);generalize w1.alloc (.cells #[.string ⟨z.1.toArray⟩,.string ⟨z.2.toArray⟩] 210)=w3 at bZ kZ⊢;obtain⟨ZB,RY⟩: ∃y,w1.heap.size=y:=⟨_,rfl⟩;rw[RY]at kZ⊢;have JP:=aS.below (d:=0) HA.out.1 bZ;clear z0 z1 s0 s1;obtain⟨⟨z0,-⟩,-,-⟩:=ae JP.1;have H3:=al (ab bZ (ab kZ (ab RY JP)));clear bZ kZ RY JP;go_wp2_with fail;refine(kD w3 (H 1) _ (x.ps.map ax) m _ _ rfl (by simp) H3.out.2.2.2.2.2.1 (by rw[fb];have:=HA.out.2.2.2.2.2.2.2.2.1;omega) (by rw[fb];have:=HA.out.2.2.2.2.2.2.2.2.1;omega) (dA _)).mono ?_;rintro e w9 ⟨v9,rfl,cu,eU⟩;rw[<-mc,<-kn,<-im]at cu;have Ci:x.ps.drop (m+1)=[]:=eS (by have:=HA.out.2.2.2.2.2.2.2.2.1;omega);rw[Ci,gd]at cu;obtain⟨A9,c9,fQ,-⟩:=cu.slice;obtain⟨n9,fG⟩: ∃y,((x.ps.take m).map ax).length=y:=⟨_,rfl⟩;rw[fG]at fQ;subst fQ;clear fG Ci z0;have RZ:=eU.heap H3.out.2.2.2.1 (fun q hh=>HA.out.1.own.2.1 1 0 a q (by decide) hh (HA.out.1.2.1 q));have uA: ∀b,w.heap.size<=b-> ∀q,¬F b q:=fun b hb q hh=>by have:=HA.out.2.1 b q hh;omega
 have hR9:=eU.heap (pw H3.out.1 HA.out.2.2.2.2.1) (fun q hh=>uA R0 (by have:=HA.out.2.2.2.2.2.1;omega) q (HA.out.1.own.1 1 _ q hh));have hZ9:=eU.heap H3.out.2.1 (fun q hh=>uA ZB (by have:=HA.out.2.2.2.1.size;have:=H3.out.2.2.1;omega) q (HA.out.1.own.1 1 _ q hh));have hRa: ¬R0=a:=fun e=>uA R0 (by have:=HA.out.2.2.2.2.2.1;omega) 0 (HA.out.1.own.1 0 _ 0 (e▸HA.out.1.2.1 0));have hZa: ¬ZB=a:=fun e=>uA ZB (by have:=HA.out.2.2.2.1.size;have:=H3.out.2.2.1;omega) 0 (HA.out.1.own.1 0 _ 0 (e▸HA.out.1.2.1 0));have H9:=al (ab cu (ab eU RZ));obtain⟨⟨z0,-⟩,zf,-⟩:=ae RZ;clear cu eU RZ;go_upto_region 5 with fail;have IA:=(OnlyC.bp w9 a 0 (.slice A9 n9 c9)).heap hR9 (fun q e=>hRa e.1);have R3:=(OnlyC.bp w9 a 0 (.slice A9 n9 c9)).heap hZ9 (fun q e=>hZa e.1);have h3:=H3.out.2.2.2
 have hr:=aS.nW (d:=0) (w':=w9.setCell ⟨a,0,none⟩ (.slice A9 n9 c9)) h3 (fun _=>HA.out.2.2.2.2.2.2.1) (fun b q hh=>cq (HA.out.2.2.1 b q hh) H3.out.1.size) (iE H9.out.2.2 (.slice A9 n9 c9))
  ((H9.out.2.1.mono (fun b q _ hh=>.inl hh)).trans (OnlyC.bp w9 a 0 (.slice A9 n9 c9)) (fun b q _ e=>.inr e.1)) ((H9.out.1.only (OnlyC.bp w9 a 0 (.slice A9 n9 c9)) (fun b q hh e=>HA.out.1.own.2.2 1 b q (by decide) hh e.1)).mono (fun b q hh=>.inl hh))
 clear z0 zf hR9 hZ9;generalize w9.setCell ⟨a,0,none⟩ (.slice A9 n9 c9)=wK at IA R3 hr⊢;obtain⟨z0,z1⟩:=eT R3;obtain⟨x0,x1⟩:=eT IA;have f0:wK.frozen? ⟨R0,0,none⟩=false:=frozen_of_heap IA 0;have f1:wK.frozen? ⟨R0,1,none⟩=false:=frozen_of_heap IA 1;have H10:=al (ab hr IA);clear hr IA R3;go_wp2_with fail;have hp:=Le (v0:=.string ⟨z.1.toArray⟩) (v1:=.string ⟨z.2.toArray⟩) H10.out.2;have hbW:Below w.heap.size w w3:=HA.out.2.2.2.1.trans (H3.out.1.mono HA.out.2.2.2.1.size);have oR:OnlyC (fun b _=>b=R0) wK ((wK.setCell ⟨R0,0,none⟩ (.string ⟨z.1.toArray⟩)).setCell ⟨R0,1,none⟩ (.string ⟨z.2.toArray⟩)):=((OnlyC.bp wK R0 0 _).mono (fun b q _ e=>e.1)).trans (OnlyC.bp _ R0 1 _) (fun b q _ e=>e.1);refine dq (results_cell_row rfl _ _ _ _ _ _ _ rfl hp Tryz.underlying210 rfl (by kernel_rfl)) rfl ?_;rw[HA.out.2.2.2.2.2.2.2.2.2];have hr:=H10.out.1;rw[HA.out.2.2.2.2.2.2.1]at hr;refine⟨rfl,?_,(((oE hbW F).trans hr.2 (fun _ _ _ h=>h)).trans oR (fun b q hb e=>by subst e;have:=HA.out.2.2.2.2.2.1;omega))⟩;refine(hr.1.only oR (fun b q hh e=>?_)).mono (fun b q hh=>hh.imp id (fun h=>de hbW.size h));subst e;have h5:=HA.out.2.2.2.2.2.1;have h6:=oS HA.out.2.2.2.2.1;have h7:=H3.out.1.size;rcases hh with hh|hh
 ·have:=HA.out.2.1 _ q hh;omega
 ·omega
theorem OI(d o:Nat)(ih:zy d o)(ho:2<=o)(eo:o<=16):zy (d+1) o:=by
 intro w a lo hi x F h hF hw hlo hhi;have hlen:=hw.len;have lG:=hw.kids;obtain⟨m,hm⟩: ∃m,x.ks.length=m+1:=⟨x.ks.length-1,by omega⟩;have hlm:x.ks.length-1=m:=by omega
 have hres:fI (d+1) x o=(jd d (pz x m (fI d (aQ x m) o).1) m o,(fI d (aQ x m) o).2):=by show(jd d (pz x (x.ks.length-1) (fI d (aQ x (x.ks.length-1)) o).1) (x.ks.length-1) o,(fI d (aQ x (x.ks.length-1)) o).2)=_;rw[hlm]
 have hk:=df (x:=x) (i:=m) (by omega);have wk:=hw.2.2.2 _ (dd hk);have wl:=(pT ho wk (by omega)).2;have qj:=jy hw (i:=m) (by omega) (by rw[show o-1-1=o-2 by omega]at wl;exact wl);have hb0:=af w (.cells #[.string ⟨#[]⟩,.string ⟨#[]⟩] 210);have k0:=an w (.cells #[.string ⟨#[]⟩,.string ⟨#[]⟩] 210);have h1:=h.below hb0;go_enter Tryz.func172,Tryz.ntmps172;go_upto_region 1 with fail;generalize w.alloc (.cells #[.string ⟨#[]⟩,.string ⟨#[]⟩] 210)=w1 at hb0 k0 h1⊢;obtain⟨R0,hR⟩: ∃y,w.heap.size=y:=⟨_,rfl⟩;rw[hR]at k0⊢;obtain⟨-,vp,vk,aA,H,hO,-⟩:=h1.open_;obtain⟨l,hl⟩: ∃y,aA[m]?=some y:=⟨_,ao (by rw[hO.2.2.2.2.1];omega)⟩;obtain⟨bk,ok,ck,e0,-,-,r1⟩:=hO.2.2.2.1.ptr hl;subst e0;obtain⟨nk,jP⟩: ∃y,aA.length=y:=⟨_,rfl⟩;have gN:=hO.2.2.2.2.1;rw[jP]at hO gN;have Lf: ∀b q,F b q->b<w1.heap.size:=fun b q hh=>cq (hF b q hh) hb0.size;have Dt:=al (ih w1 l (o-1) (2*o-1) (aQ x m) (H (m+3)) (hO.2.2.2.2.2.1 m l _ hl hk) (fun b q hh=>Lf b q (hO.own.1 _ b q hh)) wk (by omega) (by omega));obtain⟨⟨zk,zv⟩,hz⟩: ∃p,(fI d (aQ x m) o).2=p:=⟨_,rfl⟩;have HA:=al (ab hO (ab hF (ab Lf (ab hb0 (ab k0 (ab hR (ab hl (ab hk (ab qj (ab hres (ab hz (ab hlo hhi))))))))))));obtain⟨⟨-,z1⟩,-,-⟩:=ae hO.1;have iW:=al (eQ w1 a nk ck _ (by omega) z1);have j1:(nk:Int)-1=(m:Int):=by omega
 have j2:(0:Int)<=(m:Int):=by omega
 have j3:(m:Int)<(nk:Int):=by omega
 have j4:nk<=901:=by omega
 obtain⟨y1,y2⟩:=JO m (by omega);rw[hz]at Dt;unfold NA at Dt;simp only at Dt;clear h hF hw hlo hhi hlen lG hm hlm hres hk wk wl qj hb0 k0 h1 hR hl hO gN jP Lf hz ih;go_wp2_with fail;refine iW.out.mono ?_;rintro e w2 ⟨rfl,hw2⟩;subst hw2;clear iW;go_wp2_with fail;refine Dt.out.mono ?_;rintro e w3 ⟨rfl,ln,rX⟩;clear Dt z1 r1;have hr:=HA.out.1.FX HA.out.2.2.1 HA.out.2.2.2.2.2.2.2.1 HA.out.2.2.2.2.2.2.1 rX ln;have bZ:=af w3 (.cells #[.string ⟨zk.toArray⟩,.string ⟨zv.toArray⟩] 210);have kZ:=an w3 (.cells #[.string ⟨zk.toArray⟩,.string ⟨zv.toArray⟩] 210);have uA: ∀b,w.heap.size<=b-> ∀q,¬F b q:=fun b hb q hh=>by have:=HA.out.2.1 b q hh;omega
 have Vd:=rX.heap HA.out.2.2.2.2.1 (fun q hh=>uA R0 (by have:=HA.out.2.2.2.2.2.1;omega) q (HA.out.1.own.1 _ _ q hh));have H3:=al (ab hr (ab bZ (ab kZ Vd)));clear hr bZ kZ Vd ln rX uA;go_upto_region 8 with fail;have H4:=H3.out;clear H3;generalize w3.alloc (.cells #[.string ⟨zk.toArray⟩,.string ⟨zv.toArray⟩] 210)=w4 at H4⊢;obtain⟨hr,bZ,kZ,Vd⟩:=H4;obtain⟨ZB,RY⟩: ∃y,w3.heap.size=y:=⟨_,rfl⟩;rw[RY]at kZ⊢;have hR4:=pw bZ Vd;have hb4:=hr.1.bound.below bZ;have H4:=al (ab hr.2 (ab bZ (ab kZ (ab hR4 (ab RY hb4)))));have hsz1:w.heap.size<=w1.heap.size:=HA.out.2.2.2.1.size;have HM:=al (zx w4 d a m o lo hi _ _ hb4 (fun b q hh=>cq hh.2 bZ.size) HA.out.2.2.2.2.2.2.2.2.1 HA.out.2.2.2.2.2.2.2.2.2.2.2.1 HA.out.2.2.2.2.2.2.2.2.2.2.2.2 ho eo);clear hr bZ kZ Vd hR4 hb4 RY;go_wp2_with fail;refine HM.out.mono ?_;rintro e w5 ⟨rfl,KY,jR⟩;clear HM;have aax:=oS HA.out.2.2.2.2.1
 have R4: ∀q,¬((F R0 q\/w1.heap.size<=R0)/\R0<w3.heap.size):=fun q hh=>by
  rcases hh.1 with h5|h5
  ·have:=HA.out.2.1 _ q h5;have:=HA.out.2.2.2.2.2.1;omega
  ·omega
 have Gh:=jR.heap H4.out.2.2.2.1 R4;have hZ5:=jR.heap H4.out.2.2.1 (fun q hh=>by have:=hh.2;have:=H4.out.2.2.2.2.1;omega);obtain⟨z0,z1⟩:=eT hZ5;obtain⟨x0,x1⟩:=eT Gh;have f0:w5.frozen? ⟨R0,0,none⟩=false:=frozen_of_heap Gh 0;have f1:w5.frozen? ⟨R0,1,none⟩=false:=frozen_of_heap Gh 1;have H5:=al (ab KY (ab jR (ab Gh R4)));clear KY jR Gh hZ5 R4;go_wp2_with fail;have hp:=Le (v0:=.string ⟨zk.toArray⟩) (v1:=.string ⟨zv.toArray⟩) H5.out.2.2.1;have oR:OnlyC (fun b _=>b=R0) w5 ((w5.setCell ⟨R0,0,none⟩ (.string ⟨zk.toArray⟩)).setCell ⟨R0,1,none⟩ (.string ⟨zv.toArray⟩)):=((OnlyC.bp w5 R0 0 _).mono (fun b q _ e=>e.1)).trans (OnlyC.bp _ R0 1 _) (fun b q _ e=>e.1);refine dq (results_cell_row rfl _ _ _ _ _ _ _ rfl hp Tryz.underlying210 rfl (by kernel_rfl)) rfl ?_;rw[HA.out.2.2.2.2.2.2.2.2.2.1,HA.out.2.2.2.2.2.2.2.2.2.2.1];have o13:OnlyC F w1 w4:=H4.out.1.trans (oE H4.out.2.1 F) (fun _ _ _ h=>h);have o15:OnlyC F w w5:=((oE HA.out.2.2.2.1 F).trans o13 (fun _ _ _ h=>h)).trans H5.out.2.1 (fun b q hb hh=>hh.1.elim id (fun h=>by omega));refine⟨rfl,(H5.out.1.only oR (fun b q hh e=>?_)).mono (fun b q hh=>?_),o15.trans oR (fun b q hb e=>by subst e;have:=HA.out.2.2.2.2.2.1;omega)⟩
 ·subst e;rcases hh with hh|hh
  ·exact H5.out.2.2.2 q hh
  ·have:=oS H4.out.2.2.2.1;omega
 ·rcases hh with hh|hh
  ·exact hh.1.imp id (fun h=>by omega)
  ·have:=H4.out.2.1.size;have:=H4.out.1.size;exact .inr (by omega)
theorem Gl{o:Nat}(ho:2<=o)(eo:o<=16): ∀d,zy d o
 |0=>Iz o
 |d+1=>OI d o (Gl ho eo d) ho eo
def Lg(d o:Nat)(key:List UInt8):Prop:= ∀(w:World) (a lo hi:Nat) (x:ND) (F:Nat->Nat->Prop),ay w d a x F->(∀b q,F b q->b<w.heap.size)->eX d o lo hi x->(1<=lo\/d=0)->hi<=900->Up (ba d x)->
 Calls Tryz.prog 143 #[.pointer (some ⟨a,0,none⟩),.string ⟨key.toArray⟩,.int .i64 o] w (Eb d a (lZ d x key o) F (look key (ba d x)) w)
theorem Lh(o:Nat)(key:List UInt8):Lg 0 o key:=by
 intro w a lo hi x F h hF hw _ hhi hu;have hks:=hw.none;have hlen:=hw.len;have OJ:=tU hw hu;have hlx:x.ps.length<=1000:=by omega
 have hpos:=dZ key x.ps;have oU:=al (find_ok w F a x key h.base OJ hlx);obtain⟨i,hi⟩: ∃i,posOf key x.ps=i:=⟨_,rfl⟩;rw[hi]at oU hpos;have HH:=al (ab h (ab hF (ab hks (ab hi hlx))));by_cases hh:hit key x.ps=true
 ·obtain⟨v,hv⟩:=fD hh;rw[hi]at hv;have HV:=al (ab hh hv);rw[hh]at oU;clear h hF hw hks hlen OJ hlx hh hi hu hhi;go_enter Tryz.func143,Tryz.ntmps143;go_wp2_with fail;refine oU.out.mono ?_;rintro e w2 ⟨rfl,hb2⟩;have h2:=HH.out.1.below hb2;obtain⟨hd0,vp,vk,aA,H,hO,-⟩:=h2.open_;have hp0:aA=[]:=db (by rw[hO.2.2.2.2.1,HH.out.2.2.1];rfl);subst hp0;obtain⟨bl,ol,cl,e0,-,-,-⟩:=hO.2.2.1.pair hv;subst e0;obtain⟨A2,c2,e2,-⟩:=hO.2.2.2.1.slice;have e2:vk=.slice A2 0 c2:=by simpa using e2
  subst e2;obtain⟨n,hn⟩: ∃y,x.ps.length=y:=⟨_,rfl⟩;rw[hn]at hO hpos;have hil:=(b8.1 hv).1;have HA:=al (ab hO (ab hb2 hn));obtain⟨⟨z0,z1⟩,-,-⟩:=ae hO.1;have iW:=al (dG w2 a c2 A2 z1);obtain⟨⟨s0,s1⟩,-,-⟩:=hO.2.2.1.jS hv;have j2:(0:Int)<=(i:Int):=by omega
  have j3:(i:Int)<(n:Int):=by omega
  have j4:n<=1000:=by rw[<-hn];exact HH.out.2.2.2.2
  clear oU h2 hd0 hO hb2 hn hv hil hpos;go_wp2_with fail;refine iW.out.mono ?_;rintro e w3 ⟨rfl,hw3⟩;subst hw3;go_wp2_with fail;refine iW.out.mono ?_;rintro e w3 ⟨rfl,hw3⟩;subst hw3;clear iW z1;go_wp2_with fail;have hil:=(b8.1 HV.out.2).1;refine(kD w2 (H 1) _ (x.ps.map ax) i _ _ rfl (by first|rfl|simp|omega) HA.out.1.2.2.1 (by rw[fb];exact hil) (by rw[fb];exact HH.out.2.2.2.2) (dA _)).mono ?_;rintro e w9 ⟨v9,rfl,cu,eU⟩;rw[<-mc,<-kn,<-im]at cu;obtain⟨A9,c9,fQ,-⟩:=cu.slice;obtain⟨n9,fG⟩: ∃y,((x.ps.take i++x.ps.drop (i+1)).map ax).length=y:=⟨_,rfl⟩;rw[fG]at fQ;subst fQ;clear fG z0 s0 s1 hil;have RZ:=eU.heap HA.out.1.1 (fun q hh=>HA.out.1.own.2.1 1 0 a q (by decide) hh (HA.out.1.2.1 q));have H9:=al (ab cu (ab eU RZ));obtain⟨⟨z0,-⟩,zf,-⟩:=ae RZ;clear cu eU RZ;go_wp2_with fail
  go_ret2
  have hF2: ∀b q,F b q->b<w2.heap.size:=fun b q hh=>cq (HH.out.2.1 b q hh) HA.out.2.1.size
  have hr:=aS.nW (d:=0) (w':=w9.setCell ⟨a,0,none⟩ (.slice A9 n9 c9)) HA.out.1 (fun _=>HH.out.2.2.1) hF2 (iE H9.out.2.2 (.slice A9 n9 c9))
   ((H9.out.2.1.mono (fun b q _ hh=>.inl hh)).trans (OnlyC.bp w9 a 0 (.slice A9 n9 c9)) (fun b q _ e=>.inr e.1)) ((H9.out.1.only (OnlyC.bp w9 a 0 (.slice A9 n9 c9)) (fun b q hh e=>HA.out.1.own.2.2 1 b q (by decide) hh e.1)).mono (fun b q hh=>.inl hh))
  rw[HH.out.2.2.1]at hr;have hi2:=HH.out.2.2.2.1;rw[xE HV.out.1,hi2];have hlk:look key x.ps=some v:=qR (by rw[hi2];exact HV.out.2);rw[show look key (ba 0 x)=some v from hlk];exact⟨rfl,hr.1.mono (fun b q hh=>hh.imp id (fun h=>de HA.out.2.1.size h)),(oE HA.out.2.1 F).trans hr.2 (fun _ _ _ h=>h)⟩
 ·simp only[Bool.not_eq_true]at hh;have HV:=al hh;rw[hh]at oU;clear h hF hw hks hlen OJ hlx hh hi hu hhi;go_enter Tryz.func143,Tryz.ntmps143;go_wp2_with fail;refine oU.out.mono ?_;rintro e w2 ⟨rfl,hb2⟩;have h2:=HH.out.1.below hb2;obtain⟨hd0,vp,vk,aA,H,hO,-⟩:=h2.open_;have hp0:aA=[]:=db (by rw[hO.2.2.2.2.1,HH.out.2.2.1];rfl);subst hp0;obtain⟨A2,c2,e2,-⟩:=hO.2.2.2.1.slice;have e2:vk=.slice A2 0 c2:=by simpa using e2
  subst e2;have HA:=al (ab h2 hb2);obtain⟨⟨z0,z1⟩,-,-⟩:=ae hO.1;have iW:=al (dG w2 a c2 A2 z1);clear oU h2 hd0 hO hb2 z0 z1;go_wp2_with fail;refine iW.out.mono ?_;rintro e w3 ⟨rfl,hw3⟩;subst hw3;go_wp2_with fail
  go_ret2
  rw[tO HV.out,show look key (ba 0 x)=none from Bq HV.out];exact⟨rfl,HA.out.1.mono (fun b q hh=>.inl hh),oE HA.out.2 F⟩
theorem R5(d o:Nat)(key:List UInt8)(ih:Lg d o key)(ho:2<=o)(eo:o<=16)(w:World)(a lo hi:Nat)(x:ND)(F:Nat->Nat->Prop)(h:ay w (d+1) a x F)(hF: ∀b q,F b q->b<w.heap.size)(hw:eX (d+1) o lo hi x)(hlo:1<=lo)(hhi:hi<=900)(hu:Up (ba (d+1) x))(hh:hit key x.ps=false):
  Calls Tryz.prog 143 #[.pointer (some ⟨a,0,none⟩),.string ⟨key.toArray⟩,.int .i64 o] w (Eb (d+1) a (lZ (d+1) x key o) F (look key (ba (d+1) x)) w):=by
 have hlen:=hw.len;have lG:=hw.kids;have OJ:=tU hw hu;have hlx:x.ps.length<=1000:=by omega
 have hpos:=dZ key x.ps;have oU:=al (find_ok w F a x key h.base OJ hlx);rw[hh]at oU;have hk:=df (x:=x) (i:=posOf key x.ps) (by omega);have wk:=hw.2.2.2 _ (dd hk)
 have XA:Up (ba d (aQ x (posOf key x.ps))):=by have hu2:=hu;rw[<-dD x]at hu2;exact Up.kid lG hu2 hk
 have wl:=(yZ ho key wk (.inl (by omega)) XA).2;have qj:=jy hw (i:=posOf key x.ps) (by omega) (by rw[show o-1-1=o-2 by omega]at wl;exact wl)
 have mI:look key (ba (d+1) x)=look key (ba d (aQ x (posOf key x.ps))):=by have hu2:=hu;rw[<-dD x]at hu2;rw[<-dD x];exact y8 lG hu2 hh hk
 rw[yY hh,mI];clear mI wl;obtain⟨i,hi1⟩: ∃i,posOf key x.ps=i:=⟨_,rfl⟩;rw[hi1]at oU hpos hk wk XA qj⊢;have HH:=al (ab h (ab hF (ab hk (ab wk (ab XA (ab qj (ab hlo (ab hhi ih))))))));clear h hF hw hlo hhi hu hh OJ hk wk XA qj hi1 ih;go_enter Tryz.func143,Tryz.ntmps143;go_wp2_with fail;refine oU.out.mono ?_;rintro e w2 ⟨rfl,hb2⟩;have h2:=HH.out.1.below hb2;obtain⟨-,vp,vk,aA,H,hO,-⟩:=h2.open_;obtain⟨l,hl⟩: ∃y,aA[i]?=some y:=⟨_,ao (by rw[hO.2.2.2.2.1];omega)⟩;obtain⟨bk,ok,ck,e0,-,-,r1⟩:=hO.2.2.2.1.ptr hl;subst e0;obtain⟨nk,jP⟩: ∃y,aA.length=y:=⟨_,rfl⟩;have gN:=hO.2.2.2.2.1;rw[jP]at hO gN;have hF2: ∀b q,F b q->b<w2.heap.size:=fun b q hh=>cq (HH.out.2.1 b q hh) hb2.size;have Dt:=al (HH.out.2.2.2.2.2.2.2.2 w2 l (o-1) (2*o-1) (aQ x i) (H (i+3)) (hO.2.2.2.2.2.1 i l _ hl HH.out.2.2.1) (fun b q hh=>hF2 b q (hO.own.1 _ b q hh)) HH.out.2.2.2.1 (.inl (by omega)) (by omega) HH.out.2.2.2.2.1);have HA:=al (ab hO (ab hb2 (ab hF2 hl)));obtain⟨⟨-,z1⟩,-,-⟩:=ae hO.1;have iW:=al (eQ w2 a nk ck _ (by omega) z1);have j2:(0:Int)<=(i:Int):=by omega
 have j3:(i:Int)<(nk:Int):=by omega
 have j4:nk<=1001:=by omega
 clear oU h2 hO hb2 hF2 hl jP gN hlen lG hlx hpos;go_wp2_with fail;refine iW.out.mono ?_;rintro e w3 ⟨rfl,hw3⟩;subst hw3;go_wp2_with fail;refine iW.out.mono ?_;rintro e w3 ⟨rfl,hw3⟩;subst hw3;clear iW;go_wp2_with fail;refine Dt.out.mono ?_;rintro e w3 ⟨rfl,ln,rX⟩;obtain⟨s0,hs0⟩: ∃s,(⟨((look key (ba d (aQ x i))).getD []).toArray⟩:ByteArray)=s:=⟨_,rfl⟩;obtain⟨b0,hb0⟩: ∃b,(look key (ba d (aQ x i))).isSome=b:=⟨_,rfl⟩;rw[hs0,hb0];have lV:=al (ab hs0 hb0);have hr:=HA.out.1.FX HA.out.2.2.1 HH.out.2.2.1 HA.out.2.2.2 rX ln;have hb4:=hr.1.bound;have H4:=al (ab hr.2 hb4);have HM:=al (zx w3 d a i o lo hi _ _ hb4 (fun b q hh=>hh.2) HH.out.2.2.2.2.2.1 HH.out.2.2.2.2.2.2.1 HH.out.2.2.2.2.2.2.2.1 ho eo);clear Dt z1 r1 hr hb4 ln rX hs0 hb0;go_wp2_with fail;refine HM.out.mono ?_;rintro e w5 ⟨rfl,KY,jR⟩;have H5:=al (ab KY jR);clear HM KY jR;go_wp2_with fail
 go_ret2
 have h6:=HA.out.2.1.size;have h7:=H4.out.1.size;refine⟨by rw[lV.out.1,lV.out.2];rfl,H5.out.1.mono (fun b q hh=>?_),((oE HA.out.2.1 F).trans H4.out.1 (fun _ _ _ h=>h)).trans H5.out.2 (fun b q hb hh=>hh.1.elim id (fun h=>by omega))⟩;rcases hh with hh|hh
 ·exact hh.1.imp id (fun h=>by omega)
 ·exact .inr (by omega)
theorem OL(d o:Nat)(key:List UInt8)(ho:2<=o)(eo:o<=16)(w:World)(a lo hi:Nat)(x:ND)(F:Nat->Nat->Prop)(h:ay w (d+1) a x F)(hF: ∀b q,F b q->b<w.heap.size)(hw:eX (d+1) o lo hi x)(hlo:1<=lo)(hhi:hi<=900)(hu:Up (ba (d+1) x))(hh:hit key x.ps=true):
  Calls Tryz.prog 143 #[.pointer (some ⟨a,0,none⟩),.string ⟨key.toArray⟩,.int .i64 o] w (Eb (d+1) a (lZ (d+1) x key o) F (look key (ba (d+1) x)) w):=by
 have hlen:=hw.len;have lG:=hw.kids;have OJ:=tU hw hu;have hlx:x.ps.length<=1000:=by omega
 have hpos:=dZ key x.ps;obtain⟨v,hv⟩:=fD hh
 have mI:look key (ba (d+1) x)=some v:=by have hu2:=hu;rw[<-dD x]at hu2⊢;exact tP lG hu2 hh hv
 have oU:=al (find_ok w F a x key h.base OJ hlx);rw[hh]at oU;have hk:=df (x:=x) (i:=posOf key x.ps) (by omega);have wk:=hw.2.2.2 _ (dd hk);have wl:=(pT ho wk (by omega)).2;rw[Bp hh,mI];obtain⟨i,hi1⟩: ∃i,posOf key x.ps=i:=⟨_,rfl⟩;rw[hi1]at oU hpos hk wk wl hv⊢;obtain⟨⟨zk,zv⟩,hz⟩: ∃p,(fI d (aQ x i) o).2=p:=⟨_,rfl⟩;rw[hz];have YU:=(b8.1 hv).1;have Xq:eX (d+1) o lo hi (mS x i (zk,zv)):=⟨by simp[mS];omega,by simp[mS];omega,by simp[mS];omega,hw.2.2.2⟩;have qj:=jy Xq (i:=i) (by show i<x.ks.length;omega) (by rw[show o-1-1=o-2 by omega]at wl;exact wl);have HH:=al (ab h (ab hF (ab hk (ab wk (ab hv (ab qj (ab hlo (ab hhi hz))))))));clear h hF hw hlo hhi hu hh OJ hk wk wl qj hi1 hv Xq mI;go_enter Tryz.func143,Tryz.ntmps143;go_wp2_with fail;refine oU.out.mono ?_;rintro e w2 ⟨rfl,hb2⟩;have h2:=HH.out.1.below hb2;obtain⟨-,vp,vk,aA,H,hO,-⟩:=h2.open_;obtain⟨l,hl⟩: ∃y,aA[i]?=some y:=⟨_,ao (by rw[hO.2.2.2.2.1];omega)⟩;obtain⟨bk,ok,ck,e0,-,-,r1⟩:=hO.2.2.2.1.ptr hl;subst e0;obtain⟨bn,on,cn,e0,-,-,s0,s1,-⟩:=hO.2.2.1.pair HH.out.2.2.2.2.1;subst e0;obtain⟨nk,jP⟩: ∃y,aA.length=y:=⟨_,rfl⟩;obtain⟨np,mH⟩: ∃y,x.ps.length=y:=⟨_,rfl⟩;have gN:=hO.2.2.2.2.1;have hin:=hO.2.2.2.1.Cc (i:=i) (by rw[gN];omega);rw[jP]at hO gN;rw[mH]at hO;have hF2: ∀b q,F b q->b<w2.heap.size:=fun b q hh=>cq (HH.out.2.1 b q hh) hb2.size;have HA:=al (ab hO (ab hb2 (ab hF2 (ab hl (ab hin mH)))));obtain⟨⟨z0,z1⟩,-,-⟩:=ae hO.1;have iW:=al (eQ w2 a nk ck _ (by omega) z1);have j2:(0:Int)<=(i:Int):=by omega
 have j3:(i:Int)<(nk:Int):=by omega
 have j4:nk<=1001:=by omega
 have j5:(i:Int)<(np:Int):=by omega
 have tS:=ab z0 (ab z1 r1);clear oU h2 hO hb2 hF2 hl jP gN hlen lG hlx hpos hin mH YU;go_wp2_with fail;refine iW.out.mono ?_;rintro e w3 ⟨rfl,hw3⟩;subst hw3;go_wp2_with fail;refine iW.out.mono ?_;rintro e w3 ⟨rfl,hw3⟩;subst hw3;clear iW;go_upto_region 11 with fail;clear z0 z1 r1 s0 s1;refine pb (S:=(fun W=>W.cell? ⟨a,0,none⟩=some (.slice (some ⟨bn,on,none⟩) np cn)/\W.cell? ⟨a,1,none⟩=some (.slice (some ⟨bk,ok,none⟩) nk ck)/\W.cell? ⟨bk,ok+i,none⟩=some (.pointer (some ⟨l,0,none⟩)))) (by kernel_rfl) tS (fun pt=>?_);generalize hW3:World.drew w2=W3 at pt⊢;have hbW:Below w2.heap.size w2 W3:=hW3▸(aw _ _).drew;have HB:=al (ab (aS.below (d:=d+1) HA.out.1 hbW) hbW);clear hW3 tS hbW;refine aM [0,1,2,3,4,5,6,7,8,9,10,11,12] ?_
 iterate 13 (refine bX (v:=?_) (fun wS hSw=>?_) pt ?_;rotate_left;(obtain⟨s0,s1,s2⟩:=hSw;go_simp;try with_reducible rfl);try simp only[ai,aj,ak,ar])
 refine aN ?_;refine aW 13 (fun K hK=>?_);go_simp;refine(Gl ho eo d W3 l (o-1) (2*o-1) (aQ x i) (H (i+3)) (HB.out.1.2.2.2.2.2.1 i l _ HA.out.2.2.2.1 HH.out.2.2.1) (fun b q hh=>cq (HA.out.2.2.1 b q (HA.out.1.own.1 _ b q hh)) HB.out.2.size) HH.out.2.2.2.1 (by omega) (by omega)).mono ?_;rintro e wn ⟨rfl,ln,rX⟩;have HK:=al (ab ln rX);clear ln rX;rw[HH.out.2.2.2.2.2.2.2.2];unfold NA;simp only
 try go_simp
 refine hK.out _ _ (gD pt HK.out.2 (HA.out.1.own.2.1 0 (i+3) a 0 (by omega) (HA.out.1.2.1 0)) (HA.out.1.own.2.1 0 (i+3) a 1 (by omega) (HA.out.1.2.1 1)) (HA.out.1.own.2.1 2 (i+3) bk (ok+i) (by omega) HA.out.2.2.2.2.1)) ?_;clear hK K pt;intro pt
 try simp only[ai,aj,ak,ar]
 refine fJ 14 (v:=?_) (fun wS hSw=>?_) pt ?_;rotate_left
 ·obtain⟨s0,s1,s2⟩:=hSw;go_simp;try with_reducible rfl
 try simp only[ai,aj,ak,ar]
 refine aW 15 (fun K hK=>?_);have hs4:=(HB.out.1.2.2.1.only HK.out.2 (fun b q=>HA.out.1.own.2.1 1 (i+3) b q (by omega)));obtain⟨⟨c5,c6⟩,f5,f6⟩:=hs4.jS HH.out.2.2.2.2.1;go_simp;refine hK.out _ _ (gD pt ((HB.out.1.2.2.1.only HK.out.2 (fun b q=>HA.out.1.own.2.1 1 (i+3) b q (by omega))).fe (i:=i) zk zv (b8.1 HH.out.2.2.2.2.1).1).2 (fun hh=>HA.out.1.own.2.2 1 a 0 (by decide) hh rfl) (fun hh=>HA.out.1.own.2.2 1 a 1 (by decide) hh rfl) (fun hh=>HA.out.1.own.2.1 1 2 bk (ok+i) (by decide) hh HA.out.2.2.2.2.1)) ?_;clear hK K pt hs4 c5 c6 f5 f6;intro pt
 try simp only[ai,aj,ak,ar]
 refine pf (by kernel_rfl) ?_ _;clear pt;have hr:=HB.out.1.FX (fun b q hh=>cq (HA.out.2.2.1 b q hh) HB.out.2.size) HH.out.2.2.1 HA.out.2.2.2.1 HK.out.2 HK.out.1;obtain⟨-,vp5,vk5,aak,H5,gN,-⟩:=hr.1.bound.open_;have hae:=HK.out.2.heap HB.out.1.1 (fun q hh=>HA.out.1.own.2.1 0 (i+3) a q (by omega) (HA.out.1.2.1 q) hh);have hee:=gN.1.symm.trans hae;simp only[fj,Obj.cells.injEq,Array.mk.injEq,List.cons.injEq,and_true]at hee;obtain⟨e5,e6⟩:=hee;subst e5;have hsp:=gN.2.2.1.fe (i:=i) zk zv (b8.1 HH.out.2.2.2.2.1).1;have XB:=gN.nW (w':=((wn.setCell ⟨bn,on+i*2,none⟩ (.string ⟨zk.toArray⟩)).setCell ⟨bn,on+i*2+1,none⟩ (.string ⟨zv.toArray⟩))) (fun e=>by omega) (fun b q hh=>hh.2) (hsp.2.heap gN.1 (fun q hh=>gN.own.2.1 1 0 a q (by decide) hh (gN.2.1 q))) (hsp.2.mono (fun _ _ _ hh=>.inl hh)) (hsp.1.mono (fun _ _ hh=>.inl hh));generalize ((wn.setCell ⟨bn,on+i*2,none⟩ (.string ⟨zk.toArray⟩)).setCell ⟨bn,on+i*2+1,none⟩ (.string ⟨zv.toArray⟩))=w4 at XB⊢;have hb4:=XB.1.bound;have HM:=al (zx w4 d a i o lo hi _ _ hb4 (fun b q hh=>hh.2) HH.out.2.2.2.2.2.1 HH.out.2.2.2.2.2.2.1 HH.out.2.2.2.2.2.2.2.1 ho eo);have H4:=al (ab hr.2 (ab XB.2 hb4));clear hr gN hae e6 hsp XB hb4;go_wp2_with fail;refine HM.out.mono ?_;rintro e w5 ⟨rfl,KY,jR⟩;have H5:=al (ab KY jR);clear HM KY jR;go_wp2_with fail
 go_ret2
 have h6:=HA.out.2.1.size;have h7:=H4.out.1.size;have h8:=H4.out.2.1.size;have h9:=HB.out.2.size;have oA:OnlyC F w w4:=(((oE HA.out.2.1 F).trans (oE HB.out.2 F) (fun _ _ _ h=>h)).trans H4.out.1 (fun _ _ _ h=>h)).trans H4.out.2.1 (fun b q hb hh=>hh.1.elim id (fun h=>by omega));refine⟨rfl,H5.out.1.mono (fun b q hh=>?_),oA.trans H5.out.2 (fun b q hb hh=>hh.1.elim (fun h=>h.1.elim id (fun h=>by omega)) (fun h=>by omega))⟩;rcases hh with hh|hh
 ·rcases hh.1 with hh|hh
  ·exact hh.1.imp id (fun h=>by omega)
  ·exact .inr (by omega)
 ·exact .inr (by omega)
theorem Li{o:Nat}(ho:2<=o)(eo:o<=16)(key:List UInt8): ∀d,Lg d o key
 |0=>Lh o key
 |d+1=>fun w a lo hi x F h hF hw hlo hhi hu=>by
  have Ve:1<=lo:=by rcases hlo with h|h;exact h;omega
  by_cases hh:hit key x.ps=true
  ·exact OL d o key ho eo w a lo hi x F h hF hw Ve hhi hu hh
  ·simp only[Bool.not_eq_true]at hh;exact R5 d o key (Li ho eo key d) ho eo w a lo hi x F h hF hw Ve hhi hu hh
def Lj(T o:Nat)(l:List Pr)(key:List UInt8)(F:Nat->Nat->Prop)(w:World)(e:Ending)(w':World):Prop:=
 e=.returned (.tuple #[.string ⟨((look key l).getD []).toArray⟩,.int .i64 (if(look key l).isSome then 0 else 14)])/\bC w' T o (del key l) (fun b q=>F b q\/w.heap.size<=b)/\OnlyC F w w'
theorem sX{w W9:World}{T o d r:Nat}{l:List Pr}{y:ND}{F K9:Nat->Nat->Prop}{key:List UInt8}{cnt:Int}(hup:Up l)(ho:2<=o)(eo:o<=16)(qf: ∀q,F T q)
  (k9:W9.heap[T]?=some (.cells #[.int .i64 o,.int .i64 cnt,.pointer (some ⟨r,0,none⟩)] 203 (0,0))) (RQ:cnt=(del key l).length) (hn:ay W9 d r y K9) (hK: ∀b q,K9 b q->F b q\/w.heap.size<=b) (OE: ∀q,¬K9 T q)
  (hwf:eX d o (if d=0 then 0 else 1) (2*o-1) y) (htl:ba d y=del key l):bC W9 T o (del key l) (fun b q=>F b q\/w.heap.size<=b):=by
 subst RQ;exact⟨d,r,y,K9,k9,hn,hwf,htl,by rw[del_eq];exact fX hup,⟨ho,eo⟩,hK,fun q=>.inl (qf q),OE⟩
theorem x8{o:Nat}(key:List UInt8): ∀{d lo hi:Nat} {x:ND},eX d o lo hi x->Up (ba d x)->look key (ba d x)=none->lZ d x key o=x
 |0,lo,hi,x,hw,hu,hl=>by
  by_cases hh:hit key x.ps=true
  ·obtain⟨v,hv⟩:=fD hh;have h1:look key x.ps=some v:=qR hv;rw[show look key (ba 0 x)=look key x.ps from rfl,h1]at hl;cases hl
  ·exact tO (by simpa using hh)
 |d+1,lo,hi,x,hw,hu,hl=>by
  have lG:=hw.kids;have hpos:=dZ key x.ps;have hk:=df (x:=x) (i:=posOf key x.ps) (by omega);have hu2:=hu;rw[<-dD x]at hu2;by_cases hh:hit key x.ps=true
  ·obtain⟨v,hv⟩:=fD hh;have h1:=tP lG hu2 hh hv;rw[dD,hl]at h1;cases h1
  ·simp only[Bool.not_eq_true]at hh;have h1:=y8 lG hu2 hh hk;rw[dD,hl]at h1;have wk:=hw.2.2.2 _ (dd hk);have ih:=x8 key wk (Up.kid lG hu2 hk) h1.symm
   have hs:pz x (posOf key x.ps) (aQ x (posOf key x.ps))=x:=by unfold pz;rw[<-dI hk,dD]
   rw[yY hh,ih,hs];unfold jd;rw[fi wk.len.1]
theorem zA{key:List UInt8}{l:List Pr}(h:(look key l).isSome=false):(del key l)=l:=by
 rw[del_eq];refine gY ?_;rw[look_eq]at h
 cases e:au key l with
 |none=>rfl
 |some v=>rw[e]at h;simp at h
theorem zB{key:List UInt8}{l:List Pr}(h:(look key l).isSome=true):(del key l).length+1=l.length:=by
 rw[del_eq];rw[look_eq]at h
 cases e:au key l with
 |none=>rw[e]at h;simp at h
 |some v=>exact tR e
theorem Ej(w:World)(T o:Nat)(l:List Pr)(F:Nat->Nat->Prop)(key:List UInt8)(h:bC w T o l F)(hF: ∀b q,F b q->b<w.heap.size)(hk1:1<=key.length)(hk2:key.length<=64)(hl:l.length<=1000000):
  Calls Tryz.prog 98 #[.pointer (some ⟨T,0,none⟩),.string ⟨key.toArray⟩] w (Lj T o l key F w):=by
 obtain⟨d,r,x,KK,k0,hn,hwf,htl,hup,⟨ho,eo⟩,UX,qf,OE⟩:=h;obtain⟨⟨t0,-,t2⟩,-,-⟩:=ed k0;have tS:=ab t0 t2;have HC:=al (jm w T ⟨key.toArray⟩ (by exact hk1) (by exact hk2));have R6:=yZ ho key hwf (by by_cases e:d=0;exact .inr e;exact .inl (by rw[ff e];exact aq _)) (by rw[htl];exact hup);rw[htl]at R6;have IB:=al R6;have HA:=al (ab k0 (ab hn (ab hwf (ab htl (ab hup (ab ho (ab eo (ab UX (ab qf (ab OE (ab hF hl)))))))))));clear k0 hn hwf htl hup ho eo UX qf OE hF hl hk1 hk2 t0 t2 R6;go_enter Tryz.func98,Tryz.ntmps98;go_wp2_with fail;refine HC.out.mono ?_;rintro e w1 ⟨rfl,hw1⟩;obtain rfl:w=w1:=hw1.symm;clear HC;go_upto_region 4 with fail;refine pb (S:=(fun W=>W.cell? ⟨T,0,none⟩=some (.int .i64 o)/\W.cell? ⟨T,2,none⟩=some (.pointer (some ⟨r,0,none⟩)))) (by kernel_rfl) tS (fun pt=>?_);generalize hW3:World.drew w=W3 at pt⊢;have HB:=al (show ay W3 d r x KK/\W3.heap[T]?=some (.cells #[.int .i64 o,.int .i64 l.length,.pointer (some ⟨r,0,none⟩)] 203 (0,0))/\Below w.heap.size w W3 from hW3▸⟨HA.out.2.1.below (aw _ _).drew,HA.out.1,(aw _ _).drew⟩);clear hW3 tS;refine aM [0,1,2,3,4,5,6,7,8] ?_
 iterate 9 (refine bX (v:=?_) (fun wS hSw=>?_) pt ?_;rotate_left;(obtain⟨s0,s1⟩:=hSw;go_simp;try with_reducible rfl);try simp only[ai,aj,ak,ar])
 refine aN ?_;refine aW 9 (fun K hK=>?_);go_simp;refine(Li HA.out.2.2.2.2.2.1 HA.out.2.2.2.2.2.2.1 key d W3 r _ _ x KK HB.out.1 (fun b q hh=>cq (HA.out.2.2.2.2.2.2.2.2.2.2.1 b q (HA.out.2.2.2.2.2.2.2.1 b q hh)) HB.out.2.2.size) HA.out.2.2.1 (by by_cases e:d=0;exact .inr e;exact .inl (by rw[ff e];exact aq _)) (by have:=HA.out.2.2.2.2.2.2.1;omega) (by rw[HA.out.2.2.2.1];exact HA.out.2.2.2.2.1)).mono ?_;rintro e wn ⟨rfl,Qx,how⟩;have HK:=al (ab Qx how);clear Qx how;rw[HA.out.2.2.2.1]
 try go_simp
 refine hK.out _ _ (dt pt HK.out.2 (HA.out.2.2.2.2.2.2.2.2.2.1 0) (HA.out.2.2.2.2.2.2.2.2.2.1 2)) ?_;clear hK K pt;intro pt
 try simp only[ai,aj,ak,ar]
 refine aM [10,11,12,13,14] ?_
 iterate 5 (refine bX (v:=?_) (fun wS hSw=>?_) pt ?_;rotate_left;(obtain⟨s0,s1⟩:=hSw;go_simp;try with_reducible rfl);try simp only[ai,aj,ak,ar])
 refine aN ?_;refine pf (by kernel_rfl) ?_ _;clear pt;obtain⟨b0,hb0⟩: ∃b,(look key l).isSome=b:=⟨_,rfl⟩;obtain⟨s0,hs0⟩: ∃s,(⟨((look key l).getD []).toArray⟩:ByteArray)=s:=⟨_,rfl⟩;rw[hs0,hb0];have lV:=al (ab hs0 hb0);clear hs0 hb0;have k4:=HK.out.2.heap HB.out.2.1 HA.out.2.2.2.2.2.2.2.2.2.1;have RS:OnlyC F w wn:=(oE HB.out.2.2 F).trans HK.out.2 (fun b q _ hh=>HA.out.2.2.2.2.2.2.2.1 b q hh);have Qy:T<w.heap.size:=oS HA.out.1;have lq:=al Qy;clear Qy;have Vf: ∀q,¬(KK T q\/W3.heap.size<=T):=fun q hh=>hh.elim (HA.out.2.2.2.2.2.2.2.2.2.1 q) (fun h=>by have:=lq.out;have:=HB.out.2.2.size;omega);have H4:=al (ab k4 (ab RS Vf));clear k4 RS Vf
 cases b0 with
 |false=>
  go_wp2_with fail
  go_ret2
  have hdn:=zA lV.out.2;have hnone:look key l=none:=by cases e:look key l with|none=>rfl|some v=>have h1:=lV.out.2;rw[e]at h1;simp at h1
  have hsame:=x8 (o:=o) key HA.out.2.2.1 (by rw[HA.out.2.2.2.1];exact HA.out.2.2.2.2.1) (by rw[HA.out.2.2.2.1];exact hnone);have hnd:=HK.out.1;rw[hsame]at hnd;have hte:=sX (F:=F) (w:=w) (cnt:=(l.length:Int)) HA.out.2.2.2.2.1 HA.out.2.2.2.2.2.1 HA.out.2.2.2.2.2.2.1 HA.out.2.2.2.2.2.2.2.2.1 H4.out.1 (by rw[hdn]) hnd (fun b q hh=>hh.elim (fun h=>.inl (HA.out.2.2.2.2.2.2.2.1 b q h)) (fun h=>.inr (de HB.out.2.2.size h))) H4.out.2.2 HA.out.2.2.1 (by rw[hdn];exact HA.out.2.2.2.1);refine⟨?_,hte,H4.out.2.1⟩;rw[hnone];rfl
 |true=>
  obtain⟨⟨-,t1,-⟩,YP,-⟩:=ed H4.out.1;have il:(l.length:Int)<=1000000:=by have:=HA.out.2.2.2.2.2.2.2.2.2.2.2;omega
  have hds:=zB lV.out.2;have il2:(1:Int)<=(l.length:Int):=by omega
  have YV:=al hds;clear hds;go_upto_region 8 with fail;have k5:=Gg H4.out.1 (.int .i64 ((l.length:Int)-1));have Qz:=(HK.out.1.only (OnlyC.bp wn T 1 (.int .i64 ((l.length:Int)-1))) (fun b q hh e=>by have e1:=e.1;rw[e1]at hh;exact H4.out.2.2 q hh)).bound;have RV:=H4.out.2.1.trans (OnlyC.bp wn T 1 (.int .i64 ((l.length:Int)-1))) (fun b q _ e=>by obtain⟨rfl,rfl⟩:=e;exact HA.out.2.2.2.2.2.2.2.2.1 _);clear t1 YP;generalize wn.setCell ⟨T,1,none⟩ (.int .i64 ((l.length:Int)-1))=W9 at k5 Qz RV⊢;obtain⟨hd0,YK,YL,B6,H3,hO,-⟩:=Qz.open_;obtain⟨A3,c3,e3,-⟩:=hO.2.2.1.slice;rw[fb]at e3;subst e3;obtain⟨A4,c4,e4,-⟩:=hO.2.2.2.1.slice;rw[fb]at e4;subst e4;obtain⟨n3,ln⟩: ∃y,(lZ d x key o).ps.length=y:=⟨_,rfl⟩;obtain⟨nk,jP⟩: ∃y,B6.length=y:=⟨_,rfl⟩;rw[ln,jP]at hO;obtain⟨⟨z0,z1⟩,-,-⟩:=ae hO.1;obtain⟨⟨-,-,t2⟩,-,tf2⟩:=ed k5;have HX:=al (ab k5 (ab Qz (ab RV (ab hd0 (ab hO (ab ln jP))))));have hres:look key l=some ((look key l).getD []):=by cases e:look key l with|none=>have h1:=lV.out.2;rw[e]at h1;simp at h1|some v=>rfl
  have Ed:=al hres;clear k5 Qz RV hd0 hO ln hres;by_cases hz:n3=0
  ·subst hz;by_cases hk:nk=0
   ·have Vg:d=0:=by
     cases d with
     |zero=>rfl
     |succ d1=>have h1:=IB.out.2.kids;have h2:=HX.out.2.2.2.2.1.2.2.2.2.1;have h3:=HX.out.2.2.2.2.2.2;have h4:=HX.out.2.2.2.2.2.1;omega
    have HD:=al Vg;subst hk;have HL:=al (dG W9 r c4 A4 z1);clear Vg;go_wp2_with fail;refine HL.out.mono ?_;rintro e wL ⟨rfl,YW⟩;subst YW;go_wp2_with fail
    go_ret2
    have hte:=sX (F:=F) (w:=w) (cnt:=(l.length:Int)-1) HA.out.2.2.2.2.1 HA.out.2.2.2.2.2.1 HA.out.2.2.2.2.2.2.1 HA.out.2.2.2.2.2.2.2.2.1 HX.out.1 (by have:=YV.out;omega) HX.out.2.1 (fun b q hh=>hh.1.elim (fun h=>.inl (HA.out.2.2.2.2.2.2.2.1 b q h)) (fun h=>.inr (de HB.out.2.2.size h))) (fun q hh=>H4.out.2.2 q hh.1) (IB.out.2.re (by rw[fi (HD.out)];exact dj _) IB.out.2.len.2) IB.out.1;exact⟨by rw[lV.out.1,lV.out.2];rfl,hte,HX.out.2.2.1⟩
   ·obtain⟨d1,rfl⟩: ∃d1,d=d1+1:=by
     cases d with
     |zero=>exfalso;have h1:=IB.out.2.none;have h2:=HX.out.2.2.2.2.1.2.2.2.2.1;have h3:=HX.out.2.2.2.2.2.2;rw[h1]at h2;simp at h2;subst h2;simp at h3;omega
     |succ d1=>exact⟨d1,rfl⟩
    obtain⟨l0,hl0⟩: ∃y,B6[0]?=some y:=⟨_,ao (by have:=HX.out.2.2.2.2.2.2;omega)⟩;obtain⟨k9,F7⟩: ∃y,(lZ (d1+1) x key o).ks[0]?=some y:=⟨_,ao (by have:=IB.out.2.kids;omega)⟩;obtain⟨bk,ok,ck,e5,-,-,r1⟩:=HX.out.2.2.2.2.1.2.2.2.1.ptr hl0;simp only[gR]at e5;obtain⟨rfl,-,rfl⟩:=e5;rw[mu]at r1;have XC:=al (ab hl0 F7);have j1:(0:Int)<(nk:Int):=by omega
    have j2:nk<=1000000:=by have h1:=IB.out.2.kids;have h2:=HX.out.2.2.2.2.1.2.2.2.2.1;have h3:=HX.out.2.2.2.2.2.2;have h4:=HX.out.2.2.2.2.2.1;omega
    have HL:=al (eQ W9 r nk c4 _ (by omega) z1);clear hl0 F7 hk;go_wp2_with fail;refine HL.out.mono ?_;rintro e wL ⟨rfl,YW⟩;subst YW;go_wp2_with fail
    go_ret2
    have YX:=HX.out.2.2.2.2.1.2.2.2.2.2.1 0 l0 k9 XC.out.1 XC.out.2;have hwk:=IB.out.2.2.2.2 k9 (dd XC.out.2);have Ll:=fun b q (hh:H3 3 b q)=>HX.out.2.2.2.2.1.own.1 3 b q hh;have Vh:=(show ay W9 d1 l0 k9 (H3 3)from YX).only (OnlyC.bp W9 T 2 (.pointer (some ⟨l0,0,none⟩))) (fun b q hh e=>by have e1:=e.1;rw[e1]at hh;exact H4.out.2.2 q (Ll _ q hh).1)
    have hks:(lZ (d1+1) x key o).ks=[k9]:=by
     have h1:=IB.out.2.kids;have h4:=HX.out.2.2.2.2.2.1;rw[h4]at h1
     match hq:(lZ (d1+1) x key o).ks,h1 with
     |[y],_=>have h5:=XC.out.2;rw[hq]at h5;simpa using h5
    have YY:ba d1 k9=del key l:=by rw[<-IB.out.1];have hps:(lZ (d1+1) x key o).ps=[]:=db HX.out.2.2.2.2.2.1;show _=flat ((lZ (d1+1) x key o).ks.map (ba d1)) (lZ (d1+1) x key o).ps;rw[hks,hps];rfl
    have hte:=sX (F:=F) (w:=w) (cnt:=(l.length:Int)-1) HA.out.2.2.2.2.1 HA.out.2.2.2.2.2.1 HA.out.2.2.2.2.2.2.1 HA.out.2.2.2.2.2.2.2.2.1 (zq HX.out.1 (.pointer (some ⟨l0,0,none⟩))) (by have:=YV.out;omega) Vh (fun b q hh=>(Ll b q hh).1.elim (fun h=>.inl (HA.out.2.2.2.2.2.2.2.1 b q h)) (fun h=>.inr (de HB.out.2.2.size h))) (fun q hh=>H4.out.2.2 q (Ll _ q hh).1) (hwk.re (by have h1:=hwk.len.1;have:=HA.out.2.2.2.2.2.1;split<;>omega) hwk.len.2) YY;exact⟨by rw[lV.out.1,lV.out.2];rfl,hte,HX.out.2.2.1.trans (OnlyC.bp W9 T 2 _) (fun b q _ e=>by obtain⟨rfl,rfl⟩:=e;exact HA.out.2.2.2.2.2.2.2.2.1 _)⟩
  ·have hz2:((n3:Int)==0)=false:=by rw[beq_eq_false_iff_ne];omega
   have HZ:=al hz;go_wp2_with fail
   go_ret2
   have hte:=sX (F:=F) (w:=w) (cnt:=(l.length:Int)-1) HA.out.2.2.2.2.1 HA.out.2.2.2.2.2.1 HA.out.2.2.2.2.2.2.1 HA.out.2.2.2.2.2.2.2.2.1 HX.out.1 (by have:=YV.out;omega) HX.out.2.1 (fun b q hh=>hh.1.elim (fun h=>.inl (HA.out.2.2.2.2.2.2.2.1 b q h)) (fun h=>.inr (de HB.out.2.2.size h))) (fun q hh=>H4.out.2.2 q hh.1) (IB.out.2.re (by have h1:=HX.out.2.2.2.2.2.1;have h2:=HZ.out;split<;>omega) IB.out.2.len.2) IB.out.1;exact⟨by rw[lV.out.1,lV.out.2];rfl,hte,HX.out.2.2.1⟩
def uB:Nat->World->Value->Nat
 |0,_,_=>0
 |f+1,w,.pointer (some ⟨p,_,_⟩)=>match w.cell? ⟨p,1,none⟩with
  |some (.slice (some ad) (_+1) _)=>match w.cell? ad with
   |some q=>uB f w q+1
   |none=>0
  |_=>0
 |_+1,_,_=>0
theorem lH{w:World}{o:Nat}: ∀(d f lo:Nat) (p:Nat) (x:ND) (K:Nat->Nat->Prop),ay w d p x K->eX d o lo (2*o-1) x->d<=f->uB f w (.pointer (some ⟨p,0,none⟩))=d
 |0,0,_,_,_,_,_,_,_=>rfl
 |0,f+1,lo,p,x,K,h,hw,_=>by
  obtain⟨hd0,vp,vk,aA,H,hO,_⟩:=h.open_;have hp0:aA=[]:=db (by rw[hO.2.2.2.2.1,hd0 rfl];rfl);subst hp0;obtain⟨A,c,e,_⟩:=hO.2.2.2.1.slice;have e:vk=.slice A 0 c:=by simpa using e
  subst e;have z1:=(ae hO.1).1.2;simp only[uB,z1]
 |d+1,0,_,_,_,_,_,_,hf=>by omega
 |d+1,f+1,lo,p,x,K,h,hw,hf=>by obtain⟨hd0,vp,vk,aA,H,hO,_⟩:=h.open_;have hkl:=hw.kids;obtain⟨k,hk⟩: ∃k,x.ks[0]?=some k:=⟨_,ao (by omega)⟩;obtain⟨l,hl⟩: ∃l,aA[0]?=some l:=⟨_,ao (by rw[hO.2.2.2.2.1];omega)⟩;obtain⟨b,off,c,rfl,_,_,r2⟩:=hO.2.2.2.1.ptr hl;have z1:=(ae hO.1).1.2;have ih:=lH d f _ l k _ (show ay w d l k _ from hO.2.2.2.2.2.1 0 l k hl hk) (hw.2.2.2 k (dd hk)) (by omega);obtain⟨n,hn⟩: ∃n,aA.length=n+1:=⟨aA.length-1,by have:=(b8.1 hl).1;omega⟩;rw[hn]at z1;rw[mu]at r2;simp only[uB,z1,r2,ih]
def Vi(c:Option Pr):List UInt8:=(c.map Prod.fst).getD []
def Vj(c:Option Pr):List UInt8:=(c.map Prod.snd).getD []
def TQ(c:Option Pr):Int:=if c.isSome then 0 else 14
def QE(o d0:Nat)(key:List UInt8)(l:List Pr)(w:World)(k v e q:Value)(wr:World):Prop:=
 ∃(d p lo:Nat) (x:ND) (KK:Nat->Nat->Prop) (c:Option Pr),k=.string ⟨(Vi c).toArray⟩/\v=.string ⟨(Vj c).toArray⟩/\e=.int .i64 (TQ c)/\q=.pointer (some ⟨p,0,none⟩)/\ay wr d p x KK/\eX d o lo (2*o-1) x/\Up (ba d x)/\(ceil key (ba d x)).or c=ceil key l/\Below w.heap.size w wr/\d<=d0
def Vk(key:List UInt8)(l:List Pr)(w:World)(e:Ending)(w':World):Prop:=
 e=.returned (.tuple #[.string ⟨(Vi (ceil key l)).toArray⟩,.string ⟨(Vj (ceil key l)).toArray⟩,.int .i64 (TQ (ceil key l))])/\Below w.heap.size w w'
theorem uC{o d:Nat}{key:List UInt8}{x:ND}{lo:Nat}(hw:eX d o lo (2*o-1) x)(hu:Up (ba d x))(h:d=0\/hit key x.ps=true):ceil key (ba d x)=x.ps[posOf key x.ps]?:=by
 cases d with
 |zero=>exact lv _
 |succ d=>
  rcases h with h|h
  ·omega
  ·rw[<-dD x]at hu⊢;exact Bh hw.kids hu h
theorem x9{o d:Nat}{key:List UInt8}{x k:ND}{lo:Nat}(hw:eX (d+1) o lo (2*o-1) x)(hu:Up (ba (d+1) x))(hk:x.ks[posOf key x.ps]?=some k)(c:Option Pr):(ceil key (ba (d+1) x)).or c=(ceil key (ba d k)).or (x.ps[posOf key x.ps]?.or c):=by have:=yU (d:=d) (ps:=x.ps) (ks:=x.ks) hw.kids (by rw[dD];exact hu) hk;rw[dD]at this;rw[this,Option.or_assoc]
theorem Gm(w:World)(T o:Nat)(l:List Pr)(F:Nat->Nat->Prop)(key:List UInt8)(h:bC w T o l F):Calls Tryz.prog 132 #[.pointer (some ⟨T,0,none⟩),.string ⟨key.toArray⟩] w (Vk key l w):=by
 obtain⟨d0,r,x0,K0,k0,hn0,Vl,R7,Vm,⟨ho,eo⟩,-,-,-⟩:=h;have c2:w.cell? ⟨T,2,none⟩=some (.pointer (some ⟨r,0,none⟩)):=by simp[World.cell?,k0]
 have H0:=al (show QE o d0 key l w (.string ⟨#[]⟩) (.string ⟨#[]⟩) (.int .i64 14) (.pointer (some ⟨r,0,none⟩)) w from⟨d0,r,_,x0,K0,none,rfl,rfl,rfl,rfl,hn0,Vl,R7▸Vm,by rw[R7,Option.or_none],aw _ _,aq _⟩);clear k0 hn0 Vl R7 Vm ho;go_enter Tryz.func132,Tryz.ntmps132;go_wp2_with fail
 go_step3
 go_wp2_with fail
 go_step3
 go_wp2_with fail
 go_loopw [4,5,6,7] (fun k v e q wr=>QE o d0 key l w k v e q wr) (fun _ _ _ q wr=>uB d0 wr q)
 case atStart=>exact H0.out
 case round=>
  obtain⟨d,p,lo,x,KK,c,rfl,rfl,rfl,rfl,hn,hw,hu,hce,hb,hd⟩:=hrel;have hlen:x.ps.length<=1000:=by have:=hw.len;omega
  have HF:=al (find_ok wr KK p x key hn.base (tU hw hu) hlen);have hpos:=dZ key x.ps;obtain⟨i,hi⟩: ∃i,posOf key x.ps=i:=⟨_,rfl⟩;rw[hi]at HF hpos;have HR:=al (ab hn (ab hw (ab hu (ab hce (ab hb (ab hd hi))))));clear hn hw hu hce hb hd hi;go_wp2_with fail;refine HF.out.mono ?_;rintro e w2 ⟨rfl,hb2⟩;clear HF;have nZ:=HR.out.1.below hb2;obtain⟨hd0,vp,vk,aA,H,hO,-⟩:=nZ.open_;obtain⟨A,cp,e1,-⟩:=hO.2.2.1.slice;rw[fb]at e1;subst e1;obtain⟨A2,ck,e2,-⟩:=hO.2.2.2.1.slice;rw[fb]at e2;subst e2;obtain⟨nk,jP⟩: ∃y,aA.length=y:=⟨_,rfl⟩;rw[jP]at hO;obtain⟨⟨z0,z1⟩,-,-⟩:=ae hO.1;have H2:=al (ab nZ (ab hd0 (ab hO (ab hb2 jP))));obtain⟨n,hnn⟩: ∃n,x.ps.length=n:=⟨_,rfl⟩;rw[hnn]at z0 hpos;have HN:=al hnn;clear nZ hd0 hO hb2 jP hnn;by_cases hlt:i<n
  ·obtain⟨pr,hp⟩: ∃pr,x.ps[posOf key x.ps]?=some pr:=⟨_,ao (by rw[HR.out.2.2.2.2.2.2,HN.out];exact hlt)⟩;have HC:=al hp;have hp2:=hp;rw[HR.out.2.2.2.2.2.2]at hp2;obtain⟨b,off,Vn,e1,-,-,y0,y1,-⟩:=H2.out.2.2.1.2.2.1.pair hp2;rw[HN.out]at e1;simp only[gR,true_and]at e1;obtain⟨rfl,rfl⟩:=e1;have i1:(0:Int)<=(i:Int):=by omega
   have i3:(i:Int)<(n:Int):=by omega
   obtain⟨bh,YZ⟩: ∃y,hit key x.ps=y:=⟨_,rfl⟩;have HB:=al YZ;rw[YZ];clear hp hp2 YZ
   cases bh with
   |true=>
    go_wp2_with fail;go_quiet(fail);go_wp2_with fail;rw[lp]
    go_ret3
    obtain⟨hn,hw,hu,hce,hb,hd,hi⟩:=HR.out;have hE:=uC (key:=key) hw hu (.inr HB.out);rw[HC.out]at hE;rw[hE]at hce;have hce:(some pr).or c=ceil key l:=hce;refine⟨by rw[<-hce];rfl,?_⟩;exact HR.out.2.2.2.2.1.trans (Below.mono (aG H2.out.2.2.2.1 _) HR.out.2.2.2.2.1.size)
   |false=>
    clear HB;go_wp2_with fail;go_quiet(fail);by_cases OM:d=0
    ·have dX:nk=0:=by rw[<-H2.out.2.2.2.2,H2.out.2.2.1.2.2.2.2.1,H2.out.2.1 OM];rfl
     subst dX;have HL:=al (dG (w2.drewN nq) p ck A2 (by exact z1));have HD:=al OM;clear OM z1;go_wp2_with fail;refine HL.out.mono ?_;rintro e w3 ⟨rfl,hw3⟩;have Y0:=al hw3;clear hw3;go_wp2_with fail;rw[lp]
     go_ret3
     obtain⟨hn,hw,hu,hce,hb,hd,hi⟩:=HR.out;have hE:=uC (key:=key) hw hu (.inl HD.out);rw[HC.out]at hE;rw[hE]at hce;have hce:(some pr).or c=ceil key l:=hce;refine⟨by rw[<-hce];rfl,?_⟩;exact HR.out.2.2.2.2.1.trans (Below.mono (Y0.out▸(aG H2.out.2.2.2.1 _)) HR.out.2.2.2.2.1.size)
    ·obtain⟨d1,rfl⟩: ∃d1,d=d1+1:=⟨d-1,by omega⟩;have hkl:=HR.out.2.1.kids;have hik:i<x.ks.length:=by rw[hkl,HN.out];omega
     obtain⟨k,hk⟩: ∃k,x.ks[i]?=some k:=⟨_,ao hik⟩;obtain⟨l2,hl⟩: ∃y,aA[i]?=some y:=⟨_,ao (by rw[H2.out.2.2.1.2.2.2.2.1];exact hik)⟩;have UW:i<nk:=by rw[<-H2.out.2.2.2.2,H2.out.2.2.1.2.2.2.2.1];exact hik
     obtain⟨bk,ok,ck2,e2,-,-,r2⟩:=H2.out.2.2.1.2.2.2.1.ptr hl;simp only[H2.out.2.2.2.2,gR,true_and]at e2;obtain⟨rfl,rfl⟩:=e2;have B0:nk<=1001:=by rw[<-H2.out.2.2.2.2,H2.out.2.2.1.2.2.2.2.1,hkl];omega
     have HL:=al (eQ (w2.drewN nq) p nk ck _ (by omega) (by exact z1));have HK:=al (ab hk hl);clear hk hl hkl hik OM;have i1:(0:Int)<=(i:Int):=by omega
     have i2:(i:Int)<(nk:Int):=by omega
     go_wp2_with fail;refine HL.out.mono ?_;rintro e w3 ⟨rfl,hw3⟩;subst hw3;go_wp2_with fail;go_roundw
     case rel=>
      obtain⟨hn,hw,hu,hce,hb,hd,hi⟩:=HR.out;refine⟨d1,l2,_,k,_,(some pr),rfl,rfl,rfl,rfl,(show ay w2 d1 l2 k _ from H2.out.2.2.1.2.2.2.2.2.1 i l2 k HK.out.2 HK.out.1).below ?_,hw.2.2.2 k (dd HK.out.1),Up.kid hw.kids (by rwa[<-dD x]at hu) HK.out.1,?_,hb.trans (Below.mono (aG H2.out.2.2.2.1 _) hb.size),by omega⟩
      ·exact aG (aw _ _) _
      ·rw[x9 hw hu (by rw[hi];exact HK.out.1),HC.out]at hce;exact hce
     case measure=>obtain⟨hn,hw,hu,hce,hb,hd,hi⟩:=HR.out;rw[lH (o:=o) (d1+1) d0 _ p x KK hn hw hd];rw[lH (o:=o) d1 d0 _ l2 k _ (ay.below (show ay w2 d1 l2 k _ from H2.out.2.2.1.2.2.2.2.2.1 i l2 k HK.out.2 HK.out.1) (aG (Below.refl _ _) _)) (hw.2.2.2 k (List.mem_of_getElem? HK.out.1)) (by omega)];omega
  ·have wI:x.ps[posOf key x.ps]?=none:=List.getElem?_eq_none (by rw[HR.out.2.2.2.2.2.2,HN.out];omega);have hnh:hit key x.ps=false:=by unfold hit;rw[wI]
   have HC:=al wI;have i3: ¬(i:Int)<(n:Int):=by omega
   rw[hnh];clear wI hnh hlt;by_cases OM:d=0
   ·have dX:nk=0:=by rw[<-H2.out.2.2.2.2,H2.out.2.2.1.2.2.2.2.1,H2.out.2.1 OM];rfl
    subst dX;have HL:=al (dG (w2) p ck A2 (by exact z1));have HD:=al OM;clear OM z1;go_wp2_with fail;refine HL.out.mono ?_;rintro e w3 ⟨rfl,hw3⟩;have Y0:=al hw3;clear hw3;go_wp2_with fail;rw[lp]
    go_ret3
    obtain⟨hn,hw,hu,hce,hb,hd,hi⟩:=HR.out;have hE:=uC (key:=key) hw hu (.inl HD.out);rw[HC.out]at hE;rw[hE]at hce;have hce:(none:Option Pr).or c=ceil key l:=hce;refine⟨by rw[<-hce];rfl,?_⟩;exact HR.out.2.2.2.2.1.trans (Below.mono (Y0.out▸H2.out.2.2.2.1) HR.out.2.2.2.2.1.size)
   ·obtain⟨d1,rfl⟩: ∃d1,d=d1+1:=⟨d-1,by omega⟩;have hkl:=HR.out.2.1.kids;have hik:i<x.ks.length:=by rw[hkl,HN.out];omega
    obtain⟨k,hk⟩: ∃k,x.ks[i]?=some k:=⟨_,ao hik⟩;obtain⟨l2,hl⟩: ∃y,aA[i]?=some y:=⟨_,ao (by rw[H2.out.2.2.1.2.2.2.2.1];exact hik)⟩;have UW:i<nk:=by rw[<-H2.out.2.2.2.2,H2.out.2.2.1.2.2.2.2.1];exact hik
    obtain⟨bk,ok,ck2,e2,-,-,r2⟩:=H2.out.2.2.1.2.2.2.1.ptr hl;simp only[H2.out.2.2.2.2,gR,true_and]at e2;obtain⟨rfl,rfl⟩:=e2;have B0:nk<=1001:=by rw[<-H2.out.2.2.2.2,H2.out.2.2.1.2.2.2.2.1,hkl];omega
    have HL:=al (eQ (w2) p nk ck _ (by omega) (by exact z1));have HK:=al (ab hk hl);clear hk hl hkl hik OM;have i1:(0:Int)<=(i:Int):=by omega
    have i2:(i:Int)<(nk:Int):=by omega
    go_wp2_with fail;refine HL.out.mono ?_;rintro e w3 ⟨rfl,hw3⟩;obtain rfl:w2=w3:=hw3;go_wp2_with fail;go_roundw
    case rel=>
     obtain⟨hn,hw,hu,hce,hb,hd,hi⟩:=HR.out;refine⟨d1,l2,_,k,_,c,rfl,rfl,rfl,rfl,(show ay w2 d1 l2 k _ from H2.out.2.2.1.2.2.2.2.2.1 i l2 k HK.out.2 HK.out.1).below ?_,hw.2.2.2 k (dd HK.out.1),Up.kid hw.kids (by rwa[<-dD x]at hu) HK.out.1,?_,hb.trans (Below.mono H2.out.2.2.2.1 hb.size),by omega⟩
     ·exact aw _ _
     ·rw[x9 hw hu (by rw[hi];exact HK.out.1),HC.out]at hce;exact hce
    case measure=>obtain⟨hn,hw,hu,hce,hb,hd,hi⟩:=HR.out;rw[lH (o:=o) (d1+1) d0 _ p x KK hn hw hd];rw[lH (o:=o) d1 d0 _ l2 k _ (ay.below (show ay w2 d1 l2 k _ from H2.out.2.2.1.2.2.2.2.2.1 i l2 k HK.out.2 HK.out.1) (Below.refl _ _)) (hw.2.2.2 k (List.mem_of_getElem? HK.out.1)) (by omega)];omega
def Lm(key:List UInt8)(l:List Pr)(w:World)(e:Ending)(w':World):Prop:=
 e=.returned (.tuple #[.string ⟨((look key l).getD []).toArray⟩,.int .i64 (if(look key l).isSome then 0 else 14)])/\Below w.heap.size w w'
theorem Ek(w:World)(T o:Nat)(l:List Pr)(F:Nat->Nat->Prop)(key:List UInt8)(h:bC w T o l F)(hk1:1<=key.length)(hk2:key.length<=64):Calls Tryz.prog 89 #[.pointer (some ⟨T,0,none⟩),.string ⟨key.toArray⟩] w (Lm key l w):=by
 have HC:=al (ab (jm w T ⟨key.toArray⟩ (by exact hk1) (by exact hk2)) (Gm w T o l F key h));clear h hk1 hk2;go_enter Tryz.func89,Tryz.ntmps89;go_wp2_with fail;refine HC.out.1.mono ?_;rintro e w1 ⟨rfl,hw1⟩;obtain rfl:w=w1:=hw1.symm;go_wp2_with fail;refine HC.out.2.mono ?_;rintro e w2 ⟨rfl,hb⟩;have HB:=al hb;clear hb HC
 cases hc:ceil key l with
 |none=>
  have HL:=al (nS hc);unfold TQ;simp only[mv];clear hc;go_wp2_with fail
  go_ret2
  exact⟨by rw[HL.out];rfl,HB.out⟩
 |some q=>
  have HL:=al (gX hc);unfold TQ Vi Vj;simp only[me,Option.map_some,ns,if_true];clear hc;obtain⟨qk,qv⟩:=q;by_cases hq:qk=key
  ·subst hq;go_wp2_with fail
   go_ret2
   refine⟨?_,HB.out⟩;rw[show look qk l=some qv by simpa using HL.out];rfl
  ·have h1: ¬(⟨qk.toArray⟩:ByteArray)=⟨key.toArray⟩:=fun e=>hq (by injection e with e;simpa using e);have h3: ¬qk.toArray=key.toArray:=fun e=>hq (by simpa using e);have h4:(qk==key)=false:=beq_eq_false_iff_ne.2 hq;have HQ:=al hq;go_wp2_with fail
   go_ret2
   refine⟨?_,HB.out⟩;rw[show look key l=none by simpa[HQ.out]using HL.out];rfl
theorem El(w:World)(T o:Nat)(l:List Pr)(F:Nat->Nat->Prop)(h:bC w T o l F):Calls Tryz.prog 91 #[.pointer (some ⟨T,0,none⟩)] w fun e w'=>e=.returned (.int .i64 l.length)/\w=w':=by
 obtain⟨d,r,x,K,k0,-⟩:=h;have c1:w.cell? ⟨T,1,none⟩=some (.int .i64 l.length):=by simp[World.cell?,k0]
 clear k0;go_enter Tryz.func91,Tryz.ntmps91;go_wp2_with fail;go_ret
 exact⟨rfl,rfl⟩
end Go.Proofs.YtagemonojdgbdaaGreatDoor
