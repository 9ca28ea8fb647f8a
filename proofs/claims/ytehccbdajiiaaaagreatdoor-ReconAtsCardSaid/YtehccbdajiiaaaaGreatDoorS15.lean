import Derived.Test.YtehccbdajiiaaaaGreatDoorS14
namespace Go.Proofs.YtehccbdajiiaaaaGreatDoor
open Go.Proofs.Tryz
set_option maxRecDepth 100000
set_option maxHeartbeats 16000000
open Go.RowKit
theorem KH{b a:ND}{s z:Pr}(c:a.ps[0]?=some z):gA 0 b s a=(.mk (b.ps++[s]) [],z,.mk (a.ps.drop 1) []):=by show(ND.mk (b.ps++[s]) [],a.ps[0]?.getD ([],[]),ND.mk (a.ps.drop 1) [])=_;rw[c];rfl
theorem vT{d:Nat}{b a e:ND}{s z:Pr}(h:d≠0)(f:a.ps[0]?=some z)(g:a.ks[0]?=some e):gA d b s a=(.mk (b.ps++[s]) (b.ks++[e]),z,.mk (a.ps.drop 1) (a.ks.drop 1)):=by obtain⟨c,rfl⟩: ∃c,d=c+1:=⟨d-1,by omega⟩;show(ND.mk (b.ps++[s]) (b.ks++[a.ks[0]?.getD D9]),a.ps[0]?.getD ([],[]),ND.mk (a.ps.drop 1) (a.ks.drop 1))=_;rw[f,g];rfl
theorem r9(w:World)(d a i:Nat)(x:ND)(F:Nat->Nat->Prop)(P:aB w (d+1) a x F)(L: ∀b q,F b q->b<w.heap.size)(hi:i+1<x.ks.length)(ap:x.ks.length=x.ps.length+1)(a1:x.ps.length<=900)
  (O:1<=(aT x (i+1)).ps.length) (XE:(aT x i).ps.length<=900) (a2:(aT x (i+1)).ps.length<=900) (R:d≠0->1<=(aT x (i+1)).ks.length) (a7:(aT x i).ks.length<=901) (a9:(aT x (i+1)).ks.length<=901):
  Calls prog 244 #[rv a,rm i] w fun e c=>e=.returned (.tuple #[])/\aB c (d+1) a (uX x i (gA d (aT x i) (gV x i) (aT x (i+1)))) (fun b q=>F b q\/w.heap.size<=b)/\OnlyC F w c:=by
 obtain⟨_,vp,vk,aC,H,f,_⟩:=P.open_;have M:=dD (x:=x) (i:=i) (by omega);have K:=dD (x:=x) (i:=i+1) (by omega);generalize g:aT x i=D at *;generalize c:aT x (i+1)=C at *;clear g c;obtain⟨l,A⟩: ∃y,aC[i]?=some y:=⟨_,ao (by rw[f.2.2.2.2.1];omega)⟩;obtain⟨r,E⟩: ∃y,aC[i+1]?=some y:=⟨_,ao (by rw[f.2.2.2.2.1];omega)⟩;obtain⟨V,vl,ul,pl,Hl,h,T⟩:=(show aB w d l D (H (i+3))from f.2.2.2.2.2.1 i l D A M).open_;obtain⟨Q,vr,ur,pr,Hr,g,Su⟩:=(show aB w d r C (H (i+4))from f.2.2.2.2.2.1 (i+1) r C E K).open_;have u:=bG.start f L h g;obtain⟨s,B⟩: ∃p,x.ps[i]?=some p:=⟨_,ao (by omega)⟩;obtain⟨iP,c,k,t,o⟩:=eh Tryz.Hb;obtain⟨iN,j,m,n,v⟩:=eh Tryz.Hc;have U:=By c k t o j m n v;clear c k t o j m n v;have Fe:gV x i=s:=by unfold gV;rw[B];rfl
 rw[Fe];obtain⟨i1,J⟩:=rl (i+1);obtain⟨z,N⟩: ∃p,C.ps[0]?=some p:=⟨_,ao (by omega)⟩;obtain⟨bn,on,cn,v,-,-,S,Z,-⟩:=f.2.2.1.pair B;subst v;obtain⟨br,ZY,cr,v,-,-,-⟩:=g.2.2.1.pair N;subst v;obtain⟨a6,cl,v,-⟩:=h.2.2.1.slice;rw[fa]at v;subst v;obtain⟨bk,ok,ck,v,-,-,r1⟩:=f.2.2.2.1.ptr A;obtain⟨ba,a8,a4,Sw,-,-,Y⟩:=f.2.2.2.1.ptr E;subst v;simp only[ix,fi,nw,and_true,true_and]at Sw;obtain⟨⟨rfl,rfl⟩,rfl⟩:=Sw;obtain⟨Al,VX,v,-⟩:=h.2.2.2.1.slice;rw[fa]at v;subst v;obtain⟨ZW,Sz,v,-⟩:=g.2.2.2.1.slice;rw[fa]at v;subst v;obtain⟨np,I⟩:=rk (x.ps.length);obtain⟨nr,t⟩:=rk (C.ps.length);obtain⟨nk,k⟩:=rk (aC.length);obtain⟨Ff,o⟩:=rk (pl.length);obtain⟨CU,X⟩:=rk (pr.length);obtain⟨nl,j⟩:=rk (D.ps.length);have ij:=f.2.2.2.2.1;have W:=h.2.2.2.2.1;have KF:=g.2.2.2.2.1;rw[I,k]at f;rw[j,o]at h;rw[t,X]at g;rw[I,k,j,o,t,X]at u;have uG:=(f.2.2.1.qY (i:=i) (by omega));have n:=Cd f L h T g Su A E M K B N V Q;have m:=al (show np=x.ps.length/\nr=C.ps.length/\nk=aC.length/\Ff=pl.length/\CU=pr.length/\nl=D.ps.length/\1<=C.ps.length/\aC.length=x.ks.length/\pl.length=D.ks.length/\pr.length=C.ks.length/\i+1<x.ks.length/\x.ks.length=x.ps.length+1/\i1=i+1/\(d≠0->1<=C.ks.length)from⟨I.symm,t.symm,k.symm,o.symm,X.symm,j.symm,O,ij,W,KF,hi,ap,J,R⟩);have c:=al u;have HP:=al uG;obtain⟨⟨G,ZX⟩,-,-⟩:=af u.lT.1;have j1:(i:Int)+1=(i1:Int):=by omega
 have j2:(0:Int)<=(i:Int):=by omega
 have j3:(i:Int)<(nk:Int):=by omega
 have j4:(i1:Int)<(nk:Int):=by omega
 have j5:(0:Int)<=(i1:Int):=by omega
 have j6:(i:Int)<(np:Int):=by omega
 have j7:(0:Int)<(nr:Int):=by omega
 have j8:0<nr:=by omega
 have a5:nl<=900:=by omega
 obtain⟨a',a3⟩:=KE i1 (by omega);have aa:w.cell? ⟨bk,ok+i1,none⟩=some (rv r):=by rw[J];exact Y
 clear Y P f L h T g Su A E M K u B N I t k o X j ij W KF uG J Fe O R V Q;go_enter func244,ntmps244;go_wp2_with fail;go_quiet(fail);go_upto_region 1 with fail;have f:Below w.heap.size w (w.drewN nq):=aH (bd _ _) nq;generalize w.drewN nq=j at f⊢;have h:=(f.cell (aq _ _ S)).x S;have g:=(f.cell (aq _ _ Z)).x Z;have c:=al (c.o.below f);clear G ZX r1 aa S Z f;obtain⟨⟨G,-⟩,-,-⟩:=af c.o.lT.1;have V:=xF G h g;clear G h g;refine pt (S:=(fun W=>W.cell? ⟨a,0,none⟩=some (.slice (some ⟨bn,on,none⟩) np cn)/\W.cell? ⟨bn,on+i*2,none⟩=some (r7 s.1)/\W.cell? ⟨bn,on+i*2+1,none⟩=some (r7 s.2))) (by kernel_rfl) V (fun f=>?_);generalize Q:World.drew j=t at f⊢;have c:=al (c.o.below (w1:=t) (Q▸(bd _ _).drew));clear Q V;refine bj [0,1,2,3,5,6,7,8,9,10,11] ?_
 iterate 11 (refine dZ (v:=?_) (fun _ ⟨S,Z,G⟩=>?_) f ?_;rotate_left;(go_simp;try rfl);try simp only[xr])
 refine bq ?_;refine qe (rs:=[4,12]) (by kernel_rfl) (by simp) (cX (i:=4) rfl (fun M g=>?_) (cX (i:=12) rfl (fun M g=>?_) ph))
 focus
  obtain⟨⟨L,-⟩,-,-⟩:=af c.o.fP.1;go_simp;refine g.o _ _ (f) ?_;clear g M f L;intro f
  try simp only[xr]
  refine bA 12 (fun M g=>?_);go_simp;refine g.o _ _ (tU f (ae _ _)) ?_;clear g M f;intro f
  try simp only[xr]
  obtain⟨A,o⟩:=rj t (sh s.1.toArray s.2.toArray);generalize t.alloc (sh s.1.toArray s.2.toArray)=W5 at o A f⊢;obtain⟨VB,I⟩:=rk (t.heap.size);rw[I]at o⊢;have HV:=al o;have c:=al (c.o.below A);clear o A I
 rotate_left
 focus
  go_simp;refine g.o _ _ (tU f (ae _ _)) ?_;clear g M f;intro f
  try simp only[xr]
  obtain⟨A,o⟩:=rj t (sh s.1.toArray s.2.toArray);generalize t.alloc (sh s.1.toArray s.2.toArray)=W5 at o A f⊢;obtain⟨VB,I⟩:=rk (t.heap.size);rw[I]at o⊢;have HV:=al o;have c:=al (c.o.below A);clear o A I;refine bA 4 (fun M g=>?_);obtain⟨⟨L,-⟩,-,-⟩:=af c.o.fP.1;go_simp;refine g.o _ _ (f) ?_;clear g M f L;intro f
  try simp only[xr]
 all_goals
  refine bA 13 (fun M g=>?_);refine cV _ (by rfl) _ _ 170 (by rfl) iP (.agg #[.string ⟨#[]⟩,.string ⟨#[]⟩]) 32 underlying170 U.o.1 U.o.2.1 U.o.d.1 U.o.t.1 (by rfl) (by decide) _ (D.ps.map ay) (by rfl) c.o.fP.2.1 ⟨VB,0,none⟩ 1 1 [ay s] (by rfl) rfl (fun y hy=>by rw[gk]at hy;subst hy;rfl) (fun j u hj=>by rw[ir,ie];exact pb HV.o (by simpa[ay]using hj)) (by simp[ay,Value.oneCell']) (by rw[fa];unfold maxLen;omega) (by rw[fa];omega) ?_;intro v6 wn N fe;rw[show D.ps.map ay++[ay s]=(D.ps++[s]).map ay by simp]at N;obtain⟨A6,E,fT,-⟩:=N.slice;obtain⟨n6,fH⟩:=rk (((D.ps++[s]).map ay).length);rw[fH]at fT;subst fT;clear fH;have K:=AD N fe;clear N fe;refine g.o _ _ (iE f K.o.2 (fun h=>c.o.Td h rfl) (fun h=>c.o.oo HP.o.1 h) (fun h=>c.o.oo HP.o.2 h)) ?_;clear g M f;intro f
  try simp only[xr]
  refine bj [14,15] ?_
  iterate 2 (refine dZ (v:=?_) (fun _ ⟨S,Z,G⟩=>?_) f ?_;rotate_left;(go_simp;try rfl);try simp only[xr])
  refine bq ?_;refine bA 16 (fun M g=>?_);obtain⟨⟨L,-⟩,rf,-⟩:=af (K.o.2.heap c.o.fP.1 (fun q h=>c.o.EB h rfl));go_simp;refine g.o _ _ (iE f (OnlyC.aR _ l 0 _) (fun e=>c.o.e01 e.1) (fun e=>c.o.zG HP.o.1 e.1) (fun e=>c.o.zG HP.o.2 e.1)) ?_;clear g M f L rf;intro f
  try simp only[xr]
  refine pw (by kernel_rfl) ?_ _;have dW:=c.o.p1 (bd _ _) K.o.2 K.o.1;clear f;generalize wn.setCell ⟨l,0,none⟩ (.slice A6 n6 E)=O at dW⊢;have c:=al dW;clear dW HV K;have am:=(c.o.iq.2.1.lF n.o.q.q.t.1).1;rw[Nat.zero_mul,mS]at am;obtain⟨k,J⟩:=am;obtain⟨⟨c1,-⟩,-,-⟩:=af c.o.lT.1;obtain⟨⟨B,-⟩,-,-⟩:=af c.o.iq.1;have V:=xT c1 B k J;clear c1 B k J;have k:=al (by have h0:=c.o.iq.2.1.qY (i:=0) m.o.q.d.1;rw[Nat.zero_mul,mS]at h0;exact h0);go_upto_region 2 with fail;refine pt (S:=(fun W=>W.cell? ⟨a,0,none⟩=some (.slice (some ⟨bn,on,none⟩) np cn)/\W.cell? ⟨r,0,none⟩=some (.slice (some ⟨br,ZY,none⟩) nr cr)/\W.cell? ⟨br,ZY,none⟩=some (r7 z.1)/\W.cell? ⟨br,ZY+1,none⟩=some (r7 z.2))) (by kernel_rfl) V (fun f=>?_);generalize Q:World.drew O=t at f⊢;have c:=al (c.o.below (w1:=t) (Q▸(bd _ _).drew));clear Q V;refine bj [0,1,2,3,4,5,6,7,8,9,10,11] ?_
  iterate 12 (refine dZ (v:=?_) (fun _ ⟨S,Z,G,J⟩=>?_) f ?_;rotate_left;(go_simp;try rfl);try simp only[xr])
  refine bq ?_;refine bA 12 (fun M g=>?_);obtain⟨⟨O,E⟩,G,J⟩:=c.o.lT.2.1.lF n.o.q.q.d.1;go_simp;refine g.o _ _ (xW f (c.o.lT.2.1.fK (i:=i) z.1 z.2 (by have:=m.o.q.q.d.1;have:=m.o.q.q.t.1;omega)).2 (fun h=>c.o.LQ h rfl) (fun h=>c.o.LR h rfl) (fun h=>c.o.uu h k.o.1) (fun h=>c.o.uu h k.o.2)) ?_;clear g M f O E G J;intro f
  try simp only[xr]
  refine pw (by kernel_rfl) ?_ _;have E:=c.o.i0 (c.o.lT.2.1.fK (i:=i) z.1 z.2 (by have:=m.o.q.q.d.1;have:=m.o.q.q.t.1;omega)).2 (c.o.lT.2.1.fK (i:=i) z.1 z.2 (by have:=m.o.q.q.d.1;have:=m.o.q.q.t.1;omega)).1;clear f;generalize (t.setCell ⟨bn,on+i*2,none⟩ (r7 z.1)).setCell ⟨bn,on+i*2+1,none⟩ (r7 z.2)=G at E⊢;have c:=al E;clear E k;obtain⟨⟨B,-⟩,-,-⟩:=af c.o.iq.1;go_wp2_with fail;refine(l8 G (Hr 1) _ (C.ps.map ay) 0 _ _ rfl (by simp) c.o.iq.2.1 (by rw[fa];exact m.o.q.d.1) (by rw[fa];omega) (dL _)).m ?_;rintro e w9 ⟨v9,rfl,O,eJ⟩;rw[kn,fj,<-lx]at O;obtain⟨A9,c9,gH,-⟩:=O.slice;obtain⟨n9,gq⟩:=rk (((C.ps.drop (0+1)).map ay).length);rw[gq]at gH;subst gH;clear gq B;have Y:=AD O eJ;clear O eJ;obtain⟨⟨B,-⟩,f2,-⟩:=af (Y.o.2.heap c.o.iq.1 (fun q h=>c.o.Te h rfl));go_upto_region 4 with fail;clear B f2;have k:=c.o.p2 (bd _ _) Y.o.2 (Y.o.1.m (fun b q h=>.inl h));generalize w9.setCell ⟨r,0,none⟩ (.slice A9 n9 c9)=wA at k⊢;have c:=al k;clear k Y;obtain⟨⟨-,B⟩,-,-⟩:=af c.o.iq.1;by_cases T:d=0
  ·subst T;have e1:D.ks=[]:=n.o.q.q.q.1 rfl;have G:C.ks=[]:=n.o.q.q.q.2 rfl;have dN:CU=0:=by rw[m.o.q.1,m.o.q.q.2.1,G];rfl
   subst dN;have jI:=al (ek wA r Sz ZW B);have HE:=AD e1 G;clear B e1 G;go_wp2_with fail;refine jI.o.m ?_;rintro e wZ ⟨rfl,Io⟩;subst Io;go_wp2_with fail
   first|refine ew (du rfl _ _ _) rfl ?_|refine dj (du rfl _ _ _) rfl ?_
   obtain⟨e1,G⟩:=HE.o;have hE:=gS n.o.1 n.o.2.1 (by have:=m.o.q.q.d.1;omega) n.o.d.1 n.o.t.1 n.o.q.1 n.o.q.2.1 c.o 0 0 (b8 _) (dq _) [] (fun _ _ _=>False) 0 0 (b8 _) (dq _) [] (fun _ _ _=>False) rfl n.o.q.d.1 n.o.q.t.1 (by simp) (by simp) (fun _ _ _ P=>P.elim) (fun _ _ _ P=>P.elim) (fun _ _ _ _ P=>P.elim) (fun _ _ _ _ P=>P.elim) (fun J p k E=>by simp at E) (fun J p k E=>by simp at E) (by simp[e1]) (by simp[G]);rw[KH n.o.q.q.t.1];refine⟨rfl,?_,hE.2⟩;have J:=hE.1;simp only[e1,G,List.take_nil,List.drop_nil,kb,fs]at J;exact J
  ·have R:=m.o.q.q.q.2 T;obtain⟨G,aa⟩: ∃p,pr[0]?=some p:=⟨_,ao (by have:=m.o.q.q.2.1;omega)⟩;obtain⟨k0,dN⟩: ∃p,C.ks[0]?=some p:=⟨_,ao (by omega)⟩;have C:=c.o;obtain⟨ac,ad,a0,v,-,-,-⟩:=C.iq.2.2.ptr aa;simp only[ix]at v;obtain⟨rfl,-,rfl⟩:=v;have X:0<CU:=by rw[m.o.q.1,m.o.q.q.2.1];exact R
   have jI:=al (fy wA r CU Sz _ X B);have c:=al C;have HM:=AM aa dN R T (by have h0:=C.iq.2.2.Fa (i:=0) (by rw[<-m.o.q.1];exact X);rw[mS]at h0;exact h0);have q6:(0:Int)<(CU:Int):=by omega
   have q7:CU<=902:=by have:=m.o.q.1;have:=m.o.q.q.2.1;omega
   clear C aa dN R T B;go_wp2_with fail;refine jI.o.m ?_;rintro e wZ ⟨rfl,Io⟩;subst Io;clear jI;obtain⟨⟨-,c1⟩,-,-⟩:=af c.o.iq.1;have c9:=c.o.iq.2.2.E9 HM.o.1;rw[mS]at c9;have V:=ab c1 c9;clear c1 c9;go_upto_region 5 with fail;refine pt (S:=(fun W=>W.cell? ⟨r,1,none⟩=some (.slice (some ⟨ac,ad,none⟩) CU Sz)/\W.cell? ⟨ac,ad,none⟩=some (rv G))) (by kernel_rfl) V (fun f=>?_);generalize Q:World.drew wA=t at f⊢;have c:=al (c.o.below (w1:=t) (Q▸(bd _ _).drew));clear Q V;refine bj [0,1,2,3,5,6,7,8,9,10] ?_
   iterate 10 (refine dZ (v:=?_) (fun _ ⟨S,Z⟩=>?_) f ?_;rotate_left;(go_simp;try rfl);try simp only[xr])
   refine bq ?_;refine qe (rs:=[4,11]) (by kernel_rfl) (by simp) (cX (i:=4) rfl (fun M g=>?_) (cX (i:=11) rfl (fun M g=>?_) ph))
   focus
    obtain⟨⟨-,L⟩,-,-⟩:=af c.o.fP.1;go_simp;refine g.o _ _ (f) ?_;clear g M f L;intro f
    try simp only[xr]
    refine bA 11 (fun M g=>?_);go_simp;refine g.o _ _ (mn f (ae _ _)) ?_;clear g M f;intro f
    try simp only[xr]
    obtain⟨A,o⟩:=rj t (so G);generalize t.alloc (so G)=W5 at o A f⊢;obtain⟨VB,I⟩:=rk (t.heap.size);rw[I]at o⊢;have HV:=al o;have c:=al (c.o.below A);clear o A I
   rotate_left
   focus
    go_simp;refine g.o _ _ (mn f (ae _ _)) ?_;clear g M f;intro f
    try simp only[xr]
    obtain⟨A,o⟩:=rj t (so G);generalize t.alloc (so G)=W5 at o A f⊢;obtain⟨VB,I⟩:=rk (t.heap.size);rw[I]at o⊢;have HV:=al o;have c:=al (c.o.below A);clear o A I;refine bA 4 (fun M g=>?_);obtain⟨⟨-,L⟩,-,-⟩:=af c.o.fP.1;go_simp;refine g.o _ _ (f) ?_;clear g M f L;intro f
    try simp only[xr]
   all_goals
    refine bA 12 (fun M g=>?_);refine cV _ (by rfl) _ _ 171 (by rfl) iN (.pointer none) 8 underlying171 U.o.q.1 U.o.q.2.1 U.o.q.d.1 U.o.q.t (by rfl) (by decide) _ (pl.map aP) (by rfl) c.o.fP.2.2 ⟨VB,0,none⟩ 1 1 [aP G] (by rfl) rfl (fun y hy=>by rw[gk]at hy;subst hy;rfl) (fun j u hj=>by rw[ir,ie];exact pb HV.o (by simpa[aP]using hj)) (by simp[aP,Value.oneCell']) (by rw[fa];have:=m.o.q.q.1;unfold maxLen;omega) (by rw[fa];have:=m.o.q.q.1;omega) ?_;intro v6 wn N fe;rw[show pl.map aP++[aP G]=(pl++[G]).map aP by simp]at N;obtain⟨y,j,fT,-⟩:=N.slice;obtain⟨o,fH⟩:=rk (((pl++[G]).map aP).length);rw[fH]at fT;subst fT;clear fH;have K:=AD N fe;clear N fe;refine g.o _ _ (dF f K.o.2 (fun h=>c.o.zI h rfl) (fun h=>c.o.uw h HM.o.q)) ?_;clear g M f;intro f
    try simp only[xr]
    refine bj [13,14] ?_
    iterate 2 (refine dZ (v:=?_) (fun _ ⟨S,Z⟩=>?_) f ?_;rotate_left;(go_simp;try rfl);try simp only[xr])
    refine bq ?_;refine bA 15 (fun M g=>?_);obtain⟨⟨-,L⟩,-,rf⟩:=af (K.o.2.heap c.o.fP.1 (fun q h=>c.o.zH h rfl));go_simp;refine g.o _ _ (dF f (OnlyC.aR _ l 1 _) (fun e=>c.o.e12 e.1.symm) (fun e=>c.o.EC HM.o.q e.1)) ?_;clear g M f L rf;intro f
    try simp only[xr]
    refine pw (by kernel_rfl) ?_ _;have dW:=c.o.k1 (bd _ _) K.o.2 K.o.1;clear f;generalize wn.setCell ⟨l,1,none⟩ (.slice y o j)=f at dW⊢;have c:=al dW;clear dW HV K;obtain⟨⟨-,B⟩,-,-⟩:=af c.o.iq.1;go_wp2_with fail;refine(jq f (Hr 2) _ (pr.map aP) 0 _ _ rfl (by simp) c.o.iq.2.2 (by rw[fa,<-m.o.q.1];exact X) (by rw[fa,<-m.o.q.1];omega) (ct _)).m ?_;rintro e w9 ⟨v9,rfl,O,eJ⟩;rw[kn,fj,<-lx]at O;obtain⟨C,A,gH,-⟩:=O.slice;obtain⟨I,gq⟩:=rk (((pr.drop (0+1)).map aP).length);rw[gq]at gH;subst gH;clear gq B;have Y:=AD O eJ;clear O eJ;obtain⟨⟨-,B⟩,-,f2⟩:=af (Y.o.2.heap c.o.iq.1 (fun q h=>c.o.ED h rfl));go_wp2_with fail
    first|refine ew (du rfl _ _ _) rfl ?_|refine dj (du rfl _ _ _) rfl ?_
    have u:=c.o.k2 (bd _ _) Y.o.2 (Y.o.1.m (fun b q h=>.inl h));obtain⟨aa,dN,R,T,-⟩:=HM.o;have h:bY w d G k0 (Hr (0+3)):=(n.o.q.1).2.2.2.2.2.1 0 G k0 aa dN
    have hE:=gS n.o.1 n.o.2.1 (by have:=m.o.q.q.d.1;omega) n.o.d.1 n.o.t.1 n.o.q.1 n.o.q.2.1 u D.ks.length D.ks.length (b8 _) (b8 _) [(G,k0)] (rO (Hr (0+3)) (fun _ _=>False)) 0 1 (by decide) R [] (fun _ _ _=>False) rfl n.o.q.d.1 n.o.q.t.1 (by rw[<-m.o.q.q.1];simp) (by simp) (fun f b q P=>match f,P with|0,P=>⟨0,b8 _,by omega,P⟩|1,P=>P.elim|_+2,P=>P.elim) (fun _ _ _ P=>P.elim)
     (fun f t b q J g=>by
      match f,J,t,g with
      |0,_,0,_=>rfl
      |1,J,_,_=>exact J.elim
      |_+2,J,_,_=>exact J.elim
      |0,_,1,g=>exact g.elim
      |0,_,_+2,g=>exact g.elim) (fun _ _ _ _ P=>P.elim)
     (fun f p k E=>by
      match f,E with
      |0,E=>simp only[jj,fi,mv]at E;obtain⟨rfl,rfl⟩:=E;exact h
      |f+1,E=>simp at E)
     (fun f p k E=>by simp at E)
     (fun e=>absurd e T) (fun e=>absurd e T)
    rw[vT T n.o.q.q.t.1 dN];refine⟨rfl,?_,hE.2⟩;have J:=hE.1;simp only[gE,List.drop_length,kn,kb,kt,fs,fj]at J;exact J
theorem px(w:World)(d a i:Nat)(x:ND)(F:Nat->Nat->Prop)(h:aB w (d+1) a x F)(P: ∀b S,F b S->b<w.heap.size)(hi:i+1<x.ks.length)(aa:x.ks.length=x.ps.length+1)(am:x.ps.length<=900)
  (XE:(aT x i).ps.length<=900) (ap:(aT x (i+1)).ps.length<=900) (a3:(aT x i).ks.length<=901) (a5:(aT x (i+1)).ks.length<=901):
  Calls prog 245 #[rv a,rm i] w fun L c=>L=.returned (.tuple #[])/\aB c (d+1) a (uY x i (l6 (aT x i) (gV x i) (aT x (i+1)))) (fun b S=>F b S\/w.heap.size<=b)/\OnlyC F w c:=by
 obtain⟨_,vp,vk,z,H,e,_⟩:=h.open_;have T:=dD (x:=x) (i:=i) (by omega);have M:=dD (x:=x) (i:=i+1) (by omega);generalize f:aT x i=m at *;generalize c:aT x (i+1)=s at *;clear f c;obtain⟨l,v⟩: ∃y,z[i]?=some y:=⟨_,ao (by rw[e.2.2.2.2.1];omega)⟩;obtain⟨r,B⟩: ∃y,z[i+1]?=some y:=⟨_,ao (by rw[e.2.2.2.2.1];omega)⟩;obtain⟨Y,vl,ul,N,Hl,g,W⟩:=(show aB w d l m (H (i+3))from e.2.2.2.2.2.1 i l m v T).open_;obtain⟨U,vr,ur,O,Hr,f,Su⟩:=(show aB w d r s (H (i+4))from e.2.2.2.2.2.1 (i+1) r s B M).open_;have t:=bG.start e P g f;obtain⟨J,A⟩: ∃p,x.ps[i]?=some p:=⟨_,ao (by omega)⟩;obtain⟨iP,c,k,u,q⟩:=eh Tryz.Hb;obtain⟨iN,j,n,p,C⟩:=eh Tryz.Hc;have o:=By c k u q j n p C;clear c k u q j n p C;have Fe:gV x i=J:=by unfold gV;rw[A];rfl
 rw[Fe];obtain⟨u,K⟩:=rl (i+1);obtain⟨bn,on,cn,c,-,-,I,Q,-⟩:=e.2.2.1.pair A;subst c;obtain⟨Ar,cr,c,-⟩:=f.2.2.1.slice;rw[fa]at c;subst c;obtain⟨a2,cl,c,-⟩:=g.2.2.1.slice;rw[fa]at c;subst c;obtain⟨bk,ok,ck,c,-,-,r1⟩:=e.2.2.2.1.ptr v;obtain⟨a6,a4,a0,Sw,-,-,r2⟩:=e.2.2.2.1.ptr B;subst c;simp only[ix,fi,nw,and_true,true_and]at Sw;obtain⟨⟨rfl,rfl⟩,rfl⟩:=Sw;obtain⟨Al,VX,c,-⟩:=g.2.2.2.1.slice;rw[fa]at c;subst c;obtain⟨ZW,Sz,c,-⟩:=f.2.2.2.1.slice;rw[fa]at c;subst c;obtain⟨Z,G⟩:=rk (x.ps.length);obtain⟨V,q⟩:=rk (s.ps.length);obtain⟨X,n⟩:=rk (z.length);obtain⟨Ff,p⟩:=rk (N.length);obtain⟨CU,C⟩:=rk (O.length);obtain⟨nl,j⟩:=rk (m.ps.length);have ij:=e.2.2.2.2.1;have VY:=g.2.2.2.2.1;have KF:=f.2.2.2.2.1;rw[G,n]at e;rw[j,p]at g;rw[q,C]at f;rw[G,n,j,p,q,C]at t;have uG:=(e.2.2.1.qY (i:=i) (by omega));have E:=B9 e P g W f Su v B T M A Y U;have k:=al (show Z=x.ps.length/\V=s.ps.length/\X=z.length/\Ff=N.length/\CU=O.length/\nl=m.ps.length/\z.length=x.ks.length/\N.length=m.ks.length/\O.length=s.ks.length/\i+1<x.ks.length/\x.ks.length=x.ps.length+1/\u=i+1 from⟨G.symm,q.symm,n.symm,p.symm,C.symm,j.symm,ij,VY,KF,hi,aa,K⟩);have c:=al t;have R:=al uG;obtain⟨⟨D,ZX⟩,-,-⟩:=af t.lT.1;have j1:(i:Int)+1=(u:Int):=by omega
 have j2:(0:Int)<=(i:Int):=by omega
 have j3:(i:Int)<(X:Int):=by omega
 have j4:(u:Int)<(X:Int):=by omega
 have j5:(0:Int)<=(u:Int):=by omega
 have j6:(i:Int)<(Z:Int):=by omega
 have j8:V<=900:=by omega
 have a1:nl<=900:=by omega
 obtain⟨ad,a'⟩:=KE u (by omega);have ac:w.cell? ⟨bk,ok+u,none⟩=some (rv r):=by rw[K];exact r2
 clear r2 h e P g W f Su v B T M t A G q n p C j ij VY KF uG K Fe Y U;go_enter func245,ntmps245;go_wp2_with fail;go_quiet(fail);go_upto_region 1 with fail;have e:Below w.heap.size w (w.drewN nq):=aH (bd _ _) nq;generalize w.drewN nq=h at e⊢;have g:=(e.cell (aq _ _ I)).x I;have f:=(e.cell (aq _ _ Q)).x Q;have c:=al (c.o.below e);clear D ZX r1 ac I Q e;obtain⟨⟨D,-⟩,-,-⟩:=af c.o.lT.1;have B:=xF D g f;clear D g f;refine pt (S:=(fun W=>W.cell? ⟨a,0,none⟩=some (.slice (some ⟨bn,on,none⟩) Z cn)/\W.cell? ⟨bn,on+i*2,none⟩=some (r7 J.1)/\W.cell? ⟨bn,on+i*2+1,none⟩=some (r7 J.2))) (by kernel_rfl) B (fun e=>?_);generalize v:World.drew h=p at e⊢;have c:=al (c.o.below (w1:=p) (v▸(bd _ _).drew));clear v B;refine bj [0,1,2,3,5,6,7,8,9,10,11] ?_
 iterate 11 (refine dZ (v:=?_) (fun _ ⟨I,Q,G⟩=>?_) e ?_;rotate_left;(go_simp;try rfl);try simp only[xr])
 refine bq ?_;refine qe (rs:=[4,12]) (by kernel_rfl) (by simp) (cX (i:=4) rfl (fun K f=>?_) (cX (i:=12) rfl (fun K f=>?_) ph))
 focus
  obtain⟨⟨n,-⟩,-,-⟩:=af c.o.fP.1;go_simp;refine f.o _ _ (e) ?_;clear f K e n;intro e
  try simp only[xr]
  refine bA 12 (fun K f=>?_);go_simp;refine f.o _ _ (tU e (ae _ _)) ?_;clear f K e;intro e
  try simp only[xr]
  obtain⟨h,g⟩:=rj p (sh J.1.toArray J.2.toArray);generalize p.alloc (sh J.1.toArray J.2.toArray)=t at g h e⊢;obtain⟨q,j⟩:=rk (p.heap.size);rw[j]at g⊢;have D:=al g;have c:=al (c.o.below h);clear g h j
 rotate_left
 focus
  go_simp;refine f.o _ _ (tU e (ae _ _)) ?_;clear f K e;intro e
  try simp only[xr]
  obtain⟨h,g⟩:=rj p (sh J.1.toArray J.2.toArray);generalize p.alloc (sh J.1.toArray J.2.toArray)=t at g h e⊢;obtain⟨q,j⟩:=rk (p.heap.size);rw[j]at g⊢;have D:=al g;have c:=al (c.o.below h);clear g h j;refine bA 4 (fun K f=>?_);obtain⟨⟨n,-⟩,-,-⟩:=af c.o.fP.1;go_simp;refine f.o _ _ (e) ?_;clear f K e n;intro e
  try simp only[xr]
 all_goals
  refine bA 13 (fun K f=>?_);refine cV _ (by rfl) _ _ 170 (by rfl) iP (.agg #[.string ⟨#[]⟩,.string ⟨#[]⟩]) 32 underlying170 o.o.1 o.o.2.1 o.o.d.1 o.o.t.1 (by rfl) (by decide) _ (m.ps.map ay) (by rfl) c.o.fP.2.1 ⟨q,0,none⟩ 1 1 [ay J] (by rfl) rfl (fun y g=>by rw[gk]at g;subst g;rfl) (fun j h g=>by rw[ir,ie];exact pb D.o (by simpa[ay]using g)) (by simp[ay,Value.oneCell']) (by rw[fa];unfold maxLen;omega) (by rw[fa];omega) ?_;intro v6 M j A;rw[show m.ps.map ay++[ay J]=(m.ps++[J]).map ay by simp]at j;obtain⟨A6,c6,y,-⟩:=j.slice;obtain⟨n6,C⟩:=rk (((m.ps++[J]).map ay).length);rw[C]at y;subst y;clear C;have h:=AD j A;clear j A;refine f.o _ _ (iE e h.o.2 (fun g=>c.o.Td g rfl) (fun g=>c.o.oo R.o.1 g) (fun g=>c.o.oo R.o.2 g)) ?_;clear f K e;intro e
  try simp only[xr]
  refine bj [14,15] ?_
  iterate 2 (refine dZ (v:=?_) (fun _ ⟨I,Q,G⟩=>?_) e ?_;rotate_left;(go_simp;try rfl);try simp only[xr])
  refine bq ?_;refine bA 16 (fun K f=>?_);obtain⟨⟨n,-⟩,t,-⟩:=af (h.o.2.heap c.o.fP.1 (fun S g=>c.o.EB g rfl));go_simp;refine f.o _ _ (iE e (OnlyC.aR _ l 0 _) (fun L=>c.o.e01 L.1) (fun L=>c.o.zG R.o.1 L.1) (fun L=>c.o.zG R.o.2 L.1)) ?_;clear f K e n t;intro e
  try simp only[xr]
  refine pw (by kernel_rfl) ?_ _;have q:=c.o.p1 (bd _ _) h.o.2 h.o.1;clear e;generalize M.setCell ⟨l,0,none⟩ (.slice A6 n6 c6)=G at q⊢;have c:=al q;clear q D h;obtain⟨⟨D,-⟩,-,-⟩:=af c.o.iq.1;have B:=D;clear D;go_upto_region 2 with fail;refine pt (S:=(fun W=>W.cell? ⟨r,0,none⟩=some (.slice Ar V cr))) (by kernel_rfl) B (fun e=>?_);generalize v:World.drew G=p at e⊢;have c:=al (c.o.below (w1:=p) (v▸(bd _ _).drew));clear v B;refine bj [0,1,2,3,5,6,7] ?_
  iterate 7 (refine dZ (v:=?_) (fun P G=>?_) e ?_;rotate_left;(go_simp;try rfl);try simp only[xr])
  refine bq ?_;refine lA 8 (v:=?_) (fun P G=>?_) e ?_;rotate_left
  ·have I:=G;go_simp;try rfl
  try simp only[xr]
  refine bA 4 (fun K f=>?_);obtain⟨⟨n,-⟩,t,-⟩:=af (c.o.fP.1);go_simp;refine f.o _ _ (e) ?_;clear f K e n t;intro e
  try simp only[xr]
  refine bA 9 (fun K f=>?_);refine gN _ (by rfl) _ _ 170 (by rfl) iP (.agg #[.string ⟨#[]⟩,.string ⟨#[]⟩]) 32 underlying170 o.o.1 o.o.2.1 o.o.d.1 o.o.t.1 (by rfl) (by decide) _ ((m.ps++[J]).map ay) (by rfl) c.o.fP.2.1 _ (s.ps.map ay) (by rfl) c.o.iq.2.1 (dL _) (by simp;unfold maxLen;omega) (by simp;omega) ?_;intro v6 M j A;rw[<-gR]at j;obtain⟨Y,T,y,-⟩:=j.slice;obtain⟨U,C⟩:=rk ((((m.ps++[J])++s.ps).map ay).length);rw[C]at y;subst y;clear C;have h:=AD j A;clear j A;refine f.o _ _ (h.o.2.cell e (fun g=>c.o.aai g rfl)) ?_;clear f K e;intro e
  try simp only[xr]
  refine bj [10,11] ?_
  iterate 2 (refine dZ (v:=?_) (fun P G=>?_) e ?_;rotate_left;(go_simp;try rfl);try simp only[xr])
  refine bq ?_;refine bA 12 (fun K f=>?_);obtain⟨⟨n,-⟩,t,-⟩:=af (h.o.2.heap c.o.fP.1 (fun S g=>c.o.EB g rfl));go_simp;refine f.o _ _ ((OnlyC.aR _ l 0 _).cell e (fun L=>c.o.e12 L.1.symm)) ?_;clear f K e n t;intro e
  try simp only[xr]
  refine pw (by kernel_rfl) ?_ _;have q:=c.o.p1 (bd _ _) h.o.2 h.o.1;clear e;generalize M.setCell ⟨l,0,none⟩ (.slice Y U T)=wE at q⊢;have c:=al q;clear q h;obtain⟨⟨-,D⟩,-,-⟩:=af c.o.iq.1;have B:=D;clear D;go_upto_region 3 with fail;refine pt (S:=(fun W=>W.cell? ⟨r,1,none⟩=some (.slice ZW CU Sz))) (by kernel_rfl) B (fun e=>?_);generalize v:World.drew wE=p at e⊢;have c:=al (c.o.below (w1:=p) (v▸(bd _ _).drew));clear v B;refine bj [0,1,2,3,5,6,7] ?_
  iterate 7 (refine dZ (v:=?_) (fun P G=>?_) e ?_;rotate_left;(go_simp;try rfl);try simp only[xr])
  refine bq ?_;refine lA 8 (v:=?_) (fun P G=>?_) e ?_;rotate_left
  ·have I:=G;go_simp;try rfl
  try simp only[xr]
  refine bA 4 (fun K f=>?_);obtain⟨⟨-,n⟩,-,t⟩:=af (c.o.fP.1);go_simp;refine f.o _ _ (e) ?_;clear f K e n t;intro e
  try simp only[xr]
  refine bA 9 (fun K f=>?_);refine gN _ (by rfl) _ _ 171 (by rfl) iN (.pointer none) 8 underlying171 o.o.q.1 o.o.q.2.1 o.o.q.d.1 o.o.q.t (by rfl) (by decide) _ (N.map aP) (by rfl) c.o.fP.2.2 _ (O.map aP) (by rfl) c.o.iq.2.2 (ct _) (by rw[fa,fa];have:=k.o.q.t.1;have:=k.o.q.q.1;unfold maxLen;omega) (by rw[fa,fa];have:=k.o.q.t.1;have:=k.o.q.q.1;omega) ?_;intro v6 M j A;rw[<-gR]at j;obtain⟨Y,T,y,-⟩:=j.slice;obtain⟨U,C⟩:=rk (((N++O).map aP).length);rw[C]at y;subst y;clear C;have h:=AD j A;clear j A;refine f.o _ _ (h.o.2.cell e (fun g=>c.o.zI g rfl)) ?_;clear f K e;intro e
  try simp only[xr]
  refine bj [10,11] ?_
  iterate 2 (refine dZ (v:=?_) (fun P G=>?_) e ?_;rotate_left;(go_simp;try rfl);try simp only[xr])
  refine bq ?_;refine bA 12 (fun K f=>?_);obtain⟨⟨-,n⟩,-,t⟩:=af (h.o.2.heap c.o.fP.1 (fun S g=>c.o.zH g rfl));go_simp;refine f.o _ _ ((OnlyC.aR _ l 1 _).cell e (fun L=>c.o.e12 L.1.symm)) ?_;clear f K e n t;intro e
  try simp only[xr]
  refine pw (by kernel_rfl) ?_ _;have q:=c.o.k1 (bd _ _) h.o.2 h.o.1;clear e;generalize M.setCell ⟨l,1,none⟩ (.slice Y U T)=e at q⊢;have c:=al q;clear q h;obtain⟨⟨p,-⟩,-,-⟩:=af c.o.lT.1;go_wp2_with fail;refine(l8 e (H 1) _ (x.ps.map ay) i _ _ rfl (by omega) c.o.lT.2.1 (by rw[fa];have:=k.o.q.q.2.1;have:=k.o.q.q.d.1;omega) (by rw[fa];omega) (dL _)).m ?_;rintro L A ⟨t,rfl,e,h⟩;rw[<-mc,<-lx,<-gR]at e;obtain⟨y,v,n,-⟩:=e.slice;obtain⟨B,j⟩:=rk (((x.ps.take i++x.ps.drop (i+1)).map ay).length);rw[j]at n;subst n;clear j p;have f:=AD e h;clear e h;obtain⟨⟨p,-⟩,q,-⟩:=af (f.o.2.heap c.o.lT.1 (fun S g=>c.o.LQ g rfl));go_upto_region 5 with fail;clear p q;have p:=c.o.p0 (bd _ _) f.o.2 (f.o.1.m (fun b S g=>.inl g));generalize A.setCell ⟨a,0,none⟩ (.slice y B v)=q at p⊢;have c:=al p;clear p f;obtain⟨⟨-,D⟩,-,-⟩:=af c.o.lT.1;go_wp2_with fail;refine(jq q (H 2) _ (z.map aP) u _ _ (by simp) (by omega) c.o.lT.2.2 (by rw[fa];have:=k.o.q.q.2.1;have:=k.o.q.d.1;have:=k.o.q.q.t;omega) (by rw[fa];have:=k.o.q.d.1;have:=k.o.q.q.d.1;omega) (ct _)).m ?_;rintro L G ⟨t,rfl,e,h⟩;rw[<-mc,<-lx,<-gR]at e;obtain⟨p,C,n,-⟩:=e.slice;obtain⟨q,j⟩:=rk (((z.take u++z.drop (u+1)).map aP).length);rw[j]at n;subst n;clear j D;have f:=AD e h;clear e h;obtain⟨⟨-,D⟩,-,n⟩:=af (f.o.2.heap c.o.lT.1 (fun S g=>c.o.aah g rfl));go_wp2_with fail
  first|refine ew (du rfl _ _ _) rfl ?_|refine dj (du rfl _ _ _) rfl ?_
  have h:=c.o.k0 (bd _ _) f.o.2 (f.o.1.m (fun b S g=>.inl g));have e:=Kf E.o.1 E.o.2.1 (by have:=k.o.q.q.2.1;omega) E.o.d.1 E.o.t.1 E.o.q.1 h ?_ rfl (fun L=>by rw[E.o.q.q.t.1 L,E.o.q.q.q L];rfl)
  ·refine⟨rfl,?_,e.2⟩;have b:=e.1;have g:m.ps++[J]++s.ps=m.ps++J::s.ps:=by simp
   rw[g]at b;exact b
  ·have b:=E.o.q.d.1;have j:=(aw.1 b);obtain⟨g,m⟩:=j;rw[k.o.q.q.t,List.take_succ_eq_append_getElem g,m]
end Go.Proofs.YtehccbdajiiaaaaGreatDoor
