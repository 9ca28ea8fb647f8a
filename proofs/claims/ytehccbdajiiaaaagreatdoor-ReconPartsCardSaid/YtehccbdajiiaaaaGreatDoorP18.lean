import Derived.Test.YtehccbdajiiaaaaGreatDoorP17
namespace Go.Proofs.YtehccbdajiiaaaaGreatDoor
open Go.Proofs.Tryz
set_option maxRecDepth 100000
set_option maxHeartbeats 16000000
open Go.RowKit
theorem JU{b a:ND}{s z:Pr}(c:a.ps[0]?=some z):gq 0 b s a=(.mk (b.ps++[s]) [],z,.mk (a.ps.drop 1) []):=by show(ND.mk (b.ps++[s]) [],a.ps[0]?.getD ([],[]),ND.mk (a.ps.drop 1) [])=_;rw[c];rfl
theorem vv{d:Nat}{b a c:ND}{s z:Pr}(h:d≠0)(f:a.ps[0]?=some z)(g:a.ks[0]?=some c):gq d b s a=(.mk (b.ps++[s]) (b.ks++[c]),z,.mk (a.ps.drop 1) (a.ks.drop 1)):=by obtain⟨e,rfl⟩: ∃e,d=e+1:=⟨d-1,by omega⟩;show(ND.mk (b.ps++[s]) (b.ks++[a.ks[0]?.getD Dq]),a.ps[0]?.getD ([],[]),ND.mk (a.ps.drop 1) (a.ks.drop 1))=_;rw[f,g];rfl
theorem rJ(w:World)(d a i:Nat)(x:ND)(F:Nat->Nat->Prop)(P:aG w (d+1) a x F)(N: ∀b q,F b q->b<w.heap.size)(hi:i+1<x.ks.length)(ap:x.ks.length=x.ps.length+1)(a0:x.ps.length<=900)
  (Q:1<=(aT x (i+1)).ps.length) (Wp:(aT x i).ps.length<=900) (ba:(aT x (i+1)).ps.length<=900) (R:d≠0->1<=(aT x (i+1)).ks.length) (a':(aT x i).ks.length<=901) (a1:(aT x (i+1)).ks.length<=901):
  Calls prog 244 #[r7 a,rv i] w fun e c=>e=.returned (.tuple #[])/\aG c (d+1) a (uC x i (gq d (aT x i) (gP x i) (aT x (i+1)))) (fun b q=>F b q\/w.heap.size<=b)/\OnlyC F w c:=by
 obtain⟨_,vp,vk,aC,H,f,_⟩:=P.open_;have L:=dA (x:=x) (i:=i) (by omega);have K:=dA (x:=x) (i:=i+1) (by omega);generalize g:aT x i=G at *;generalize c:aT x (i+1)=E at *;clear g c;obtain⟨l,t⟩: ∃y,aC[i]?=some y:=⟨_,ao (by rw[f.2.2.2.2.1];omega)⟩;obtain⟨r,A⟩: ∃y,aC[i+1]?=some y:=⟨_,ao (by rw[f.2.2.2.2.1];omega)⟩;obtain⟨ow,vl,ul,pl,Hl,h,U⟩:=(show aG w d l G (H (i+3))from f.2.2.2.2.2.1 i l G t L).open_;obtain⟨O,vr,ur,pr,Hr,g,Y⟩:=(show aG w d r E (H (i+4))from f.2.2.2.2.2.1 (i+1) r E A K).open_;have I:=bE.start f N h g;obtain⟨s,o⟩: ∃p,x.ps[i]?=some p:=⟨_,ao (by omega)⟩;obtain⟨iP,j,n,u,k⟩:=ef Tryz.Gc;obtain⟨iN,c,m,z,v⟩:=ef Tryz.Ge;have X:=BT j n u k c m z v;clear j n u k c m z v;have Ey:gP x i=s:=by unfold gP;rw[o];rfl
 rw[Ey];obtain⟨i1,J⟩:=rm (i+1);obtain⟨z,M⟩: ∃p,E.ps[0]?=some p:=⟨_,ao (by omega)⟩;obtain⟨bn,on,cn,v,-,-,S,Z,-⟩:=f.2.2.1.pair o;subst v;obtain⟨br,YV,cr,v,-,-,-⟩:=g.2.2.1.pair M;subst v;obtain⟨a9,cl,v,-⟩:=h.2.2.1.slice;rw[eS]at v;subst v;obtain⟨bk,ok,ck,v,-,-,r1⟩:=f.2.2.2.1.ptr t;obtain⟨a7,a8,a6,Re,-,-,V⟩:=f.2.2.2.1.ptr A;subst v;simp only[im,fj,nx,and_true,true_and]at Re;obtain⟨⟨rfl,rfl⟩,rfl⟩:=Re;obtain⟨Al,UX,v,-⟩:=h.2.2.2.1.slice;rw[eS]at v;subst v;obtain⟨YT,Rg,v,-⟩:=g.2.2.2.1.slice;rw[eS]at v;subst v;obtain⟨np,u⟩:=rl (x.ps.length);obtain⟨nr,D⟩:=rl (E.ps.length);obtain⟨nk,B⟩:=rl (aC.length);obtain⟨Ez,k⟩:=rl (pl.length);obtain⟨Ct,T⟩:=rl (pr.length);obtain⟨nl,j⟩:=rl (G.ps.length);have iG:=f.2.2.2.2.1;have UY:=h.2.2.2.2.1;have W:=g.2.2.2.2.1;rw[u,B]at f;rw[j,k]at h;rw[D,T]at g;rw[u,B,j,k,D,T]at I;have tY:=(f.2.2.1.qI (i:=i) (by omega));have n:=DE f N h U g Y t A L K o M ow O;have m:=al (show np=x.ps.length/\nr=E.ps.length/\nk=aC.length/\Ez=pl.length/\Ct=pr.length/\nl=G.ps.length/\1<=E.ps.length/\aC.length=x.ks.length/\pl.length=G.ks.length/\pr.length=E.ks.length/\i+1<x.ks.length/\x.ks.length=x.ps.length+1/\i1=i+1/\(d≠0->1<=E.ks.length)from⟨u.symm,D.symm,B.symm,k.symm,T.symm,j.symm,Q,iG,UY,W,hi,ap,J,R⟩);have c:=al I;have HP:=al tY;obtain⟨⟨C,YU⟩,-,-⟩:=ae I.lH.1;have j1:(i:Int)+1=(i1:Int):=by omega
 have j2:(0:Int)<=(i:Int):=by omega
 have j3:(i:Int)<(nk:Int):=by omega
 have j4:(i1:Int)<(nk:Int):=by omega
 have j5:(0:Int)<=(i1:Int):=by omega
 have j6:(i:Int)<(np:Int):=by omega
 have j7:(0:Int)<(nr:Int):=by omega
 have j8:0<nr:=by omega
 have a5:nl<=900:=by omega
 obtain⟨a3,a4⟩:=MX i1 (by omega);have aa:w.cell? ⟨bk,ok+i1,none⟩=some (r7 r):=by rw[J];exact V
 clear V P f N h U g Y t A L K I o M u D B k T j iG UY W tY J Ey Q R ow O;go_enter func244,ntmps244;go_wp2_with fail;go_quiet(fail);go_upto_region 1 with fail;have f:Below w.heap.size w (w.drewN nq):=aI (aw _ _) nq;generalize w.drewN nq=j at f⊢;have g:=(f.cell (aq _ _ S)).x S;have h:=(f.cell (aq _ _ Z)).x Z;have c:=al (c.o.below f);clear C YU r1 aa S Z f;obtain⟨⟨C,-⟩,-,-⟩:=ae c.o.lH.1;have Y:=yk C g h;clear C g h;refine pw (S:=(fun W=>W.cell? ⟨a,0,none⟩=some (.slice (some ⟨bn,on,none⟩) np cn)/\W.cell? ⟨bn,on+i*2,none⟩=some (sd s.1)/\W.cell? ⟨bn,on+i*2+1,none⟩=some (sd s.2))) (by kernel_rfl) Y (fun f=>?_);generalize Q:World.drew j=t at f⊢;have c:=al (c.o.below (w1:=t) (Q▸(aw _ _).drew));clear Q Y;refine bq [0,1,2,3,5,6,7,8,9,10,11] ?_
 iterate 11 (refine ek (v:=?_) (fun _ ⟨S,Z,D⟩=>?_) f ?_;rotate_left;(go_simp;try rfl);try simp only[xT])
 refine bt ?_;refine qn (rs:=[4,12]) (by kernel_rfl) (by simp) (dw (i:=4) rfl (fun M g=>?_) (dw (i:=12) rfl (fun M g=>?_) pt))
 focus
  obtain⟨⟨L,-⟩,-,-⟩:=ae c.o.fJ.1;go_simp;refine g.o _ _ (f) ?_;clear g M f L;intro f
  try simp only[xT]
  refine bC 12 (fun M g=>?_);go_simp;refine g.o _ _ (sV f (af _ _)) ?_;clear g M f;intro f
  try simp only[xT]
  obtain⟨A,o⟩:=rk t (so s.1.toArray s.2.toArray);generalize t.alloc (so s.1.toArray s.2.toArray)=W5 at o A f⊢;obtain⟨VB,I⟩:=rl (t.heap.size);rw[I]at o⊢;have HV:=al o;have c:=al (c.o.below A);clear o A I
 rotate_left
 focus
  go_simp;refine g.o _ _ (sV f (af _ _)) ?_;clear g M f;intro f
  try simp only[xT]
  obtain⟨A,o⟩:=rk t (so s.1.toArray s.2.toArray);generalize t.alloc (so s.1.toArray s.2.toArray)=W5 at o A f⊢;obtain⟨VB,I⟩:=rl (t.heap.size);rw[I]at o⊢;have HV:=al o;have c:=al (c.o.below A);clear o A I;refine bC 4 (fun M g=>?_);obtain⟨⟨L,-⟩,-,-⟩:=ae c.o.fJ.1;go_simp;refine g.o _ _ (f) ?_;clear g M f L;intro f
  try simp only[xT]
 all_goals
  refine bC 13 (fun M g=>?_);refine cP _ (by rfl) _ _ 170 (by rfl) iP (.agg #[.string ⟨#[]⟩,.string ⟨#[]⟩]) 32 underlying170 X.o.1 X.o.2.1 X.o.d.1 X.o.t.1 (by rfl) (by decide) _ (G.ps.map aA) (by rfl) c.o.fJ.2.1 ⟨VB,0,none⟩ 1 1 [aA s] (by rfl) rfl (fun y hy=>by rw[fl]at hy;subst hy;rfl) (fun j u hj=>by rw[ie,gR];exact ph HV.o (by simpa[aA]using hj)) (by simp[aA,Value.oneCell']) (by rw[eS];unfold maxLen;omega) (by rw[eS];omega) ?_;intro v6 wn O eV;rw[show G.ps.map aA++[aA s]=(G.ps++[s]).map aA by simp]at O;obtain⟨A6,k,fM,-⟩:=O.slice;obtain⟨n6,fB⟩:=rl (((G.ps++[s]).map aA).length);rw[fB]at fM;subst fM;clear fB;have K:=AI O eV;clear O eV;refine g.o _ _ (iw f K.o.2 (fun h=>c.o.RV h rfl) (fun h=>c.o.nO HP.o.1 h) (fun h=>c.o.nO HP.o.2 h)) ?_;clear g M f;intro f
  try simp only[xT]
  refine bq [14,15] ?_
  iterate 2 (refine ek (v:=?_) (fun _ ⟨S,Z,D⟩=>?_) f ?_;rotate_left;(go_simp;try rfl);try simp only[xT])
  refine bt ?_;refine bC 16 (fun M g=>?_);obtain⟨⟨L,-⟩,rf,-⟩:=ae (K.o.2.heap c.o.fJ.1 (fun q h=>c.o.DW h rfl));go_simp;refine g.o _ _ (iw f (OnlyC.aR _ l 0 _) (fun e=>c.o.e01 e.1) (fun e=>c.o.yJ HP.o.1 e.1) (fun e=>c.o.yJ HP.o.2 e.1)) ?_;clear g M f L rf;intro f
  try simp only[xT]
  refine qe (by kernel_rfl) ?_ _;have dM:=c.o.p1 (aw _ _) K.o.2 K.o.1;clear f;generalize wn.setCell ⟨l,0,none⟩ (.slice A6 n6 k)=N at dM⊢;have c:=al dM;clear dM HV K;have am:=(c.o.gZ.2.1.ln n.o.q.q.t.1).1;rw[Nat.zero_mul,mT]at am;obtain⟨C,J⟩:=am;obtain⟨⟨c1,-⟩,-,-⟩:=ae c.o.lH.1;obtain⟨⟨B,-⟩,-,-⟩:=ae c.o.gZ.1;have Y:=yv c1 B C J;clear c1 B C J;have C:=al (by have h0:=c.o.gZ.2.1.qI (i:=0) m.o.q.d.1;rw[Nat.zero_mul,mT]at h0;exact h0);go_upto_region 2 with fail;refine pw (S:=(fun W=>W.cell? ⟨a,0,none⟩=some (.slice (some ⟨bn,on,none⟩) np cn)/\W.cell? ⟨r,0,none⟩=some (.slice (some ⟨br,YV,none⟩) nr cr)/\W.cell? ⟨br,YV,none⟩=some (sd z.1)/\W.cell? ⟨br,YV+1,none⟩=some (sd z.2))) (by kernel_rfl) Y (fun f=>?_);generalize Q:World.drew N=t at f⊢;have c:=al (c.o.below (w1:=t) (Q▸(aw _ _).drew));clear Q Y;refine bq [0,1,2,3,4,5,6,7,8,9,10,11] ?_
  iterate 12 (refine ek (v:=?_) (fun _ ⟨S,Z,D,J⟩=>?_) f ?_;rotate_left;(go_simp;try rfl);try simp only[xT])
  refine bt ?_;refine bC 12 (fun M g=>?_);obtain⟨⟨J,k⟩,D,N⟩:=c.o.lH.2.1.ln n.o.q.q.d.1;go_simp;refine g.o _ _ (xt f (c.o.lH.2.1.fE (i:=i) z.1 z.2 (by have:=m.o.q.q.d.1;have:=m.o.q.q.t.1;omega)).2 (fun h=>c.o.KJ h rfl) (fun h=>c.o.KL h rfl) (fun h=>c.o.tL h C.o.1) (fun h=>c.o.tL h C.o.2)) ?_;clear g M f J k D N;intro f
  try simp only[xT]
  refine qe (by kernel_rfl) ?_ _;have k:=c.o.i0 (c.o.lH.2.1.fE (i:=i) z.1 z.2 (by have:=m.o.q.q.d.1;have:=m.o.q.q.t.1;omega)).2 (c.o.lH.2.1.fE (i:=i) z.1 z.2 (by have:=m.o.q.q.d.1;have:=m.o.q.q.t.1;omega)).1;clear f;generalize (t.setCell ⟨bn,on+i*2,none⟩ (sd z.1)).setCell ⟨bn,on+i*2+1,none⟩ (sd z.2)=D at k⊢;have c:=al k;clear k C;obtain⟨⟨B,-⟩,-,-⟩:=ae c.o.gZ.1;go_wp2_with fail;refine(lT D (Hr 1) _ (E.ps.map aA) 0 _ _ rfl (by simp) c.o.gZ.2.1 (by rw[eS];exact m.o.q.d.1) (by rw[eS];omega) (dH _)).m ?_;rintro e w9 ⟨v9,rfl,N,ez⟩;rw[kn,fm,<-lr]at N;obtain⟨A9,c9,gD,-⟩:=N.slice;obtain⟨n9,fY⟩:=rl (((E.ps.drop (0+1)).map aA).length);rw[fY]at gD;subst gD;clear fY B;have V:=AI N ez;clear N ez;obtain⟨⟨B,-⟩,f2,-⟩:=ae (V.o.2.heap c.o.gZ.1 (fun q h=>c.o.RX h rfl));go_upto_region 4 with fail;clear B f2;have k:=c.o.p2 (aw _ _) V.o.2 (V.o.1.m (fun b q h=>.inl h));generalize w9.setCell ⟨r,0,none⟩ (.slice A9 n9 c9)=wA at k⊢;have c:=al k;clear k V;obtain⟨⟨-,B⟩,-,-⟩:=ae c.o.gZ.1;by_cases U:d=0
  ·subst U;have e1:G.ks=[]:=n.o.q.q.q.1 rfl;have D:E.ks=[]:=n.o.q.q.q.2 rfl;have ed:Ct=0:=by rw[m.o.q.1,m.o.q.q.2.1,D];rfl
   subst ed;have jC:=al (dO wA r Rg YT B);have HE:=AI e1 D;clear B e1 D;go_wp2_with fail;refine jC.o.m ?_;rintro e wZ ⟨rfl,G6⟩;subst G6;go_wp2_with fail
   first|refine et (du rfl _ _ _) rfl ?_|refine dj (du rfl _ _ _) rfl ?_
   obtain⟨e1,D⟩:=HE.o;have hE:=gM n.o.1 n.o.2.1 (by have:=m.o.q.q.d.1;omega) n.o.d.1 n.o.t.1 n.o.q.1 n.o.q.2.1 c.o 0 0 (b8 _) (dq _) [] (fun _ _ _=>False) 0 0 (b8 _) (dq _) [] (fun _ _ _=>False) rfl n.o.q.d.1 n.o.q.t.1 (by simp) (by simp) (fun _ _ _ P=>P.elim) (fun _ _ _ P=>P.elim) (fun _ _ _ _ P=>P.elim) (fun _ _ _ _ P=>P.elim) (fun J p k C=>by simp at C) (fun J p k C=>by simp at C) (by simp[e1]) (by simp[D]);rw[JU n.o.q.q.t.1];refine⟨rfl,?_,hE.2⟩;have J:=hE.1;simp only[e1,D,List.take_nil,List.drop_nil,kh,gr]at J;exact J
  ·have R:=m.o.q.q.q.2 U;obtain⟨D,aa⟩: ∃p,pr[0]?=some p:=⟨_,ao (by have:=m.o.q.q.2.1;omega)⟩;obtain⟨k0,ed⟩: ∃p,E.ks[0]?=some p:=⟨_,ao (by omega)⟩;have E:=c.o;obtain⟨ad,ac,a2,v,-,-,-⟩:=E.gZ.2.2.ptr aa;simp only[im]at v;obtain⟨rfl,-,rfl⟩:=v;have T:0<Ct:=by rw[m.o.q.1,m.o.q.q.2.1];exact R
   have jC:=al (fk wA r Ct Rg _ T B);have c:=al E;have HM:=AS aa ed R U (by have h0:=E.gZ.2.2.Ew (i:=0) (by rw[<-m.o.q.1];exact T);rw[mT]at h0;exact h0);have q6:(0:Int)<(Ct:Int):=by omega
   have q7:Ct<=902:=by have:=m.o.q.1;have:=m.o.q.q.2.1;omega
   clear E aa ed R U B;go_wp2_with fail;refine jC.o.m ?_;rintro e wZ ⟨rfl,G6⟩;subst G6;clear jC;obtain⟨⟨-,c1⟩,-,-⟩:=ae c.o.gZ.1;have c9:=c.o.gZ.2.2.Ev HM.o.1;rw[mT]at c9;have Y:=ab c1 c9;clear c1 c9;go_upto_region 5 with fail;refine pw (S:=(fun W=>W.cell? ⟨r,1,none⟩=some (.slice (some ⟨ad,ac,none⟩) Ct Rg)/\W.cell? ⟨ad,ac,none⟩=some (r7 D))) (by kernel_rfl) Y (fun f=>?_);generalize Q:World.drew wA=t at f⊢;have c:=al (c.o.below (w1:=t) (Q▸(aw _ _).drew));clear Q Y;refine bq [0,1,2,3,5,6,7,8,9,10] ?_
   iterate 10 (refine ek (v:=?_) (fun _ ⟨S,Z⟩=>?_) f ?_;rotate_left;(go_simp;try rfl);try simp only[xT])
   refine bt ?_;refine qn (rs:=[4,11]) (by kernel_rfl) (by simp) (dw (i:=4) rfl (fun M g=>?_) (dw (i:=11) rfl (fun M g=>?_) pt))
   focus
    obtain⟨⟨-,L⟩,-,-⟩:=ae c.o.fJ.1;go_simp;refine g.o _ _ (f) ?_;clear g M f L;intro f
    try simp only[xT]
    refine bC 11 (fun M g=>?_);go_simp;refine g.o _ _ (l7 f (af _ _)) ?_;clear g M f;intro f
    try simp only[xT]
    obtain⟨A,o⟩:=rk t (sz D);generalize t.alloc (sz D)=W5 at o A f⊢;obtain⟨VB,I⟩:=rl (t.heap.size);rw[I]at o⊢;have HV:=al o;have c:=al (c.o.below A);clear o A I
   rotate_left
   focus
    go_simp;refine g.o _ _ (l7 f (af _ _)) ?_;clear g M f;intro f
    try simp only[xT]
    obtain⟨A,o⟩:=rk t (sz D);generalize t.alloc (sz D)=W5 at o A f⊢;obtain⟨VB,I⟩:=rl (t.heap.size);rw[I]at o⊢;have HV:=al o;have c:=al (c.o.below A);clear o A I;refine bC 4 (fun M g=>?_);obtain⟨⟨-,L⟩,-,-⟩:=ae c.o.fJ.1;go_simp;refine g.o _ _ (f) ?_;clear g M f L;intro f
    try simp only[xT]
   all_goals
    refine bC 12 (fun M g=>?_);refine cP _ (by rfl) _ _ 171 (by rfl) iN (.pointer none) 8 underlying171 X.o.q.1 X.o.q.2.1 X.o.q.d.1 X.o.q.t (by rfl) (by decide) _ (pl.map aN) (by rfl) c.o.fJ.2.2 ⟨VB,0,none⟩ 1 1 [aN D] (by rfl) rfl (fun y hy=>by rw[fl]at hy;subst hy;rfl) (fun j u hj=>by rw[ie,gR];exact ph HV.o (by simpa[aN]using hj)) (by simp[aN,Value.oneCell']) (by rw[eS];have:=m.o.q.q.1;unfold maxLen;omega) (by rw[eS];have:=m.o.q.q.1;omega) ?_;intro v6 wn O eV;rw[show pl.map aN++[aN D]=(pl++[D]).map aN by simp]at O;obtain⟨t,o,fM,-⟩:=O.slice;obtain⟨u,fB⟩:=rl (((pl++[D]).map aN).length);rw[fB]at fM;subst fM;clear fB;have K:=AI O eV;clear O eV;refine g.o _ _ (dB f K.o.2 (fun h=>c.o.yL h rfl) (fun h=>c.o.tM h HM.o.q)) ?_;clear g M f;intro f
    try simp only[xT]
    refine bq [13,14] ?_
    iterate 2 (refine ek (v:=?_) (fun _ ⟨S,Z⟩=>?_) f ?_;rotate_left;(go_simp;try rfl);try simp only[xT])
    refine bt ?_;refine bC 15 (fun M g=>?_);obtain⟨⟨-,L⟩,-,rf⟩:=ae (K.o.2.heap c.o.fJ.1 (fun q h=>c.o.yK h rfl));go_simp;refine g.o _ _ (dB f (OnlyC.aR _ l 1 _) (fun e=>c.o.e12 e.1.symm) (fun e=>c.o.DX HM.o.q e.1)) ?_;clear g M f L rf;intro f
    try simp only[xT]
    refine qe (by kernel_rfl) ?_ _;have dM:=c.o.k1 (aw _ _) K.o.2 K.o.1;clear f;generalize wn.setCell ⟨l,1,none⟩ (.slice t u o)=f at dM⊢;have c:=al dM;clear dM HV K;obtain⟨⟨-,B⟩,-,-⟩:=ae c.o.gZ.1;go_wp2_with fail;refine(ji f (Hr 2) _ (pr.map aN) 0 _ _ rfl (by simp) c.o.gZ.2.2 (by rw[eS,<-m.o.q.1];exact T) (by rw[eS,<-m.o.q.1];omega) (b7 _)).m ?_;rintro e w9 ⟨v9,rfl,N,ez⟩;rw[kn,fm,<-lr]at N;obtain⟨E,A,gD,-⟩:=N.slice;obtain⟨I,fY⟩:=rl (((pr.drop (0+1)).map aN).length);rw[fY]at gD;subst gD;clear fY B;have V:=AI N ez;clear N ez;obtain⟨⟨-,B⟩,-,f2⟩:=ae (V.o.2.heap c.o.gZ.1 (fun q h=>c.o.DY h rfl));go_wp2_with fail
    first|refine et (du rfl _ _ _) rfl ?_|refine dj (du rfl _ _ _) rfl ?_
    have j:=c.o.k2 (aw _ _) V.o.2 (V.o.1.m (fun b q h=>.inl h));obtain⟨aa,ed,R,U,-⟩:=HM.o;have h:bX w d D k0 (Hr (0+3)):=(n.o.q.1).2.2.2.2.2.1 0 D k0 aa ed
    have hE:=gM n.o.1 n.o.2.1 (by have:=m.o.q.q.d.1;omega) n.o.d.1 n.o.t.1 n.o.q.1 n.o.q.2.1 j G.ks.length G.ks.length (b8 _) (b8 _) [(D,k0)] (rh (Hr (0+3)) (fun _ _=>False)) 0 1 (by decide) R [] (fun _ _ _=>False) rfl n.o.q.d.1 n.o.q.t.1 (by rw[<-m.o.q.q.1];simp) (by simp) (fun f b q P=>match f,P with|0,P=>⟨0,b8 _,by omega,P⟩|1,P=>P.elim|_+2,P=>P.elim) (fun _ _ _ P=>P.elim)
     (fun f y b q J g=>by
      match f,J,y,g with
      |0,_,0,_=>rfl
      |1,J,_,_=>exact J.elim
      |_+2,J,_,_=>exact J.elim
      |0,_,1,g=>exact g.elim
      |0,_,_+2,g=>exact g.elim) (fun _ _ _ _ P=>P.elim)
     (fun f p k C=>by
      match f,C with
      |0,C=>simp only[iS,fj,me]at C;obtain⟨rfl,rfl⟩:=C;exact h
      |f+1,C=>simp at C)
     (fun f p k C=>by simp at C)
     (fun e=>absurd e U) (fun e=>absurd e U)
    rw[vv U n.o.q.q.t.1 ed];refine⟨rfl,?_,hE.2⟩;have J:=hE.1;simp only[gn,List.drop_length,kn,kh,lx,gr,fm]at J;exact J
theorem oN(w:World)(d a i:Nat)(x:ND)(F:Nat->Nat->Prop)(h:aG w (d+1) a x F)(U: ∀b S,F b S->b<w.heap.size)(hi:i+1<x.ks.length)(aa:x.ks.length=x.ps.length+1)(am:x.ps.length<=900)
  (Wp:(aT x i).ps.length<=900) (a6:(aT x (i+1)).ps.length<=900) (ad:(aT x i).ks.length<=901) (ap:(aT x (i+1)).ks.length<=901):
  Calls prog 245 #[r7 a,rv i] w fun L c=>L=.returned (.tuple #[])/\aG c (d+1) a (uD x i (lR (aT x i) (gP x i) (aT x (i+1)))) (fun b S=>F b S\/w.heap.size<=b)/\OnlyC F w c:=by
 obtain⟨_,vp,vk,C,H,e,_⟩:=h.open_;have N:=dA (x:=x) (i:=i) (by omega);have M:=dA (x:=x) (i:=i+1) (by omega);generalize f:aT x i=m at *;generalize c:aT x (i+1)=u at *;clear f c;obtain⟨l,s⟩: ∃y,C[i]?=some y:=⟨_,ao (by rw[e.2.2.2.2.1];omega)⟩;obtain⟨r,z⟩: ∃y,C[i+1]?=some y:=⟨_,ao (by rw[e.2.2.2.2.1];omega)⟩;obtain⟨ow,vl,ul,Q,Hl,g,Y⟩:=(show aG w d l m (H (i+3))from e.2.2.2.2.2.1 i l m s N).open_;obtain⟨W,vr,ur,O,Hr,f,Ra⟩:=(show aG w d r u (H (i+4))from e.2.2.2.2.2.1 (i+1) r u z M).open_;have G:=bE.start e U g f;obtain⟨J,q⟩: ∃p,x.ps[i]?=some p:=⟨_,ao (by omega)⟩;obtain⟨iP,j,p,t,k⟩:=ef Tryz.Gc;obtain⟨iN,c,n,A,v⟩:=ef Tryz.Ge;have o:=BT j p t k c n A v;clear j p t k c n A v;have Ey:gP x i=J:=by unfold gP;rw[q];rfl
 rw[Ey];obtain⟨t,K⟩:=rm (i+1);obtain⟨Z,X,cn,c,-,-,I,P,-⟩:=e.2.2.1.pair q;subst c;obtain⟨Ar,cr,c,-⟩:=f.2.2.1.slice;rw[eS]at c;subst c;obtain⟨a5,cl,c,-⟩:=g.2.2.1.slice;rw[eS]at c;subst c;obtain⟨bk,ok,ck,c,-,-,r1⟩:=e.2.2.2.1.ptr s;obtain⟨a3,a4,a2,Re,-,-,r2⟩:=e.2.2.2.1.ptr z;subst c;simp only[im,fj,nx,and_true,true_and]at Re;obtain⟨⟨rfl,rfl⟩,rfl⟩:=Re;obtain⟨Al,UX,c,-⟩:=g.2.2.2.1.slice;rw[eS]at c;subst c;obtain⟨YT,Rg,c,-⟩:=f.2.2.2.1.slice;rw[eS]at c;subst c;obtain⟨V,v⟩:=rl (x.ps.length);obtain⟨nr,E⟩:=rl (u.ps.length);obtain⟨T,B⟩:=rl (C.length);obtain⟨Ez,p⟩:=rl (Q.length);obtain⟨Ct,n⟩:=rl (O.length);obtain⟨nl,j⟩:=rl (m.ps.length);have iG:=e.2.2.2.2.1;have UY:=g.2.2.2.2.1;have JS:=f.2.2.2.2.1;rw[v,B]at e;rw[j,p]at g;rw[E,n]at f;rw[v,B,j,p,E,n]at G;have tY:=(e.2.2.1.qI (i:=i) (by omega));have A:=Dg e U g Y f Ra s z N M q ow W;have k:=al (show V=x.ps.length/\nr=u.ps.length/\T=C.length/\Ez=Q.length/\Ct=O.length/\nl=m.ps.length/\C.length=x.ks.length/\Q.length=m.ks.length/\O.length=u.ks.length/\i+1<x.ks.length/\x.ks.length=x.ps.length+1/\t=i+1 from⟨v.symm,E.symm,B.symm,p.symm,n.symm,j.symm,iG,UY,JS,hi,aa,K⟩);have c:=al G;have R:=al tY;obtain⟨⟨D,YU⟩,-,-⟩:=ae G.lH.1;have j1:(i:Int)+1=(t:Int):=by omega
 have j2:(0:Int)<=(i:Int):=by omega
 have j3:(i:Int)<(T:Int):=by omega
 have j4:(t:Int)<(T:Int):=by omega
 have j5:(0:Int)<=(t:Int):=by omega
 have j6:(i:Int)<(V:Int):=by omega
 have j8:nr<=900:=by omega
 have a1:nl<=900:=by omega
 obtain⟨a',a0⟩:=MX t (by omega);have ac:w.cell? ⟨bk,ok+t,none⟩=some (r7 r):=by rw[K];exact r2
 clear r2 h e U g Y f Ra s z N M G q v E B p n j iG UY JS tY K Ey ow W;go_enter func245,ntmps245;go_wp2_with fail;go_quiet(fail);go_upto_region 1 with fail;have e:Below w.heap.size w (w.drewN nq):=aI (aw _ _) nq;generalize w.drewN nq=h at e⊢;have f:=(e.cell (aq _ _ I)).x I;have g:=(e.cell (aq _ _ P)).x P;have c:=al (c.o.below e);clear D YU r1 ac I P e;obtain⟨⟨D,-⟩,-,-⟩:=ae c.o.lH.1;have B:=yk D f g;clear D f g;refine pw (S:=(fun W=>W.cell? ⟨a,0,none⟩=some (.slice (some ⟨Z,X,none⟩) V cn)/\W.cell? ⟨Z,X+i*2,none⟩=some (sd J.1)/\W.cell? ⟨Z,X+i*2+1,none⟩=some (sd J.2))) (by kernel_rfl) B (fun e=>?_);generalize v:World.drew h=p at e⊢;have c:=al (c.o.below (w1:=p) (v▸(aw _ _).drew));clear v B;refine bq [0,1,2,3,5,6,7,8,9,10,11] ?_
 iterate 11 (refine ek (v:=?_) (fun _ ⟨I,P,s⟩=>?_) e ?_;rotate_left;(go_simp;try rfl);try simp only[xT])
 refine bt ?_;refine qn (rs:=[4,12]) (by kernel_rfl) (by simp) (dw (i:=4) rfl (fun K f=>?_) (dw (i:=12) rfl (fun K f=>?_) pt))
 focus
  obtain⟨⟨n,-⟩,-,-⟩:=ae c.o.fJ.1;go_simp;refine f.o _ _ (e) ?_;clear f K e n;intro e
  try simp only[xT]
  refine bC 12 (fun K f=>?_);go_simp;refine f.o _ _ (sV e (af _ _)) ?_;clear f K e;intro e
  try simp only[xT]
  obtain⟨h,g⟩:=rk p (so J.1.toArray J.2.toArray);generalize p.alloc (so J.1.toArray J.2.toArray)=z at g h e⊢;obtain⟨q,j⟩:=rl (p.heap.size);rw[j]at g⊢;have E:=al g;have c:=al (c.o.below h);clear g h j
 rotate_left
 focus
  go_simp;refine f.o _ _ (sV e (af _ _)) ?_;clear f K e;intro e
  try simp only[xT]
  obtain⟨h,g⟩:=rk p (so J.1.toArray J.2.toArray);generalize p.alloc (so J.1.toArray J.2.toArray)=z at g h e⊢;obtain⟨q,j⟩:=rl (p.heap.size);rw[j]at g⊢;have E:=al g;have c:=al (c.o.below h);clear g h j;refine bC 4 (fun K f=>?_);obtain⟨⟨n,-⟩,-,-⟩:=ae c.o.fJ.1;go_simp;refine f.o _ _ (e) ?_;clear f K e n;intro e
  try simp only[xT]
 all_goals
  refine bC 13 (fun K f=>?_);refine cP _ (by rfl) _ _ 170 (by rfl) iP (.agg #[.string ⟨#[]⟩,.string ⟨#[]⟩]) 32 underlying170 o.o.1 o.o.2.1 o.o.d.1 o.o.t.1 (by rfl) (by decide) _ (m.ps.map aA) (by rfl) c.o.fJ.2.1 ⟨q,0,none⟩ 1 1 [aA J] (by rfl) rfl (fun y g=>by rw[fl]at g;subst g;rfl) (fun j h g=>by rw[ie,gR];exact ph E.o (by simpa[aA]using g)) (by simp[aA,Value.oneCell']) (by rw[eS];unfold maxLen;omega) (by rw[eS];omega) ?_;intro v6 M j z;rw[show m.ps.map aA++[aA J]=(m.ps++[J]).map aA by simp]at j;obtain⟨A6,c6,D,-⟩:=j.slice;obtain⟨n6,y⟩:=rl (((m.ps++[J]).map aA).length);rw[y]at D;subst D;clear y;have h:=AI j z;clear j z;refine f.o _ _ (iw e h.o.2 (fun g=>c.o.RV g rfl) (fun g=>c.o.nO R.o.1 g) (fun g=>c.o.nO R.o.2 g)) ?_;clear f K e;intro e
  try simp only[xT]
  refine bq [14,15] ?_
  iterate 2 (refine ek (v:=?_) (fun _ ⟨I,P,s⟩=>?_) e ?_;rotate_left;(go_simp;try rfl);try simp only[xT])
  refine bt ?_;refine bC 16 (fun K f=>?_);obtain⟨⟨n,-⟩,s,-⟩:=ae (h.o.2.heap c.o.fJ.1 (fun S g=>c.o.DW g rfl));go_simp;refine f.o _ _ (iw e (OnlyC.aR _ l 0 _) (fun L=>c.o.e01 L.1) (fun L=>c.o.yJ R.o.1 L.1) (fun L=>c.o.yJ R.o.2 L.1)) ?_;clear f K e n s;intro e
  try simp only[xT]
  refine qe (by kernel_rfl) ?_ _;have q:=c.o.p1 (aw _ _) h.o.2 h.o.1;clear e;generalize M.setCell ⟨l,0,none⟩ (.slice A6 n6 c6)=G at q⊢;have c:=al q;clear q E h;obtain⟨⟨E,-⟩,-,-⟩:=ae c.o.gZ.1;have B:=E;clear E;go_upto_region 2 with fail;refine pw (S:=(fun W=>W.cell? ⟨r,0,none⟩=some (.slice Ar nr cr))) (by kernel_rfl) B (fun e=>?_);generalize v:World.drew G=p at e⊢;have c:=al (c.o.below (w1:=p) (v▸(aw _ _).drew));clear v B;refine bq [0,1,2,3,5,6,7] ?_
  iterate 7 (refine ek (v:=?_) (fun N G=>?_) e ?_;rotate_left;(go_simp;try rfl);try simp only[xT])
  refine bt ?_;refine ml 8 (v:=?_) (fun N G=>?_) e ?_;rotate_left
  ·have I:=G;go_simp;try rfl
  try simp only[xT]
  refine bC 4 (fun K f=>?_);obtain⟨⟨n,-⟩,s,-⟩:=ae (c.o.fJ.1);go_simp;refine f.o _ _ (e) ?_;clear f K e n s;intro e
  try simp only[xT]
  refine bC 9 (fun K f=>?_);refine gK _ (by rfl) _ _ 170 (by rfl) iP (.agg #[.string ⟨#[]⟩,.string ⟨#[]⟩]) 32 underlying170 o.o.1 o.o.2.1 o.o.d.1 o.o.t.1 (by rfl) (by decide) _ ((m.ps++[J]).map aA) (by rfl) c.o.fJ.2.1 _ (u.ps.map aA) (by rfl) c.o.gZ.2.1 (dH _) (by simp;unfold maxLen;omega) (by simp;omega) ?_;intro v6 M j z;rw[<-ix]at j;obtain⟨Y,U,D,-⟩:=j.slice;obtain⟨n7,y⟩:=rl ((((m.ps++[J])++u.ps).map aA).length);rw[y]at D;subst D;clear y;have h:=AI j z;clear j z;refine f.o _ _ (h.o.2.cell e (fun g=>c.o.ZE g rfl)) ?_;clear f K e;intro e
  try simp only[xT]
  refine bq [10,11] ?_
  iterate 2 (refine ek (v:=?_) (fun N G=>?_) e ?_;rotate_left;(go_simp;try rfl);try simp only[xT])
  refine bt ?_;refine bC 12 (fun K f=>?_);obtain⟨⟨n,-⟩,s,-⟩:=ae (h.o.2.heap c.o.fJ.1 (fun S g=>c.o.DW g rfl));go_simp;refine f.o _ _ ((OnlyC.aR _ l 0 _).cell e (fun L=>c.o.e12 L.1.symm)) ?_;clear f K e n s;intro e
  try simp only[xT]
  refine qe (by kernel_rfl) ?_ _;have q:=c.o.p1 (aw _ _) h.o.2 h.o.1;clear e;generalize M.setCell ⟨l,0,none⟩ (.slice Y n7 U)=wE at q⊢;have c:=al q;clear q h;obtain⟨⟨-,E⟩,-,-⟩:=ae c.o.gZ.1;have B:=E;clear E;go_upto_region 3 with fail;refine pw (S:=(fun W=>W.cell? ⟨r,1,none⟩=some (.slice YT Ct Rg))) (by kernel_rfl) B (fun e=>?_);generalize v:World.drew wE=p at e⊢;have c:=al (c.o.below (w1:=p) (v▸(aw _ _).drew));clear v B;refine bq [0,1,2,3,5,6,7] ?_
  iterate 7 (refine ek (v:=?_) (fun N G=>?_) e ?_;rotate_left;(go_simp;try rfl);try simp only[xT])
  refine bt ?_;refine ml 8 (v:=?_) (fun N G=>?_) e ?_;rotate_left
  ·have I:=G;go_simp;try rfl
  try simp only[xT]
  refine bC 4 (fun K f=>?_);obtain⟨⟨-,n⟩,-,s⟩:=ae (c.o.fJ.1);go_simp;refine f.o _ _ (e) ?_;clear f K e n s;intro e
  try simp only[xT]
  refine bC 9 (fun K f=>?_);refine gK _ (by rfl) _ _ 171 (by rfl) iN (.pointer none) 8 underlying171 o.o.q.1 o.o.q.2.1 o.o.q.d.1 o.o.q.t (by rfl) (by decide) _ (Q.map aN) (by rfl) c.o.fJ.2.2 _ (O.map aN) (by rfl) c.o.gZ.2.2 (b7 _) (by rw[eS,eS];have:=k.o.q.t.1;have:=k.o.q.q.1;unfold maxLen;omega) (by rw[eS,eS];have:=k.o.q.t.1;have:=k.o.q.q.1;omega) ?_;intro v6 M j z;rw[<-ix]at j;obtain⟨Y,U,D,-⟩:=j.slice;obtain⟨n7,y⟩:=rl (((Q++O).map aN).length);rw[y]at D;subst D;clear y;have h:=AI j z;clear j z;refine f.o _ _ (h.o.2.cell e (fun g=>c.o.yL g rfl)) ?_;clear f K e;intro e
  try simp only[xT]
  refine bq [10,11] ?_
  iterate 2 (refine ek (v:=?_) (fun N G=>?_) e ?_;rotate_left;(go_simp;try rfl);try simp only[xT])
  refine bt ?_;refine bC 12 (fun K f=>?_);obtain⟨⟨-,n⟩,-,s⟩:=ae (h.o.2.heap c.o.fJ.1 (fun S g=>c.o.yK g rfl));go_simp;refine f.o _ _ ((OnlyC.aR _ l 1 _).cell e (fun L=>c.o.e12 L.1.symm)) ?_;clear f K e n s;intro e
  try simp only[xT]
  refine qe (by kernel_rfl) ?_ _;have q:=c.o.k1 (aw _ _) h.o.2 h.o.1;clear e;generalize M.setCell ⟨l,1,none⟩ (.slice Y n7 U)=e at q⊢;have c:=al q;clear q h;obtain⟨⟨p,-⟩,-,-⟩:=ae c.o.lH.1;go_wp2_with fail;refine(lT e (H 1) _ (x.ps.map aA) i _ _ rfl (by omega) c.o.lH.2.1 (by rw[eS];have:=k.o.q.q.2.1;have:=k.o.q.q.d.1;omega) (by rw[eS];omega) (dH _)).m ?_;rintro L q ⟨B,rfl,e,n⟩;rw[<-mc,<-lr,<-ix]at e;obtain⟨v,s,j,-⟩:=e.slice;obtain⟨z,h⟩:=rl (((x.ps.take i++x.ps.drop (i+1)).map aA).length);rw[h]at j;subst j;clear h p;have f:=AI e n;clear e n;obtain⟨⟨p,-⟩,y,-⟩:=ae (f.o.2.heap c.o.lH.1 (fun S g=>c.o.KJ g rfl));go_upto_region 5 with fail;clear p y;have p:=c.o.p0 (aw _ _) f.o.2 (f.o.1.m (fun b S g=>.inl g));generalize q.setCell ⟨a,0,none⟩ (.slice v z s)=y at p⊢;have c:=al p;clear p f;obtain⟨⟨-,E⟩,-,-⟩:=ae c.o.lH.1;go_wp2_with fail;refine(ji y (H 2) _ (C.map aN) t _ _ (by simp) (by omega) c.o.lH.2.2 (by rw[eS];have:=k.o.q.q.2.1;have:=k.o.q.d.1;have:=k.o.q.q.t;omega) (by rw[eS];have:=k.o.q.d.1;have:=k.o.q.q.d.1;omega) (b7 _)).m ?_;rintro L p ⟨B,rfl,e,n⟩;rw[<-mc,<-lr,<-ix]at e;obtain⟨G,y,j,-⟩:=e.slice;obtain⟨D,h⟩:=rl (((C.take t++C.drop (t+1)).map aN).length);rw[h]at j;subst j;clear h E;have f:=AI e n;clear e n;obtain⟨⟨-,E⟩,-,n⟩:=ae (f.o.2.heap c.o.lH.1 (fun S g=>c.o.ZC g rfl));go_wp2_with fail
  first|refine et (du rfl _ _ _) rfl ?_|refine dj (du rfl _ _ _) rfl ?_
  have h:=c.o.k0 (aw _ _) f.o.2 (f.o.1.m (fun b S g=>.inl g));have e:=Js A.o.1 A.o.2.1 (by have:=k.o.q.q.2.1;omega) A.o.d.1 A.o.t.1 A.o.q.1 h ?_ rfl (fun L=>by rw[A.o.q.q.t.1 L,A.o.q.q.q L];rfl)
  ·refine⟨rfl,?_,e.2⟩;have b:=e.1;have g:m.ps++[J]++u.ps=m.ps++J::u.ps:=by simp
   rw[g]at b;exact b
  ·have b:=A.o.q.d.1;have j:=(bd.1 b);obtain⟨m,g⟩:=j;rw[k.o.q.q.t,List.take_succ_eq_append_getElem m,g]
end Go.Proofs.YtehccbdajiiaaaaGreatDoor
