import Derived.Test.YtmkofmeojbcakaaGreatDoorC04
import Derived.Test.YtmkofmeojbcakaaGreatDoorC16
namespace Go.Proofs.YtmkofmeojbcakaaGreatDoor
open Go.Proofs.Tryz
set_option maxRecDepth 100000
set_option maxHeartbeats 16000000
open Go.RowKit
theorem dZ(w:World)(a c:Nat)(A:Option Addr)(c1:w.cell? ⟨a,1,none⟩=some (.slice A 0 c)):Calls prog 119 #[.pointer (some ⟨a,0,none⟩)] w fun e w'=>e=.returned (.bool true)/\w=w':=by
 go_enter func119,ntmps119;go_wp2;go_ret
 exact⟨rfl,rfl⟩
theorem fq(w:World)(a n c:Nat)(A:Option Addr)(hn:0<n)(c1:w.cell? ⟨a,1,none⟩=some (.slice A n c)):Calls prog 119 #[.pointer (some ⟨a,0,none⟩)] w fun e w'=>e=.returned (.bool false)/\w=w':=by
 have hz:(((n:Int))==0)=false:=by rw[beq_eq_false_iff_ne];omega
 have hz2: ¬n=0:=by omega
 go_enter func119,ntmps119;go_wp2;go_ret
 exact⟨rfl,rfl⟩
theorem af{w:World}{l:Nat}{v u:Value}(h:w.heap[l]?=some (.cells #[v,u] 185 (0,0))):(w.cell? ⟨l,0,none⟩=some v/\w.cell? ⟨l,1,none⟩=some u)/\w.frozen? ⟨l,0,none⟩=false/\w.frozen? ⟨l,1,none⟩=false:=by simp[World.cell?,World.frozen?,h]
theorem jb{w:World}{l:Nat}{v u:Value}(h:w.heap[l]?=some (.cells #[v,u] 185 (0,0)))(x:Value):(w.setCell ⟨l,0,none⟩ x).heap[l]?=some (.cells #[x,u] 185 (0,0)):=by have:=db w l 0 _ _ x h;simpa using this
theorem Jj{w:World}{l:Nat}{v u:Value}(h:w.heap[l]?=some (.cells #[v,u] 185 (0,0)))(x:Value):(w.setCell ⟨l,1,none⟩ x).heap[l]?=some (.cells #[v,x] 185 (0,0)):=by have:=db w l 1 _ _ x h;simpa using this
theorem tH{P:Program}(t e:TypeId)(k:Nat)(ht:P.underlying t=some (.slice e))(hsz: ∀w,(sizeOf e).run P w=.ok k w)(b o len c l h mx:Nat)(h1:l<=h)(h2:h<=mx)(h3:mx<=c)(hl:l<mx)(w:World):
  (Instr.slice t (.slice (some ⟨b,o,none⟩) len c) (some (.int .i64 (l:Int))) (some (.int .i64 (h:Int))) (some (.int .i64 (mx:Int)))).run P w=.ok (.slice (some ⟨b,o+l*k,none⟩) (h-l) (mx-l)) w:=by
 have hne: ¬mx=l:=by omega
 have YC: ¬l=mx:=by omega
 have h4:h<=c:=by omega
 have h5:l<=c:=by omega
 simp[Instr.slice,run_underlying ht,Instr.sliceBounds,run_sliceBound,h1,h2,h3,hsz,hne,gO]
theorem tI{P:Program}(t e:TypeId)(k:Nat)(ht:P.underlying t=some (.slice e))(hsz: ∀w,(sizeOf e).run P w=.ok k w)(b o len c h:Nat)(h3:h<=c)(w:World):
  (Instr.slice t (.slice (some ⟨b,o,none⟩) len c) none (some (.int .i64 (h:Int))) (some (.int .i64 (h:Int)))).run P w=.ok (.slice (some ⟨b,o,none⟩) h h) w:=by
 have e0:(⟨b,o,none⟩:Addr).add 0=⟨b,o,none⟩:=by rw[gO,my]
 simp[Instr.slice,run_underlying ht,Instr.sliceBounds,run_sliceBound,h3,hsz,e0]
theorem ft{w:World}{l:Nat}{v u:Value}{t:TypeId}(h:w.heap[l]?=some (.cells #[v,u] t (0,0))):w.cell? ⟨l,0,none⟩=some v/\w.cell? ⟨l,1,none⟩=some u:=by simp[World.cell?,h]
theorem lU{W W':World}{p1 p2:Addr}{v1 v2:Value}(h:W.cell? p1=some v1/\W.cell? p2=some v2)(hb:Below W.heap.size W W'):W'.cell? p1=some v1/\W'.cell? p2=some v2:=
 ⟨(hb.cell (aq _ _ h.1)).x h.1,(hb.cell (aq _ _ h.2)).x h.2⟩
theorem dK{W W':World}{F:Nat->Nat->Prop}{b1 q1 b2 q2:Nat}{v1 v2:Value}(h:W.cell? ⟨b1,q1,none⟩=some v1/\W.cell? ⟨b2,q2,none⟩=some v2)(ho:OnlyC F W W')(h1: ¬F b1 q1)(h2: ¬F b2 q2):W'.cell? ⟨b1,q1,none⟩=some v1/\W'.cell? ⟨b2,q2,none⟩=some v2:=
 ⟨ho.cell h.1 h1,ho.cell h.2 h2⟩
theorem rU{d i o m:Nat}{x k:ND}{p0:Pr}(hk:x.ks[i]?=some k)(hd0:d=0->k.ks=[])(hp0:k.ps[m]?=some p0)(hm:o=m+1):ny d x i o=.mk (x.ps.take i++p0::x.ps.drop i) (x.ks.take i++(jF d k o).1::(jF d k o).2.2::x.ks.drop (i+1)):=by
 have e:(jF d k o).2.1=p0:=by rw[IW hd0];simp only;rw[hm,nx,hp0];rfl
 unfold ny;rw[hk];simp only[Option.getD_some,e]
theorem dO(l:List Pr): ∀u∈(l.map av).flatten,u.oneCell'=true:=by intro u hu;obtain⟨x,hx,hu⟩:=List.mem_flatten.1 hu;obtain⟨c,_,rfl⟩:=ew.1 hx;simp[av]at hu;rcases hu with rfl|rfl<;>rfl
theorem ct(l:List Nat): ∀u∈(l.map aP).flatten,u.oneCell'=true:=by intro u hu;obtain⟨x,hx,hu⟩:=List.mem_flatten.1 hu;obtain⟨c,_,rfl⟩:=ew.1 hx;simp[aP]at hu;rcases hu with rfl;rfl
theorem eO{α β:Type}(f:α->β)(l:List α)(i:Nat)(x:α):(l.map f).take i++f x::(l.map f).drop i=(l.take i++x::l.drop i).map f:=by simp
def qT(d a i o:Nat)(x:ND)(F:Nat->Nat->Prop)(w:World)(e:Ending)(w':World):Prop:=
 e=.returned (.tuple #[])/\ay w' (d+1) a (ny d x i o) (fun b q=>F b q\/w.heap.size<=b)/\OnlyC F w w'
theorem Gl(w:World)(d a i o m l n1 c1 b1 o1 np cp bk ok ck nk:Nat)(A:Option Addr)(x k:ND)(F:Nat->Nat->Prop)(TT Q4:Value)(aA jf:List Nat)(H H1:Nat->Nat->Nat->Prop)(Xw:Option Addr)(c2:Nat)
  (hO:bg w (ay w d) a x F (.slice A np cp) (.slice (some ⟨bk,ok,none⟩) nk ck) aA H) (hF: ∀b q,F b q->b<w.heap.size) (hk:x.ks[i]?=some k) (hl:aA[i]?=some l) (Jb:i<=x.ps.length)
  (hK:bg w (b7 w d) l k (H (i+3)) TT Q4 jf H1) (hT: ∀i b q,H1 i b q->i<k.ks.length+3) (hd0:d=0->k.ks=[])
  (hkn:k.ps.length=2*o) (ho:2<=o) (dY:o<=16) (hm:o=m+1) (nS:x.ps.length=np) (kJ:aA.length=nk) (D6:nk<=1000) (Vw:np<=1000)
  (hvp:TT=.slice (some ⟨b1,o1,none⟩) n1 c1) (sK:n1=2*o) (hc1:n1<=c1) (hcm:c1<=maxLen) (hvk:Q4=.slice Xw 0 c2)
  (r2:w.cell? ⟨bk,ok+i,none⟩=some (.pointer (some ⟨l,0,none⟩))) (p0:Pr) (hp0:k.ps[m]?=some p0) (r4:w.cell? ⟨b1,o1+m*2,none⟩=some (.string ⟨p0.1.toArray⟩)) (r5:w.cell? ⟨b1,o1+m*2+1,none⟩=some (.string ⟨p0.2.toArray⟩))
  (A1 B1 A2 B2:Nat->Nat->Prop) (p1:az 2 195 w (.slice (some ⟨b1,o1,none⟩) m m) ((k.ps.take (o-1)).map av) (fun b q=>H1 1 b q/\A1 b q)) (p2:az 2 195 w (.slice (some ⟨b1,o1+o*2,none⟩) (n1-o) (n1-o)) ((k.ps.drop o).map av) (fun b q=>H1 1 b q/\B1 b q))
  (q1:az 1 181 w (.slice Xw 0 c2) ((jf.take o).map aP) (fun b q=>H1 2 b q/\A2 b q)) (q2:az 1 181 w (.slice none 0 0) ((jf.drop o).map aP) (fun b q=>H1 2 b q/\B2 b q))
  (e1: ∀b q,A1 b q-> ¬B1 b q) (e2: ∀b q,A2 b q-> ¬B2 b q):
  Calls prog 80 #[.pointer (some ⟨a,0,none⟩),.int .i64 i,.int .i64 o] w (qT d a i o x F w):=by
 subst hvp hvk;have hal:a<w.heap.size:=hF a 0 (hO.own.1 0 a 0 (hO.2.1 0));have hll:l<w.heap.size:=hF l 0 (hO.own.1 _ l 0 (hK.own.1 0 l 0 (hK.2.1 0)));have MU: ¬l=a:=hO.own.2.2 (i+3) l 0 (by omega) (hK.own.1 0 l 0 (hK.2.1 0));have NP:i<nk:=by have:=(b8.1 hl).1;omega
 have dw:=al (ab hO (ab hF (ab hk (ab hl (ab hK (ab hT (ab hd0 (ab p1 (ab p2 (ab q1 (ab q2 (ab e1 e2))))))))))));have HN:=al (ab hkn (ab hm (ab hp0 (ab nS (ab kJ (ab Jb hal))))));have HL:=al (ab hO.1 (ab hK.1 hll));obtain⟨⟨-,r1⟩,-,-⟩:=af hO.1;obtain⟨⟨z0,z1⟩,-,-⟩:=af hK.1;have m1:(o:Int)-1=(m:Int):=by omega
 have i1:(0:Int)<=(i:Int):=by omega
 have i2:(i:Int)<(nk:Int):=by omega
 have i3:(0:Int)<=(m:Int):=by omega
 have i4:(m:Int)<(n1:Int):=by omega
 have i5:(o:Int)<=(n1:Int):=by omega
 have i6:(n1:Int)<=(c1:Int):=by omega
 have i7:(0:Int)<=(o:Int):=by omega
 have i8:(m:Int)<=(c1:Int):=by omega
 have j1:c1<=maxLen:=hcm;have sl1:=tH (P:=prog) 182 195 2 underlying182 (fun _=>by kernel_rfl) b1 o1 n1 c1 o n1 n1 (by omega) (aE _) hc1 (by omega);have sl0:=tI (P:=prog) 182 195 2 underlying182 (fun _=>by kernel_rfl) b1 o1 n1 c1 m (by omega);have HE:=al (ab sK (ab ho Vw));clear hO hF hk hl hK hT hd0 hkn hp0 p1 p2 q1 q2 e1 e2 Jb nS kJ hal hll sK hm ho;go_enter func80,ntmps80;go_upto_region 2 with fail;obtain⟨bT,kT⟩:=qn w (.cells #[.string ⟨p0.1.toArray⟩,.string ⟨p0.2.toArray⟩] 195);generalize w.alloc (.cells #[.string ⟨p0.1.toArray⟩,.string ⟨p0.2.toArray⟩] 195)=w1 at bT kT⊢;obtain⟨T,hTe⟩:=qt (w.heap.size);rw[hTe]at kT⊢;have l1:=pt bT HL.o.2.1;clear z0 z1 r1 r2 r4 r5;obtain⟨⟨z0,z1⟩,-,-⟩:=af l1;have H1:=al (ab bT (ab kT (ab hTe l1)));clear bT kT hTe l1;go_upto_region 4 with fail;obtain⟨bR,kR⟩:=qn w1 (.cells #[(.slice (some ⟨b1,o1+o*2,none⟩) (n1-o) (n1-o)),.slice none 0 0] 185);generalize w1.alloc (.cells #[(.slice (some ⟨b1,o1+o*2,none⟩) (n1-o) (n1-o)),.slice none 0 0] 185)=w2 at bR kR⊢;obtain⟨R,hR⟩:=qt (w1.heap.size);rw[hR]at kR⊢;have YS:w.heap.size<R/\T=w.heap.size/\T<R:=by have:=oE H1.o.2.1;have:=H1.o.d.1;omega
 have l2:=pt bR H1.o.t;have t2:=pt bR H1.o.2.1;have YT:=H1.o.1.x (bR.m H1.o.1.size);clear z0 z1;obtain⟨⟨z0,z1⟩,zf,-⟩:=af l2;have H2:=al (ab YT (ab kR (ab YS (ab l2 t2))));clear bR kR hR YS l2 t2 YT H1;go_upto_region 5 with fail;have YU: ¬T=l:=by have:=H2.o.d.1;have:=HL.o.d;omega
 have T8: ¬R=l:=by have:=H2.o.d.1;have:=HL.o.d;omega
 have l3:=jb H2.o.t.1 (.slice (some ⟨b1,o1,none⟩) m m);have o3:=OnlyC.aN w2 l 0 (.slice (some ⟨b1,o1,none⟩) m m);have k3:=o3.heap H2.o.2.1 (fun q e=>T8 e.1);have t3:=o3.heap H2.o.q (fun q e=>YU e.1);have c3:OnlyC (fun b _=>b=l) w (w2.setCell ⟨l,0,none⟩ (.slice (some ⟨b1,o1,none⟩) m m)):=(oy H2.o.1 (fun b _=>b=l)).x o3 (fun b q _ e=>e.1);generalize w2.setCell ⟨l,0,none⟩ (.slice (some ⟨b1,o1,none⟩) m m)=w3 at l3 k3 t3 c3⊢;clear z0 z1 zf o3;obtain⟨⟨z0,z1⟩,zf0,zf⟩:=af l3;clear zf0;have H3:=al (ab c3 (ab l3 (ab k3 (ab t3 H2.o.d.1))));clear l3 k3 t3 c3 H2 YU;have jy:=al (dZ w3 l c2 Xw z1);go_wp2_with fail;refine jy.o.m ?_;rintro e w4 ⟨rfl,rfl⟩;clear jy z0 z1 zf;go_upto_region 8 with fail;have hgt:=H3.o.q;have Mf: ∀j q b,H j b q->b<w.heap.size:=fun j q b hh=>dw.o.2.1 b q (dw.o.1.own.1 j b q hh);have D7: ∀j q,¬H j T q:=fun j q hh=>by have:=Mf j q T hh;omega
 have Vx: ∀j b q,j≠i+3->H j b q-> ¬b=l:=fun j b q hj hh e=>dw.o.1.own.2.1 j (i+3) b q hj hh (e▸dw.o.q.1.own.1 0 l q (dw.o.q.1.2.1 q));have ka:=H3.o.1.heap HL.o.1 (fun q e=>MU e.symm);have YV:=(dw.o.1.2.2.1).only H3.o.1 (fun b q hh=>Vx 1 b q (by omega) hh);have YW:=(dw.o.1.2.2.2.1).only H3.o.1 (fun b q hh=>Vx 2 b q (by omega) hh);have HA:=al (ab ka (ab YV YW));have HX:=al (ab D7 (ab Mf hgt));have tS:=ft H3.o.t.1;clear hgt Mf D7 Vx ka YV YW;refine o0 (S:=(fun W=>W.cell? ⟨T,0,none⟩=some (.string ⟨p0.1.toArray⟩)/\W.cell? ⟨T,1,none⟩=some (.string ⟨p0.2.toArray⟩))) (by kernel_rfl) tS (fun ph=>?_);generalize hW3:World.drew w3=W3 at ph⊢;have HB:=al (show Below w3.heap.size w3 W3 from hW3▸(aw _ _).drew);clear hW3 tS;refine aI [0,1,2,3,5,6] ?_
 iterate 6 (refine bO (v:=?_) (fun _ ⟨s0,s1⟩=>?_) ph ?_;rotate_left;(go_simp;try rfl);try simp only[ai,aj,ak,ar])
 refine aJ ?_;refine pf (rs:=[4,7]) (by kernel_rfl) (by simp) (bE (i:=4) rfl (fun K hK=>?_) (bE (i:=7) rfl (fun K hK=>?_) oT))
 focus
  obtain⟨⟨r6,-⟩,-,-⟩:=af (pt HB.o HA.o.1);go_simp;refine hK.o _ _ (ph) ?_;clear hK K ph r6;intro ph
  try simp only[ai,aj,ak,ar]
  refine aW 7 (fun K hK=>?_);go_simp;refine hK.o _ _ (lU ph (ae _ _)) ?_;clear hK K ph;intro ph
  try simp only[ai,aj,ak,ar]
  obtain⟨bV,kV⟩:=qn W3 (.cells #[.string ⟨p0.1.toArray⟩,.string ⟨p0.2.toArray⟩] 195);generalize W3.alloc (.cells #[.string ⟨p0.1.toArray⟩,.string ⟨p0.2.toArray⟩] 195)=W5 at kV bV ph⊢;obtain⟨VB,ib⟩:=qt (W3.heap.size);rw[ib]at kV⊢;have HV:=al (ab kV (show w.heap.size<VB by have h1:=HB.o.size;have h2:=oE H3.o.d.1;have h3:=H3.o.q;omega));have HB:=al (HB.o.x (bV.m HB.o.size));clear kV bV ib
 rotate_left
 focus
  go_simp;refine hK.o _ _ (lU ph (ae _ _)) ?_;clear hK K ph;intro ph
  try simp only[ai,aj,ak,ar]
  obtain⟨bV,kV⟩:=qn W3 (.cells #[.string ⟨p0.1.toArray⟩,.string ⟨p0.2.toArray⟩] 195);generalize W3.alloc (.cells #[.string ⟨p0.1.toArray⟩,.string ⟨p0.2.toArray⟩] 195)=W5 at kV bV ph⊢;obtain⟨VB,ib⟩:=qt (W3.heap.size);rw[ib]at kV⊢;have HV:=al (ab kV (show w.heap.size<VB by have h1:=HB.o.size;have h2:=oE H3.o.d.1;have h3:=H3.o.q;omega));have HB:=al (HB.o.x (bV.m HB.o.size));clear kV bV ib;refine aW 4 (fun K hK=>?_);obtain⟨⟨r6,-⟩,-,-⟩:=af (pt HB.o HA.o.1);go_simp;refine hK.o _ _ (ph) ?_;clear hK K ph r6;intro ph
  try simp only[ai,aj,ak,ar]
 all_goals
  refine aW 8 (fun K hK=>?_);go_simp;refine(jd W5 (H 1) _ (x.ps.map av) i _ rfl (av p0) VB (HA.o.2.1.only (qe HB.o) (fun _ _ _ h=>h)) (by rw[fa];exact HN.o.q.2.1) (by rw[fa,HN.o.t.1];exact HE.o.d) (by rfl) (by simp[av,Value.oneCell']) (dO _) HV.o.1 (fun q hh=>by have:=HX.o.2.1 1 q VB hh;have:=HV.o.2;omega)).m ?_;rintro e wn ⟨v6,rfl,cj,fe⟩;rw[eO]at cj;obtain⟨A6,c6,fL,-⟩:=cj.slice;obtain⟨n6,fB⟩:=qt (((x.ps.take i++p0::x.ps.drop i).map av).length);rw[fB]at fL;subst fL;clear fB;have H6:=al (ab cj fe);clear cj fe
  try go_simp
  refine hK.o _ _ (dK ph H6.o.2 (HX.o.1 1 0) (HX.o.1 1 1)) ?_;clear hK K ph;intro ph
  try simp only[ai,aj,ak,ar]
  refine aI [9,10] ?_
  iterate 2 (refine bO (v:=?_) (fun _ ⟨s0,s1⟩=>?_) ph ?_;rotate_left;(go_simp;try rfl);try simp only[ai,aj,ak,ar])
  refine aJ ?_;refine aW 11 (fun K hK=>?_);obtain⟨⟨r6,-⟩,rf,-⟩:=af (H6.o.2.heap (pt HB.o HA.o.1) (fun q hh=>dw.o.1.own.2.1 1 0 a q (by decide) hh (dw.o.1.2.1 q)));go_simp;refine hK.o _ _ (dK ph (OnlyC.aN _ a 0 _) (fun e=>by have:=e.1;have:=HX.o.d;have:=HN.o.q.d;omega) (fun e=>by have:=e.1;have:=HX.o.d;have:=HN.o.q.d;omega)) ?_;clear hK K ph r6 rf;intro ph
  try simp only[ai,aj,ak,ar]
  refine pb (by kernel_rfl) ?_ _;have k7:=jb (H6.o.2.heap (pt HB.o HA.o.1) (fun q hh=>dw.o.1.own.2.1 1 0 a q (by decide) hh (dw.o.1.2.1 q))) (.slice A6 n6 c6);have s7:=((HA.o.d.only (qe HB.o) (fun _ _ _ h=>h)).only H6.o.2 (fun b q hh Jc=>dw.o.1.own.2.1 2 1 b q (by decide) hh Jc)).only (OnlyC.aN wn a 0 (.slice A6 n6 c6)) (fun b q hh e=>dw.o.1.own.2.2 2 b q (by decide) hh e.1);have z7:(wn.setCell ⟨a,0,none⟩ (.slice A6 n6 c6)).heap.size=wn.heap.size:=by simp[World.setCell]
  have W7:=al (show ∃u,u=wn.setCell ⟨a,0,none⟩ (.slice A6 n6 c6)from⟨_,rfl⟩);generalize h7:wn.setCell ⟨a,0,none⟩ (.slice A6 n6 c6)=w7 at k7 s7 z7 ph⊢;clear W7 ph;obtain⟨⟨-,y7⟩,-,-⟩:=af k7;have H7:=al (ab k7 (ab s7 (ab z7 h7)));clear k7 s7 z7 h7;go_wp2_with fail;obtain⟨bN,kN⟩:=qn w7 (.cells #[.pointer (some ⟨R,0,none⟩)] 181);generalize w7.alloc (.cells #[.pointer (some ⟨R,0,none⟩)] 181)=w8 at kN bN⊢;obtain⟨VN,Gm⟩:=qt (w7.heap.size);rw[Gm]at kN⊢;have xK:=al (ab kN (ab Gm bN));clear kN Gm bN y7;refine(je w8 (H 2) _ (aA.map aP) (i+1) _ (by simp) (aP R) VN (H7.o.2.1.only (qe xK.o.d) (fun _ _ _ h=>h)) (by rw[fa,HN.o.q.1];exact NP) (by rw[fa,HN.o.q.1];exact D6) (by rfl) (by simp[aP,Value.oneCell']) (ct _) xK.o.1 (fun q hh=>by have:=HX.o.2.1 2 q VN hh;have h1:=xK.o.2.1;have h2:=H7.o.d.1;have h3:=H6.o.2.size;have h4:=HB.o.size;have h5:=oE H3.o.d.1;have h6:=H3.o.q;omega)).m ?_;rintro e w9 ⟨v9,rfl,cK,eB⟩;rw[eO]at cK;obtain⟨A9,c9,gw,-⟩:=cK.slice;obtain⟨n9,fU⟩:=qt (((aA.take (i+1)++R::aA.drop (i+1)).map aP).length);rw[fU]at gw;subst gw;clear fU;obtain⟨⟨-,y9⟩,-,f9⟩:=af (eB.heap (pt xK.o.d H7.o.1) (fun q hh=>dw.o.1.own.2.1 2 0 a q (by decide) hh (dw.o.1.2.1 q)));have H9:=al (ab cK eB);clear cK eB;go_wp2_with fail
  first|refine eC (du rfl _ _ _) rfl ?_|refine dr (du rfl _ _ _) rfl ?_
  obtain⟨a1,a2,a3,a4,a5,a6,a7,a8,a9,Q6,Vy,a12,Vz⟩:=dw.o;unfold qT;rw[rU a3 a7 HN.o.d.1 HN.o.2.1];have hend:=pO (r:=R) a1 a2 a3 a4 a5 a6 a7 H3.o.1 (Nat.le_of_lt H3.o.q.1) (oE H3.o.d.1) H3.o.2.1 H3.o.d.1 a8 a9 Q6 Vy a12 Vz HB.o H6.o.2 H6.o.1 (by rw[H7.o.t];exact xK.o.d.m (Nat.le_of_eq H7.o.d.1.symm)) H9.o.2 H9.o.1;exact⟨rfl,hend⟩
theorem NQ(w:World)(d a i o m l n1 c1 b1 o1 np cp bk ok ck nk:Nat)(A:Option Addr)(x k:ND)(F:Nat->Nat->Prop)(TT Q4:Value)(aA jf:List Nat)(H H1:Nat->Nat->Nat->Prop)(b2 o2 n2 c2:Nat)(oC:n2=2*o+1)(hc2:n2<=c2)(_hcm2:c2<=maxLen)
  (hO:bg w (ay w d) a x F (.slice A np cp) (.slice (some ⟨bk,ok,none⟩) nk ck) aA H) (hF: ∀b q,F b q->b<w.heap.size) (hk:x.ks[i]?=some k) (hl:aA[i]?=some l) (Jb:i<=x.ps.length)
  (hK:bg w (b7 w d) l k (H (i+3)) TT Q4 jf H1) (hT: ∀i b q,H1 i b q->i<k.ks.length+3) (hd0:d=0->k.ks=[])
  (hkn:k.ps.length=2*o) (ho:2<=o) (dY:o<=16) (hm:o=m+1) (nS:x.ps.length=np) (kJ:aA.length=nk) (D6:nk<=1000) (Vw:np<=1000)
  (hvp:TT=.slice (some ⟨b1,o1,none⟩) n1 c1) (sK:n1=2*o) (hc1:n1<=c1) (hcm:c1<=maxLen) (hvk:Q4=.slice (some ⟨b2,o2,none⟩) n2 c2)
  (r2:w.cell? ⟨bk,ok+i,none⟩=some (.pointer (some ⟨l,0,none⟩))) (p0:Pr) (hp0:k.ps[m]?=some p0) (r4:w.cell? ⟨b1,o1+m*2,none⟩=some (.string ⟨p0.1.toArray⟩)) (r5:w.cell? ⟨b1,o1+m*2+1,none⟩=some (.string ⟨p0.2.toArray⟩))
  (A1 B1 A2 B2:Nat->Nat->Prop) (p1:az 2 195 w (.slice (some ⟨b1,o1,none⟩) m m) ((k.ps.take (o-1)).map av) (fun b q=>H1 1 b q/\A1 b q)) (p2:az 2 195 w (.slice (some ⟨b1,o1+o*2,none⟩) (n1-o) (n1-o)) ((k.ps.drop o).map av) (fun b q=>H1 1 b q/\B1 b q))
  (q1:az 1 181 w (.slice (some ⟨b2,o2,none⟩) o o) ((jf.take o).map aP) (fun b q=>H1 2 b q/\A2 b q)) (q2:az 1 181 w (.slice (some ⟨b2,o2+o,none⟩) (n2-o) (n2-o)) ((jf.drop o).map aP) (fun b q=>H1 2 b q/\B2 b q))
  (e1: ∀b q,A1 b q-> ¬B1 b q) (e2: ∀b q,A2 b q-> ¬B2 b q):
  Calls prog 80 #[.pointer (some ⟨a,0,none⟩),.int .i64 i,.int .i64 o] w (qT d a i o x F w):=by
 subst hvp hvk;have hal:a<w.heap.size:=hF a 0 (hO.own.1 0 a 0 (hO.2.1 0));have hll:l<w.heap.size:=hF l 0 (hO.own.1 _ l 0 (hK.own.1 0 l 0 (hK.2.1 0)));have MU: ¬l=a:=hO.own.2.2 (i+3) l 0 (by omega) (hK.own.1 0 l 0 (hK.2.1 0));have NP:i<nk:=by have:=(b8.1 hl).1;omega
 have dw:=al (ab hO (ab hF (ab hk (ab hl (ab hK (ab hT (ab hd0 (ab p1 (ab p2 (ab q1 (ab q2 (ab e1 e2))))))))))));have HN:=al (ab hkn (ab hm (ab hp0 (ab nS (ab kJ (ab Jb hal))))));have HL:=al (ab hO.1 (ab hK.1 hll));obtain⟨⟨-,r1⟩,-,-⟩:=af hO.1;obtain⟨⟨z0,z1⟩,-,-⟩:=af hK.1;have m1:(o:Int)-1=(m:Int):=by omega
 have i1:(0:Int)<=(i:Int):=by omega
 have i2:(i:Int)<(nk:Int):=by omega
 have i3:(0:Int)<=(m:Int):=by omega
 have i4:(m:Int)<(n1:Int):=by omega
 have i5:(o:Int)<=(n1:Int):=by omega
 have i6:(n1:Int)<=(c1:Int):=by omega
 have i7:(0:Int)<=(o:Int):=by omega
 have i8:(m:Int)<=(c1:Int):=by omega
 have j1:c1<=maxLen:=hcm;have sl1:=tH (P:=prog) 182 195 2 underlying182 (fun _=>by kernel_rfl) b1 o1 n1 c1 o n1 n1 (by omega) (aE _) hc1 (by omega);have sl0:=tI (P:=prog) 182 195 2 underlying182 (fun _=>by kernel_rfl) b1 o1 n1 c1 m (by omega)
 have sl3: ∀w,(Instr.slice 183 (.slice (some ⟨b2,o2,none⟩) n2 c2) (some (.int .i64 (o:Int))) (some (.int .i64 (n2:Int))) (some (.int .i64 (n2:Int)))).run prog w=.ok (.slice (some ⟨b2,o2+o,none⟩) (n2-o) (n2-o)) w:=fun w=>by have:=tH (P:=prog) 183 181 1 underlying183 (fun _=>by kernel_rfl) b2 o2 n2 c2 o n2 n2 (by omega) (aE _) hc2 (by omega) w;simpa using this
 have sl4:=tI (P:=prog) 183 181 1 underlying183 (fun _=>by kernel_rfl) b2 o2 n2 c2 o (by omega);have m2:(n1:Int)+1=(n2:Int):=by omega
 have m3:wrap64 (n2:Int)=(n2:Int):=by first|go_num|(unfold wrap64;omega)
 have NR:0<n2:=by omega
 have HE:=al (ab sK (ab ho Vw));clear hO hF hk hl hK hT hd0 hkn hp0 p1 p2 q1 q2 e1 e2 Jb nS kJ hal hll sK hm ho oC;go_enter func80,ntmps80;go_upto_region 2 with fail;obtain⟨bT,kT⟩:=qn w (.cells #[.string ⟨p0.1.toArray⟩,.string ⟨p0.2.toArray⟩] 195);generalize w.alloc (.cells #[.string ⟨p0.1.toArray⟩,.string ⟨p0.2.toArray⟩] 195)=w1 at bT kT⊢;obtain⟨T,hTe⟩:=qt (w.heap.size);rw[hTe]at kT⊢;have l1:=pt bT HL.o.2.1;clear z0 z1 r1 r2 r4 r5;obtain⟨⟨z0,z1⟩,-,-⟩:=af l1;have H1:=al (ab bT (ab kT (ab hTe l1)));clear bT kT hTe l1;go_upto_region 4 with fail;obtain⟨bR,kR⟩:=qn w1 (.cells #[(.slice (some ⟨b1,o1+o*2,none⟩) (n1-o) (n1-o)),.slice none 0 0] 185);generalize w1.alloc (.cells #[(.slice (some ⟨b1,o1+o*2,none⟩) (n1-o) (n1-o)),.slice none 0 0] 185)=w2 at bR kR⊢;obtain⟨R,hR⟩:=qt (w1.heap.size);rw[hR]at kR⊢;have YS:w.heap.size<R/\T=w.heap.size/\T<R:=by have:=oE H1.o.2.1;have:=H1.o.d.1;omega
 have l2:=pt bR H1.o.t;have t2:=pt bR H1.o.2.1;have YT:=H1.o.1.x (bR.m H1.o.1.size);clear z0 z1;obtain⟨⟨z0,z1⟩,zf,-⟩:=af l2;have H2:=al (ab YT (ab kR (ab YS (ab l2 t2))));clear bR kR hR YS l2 t2 YT H1;go_upto_region 5 with fail;have YU: ¬T=l:=by have:=H2.o.d.1;have:=HL.o.d;omega
 have T8: ¬R=l:=by have:=H2.o.d.1;have:=HL.o.d;omega
 have l3:=jb H2.o.t.1 (.slice (some ⟨b1,o1,none⟩) m m);have o3:=OnlyC.aN w2 l 0 (.slice (some ⟨b1,o1,none⟩) m m);have k3:=o3.heap H2.o.2.1 (fun q e=>T8 e.1);have t3:=o3.heap H2.o.q (fun q e=>YU e.1);have c3:OnlyC (fun b _=>b=l) w (w2.setCell ⟨l,0,none⟩ (.slice (some ⟨b1,o1,none⟩) m m)):=(oy H2.o.1 (fun b _=>b=l)).x o3 (fun b q _ e=>e.1);generalize w2.setCell ⟨l,0,none⟩ (.slice (some ⟨b1,o1,none⟩) m m)=w3 at l3 k3 t3 c3⊢;clear z0 z1 zf o3;obtain⟨⟨z0,z1⟩,zf0,zf⟩:=af l3;clear zf0;have H3:=al (ab c3 (ab l3 (ab k3 (ab t3 H2.o.d.1))));clear l3 k3 t3 c3 H2 YU;have jy:=al (fq w3 l n2 c2 _ (by omega) z1);obtain⟨⟨-,y1⟩,-,yf⟩:=af H3.o.d.1;go_wp2_with fail;refine jy.o.m ?_;rintro e w4 ⟨rfl,rfl⟩;clear jy;go_upto_region 7 with fail;have l4:=(OnlyC.aN w3 R 1 (.slice (some ⟨b2,o2+o,none⟩) (n2-o) (n2-o))).heap H3.o.2.1 (fun q e=>T8 e.1.symm);have k4:=Jj H3.o.d.1 (.slice (some ⟨b2,o2+o,none⟩) (n2-o) (n2-o));have t4:=(OnlyC.aN w3 R 1 (.slice (some ⟨b2,o2+o,none⟩) (n2-o) (n2-o))).heap H3.o.t.1 (fun q e=>by have:=e.1;have:=H3.o.q;omega);have c4:=H3.o.1.setCell (b:=R) (o:=1) (fun hb=>by have:=H3.o.q;omega) (.slice (some ⟨b2,o2+o,none⟩) (n2-o) (n2-o));generalize w3.setCell ⟨R,1,none⟩ (.slice (some ⟨b2,o2+o,none⟩) (n2-o) (n2-o))=w4 at l4 k4 t4 c4⊢;clear z0 z1 zf y1 yf;obtain⟨⟨z0,z1⟩,-,zf⟩:=af l4;have H4:=al (ab c4 (ab l4 (ab k4 (ab t4 H3.o.q))));clear l4 k4 t4 c4 H3;go_upto_region 8 with fail;have l5:=Jj H4.o.2.1 (.slice (some ⟨b2,o2,none⟩) o o);have k5:=(OnlyC.aN w4 l 1 (.slice (some ⟨b2,o2,none⟩) o o)).heap H4.o.d.1 (fun q e=>T8 e.1);have t5:=(OnlyC.aN w4 l 1 (.slice (some ⟨b2,o2,none⟩) o o)).heap H4.o.t.1 (fun q e=>by have:=e.1;have:=H4.o.q;have:=HL.o.d;omega);have c5:OnlyC (fun b _=>b=l) w (w4.setCell ⟨l,1,none⟩ (.slice (some ⟨b2,o2,none⟩) o o)):=H4.o.1.setCell (b:=l) (o:=1) (fun _=>rfl) (.slice (some ⟨b2,o2,none⟩) o o);generalize w4.setCell ⟨l,1,none⟩ (.slice (some ⟨b2,o2,none⟩) o o)=w5c at l5 k5 t5 c5⊢;have H5:=al (ab c5 (ab l5 (ab k5 (ab t5 H4.o.q))));clear l5 k5 t5 c5 H4 z0 z1 zf;have hgt:=H5.o.q;have Mf: ∀j q b,H j b q->b<w.heap.size:=fun j q b hh=>dw.o.2.1 b q (dw.o.1.own.1 j b q hh);have D7: ∀j q,¬H j T q:=fun j q hh=>by have:=Mf j q T hh;omega
 have Vx: ∀j b q,j≠i+3->H j b q-> ¬b=l:=fun j b q hj hh e=>dw.o.1.own.2.1 j (i+3) b q hj hh (e▸dw.o.q.1.own.1 0 l q (dw.o.q.1.2.1 q));have ka:=H5.o.1.heap HL.o.1 (fun q e=>MU e.symm);have YV:=(dw.o.1.2.2.1).only H5.o.1 (fun b q hh=>Vx 1 b q (by omega) hh);have YW:=(dw.o.1.2.2.2.1).only H5.o.1 (fun b q hh=>Vx 2 b q (by omega) hh);have HA:=al (ab ka (ab YV YW));have HX:=al (ab D7 (ab Mf hgt));have tS:=ft H5.o.t.1;clear hgt Mf D7 Vx ka YV YW;refine o0 (S:=(fun W=>W.cell? ⟨T,0,none⟩=some (.string ⟨p0.1.toArray⟩)/\W.cell? ⟨T,1,none⟩=some (.string ⟨p0.2.toArray⟩))) (by kernel_rfl) tS (fun ph=>?_);generalize hW3:World.drew w5c=W3 at ph⊢;have HB:=al (show Below w5c.heap.size w5c W3 from hW3▸(aw _ _).drew);clear hW3 tS;refine aI [0,1,2,3,5,6] ?_
 iterate 6 (refine bO (v:=?_) (fun _ ⟨s0,s1⟩=>?_) ph ?_;rotate_left;(go_simp;try rfl);try simp only[ai,aj,ak,ar])
 refine aJ ?_;refine pf (rs:=[4,7]) (by kernel_rfl) (by simp) (bE (i:=4) rfl (fun K hK=>?_) (bE (i:=7) rfl (fun K hK=>?_) oT))
 focus
  obtain⟨⟨r6,-⟩,-,-⟩:=af (pt HB.o HA.o.1);go_simp;refine hK.o _ _ (ph) ?_;clear hK K ph r6;intro ph
  try simp only[ai,aj,ak,ar]
  refine aW 7 (fun K hK=>?_);go_simp;refine hK.o _ _ (lU ph (ae _ _)) ?_;clear hK K ph;intro ph
  try simp only[ai,aj,ak,ar]
  obtain⟨bV,kV⟩:=qn W3 (.cells #[.string ⟨p0.1.toArray⟩,.string ⟨p0.2.toArray⟩] 195);generalize W3.alloc (.cells #[.string ⟨p0.1.toArray⟩,.string ⟨p0.2.toArray⟩] 195)=W5 at kV bV ph⊢;obtain⟨VB,ib⟩:=qt (W3.heap.size);rw[ib]at kV⊢;have HV:=al (ab kV (show w.heap.size<VB by have h1:=HB.o.size;have h2:=oE H5.o.d.1;have h3:=H5.o.q;omega));have HB:=al (HB.o.x (bV.m HB.o.size));clear kV bV ib
 rotate_left
 focus
  go_simp;refine hK.o _ _ (lU ph (ae _ _)) ?_;clear hK K ph;intro ph
  try simp only[ai,aj,ak,ar]
  obtain⟨bV,kV⟩:=qn W3 (.cells #[.string ⟨p0.1.toArray⟩,.string ⟨p0.2.toArray⟩] 195);generalize W3.alloc (.cells #[.string ⟨p0.1.toArray⟩,.string ⟨p0.2.toArray⟩] 195)=W5 at kV bV ph⊢;obtain⟨VB,ib⟩:=qt (W3.heap.size);rw[ib]at kV⊢;have HV:=al (ab kV (show w.heap.size<VB by have h1:=HB.o.size;have h2:=oE H5.o.d.1;have h3:=H5.o.q;omega));have HB:=al (HB.o.x (bV.m HB.o.size));clear kV bV ib;refine aW 4 (fun K hK=>?_);obtain⟨⟨r6,-⟩,-,-⟩:=af (pt HB.o HA.o.1);go_simp;refine hK.o _ _ (ph) ?_;clear hK K ph r6;intro ph
  try simp only[ai,aj,ak,ar]
 all_goals
  refine aW 8 (fun K hK=>?_);go_simp;refine(jd W5 (H 1) _ (x.ps.map av) i _ rfl (av p0) VB (HA.o.2.1.only (qe HB.o) (fun _ _ _ h=>h)) (by rw[fa];exact HN.o.q.2.1) (by rw[fa,HN.o.t.1];exact HE.o.d) (by rfl) (by simp[av,Value.oneCell']) (dO _) HV.o.1 (fun q hh=>by have:=HX.o.2.1 1 q VB hh;have:=HV.o.2;omega)).m ?_;rintro e wn ⟨v6,rfl,cj,fe⟩;rw[eO]at cj;obtain⟨A6,c6,fL,-⟩:=cj.slice;obtain⟨n6,fB⟩:=qt (((x.ps.take i++p0::x.ps.drop i).map av).length);rw[fB]at fL;subst fL;clear fB;have H6:=al (ab cj fe);clear cj fe
  try go_simp
  refine hK.o _ _ (dK ph H6.o.2 (HX.o.1 1 0) (HX.o.1 1 1)) ?_;clear hK K ph;intro ph
  try simp only[ai,aj,ak,ar]
  refine aI [9,10] ?_
  iterate 2 (refine bO (v:=?_) (fun _ ⟨s0,s1⟩=>?_) ph ?_;rotate_left;(go_simp;try rfl);try simp only[ai,aj,ak,ar])
  refine aJ ?_;refine aW 11 (fun K hK=>?_);obtain⟨⟨r6,-⟩,rf,-⟩:=af (H6.o.2.heap (pt HB.o HA.o.1) (fun q hh=>dw.o.1.own.2.1 1 0 a q (by decide) hh (dw.o.1.2.1 q)));go_simp;refine hK.o _ _ (dK ph (OnlyC.aN _ a 0 _) (fun e=>by have:=e.1;have:=HX.o.d;have:=HN.o.q.d;omega) (fun e=>by have:=e.1;have:=HX.o.d;have:=HN.o.q.d;omega)) ?_;clear hK K ph r6 rf;intro ph
  try simp only[ai,aj,ak,ar]
  refine pb (by kernel_rfl) ?_ _;have k7:=jb (H6.o.2.heap (pt HB.o HA.o.1) (fun q hh=>dw.o.1.own.2.1 1 0 a q (by decide) hh (dw.o.1.2.1 q))) (.slice A6 n6 c6);have s7:=((HA.o.d.only (qe HB.o) (fun _ _ _ h=>h)).only H6.o.2 (fun b q hh Jc=>dw.o.1.own.2.1 2 1 b q (by decide) hh Jc)).only (OnlyC.aN wn a 0 (.slice A6 n6 c6)) (fun b q hh e=>dw.o.1.own.2.2 2 b q (by decide) hh e.1);have z7:(wn.setCell ⟨a,0,none⟩ (.slice A6 n6 c6)).heap.size=wn.heap.size:=by simp[World.setCell]
  have W7:=al (show ∃u,u=wn.setCell ⟨a,0,none⟩ (.slice A6 n6 c6)from⟨_,rfl⟩);generalize h7:wn.setCell ⟨a,0,none⟩ (.slice A6 n6 c6)=w7 at k7 s7 z7 ph⊢;clear W7 ph;obtain⟨⟨-,y7⟩,-,-⟩:=af k7;have H7:=al (ab k7 (ab s7 (ab z7 h7)));clear k7 s7 z7 h7;go_wp2_with fail;obtain⟨bN,kN⟩:=qn w7 (.cells #[.pointer (some ⟨R,0,none⟩)] 181);generalize w7.alloc (.cells #[.pointer (some ⟨R,0,none⟩)] 181)=w8 at kN bN⊢;obtain⟨VN,Gm⟩:=qt (w7.heap.size);rw[Gm]at kN⊢;have xK:=al (ab kN (ab Gm bN));clear kN Gm bN y7;refine(je w8 (H 2) _ (aA.map aP) (i+1) _ (by simp) (aP R) VN (H7.o.2.1.only (qe xK.o.d) (fun _ _ _ h=>h)) (by rw[fa,HN.o.q.1];exact NP) (by rw[fa,HN.o.q.1];exact D6) (by rfl) (by simp[aP,Value.oneCell']) (ct _) xK.o.1 (fun q hh=>by have:=HX.o.2.1 2 q VN hh;have h1:=xK.o.2.1;have h2:=H7.o.d.1;have h3:=H6.o.2.size;have h4:=HB.o.size;have h5:=oE H5.o.d.1;have h6:=H5.o.q;omega)).m ?_;rintro e w9 ⟨v9,rfl,cK,eB⟩;rw[eO]at cK;obtain⟨A9,c9,gw,-⟩:=cK.slice;obtain⟨n9,fU⟩:=qt (((aA.take (i+1)++R::aA.drop (i+1)).map aP).length);rw[fU]at gw;subst gw;clear fU;obtain⟨⟨-,y9⟩,-,f9⟩:=af (eB.heap (pt xK.o.d H7.o.1) (fun q hh=>dw.o.1.own.2.1 2 0 a q (by decide) hh (dw.o.1.2.1 q)));have H9:=al (ab cK eB);clear cK eB;go_wp2_with fail
  first|refine eC (du rfl _ _ _) rfl ?_|refine dr (du rfl _ _ _) rfl ?_
  obtain⟨a1,a2,a3,a4,a5,a6,a7,a8,a9,Q6,Vy,a12,Vz⟩:=dw.o;unfold qT;rw[rU a3 a7 HN.o.d.1 HN.o.2.1];have hend:=pO (r:=R) a1 a2 a3 a4 a5 a6 a7 H5.o.1 (Nat.le_of_lt H5.o.q.1) (oE H5.o.d.1) H5.o.2.1 H5.o.d.1 a8 a9 Q6 Vy a12 Vz HB.o H6.o.2 H6.o.1 (by rw[H7.o.t];exact xK.o.d.m (Nat.le_of_eq H7.o.d.1.symm)) H9.o.2 H9.o.1;exact⟨rfl,hend⟩
theorem xL(w:World)(d a i o:Nat)(x k:ND)(F:Nat->Nat->Prop)(h:ay w (d+1) a x F)(hF: ∀b q,F b q->b<w.heap.size)(hk:x.ks[i]?=some k)(Jb:i<=x.ps.length)(hpl:x.ps.length<=1000)(hkl:x.ks.length<=1000)
  (hkn:k.ps.length=2*o) (hkk:d≠0->k.ks.length=2*o+1) (ho:2<=o) (dY:o<=16):
  Calls prog 80 #[.pointer (some ⟨a,0,none⟩),.int .i64 i,.int .i64 o] w (qT d a i o x F w):=by
 obtain⟨_,vp,vk,aA,H,hO,_⟩:=h.open_;have hO':=hO;obtain⟨_,_,g3,g4,g5,g6,_⟩:=hO';have hil:=(b8.1 hk).1;obtain⟨l,hl⟩: ∃l,aA[i]?=some l:=⟨_,ao (by omega)⟩;obtain⟨hd0,TT,Q4,jf,H1,hK,hT⟩:=(show ay w d l k (H (i+3))from g6 i l k hl hk).open_;have hK':=hK;obtain⟨_,_,k3,k4,k5,_,_⟩:=hK';obtain⟨A,cp,rfl,_⟩:=g3.slice;obtain⟨bk,ok,ck,rfl,_,_,r2⟩:=g4.ptr hl;obtain⟨m,rfl⟩: ∃m,o=m+1:=⟨o-1,by omega⟩;obtain⟨p0,hp0⟩: ∃p,k.ps[m]?=some p:=⟨_,ao (by omega)⟩;obtain⟨b1,o1,c1,e1,hc1,hcm,p1,p2⟩:=k3.parts (by simp;omega);obtain⟨b1',o1',c1',e1',_,_,r4,r5,_⟩:=k3.pair hp0;have e2:=e1.symm.x e1';simp only[fa,ie,fl,nf,true_and,and_true]at e2;obtain⟨⟨rfl,rfl⟩,rfl⟩:=e2;have hlen:(k.ps.map av).length=k.ps.length:=fa _;rw[hlen]at e1 hc1 p1 p2;have pp1:=p1 m (by omega);have pp2:=p2 (m+1) (by omega);rw[<-me]at pp1;rw[<-lk]at pp2;have nS:(x.ps.map av).length=x.ps.length:=fa _;rw[nS]at hO
 cases d with
 |zero=>
  have eQ:=hd0 rfl;have abf:jf=[]:=dj (by rw[k5,eQ];rfl);subst abf;obtain⟨Xw,c2,e3,_⟩:=k4.slice;have e4:Q4=.slice Xw 0 c2:=by simpa using e3
  subst e4
  exact Gl w 0 a i (m+1) m l k.ps.length c1 b1 o1 x.ps.length cp bk ok ck aA.length A x k F _ _ aA [] H H1 Xw c2 hO hF hk hl Jb hK hT hd0 hkn ho dY rfl rfl rfl (by omega) hpl e1 hkn hc1 hcm rfl r2 p0 hp0 r4 r5
   _ _ (fun _ _=>True) (fun _ _=>False) (pp1.m fun b q hh=>hh) (pp2.m fun b q hh=>hh) (by rw[List.take_nil,kc];exact az.mono (F:=H1 2) (by simpa using k4) (fun b q hh=>⟨hh,trivial⟩)) (by rw[List.drop_nil,kc];exact az.nil 1 181 w _) (fun b q h1 h2=>by have:=h1.2;have:=h2.2;omega) (fun _ _ _ h=>h)
 |succ d=>
  have VA:=hkk (by omega);obtain⟨b2,o2,c2,e3,hc2,hcm2,q1,q2⟩:=k4.parts (by simp;omega);have T9:(jf.map aP).length=jf.length:=fa _;rw[T9]at e3 hc2 q1 q2;have qq1:=q1 (m+1) (by omega);have qq2:=q2 (m+1) (by omega);rw[<-me]at qq1;rw[<-lk]at qq2;rw[Nat.mul_one]at qq2
  exact NQ w (d+1) a i (m+1) m l k.ps.length c1 b1 o1 x.ps.length cp bk ok ck aA.length A x k F _ _ aA jf H H1 b2 o2 jf.length c2 (by omega) hc2 hcm2 hO hF hk hl Jb hK hT hd0 hkn ho dY rfl rfl rfl (by omega) hpl e1 hkn hc1 hcm e3 r2 p0 hp0 r4 r5
   _ _ _ _ (pp1.m fun b q hh=>hh) (pp2.m fun b q hh=>hh) (qq1.m fun b q hh=>hh) (qq2.m fun b q hh=>hh) (fun b q h1 h2=>by have:=h1.2;have:=h2.2;omega) (fun b q h1 h2=>by have:=h1.2;have:=h2.2;omega)
def Qu(p:Pr):Value:=.agg #[.string ⟨p.1.toArray⟩,.string ⟨p.2.toArray⟩]
def Gn(d a:Nat)(y:ND)(F:Nat->Nat->Prop)(r:Option (List UInt8))(w:World)(e:Ending)(w':World):Prop:=
 e=.returned (.tuple #[.string ⟨(r.getD []).toArray⟩,.bool r.isSome])/\ay w' d a y (fun b q=>F b q\/w.heap.size<=b)/\OnlyC F w w'
theorem Jk(w:World)(d a o:Nat)(x:ND)(F:Nat->Nat->Prop)(p:Pr)(old:List UInt8)(h:ay w d a x F)(hF: ∀b q,F b q->b<w.heap.size)(hu:Up x.ps)(hlen:x.ps.length<=1000)(hh:hit p.1 x.ps=true)(hv:x.ps[posOf p.1 x.ps]?=some (p.1,old)):
  Calls prog 79 #[.pointer (some ⟨a,0,none⟩),Qu p,.int .i64 o] w (Gn d a (.mk (x.ps.take (posOf p.1 x.ps)++p::x.ps.drop (posOf p.1 x.ps+1)) x.ks) F (some old) w):=by
 unfold Qu;obtain⟨hb1,k1⟩:=qn w (.cells #[.string ⟨p.1.toArray⟩,.string ⟨p.2.toArray⟩] 195);have h1:=h.below hb1;go_enter func79,ntmps79;go_upto_region 1 with fail;generalize w.alloc (.cells #[.string ⟨p.1.toArray⟩,.string ⟨p.2.toArray⟩] 195)=w1 at hb1 k1 h1⊢;obtain⟨P,hP⟩:=qt (w.heap.size);rw[hP]at k1⊢;have qA:=al (find_ok w1 F a x p.1 h1.base hu hlen);rw[hh]at qA;obtain⟨i,hi⟩:=qt (posOf p.1 x.ps);rw[hi]at qA hv⊢;have HI:=al hi;have H1:=al (ab hb1 (ab k1 (ab h1 hP)));obtain⟨y0,y1⟩:=ft k1;clear h hb1 k1 h1 hP hh hi hu;go_wp2_with fail;refine qA.o.m ?_;rintro e w2 ⟨rfl,hb2⟩;have h2:=H1.o.d.1.below hb2;have k2:=pt hb2 H1.o.2.1;clear qA y0 y1;obtain⟨hd0,vp,vk,aA,H,hO,hT⟩:=h2.open_;obtain⟨b,off,c,rfl,q1,q2,c0,c1,f0,f1⟩:=hO.2.2.1.pair hv;obtain⟨⟨r0,-⟩,-,-⟩:=af hO.1;obtain⟨y0,y1⟩:=ft k2;have hs:=hO.2.2.1.U4 (v':=p.2) hv;have H2:=al (ab hb2 (ab hd0 (ab hO (ab hs hF))));have hil:=(b8.1 hv).1;have i1:(0:Int)<=(i:Int):=by omega
 have i2:(i:Int)<(x.ps.length:Int):=by omega
 have hPb: ¬P=b:=by obtain⟨b',o',c',cs,e1,z2,z3,z4,z6,z7,z8,z9⟩:=hO.2.2.1.lies (by simp;omega);simp only[fa,ie,fl,nf,and_true]at e1;obtain⟨⟨rfl,rfl⟩,_⟩:=e1;have:=hF _ _ (hO.own.1 1 _ _ (z8 off (aE _) (by omega)));have:=H1.o.t;omega
 have hNP:=al hv;clear h2 k2 hb2 hd0 hO hT hs hv hF;go_wp2_with fail
 go_region
 go_wp2_with fail
 go_ret2
 obtain⟨hb2,hd0,hO,hs,hF⟩:=H2.o;rw[HI.o];have mJ:=H1.o.1.x (hb2.m H1.o.1.size);have hF2: ∀b q,F b q->b<w2.heap.size:=fun b q hh=>cq (hF b q hh) mJ.size;have hr:=hO.pP (w':=w2.setCell ⟨b,off+i*2+1,none⟩ (.string ⟨p.2.toArray⟩)) hd0 hF2 (hs.2.heap hO.1 (fun q hh=>hO.own.2.1 1 0 a q (by decide) hh (hO.2.1 q))) (hs.2.m (fun _ _ _ hh=>.inl hh)) (hs.1.m (fun _ _ hh=>.inl hh));have e1:(p.1,p.2)=p:=rfl;rw[e1]at hr;refine⟨rfl,(ay.only ((OnlyC.refl (fun _ _=>False) _).drew) hr.1 (fun _ _ _ h=>h)).m (fun b q hh=>hh.imp id (fun h=>da mJ.size h)),((oy mJ F).x hr.2 (fun _ _ _ h=>h)).drew⟩
theorem NS(w:World)(a o:Nat)(x:ND)(F:Nat->Nat->Prop)(p:Pr)(h:ay w 0 a x F)(hF: ∀b q,F b q->b<w.heap.size)(hu:Up x.ps)(hlen:x.ps.length<=1000)(hh:hit p.1 x.ps=false):
  Calls prog 79 #[.pointer (some ⟨a,0,none⟩),Qu p,.int .i64 o] w (Gn 0 a (.mk (x.ps.take (posOf p.1 x.ps)++p::x.ps.drop (posOf p.1 x.ps)) []) F none w):=by
 unfold Qu;obtain⟨hb1,k1⟩:=qn w (.cells #[.string ⟨p.1.toArray⟩,.string ⟨p.2.toArray⟩] 195);have h1:=h.below hb1;go_enter func79,ntmps79;go_upto_region 1 with fail;generalize w.alloc (.cells #[.string ⟨p.1.toArray⟩,.string ⟨p.2.toArray⟩] 195)=w1 at hb1 k1 h1⊢;obtain⟨P,hP⟩:=qt (w.heap.size);rw[hP]at k1⊢;have qA:=al (find_ok w1 F a x p.1 h1.base hu hlen);rw[hh]at qA;have hpos:=eU p.1 x.ps;obtain⟨i,hi⟩:=qt (posOf p.1 x.ps);rw[hi]at qA hpos;have HI:=al hi;have H1:=al (ab hb1 (ab k1 (ab h1 (ab hP hF))));obtain⟨y0,y1⟩:=ft k1;clear h hb1 k1 h1 hP hh hi hu hF;go_wp2_with fail;refine qA.o.m ?_;rintro e w2 ⟨rfl,hb2⟩;have h2:=H1.o.d.1.below hb2;have k2:=pt hb2 H1.o.2.1;have mJ:=H1.o.1.x (hb2.m H1.o.1.size);have hF2: ∀b q,F b q->b<w2.heap.size:=fun b q hh=>cq (H1.o.q b q hh) mJ.size;have Q9: ∀q,¬F P q:=fun q hh=>by have:=H1.o.q P q hh;have:=H1.o.t.1;omega
 clear qA y0 y1;obtain⟨hd0,vp,vk,aA,H,hO,hT⟩:=h2.open_;have hks:=hd0 rfl;have hp0:aA=[]:=dj (by rw[hO.2.2.2.2.1,hks];rfl);subst hp0;obtain⟨A,c,e1,-⟩:=hO.2.2.1.slice;rw[fa]at e1;subst e1;obtain⟨A2,c2,e2,-⟩:=hO.2.2.2.1.slice;have e2:vk=.slice A2 0 c2:=by simpa using e2
 subst e2;obtain⟨n,hn⟩:=qt (x.ps.length);rw[hn]at hO hlen hpos;obtain⟨⟨-,z1⟩,-,-⟩:=af hO.1;have jy:=al (dZ w2 a c2 A2 z1);have HA:=al (ab hO.1 (ab hO (ab mJ (ab hF2 (ab Q9 (ab k2 (ab hks (ab hn hpos))))))));clear h2 k2 hb2 mJ hF2 Q9 hd0 hT hks z1 hn hpos;go_wp2_with fail;refine jy.o.m ?_;rintro e w3 ⟨rfl,rfl⟩;clear jy;go_upto_region 7 with fail;have tS:=ft HA.o.q.2.1;refine o0 (S:=(fun W=>W.cell? ⟨P,0,none⟩=some (.string ⟨p.1.toArray⟩)/\W.cell? ⟨P,1,none⟩=some (.string ⟨p.2.toArray⟩))) (by kernel_rfl) tS (fun ph=>?_);generalize hW3:World.drew w2=W3 at ph⊢;have HB:=al (show Below w2.heap.size w2 W3 from hW3▸(aw _ _).drew);clear hW3 tS;refine aI [0,1,2,3,5,6] ?_
 iterate 6 (refine bO (v:=?_) (fun _ ⟨s0,s1⟩=>?_) ph ?_;rotate_left;(go_simp;try rfl);try simp only[ai,aj,ak,ar])
 refine aJ ?_;refine pf (rs:=[4,7]) (by kernel_rfl) (by simp) (bE (i:=4) rfl (fun K hK=>?_) (bE (i:=7) rfl (fun K hK=>?_) oT))
 focus
  obtain⟨⟨r6,-⟩,-,-⟩:=af (pt HB.o HA.o.1);go_simp;refine hK.o _ _ (ph) ?_;clear hK K ph r6;intro ph
  try simp only[ai,aj,ak,ar]
  refine aW 7 (fun K hK=>?_);go_simp;refine hK.o _ _ (lU ph (ae _ _)) ?_;clear hK K ph;intro ph
  try simp only[ai,aj,ak,ar]
  obtain⟨bV,kV⟩:=qn W3 (.cells #[.string ⟨p.1.toArray⟩,.string ⟨p.2.toArray⟩] 195);generalize W3.alloc (.cells #[.string ⟨p.1.toArray⟩,.string ⟨p.2.toArray⟩] 195)=W5 at kV bV ph⊢;obtain⟨VB,ib⟩:=qt (W3.heap.size);rw[ib]at kV⊢;have HV:=al (ab kV (show w2.heap.size<=VB by have h1:=HB.o.size;omega));have HB:=al (HB.o.x (bV.m HB.o.size));clear kV bV ib
 rotate_left
 focus
  go_simp;refine hK.o _ _ (lU ph (ae _ _)) ?_;clear hK K ph;intro ph
  try simp only[ai,aj,ak,ar]
  obtain⟨bV,kV⟩:=qn W3 (.cells #[.string ⟨p.1.toArray⟩,.string ⟨p.2.toArray⟩] 195);generalize W3.alloc (.cells #[.string ⟨p.1.toArray⟩,.string ⟨p.2.toArray⟩] 195)=W5 at kV bV ph⊢;obtain⟨VB,ib⟩:=qt (W3.heap.size);rw[ib]at kV⊢;have HV:=al (ab kV (show w2.heap.size<=VB by have h1:=HB.o.size;omega));have HB:=al (HB.o.x (bV.m HB.o.size));clear kV bV ib;refine aW 4 (fun K hK=>?_);obtain⟨⟨r6,-⟩,-,-⟩:=af (pt HB.o HA.o.1);go_simp;refine hK.o _ _ (ph) ?_;clear hK K ph r6;intro ph
  try simp only[ai,aj,ak,ar]
 all_goals
  refine aW 8 (fun K hK=>?_);go_simp;refine(jd W5 (H 1) _ (x.ps.map av) i _ rfl (av p) VB (HA.o.2.1.2.2.1.only (qe HB.o) (fun _ _ _ h=>h)) (by rw[fa,HA.o.q.t.1];exact HA.o.q.q) (by rw[fa,HA.o.q.t.1];exact hlen) (by rfl) (by simp[av,Value.oneCell']) (dO _) HV.o.1 (fun q hh=>by have h1:=HA.o.t.1 VB q (HA.o.2.1.own.1 1 VB q hh);have h2:=HV.o.2;omega)).m ?_;rintro e wn ⟨v6,rfl,cj,fe⟩;rw[eO]at cj;obtain⟨A6,c6,fL,-⟩:=cj.slice;obtain⟨n6,fB⟩:=qt (((x.ps.take i++p::x.ps.drop i).map av).length);rw[fB]at fL;subst fL;clear fB;have H6:=al (ab cj fe);clear cj fe
  try go_simp
  refine hK.o _ _ (dK ph H6.o.2 (fun hh=>HA.o.q.1 _ (HA.o.2.1.own.1 1 _ _ hh)) (fun hh=>HA.o.q.1 _ (HA.o.2.1.own.1 1 _ _ hh))) ?_;clear hK K ph;intro ph
  try simp only[ai,aj,ak,ar]
  refine aI [9,10] ?_
  iterate 2 (refine bO (v:=?_) (fun _ ⟨s0,s1⟩=>?_) ph ?_;rotate_left;(go_simp;try rfl);try simp only[ai,aj,ak,ar])
  refine aJ ?_;refine aW 11 (fun K hK=>?_);obtain⟨⟨r6,-⟩,rf,-⟩:=af (H6.o.2.heap (pt HB.o HA.o.1) (fun q hh=>HA.o.2.1.own.2.1 1 0 a q (by decide) hh (HA.o.2.1.2.1 q)));go_simp;refine hK.o _ _ (dK ph (OnlyC.aN _ a 0 _) (fun e=>HA.o.q.1 0 (by have e1:=e.1;rw[e1];exact HA.o.2.1.own.1 0 a 0 (HA.o.2.1.2.1 0))) (fun e=>HA.o.q.1 0 (by have e1:=e.1;rw[e1];exact HA.o.2.1.own.1 0 a 0 (HA.o.2.1.2.1 0)))) ?_;clear hK K ph r6 rf;intro ph
  try simp only[ai,aj,ak,ar]
  refine pb (by kernel_rfl) ?_ _;go_wp2_with fail
  go_ret2
  rw[HI.o];obtain⟨ha,hO,mJ,hF2,Q9,-,hks,-,-⟩:=HA.o;have ha5:=pt HB.o ha;have ho:=((oy HB.o (fun b q=>H 1 b q\/b=a)).x H6.o.2 (fun b q _ hh=>.inl hh)).x (OnlyC.aN wn a 0 (.slice A6 n6 c6)) (fun b q _ e=>.inr e.1);have hs:=(H6.o.1.only (OnlyC.aN wn a 0 (.slice A6 n6 c6)) (fun b q hh e=>hh.elim (fun h1=>hO.own.2.2 1 b q (by decide) h1 e.1) (fun h1=>by have h2:=hF2 a 0 (hO.own.1 0 a 0 (hO.2.1 0));have h3:=HB.o.size;have h4:=e.1;omega))).m (fun b q hh=>hh.imp id (fun h=>da HB.o.size h));have hr:=hO.pP (fun _=>hks) hF2 (jb (H6.o.2.heap ha5 (fun q hh=>hO.own.2.1 1 0 a q (by decide) hh (hO.2.1 q))) (.slice A6 n6 c6)) ho hs;rw[hks]at hr;exact⟨rfl,hr.1.m (fun b q hh=>hh.imp id (fun h=>da mJ.size h)),(oy mJ F).x hr.2 (fun _ _ _ h=>h)⟩
theorem Gp{α:Type}{l:List α}{i:Nat}(hi:i<l.length)(x:α)(j:Nat):(l.take i++x::l.drop (i+1))[j]?=if j=i then some x else l[j]?:=by
 rw[List.getElem?_append];by_cases c:j<i
 ·rw[fi (by simp;omega),ff (by omega),mu,fi c]
 ·rw[ff (by simp;omega),kh,nw (by omega)];by_cases e:j=i
  ·subst e;simp
  ·rw[ff e,show j-i=(j-i-1)+1 by omega,List.getElem?_cons_succ,mv];congr 1;omega
theorem YX{α:Type}{l:List α}{i:Nat}(hi:i<l.length)(y:α):(l.take i++y::l.drop (i+1))[i]?=some y:=by rw[Gp hi,fi rfl]
theorem bg.below{w w':World}{d a:Nat}{x:ND}{F:Nat->Nat->Prop}{vp vk:Value}{aA:List Nat}{H:Nat->Nat->Nat->Prop}(h:bg w (b7 w d) a x F vp vk aA H)(hb:Below w.heap.size w w'):bg w' (b7 w' d) a x F vp vk aA H:=by have ho:=qe hb;obtain⟨g1,g2,g3,g4,g5,g6,g7⟩:=h;exact⟨ho.heap g1 (fun _ h=>h),g2,g3.only ho (fun _ _ _ h=>h),g4.only ho (fun _ _ _ h=>h),g5,fun i p k hp hk=>(g6 i p k hp hk).only ho (fun _ _ _ h=>h),g7⟩
def Ua(d o:Nat)(p:Pr):Prop:= ∀(w:World) (a lo:Nat) (x:ND) (F:Nat->Nat->Prop),ay w d a x F->(∀b q,F b q->b<w.heap.size)->fy d o lo (2*o-1) x->Up (bz d x)->
 Calls prog 79 #[.pointer (some ⟨a,0,none⟩),Qu p,.int .i64 o] w (Gn d a (gU d x p o) F (look p.1 (bz d x)) w)
theorem xM{W W':World}{F:Nat->Nat->Prop}{b1 q1 b2 q2 b3 q3 b4 q4:Nat}{v1 v2 v3 v4:Value}(h:W.cell? ⟨b1,q1,none⟩=some v1/\W.cell? ⟨b2,q2,none⟩=some v2/\W.cell? ⟨b3,q3,none⟩=some v3/\W.cell? ⟨b4,q4,none⟩=some v4)(ho:OnlyC F W W')(h1: ¬F b1 q1)(h2: ¬F b2 q2)(h3: ¬F b3 q3)(h4: ¬F b4 q4):W'.cell? ⟨b1,q1,none⟩=some v1/\W'.cell? ⟨b2,q2,none⟩=some v2/\W'.cell? ⟨b3,q3,none⟩=some v3/\W'.cell? ⟨b4,q4,none⟩=some v4:=
 ⟨ho.cell h.1 h1,ho.cell h.2.1 h2,ho.cell h.2.2.1 h3,ho.cell h.2.2.2 h4⟩
theorem VC(w:World)(d a o lo:Nat)(x:ND)(F:Nat->Nat->Prop)(p:Pr)(ih:Ua d o p)(ho:2<=o)(dY:o<=16)(h:ay w (d+1) a x F)(hF: ∀b q,F b q->b<w.heap.size)(hwf:fy (d+1) o lo (2*o-1) x)(hup:Up (bz (d+1) x))(hh:hit p.1 x.ps=false):
  Calls prog 79 #[.pointer (some ⟨a,0,none⟩),Qu p,.int .i64 o] w (Gn (d+1) a (gU (d+1) x p o) F (look p.1 (bz (d+1) x)) w):=by
 have hu:=wR hwf hup;have hlen:x.ps.length<=1000:=by have:=hwf.len;omega
 have HW:=al (ab hwf (ab hup (ab hh (ab ih ho))));clear ih hwf hup ho;unfold Qu;obtain⟨hb1,k1⟩:=qn w (.cells #[.string ⟨p.1.toArray⟩,.string ⟨p.2.toArray⟩] 195);have h1:=h.below hb1;go_enter func79,ntmps79;go_upto_region 1 with fail;generalize w.alloc (.cells #[.string ⟨p.1.toArray⟩,.string ⟨p.2.toArray⟩] 195)=w1 at hb1 k1 h1⊢;obtain⟨P,hP⟩:=qt (w.heap.size);rw[hP]at k1⊢;have qA:=al (find_ok w1 F a x p.1 h1.base hu hlen);rw[hh]at qA;have hpos:=eU p.1 x.ps;obtain⟨i,hi⟩:=qt (posOf p.1 x.ps);rw[hi]at qA hpos;have HI:=al hi;have H1:=al (ab hb1 (ab k1 (ab h1 (ab hP hF))));obtain⟨y0,y1⟩:=ft k1;clear h hb1 k1 h1 hP hh hi hu hF;go_wp2_with fail;refine qA.o.m ?_;rintro e w2 ⟨rfl,hb2⟩;have h2:=H1.o.d.1.below hb2;have k2:=pt hb2 H1.o.2.1;have mJ:=H1.o.1.x (hb2.m H1.o.1.size);have hF2: ∀b q,F b q->b<w2.heap.size:=fun b q hh=>cq (H1.o.q b q hh) mJ.size;have Q9: ∀q,¬F P q:=fun q hh=>by have:=H1.o.q P q hh;have:=H1.o.t.1;omega
 clear qA y0 y1;obtain⟨hd0,vp,vk,aA,H,hO,hT⟩:=h2.open_;have hkl:=HW.o.1.kids;have hil:i<x.ks.length:=by omega
 obtain⟨k,hk⟩: ∃k,x.ks[i]?=some k:=⟨_,ao hil⟩;obtain⟨l,hl⟩: ∃l,aA[i]?=some l:=⟨_,ao (by rw[hO.2.2.2.2.1];exact hil)⟩;obtain⟨A,c,e1,-⟩:=hO.2.2.1.slice;rw[fa]at e1;subst e1;obtain⟨bk,ok,ck,e2,-,-,r2⟩:=hO.2.2.2.1.ptr hl;subst e2;obtain⟨nk,kJ⟩:=qt (aA.length);rw[kJ]at hO;have YY:i<nk:=by rw[<-kJ,hO.2.2.2.2.1];exact hil
 have D6:nk<=1001:=by rw[<-kJ,hO.2.2.2.2.1];omega
 obtain⟨n,hn⟩:=qt (x.ps.length);rw[hn]at hO hlen hpos;obtain⟨⟨-,z1⟩,-,-⟩:=af hO.1;have jy:=al (fq w2 a nk ck _ (by omega) z1)
 have hbk:H 2 bk (ok+i):=by obtain⟨b',o',c',cs,e1,q2,q3,q4,q6,q7,q8,q9⟩:=hO.2.2.2.1.lies (by rw[fa];omega);simp only[fa,ie,fl,nf,and_true]at e1;obtain⟨⟨rfl,rfl⟩,-,rfl⟩:=e1;rw[fa]at q2;exact q8 _ (by omega) (by omega)
 obtain⟨y0,y1⟩:=ft k2;have tS:=ab z1 (ab r2 (ab y0 y1));have HA:=al (ab hO (ab mJ (ab hF2 (ab Q9 (ab hk (ab hl (ab hn (ab hbk (ab hil hpos)))))))));have i1:(0:Int)<=(i:Int):=by omega
 have i2:(i:Int)<(nk:Int):=by omega
 clear h2 k2 hb2 mJ hF2 Q9 hd0 hT z1 hn hpos hO hk hl hil hkl kJ hbk r2 y0 y1;go_wp2_with fail;refine jy.o.m ?_;rintro e w3 ⟨rfl,rfl⟩;clear jy;go_upto_region 9 with fail;refine o0 (S:=(fun W=>W.cell? ⟨a,1,none⟩=some (.slice (some ⟨bk,ok,none⟩) nk ck)/\W.cell? ⟨bk,ok+i,none⟩=some (.pointer (some ⟨l,0,none⟩))/\W.cell? ⟨P,0,none⟩=some (.string ⟨p.1.toArray⟩)/\W.cell? ⟨P,1,none⟩=some (.string ⟨p.2.toArray⟩))) (by kernel_rfl) tS (fun ph=>?_);generalize hW3:World.drew w2=W3 at ph⊢;have HB:=al (show bg W3 (ay W3 d) a x F (.slice A n c) (.slice (some ⟨bk,ok,none⟩) nk ck) aA H/\Below w2.heap.size w2 W3 from hW3▸⟨bg.below (d:=d+1) HA.o.1 (aw _ _).drew,(aw _ _).drew⟩);clear hW3 tS;refine aI [0,1,2,3,4,5,6,7,8] ?_
 iterate 9 (refine bO (v:=?_) (fun _ ⟨s0,s1,s2,s3⟩=>?_) ph ?_;rotate_left;(go_simp;try rfl);try simp only[ai,aj,ak,ar])
 refine aJ ?_;refine aW 9 (fun K hK=>?_);go_simp;refine(HW.o.t.1 W3 l _ k (H (i+3)) (HB.o.1.2.2.2.2.2.1 i l k HA.o.q.2.1 HA.o.q.1) (fun b q hh=>cq (HA.o.d.1 b q (HA.o.1.own.1 _ b q hh)) HB.o.2.size) (HW.o.1.2.2.2 k (de HA.o.q.1)) (Up.kid HW.o.1.kids (by have h:=HW.o.2.1;rwa[<-dS x]at h) HA.o.q.1)).m ?_;rintro e wn ⟨rfl,Ub,how⟩;have HK:=al (ab Ub how);clear Ub how;obtain⟨s0,hs0⟩:=qt ((⟨((look p.1 (bz d k)).getD []).toArray⟩:ByteArray));obtain⟨b0,hb0⟩:=qt ((look p.1 (bz d k)).isSome);rw[hs0,hb0];have HR:=al (ab hs0 hb0);clear hs0 hb0
 try go_simp
 refine hK.o _ _ (xM ph HK.o.2 (HA.o.1.own.2.1 0 (i+3) a 1 (by omega) (HA.o.1.2.1 1)) (HA.o.1.own.2.1 2 (i+3) bk (ok+i) (by omega) HA.o.q.t.1) (fun hh=>HA.o.t.1 0 (HA.o.1.own.1 _ _ _ hh)) (fun hh=>HA.o.t.1 1 (HA.o.1.own.1 _ _ _ hh))) ?_;clear hK K ph;intro ph
 try simp only[ai,aj,ak,ar]
 refine aI [10,11,12,13,14] ?_
 iterate 5 (refine bO (v:=?_) (fun _ ⟨s0,s1,s2,s3⟩=>?_) ph ?_;rotate_left;(go_simp;try rfl);try simp only[ai,aj,ak,ar])
 refine aJ ?_;refine pb (by kernel_rfl) ?_ _;obtain⟨z1,r2,-,-⟩:=ph;have hres:=HB.o.1.IX (fun b q hh=>cq (HA.o.d.1 b q hh) HB.o.2.size) HA.o.q.1 HA.o.q.2.1 HK.o.2 HK.o.1;have hput:=rD HW.o.q p (HW.o.1.2.2.2 k (de HA.o.q.1)) (Up.kid HW.o.1.kids (by have h:=HW.o.2.1;rwa[<-dS x]at h) HA.o.q.1);obtain⟨vp3,vk3,D8,H3,g1,-,g3,-⟩:=HK.o.1.base;obtain⟨A3,c3,e3,-⟩:=g3.slice;rw[fa]at e3;subst e3;obtain⟨n3,mB⟩:=qt ((gU d k p o).ps.length);rw[mB]at g1;have RZ:=hput.2.len.2;rw[mB]at RZ;obtain⟨⟨z3,-⟩,-,-⟩:=af g1;have om:look p.1 (bz (d+1) x)=look p.1 (bz d k):=by rw[<-dS x];exact BA HW.o.1.kids (by have h:=HW.o.2.1;rwa[<-dS x]at h) HW.o.d.1 (by rw[HI.o];exact HA.o.q.1)
 have hN:=IH (d:=d) (o:=o) (ps:=x.ps) (ks:=x.ks) (k:=k) HW.o.d.1 (by rw[HI.o];exact HA.o.q.1);rw[dS,HI.o,mB]at hN;have Gq:=al (ab hres (ab hput (ab mB (ab om hN))));clear hres hput g1 g3 mB om hN;have io:(2:Int)<=(o:Int):=by have:=HW.o.q;omega
 have io2:(o:Int)<=16:=by omega
 by_cases fY:2*o-1<n3
 ·have i3:2*(o:Int)-1<(n3:Int):=by omega
  have fu:=al fY;clear fY;go_wp2_with fail;have hsz:w.heap.size<=W3.heap.size:=da HA.o.2.1.size HB.o.2.size;have hil:=HA.o.q.q.1;have mK:=HW.o.1.kids;have T9:=HW.o.1.len.2;refine(xL wn d a i o _ (gU d k p o) _ Gq.o.1.1.bound (fun b q hh=>hh.2) (YX hil _) (by show i<=x.ps.length;omega) (by show x.ps.length<=1000;omega) (by show(x.ks.take i++gU d k p o::x.ks.drop (i+1)).length<=1000;simp;omega) (by rw[Gq.o.d.1];have:=fu.o;omega) (fun hd=>?_) HW.o.q dY).m ?_
  ·obtain⟨d1,rfl⟩: ∃d1,d=d1+1:=⟨d-1,by omega⟩;rw[Gq.o.2.1.2.kids,Gq.o.d.1];have:=fu.o;omega
  rintro e w5 ⟨rfl,NT,jr⟩;have H5:=al (ab NT jr);clear NT jr;go_wp2_with fail
  go_ret2
  obtain⟨hres,hput,mB,om,hN⟩:=Gq.o;rw[fi fu.o]at hN;rw[hN];refine⟨by rw[<-HR.o.1,<-HR.o.2,<-om];rfl,H5.o.1.m (fun b q hh=>?_),((oy (HA.o.2.1.x (HB.o.2.m HA.o.2.1.size)) F).x hres.2 (fun _ _ _ h=>h)).x H5.o.2 (fun b q hb hh=>hh.1.elim id (fun h=>by omega))⟩;rcases hh with hh|hh
  ·exact hh.1.imp id (fun h=>da hsz h)
  ·exact .inr (da hsz (da HK.o.2.size hh))
 ·have i3: ¬2*(o:Int)-1<(n3:Int):=by omega
  have fu:=al fY;clear fY;go_wp2_with fail
  go_ret2
  obtain⟨hres,hput,mB,om,hN⟩:=Gq.o;rw[ff fu.o]at hN;rw[hN];exact⟨by rw[<-HR.o.1,<-HR.o.2,<-om];rfl,hres.1.m (fun b q hh=>hh.imp id (fun h=>da HA.o.2.1.size (da HB.o.2.size h))),((oy (HA.o.2.1.x (HB.o.2.m HA.o.2.1.size)) F).x hres.2 (fun _ _ _ h=>h))⟩
theorem NU{o:Nat}(ho:2<=o)(dY:o<=16)(p:Pr): ∀d,Ua d o p
 |0=>fun w a lo x F h hF hwf hu=>by
  have hks:=hwf.none;have hup:=wR hwf hu;have hlen:x.ps.length<=1000:=by have:=hwf.len;omega
  by_cases hh:hit p.1 x.ps=true
  ·obtain⟨v,hv⟩:=fO hh;have:=Jk w 0 a o x F p v h hF hup hlen hh hv;rw[hks]at this
   have e:gU 0 x p o=.mk (x.ps.take (posOf p.1 x.ps)++p::x.ps.drop (posOf p.1 x.ps+1)) []:=by show ND.mk (Bv x.ps p) []=_;unfold Bv;rw[fi hh]
   rw[e,show look p.1 (bz 0 x)=some v from sU hv];exact this
  ·simp only[Bool.not_eq_true]at hh;have:=NS w a o x F p h hF hup hlen hh
   have e:gU 0 x p o=.mk (x.ps.take (posOf p.1 x.ps)++p::x.ps.drop (posOf p.1 x.ps)) []:=by show ND.mk (Bv x.ps p) []=_;unfold Bv;rw[ff (by simp[hh])]
   rw[e,show look p.1 (bz 0 x)=none from Dc hh];exact this
 |d+1=>fun w a lo x F h hF hwf hu=>by
  have hup:=wR hwf hu;have hlen:x.ps.length<=1000:=by have:=hwf.len;omega
  by_cases hh:hit p.1 x.ps=true
  ·obtain⟨v,hv⟩:=fO hh;have:=Jk w (d+1) a o x F p v h hF hup hlen hh hv;have e:=C5 (d:=d) (o:=o) (ps:=x.ps) (ks:=x.ks) hh;rw[dS]at e;rw[e]
   have e2:look p.1 (bz (d+1) x)=some v:=by rw[<-dS x]at hu⊢;exact wN hwf.kids hu hh hv
   rw[e2];exact this
  ·simp only[Bool.not_eq_true]at hh;exact VC w d a o lo x F p (NU ho dY p d) ho dY h hF hwf hu hh
end Go.Proofs.YtmkofmeojbcakaaGreatDoor
