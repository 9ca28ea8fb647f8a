import Derived.Test.YtmkofmeojbcakaaGreatDoorC05
import Derived.Test.YtmkofmeojbcakaaGreatDoorC18
namespace Go.Proofs.YtmkofmeojbcakaaGreatDoor
open Go.Proofs.Tryz
set_option maxRecDepth 100000
set_option maxHeartbeats 16000000
open Go.RowKit
theorem eY{w:World}{T:Nat}{a b c:Value}(h:w.heap[T]?=some (.cells #[a,b,c] 187 (0,0))):(w.cell? ⟨T,0,none⟩=some a/\w.cell? ⟨T,1,none⟩=some b/\w.cell? ⟨T,2,none⟩=some c)/\w.frozen? ⟨T,1,none⟩=false/\w.frozen? ⟨T,2,none⟩=false:=by simp[World.cell?,World.frozen?,h]
theorem Jl{w:World}{T:Nat}{a b c:Value}(h:w.heap[T]?=some (.cells #[a,b,c] 187 (0,0)))(x:Value):(w.setCell ⟨T,1,none⟩ x).heap[T]?=some (.cells #[a,x,c] 187 (0,0)):=by have:=db w T 1 _ _ x h;simpa using this
theorem BW{w:World}{T:Nat}{a b c:Value}(h:w.heap[T]?=some (.cells #[a,b,c] 187 (0,0)))(x:Value):(w.setCell ⟨T,2,none⟩ x).heap[T]?=some (.cells #[a,b,x] 187 (0,0)):=by have:=db w T 2 _ _ x h;simpa using this
theorem vI{w W9:World}{T o d r:Nat}{l:List Pr}{y:ND}{F K9:Nat->Nat->Prop}{p:Pr}{cnt:Int}(hup:Up l)(ho:2<=o)(dY:o<=16)(qi: ∀q,F T q)(_hTw:T<w.heap.size)
  (k9:W9.heap[T]?=some (.cells #[.int .i64 o,.int .i64 cnt,.pointer (some ⟨r,0,none⟩)] 187 (0,0))) (VD:cnt=(ins p l).length) (hn:ay W9 d r y K9) (hK: ∀b q,K9 b q->F b q\/w.heap.size<=b) (R3: ∀q,¬K9 T q)
  (hwf:fy d o (if d=0 then 0 else 1) (2*o-1) y) (htl:bz d y=ins p l):bM W9 T o (ins p l) (fun b q=>F b q\/w.heap.size<=b):=by
 subst VD;exact⟨d,r,y,K9,k9,hn,hwf,htl,by rw[oO];exact eK hup,⟨ho,dY⟩,hK,fun q=>.inl (qi q),R3⟩
theorem vJ{p:Pr}{l:List Pr}(hup:Up l):(ins p l).length=if(look p.1 l).isSome then l.length else l.length+1:=by rw[oO,look_eq];exact ki hup
def NV(T o:Nat)(l:List Pr)(p:Pr)(F:Nat->Nat->Prop)(w:World)(e:Ending)(w':World):Prop:=
 e=.returned (.tuple #[.string ⟨((look p.1 l).getD []).toArray⟩,.bool (look p.1 l).isSome,.int .i64 0])/\bM w' T o (ins p l) (fun b q=>F b q\/w.heap.size<=b)/\OnlyC F w w'
theorem qU(w:World)(T o:Nat)(l:List Pr)(F:Nat->Nat->Prop)(p:Pr)(h:bM w T o l F)(hF: ∀b q,F b q->b<w.heap.size)(hk1:1<=p.1.length)(hk2:p.1.length<=64)(hv:p.2.length<=256)(hl:l.length<=1000000):
  Calls prog 58 #[.pointer (some ⟨T,0,none⟩),.string ⟨p.1.toArray⟩,.string ⟨p.2.toArray⟩] w (NV T o l p F w):=by
 obtain⟨d,r,x,KK,k0,hn,hwf,htl,hup,⟨ho,dY⟩,YZ,qi,R3⟩:=h;obtain⟨⟨t0,-,t2⟩,-,-⟩:=eY k0;have tS:=ab t0 t2;have m1: ¬(256:Int)<(p.2.length:Int):=by omega
 have HC:=al (nB w T ⟨p.1.toArray⟩ (by exact hk1) (by exact hk2));have HA:=al (ab k0 (ab hn (ab hwf (ab htl (ab hup (ab ho (ab dY (ab YZ (ab qi (ab R3 (ab hF hl)))))))))));clear k0 hn hwf htl hup ho dY YZ qi R3 hF hl hk1 hk2 hv t0 t2;go_enter func58,ntmps58;go_wp2_with fail;refine HC.o.m ?_;rintro e w1 ⟨rfl,hw1⟩;obtain rfl:w=w1:=hw1.symm;clear HC;go_upto_region 6 with fail;refine o0 (S:=(fun W=>W.cell? ⟨T,0,none⟩=some (.int .i64 o)/\W.cell? ⟨T,2,none⟩=some (.pointer (some ⟨r,0,none⟩)))) (by kernel_rfl) tS (fun ph=>?_);generalize hW3:World.drew w=W3 at ph⊢;have HB:=al (show ay W3 d r x KK/\W3.heap[T]?=some (.cells #[.int .i64 o,.int .i64 l.length,.pointer (some ⟨r,0,none⟩)] 187 (0,0))/\Below w.heap.size w W3 from hW3▸⟨HA.o.2.1.below (aw _ _).drew,HA.o.1,(aw _ _).drew⟩);clear hW3 tS;refine aI [0,1,2,3,4,5,6,7,8,9,10] ?_
 iterate 11 (refine bO (v:=?_) (fun _ ⟨s0,s1⟩=>?_) ph ?_;rotate_left;(go_simp;try rfl);try simp only[ai,aj,ak,ar])
 refine aJ ?_;refine aW 11 (fun K hK=>?_);go_simp;refine(NU HA.o.q.2.1 HA.o.q.d.1 p d W3 r _ x KK HB.o.1 (fun b q hh=>cq (HA.o.q.q.d.1 b q (HA.o.q.t.1 b q hh)) HB.o.d.size) HA.o.d.1 (by rw[HA.o.t.1];exact HA.o.q.1)).m ?_;rintro e wn ⟨rfl,Ub,how⟩;have HK:=al (ab Ub how);clear Ub how;rw[HA.o.t.1]
 try go_simp
 refine hK.o _ _ (dK ph HK.o.2 (HA.o.q.q.2.1 0) (HA.o.q.q.2.1 2)) ?_;clear hK K ph;intro ph
 try simp only[ai,aj,ak,ar]
 refine aI [12,13,14,15,16] ?_
 iterate 5 (refine bO (v:=?_) (fun _ ⟨s0,s1⟩=>?_) ph ?_;rotate_left;(go_simp;try rfl);try simp only[ai,aj,ak,ar])
 refine aJ ?_;refine pb (by kernel_rfl) ?_ _;have HR:=al (show World.cell? wn ⟨T,0,none⟩=_/\_ from ph);clear ph;obtain⟨b0,hb0⟩:=qt ((look p.1 l).isSome);obtain⟨s0,hs0⟩:=qt ((⟨((look p.1 l).getD []).toArray⟩:ByteArray));rw[hs0,hb0];have lV:=al (ab hs0 hb0);clear hs0 hb0;have k4:=HK.o.2.heap HB.o.2.1 HA.o.q.q.2.1;have VE:OnlyC F w wn:=(oy HB.o.d F).x HK.o.2 (fun b q _ hh=>HA.o.q.t.1 b q hh);have nd4:=HK.o.1.bound;cases b0
 focus
  obtain⟨⟨-,t1,-⟩,tf1,-⟩:=eY k4;have il:(l.length:Int)<=1000000:=by have:=HA.o.q.q.t;omega
  go_upto_region 9 with fail;have k5:=Jl k4 (.int .i64 ((l.length:Int)+1));have Ud:=(HK.o.1.only (OnlyC.aN wn T 1 (.int .i64 ((l.length:Int)+1))) (fun b q hh e=>by have e1:=e.1;rw[e1]at hh;rcases hh with h5|h5;(· exact HA.o.q.q.2.1 q h5);(· have h6:=HB.o.d.size;have h7:=oE HA.o.1;omega))).bound;have VH:=VE.x (OnlyC.aN wn T 1 (.int .i64 ((l.length:Int)+1))) (fun b q _ e=>by obtain⟨rfl,rfl⟩:=e;exact HA.o.q.q.1 _);clear t1 tf1 k4 nd4 VE;generalize wn.setCell ⟨T,1,none⟩ (.int .i64 ((l.length:Int)+1))=W9 at k5 Ud VH⊢;have H9:=al (ab k5 (ab Ud VH));clear k5 Ud VH
 rotate_left
 focus
  have H9:=al (ab k4 (ab nd4 VE));clear k4 nd4 VE;go_upto_region 9 with fail;obtain⟨W9,hW9⟩:=qS (wn);rw[<-hW9]at H9⊢;have HW9:=al hW9;clear hW9
 all_goals
  obtain⟨vp3,vk3,D8,H3,g1,-,g3,-⟩:=H9.o.2.1.base;obtain⟨A3,c3,e3,-⟩:=g3.slice;rw[fa]at e3;subst e3;obtain⟨n3,mB⟩:=qt ((gU d x p o).ps.length);rw[mB]at g1;obtain⟨⟨z3,-⟩,-,-⟩:=af g1;obtain⟨⟨t0,-,t2⟩,-,tf⟩:=eY H9.o.1;have hput:=rD HA.o.q.2.1 p HA.o.d.1 (by rw[HA.o.t.1];exact HA.o.q.1);have RZ:=hput.2.len.2;rw[mB]at RZ;have gj:=al (ab hput mB);clear hput g1 g3 mB;have io:(2:Int)<=(o:Int):=by have:=HA.o.q.2.1;omega
  have io2:(o:Int)<=16:=by have:=HA.o.q.d.1;omega
  have Uc:T<w.heap.size:=oE HA.o.1;have oH:=al Uc;clear Uc;by_cases fY:2*o-1<n3
  ·have i3:2*(o:Int)-1<(n3:Int):=by omega
   have fu:=al fY;clear fY RZ;go_quiet(fail)
   have VF: ∀X Y,World.cell? (((W9.drewN nq).alloc X).alloc Y) ⟨T,2,none⟩=some (.pointer (some ⟨r,0,none⟩))/\World.frozen? (((W9.drewN nq).alloc X).alloc Y) ⟨T,2,none⟩=false:=fun X Y=>by have hb:Below W9.heap.size W9 (((W9.drewN nq).alloc X).alloc Y):=((aG (aw W9.heap.size W9) nq).alloc (aE _) X).alloc (by simp) Y;have hk:=pt hb H9.o.1;exact⟨(eY hk).1.2.2,(eY hk).2.2⟩
   have VG:=VF (.cells #[.pointer (some ⟨r,0,none⟩)] 181) (.cells #[.slice none 0 0,.slice (some ⟨W9.heap.size,0,none⟩) 1 1] 185);obtain⟨hq2,hq3⟩:=VG;clear VF;go_upto_region 11 with fail;clear hq2 hq3;have hbW:Below W9.heap.size W9 (W9.drewN nq):=aG (aw _ _) nq;have BX:(W9.drewN nq).heap.size=W9.heap.size:=rfl;generalize W9.drewN nq=Wq at hbW BX⊢;obtain⟨bS,kS⟩:=qn Wq (.cells #[.pointer (some ⟨r,0,none⟩)] 181);have R4:(Wq.alloc (.cells #[.pointer (some ⟨r,0,none⟩)] 181)).heap.size=W9.heap.size+1:=by simp[BX]
   rw[BX]at kS;obtain⟨S,hS⟩:=qt (W9.heap.size);rw[hS]at kS R4⊢;generalize Wq.alloc (.cells #[.pointer (some ⟨r,0,none⟩)] 181)=wa at kS bS R4⊢;obtain⟨bN,kN⟩:=qn wa (.cells #[.slice none 0 0,.slice (some ⟨S,0,none⟩) 1 1] 185);rw[R4]at kN;generalize wa.alloc (.cells #[.slice none 0 0,.slice (some ⟨S,0,none⟩) 1 1] 185)=wb at kN bN⊢;have qV:Below W9.heap.size W9 wb:=(hbW.x (bS.m hbW.size)).x (bN.m (da hbW.size bS.size));have HZ:=al (ab hS (ab qV (ab (pt bN kS) kN)));clear hbW BX kS bS R4 kN bN hS qV;have kT:=BW (pt HZ.o.2.1 H9.o.1) (.pointer (some ⟨S+1,0,none⟩));obtain⟨⟨u0,-,u2⟩,-,-⟩:=eY kT;have tS:=ab u0 u2;clear u0 u2;have nb:=((H9.o.2.1.below HZ.o.2.1).IY HZ.o.t HZ.o.d.1 (by omega) (fun q hh=>by have:=hh.2;have:=HZ.o.1;omega) (fun q hh=>by have:=hh.2;have:=HZ.o.1;omega)).only (OnlyC.aN wb T 2 (.pointer (some ⟨S+1,0,none⟩))) (fun b q hh e=>?_);rotate_left
   ·obtain⟨rfl,-⟩:=e;have h1:=oH.o;have h2:=oE H9.o.1;have h3:=HZ.o.1;rcases hh with hh|hh|hh
    ·rcases hh.1 with h4|h4
     ·exact HA.o.q.q.2.1 _ h4
     ·have:=HB.o.d.size;omega
    ·omega
    ·omega
   have HQ:=al (ab nb (ab kT (((H9.o.d.x (oy HZ.o.2.1 F) (fun _ _ _ h=>h)).x (OnlyC.aN wb T 2 (.pointer (some ⟨S+1,0,none⟩))) (fun b q _ e=>by obtain⟨rfl,rfl⟩:=e;exact HA.o.q.q.1 _)))));clear nb kT;have NW:(wb.setCell ⟨T,2,none⟩ (.pointer (some ⟨S+1,0,none⟩))).heap.size=wb.heap.size:=by simp[World.setCell]
   generalize (wb.setCell ⟨T,2,none⟩ (.pointer (some ⟨S+1,0,none⟩)))=ze at HQ tS NW⊢;refine o0 (S:=(fun W=>W.cell? ⟨T,0,none⟩=some (.int .i64 o)/\W.cell? ⟨T,2,none⟩=some (.pointer (some ⟨S+1,0,none⟩)))) (by kernel_rfl) tS (fun ph=>?_);generalize NY:World.drew ze=Y0 at ph⊢;have Gs:Below ze.heap.size ze Y0:=NY▸(aw _ _).drew;have HV:=al (ab (HQ.o.1.below Gs) Gs);clear NY tS Gs;refine aI [0,1,2,3,4,5,6,7] ?_
   iterate 8 (refine bO (v:=?_) (fun _ ⟨s0,s1⟩=>?_) ph ?_;rotate_left;(go_simp;try rfl);try simp only[ai,aj,ak,ar])
   refine aJ ?_;refine aW 8 (fun K hK=>?_);go_simp;refine(xL Y0 d (S+1) 0 o (.mk [] [gU d x p o]) (gU d x p o) _ HV.o.1.bound (fun b q hh=>hh.2) rfl (dq _) (by simp) (by simp) (by rw[gj.o.2];have:=fu.o;have:=gj.o.1.2.len.2;rw[gj.o.2]at this;omega) (fun hd=>by obtain⟨d1,rfl⟩: ∃d1,d=d1+1:=⟨d-1,by omega⟩;have h1:=gj.o.1.2.kids;have h2:=gj.o.2;have h3:=fu.o;have h4:=gj.o.1.2.len.2;omega) HA.o.q.2.1 HA.o.q.d.1).m ?_;rintro e wn ⟨rfl,NZ,Ko⟩;have R5:=al (ab NZ Ko);clear NZ Ko
   try go_simp
   refine hK.o _ _ (dK ph R5.o.2 (fun hh=>by rcases hh.1 with hh|hh|hh;(· rcases hh.1 with h4|h4;(· exact HA.o.q.q.2.1 _ h4);(· have:=HB.o.d.size;have:=oH.o;omega));(· have:=oH.o;have:=oE H9.o.1;have:=HZ.o.1;omega);(· have:=oH.o;have:=oE H9.o.1;have:=HZ.o.1;omega)) (fun hh=>by rcases hh.1 with hh|hh|hh;(· rcases hh.1 with h4|h4;(· exact HA.o.q.q.2.1 _ h4);(· have:=HB.o.d.size;have:=oH.o;omega));(· have:=oH.o;have:=oE H9.o.1;have:=HZ.o.1;omega);(· have:=oH.o;have:=oE H9.o.1;have:=HZ.o.1;omega))) ?_;clear hK K ph;intro ph
   try simp only[ai,aj,ak,ar]
   refine pb (by kernel_rfl) ?_ _;have HH:=al (show World.cell? wn ⟨T,0,none⟩=_/\_ from ph);clear ph;go_wp2_with fail
   go_ret3
   have hy:fy d o (2*o) (2*o) (gU d x p o):=gj.o.1.2.re (by rw[gj.o.2];have:=fu.o;omega) (by rw[gj.o.2];have:=fu.o;have:=gj.o.1.2.len.2;rw[gj.o.2]at this;omega);have hrs:=zR HA.o.q.2.1 hy;have k12:=R5.o.2.heap (pt HV.o.2 HQ.o.2.1) (fun q=>(fun hh=>by rcases hh.1 with hh|hh|hh;(· rcases hh.1 with h4|h4;(· exact HA.o.q.q.2.1 _ h4);(· have:=HB.o.d.size;have:=oH.o;omega));(· have:=oH.o;have:=oE H9.o.1;have:=HZ.o.1;omega);(· have:=oH.o;have:=oE H9.o.1;have:=HZ.o.1;omega)));have hte:=vI (F:=F) (w:=w) HA.o.q.1 HA.o.q.2.1 HA.o.q.d.1 HA.o.q.q.1 oH.o k12 (by rw[vJ HA.o.q.1,lV.o.2];rfl) R5.o.1 ?_ ?_ (by rw[ff (by omega)];exact hrs.2) (by rw[hrs.1,gj.o.1.1,HA.o.t.1])
   ·refine⟨by rw[<-lV.o.1,<-lV.o.2];rfl,hte,(HQ.o.d.x (oy HV.o.2 F) (fun _ _ _ h=>h)).x R5.o.2 (fun b q hb hh=>?_)⟩;have h1:=HB.o.d.size;have h2:=oE H9.o.1;have h3:=HZ.o.1;have h4:=H9.o.d.size;rcases hh.1 with hh|hh|hh
    ·rcases hh.1 with h5|h5
     ·exact HA.o.q.t.1 b q h5
     ·omega
    ·omega
    ·omega
   ·intro b q hh;have h1:=HB.o.d.size;have h3:=HZ.o.1;have h4:=H9.o.d.size;have h6:=HV.o.2.size;have h7:=HZ.o.2.1.size;rcases hh with hh|hh
    ·rcases hh.1 with hh|hh|hh
     ·rcases hh.1 with h5|h5
      ·exact .inl (HA.o.q.t.1 b q h5)
      ·exact .inr (by omega)
     ·exact .inr (by omega)
     ·exact .inr (by omega)
    ·exact .inr (by omega)
   ·intro q hh;rcases hh with hh|hh
    ·exact(fun hh=>by rcases hh.1 with hh|hh|hh;(· rcases hh.1 with h4|h4;(· exact HA.o.q.q.2.1 _ h4);(· have:=HB.o.d.size;have:=oH.o;omega));(· have:=oH.o;have:=oE H9.o.1;have:=HZ.o.1;omega);(· have:=oH.o;have:=oE H9.o.1;have:=HZ.o.1;omega)) hh
    ·have h1:=oH.o;have h3:=HZ.o.1;have h4:=H9.o.d.size;have h6:=HV.o.2.size;have h7:=HZ.o.2.1.size;omega
  ·have i3: ¬2*(o:Int)-1<(n3:Int):=by omega
   have fu:=al fY;clear fY RZ;go_quiet(fail);go_wp2_with fail
   go_ret3
   have hte:=vI (F:=F) (w:=w) HA.o.q.1 HA.o.q.2.1 HA.o.q.d.1 HA.o.q.q.1 oH.o H9.o.1 (by rw[vJ HA.o.q.1,lV.o.2];rfl) H9.o.2.1 (fun b q hh=>hh.1.elim (fun h=>.inl (HA.o.q.t.1 b q h)) (fun h=>.inr (da HB.o.d.size h))) (fun q hh=>hh.1.elim (HA.o.q.q.2.1 q) (fun h=>by have:=oH.o;have:=HB.o.d.size;omega)) (gj.o.1.2.re gj.o.1.2.len.1 (by rw[gj.o.2];have:=fu.o;omega)) (by rw[gj.o.1.1,HA.o.t.1]);exact⟨by rw[<-lV.o.1,<-lV.o.2];rfl,hte.below (aG (aw _ _) _),H9.o.d.drewN _⟩
theorem Mk(n:Nat)(h:n<=100000):(True->wrap64 (n:Int)=(n:Int))/\(True->IntKind.i64.wrap (n:Int)=(n:Int)):=by rw[gr];unfold wrap64;exact⟨fun _=>by omega,fun _=>by omega⟩
theorem D9{kl kr:ND}{s z:Pr}{m:Nat}(hm:kl.ps.length=m+1)(hz:kl.ps[m]?=some z):eF 0 kl s kr=(.mk (kl.ps.take m) [],z,.mk (s::kr.ps) []):=by show(ND.mk (kl.ps.take (kl.ps.length-1)) [],kl.ps[kl.ps.length-1]?.getD ([],[]),ND.mk (s::kr.ps) [])=_;rw[hm,nx,hz];rfl
theorem rV{d:Nat}{kl kr k0:ND}{s z:Pr}{m:Nat}(hd:d≠0)(hm:kl.ps.length=m+1)(hz:kl.ps[m]?=some z)(hk:kl.ks.length=m+2)(eQ:kl.ks[m+1]?=some k0):eF d kl s kr=(.mk (kl.ps.take m) (kl.ks.take (m+1)),z,.mk (s::kr.ps) (k0::kr.ks)):=by obtain⟨d1,rfl⟩: ∃d1,d=d1+1:=⟨d-1,by omega⟩;show(ND.mk (kl.ps.take (kl.ps.length-1)) (kl.ks.take (kl.ks.length-1)),kl.ps[kl.ps.length-1]?.getD ([],[]),ND.mk (s::kr.ps) (kl.ks[kl.ks.length-1]?.getD C0::kr.ks))=_;rw[hm,nx,hz,hk,show m+2-1=m+1 by omega,eQ];rfl
theorem az.fF{w:World}{b o n c i:Nat}{ps:List Pr}{F:Nat->Nat->Prop}(k v:List UInt8)(h:az 2 195 w (.slice (some ⟨b,o,none⟩) n c) (ps.map av) F)(hi:i<ps.length):
  az 2 195 ((w.setCell ⟨b,o+i*2,none⟩ (.string ⟨k.toArray⟩)).setCell ⟨b,o+i*2+1,none⟩ (.string ⟨v.toArray⟩)) (.slice (some ⟨b,o,none⟩) n c) ((ps.take i++(k,v)::ps.drop (i+1)).map av) F/\
   OnlyC F w ((w.setCell ⟨b,o+i*2,none⟩ (.string ⟨k.toArray⟩)).setCell ⟨b,o+i*2+1,none⟩ (.string ⟨v.toArray⟩)):=by
 obtain⟨b',o',c',cs,e1,q2,q3,q4,q6,q7,q8,q9⟩:=h.lies (by simp;omega);simp only[fa,ie,fl,nf,and_true]at e1;obtain⟨⟨rfl,rfl⟩,rfl,rfl⟩:=e1;rw[fa]at q2;obtain⟨cs',k1,k2,k3,k4⟩:=cE (t:=195) [.string ⟨k.toArray⟩,.string ⟨v.toArray⟩] (o+i*2) w cs q6 (by simp;omega);have ho:=bU b [.string ⟨k.toArray⟩,.string ⟨v.toArray⟩] (o+i*2) w;constructor
 ·refine az.rewritten k1 k2 q7 q8 (by simp;omega) q2 q3 (fun x hx=>by obtain⟨y,_,rfl⟩:=ew.1 hx;rfl) (fun j u hj=>?_)
  have hlk:(((ps.take i).map av).flatten).length=i*2:=by rw[bL (k:=2) (fun x hx=>by obtain⟨y,_,rfl⟩:=List.mem_map.1 hx;rfl)];simp;omega
  obtain⟨z0,hz0⟩: ∃z,ps[i]?=some z:=⟨_,ao hi⟩;have hsp:ps=ps.take i++z0::ps.drop (i+1):=ed hz0;have e1:((ps.take i++(k,v)::ps.drop (i+1)).map av).flatten=((ps.take i).map av).flatten++(.string ⟨k.toArray⟩:: .string ⟨v.toArray⟩::((ps.drop (i+1)).map av).flatten):=by simp[av]
  have e2:(ps.map av).flatten=((ps.take i).map av).flatten++(.string ⟨z0.1.toArray⟩:: .string ⟨z0.2.toArray⟩::((ps.drop (i+1)).map av).flatten):=by
   conv=>lhs;rw[hsp]
   simp[av]
  rw[e1]at hj;rw[e2]at q9;by_cases c1:i*2<=j/\j<i*2+2
  ·rw[ke (by omega),hlk]at hj
   have:=k4 (j-i*2) u (by
    obtain⟨t,ht⟩:=qt (j-i*2);rw[ht]at hj⊢
    match t,ht,hj with
    |0,_,hj=>simpa using hj
    |1,_,hj=>simpa using hj
    |t+2,ht,_=>omega)
   rw[show o+i*2+(j-i*2)=o+j by omega]at this;exact this
  ·rw[k3 (o+j) (by simp;omega)];refine q9 j u ?_;rw[List.getElem?_append]at hj⊢;split
   ·rename_i c2;rw[fi c2]at hj;exact hj
   ·rename_i c2;rw[ff c2,hlk]at hj;rw[hlk]at c2⊢;obtain⟨t,ht⟩:=qt (j-i*2);rw[ht]at hj⊢
    match t,ht,hj with
    |0,ht,_=>omega
    |1,ht,_=>omega
    |t+2,_,hj=>simpa using hj
 ·refine ho.m (fun b' q _ e=>?_);obtain⟨rfl,h1,h2⟩:=e;exact q8 _ (by omega) (by simp at h2;omega)
theorem ic{W W':World}{F:Nat->Nat->Prop}{b1 q1 b2 q2 b3 q3:Nat}{v1 v2 v3:Value}(h:W.cell? ⟨b1,q1,none⟩=some v1/\W.cell? ⟨b2,q2,none⟩=some v2/\W.cell? ⟨b3,q3,none⟩=some v3)(ho:OnlyC F W W')(h1: ¬F b1 q1)(h2: ¬F b2 q2)(h3: ¬F b3 q3):W'.cell? ⟨b1,q1,none⟩=some v1/\W'.cell? ⟨b2,q2,none⟩=some v2/\W'.cell? ⟨b3,q3,none⟩=some v3:=
 ⟨ho.cell h.1 h1,ho.cell h.2.1 h2,ho.cell h.2.2 h3⟩
theorem tJ{W W':World}{p1 p2 p3:Addr}{v1 v2 v3:Value}(h:W.cell? p1=some v1/\W.cell? p2=some v2/\W.cell? p3=some v3)(hb:Below W.heap.size W W'):W'.cell? p1=some v1/\W'.cell? p2=some v2/\W'.cell? p3=some v3:=
 ⟨(hb.cell (aq _ _ h.1)).x h.1,(hb.cell (aq _ _ h.2.1)).x h.2.1,(hb.cell (aq _ _ h.2.2)).x h.2.2⟩
theorem az.kK{w:World}{b o n c i:Nat}{ps:List Pr}{F:Nat->Nat->Prop}{p:Pr}(h:az 2 195 w (.slice (some ⟨b,o,none⟩) n c) (ps.map av) F)(hp:ps[i]?=some p):
  (w.cell? ⟨b,o+i*2,none⟩=some (.string ⟨p.1.toArray⟩)/\w.cell? ⟨b,o+i*2+1,none⟩=some (.string ⟨p.2.toArray⟩))/\w.frozen? ⟨b,o+i*2,none⟩=false/\w.frozen? ⟨b,o+i*2+1,none⟩=false:=by
 obtain⟨b',o',c',e1,_,_,h1,h2,h3,h4⟩:=h.pair hp;simp only[ie,fl,nf,and_true]at e1;obtain⟨⟨rfl,rfl⟩,rfl,rfl⟩:=e1;exact⟨⟨h1,h2⟩,h3,h4⟩
theorem az.Ea{w:World}{b o n c i p:Nat}{ps:List Nat}{F:Nat->Nat->Prop}(h:az 1 181 w (.slice (some ⟨b,o,none⟩) n c) (ps.map aP) F)(hp:ps[i]?=some p):w.cell? ⟨b,o+i,none⟩=some (.pointer (some ⟨p,0,none⟩)):=by obtain⟨b',o',c',e1,_,_,h1⟩:=h.ptr hp;simp only[ie,fl,nf,and_true]at e1;obtain⟨⟨rfl,rfl⟩,rfl,rfl⟩:=e1;exact h1
theorem az.qW{w:World}{b o n c i:Nat}{ps:List Pr}{F:Nat->Nat->Prop}(h:az 2 195 w (.slice (some ⟨b,o,none⟩) n c) (ps.map av) F)(hi:i<ps.length):F b (o+i*2)/\F b (o+i*2+1):=by obtain⟨b',o',c',cs,e1,q2,q3,q4,q6,q7,q8,q9⟩:=h.lies (by simp;omega);simp only[fa,ie,fl,nf,and_true]at e1;obtain⟨⟨rfl,rfl⟩,rfl,rfl⟩:=e1;rw[fa]at q2;exact⟨q8 _ (by omega) (by omega),q8 _ (by omega) (by omega)⟩
theorem az.Eb{w:World}{b o n c i:Nat}{ps:List Nat}{F:Nat->Nat->Prop}(h:az 1 181 w (.slice (some ⟨b,o,none⟩) n c) (ps.map aP) F)(hi:i<ps.length):F b (o+i):=by obtain⟨b',o',c',cs,e1,q2,q3,q4,q6,q7,q8,q9⟩:=h.lies (by simp;omega);simp only[fa,ie,fl,nf,and_true]at e1;obtain⟨⟨rfl,rfl⟩,rfl,rfl⟩:=e1;rw[fa]at q2;exact q8 _ (by omega) (by omega)
theorem Ec(w:World)(d a i i1:Nat)(x:ND)(F:Nat->Nat->Prop)(h:ay w (d+1) a x F)(hF: ∀b q,F b q->b<w.heap.size)(hi1:i1=i+1)(hi:i+1<x.ks.length)(hps:x.ks.length=x.ps.length+1)(hpl:x.ps.length<=900)
  (abg:1<=(aV x i).ps.length) (VA:(aV x i).ps.length<=900) (Y1:(aV x (i+1)).ps.length<=900) (hkk:d≠0->(aV x i).ks.length=(aV x i).ps.length+1) (Y2:(aV x (i+1)).ks.length<=901):
  Calls prog 196 #[.pointer (some ⟨a,0,none⟩),.int .i64 i1] w fun e w'=>e=.returned (.tuple #[])/\ay w' (d+1) a (uS x i (eF d (aV x i) (gM x i) (aV x (i+1)))) (fun b q=>F b q\/w.heap.size<=b)/\OnlyC F w w':=by
 obtain⟨_,vp,vk,aA,H,hO,_⟩:=h.open_;have xN:=dF (x:=x) (i:=i) (by omega);have xO:=dF (x:=x) (i:=i+1) (by omega);generalize Y3:aV x i=kl at *;generalize Y4:aV x (i+1)=kr at *;clear Y3 Y4;obtain⟨l,hl⟩: ∃y,aA[i]?=some y:=⟨_,ao (by rw[hO.2.2.2.2.1];omega)⟩;obtain⟨r,hr⟩: ∃y,aA[i+1]?=some y:=⟨_,ao (by rw[hO.2.2.2.2.1];omega)⟩;obtain⟨oL,vl,ul,pl,Hl,hL,Ki⟩:=(show ay w d l kl (H (i+3))from hO.2.2.2.2.2.1 i l kl hl xN).open_;obtain⟨hdr,vr,ur,pr,Hr,hR,Qo⟩:=(show ay w d r kr (H (i+4))from hO.2.2.2.2.2.1 (i+1) r kr hr xO).open_;have hB:=bH.start hO hF hL hR;obtain⟨s,hs⟩: ∃p,x.ps[i]?=some p:=⟨_,ao (by omega)⟩;have Ed:gM x i=s:=by unfold gM;rw[hs];rfl
 rw[Ed];obtain⟨m,hm⟩: ∃m,kl.ps.length=m+1:=⟨kl.ps.length-1,by omega⟩;obtain⟨z,hz⟩: ∃p,kl.ps[m]?=some p:=⟨_,ao (by omega)⟩;obtain⟨bn,on,cn,e0,-,-,s0,s1,-⟩:=hO.2.2.1.pair hs;subst e0;obtain⟨bl,ol,cl,e0,-,-,-⟩:=hL.2.2.1.pair hz;subst e0;obtain⟨Ar,cr,e0,-⟩:=hR.2.2.1.slice;rw[fa]at e0;subst e0;obtain⟨bk,ok,ck,e0,-,-,r1⟩:=hO.2.2.2.1.ptr hl;obtain⟨bk',ok',ck',Qp,-,-,r2⟩:=hO.2.2.2.1.ptr hr;subst e0;simp only[ie,fl,nf,and_true,true_and]at Qp;obtain⟨⟨rfl,rfl⟩,rfl⟩:=Qp;obtain⟨Al,Ue,e0,-⟩:=hL.2.2.2.1.slice;rw[fa]at e0;subst e0;obtain⟨Xx,Qv,e0,-⟩:=hR.2.2.2.1.slice;rw[fa]at e0;subst e0;obtain⟨np,nS⟩:=qt (x.ps.length);obtain⟨nr,yJ⟩:=qt (kr.ps.length);obtain⟨nk,kJ⟩:=qt (aA.length);obtain⟨Ee,jI⟩:=qt (pl.length);obtain⟨BZ,jJ⟩:=qt (pr.length);obtain⟨nl,hnl⟩:=qt (kl.ps.length);have iA:=hO.2.2.2.2.1;have Uf:=hL.2.2.2.2.1;have Jm:=hR.2.2.2.2.1;rw[nS,kJ]at hO;rw[hnl,jI]at hL;rw[yJ,jJ]at hR;rw[nS,kJ,hnl,jI,yJ,jJ]at hB;have uG:=(hO.2.2.1.qW (i:=i) (by omega));have HA:=al (ab hO (ab hF (ab hL (ab Ki (ab hR (ab Qo (ab hl (ab hr (ab xN (ab xO (ab hs (ab hz (ab oL hdr)))))))))))));have HN:=al (show np=x.ps.length/\nr=kr.ps.length/\nk=aA.length/\Ee=pl.length/\BZ=pr.length/\nl=kl.ps.length/\kl.ps.length=m+1/\aA.length=x.ks.length/\pl.length=kl.ks.length/\pr.length=kr.ks.length/\i+1<x.ks.length/\x.ks.length=x.ps.length+1/\i1=i+1/\(d≠0->kl.ks.length=kl.ps.length+1)from⟨nS.symm,yJ.symm,kJ.symm,jI.symm,jJ.symm,hnl.symm,hm,iA,Uf,Jm,hi,hps,hi1,hkk⟩);have HB:=al hB;have HP:=al uG;obtain⟨⟨Jn,Xy⟩,-,-⟩:=af hB.ln.1;have j1:(i1:Int)-1=(i:Int):=by omega
 have j2:(0:Int)<=(i:Int):=by omega
 have j3:(i:Int)<(nk:Int):=by omega
 have j4:(i1:Int)<(nk:Int):=by omega
 have j5:(0:Int)<=(i1:Int):=by omega
 have j6:(i:Int)<(np:Int):=by omega
 have j7:(nl:Int)-1=(m:Int):=by omega
 have j8:(0:Int)<=(m:Int):=by omega
 have j9:(m:Int)<(nl:Int):=by omega
 have j10:nl<=900:=by omega
 obtain⟨j11,j12⟩:=Mk i (by omega);obtain⟨j13,j14⟩:=Mk m (by omega);have r2':w.cell? ⟨bk,ok+i1,none⟩=some (.pointer (some ⟨r,0,none⟩)):=by rw[hi1];exact r2
 clear r2 h hO hF hL Ki hR Qo hl hr xN xO hB hs hz hm nS yJ kJ jI jJ hnl iA Uf Jm uG hi1 Ed abg hkk oL hdr;go_enter func196,ntmps196;go_wp2_with fail;go_quiet(fail);go_upto_region 1 with fail;have jV:Below w.heap.size w (w.drewN nq):=aG (aw _ _) nq;generalize w.drewN nq=wq at jV⊢;have Ug:=(jV.cell (aq _ _ s0)).x s0;have Uh:=(jV.cell (aq _ _ s1)).x s1;have HB:=al (HB.o.below jV);clear Jn Xy r1 r2' s0 s1 jV;obtain⟨⟨cl0,-⟩,-,-⟩:=af HB.o.fI.1;go_upto_region 2 with fail;clear cl0;obtain⟨⟨Jn,-⟩,-,-⟩:=af HB.o.ln.1;have tS:=ab Jn (ab Ug Uh);clear Jn Ug Uh;refine o0 (S:=(fun W=>W.cell? ⟨a,0,none⟩=some (.slice (some ⟨bn,on,none⟩) np cn)/\W.cell? ⟨bn,on+i*2,none⟩=some (.string ⟨s.1.toArray⟩)/\W.cell? ⟨bn,on+i*2+1,none⟩=some (.string ⟨s.2.toArray⟩))) (by kernel_rfl) tS (fun ph=>?_);generalize hW3:World.drew wq=W3 at ph⊢;have HB:=al (HB.o.below (w1:=W3) (hW3▸(aw _ _).drew));clear hW3 tS;refine aI [0,1,2,3,5,6,7,8,9,10,11,12] ?_
 iterate 12 (refine bO (v:=?_) (fun _ ⟨s0,s1,s2⟩=>?_) ph ?_;rotate_left;(go_simp;try rfl);try simp only[ai,aj,ak,ar])
 refine aJ ?_;refine pf (rs:=[4,13]) (by kernel_rfl) (by simp) (bE (i:=4) rfl (fun K hK=>?_) (bE (i:=13) rfl (fun K hK=>?_) oT))
 focus
  obtain⟨⟨r6,-⟩,-,-⟩:=af HB.o.gV.1;go_simp;refine hK.o _ _ (ph) ?_;clear hK K ph r6;intro ph
  try simp only[ai,aj,ak,ar]
  refine aW 13 (fun K hK=>?_);go_simp;refine hK.o _ _ (tJ ph (ae _ _)) ?_;clear hK K ph;intro ph
  try simp only[ai,aj,ak,ar]
  obtain⟨bV,kV⟩:=qn W3 (.cells #[.string ⟨s.1.toArray⟩,.string ⟨s.2.toArray⟩] 195);have hvb: ∀q,¬Hr 1 W3.heap.size q:=fun q hh=>Nat.lt_irrefl _ (HB.o.Yl hh);generalize W3.alloc (.cells #[.string ⟨s.1.toArray⟩,.string ⟨s.2.toArray⟩] 195)=W5 at kV bV ph⊢;obtain⟨VB,ib⟩:=qt (W3.heap.size);rw[ib]at kV hvb⊢;have HV:=al (ab kV hvb);have HB:=al (HB.o.below bV);clear kV bV ib hvb
 rotate_left
 focus
  go_simp;refine hK.o _ _ (tJ ph (ae _ _)) ?_;clear hK K ph;intro ph
  try simp only[ai,aj,ak,ar]
  obtain⟨bV,kV⟩:=qn W3 (.cells #[.string ⟨s.1.toArray⟩,.string ⟨s.2.toArray⟩] 195);have hvb: ∀q,¬Hr 1 W3.heap.size q:=fun q hh=>Nat.lt_irrefl _ (HB.o.Yl hh);generalize W3.alloc (.cells #[.string ⟨s.1.toArray⟩,.string ⟨s.2.toArray⟩] 195)=W5 at kV bV ph⊢;obtain⟨VB,ib⟩:=qt (W3.heap.size);rw[ib]at kV hvb⊢;have HV:=al (ab kV hvb);have HB:=al (HB.o.below bV);clear kV bV ib hvb;refine aW 4 (fun K hK=>?_);obtain⟨⟨r6,-⟩,-,-⟩:=af HB.o.gV.1;go_simp;refine hK.o _ _ (ph) ?_;clear hK K ph r6;intro ph
  try simp only[ai,aj,ak,ar]
 all_goals
  refine aW 14 (fun K hK=>?_);go_simp;refine(jd W5 (Hr 1) _ (kr.ps.map av) 0 _ rfl (av s) VB HB.o.gV.2.1 (dq _) (by rw[fa];omega) (by rfl) (by simp[av,Value.oneCell']) (dO _) HV.o.1 HV.o.2).m ?_;rintro e wn ⟨v6,rfl,cj,fe⟩;rw[eO]at cj;simp only[kd,fs,List.drop_zero]at cj;obtain⟨A6,c6,fL,-⟩:=cj.slice;obtain⟨n6,fB⟩:=qt (((s::kr.ps).map av).length);rw[fB]at fL;subst fL;clear fB;have H6:=al (ab cj fe);clear cj fe
  try go_simp
  refine hK.o _ _ (ic ph H6.o.2 (fun hh=>HB.o.Yk hh rfl) (fun hh=>HB.o.uy HP.o.1 hh) (fun hh=>HB.o.uy HP.o.2 hh)) ?_;clear hK K ph;intro ph
  try simp only[ai,aj,ak,ar]
  refine aI [15,16] ?_
  iterate 2 (refine bO (v:=?_) (fun _ ⟨s0,s1,s2⟩=>?_) ph ?_;rotate_left;(go_simp;try rfl);try simp only[ai,aj,ak,ar])
  refine aJ ?_;refine aW 17 (fun K hK=>?_);obtain⟨⟨r6,-⟩,rf,-⟩:=af (H6.o.2.heap HB.o.gV.1 (fun q hh=>HB.o.Rb hh rfl));go_simp;refine hK.o _ _ (ic ph (OnlyC.aN _ r 0 _) (fun e=>HB.o.e02 e.1) (fun e=>HB.o.Kh HP.o.1 e.1) (fun e=>HB.o.Kh HP.o.2 e.1)) ?_;clear hK K ph r6 rf;intro ph
  try simp only[ai,aj,ak,ar]
  refine pb (by kernel_rfl) ?_ _;have eV:=HB.o.p2 (aw _ _) H6.o.2 H6.o.1;clear ph;generalize wn.setCell ⟨r,0,none⟩ (.slice A6 n6 c6)=w7 at eV⊢;have HB:=al eV;clear eV HV H6;obtain⟨c3,c4⟩:=(HB.o.fI.2.1.kK HA.o.q.q.t.1).1;obtain⟨⟨c1,-⟩,-,-⟩:=af HB.o.ln.1;obtain⟨⟨c2,-⟩,-,-⟩:=af HB.o.fI.1;have tS:=ab c1 (ab c2 (ab c3 c4));clear c1 c2 c3 c4;have HZ:=al (HB.o.fI.2.1.qW (i:=m) (by have:=HN.o.q.d.1;omega));go_upto_region 3 with fail;refine o0 (S:=(fun W=>W.cell? ⟨a,0,none⟩=some (.slice (some ⟨bn,on,none⟩) np cn)/\W.cell? ⟨l,0,none⟩=some (.slice (some ⟨bl,ol,none⟩) nl cl)/\W.cell? ⟨bl,ol+m*2,none⟩=some (.string ⟨z.1.toArray⟩)/\W.cell? ⟨bl,ol+m*2+1,none⟩=some (.string ⟨z.2.toArray⟩))) (by kernel_rfl) tS (fun ph=>?_);generalize hW3:World.drew w7=W3 at ph⊢;have HB:=al (HB.o.below (w1:=W3) (hW3▸(aw _ _).drew));clear hW3 tS;refine aI [0,1,2,3,4,5,6,7,8,9,10,11,12,13] ?_
  iterate 14 (refine bO (v:=?_) (fun _ ⟨s0,s1,s2,s3⟩=>?_) ph ?_;rotate_left;(go_simp;try rfl);try simp only[ai,aj,ak,ar])
  refine aJ ?_;refine aW 14 (fun K hK=>?_);obtain⟨⟨c5,c6⟩,f5,f6⟩:=HB.o.ln.2.1.kK HA.o.q.q.d.1;go_simp;refine hK.o _ _ (xM ph (HB.o.ln.2.1.fF (i:=i) z.1 z.2 (by have:=HN.o.q.q.d.1;have:=HN.o.q.q.t.1;omega)).2 (fun hh=>HB.o.Kg hh rfl) (fun hh=>HB.o.yO hh rfl) (fun hh=>HB.o.oh hh HZ.o.1) (fun hh=>HB.o.oh hh HZ.o.2)) ?_;clear hK K ph c5 c6 f5 f6;intro ph
  try simp only[ai,aj,ak,ar]
  refine pb (by kernel_rfl) ?_ _;have Gt:=HB.o.i0 (HB.o.ln.2.1.fF (i:=i) z.1 z.2 (by have:=HN.o.q.q.d.1;have:=HN.o.q.q.t.1;omega)).2 (HB.o.ln.2.1.fF (i:=i) z.1 z.2 (by have:=HN.o.q.q.d.1;have:=HN.o.q.q.t.1;omega)).1;clear ph;generalize (W3.setCell ⟨bn,on+i*2,none⟩ (.string ⟨z.1.toArray⟩)).setCell ⟨bn,on+i*2+1,none⟩ (.string ⟨z.2.toArray⟩)=w8 at Gt⊢;have HB:=al Gt;clear Gt HZ;obtain⟨⟨c2,-⟩,-,-⟩:=af HB.o.fI.1;go_wp2_with fail;refine(lG w8 (Hl 1) _ (kl.ps.map av) m _ _ rfl (by simp) HB.o.fI.2.1 (by rw[fa];have:=HN.o.q.d.1;omega) (by rw[fa];omega) (dO _)).m ?_;rintro e w9 ⟨v9,rfl,cK,eB⟩;rw[<-me,<-lk,<-gk]at cK;have Ef:kl.ps.drop (m+1)=[]:=eS (by have:=HN.o.q.d.1;omega);rw[Ef,gn]at cK;obtain⟨A9,c9,gw,-⟩:=cK.slice;obtain⟨n9,fU⟩:=qt (((kl.ps.take m).map av).length);rw[fU]at gw;subst gw;clear fU Ef c2;have H9:=al (ab cK eB);clear cK eB;obtain⟨⟨c2,-⟩,f2,-⟩:=af (H9.o.2.heap HB.o.fI.1 (fun q hh=>HB.o.Dq hh rfl));go_upto_region 5 with fail;clear c2 f2;have hB4:=HB.o.p1 (aw _ _) H9.o.2 (H9.o.1.m (fun b q hh=>.inl hh));generalize w9.setCell ⟨l,0,none⟩ (.slice A9 n9 c9)=wA at hB4⊢;have HB:=al hB4;clear hB4 H9;obtain⟨⟨-,c2⟩,-,-⟩:=af HB.o.fI.1;by_cases hd:d=0
  ·subst hd;have e1:kl.ks=[]:=HA.o.q.q.q.1 rfl;have e2:kr.ks=[]:=HA.o.q.q.q.2 rfl;have eQ:Ee=0:=by rw[HN.o.t.1,HN.o.q.q.1,e1];rfl
   subst eQ;have jy:=al (dZ wA l Ue Al c2);have HE:=al (ab e1 e2);clear c2 e1 e2;go_wp2_with fail;refine jy.o.m ?_;rintro e wZ ⟨rfl,Gu⟩;subst Gu;go_wp2_with fail
   first|refine eC (du rfl _ _ _) rfl ?_|refine dr (du rfl _ _ _) rfl ?_
   obtain⟨e1,e2⟩:=HE.o;have hE:=gI HA.o.1 HA.o.2.1 (by have:=HN.o.q.q.d.1;omega) HA.o.d.1 HA.o.t.1 HA.o.q.1 HA.o.q.2.1 HB.o 0 0 (aE _) (dq _) [] (fun _ _ _=>False) 0 0 (aE _) (dq _) [] (fun _ _ _=>False) rfl HA.o.q.d.1 HA.o.q.t.1 (by simp) (by simp) (fun _ _ _ h=>h.elim) (fun _ _ _ h=>h.elim) (fun _ _ _ _ h=>h.elim) (fun _ _ _ _ h=>h.elim) (fun m p k hm=>by simp at hm) (fun m p k hm=>by simp at hm) (by simp[e1]) (by simp[e2]);rw[D9 HN.o.q.d.1 HA.o.q.q.t.1];refine⟨rfl,?_,hE.2⟩;have h1:=hE.1;simp only[e1,e2,List.take_nil,List.drop_nil,kc,gn]at h1;exact h1
  ·have hkk:=HN.o.q.q.q.2 hd;obtain⟨m1,jo⟩:=qS (m+1);have xP:pl.length=m1+1:=by have:=HN.o.q.q.1;have:=HN.o.q.d.1;omega
   obtain⟨p0,hp0⟩: ∃p,pl[m1]?=some p:=⟨_,ao (by omega)⟩;obtain⟨k0,eQ⟩: ∃p,kl.ks[m1]?=some p:=⟨_,ao (by have:=HN.o.q.q.1;omega)⟩;have B0:=HB.o;obtain⟨Y5,Y6,abh,e0,-,-,-⟩:=B0.fI.2.2.ptr hp0;simp only[ie]at e0;obtain⟨rfl,-,rfl⟩:=e0;have jI:Ee=m1+1:=by rw[HN.o.t.1];exact xP
   have jy:=al (fq wA l Ee Ue _ (by omega) c2);have HB:=al B0;have HM:=al (ab jo (ab xP (ab hp0 (ab eQ (ab hkk (ab jI (B0.fI.2.2.Eb (i:=m1) (by omega))))))));have q1:(m:Int)+1=(m1:Int):=by omega
   have q2:m1<=901:=by have:=HN.o.q.d.1;omega
   obtain⟨q3,q4⟩:=Mk m1 (by omega);have q5:(0:Int)<=(m1:Int):=by omega
   have q6:(m1:Int)<(Ee:Int):=by omega
   have q7:Ee<=902:=by omega
   clear B0 jo xP hp0 eQ hkk jI hd c2;go_wp2_with fail;refine jy.o.m ?_;rintro e wZ ⟨rfl,Gu⟩;subst Gu;clear jy;obtain⟨⟨-,c1⟩,-,-⟩:=af HB.o.fI.1;have tS:=ab c1 (HB.o.fI.2.2.Ea HM.o.d.1);clear c1;go_upto_region 6 with fail;refine o0 (S:=(fun W=>W.cell? ⟨l,1,none⟩=some (.slice (some ⟨Y5,Y6,none⟩) Ee Ue)/\W.cell? ⟨Y5,Y6+m1,none⟩=some (.pointer (some ⟨p0,0,none⟩)))) (by kernel_rfl) tS (fun ph=>?_);generalize hW3:World.drew wA=W3 at ph⊢;have HB:=al (HB.o.below (w1:=W3) (hW3▸(aw _ _).drew));clear hW3 tS;refine aI [0,1,2,3,5,6,7,8,9,10,11,12] ?_
   iterate 12 (refine bO (v:=?_) (fun _ ⟨s0,s1⟩=>?_) ph ?_;rotate_left;(go_simp;try rfl);try simp only[ai,aj,ak,ar])
   refine aJ ?_;refine pf (rs:=[4,13]) (by kernel_rfl) (by simp) (bE (i:=4) rfl (fun K hK=>?_) (bE (i:=13) rfl (fun K hK=>?_) oT))
   focus
    obtain⟨⟨-,r6⟩,-,-⟩:=af HB.o.gV.1;go_simp;refine hK.o _ _ (ph) ?_;clear hK K ph r6;intro ph
    try simp only[ai,aj,ak,ar]
    refine aW 13 (fun K hK=>?_);go_simp;refine hK.o _ _ (lU ph (ae _ _)) ?_;clear hK K ph;intro ph
    try simp only[ai,aj,ak,ar]
    obtain⟨bV,kV⟩:=qn W3 (.cells #[.pointer (some ⟨p0,0,none⟩)] 181);have hvb: ∀q,¬Hr 2 W3.heap.size q:=fun q hh=>Nat.lt_irrefl _ (HB.o.Rc hh);generalize W3.alloc (.cells #[.pointer (some ⟨p0,0,none⟩)] 181)=W5 at kV bV ph⊢;obtain⟨VB,ib⟩:=qt (W3.heap.size);rw[ib]at kV hvb⊢;have HV:=al (ab kV hvb);have HB:=al (HB.o.below bV);clear kV bV ib hvb
   rotate_left
   focus
    go_simp;refine hK.o _ _ (lU ph (ae _ _)) ?_;clear hK K ph;intro ph
    try simp only[ai,aj,ak,ar]
    obtain⟨bV,kV⟩:=qn W3 (.cells #[.pointer (some ⟨p0,0,none⟩)] 181);have hvb: ∀q,¬Hr 2 W3.heap.size q:=fun q hh=>Nat.lt_irrefl _ (HB.o.Rc hh);generalize W3.alloc (.cells #[.pointer (some ⟨p0,0,none⟩)] 181)=W5 at kV bV ph⊢;obtain⟨VB,ib⟩:=qt (W3.heap.size);rw[ib]at kV hvb⊢;have HV:=al (ab kV hvb);have HB:=al (HB.o.below bV);clear kV bV ib hvb;refine aW 4 (fun K hK=>?_);obtain⟨⟨-,r6⟩,-,-⟩:=af HB.o.gV.1;go_simp;refine hK.o _ _ (ph) ?_;clear hK K ph r6;intro ph
    try simp only[ai,aj,ak,ar]
   all_goals
    refine aW 14 (fun K hK=>?_);go_simp;refine(je W5 (Hr 2) _ (pr.map aP) 0 _ rfl (aP p0) VB HB.o.gV.2.2 (dq _) (by rw[fa];have:=HN.o.q.q.2.1;omega) (by rfl) (by simp[aP,Value.oneCell']) (ct _) HV.o.1 HV.o.2).m ?_;rintro e wn ⟨v6,rfl,cj,fe⟩;rw[eO]at cj;simp only[kd,fs,List.drop_zero]at cj;obtain⟨A7,c7,fL,-⟩:=cj.slice;obtain⟨n7,fB⟩:=qt (((p0::pr).map aP).length);rw[fB]at fL;subst fL;clear fB;have H6:=al (ab cj fe);clear cj fe
    try go_simp
    refine hK.o _ _ (dK ph H6.o.2 (fun hh=>HB.o.Dr hh rfl) (fun hh=>HB.o.uz HM.o.q.d hh)) ?_;clear hK K ph;intro ph
    try simp only[ai,aj,ak,ar]
    refine aI [15,16] ?_
    iterate 2 (refine bO (v:=?_) (fun _ ⟨s0,s1⟩=>?_) ph ?_;rotate_left;(go_simp;try rfl);try simp only[ai,aj,ak,ar])
    refine aJ ?_;refine aW 17 (fun K hK=>?_);obtain⟨⟨-,r6⟩,-,rf⟩:=af (H6.o.2.heap HB.o.gV.1 (fun q hh=>HB.o.Ds hh rfl));go_simp;refine hK.o _ _ (dK ph (OnlyC.aN _ r 1 _) (fun e=>HB.o.e12 e.1) (fun e=>HB.o.yQ HM.o.q.d e.1)) ?_;clear hK K ph r6 rf;intro ph
    try simp only[ai,aj,ak,ar]
    refine pb (by kernel_rfl) ?_ _;have eV:=HB.o.k2 (aw _ _) H6.o.2 H6.o.1;clear ph;generalize wn.setCell ⟨r,1,none⟩ (.slice A7 n7 c7)=wB at eV⊢;have HB:=al eV;clear eV HV H6;obtain⟨⟨-,c2⟩,-,-⟩:=af HB.o.fI.1;go_wp2_with fail;refine(iZ wB (Hl 2) _ (pl.map aP) m1 _ _ (by simp) (by omega) HB.o.fI.2.2 (by rw[fa];have:=HM.o.2.1;omega) (by rw[fa];have:=HM.o.2.1;omega) (ct _)).m ?_;rintro e w9 ⟨v9,rfl,cK,eB⟩;rw[<-me,<-lk,<-gk]at cK;obtain⟨A8,c8,gw,-⟩:=cK.slice;obtain⟨n8,fU⟩:=qt (((pl.take m1++pl.drop (m1+1)).map aP).length);rw[fU]at gw;subst gw;clear fU c2;have H9:=al (ab cK eB);clear cK eB;obtain⟨⟨-,c2⟩,-,f2⟩:=af (H9.o.2.heap HB.o.fI.1 (fun q hh=>HB.o.yP hh rfl));go_wp2_with fail
    first|refine eC (du rfl _ _ _) rfl ?_|refine dr (du rfl _ _ _) rfl ?_
    have Ca:=HB.o.k1 (aw _ _) H9.o.2 (H9.o.1.m (fun b q hh=>.inl hh));obtain⟨jo,xP,hp0,eQ,hkk,jI,-⟩:=HM.o;have hlk:kl.ks.length=m1+1:=by rw[hkk,HN.o.q.d.1,jo]
    have hsub:b7 w d p0 k0 (Hl (m1+3)):=(HA.o.d.1).2.2.2.2.2.1 m1 p0 k0 hp0 eQ
    have hE:=gI HA.o.1 HA.o.2.1 (by have:=HN.o.q.q.d.1;omega) HA.o.d.1 HA.o.t.1 HA.o.q.1 HA.o.q.2.1 Ca m1 (m1+1) (by omega) (by omega) [] (fun _ _ _=>False) 0 0 (aE _) (dq _) [(p0,k0)] (rI (Hl (m1+3)) (fun _ _=>False)) rfl HA.o.q.d.1 HA.o.q.t.1 (by simp) (by simp) (fun _ _ _ h=>h.elim) (fun mm b q h=>match mm,h with|0,h=>⟨m1,aE _,by omega,h⟩|1,h=>h.elim|_+2,h=>h.elim) (fun _ _ _ _ h=>h.elim)
     (fun mm Gv b q h1 h2=>by
      match mm,h1,Gv,h2 with
      |0,_,0,_=>rfl
      |1,h1,_,_=>exact h1.elim
      |_+2,h1,_,_=>exact h1.elim
      |0,_,1,h2=>exact h2.elim
      |0,_,_+2,h2=>exact h2.elim)
     (fun mm p k hm=>by simp at hm)
     (fun mm p k hm=>by
      match mm,hm with
      |0,hm=>simp only[im,fl,mc]at hm;obtain⟨rfl,rfl⟩:=hm;exact hsub
      |mm+1,hm=>simp at hm)
     (fun e=>by have h1:=HA.o.q.q.q.1 e;rw[h1]at hlk;simp at hlk) (fun e=>by have h1:=HA.o.q.q.q.1 e;rw[h1]at hlk;simp at hlk)
    have hd0:d≠0:=fun e=>by have h1:=HA.o.q.q.q.1 e;rw[h1]at hlk;simp at hlk
    rw[rV hd0 HN.o.q.d.1 HA.o.q.q.t.1 (by rw[hlk,jo]) (jo▸eQ)];refine⟨rfl,?_,hE.2⟩;have h1:=hE.1;have Gx:kl.ks.drop (m1+1)=[]:=eS (by omega);simp only[Gx,kd,List.drop_zero,kc,lp,gn,fs,oe]at h1;rw[jo]at h1;exact h1
end Go.Proofs.YtmkofmeojbcakaaGreatDoor
