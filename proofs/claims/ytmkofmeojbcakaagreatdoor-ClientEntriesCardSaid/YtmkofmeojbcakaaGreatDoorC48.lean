import Derived.Test.YtmkofmeojbcakaaGreatDoorC30
import Derived.Test.YtmkofmeojbcakaaGreatDoorC33
import Derived.Test.YtmkofmeojbcakaaGreatDoorC46
import Derived.Test.YtmkofmeojbcakaaGreatDoorC47
namespace Go.Proofs.YtmkofmeojbcakaaGreatDoor
open Go.Proofs.Tryz
set_option maxRecDepth 100000
set_option maxHeartbeats 16000000
open Go.RowKit
section
open Go.RowKit Go.Maps Go.WideShapes
theorem fX{P:Program}{fn:Func}{p u x:Tmp}{ty:TypeId}(h:fn.results= #[.tmp u,.cell p ty,.tmp x])(tmps:Array Value)(w:World)(g:Nat)(t:TypeId)(cs:Array Value)(fr:Nat×Nat)(d:TypeDesc)
  (hp:tmps.getD p undef=.pointer (some ⟨g,0,none⟩)) (hg:w.heap[g]?=some (.cells cs t fr))
  (hu:P.underlying ty=some d) (hd:(match d with| .struct _| .array _ _=>true|_=>false)=true) (hi:(P.info? ty).map (·.size)=some cs.size):
  (results fn tmps).run P w=.ok (.tuple #[tmps.getD u undef,.agg cs,tmps.getD x undef]) w:=by
 have hp':tmps[p]?.getD undef=.pointer (some ⟨g,0,none⟩):=by simpa using hp
 simp only[results,h];simp[Result.andThen,hp',asAddr,run_loadVar_row w g t ty cs fr d hg hu hd hi]
def ab8(w:World)(xs:List Ln)(most tries:Int)(ops:List aO)(args:List Int)(e:Ending)(w':World):Prop:=
 ∃(pc:Option Addr) (A0:Option Addr) (m0 k0:Nat) (A1:Option Addr) (m1 k1:Nat) (p2 p3:Option Addr) (b:Bool),e=.returned (.tuple #[.pointer pc,.agg #[.slice A0 m0 k0,.slice A1 m1 k1,.pointer p2,.pointer p3],.bool b])/\Below w.heap.size w w'/\(b=true-> ∃R m L T FT l,pc=some ⟨R,0,none⟩/\p2=some ⟨T,0,none⟩/\p3=some ⟨L,0,none⟩/\
  eP xs most=some l/\Xd ops args 0/\w.heap.size<=L/\L<m/\m<R/\zw w' L/\CE w' R L 100 tries m/\cd w' T most 3 l FT/\ ∀b q,FT b q->w.heap.size<=b/\b<L)
theorem Qk(w:World)(F:Nat->Prop)(vo va v:Value)(ops:List aO)(args:List Int)(xs:List Ln)(most tries:Int)(ho:gu w F vo ops)(ha:Rd w F va (jc args))(hv:Ff w F v xs):
  Calls prog 4 #[vo,va,.agg #[v,.int .i64 most],.int .i64 tries] w (ab8 w xs most tries ops args):=by
 obtain⟨A,c,rfl,-,-⟩:=yF hv;obtain⟨Aa,ca,rfl,-⟩:=pH ha;obtain⟨Ao,co,rfl,-,-⟩:=ho.slice;have HV:=al (ab ho (ab ha hv));obtain⟨N,hN⟩:=qt (xs.length);obtain⟨Na,XX⟩:=qt (args.length);obtain⟨No,XY⟩:=qt (ops.length);rw[hN,XX,XY]at HV⊢;obtain⟨hb0,k0⟩:=qn w (.cells #[.slice A N c,.int .i64 most] 26);obtain⟨hb1,k1⟩:=qn (w.alloc (.cells #[.slice A N c,.int .i64 most] 26)) (.cells #[.slice none 0 0,.slice none 0 0,.pointer none,.pointer none] 34);rw[show(w.alloc (.cells #[.slice A N c,.int .i64 most] 26)).heap.size=w.heap.size+1 by simp]at k1;have H0:=al (ab (hb0.x (hb1.m hb0.size)) (ab (pt hb1 k0) k1));clear hb0 k0 hb1 k1 ho ha hv hN XX XY;go_enter func4,ntmps4;go_upto_region 1 with fail;have H1:=H0.o;clear H0;generalize (w.alloc (.cells #[.slice A N c,.int .i64 most] 26)).alloc (.cells #[.slice none 0 0,.slice none 0 0,.pointer none,.pointer none] 34)=w1 at H1⊢;obtain⟨hb1,kx,ky⟩:=H1;obtain⟨X,hX⟩:=qt (w.heap.size);rw[hX]at kx ky⊢;obtain⟨Y,hY⟩:=qt (X+1);rw[hY]at ky⊢;have HX:=al (show w.heap.size=X/\X<Y from⟨hX,by omega⟩);clear hX hY;have x0:w1.cell? ⟨X,0,none⟩=some (.slice A N c):=by simp[World.cell?,kx]
 have x1:w1.cell? ⟨X,1,none⟩=some (.int .i64 most):=by simp[World.cell?,kx]
 have H1:=al (ab hb1 ky);clear hb1 kx ky;go_wp2_with fail;refine(Ix w1 F _ xs most (aS.below HV.o.d H1.o.1)).m ?_;rintro e w2 ⟨hb2,hnone,hsome⟩;have H2:=al (ab (H1.o.1.x (hb2.m H1.o.1.size)) (pt hb2 H1.o.2));have HYl:=al (ab (bd.1 H1.o.2).1 H1.o.1.size);clear hb2 x0 x1 H1
 cases hts:eP xs most with
 |none=>obtain rfl:=hnone hts;clear hnone hsome;obtain⟨⟨y0,y1,y2,y3⟩,z0,z1,z2,z3⟩:=cL H2.o.2;go_wp2_with fail;have hp:=b6 (v0:=.slice none 0 0) (v1:=.slice none 0 0) (v2:=.pointer none) (v3:=.pointer none) H2.o.2;refine dr (fX rfl _ _ _ _ _ _ _ rfl hp.1 underlying34 rfl (by kernel_rfl)) rfl ⟨_,_,_,_,_,_,_,_,_,_,rfl,H2.o.1.x (hp.2.aG H2.o.1.size (fun k hk e=>by have:=HX.o;omega)),fun h=>by cases h⟩
 |some l=>
  obtain⟨T,FT,rfl,hT,qi⟩:=hsome l hts;have HT:=al (ab hT (ab qi hts));clear hnone hsome hts hT qi;go_wp2_with fail;refine(Xe w2 F F _ _ ops args 0 (aS.below HV.o.1 H2.o.1) (HV.o.2.1.below H2.o.1)).m ?_;rintro e w3 ⟨b,rfl,tW,hb3⟩;have H3:=al (ab (H2.o.1.x (hb3.m H2.o.1.size)) (ab (pt hb3 H2.o.2) hb3));clear hb3
  cases b with
  |false=>clear tW;obtain⟨⟨y0,y1,y2,y3⟩,z0,z1,z2,z3⟩:=cL H3.o.2.1;go_wp2_with fail;have hp:=b6 (v0:=.slice none 0 0) (v1:=.slice none 0 0) (v2:=.pointer none) (v3:=.pointer none) H3.o.2.1;refine dr (fX rfl _ _ _ _ _ _ _ rfl hp.1 underlying34 rfl (by kernel_rfl)) rfl ⟨_,_,_,_,_,_,_,_,_,_,rfl,H3.o.1.x (hp.2.aG H3.o.1.size (fun k hk e=>by have:=HX.o;omega)),fun h=>by cases h⟩
  |true=>
   have HM:=al (tW rfl);clear tW;go_wp2_with fail;refine(yt w3).m ?_;rintro e w4 ⟨L,rfl,XT,hL,hb4⟩;have H4:=al (ab XT (ab hL (ab (H3.o.1.x (hb4.m H3.o.1.size)) hb4)));clear XT hL hb4;go_wp2_with fail;refine(l8 w4).m ?_;rintro e w5 ⟨rfl,fR⟩;have HC:=al (Bj w5 L 30 2 100 tries);unfold rK at HC⊢;obtain⟨n,hn⟩:=qt (ry 30 2 100 tries);rw[hn]at HC;clear hn;go_wp2_with fail;refine HC.o.m ?_;rintro e w6 ⟨fC,hok,hbad⟩;have Xg:=fR.x (fC.m fR.size);have aaJ:=H4.o.t.x (Xg.m H4.o.t.size);have Ib:=H3.o.d.x (aaJ.m H3.o.d.size);have H6:=al (ab (H2.o.1.x (Ib.m H2.o.1.size)) (ab (pt Ib H2.o.2) (ab (zw.below H4.o.2.1 Xg) (ab (HT.o.1.below Ib) fR.size))));clear HC fC Xg aaJ Ib fR;obtain⟨⟨y0,y1,y2,y3⟩,z0,z1,z2,z3⟩:=cL H6.o.2.1;by_cases hn:n=0
   ·obtain⟨R,m,rfl,hm0,TM,hcl⟩:=hok hn;subst hn;have HE:=al (ab hm0 (ab TM hcl));clear hok hbad hm0 TM hcl;go_wp2_with fail;have hp:=b6 (v0:=.slice Ao No co) (v1:=.slice Aa Na ca) (v2:=.pointer (some ⟨T,0,none⟩)) (v3:=.pointer (some ⟨L,0,none⟩)) H6.o.2.1;have hYl:Y<w2.heap.size:=(bd.1 H2.o.2).1;have hLl:=(bd.1 H4.o.2.1).1;have h5:=H6.o.q;have h23:=H3.o.d.size;have h0:=H4.o.1;have h1:=H2.o.1.size;obtain⟨h6,h7,h8⟩:=HE.o;refine dr (fX rfl _ _ _ _ _ _ _ rfl hp.1 underlying34 rfl (by kernel_rfl)) rfl ⟨_,_,_,_,_,_,_,_,_,_,rfl,H6.o.1.x (hp.2.aG H6.o.1.size (fun k hk e=>by have:=HX.o;omega)),fun _=>⟨R,m,L,T,FT,l,rfl,rfl,rfl,HT.o.d,HM.o,by omega,by omega,h7,hp.2.heap H6.o.d.1 (fun e=>by omega),⟨hp.2.heap h8.1 (fun e=>by omega),h8.2.only hp.2 (fun e=>by omega)⟩,H6.o.t.1.eJ hp.2 (fun b q hb e=>?_),fun b q hb=>?_⟩⟩
    ·have:=HT.o.2.1 b q hb;have:=HYl.o.1;omega
    ·have:=HT.o.2.1 b q hb;have:=HYl.o.2;exact⟨by omega,by omega⟩
   ·obtain rfl:=hbad hn;have g1:(n==0)=false:=by simpa using hn
    clear hok hbad hn;go_wp2_with fail;have hp:=b6 (v0:=.slice Ao No co) (v1:=.slice Aa Na ca) (v2:=.pointer (some ⟨T,0,none⟩)) (v3:=.pointer (some ⟨L,0,none⟩)) H6.o.2.1;refine dr (fX rfl _ _ _ _ _ _ _ rfl hp.1 underlying34 rfl (by kernel_rfl)) rfl ⟨_,_,_,_,_,_,_,_,_,_,rfl,H6.o.1.x (hp.2.aG H6.o.1.size (fun k hk e=>by have:=HX.o;omega)),fun h=>by cases h⟩
end
section
open Go.RowKit Go.Maps Go.WideShapes
theorem ni{e:FE}(h:jQ e=0)(hc:e.cls.length<=64):(kE (inside e)).length<=8192:=by
 have hg:=AX h;have h1:=vR (f:=ow) (m:=50) (l:=e.ops) (fun o _=>AU o)
 have h2:=vR (f:=kY) (m:=66) (l:=e.cls) (fun c hc'=>by
  have h3:=AV c;have h4:=Ok.vS (hg.clo c hc')
  omega)
 have h3:=eD [e.id,(e.ops.length:Int)];have h4:=eD [(e.args.length:Int)];have h5:=eD [(e.cls.length:Int)];have h6:=fN e.args;have h7:=hg.opl;have h8:=hg.arl;simp only[DK,inside,fb,fm,ix]at *;omega
theorem ab9{n:Nat}(h:n<=1000000):(Lit.int .i64 (n:Int)).wf=true:=by simp[Lit.wf,IntKind.min,IntKind.max,IntKind.signed,IntKind.bits];omega
theorem UK{n:Nat}(h:n<=1000000):keyOf prog 3 (.int .i64 (n:Int))=some (.int .i64 (n:Int)):=keyOf_int_mk underlying3 (ab9 h)
theorem dD.bound{w:World}{G:Nat->Prop}{e:FE}{vo va vc:Value}(h:dD w G e vo va vc):dD w (fun k=>G k/\k<w.heap.size) e vo va vc:=
 ⟨aS.bound h.1 (gm _) (by decide),h.2.1.bound,aS.bound h.2.2.1 (cO _) (by decide),h.2.2.2⟩
def aca(FL:Nat->Prop)(R L:Nat)(f tr:Int)(m b0 Q n:Nat)(qs:List Nat)(ops:List aO)(args:List Int)(cl:List Cl)(vo va:Value)(ps:List (List UInt8))(w:World)(x:Ending)(w':World):Prop:=
 x=.returned (.tuple #[.int .i64 (ps.length:Int),.int .i64 0])/\ ∃g c FL',lC w' R L f tr m b0 qs/\w'.heap[Q]?=some (pE vo va 2 (.slice (some ⟨g,0,none⟩) 1 c) 0 0)/\w'.cell? ⟨g,0,none⟩=some (.int .i64 (ps.length:Int))/\w.heap.size<=g/\
  bQ prog w' 3 m 1 (rS (fun _=>none) (.int .i64 (n:Int)) (some (.int .i64 (ps.length:Int))))/\fw w' FL' L (ps++[kE (inside ⟨(n:Int),ops,args,cl⟩)])/\Only (fun b=>FL b\/b=m\/b=Q) w w'
theorem J0{w:World}{FL F G:Nat->Prop}{R L m b0 Q T o n:Nat}{f tr most:Int}{qs:List Nat}{l:ax}{FT:Nat->Nat->Prop}(ops:List aO)(args:List Int){A1 A2:Option Addr}{c1 c2:Nat}(ps:List (List UInt8))
  (h:lC w R L f tr m b0 qs) (hi:qs[n]?=some Q) (hn:n<=1000) (hq:w.heap[Q]?=some (pE (.slice A1 ops.length c1) (.slice A2 args.length c2) 1 (.slice none 0 0) 0 0)) (hm:bQ prog w 3 m 0 (fun _=>none)) (hL:fw w FL L ps) (hps:ps.length<=1000) (aaK:kH w)
  (hap: ¬FL R/\ ¬FL m/\ ¬FL Q/\m≠R/\m≠Q/\R≠Q/\m<b0/\ ∀k,FL k->k<b0) (hof: ∀o∈ops,o.fits)
  (lh:gu w G (.slice A1 ops.length c1) ops) (hG: ∀k,G k->k<w.heap.size) (he:opsE ops=0) (hs:gS w) (hargs:Rd w F (.slice A2 args.length c2) (jc args)) (hal:args.length<=8) (har: ∀n∈args,-1099511627776<=n/\n<=1099511627776)
  (lj:0<=f/\f<=10000) (ht:cd w T most o l FT) (hF: ∀b q,FT b q->b<w.heap.size) (hok:dH l) (h10:gh w) (hE:oJ w):
  Calls prog 8 #[.pointer (some ⟨R,0,none⟩),.int .i64 (n:Int),.pointer (some ⟨T,0,none⟩)] w (aca FL R L f tr m b0 Q n qs ops args (aX (vw most f (fun _=>true) ops args l).1.cl) (.slice A1 ops.length c1) (.slice A2 args.length c2) ps w):=by
 obtain⟨i0,hi0,hz0,hz1,hz2⟩:=ep Tryz.UH;have jh:=al (ab hi0 (ab hz0 (ab hz1 hz2)));have H:=al h;have HI:=al hi;have HQ:=al hq;have HN:=al (ab hm (ab hL (ab hps (ab hs (ab aaK (ab hap hn))))));have XZ:=al (fun(W:World) (hb:Below w.heap.size w W)=>JW (w:=W) (n:Int) ops (.slice A1 ops.length c1) (.slice A2 args.length c2) args f ⟨by omega,by omega⟩ hof (aS.below lh hb) (fun k hk=>cq (hG k hk) hb.size) he (hs.below hb) (hargs.below hb) hal har lj (ht.below hb) (fun b q hq=>cq (hF b q hq) hb.size) hok (h10.below hb) (hE.below hb));have X0:=al (fun(cl:List Cl) (hg:Good cl) (h64:(aX cl).length<=64)=>iw (id:=(n:Int)) (l:=cl) ⟨by omega,by omega⟩ he hal har hg h64);clear hi0 hz0 hz1 hz2 h hi hq hm hL hps hs aaK hap hn hof lh hG he hargs hal har lj ht hF hok h10 hE;go_enter func8,ntmps8;go_wp2_with fail;refine(Qb w R L f tr m b0 qs H.o n Q HI.o).m ?_;rintro e w1 ⟨rfl,rfl⟩;obtain⟨bA,oA,cA,g1,-⟩:=H.o.at_ HI.o;obtain⟨⟨r0,r1,r2,r3,r4⟩,-⟩:=bq g1;obtain⟨⟨q0,q1,q2,q3,q4,q5⟩,-⟩:=fk HQ.o;have HZ:=al (ab q0 (ab q1 r1));clear g1 r0 r1 r2 r3 r4 q0 q1 q3 q4 q5;go_wp2_with fail;refine o0 (S:=(fun w'=>Below w.heap.size w w')) (by kernel_rfl) ((aw _ _).drew) (fun ph=>?_);refine aI [0,1,2,3] ?_
 iterate 4 (refine bO (v:=?_) (fun wS hSw=>?_) ph ?_;rotate_left;(go_simp;try rfl);try simp only[ai,aj,ak,ar])
 refine aJ ?_;refine dR 4 (v:=?_) (fun wS hSw=>?_) ph ?_;rotate_left
 ·have c0:=(hSw.cell (aq _ _ HZ.o.1)).x HZ.o.1;go_simp;try rfl
 try simp only[ai,aj,ak,ar]
 refine aI [5,6,7] ?_
 iterate 3 (refine bO (v:=?_) (fun wS hSw=>?_) ph ?_;rotate_left;(go_simp;try rfl);try simp only[ai,aj,ak,ar])
 refine aJ ?_;refine dR 8 (v:=?_) (fun wS hSw=>?_) ph ?_;rotate_left
 ·have c0:=(hSw.cell (aq _ _ HZ.o.2.1)).x HZ.o.2.1;go_simp;try rfl
 try simp only[ai,aj,ak,ar]
 refine aI [9,10,11,12] ?_
 iterate 4 (refine bO (v:=?_) (fun wS hSw=>?_) ph ?_;rotate_left;(go_simp;try rfl);try simp only[ai,aj,ak,ar])
 refine aJ ?_;refine dR 13 (v:=?_) (fun wS hSw=>?_) ph ?_;rotate_left
 ·have c0:=(hSw.cell (aq _ _ HZ.o.d)).x HZ.o.d;go_simp;try rfl
 try simp only[ai,aj,ak,ar]
 refine pf (rs:=[14,18]) (by kernel_rfl) (by simp) (bE (i:=14) rfl (fun K hK=>?_) (bE (i:=18) rfl (fun K hK=>?_) oT))
 focus
  go_simp;refine(XZ.o _ ph).m ?_;rintro e wn ⟨B1,d1,B2,d2,B3,d3,A4,d4,rfl,hE,iy,sN,aR⟩;obtain⟨p,hp⟩:=qt (vw most f (fun _=>true) ops args l);rw[hp]at hE iy sN⊢;obtain⟨cl,hcl⟩:=qt (aX p.1.cl);obtain⟨v1,hv1⟩:=qt (CJ p);obtain⟨s1,hs1⟩:=qt (p.1.steps);obtain⟨e1,yg⟩:=qt (p.2);have hz0:=X0.o p.1.cl sN iy;rw[hcl]at hE iy hz0⊢;rw[hv1,hs1,yg];have HW:=al (da ph.size aR.size);have HE:=al (ab (dD.mono (G':=fun _=>True) hE (fun _ _=>trivial)) (ab iy (ab hz0 (ab hp hcl))));clear hE iy sN hz0 hp hcl hv1 hs1 yg
  try go_simp
  refine hK.o _ _ (ph.x (aR.m ph.size)) ?_;clear hK K ph aR;intro ph
  try simp only[ai,aj,ak,ar]
  refine aI [15,16,17] ?_
  iterate 3 (refine bO (v:=?_) (fun wS hSw=>?_) ph ?_;rotate_left;(go_simp;try rfl);try simp only[ai,aj,ak,ar])
  refine aJ ?_;refine aW 18 (fun K hK=>?_);go_simp;refine hK.o _ _ (ph.x ((ae _ _).m ph.size)) ?_;clear hK K ph;intro ph
  try simp only[ai,aj,ak,ar]
  have HE:=al (ab (dD.below (dD.mono (G':=fun k=>k≠wn.heap.size) HE.o.1.bound (fun k hk e=>by have:=hk.2;omega)) (ae wn (.cells #[.int .i64 0,.slice none 0 0,.slice none 0 0,.slice none 0 0,.int .i64 0,.int .i64 0,.slice none 0 0,.int .i64 0] 52))) HE.o.2);have kp:(wn.alloc (.cells #[.int .i64 0,.slice none 0 0,.slice none 0 0,.slice none 0 0,.int .i64 0,.int .i64 0,.slice none 0 0,.int .i64 0] 52)).heap[wn.heap.size]?=_:=an wn (.cells #[.int .i64 0,.slice none 0 0,.slice none 0 0,.slice none 0 0,.int .i64 0,.int .i64 0,.slice none 0 0,.int .i64 0] 52);obtain⟨P,hP⟩:=qS (wn.heap.size);have yL:=al (show w.heap.size<=P by have:=HW.o;omega);rw[<-hP]at kp HE;rw[show(⟨wn.heap.size,0,none⟩:Addr)=⟨P,0,none⟩ by rw[hP]];generalize wn.alloc (.cells #[.int .i64 0,.slice none 0 0,.slice none 0 0,.slice none 0 0,.int .i64 0,.int .i64 0,.slice none 0 0,.int .i64 0] 52)=wn at kp ph HE⊢;have KP:=al kp;clear kp hP
 rotate_left
 focus
  go_simp;refine hK.o _ _ (ph.x ((ae _ _).m ph.size)) ?_;clear hK K ph;intro ph
  try simp only[ai,aj,ak,ar]
  have kp:((w.alloc (.cells #[.int .i64 0,.slice none 0 0,.slice none 0 0,.slice none 0 0,.int .i64 0,.int .i64 0,.slice none 0 0,.int .i64 0] 52)).drew).heap[w.heap.size]?=_:=an w (.cells #[.int .i64 0,.slice none 0 0,.slice none 0 0,.slice none 0 0,.int .i64 0,.int .i64 0,.slice none 0 0,.int .i64 0] 52);obtain⟨P,hP⟩:=qS (w.heap.size);have yL:=al (show w.heap.size<=P by omega);rw[<-hP]at kp;rw[show(⟨w.heap.size,0,none⟩:Addr)=⟨P,0,none⟩ by rw[hP]];generalize (w.alloc (.cells #[.int .i64 0,.slice none 0 0,.slice none 0 0,.slice none 0 0,.int .i64 0,.int .i64 0,.slice none 0 0,.int .i64 0] 52)).drew=wn at kp ph⊢;have KP:=al kp;clear kp hP;refine aW 14 (fun K hK=>?_);go_simp;refine(XZ.o _ ph).m ?_;rintro e wn ⟨B1,d1,B2,d2,B3,d3,A4,d4,rfl,hE,iy,sN,aR⟩;obtain⟨p,hp⟩:=qt (vw most f (fun _=>true) ops args l);rw[hp]at hE iy sN⊢;obtain⟨cl,hcl⟩:=qt (aX p.1.cl);obtain⟨v1,hv1⟩:=qt (CJ p);obtain⟨s1,hs1⟩:=qt (p.1.steps);obtain⟨e1,yg⟩:=qt (p.2);have hz0:=X0.o p.1.cl sN iy;rw[hcl]at hE iy hz0⊢;rw[hv1,hs1,yg];have HW:=al (da ph.size aR.size);have HE:=al (ab (dD.mono (G':=fun k=>k≠P) hE (fun k hk e=>by have:=aQ KP.o;omega)) (ab iy (ab hz0 (ab hp hcl))));clear hE iy sN hz0 hp hcl hv1 hs1 yg;have KP:=al (pt aR KP.o)
  try go_simp
  refine hK.o _ _ (ph.x (aR.m ph.size)) ?_;clear hK K ph aR;intro ph
  try simp only[ai,aj,ak,ar]
  refine aI [15,16,17] ?_
  iterate 3 (refine bO (v:=?_) (fun wS hSw=>?_) ph ?_;rotate_left;(go_simp;try rfl);try simp only[ai,aj,ak,ar])
  refine aJ ?_
 all_goals
  refine aW 19 (fun K hK=>?_);have kP:=KP.o;have y0:wn.frozen? ⟨P,0,none⟩=false:=by simp[World.frozen?,kP]
  have y1:wn.frozen? ⟨P,1,none⟩=false:=by simp[World.frozen?,kP]
  have y2:wn.frozen? ⟨P,2,none⟩=false:=by simp[World.frozen?,kP]
  have y3:wn.frozen? ⟨P,3,none⟩=false:=by simp[World.frozen?,kP]
  have y4:wn.frozen? ⟨P,4,none⟩=false:=by simp[World.frozen?,kP]
  have y5:wn.frozen? ⟨P,5,none⟩=false:=by simp[World.frozen?,kP]
  have y6:wn.frozen? ⟨P,6,none⟩=false:=by simp[World.frozen?,kP]
  have y7:wn.frozen? ⟨P,7,none⟩=false:=by simp[World.frozen?,kP]
  have x0:wn.cell? ⟨P,0,none⟩=some (.int .i64 0):=by simp[World.cell?,kP]
  have x1:wn.cell? ⟨P,1,none⟩=some (.slice none 0 0):=by simp[World.cell?,kP]
  have x2:wn.cell? ⟨P,2,none⟩=some (.slice none 0 0):=by simp[World.cell?,kP]
  have x3:wn.cell? ⟨P,3,none⟩=some (.slice none 0 0):=by simp[World.cell?,kP]
  have x4:wn.cell? ⟨P,4,none⟩=some (.int .i64 0):=by simp[World.cell?,kP]
  have x5:wn.cell? ⟨P,5,none⟩=some (.int .i64 0):=by simp[World.cell?,kP]
  have x6:wn.cell? ⟨P,6,none⟩=some (.slice none 0 0):=by simp[World.cell?,kP]
  have x7:wn.cell? ⟨P,7,none⟩=some (.int .i64 0):=by simp[World.cell?,kP]
  have fH:=yL.o;go_simp;refine hK.o _ _ (((((((((ph.setCell (p:=⟨P,0,none⟩) fH _).setCell (p:=⟨P,1,none⟩) fH _).setCell (p:=⟨P,2,none⟩) fH _).setCell (p:=⟨P,3,none⟩) fH _).setCell (p:=⟨P,4,none⟩) fH _).setCell (p:=⟨P,5,none⟩) fH _).setCell (p:=⟨P,6,none⟩) fH _).setCell (p:=⟨P,7,none⟩) fH _)) ?_;clear hK K ph y0 x0 y1 x1 y2 x2 y3 x3 y4 x4 y5 x5 y6 x6 y7 x7 kP fH;intro ph
  try simp only[ai,aj,ak,ar]
  have kp:=sJ (v0:=.int .i64 (n:Int)) (v1:=.slice B1 ops.length d1) (v2:=.slice B2 args.length d2) (v3:=.slice B3 cl.length d3) (v4:=.int .i64 v1) (v5:=.int .i64 s1) (v6:=.slice A4 cl.length d4) (v7:=.int .i64 e1) KP.o;have yM:=og wn P (.int .i64 (n:Int)) (.slice B1 ops.length d1) (.slice B2 args.length d2) (.slice B3 cl.length d3) (.int .i64 v1) (.int .i64 s1) (.slice A4 cl.length d4) (.int .i64 e1);generalize ((((((((wn.setCell ⟨P,0,none⟩ (.int .i64 (n:Int))).setCell ⟨P,1,none⟩ (.slice B1 ops.length d1)).setCell ⟨P,2,none⟩ (.slice B2 args.length d2)).setCell ⟨P,3,none⟩ (.slice B3 cl.length d3)).setCell ⟨P,4,none⟩ (.int .i64 v1)).setCell ⟨P,5,none⟩ (.int .i64 s1)).setCell ⟨P,6,none⟩ (.slice A4 cl.length d4)).setCell ⟨P,7,none⟩ (.int .i64 e1))=wz at kp yM ph⊢;have HE:=al (ab (HE.o.1.only yM (fun k hk e=>hk e)) HE.o.2);have KP:=al kp;clear kp yM;refine dR 20 (v:=?_) (fun wS hSw=>?_) ph ?_;rotate_left
  ·go_simp;try rfl
  try simp only[ai,aj,ak,ar]
  refine pb (by kernel_rfl) ?_ _;have HW:=al ph;have p0:wz.cell? ⟨P,0,none⟩=some (.int .i64 (n:Int)):=by simp[World.cell?,KP.o]
  have p1:wz.cell? ⟨P,1,none⟩=some (.slice B1 ops.length d1):=by simp[World.cell?,KP.o]
  have p2:wz.cell? ⟨P,2,none⟩=some (.slice B2 args.length d2):=by simp[World.cell?,KP.o]
  have p3:wz.cell? ⟨P,3,none⟩=some (.slice B3 cl.length d3):=by simp[World.cell?,KP.o]
  have HC:=al (jm wz _ ⟨(n:Int),ops,args,cl⟩ _ _ _ HE.o.1 (HN.o.t.1.below ph) (HN.o.q.1.below ph) (by have:=HE.o.2.1;show cl.length<=1000;omega));have hlen:=ni HE.o.d.1 HE.o.2.1;unfold LC at HC;obtain⟨xs,hxs⟩:=qt (kE (inside ⟨(n:Int),ops,args,cl⟩));rw[hxs]at HC hlen;have Ql:=al (ab hxs hlen);clear ph KP yL hxs hlen;go_wp2_with fail;refine HC.o.m ?_;rintro en w3 ⟨hb3,⟨hz,_⟩|⟨_,A3,c3,rfl,hO⟩⟩
  ·exact absurd HE.o.d.1 hz
  have H3:=al (ab (HW.o.x (hb3.m HW.o.size)) (Rd.aU hO (F:=fun _=>True) (fun _ _=>trivial)));have HAp:=al (tR w3 FL L ps (HN.o.2.1.below H3.o.1) (by have:=HN.o.d.1;omega) _ _ _ _ _ H3.o.2 Ql.o.2);have HR3:=al (H.o.below H3.o.1);obtain⟨bB,oB,cB,g1,-⟩:=HR3.o.at_ HI.o;obtain⟨⟨r0,r1,r2,r3,r4⟩,-⟩:=bq g1;clear g1 r1 r2 r3 r4 hb3 hO p0 p1 p2 p3 HC;go_wp2_with fail;refine HAp.o.m ?_;rintro e w4 ⟨rfl,lX,FL4,hL4,hF4⟩;obtain⟨M,hM⟩:=qt (ps.length);rw[hM];obtain⟨n1,n2,n3,n4,n5,n6,n7,n8⟩:=HN.o.q.2.1;have Ui:=HR3.o.only lX n1 (fun k hk=>.inl (n8 k hk));have Fq:=(HN.o.1.below H3.o.1).only lX n2;have Xh:=lX.heap (pt H3.o.1 HQ.o) n3;obtain⟨q4,qf⟩:=fk Xh;have y2:=qf 2;have q2:=q4.2.2.1;have H4:=al (ab Ui (ab Fq (ab lX (ab Xh (ab hL4 (ab hF4 hM))))));clear r0 Ui Fq lX hL4 hF4 q4 qf HAp n1 n2 n3 n4 n5 n6 n7 n8 Xh hM;go_upto_region 21 with fail;have h5:=Only.aN w4 Q 2 (.int .i64 2);have k5:(w4.setCell ⟨Q,2,none⟩ (.int .i64 2)).heap[Q]?=some (pE (.slice A1 ops.length c1) (.slice A2 args.length c2) 2 (.slice none 0 0) 0 0):=by have:=db w4 Q 2 _ _ (.int .i64 2) H4.o.t.1;simpa[pE]using this
  generalize w4.setCell ⟨Q,2,none⟩ (.int .i64 2)=w5 at h5 k5⊢;have H5:=al (ab h5 k5);obtain⟨⟨-,-,-,q3,-⟩,-⟩:=fk k5;clear h5 k5 y2 q2;have hx:=ae w5 (.cells #[.int .i64 (M:Int)] 3);have HA:=al (ab (eb (an w5 (.cells #[.int .i64 (M:Int)] 3))) (ab (show(w5.alloc (.cells #[.int .i64 (M:Int)] 3)).ownsRow 0 3 1 (.slice none 0 0) 0 []from ea _ _ _ _) hx));clear hx;go_upto_region 22 with(at_builtin;go_loud (refine eh _ rfl _ _ 23 rfl 0 3 i0 _ 1 8 underlying23 jh.o.1 jh.o.2.1 jh.o.d.1 jh.o.t rfl (by decide) (.slice none 0 0) 0 [] rfl HA.o.2.1 ⟨w5.heap.size,0,none⟩ 1 1 [.int .i64 (M:Int)] rfl rfl HA.o.1 (by simp[Value.oneCell']) (by decide) (by unfold maxLen;omega) (by omega) (dq _) _ rfl ?_);intro g cap w7 hown hgrow hat hlt;have QG:Below w5.heap.size w5 w7:=HA.o.d.grown hgrow HA.o.d.size (fun k hk=>by cases hk);have k7:=pt QG H5.o.2;obtain⟨⟨-,-,-,q3b,-⟩,qf⟩:=fk k7;have y3:=qf 3;have H7:=al (ab QG (ab k7 (ab (Bl hown) (show g=(w5.alloc (.cells #[.int .i64 (M:Int)] 3)).heap.size from hat.elim (fun h=>by cases h) id))));clear qf hown hgrow hat QG k7);obtain⟨n1,n2,n3,n4,n5,n6,n7,n8⟩:=HN.o.q.2.1;have h8:=Only.aN w7 Q 3 (.slice (some ⟨g,0,none⟩) 1 cap);have k8:(w7.setCell ⟨Q,3,none⟩ (.slice (some ⟨g,0,none⟩) 1 cap)).heap[Q]?=some (pE (.slice A1 ops.length c1) (.slice A2 args.length c2) 2 (.slice (some ⟨g,0,none⟩) 1 cap) 0 0):=by have:=db w7 Q 3 _ _ (.slice (some ⟨g,0,none⟩) 1 cap) H7.o.2.1;simpa[pE]using this
  generalize w7.setCell ⟨Q,3,none⟩ (.slice (some ⟨g,0,none⟩) 1 cap)=w8 at h8 k8⊢;have IC:Only (fun b=>b=Q) w4 w8:=(H5.o.1.x (oj H7.o.1 _) (fun _ _ h=>h)).x h8 (fun _ _ h=>h);have hQm:Q∈qs:=de HI.o;have Qm:=H4.o.1.only IC (fun e=>n6 e) (fun k hk=>.inr (by have hk:k=Q:=hk;rw[hk];exact hQm));obtain⟨bD,oD,cD,g1,-⟩:=Qm.at_ HI.o;obtain⟨⟨-,-,-,-,r4⟩,-⟩:=bq g1;have HM8:=al (H4.o.2.1.only IC n5);have hgs:w.heap.size<=g/\g≠Q:=by have e1:=H7.o.t;have e2:=H3.o.1.size;have e3:=H4.o.d.1.size;have e4:=H5.o.1.size;have e5:=(bd.1 H5.o.2).1;simp at e1;omega
  have H8:=al (ab h8 (ab k8 (ab Qm (ab IC (ab (h8.cell H7.o.d.1 hgs.2) hgs)))));have sK:=HN.o.q.d;clear h8 k8 IC Qm g1 hgs n1 n2 n3 n4 n5 n6 n7 n8 hQm;go_wp2_with (at_mapUpdate;go_loud (refine rT _ rfl _ _ _ 86 rfl RU underlying86 rfl HM8.o (by unfold maxLen;omega) rfl rfl (UK (n:=n) (by omega)) ?_);intro w9 XM eB)
  go_ret2
  obtain⟨n1,n2,n3,n4,n5,n6,n7,n8⟩:=HN.o.q.2.1;obtain⟨h8,k8,Qm,IC,gg,hg1,hg2⟩:=H8.o;have hgm:g≠m:=by have:=(HN.o.1).lt;omega
  have o1:Only (fun b=>FL b\/b=m\/b=Q) w w4:=(oj H3.o.1 _).x H4.o.d.1 (fun k _ h=>.inl h);have o4:=o1.x IC (fun k _ h=>.inr (.inr h));have hsz:w3.heap.size<=w4.heap.size:=H4.o.d.1.size;have hL8:=H4.o.q.1.only IC (fun k hk e=>by have e:k=Q:=e;subst e;rcases H4.o.q.2.1 k hk with h|h;exact n3 h;have:=aQ HQ.o;have:=H3.o.1.size;omega);have hL9:=hL8.only eB (fun k hk e=>by have e:k=m:=e;subst e;rcases H4.o.q.2.1 k hk with h|h;exact n2 h;have:=HN.o.1.lt;have:=H3.o.1.size;omega);refine⟨by rw[H4.o.q.d];rfl,g,cap,FL4,Qm.only eB (fun e=>n4 e.symm) (fun k hk=>.inl (by have hk:k=m:=hk;omega)),eB.heap k8 (fun e=>n5 e.symm),?_,hg1,?_,?_,o4.x eB (fun k _ h=>.inr (.inl h))⟩
  ·rw[H4.o.q.d];exact eB.cell gg hgm
  ·rw[H4.o.q.d];exact XM
  ·rw[HE.o.t.1,HE.o.q,Ql.o.1];exact hL9
end
section
open Go.RowKit Go.Maps Go.WideShapes
theorem zw.atR{w:World}{L:Nat}(h:zw w L):fw w (fun k=>k=L) L []:=
 ⟨.slice none 0 0,[],h,rfl,ea _ _ _ _,fun g hg=>by simp[Value.ownBlock]at hg,fun i p hp=>by simp at hp⟩
theorem TN:ry 30 2 100 1=0:=by decide
theorem ID(w:World):Calls prog 19 #[rK 30 2 100] w fun e w'=>
  ∃T,e=.returned (.tuple #[.pointer (some ⟨T,0,none⟩),.int .i64 0])/\cd w' T 30 2 [] (fun b _=>w.heap.size<=b/\b<w'.heap.size)/\Below w.heap.size w w':=by
 unfold rK;obtain⟨hb,k0⟩:=qn w (.cells #[.int .i64 30,.int .i64 2,.int .i64 100] 56);have HB:=al hb;have HF:=al (fun w=>zT w 100);have hf:fS 100=0:=by decide
 rw[hf]at HF;clear hb k0 hf;go_enter func19,ntmps19;go_wp2_with fail;refine(HF.o _).m ?_;rintro e w2 ⟨rfl,rfl⟩;have HT:=al (xU (w.alloc (.cells #[.int .i64 30,.int .i64 2,.int .i64 100] 56)) 30 2 (by decide) (by decide) (by decide) (by decide));go_wp2_with fail;refine HT.o.m ?_;rintro e w3 ⟨T,rfl,hT,hb3⟩;have H3:=al (ab hT hb3);clear hT hb3 HT;go_wp2_with fail
 go_ret2
 exact⟨T,rfl,H3.o.1.m (fun b _ hb=>⟨da HB.o.size hb.1,hb.2⟩),HB.o.x (H3.o.2.m HB.o.size)⟩
theorem lC.one{w:World}{R L m b0 Q:Nat}{f tr st k v:Int}{vo va pl:Value}(h:lC w R L f tr m b0 [Q])(hq:w.heap[Q]?=some (pE vo va st pl k v)): ∃A,vz w R L f tr m A Q vo va st pl k v/\b0<=A/\A≠Q/\A<w.heap.size:=by
 obtain⟨u,g1,g2,g3,-⟩:=h;obtain⟨A,n,c,rfl,hl,-,-,hx⟩:=Rd.aU (F:=fun _=>True) g2 (fun _ _=>trivial);simp at hl;subst hl;obtain⟨b,o,rfl,-,hc⟩:=hx (by decide)
 obtain⟨g,c',e⟩: ∃g c',(Value.slice (some ⟨b,o,none⟩) 1 c)=.slice (some ⟨g,0,none⟩) 1 c':=by
  rcases g2.2 with h|h
  ·obtain⟨h,-⟩:=h;cases h
  ·obtain⟨g,c',_,e,_⟩:=h;exact⟨g,c',e⟩
 injection e with e1 e2 e3;injection e1 with e1;injection e1 with e1 e4;subst e1 e4 e3;have hA:=g2.lt b rfl;exact⟨b,⟨⟨c,g1⟩,by simpa[sO]using hc 0 _ rfl,hq⟩,hA.1,fun e=>g3 b rfl (by simp[e]),hA.2⟩
theorem ma(w:World)(hs:gS w)(hn:kH w)(h10:gh w)(hE:oJ w):Calls prog 5 #[] w fun e w'=>e=.returned (.bool true)/\Below w.heap.size w w':=by
 have HT:=al (ab hs (ab hn (ab h10 hE)));clear hs hn h10 hE;go_enter func5,ntmps5;go_wp2_with fail;refine(yt w).m ?_;rintro e w1 ⟨L,rfl,XT,hL,hb1⟩;have H1:=al (ab XT (ab hL hb1));clear XT hL hb1;go_wp2_with fail;refine(l8 w1).m ?_;rintro e w2 ⟨rfl,hb2⟩;have H2:=al (ab (H1.o.2.1.below hb2) (H1.o.d.x (hb2.m H1.o.d.size)));clear hb2;have HC:=al (Bj w2 L 30 2 100 1);unfold rK at HC⊢;rw[TN]at HC;go_wp2_with fail;refine HC.o.m ?_;rintro e w3 ⟨hb3,h,-⟩;obtain⟨R,m,rfl,hm0,TM,Ti⟩:=h rfl;have H3:=al (ab Ti (ab hm0 (ab TM (ab (H2.o.1.below hb3) (H2.o.2.x (hb3.m H2.o.2.size))))));clear h hm0 TM Ti hb3 HC;go_wp2_with fail;refine(l8 w3).m ?_;rintro e w4 ⟨rfl,hb4⟩;have H4:=al (ab (H3.o.1.below hb4) (ab (H3.o.t.1.below hb4) (H3.o.q.x (hb4.m H3.o.q.size))));clear hb4;have HE:=al (ID w4);unfold rK at HE⊢;go_wp2_with fail;refine HE.o.m ?_;rintro e w5 ⟨T,rfl,hT,fR⟩;have H5:=al (ab (H4.o.1.below fR) (ab (H4.o.2.1.below fR) (ab (H4.o.d.x (fR.m H4.o.d.size)) hT)));have Fx:R<w5.heap.size:=(bd.1 H5.o.1.1).1;clear fR HE hT;go_wp2_with fail
 have HS:=al (rz w5 (fun _=>True) R L 100 1 m w5.heap.size [] (lC.of H5.o.1 _) (aE _) Fx (by decide) [] [] (.slice none 0 0) (.slice none 0 0) ⟨aS.nil _ _ _,Rd.nil _ _,aS.nil _ _ _,by simp[yn],by simp,by simp,by simp⟩ (by
  have:=iw (id:=0) (ops:=[]) (args:=[]) (l:=[]) (by decide) (by decide) (by decide) (by simp) Good.nil (by rw[gT];decide);rw[gT]at this
  exact this) (HT.o.1.below H5.o.d.1) (by decide) (by decide))
 refine HS.o.m ?_;rintro e w6 ⟨rfl,Q,A1,c1,A2,c2,hcl,hQ0,hQ,ho,ha,sM⟩;have hLl:L<w1.heap.size:=(bd.1 H1.o.2.1).1;have hLm:L<m:=by have:=H3.o.2.1;have:=H2.o.2.size;have:=(bd.1 H2.o.1).1;omega
 have TM:=H3.o.d.1;have hap: ¬(fun k=>k=L) R/\ ¬(fun k=>k=L) m/\ ¬(fun k=>k=L) Q/\m≠R/\m≠Q/\R≠Q/\m<w5.heap.size/\ ∀k,(fun k=>k=L) k->k<w5.heap.size:=⟨fun h=>by have h:R=L:=h;omega,fun h=>by have h:m=L:=h;omega,fun h=>by have h:Q=L:=h;omega,by omega,by omega,by omega,by omega,fun k h=>by have h:k=L:=h;omega⟩;have Q5:fw w6 (fun k=>k=L) L []:=zw.atR (sM.heap H5.o.2.1 (by omega));have Wx:=H5.o.1.2.only sM (by omega);have Qn:=H5.o.d.1;have vg:Below w.heap.size w w6:=Qn.x (sM.aG Qn.size (fun k hk e=>by have:=Qn.size;have:=H3.o.2.1;have:=H2.o.2.size;omega));have H6:=al (ab hap vg);have hT6:cd w6 T 30 2 [] (fun b _=>w4.heap.size<=b/\b<w5.heap.size):=H5.o.t.eJ sM (fun b q hb e=>by have:=(bd.1 H4.o.1.1).1;omega);have HY:=al (J0 (w:=w6) (n:=0) (f:=100) (tr:=1) (o:=2) [] [] [] hcl rfl (by decide) hQ Wx Q5 (by decide) (HT.o.2.1.below vg) hap (by simp) (G:=fun k=>k<w6.heap.size) (aS.m (aS.bound ho (gm _) (by decide)) (fun k hk=>hk.2)) (fun k hk=>hk) (by decide) (HT.o.1.below vg) ha (by decide) (by simp) (by decide) hT6 (fun b q hb=>by have:=sM.size;omega) ⟨by simp[fc],fun q hq=>by simp at hq⟩ (HT.o.d.1.below vg) (HT.o.t.below vg))
 have HG:=al (show w.heap.size<=L/\w.heap.size<=m/\w.heap.size<=Q/\L<w6.heap.size/\m<w6.heap.size/\Q<w6.heap.size from by
  have:=H1.o.1;have:=Qn.size;have e1:=Wx.lt;have e2:=(bd.1 hQ).1;have e3:=H2.o.2.size;have e4:=H3.o.2.1
  exact⟨by omega,by omega,by omega,by omega,by omega,by omega⟩)
 have HRQ:=al (show m≠R/\R≠Q/\m<w5.heap.size/\R<w5.heap.size from⟨by omega,by omega,by omega,Fx⟩);clear hQ0 hcl hQ ho ha sM Fx hLl hLm TM hap Q5 Wx Qn vg HS hT6;go_wp2_with fail;refine HY.o.m ?_;rintro e w7 ⟨rfl,g,cg,FL7,hC7,hQ7,-,hg7,hm7,-,SC⟩;obtain⟨A,hQ7,hA0,hAQ,-⟩:=lC.one hC7 hQ7;have QG:Below w.heap.size w w7:=H6.o.2.x (SC.aG H6.o.2.size (fun k hk e=>by have:=HG.o;rcases e with e|e|e<;>omega));have HL:=al (PE w7 R L 100 m A Q _ _ g cg 0 0 hQ7 hm7 HRQ.o.1 (by have:=HRQ.o.d.1;omega) (by have:=H6.o.1.2.2.2.2.1;exact this) HRQ.o.2.1 hAQ);have H7:=al QG;clear hQ7 hg7 hm7 SC QG HY hC7 hA0 hAQ;go_wp2_with fail;refine HL.o.m ?_;rintro e w8 ⟨rfl,hQ8,yM⟩;have sL:Below w.heap.size w w8:=H7.o.x (yM.aG H7.o.size (fun k hk e=>by have:=HG.o;rcases e with e|e<;>omega));have HR:=al (L3 w8 R L 100 1 m A Q _ _ g cg hQ8);have H8:=al sL;clear hQ8 yM sL HL;go_wp2_with fail;refine HR.o.m ?_;rintro e w9 ⟨rfl,qV⟩;obtain⟨hx,k9⟩:=qn w9 (.cells #[.int .i64 8,.int .i64 0,.int .i64 1] 78);go_upto_region 10 with fail;generalize w9.alloc (.cells #[.int .i64 8,.int .i64 0,.int .i64 1] 78)=wx at hx k9⊢;generalize w9.heap.size=X at k9⊢;have z0:wx.cell? ⟨X,0,none⟩=some (.int .i64 8):=by simp[World.cell?,k9]
 have z1:wx.cell? ⟨X,1,none⟩=some (.int .i64 0):=by simp[World.cell?,k9]
 have z2:wx.cell? ⟨X,2,none⟩=some (.int .i64 1):=by simp[World.cell?,k9]
 have H9:=al (H8.o.x ((qV.x (hx.m qV.size)).m H8.o.size));clear hx k9 qV HR;have heq:=aaB 8 0 1 8 0 1;rw[show decide ((8:Int)=8/\(0:Int)=0/\(1:Int)=1)=true from by decide]at heq;have hgd:=Tryz.PF;go_wp2_with fail;go_ret
 exact⟨rfl,H9.o⟩
end
end Go.Proofs.YtmkofmeojbcakaaGreatDoor
