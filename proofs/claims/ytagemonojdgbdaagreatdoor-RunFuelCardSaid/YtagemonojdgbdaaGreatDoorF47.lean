import Derived.Test.YtagemonojdgbdaaGreatDoorF39
import Derived.Test.YtagemonojdgbdaaGreatDoorF43
namespace Go.Proofs.YtagemonojdgbdaaGreatDoor
set_option maxRecDepth 100000
set_option maxHeartbeats 16000000
open Go.RowKit
section
variable{c:RC}{K:(Nat->Prop)->av->World->Prop}{w:World}{s:PS av}
structure Aw (c:RC) (K:(Nat->Prop)->av->World->Prop) (w w1:World) (O:Nat) (x:aH) (s:PS av):Prop where
 mi:MI c K w1 s
 oI:Below w.heap.size w w1
 box:w1.heap[O]?=some (.cells #[.int .i64 x.d,.int .i64 x.a,.int .i64 x.b,.int .i64 x.c,.int .i64 x.n] 104 (0,0))
 off: ¬c.S O
 old:w.heap.size=O
theorem MI.at_(h:MI c K w s)(hc:c.Fit)(hK:qE K)(x:aH):Aw c K w (w.alloc (.cells #[.int .i64 x.d,.int .i64 x.a,.int .i64 x.b,.int .i64 x.c,.int .i64 x.n] 104)) w.heap.size x s:=
 ⟨h.below hc hK (af _ _),af _ _,an _ _,fun hs=>by obtain⟨_,_,_,_,_,_,h6,_⟩:=h;have:=h6 _ hs;omega,rfl⟩
theorem Aw.ne{w1:World}{O:Nat}{x:aH}(h:Aw c K w w1 O x s)(hc:c.Fit): ¬O=c.M:=fun e=>h.off (e▸hc.own)
theorem Aw.bj{w1:World}{O:Nat}{x:aH}(h:Aw c K w w1 O x s){i:Nat}(hi:i<8):w1.cell? ⟨c.M,18+i,none⟩=some (.int .i64 (s.bj i)):=by obtain⟨f,hm,_⟩:=h.mi;exact hm.bj hi
theorem Aw.free{w1:World}{O:Nat}{x:aH}(h:Aw c K w w1 O x s)(i:Nat):w1.frozen? ⟨c.M,i,none⟩=false:=by obtain⟨f,hm,_⟩:=h.mi;exact hm.free i
theorem Aw.put{w1 w2:World}{O:Nat}{x:aH}(h:Aw c K w w1 O x s)(hc:c.Fit)(hK:qE K)(hb:Below w1.heap.size w1 w2){a:Nat}(ha:a<8)(jA:x.a=(a:Int)){v:Int}(hv:aI v){e:Ending}(he:e=.returned (.int .i64 0)):
  ku c K (fC x s v) w e (w2.setCell ⟨c.M,18+a,none⟩ (.int .i64 v)):=by
 subst he;unfold fC;rw[jA];exact⟨rfl,(h.mi.below hc hK hb).ja hc hK ha hv,(oy (h.oI.trans (hb.mono h.oI.size)) c.W).trans ((aT w2 c.M (18+a) _).xf hc) (fun _ _ h=>h)⟩
def M5(f:Nat->Int)(a b:Nat):Int:=if f a<f b then 1 else 0
theorem PY(w:World)(q:Bool):Calls Tryz.prog 145 #[.bool q] w fun e w'=>e=.returned (.int .i64 (if q=true then 1 else 0))/\w=w':=by
 cases q
 ·exact Mt w
 ·exact GR w
theorem M6(hc:c.Fit)(hK:qE K)(h:MI c K w s)(x:aH)(a b:Nat)(ha:a<8)(hb:b<8)(jA:x.a=(a:Int))(oN:x.b=(b:Int)):
  Calls Tryz.prog 100 #[.pointer (some ⟨c.M,0,none⟩),x.val] w (ku c K (fC x s (s.bj b)) w):=by
 have H:=h.at_ hc hK x;have fT:aI (s.bj b):=by obtain⟨_,_,_,_,_,_,_,h7⟩:=h;exact h7.1 b
 obtain⟨dk,xa,xb,xc,xn⟩:=x;simp only at jA oN H;subst jA oN;unfold aH.val;simp only;have i1:(0:Int)<=(a:Int):=by omega
 have i2:(a:Int)<8:=by omega
 have j1:(0:Int)<=(b:Int):=by omega
 have j2:(b:Int)<8:=by omega
 go_enter Tryz.func100,Tryz.ntmps100;go_upto_region 1 with fail;generalize w.alloc (.cells #[.int .i64 dk,.int .i64 (a:Int),.int .i64 (b:Int),.int .i64 xc,.int .i64 xn] 104)=w1 at H⊢;obtain⟨O,hO⟩: ∃x,w.heap.size=x:=⟨_,rfl⟩;rw[hO]at H⊢;have k0:=H.box;have o1:w1.cell? ⟨O,1,none⟩=some (.int .i64 (a:Int)):=by simp[World.cell?,k0]
 have o2:w1.cell? ⟨O,2,none⟩=some (.int .i64 (b:Int)):=by simp[World.cell?,k0]
 have r2:=H.bj hb;have r1:=H.bj ha;have f1:=H.free (18+a);have HH:=al (ab H (ab hc (ab hK fT)));clear k0 H hc hK h hO fT
 go_still_tail 13,(by kernel_rfl)
 change wpList _ _ _ _ _ w1.drew;go_wp2_with fail;go_ret
 exact HH.out.1.put HH.out.2.1 HH.out.2.2.1 ((aw _ _).drew) ha rfl HH.out.2.2.2 rfl
theorem M7{f:Nat->Int}(h: ∀i,aI (f i))(a b:Nat):IntKind.i64.wrap (f a+f b)=f a+f b/\IntKind.i64.wrap (f a-f b)=f a-f b:=by have h1:=h a;have h2:=h b;unfold aI at h1 h2;rw[fm,fm];omega
theorem fU(w:World)(a:Addr)(v:Value):(w.setCell a v).drew=w.drew.setCell a v:=rfl
theorem lU(n:Int):aI (aR n):=by unfold aI aR;omega
theorem G5(w:World)(n:Int)(h:aI n):Calls Tryz.prog 175 #[.int .i64 n] w fun e w'=>e=.returned (.int .u64 (n.natAbs:Int))/\w=w':=by
 unfold aI at h;go_enter Tryz.func175,Tryz.ntmps175;go_wp2_with fail
 all_goals go_ret
 ·refine⟨eL Ending.returned (eL (Value.int .u64) ?_),rfl⟩;rw[IntKind.wrap_u64,IntKind.wrap_u64];omega
 ·refine⟨eL Ending.returned (eL (Value.int .u64) ?_),rfl⟩;show n=_;omega
theorem M8(w:World)(x y:Nat)(hx:x<=1099511627776)(hy:y<=1099511627776):Calls Tryz.prog 174 #[.int .u64 x,.int .u64 y] w fun e w'=>e=.returned (.tuple #[.int .u64 ((x*y/18446744073709551616:Nat):Int),.int .u64 ((x*y%18446744073709551616:Nat):Int)])/\w'=w:=
 Any.bits_Mul64 Tryz.PM x y (by omega) (by omega) w
theorem JD{a b:Int}:aR (a*b)=if(a<0)↔(b<0)then(if a.natAbs*b.natAbs<1099511627776 then((a.natAbs*b.natAbs:Nat):Int)else 1099511627776)else -(if a.natAbs*b.natAbs<1099511627776 then((a.natAbs*b.natAbs:Nat):Int)else 1099511627776):=by
 have h:=Int.natAbs_mul a b
 have hs:(a<0↔b<0)->0<=a*b:=fun h=>by
  by_cases ha:a<0
  ·exact Int.le_of_lt (Int.mul_pos_of_neg_of_neg ha (h.1 ha))
  ·exact Int.mul_nonneg (by omega) (by have: ¬b<0:=fun e=>ha (h.2 e);omega)
 have hn: ¬(a<0↔b<0)->a*b<=0:=fun h=>by
  by_cases ha:a<0
  ·exact Int.mul_nonpos_of_nonpos_of_nonneg (by omega) (by have: ¬b<0:=fun e=>h ⟨fun _=>e,fun _=>ha⟩;omega)
  ·have hb:b<0:=Classical.byContradiction fun e=>h ⟨fun e1=>absurd e1 ha,fun e1=>absurd e1 e⟩;exact Int.mul_nonpos_of_nonneg_of_nonpos (by omega) (by omega)
 rw[<-h];generalize a*b=p at *;unfold aR;split
 ·have:=hs ‹_›;split<;>omega
 ·have:=hn ‹_›;split<;>omega
theorem FC(w:World)(a b:Int)(ha:aI a)(hb:aI b):Calls Tryz.prog 144 #[.int .i64 a,.int .i64 b] w fun e w'=>e=.returned (.int .i64 (aR (a*b)))/\w=w':=by
 have h1:a.natAbs<=1099511627776:=by unfold aI at ha;omega
 have h2:b.natAbs<=1099511627776:=by unfold aI at hb;omega
 have HA:=al (fun W=>G5 W a ha);have HB:=al (fun W=>G5 W b hb);have HM:=al (fun W=>M8 W a.natAbs b.natAbs h1 h2);have HR:=al (JD (a:=a) (b:=b));obtain⟨R,hR⟩: ∃R,aR (a*b)=R:=⟨_,rfl⟩;rw[hR]at HR⊢;clear hR;generalize a.natAbs*b.natAbs=p at HM HR;obtain⟨hi,hhi⟩: ∃z,p/18446744073709551616=z:=⟨_,rfl⟩;obtain⟨lo,hlo⟩: ∃z,p%18446744073709551616=z:=⟨_,rfl⟩;rw[hhi,hlo]at HM;have hlt:p<1099511627776↔hi=0/\lo<1099511627776:=by omega
 have hlp:p<1099511627776->p=lo:=by omega
 have HL:=al (ab hlt hlp);clear hlt hlp hhi hlo h1 h2;go_enter Tryz.func144,Tryz.ntmps144;go_wp2_with fail;refine(HA.out _).mono ?_;rintro e w' ⟨rfl,rfl⟩;go_wp2_with fail;refine(HB.out _).mono ?_;rintro e w' ⟨rfl,rfl⟩;go_wp2_with fail;refine(HM.out _).mono ?_;rintro e w' ⟨rfl,rfl⟩;go_upto_region 3 with fail;obtain⟨L,hL⟩: ∃L:Int,(lo:Int)=L:=⟨_,rfl⟩;obtain⟨Z,hZ⟩: ∃L:Int,(hi:Int)=L:=⟨_,rfl⟩;rw[hL,hZ];obtain⟨E,hE⟩: ∃E:Int,(if p<1099511627776 then(p:Int)else 1099511627776)=E:=⟨_,rfl⟩;have hv:=HR.out;rw[hE]at hv;have HV:=al hv;have hL0:0<=L:=by omega
 have hZ0:0<=Z:=by omega
 have e1:Z=0/\L<1099511627776->E=L:=fun h=>by have h1:=HL.out.1.2 ⟨by omega,by omega⟩;rw[fi h1]at hE;have:=HL.out.2 h1;omega
 have e2: ¬(Z=0/\L<1099511627776)->E=1099511627776:=fun h=>by
  have h1: ¬p<1099511627776:=fun q=>by have:=HL.out.1.1 q;exact h ⟨by omega,by omega⟩
  rw[ff h1]at hE;exact hE.symm
 clear HL HR HM hL hZ hE hv
 have fin: ∀e:Int,e=E-> ∀q:Bool,(!decide (a<0)==decide (b<0))=q->R=if q=true then -e else e:=by rintro _ rfl q hq;rw[HV.out];by_cases ha:a<0<;>by_cases hb:b<0<;>simp[ha,hb]at hq⊢ <;>subst hq<;>simp
 have HF:=al fin;have n1:IntKind.i64.wrap (-1099511627776)= -1099511627776:=by decide
 clear fin;by_cases h0:Z=0
 ·subst h0;by_cases hl:L<1099511627776
  ·have g2:wrap64 L=L:=by unfold wrap64;omega
   have g3:wrap64 (-L)= -L:=by unfold wrap64;omega
   have HE:=al (e1 ⟨rfl,hl⟩);clear e1 e2 HV;go_wp2_with fail
   ·go_ret
    exact⟨eL Ending.returned (eL (Value.int .i64) (HF.out L HE.out.symm true ‹_›).symm),rfl⟩
   ·go_ret
    exact⟨eL Ending.returned (eL (Value.int .i64) (HF.out L HE.out.symm false ‹_›).symm),rfl⟩
  ·have HE:=al (e2 (fun h=>hl h.2));clear e1 e2 HV;go_wp2_with fail
   ·go_ret
    exact⟨eL Ending.returned (eL (Value.int .i64) (HF.out 1099511627776 HE.out.symm true ‹_›).symm),rfl⟩
   ·go_ret
    exact⟨eL Ending.returned (eL (Value.int .i64) (HF.out 1099511627776 HE.out.symm false ‹_›).symm),rfl⟩
 ·have HE:=al (e2 (fun h=>h0 h.1));clear e1 e2 HV;go_wp2_with fail
  ·go_ret
   exact⟨eL Ending.returned (eL (Value.int .i64) (HF.out 1099511627776 HE.out.symm true ‹_›).symm),rfl⟩
  ·go_ret
   exact⟨eL Ending.returned (eL (Value.int .i64) (HF.out 1099511627776 HE.out.symm false ‹_›).symm),rfl⟩
theorem PZ(hc:c.Fit)(hK:qE K)(h:MI c K w s)(x:aH)(a b:Nat)(ha:a<8)(hb:b<8)(jA:x.a=(a:Int))(oN:x.b=(b:Int)):
  Calls Tryz.prog 101 #[.pointer (some ⟨c.M,0,none⟩),x.val] w (ku c K (fC x s (aR (s.bj a+s.bj b))) w):=by
 have H:=h.at_ hc hK x;have fT: ∀i,aI (s.bj i):=by obtain⟨_,_,_,_,_,_,_,h7⟩:=h;exact h7.1
 obtain⟨dk,xa,xb,xc,xn⟩:=x;simp only at jA oN H;subst jA oN;unfold aH.val;simp only;have i1:(0:Int)<=(a:Int):=by omega
 have i2:(a:Int)<8:=by omega
 have j1:(0:Int)<=(b:Int):=by omega
 have j2:(b:Int)<8:=by omega
 go_enter Tryz.func101,Tryz.ntmps101;go_upto_region 1 with fail;generalize w.alloc (.cells #[.int .i64 dk,.int .i64 (a:Int),.int .i64 (b:Int),.int .i64 xc,.int .i64 xn] 104)=w1 at H⊢;obtain⟨O,hO⟩: ∃x,w.heap.size=x:=⟨_,rfl⟩;rw[hO]at H⊢;have k0:=H.box;have AK:=H.ne hc;have z0:w1.cell? ⟨O,1,none⟩=some (.int .i64 (a:Int))/\w1.cell? ⟨O,2,none⟩=some (.int .i64 (b:Int)):=by simp[World.cell?,k0]
 have r2:=H.bj hb;have r1:=H.bj ha;have f1:=H.free (18+a);obtain⟨S0,vT⟩: ∃z,s.bj a+s.bj b=z:=⟨_,rfl⟩;have lV:=al vT;have hw:=(M7 fT a b).1;rw[vT]at hw⊢;have hv:=lU S0;have HC:=al (fun W=>lO W S0);have HH:=al (ab H (ab hc (ab hK (ab hv AK))));clear k0 H hc hK h hO fT hv AK;refine pb (S:=(fun W=>W.cell? ⟨O,1,none⟩=some (.int .i64 (a:Int))/\W.cell? ⟨O,2,none⟩=some (.int .i64 (b:Int)))) (by kernel_rfl) z0 (fun pt=>?_);refine aM [0,1,2,3,4,5,6,7,8,10,11,12,13,14,15,19,20] ?_
 iterate 17 (refine bX (v:=?_) (fun wS hSw=>?_) pt ?_;rotate_left;(obtain⟨s0,s1⟩:=hSw;go_simp;try with_reducible rfl);try simp only[ai,aj,ak,ar])
 refine aN ?_;refine ph (rs:=[9,16]) (by kernel_rfl) (by simp) (bP (i:=9) rfl (fun K hK=>?_) (bP (i:=16) rfl (fun K hK=>?_) o0))
 ·skip
  go_simp;refine hK.out _ _ (pt) ?_;clear hK K pt;intro pt
  try simp only[ai,aj,ak,ar]
  refine aW 16 (fun K hK=>?_);go_simp;refine hK.out _ _ (pt) ?_;clear hK K pt;intro pt
  try simp only[ai,aj,ak,ar]
  refine fJ 17 (v:=?_) (fun wS hSw=>?_) pt ?_;rotate_left
  ·obtain⟨s0,s1⟩:=hSw;go_simp;try with_reducible rfl
  try simp only[ai,aj,ak,ar]
  refine aW 18 (fun K hK=>?_);go_simp;refine(HC.out _).mono ?_;rintro e wn ⟨rfl,rfl⟩
  try go_simp
  refine hK.out _ _ (pt) ?_;clear hK K pt;intro pt
  try simp only[ai,aj,ak,ar]
  refine fJ 21 (v:=?_) (fun wS hSw=>?_) pt ?_;rotate_left
  ·obtain⟨s0,s1⟩:=hSw;go_simp;try with_reducible rfl
  try simp only[ai,aj,ak,ar]
  refine aW 22 (fun K hK=>?_);go_simp;refine hK.out _ _ (⟨(aT _ c.M (18+a) _).cell pt.1 HH.out.2.2.2.2,(aT _ c.M (18+a) _).cell pt.2 HH.out.2.2.2.2⟩) ?_;clear hK K pt;intro pt
  try simp only[ai,aj,ak,ar]
  refine pf (by kernel_rfl) ?_ _;clear pt z0;go_wp2_with fail;go_ret
  have h0:=lV.out;subst h0;rw[fU];exact HH.out.1.put HH.out.2.1 HH.out.2.2.1 ((aw _ _).drew) ha rfl HH.out.2.2.2.1 rfl
 ·skip
  go_simp;refine hK.out _ _ (pt) ?_;clear hK K pt;intro pt
  try simp only[ai,aj,ak,ar]
  refine aW 9 (fun K hK=>?_);go_simp;refine hK.out _ _ (pt) ?_;clear hK K pt;intro pt
  try simp only[ai,aj,ak,ar]
  refine fJ 17 (v:=?_) (fun wS hSw=>?_) pt ?_;rotate_left
  ·obtain⟨s0,s1⟩:=hSw;go_simp;try with_reducible rfl
  try simp only[ai,aj,ak,ar]
  refine aW 18 (fun K hK=>?_);go_simp;refine(HC.out _).mono ?_;rintro e wn ⟨rfl,rfl⟩
  try go_simp
  refine hK.out _ _ (pt) ?_;clear hK K pt;intro pt
  try simp only[ai,aj,ak,ar]
  refine fJ 21 (v:=?_) (fun wS hSw=>?_) pt ?_;rotate_left
  ·obtain⟨s0,s1⟩:=hSw;go_simp;try with_reducible rfl
  try simp only[ai,aj,ak,ar]
  refine aW 22 (fun K hK=>?_);go_simp;refine hK.out _ _ (⟨(aT _ c.M (18+a) _).cell pt.1 HH.out.2.2.2.2,(aT _ c.M (18+a) _).cell pt.2 HH.out.2.2.2.2⟩) ?_;clear hK K pt;intro pt
  try simp only[ai,aj,ak,ar]
  refine pf (by kernel_rfl) ?_ _;clear pt z0;go_wp2_with fail;go_ret
  have h0:=lV.out;subst h0;rw[fU];exact HH.out.1.put HH.out.2.1 HH.out.2.2.1 ((aw _ _).drew) ha rfl HH.out.2.2.2.1 rfl
theorem M9(hc:c.Fit)(hK:qE K)(h:MI c K w s)(x:aH)(a b:Nat)(ha:a<8)(hb:b<8)(jA:x.a=(a:Int))(oN:x.b=(b:Int)):
  Calls Tryz.prog 104 #[.pointer (some ⟨c.M,0,none⟩),x.val] w (ku c K (fC x s (M5 s.bj a b)) w):=by
 have H:=h.at_ hc hK x;have fT: ∀i,aI (s.bj i):=by obtain⟨_,_,_,_,_,_,_,h7⟩:=h;exact h7.1
 obtain⟨dk,xa,xb,xc,xn⟩:=x;simp only at jA oN H;subst jA oN;unfold aH.val;simp only;have i1:(0:Int)<=(a:Int):=by omega
 have i2:(a:Int)<8:=by omega
 have j1:(0:Int)<=(b:Int):=by omega
 have j2:(b:Int)<8:=by omega
 go_enter Tryz.func104,Tryz.ntmps104;go_upto_region 1 with fail;generalize w.alloc (.cells #[.int .i64 dk,.int .i64 (a:Int),.int .i64 (b:Int),.int .i64 xc,.int .i64 xn] 104)=w1 at H⊢;obtain⟨O,hO⟩: ∃x,w.heap.size=x:=⟨_,rfl⟩;rw[hO]at H⊢;have k0:=H.box;have AK:=H.ne hc;have z0:w1.cell? ⟨O,1,none⟩=some (.int .i64 (a:Int))/\w1.cell? ⟨O,2,none⟩=some (.int .i64 (b:Int)):=by simp[World.cell?,k0]
 have r2:=H.bj hb;have r1:=H.bj ha;have f1:=H.free (18+a);obtain⟨q,hq⟩: ∃q:Bool,decide (s.bj a<s.bj b)=q:=⟨_,rfl⟩;obtain⟨S0,vT⟩: ∃z:Int,(if q=true then 1 else 0)=z:=⟨_,rfl⟩;have lV:=al (show M5 s.bj a b=S0 by unfold M5;rw[<-vT,<-hq];simp only[decide_eq_true_eq]);have hv:aI S0:=by rw[<-vT];split<;>exact⟨by decide,by decide⟩
 have HC:=al (fun W=>PY W q);rw[vT]at HC;clear vT;have HH:=al (ab H (ab hc (ab hK (ab hv AK))));clear k0 H hc hK h hO fT hv AK;refine pb (S:=(fun W=>W.cell? ⟨O,1,none⟩=some (.int .i64 (a:Int))/\W.cell? ⟨O,2,none⟩=some (.int .i64 (b:Int)))) (by kernel_rfl) z0 (fun pt=>?_);refine aM [0,1,2,3,4,5,6,7,8,10,11,12,13,14,15,19,20] ?_
 iterate 17 (refine bX (v:=?_) (fun wS hSw=>?_) pt ?_;rotate_left;(obtain⟨s0,s1⟩:=hSw;go_simp;try with_reducible rfl);try simp only[ai,aj,ak,ar])
 refine aN ?_;refine ph (rs:=[9,16]) (by kernel_rfl) (by simp) (bP (i:=9) rfl (fun K hK=>?_) (bP (i:=16) rfl (fun K hK=>?_) o0))
 ·skip
  go_simp;refine hK.out _ _ (pt) ?_;clear hK K pt;intro pt
  try simp only[ai,aj,ak,ar]
  refine aW 16 (fun K hK=>?_);go_simp;refine hK.out _ _ (pt) ?_;clear hK K pt;intro pt
  try simp only[ai,aj,ak,ar]
  refine fJ 17 (v:=?_) (fun wS hSw=>?_) pt ?_;rotate_left
  ·obtain⟨s0,s1⟩:=hSw;go_simp;try with_reducible rfl
  try simp only[ai,aj,ak,ar]
  refine aW 18 (fun K hK=>?_);go_simp;refine(HC.out _).mono ?_;rintro e wn ⟨rfl,rfl⟩
  try go_simp
  refine hK.out _ _ (pt) ?_;clear hK K pt;intro pt
  try simp only[ai,aj,ak,ar]
  refine fJ 21 (v:=?_) (fun wS hSw=>?_) pt ?_;rotate_left
  ·obtain⟨s0,s1⟩:=hSw;go_simp;try with_reducible rfl
  try simp only[ai,aj,ak,ar]
  refine aW 22 (fun K hK=>?_);go_simp;refine hK.out _ _ (⟨(aT _ c.M (18+a) _).cell pt.1 HH.out.2.2.2.2,(aT _ c.M (18+a) _).cell pt.2 HH.out.2.2.2.2⟩) ?_;clear hK K pt;intro pt
  try simp only[ai,aj,ak,ar]
  refine pf (by kernel_rfl) ?_ _;clear pt z0;go_wp2_with fail;go_ret
  have h0:=lV.out;subst h0;rw[fU];exact HH.out.1.put HH.out.2.1 HH.out.2.2.1 ((aw _ _).drew) ha rfl HH.out.2.2.2.1 rfl
 ·skip
  go_simp;refine hK.out _ _ (pt) ?_;clear hK K pt;intro pt
  try simp only[ai,aj,ak,ar]
  refine aW 9 (fun K hK=>?_);go_simp;refine hK.out _ _ (pt) ?_;clear hK K pt;intro pt
  try simp only[ai,aj,ak,ar]
  refine fJ 17 (v:=?_) (fun wS hSw=>?_) pt ?_;rotate_left
  ·obtain⟨s0,s1⟩:=hSw;go_simp;try with_reducible rfl
  try simp only[ai,aj,ak,ar]
  refine aW 18 (fun K hK=>?_);go_simp;refine(HC.out _).mono ?_;rintro e wn ⟨rfl,rfl⟩
  try go_simp
  refine hK.out _ _ (pt) ?_;clear hK K pt;intro pt
  try simp only[ai,aj,ak,ar]
  refine fJ 21 (v:=?_) (fun wS hSw=>?_) pt ?_;rotate_left
  ·obtain⟨s0,s1⟩:=hSw;go_simp;try with_reducible rfl
  try simp only[ai,aj,ak,ar]
  refine aW 22 (fun K hK=>?_);go_simp;refine hK.out _ _ (⟨(aT _ c.M (18+a) _).cell pt.1 HH.out.2.2.2.2,(aT _ c.M (18+a) _).cell pt.2 HH.out.2.2.2.2⟩) ?_;clear hK K pt;intro pt
  try simp only[ai,aj,ak,ar]
  refine pf (by kernel_rfl) ?_ _;clear pt z0;go_wp2_with fail;go_ret
  have h0:=lV.out;subst h0;rw[fU];exact HH.out.1.put HH.out.2.1 HH.out.2.2.1 ((aw _ _).drew) ha rfl HH.out.2.2.2.1 rfl
theorem P4(hc:c.Fit)(hK:qE K)(h:MI c K w s)(x:aH)(a b:Nat)(ha:a<8)(hb:b<8)(jA:x.a=(a:Int))(oN:x.b=(b:Int)):
  Calls Tryz.prog 103 #[.pointer (some ⟨c.M,0,none⟩),x.val] w (ku c K (fC x s (aR (s.bj a*s.bj b))) w):=by
 have H:=h.at_ hc hK x;have fT: ∀i,aI (s.bj i):=by obtain⟨_,_,_,_,_,_,_,h7⟩:=h;exact h7.1
 obtain⟨dk,xa,xb,xc,xn⟩:=x;simp only at jA oN H;subst jA oN;unfold aH.val;simp only;have i1:(0:Int)<=(a:Int):=by omega
 have i2:(a:Int)<8:=by omega
 have j1:(0:Int)<=(b:Int):=by omega
 have j2:(b:Int)<8:=by omega
 go_enter Tryz.func103,Tryz.ntmps103;go_upto_region 1 with fail;generalize w.alloc (.cells #[.int .i64 dk,.int .i64 (a:Int),.int .i64 (b:Int),.int .i64 xc,.int .i64 xn] 104)=w1 at H⊢;obtain⟨O,hO⟩: ∃x,w.heap.size=x:=⟨_,rfl⟩;rw[hO]at H⊢;have k0:=H.box;have AK:=H.ne hc;have z0:w1.cell? ⟨O,1,none⟩=some (.int .i64 (a:Int))/\w1.cell? ⟨O,2,none⟩=some (.int .i64 (b:Int)):=by simp[World.cell?,k0]
 have r2:=H.bj hb;have r1:=H.bj ha;have f1:=H.free (18+a);obtain⟨S0,vT⟩: ∃z,aR (s.bj a*s.bj b)=z:=⟨_,rfl⟩;have lV:=al vT;have hv:aI S0:=by rw[<-vT];exact lU _
 have HC:=al (fun W=>FC W (s.bj a) (s.bj b) (fT a) (fT b));rw[vT]at HC;clear vT;have HH:=al (ab H (ab hc (ab hK (ab hv AK))));clear k0 H hc hK h hO fT hv AK;refine pb (S:=(fun W=>W.cell? ⟨O,1,none⟩=some (.int .i64 (a:Int))/\W.cell? ⟨O,2,none⟩=some (.int .i64 (b:Int)))) (by kernel_rfl) z0 (fun pt=>?_);refine aM [0,1,2,3,4,5,6,7,8,10,11,12,13,14,15,18,19] ?_
 iterate 17 (refine bX (v:=?_) (fun wS hSw=>?_) pt ?_;rotate_left;(obtain⟨s0,s1⟩:=hSw;go_simp;try with_reducible rfl);try simp only[ai,aj,ak,ar])
 refine aN ?_;refine ph (rs:=[9,16]) (by kernel_rfl) (by simp) (bP (i:=9) rfl (fun K hK=>?_) (bP (i:=16) rfl (fun K hK=>?_) o0))
 ·skip
  go_simp;refine hK.out _ _ (pt) ?_;clear hK K pt;intro pt
  try simp only[ai,aj,ak,ar]
  refine aW 16 (fun K hK=>?_);go_simp;refine hK.out _ _ (pt) ?_;clear hK K pt;intro pt
  try simp only[ai,aj,ak,ar]
  refine aW 17 (fun K hK=>?_);go_simp;refine(HC.out _).mono ?_;rintro e wn ⟨rfl,rfl⟩
  try go_simp
  refine hK.out _ _ (pt) ?_;clear hK K pt;intro pt
  try simp only[ai,aj,ak,ar]
  refine fJ 20 (v:=?_) (fun wS hSw=>?_) pt ?_;rotate_left
  ·obtain⟨s0,s1⟩:=hSw;go_simp;try with_reducible rfl
  try simp only[ai,aj,ak,ar]
  refine aW 21 (fun K hK=>?_);go_simp;refine hK.out _ _ (⟨(aT _ c.M (18+a) _).cell pt.1 HH.out.2.2.2.2,(aT _ c.M (18+a) _).cell pt.2 HH.out.2.2.2.2⟩) ?_;clear hK K pt;intro pt
  try simp only[ai,aj,ak,ar]
  refine pf (by kernel_rfl) ?_ _;clear pt z0;go_wp2_with fail;go_ret
  have h0:=lV.out;subst h0;rw[fU];exact HH.out.1.put HH.out.2.1 HH.out.2.2.1 ((aw _ _).drew) ha rfl HH.out.2.2.2.1 rfl
 ·skip
  go_simp;refine hK.out _ _ (pt) ?_;clear hK K pt;intro pt
  try simp only[ai,aj,ak,ar]
  refine aW 9 (fun K hK=>?_);go_simp;refine hK.out _ _ (pt) ?_;clear hK K pt;intro pt
  try simp only[ai,aj,ak,ar]
  refine aW 17 (fun K hK=>?_);go_simp;refine(HC.out _).mono ?_;rintro e wn ⟨rfl,rfl⟩
  try go_simp
  refine hK.out _ _ (pt) ?_;clear hK K pt;intro pt
  try simp only[ai,aj,ak,ar]
  refine fJ 20 (v:=?_) (fun wS hSw=>?_) pt ?_;rotate_left
  ·obtain⟨s0,s1⟩:=hSw;go_simp;try with_reducible rfl
  try simp only[ai,aj,ak,ar]
  refine aW 21 (fun K hK=>?_);go_simp;refine hK.out _ _ (⟨(aT _ c.M (18+a) _).cell pt.1 HH.out.2.2.2.2,(aT _ c.M (18+a) _).cell pt.2 HH.out.2.2.2.2⟩) ?_;clear hK K pt;intro pt
  try simp only[ai,aj,ak,ar]
  refine pf (by kernel_rfl) ?_ _;clear pt z0;go_wp2_with fail;go_ret
  have h0:=lV.out;subst h0;rw[fU];exact HH.out.1.put HH.out.2.1 HH.out.2.2.1 ((aw _ _).drew) ha rfl HH.out.2.2.2.1 rfl
theorem P5(hc:c.Fit)(hK:qE K)(h:MI c K w s)(x:aH)(a b:Nat)(ha:a<8)(hb:b<8)(jA:x.a=(a:Int))(oN:x.b=(b:Int)):
  Calls Tryz.prog 102 #[.pointer (some ⟨c.M,0,none⟩),x.val] w (ku c K (fC x s (aR (s.bj a-s.bj b))) w):=by
 have H:=h.at_ hc hK x;have fT: ∀i,aI (s.bj i):=by obtain⟨_,_,_,_,_,_,_,h7⟩:=h;exact h7.1
 obtain⟨dk,xa,xb,xc,xn⟩:=x;simp only at jA oN H;subst jA oN;unfold aH.val;simp only;have i1:(0:Int)<=(a:Int):=by omega
 have i2:(a:Int)<8:=by omega
 have j1:(0:Int)<=(b:Int):=by omega
 have j2:(b:Int)<8:=by omega
 go_enter Tryz.func102,Tryz.ntmps102;go_upto_region 1 with fail;generalize w.alloc (.cells #[.int .i64 dk,.int .i64 (a:Int),.int .i64 (b:Int),.int .i64 xc,.int .i64 xn] 104)=w1 at H⊢;obtain⟨O,hO⟩: ∃x,w.heap.size=x:=⟨_,rfl⟩;rw[hO]at H⊢;have k0:=H.box;have AK:=H.ne hc;have z0:w1.cell? ⟨O,1,none⟩=some (.int .i64 (a:Int))/\w1.cell? ⟨O,2,none⟩=some (.int .i64 (b:Int)):=by simp[World.cell?,k0]
 have r2:=H.bj hb;have r1:=H.bj ha;have f1:=H.free (18+a);obtain⟨S0,vT⟩: ∃z,s.bj a-s.bj b=z:=⟨_,rfl⟩;have lV:=al vT;have hw:=(M7 fT a b).2;rw[vT]at hw⊢;have hv:=lU S0;have HC:=al (fun W=>lO W S0);have HH:=al (ab H (ab hc (ab hK (ab hv AK))));clear k0 H hc hK h hO fT hv AK;refine pb (S:=(fun W=>W.cell? ⟨O,1,none⟩=some (.int .i64 (a:Int))/\W.cell? ⟨O,2,none⟩=some (.int .i64 (b:Int)))) (by kernel_rfl) z0 (fun pt=>?_);refine aM [0,1,2,3,4,5,6,7,8,10,11,12,13,14,15,19,20] ?_
 iterate 17 (refine bX (v:=?_) (fun wS hSw=>?_) pt ?_;rotate_left;(obtain⟨s0,s1⟩:=hSw;go_simp;try with_reducible rfl);try simp only[ai,aj,ak,ar])
 refine aN ?_;refine ph (rs:=[9,16]) (by kernel_rfl) (by simp) (bP (i:=9) rfl (fun K hK=>?_) (bP (i:=16) rfl (fun K hK=>?_) o0))
 ·skip
  go_simp;refine hK.out _ _ (pt) ?_;clear hK K pt;intro pt
  try simp only[ai,aj,ak,ar]
  refine aW 16 (fun K hK=>?_);go_simp;refine hK.out _ _ (pt) ?_;clear hK K pt;intro pt
  try simp only[ai,aj,ak,ar]
  refine fJ 17 (v:=?_) (fun wS hSw=>?_) pt ?_;rotate_left
  ·obtain⟨s0,s1⟩:=hSw;go_simp;try with_reducible rfl
  try simp only[ai,aj,ak,ar]
  refine aW 18 (fun K hK=>?_);go_simp;refine(HC.out _).mono ?_;rintro e wn ⟨rfl,rfl⟩
  try go_simp
  refine hK.out _ _ (pt) ?_;clear hK K pt;intro pt
  try simp only[ai,aj,ak,ar]
  refine fJ 21 (v:=?_) (fun wS hSw=>?_) pt ?_;rotate_left
  ·obtain⟨s0,s1⟩:=hSw;go_simp;try with_reducible rfl
  try simp only[ai,aj,ak,ar]
  refine aW 22 (fun K hK=>?_);go_simp;refine hK.out _ _ (⟨(aT _ c.M (18+a) _).cell pt.1 HH.out.2.2.2.2,(aT _ c.M (18+a) _).cell pt.2 HH.out.2.2.2.2⟩) ?_;clear hK K pt;intro pt
  try simp only[ai,aj,ak,ar]
  refine pf (by kernel_rfl) ?_ _;clear pt z0;go_wp2_with fail;go_ret
  have h0:=lV.out;subst h0;rw[fU];exact HH.out.1.put HH.out.2.1 HH.out.2.2.1 ((aw _ _).drew) ha rfl HH.out.2.2.2.1 rfl
 ·skip
  go_simp;refine hK.out _ _ (pt) ?_;clear hK K pt;intro pt
  try simp only[ai,aj,ak,ar]
  refine aW 9 (fun K hK=>?_);go_simp;refine hK.out _ _ (pt) ?_;clear hK K pt;intro pt
  try simp only[ai,aj,ak,ar]
  refine fJ 17 (v:=?_) (fun wS hSw=>?_) pt ?_;rotate_left
  ·obtain⟨s0,s1⟩:=hSw;go_simp;try with_reducible rfl
  try simp only[ai,aj,ak,ar]
  refine aW 18 (fun K hK=>?_);go_simp;refine(HC.out _).mono ?_;rintro e wn ⟨rfl,rfl⟩
  try go_simp
  refine hK.out _ _ (pt) ?_;clear hK K pt;intro pt
  try simp only[ai,aj,ak,ar]
  refine fJ 21 (v:=?_) (fun wS hSw=>?_) pt ?_;rotate_left
  ·obtain⟨s0,s1⟩:=hSw;go_simp;try with_reducible rfl
  try simp only[ai,aj,ak,ar]
  refine aW 22 (fun K hK=>?_);go_simp;refine hK.out _ _ (⟨(aT _ c.M (18+a) _).cell pt.1 HH.out.2.2.2.2,(aT _ c.M (18+a) _).cell pt.2 HH.out.2.2.2.2⟩) ?_;clear hK K pt;intro pt
  try simp only[ai,aj,ak,ar]
  refine pf (by kernel_rfl) ?_ _;clear pt z0;go_wp2_with fail;go_ret
  have h0:=lV.out;subst h0;rw[fU];exact HH.out.1.put HH.out.2.1 HH.out.2.2.1 ((aw _ _).drew) ha rfl HH.out.2.2.2.1 rfl
theorem Nb(hc:c.Fit)(hK:qE K)(h:MI c K w s)(x:aH)(a:Nat)(ha:a<8)(jA:x.a=(a:Int))(hn:0<=x.n/\s.pc+x.n<=1000):
  Calls Tryz.prog 111 #[.pointer (some ⟨c.M,0,none⟩),x.val] w (ku c K ({s with pc:=if s.bj a=0 then s.pc+x.n else s.pc},0) w):=by
 have H:=h.at_ hc hK x;obtain⟨dk,xa,xb,xc,xn⟩:=x;simp only at jA H hn;subst jA;unfold aH.val;simp only;have i1:(0:Int)<=(a:Int):=by omega
 have i2:(a:Int)<8:=by omega
 go_enter Tryz.func111,Tryz.ntmps111;go_upto_region 1 with fail;generalize w.alloc (.cells #[.int .i64 dk,.int .i64 (a:Int),.int .i64 xb,.int .i64 xc,.int .i64 xn] 104)=w1 at H⊢;obtain⟨O,hO⟩: ∃x,w.heap.size=x:=⟨_,rfl⟩;rw[hO]at H⊢;have k0:=H.box;have o1:w1.cell? ⟨O,1,none⟩=some (.int .i64 (a:Int)):=by simp[World.cell?,k0]
 have o4:w1.cell? ⟨O,4,none⟩=some (.int .i64 xn):=by simp[World.cell?,k0]
 have r1:=H.bj ha;have f1:=H.free 17;have Qk:=H.mi;have hpc:w1.cell? ⟨c.M,17,none⟩=some (.int .i64 s.pc):=by obtain⟨_,hm,_⟩:=H.mi;exact hm.pc
 have hfit:s.Fit:=by obtain⟨_,_,_,_,_,_,_,h7⟩:=h;exact h7
 have hw:IntKind.i64.wrap (s.pc+xn)=s.pc+xn:=by rw[fm];have:=hfit.2.2;omega
 have HH:=al (ab H (ab hc (ab hK (ab hn hfit))));clear k0 H hc hK h hO hn hfit Qk;by_cases hz:s.bj a=0
 ·rw[hz]at r1;have HZ:=al hz;clear hz
  go_region
  go_upto_region 2 with fail;have hb2:=(aw w1.heap.size w1).drew;have o4':w1.drew.cell? ⟨O,4,none⟩=some (.int .i64 xn):=o4;have aae:w1.drew.cell? ⟨c.M,17,none⟩=some (.int .i64 s.pc):=hpc;have f1':w1.drew.frozen? ⟨c.M,17,none⟩=false:=f1;clear o1 o4 hpc f1 r1;generalize w1.drew=w2 at hb2 o4' aae f1'⊢;have HB:=al hb2;clear hb2
  go_still_tail 9,(by kernel_rfl)
  change wpList _ _ _ _ _ w2.drew;go_wp2_with fail;go_ret
  obtain⟨H,hc,hK,hn,hfit⟩:=HH.out;have hb2:=HB.out.drew;rw[fU];exact⟨rfl,(H.mi.below hc hK hb2).turn hc hK (aT w2.drew c.M 17 _) (fun f hm=>hm.GI _) rfl rfl ⟨hfit.1,hfit.2.1,by have:=hfit.2.2;show 0<=s.pc+xn;omega,hn.2⟩,(oy (H.oI.trans (hb2.mono H.oI.size)) c.W).trans ((aT w2.drew c.M 17 _).xf hc) (fun _ _ h=>h)⟩
 ·have HZ:=al hz;go_wp2_with fail
  go_region
  go_wp2_with fail;go_ret
  obtain⟨H,hc,hK,hn,hfit⟩:=HH.out;have hb2:=(aw w1.heap.size w1).drew;exact⟨rfl,H.mi.below hc hK hb2,oy (H.oI.trans (hb2.mono H.oI.size)) c.W⟩
theorem JE(hc:c.Fit)(hK:qE K)(h:MI c K w s)(x:aH)(a:Nat)(ha:a<8)(jA:x.a=(a:Int)):
  Calls Tryz.prog 113 #[.pointer (some ⟨c.M,0,none⟩),x.val] w (ku c K ({s with value:=s.bj a},19) w):=by
 have H:=h.at_ hc hK x;obtain⟨dk,xa,xb,xc,xn⟩:=x;simp only at jA H;subst jA;unfold aH.val;simp only;have i1:(0:Int)<=(a:Int):=by omega
 have i2:(a:Int)<8:=by omega
 go_enter Tryz.func113,Tryz.ntmps113;go_upto_region 1 with fail;generalize w.alloc (.cells #[.int .i64 dk,.int .i64 (a:Int),.int .i64 xb,.int .i64 xc,.int .i64 xn] 104)=w1 at H⊢;obtain⟨O,hO⟩: ∃x,w.heap.size=x:=⟨_,rfl⟩;rw[hO]at H⊢;have k0:=H.box;have o1:w1.cell? ⟨O,1,none⟩=some (.int .i64 (a:Int)):=by simp[World.cell?,k0]
 have r1:=H.bj ha;have hfit:s.Fit:=by obtain⟨_,_,_,_,_,_,_,h7⟩:=h;exact h7
 have HH:=al (ab H (ab hc (ab hK hfit)));have hmm:=H.mi;obtain⟨f,hm,-⟩:=hmm;have f1:=hm.free 29;have v1:w1.cell? ⟨c.M,29,none⟩=some (.int .i64 s.value):=hm.value;clear k0 H hc hK h hO hfit hm
 go_still_tail 11,(by kernel_rfl)
 change wpList _ _ _ _ _ w1.drew;go_wp2_with fail;go_ret
 obtain⟨H,hc,hK,hfit⟩:=HH.out;have hb2:=(aw w1.heap.size w1).drew;exact⟨rfl,(H.mi.below hc hK hb2).turn hc hK (aT w1.drew c.M 29 _) (fun f hm=>hm.setValue _) rfl rfl hfit,(oy (H.oI.trans (hb2.mono H.oI.size)) c.W).trans ((aT w1.drew c.M 29 _).xf hc) (fun _ _ h=>h)⟩
end
section
variable{c:RC}{K:(Nat->Prop)->av->World->Prop}{w:World}{s:PS av}
theorem Nc{R:Type}{fuel:Int}{blk:PS R->PS R×Int}{k:Nat}{t:PS R}(h:fuel<=t.steps):loopGo fuel blk (k+1) t=(t,20):=by rw[loopGo,fi h]
theorem P6{R:Type}{fuel:Int}{blk:PS R->PS R×Int}{k:Nat}{t u:PS R}{n:Int}(h: ¬fuel<=t.steps)(hb:blk {t with steps:=t.steps+1}=(u,n)):loopGo fuel blk (k+1) t=if n=0 then loopGo fuel blk k u else(u,n):=by rw[loopGo,ff h,hb]
def aaf(c:RC)(K:(Nat->Prop)->av->World->Prop)(blk:PS av->PS av×Int)(w:World)(O C:Nat)(x:aH)(s:PS av)(i:Value)(wr:World):Prop:=
 ∃(k:Nat) (t:PS av),k<=C/\i=.int .i64 (k:Int)/\MI c K wr t/\Only c.W w wr/\wr.heap[O]?=some (.cells #[.int .i64 x.d,.int .i64 x.a,.int .i64 x.b,.int .i64 x.c,.int .i64 x.n] 104 (0,0))/\loopGo c.fuel blk C s=loopGo c.fuel blk (C-k) t
theorem Nf{act:aH->PS av->PS av×Int}(hc:c.Fit)(hK:qE K)(h:MI c K w s)(x:aH)(fr N C:Nat)(Pd:s.pc=(fr:Int))(OA:x.n=(N:Int))(AH:x.c=(C:Int))(hC:C<=1000)(TA:fr+N<=c.ops.length)(ha:rJ c K act fr (fr+N)):
  Calls Tryz.prog 112 #[.pointer (some ⟨c.M,0,none⟩),x.val] w (ku c K (gK c.fuel c.ops act x s) w):=by
 have hop:=hc.ops;have H:=h.at_ hc hK x;have hps:gK c.fuel c.ops act x s=if(loopGo c.fuel (fun t=>bg c.fuel c.ops act (s.pc+x.n) x.n.toNat {t with pc:=s.pc}) x.c.toNat s).2=0 then({(loopGo c.fuel (fun t=>bg c.fuel c.ops act (s.pc+x.n) x.n.toNat {t with pc:=s.pc}) x.c.toNat s).1 with pc:=s.pc+x.n},0)else loopGo c.fuel (fun t=>bg c.fuel c.ops act (s.pc+x.n) x.n.toNat {t with pc:=s.pc}) x.c.toNat s:=rfl
 obtain⟨blk,hblk⟩: ∃blk,(fun t:PS av=>bg c.fuel c.ops act (s.pc+x.n) x.n.toNat {t with pc:=s.pc})=blk:=⟨_,rfl⟩;rw[hblk]at hps
 have hbk: ∀t:PS av,blk t=bg c.fuel c.ops act ((fr:Int)+(N:Int)) (fr+N-fr) {t with pc:=(fr:Int)}:=fun t=>by rw[<-hblk,Pd,OA];simp only[gx];rw[show fr+N-fr=N by omega]
 obtain⟨dk,xa,xb,xc,xn⟩:=x;simp only at OA AH H hps;subst OA AH;rw[gx,Pd]at hps;unfold aH.val;simp only
 have hBk:=al (show ∀(W:World) (t:PS av),MI c K W t->Calls Tryz.prog 66 #[.pointer (some ⟨c.M,0,none⟩),.int .i64 (fr:Int),.int .i64 ((fr:Int)+(N:Int))] W (ku c K (blk t) W)from fun W t ht=>by
  have h:=CW hc hK ht fr (fr+N) (by omega) TA ha;rw[Int.natCast_add]at h;rw[hbk]
  exact h)
 have HC:=al (ab hc (ab hK (ab hps (ab hbk (ab hC (show fr+N<=64 from by omega))))));go_enter Tryz.func112,Tryz.ntmps112;go_upto_region 1 with fail;generalize w.alloc (.cells #[.int .i64 dk,.int .i64 xa,.int .i64 xb,.int .i64 (C:Int),.int .i64 (N:Int)] 104)=w1 at H⊢;obtain⟨O,hO⟩: ∃x,w.heap.size=x:=⟨_,rfl⟩;rw[hO]at H⊢;have k0:=H.box;have o3:w1.cell? ⟨O,3,none⟩=some (.int .i64 (C:Int)):=by simp[World.cell?,k0]
 have hpc:w1.cell? ⟨c.M,17,none⟩=some (.int .i64 (fr:Int)):=by obtain⟨_,hm,_⟩:=H.mi;have:=hm.pc;simp only[RC.ms]at this;rw[Pd]at this;exact this
 have H1:=al (ab H Pd);clear h k0 hO hc hK H hps hblk hbk hop TA ha Pd hC;go_wp2_with fail
 go_loopw [14] (fun i wr=>aaf c K blk w O C ⟨dk,xa,xb,C,N⟩ s i wr) (fun i _=>C-(intOf i).toNat)
 case atStart=>exact⟨0,s,dj _,rfl,H1.out.1.mi,oy H1.out.1.oI c.W,H1.out.1.box,rfl⟩
 case round=>
  obtain⟨k,t,hk,rfl,hI,ho,cK,hgo⟩:=hrel
  rename World=>wr
  have HR:=al (ab hI (ab ho (ab cK hgo)));have o4:wr.cell? ⟨O,4,none⟩=some (.int .i64 (N:Int)):=by simp[World.cell?,cK]
  by_cases hlt:k<C
  ·obtain⟨q,hq⟩: ∃q,C-k=q+1:=⟨C-k-1,by omega⟩;rw[hq]at hgo;by_cases hd:c.fuel<=t.steps
   ·have HS:=al (CS HC.out.1 HC.out.2.1 hI hd);have HP:=al (show gK c.fuel c.ops act ⟨dk,xa,xb,C,N⟩ s=(t,20) by rw[HC.out.2.2.1,hgo,Nc hd];rfl);clear hI ho cK hgo hq hd;go_wp2_with fail;refine HS.out.mono ?_;rintro e w2 ⟨rfl,JV,eo⟩;have H2:=al (ab JV eo);clear JV eo;go_wp2_with fail;go_ret
    rw[HP.out];exact⟨rfl,H2.out.1,HR.out.2.1.trans H2.out.2 (fun _ _ h=>h)⟩
   ·have HS:=al (CR HC.out.1 HC.out.2.1 hI (by omega));obtain⟨u,n,hp⟩: ∃u n,blk {t with steps:=t.steps+1}=(u,n):=⟨_,_,rfl⟩;rw[P6 hd hp]at hgo;have HG:=al (ab hgo (ab hp hq));have HN:=al (show k+1<=C/\wrap64 ((k:Int)+1)=((k+1:Nat):Int)from⟨hlt,by have:=HC.out.2.2.2.2.1;unfold wrap64;omega⟩);have hw:IntKind.i64.wrap ((fr:Int)+(N:Int))=(fr:Int)+(N:Int):=by rw[fm];have:=HC.out.2.2.2.2.2;omega
    clear hI ho hgo hq hd hp o4;go_wp2_with fail;refine HS.out.mono ?_;rintro e w2 ⟨rfl,JV,eo⟩;have Tt:=eo.heap cK (fun h=>H1.out.1.off (HC.out.1.sub _ h));have o4:w2.cell? ⟨O,4,none⟩=some (.int .i64 (N:Int)):=by simp[World.cell?,Tt]
    have H2:=al (ab JV (ab eo Tt));have HB:=al (hBk.out w2 _ JV);rw[HG.out.2.1]at HB;clear JV eo Tt cK HS;go_wp2_with fail;refine HB.out.mono ?_;rintro e w3 ⟨rfl,hI3,rX⟩;simp only at hI3;have Xj:=rX.heap H2.out.2.2 (fun h=>H1.out.1.off (HC.out.1.sub _ h));have H3:=al (ab hI3 (ab ((HR.out.2.1.trans H2.out.2.1 (fun _ _ h=>h)).trans rX (fun _ _ h=>h)) Xj));clear hI3 rX Xj HB o4;by_cases hn:n=0
    ·subst hn;have HP:=al (HG.out.1.trans (fi rfl));go_wp2_with fail;go_roundw
     case rel=>exact⟨k+1,u,HN.out.1,eL _ HN.out.2,H3.out.1,H3.out.2.1,H3.out.2.2,by rw[HP.out,show C-(k+1)=q by have:=HG.out.2.2;omega]⟩
     case measure=>rw[HN.out.2];simp only[intOf,gx];have:=HG.out.2.2;omega
    ·have nZ:(n==0)=false:=by simpa using hn
     have HP:=al (show gK c.fuel c.ops act ⟨dk,xa,xb,C,N⟩ s=(u,n) by rw[HC.out.2.2.1,HG.out.1,ff hn,ff hn]);clear hn;go_wp2_with fail;go_ret
     rw[HP.out];exact⟨rfl,H3.out.1,H3.out.2.1⟩
  ·have hkC:k=C:=by omega
   subst hkC;have HP:=al (show gK c.fuel c.ops act ⟨dk,xa,xb,k,N⟩ s=({t with pc:=(fr:Int)+(N:Int)},0) by rw[HC.out.2.2.1,hgo,Nat.sub_self];rfl);have hw:IntKind.i64.wrap ((fr:Int)+(N:Int))=(fr:Int)+(N:Int):=by rw[fm];have:=HC.out.2.2.2.2.2;omega
   obtain⟨f,hm,-⟩:=id hI;have f17:=hm.free 17;have p17:wr.cell? ⟨c.M,17,none⟩=some (.int .i64 t.pc):=hm.pc;have hfit:t.Fit:=by obtain⟨_,_,_,_,_,_,_,h7⟩:=hI;exact h7
   have HF:=al hfit;clear hI ho cK hgo hm hfit;go_wp2_with fail;go_ret
   rw[HP.out];refine⟨rfl,HR.out.1.turn HC.out.1 HC.out.2.1 (aT wr c.M 17 _) (fun f hm=>hm.GI _) rfl rfl ⟨HF.out.1,HF.out.2.1,by show(0:Int)<=(fr:Int)+(N:Int);omega,by show(fr:Int)+(N:Int)<=1000;have:=HC.out.2.2.2.2.2;omega⟩,HR.out.2.1.trans ((aT wr c.M 17 _).xf HC.out.1) (fun _ _ h=>h)⟩
end
end Go.Proofs.YtagemonojdgbdaaGreatDoor
