import Derived.Test.YtmkofmeojbcakaaGreatDoorC40
namespace Go.Proofs.YtmkofmeojbcakaaGreatDoor
open Go.Proofs.Tryz
set_option maxRecDepth 100000
set_option maxHeartbeats 16000000
open Go.RowKit
section
variable{c:RC}{K:(Nat->Prop)->ax->World->Prop}{w:World}{s:PS ax}
structure CF (c:RC) (K:(Nat->Prop)->ax->World->Prop) (w w1:World) (O:Nat) (x:aO) (s:PS ax):Prop where
 mi:MI c K w1 s
 rC:Below w.heap.size w w1
 box:w1.heap[O]?=some (.cells #[.int .i64 x.d,.int .i64 x.a,.int .i64 x.b,.int .i64 x.c,.int .i64 x.n] 93 (0,0))
 off: ¬c.S O
 old:w.heap.size=O
theorem MI.at_(h:MI c K w s)(hc:c.Fit)(hK:ui K)(x:aO):CF c K w (w.alloc (.cells #[.int .i64 x.d,.int .i64 x.a,.int .i64 x.b,.int .i64 x.c,.int .i64 x.n] 93)) w.heap.size x s:=
 ⟨h.below hc hK (ae _ _),ae _ _,an _ _,fun hs=>by obtain⟨_,_,_,_,_,_,h6,_⟩:=h;have:=h6 _ hs;omega,rfl⟩
theorem CF.ne{w1:World}{O:Nat}{x:aO}(h:CF c K w w1 O x s)(hc:c.Fit): ¬O=c.M:=fun e=>h.off (e▸hc.own)
theorem CF.bI{w1:World}{O:Nat}{x:aO}(h:CF c K w w1 O x s){i:Nat}(hi:i<8):w1.cell? ⟨c.M,18+i,none⟩=some (.int .i64 (s.bI i)):=by obtain⟨f,hm,_⟩:=h.mi;exact hm.bI hi
theorem CF.free{w1:World}{O:Nat}{x:aO}(h:CF c K w w1 O x s)(i:Nat):w1.frozen? ⟨c.M,i,none⟩=false:=by obtain⟨f,hm,_⟩:=h.mi;exact hm.free i
theorem CF.put{w1 w2:World}{O:Nat}{x:aO}(h:CF c K w w1 O x s)(hc:c.Fit)(hK:ui K)(hb:Below w1.heap.size w1 w2){a:Nat}(ha:a<8)(jT:x.a=(a:Int)){v:Int}(hv:aK v){e:Ending}(he:e=.returned (.int .i64 0)):
  ly c K (gi x s v) w e (w2.setCell ⟨c.M,18+a,none⟩ (.int .i64 v)):=by
 subst he;unfold gi;rw[jT];exact⟨rfl,(h.mi.below hc hK hb).jx hc hK ha hv,(oj (h.rC.x (hb.m h.rC.size)) c.W).x ((bj w2 c.M (18+a) _).zt hc) (fun _ _ h=>h)⟩
def PG(f:Nat->Int)(a b:Nat):Int:=if f a<f b then 1 else 0
theorem Tj(w:World)(q:Bool):Calls prog 135 #[.bool q] w fun e w'=>e=.returned (.int .i64 (if q=true then 1 else 0))/\w=w':=by
 cases q
 ·exact Pm w
 ·exact JL w
theorem PH(hc:c.Fit)(hK:ui K)(h:MI c K w s)(x:aO)(a b:Nat)(ha:a<8)(hb:b<8)(jT:x.a=(a:Int))(qj:x.b=(b:Int)):
  Calls prog 99 #[.pointer (some ⟨c.M,0,none⟩),x.val] w (ly c K (gi x s (s.bI b)) w):=by
 have H:=h.at_ hc hK x;have gA:aK (s.bI b):=by obtain⟨_,_,_,_,_,_,_,h7⟩:=h;exact h7.1 b
 obtain⟨dk,xa,xb,xc,xn⟩:=x;simp only at jT qj H;subst jT qj;unfold aO.val;simp only;have i1:(0:Int)<=(a:Int):=by omega
 have i2:(a:Int)<8:=by omega
 have j1:(0:Int)<=(b:Int):=by omega
 have j2:(b:Int)<8:=by omega
 go_enter func99,ntmps99;go_upto_region 1 with fail;generalize w.alloc (.cells #[.int .i64 dk,.int .i64 (a:Int),.int .i64 (b:Int),.int .i64 xc,.int .i64 xn] 93)=w1 at H⊢;obtain⟨O,hO⟩:=qt (w.heap.size);rw[hO]at H⊢;have k0:=H.box;have o1:w1.cell? ⟨O,1,none⟩=some (.int .i64 (a:Int)):=by simp[World.cell?,k0]
 have o2:w1.cell? ⟨O,2,none⟩=some (.int .i64 (b:Int)):=by simp[World.cell?,k0]
 have r2:=H.bI hb;have r1:=H.bI ha;have f1:=H.free (18+a);have HH:=al (ab H (ab hc (ab hK gA)));clear k0 H hc hK h hO gA
 go_still_tail 13,(by kernel_rfl)
 change wpList _ _ _ _ _ w1.drew;go_wp2;go_ret
 exact HH.o.1.put HH.o.2.1 HH.o.d.1 ((aw _ _).drew) ha rfl HH.o.t rfl
theorem PI{f:Nat->Int}(h: ∀i,aK (f i))(a b:Nat):IntKind.i64.wrap (f a+f b)=f a+f b/\IntKind.i64.wrap (f a-f b)=f a-f b:=by have h1:=h a;have h2:=h b;unfold aK at h1 h2;rw[gr,gr];omega
theorem gD(w:World)(a:Addr)(v:Value):(w.setCell a v).drew=w.drew.setCell a v:=rfl
theorem mV(n:Int):aK (aZ n):=by unfold aK aZ;omega
theorem JT(w:World)(n:Int)(h:aK n):Calls prog 180 #[.int .i64 n] w fun e w'=>e=.returned (.int .u64 (n.natAbs:Int))/\w=w':=by
 unfold aK at h;go_enter func180,ntmps180;go_wp2
 all_goals go_ret
 ·refine⟨eM Ending.returned (eM (Value.int .u64) ?_),rfl⟩;rw[IntKind.wrap_u64,IntKind.wrap_u64];omega
 ·refine⟨eM Ending.returned (eM (Value.int .u64) ?_),rfl⟩;show n=_;omega
theorem PJ(w:World)(x y:Nat)(hx:x<=1099511627776)(hy:y<=1099511627776):Calls prog 179 #[.int .u64 x,.int .u64 y] w fun e w'=>e=.returned (.tuple #[.int .u64 ((x*y/18446744073709551616:Nat):Int),.int .u64 ((x*y%18446744073709551616:Nat):Int)])/\w'=w:=
 Any.bits_Mul64 Tryz.SY x y (by omega) (by omega) w
theorem L4{a b:Int}:aZ (a*b)=if(a<0)↔(b<0)then(if a.natAbs*b.natAbs<1099511627776 then((a.natAbs*b.natAbs:Nat):Int)else 1099511627776)else -(if a.natAbs*b.natAbs<1099511627776 then((a.natAbs*b.natAbs:Nat):Int)else 1099511627776):=by
 have h:=Int.natAbs_mul a b
 have hs:(a<0↔b<0)->0<=a*b:=fun h=>by
  by_cases ha:a<0
  ·exact Int.le_of_lt (Int.mul_pos_of_neg_of_neg ha (h.1 ha))
  ·exact Int.mul_nonneg (by omega) (by have: ¬b<0:=fun e=>ha (h.2 e);omega)
 have hn: ¬(a<0↔b<0)->a*b<=0:=fun h=>by
  by_cases ha:a<0
  ·exact Int.mul_nonpos_of_nonpos_of_nonneg (by omega) (by have: ¬b<0:=fun e=>h ⟨fun _=>e,fun _=>ha⟩;omega)
  ·have hb:b<0:=Classical.byContradiction fun e=>h ⟨fun e1=>absurd e1 ha,fun e1=>absurd e1 e⟩;exact Int.mul_nonpos_of_nonneg_of_nonpos (by omega) (by omega)
 rw[<-h];generalize a*b=p at *;unfold aZ;split
 ·have:=hs ‹_›;split<;>omega
 ·have:=hn ‹_›;split<;>omega
theorem Io(w:World)(a b:Int)(ha:aK a)(hb:aK b):Calls prog 134 #[.int .i64 a,.int .i64 b] w fun e w'=>e=.returned (.int .i64 (aZ (a*b)))/\w=w':=by
 have h1:a.natAbs<=1099511627776:=by unfold aK at ha;omega
 have h2:b.natAbs<=1099511627776:=by unfold aK at hb;omega
 have HA:=al (fun W=>JT W a ha);have HB:=al (fun W=>JT W b hb);have HM:=al (fun W=>PJ W a.natAbs b.natAbs h1 h2);have HR:=al (L4 (a:=a) (b:=b));obtain⟨R,hR⟩:=qt (aZ (a*b));rw[hR]at HR⊢;clear hR;generalize a.natAbs*b.natAbs=p at HM HR;obtain⟨hi,hhi⟩:=qt (p/18446744073709551616);obtain⟨lo,hlo⟩:=qt (p%18446744073709551616);rw[hhi,hlo]at HM;have hlt:p<1099511627776↔hi=0/\lo<1099511627776:=by omega
 have hlp:p<1099511627776->p=lo:=by omega
 have HL:=al (ab hlt hlp);clear hlt hlp hhi hlo h1 h2;go_enter func134,ntmps134;go_wp2_with fail;refine(HA.o _).m ?_;rintro e w' ⟨rfl,rfl⟩;go_wp2_with fail;refine(HB.o _).m ?_;rintro e w' ⟨rfl,rfl⟩;go_wp2_with fail;refine(HM.o _).m ?_;rintro e w' ⟨rfl,rfl⟩;go_upto_region 3 with fail;obtain⟨L,hL⟩: ∃L:Int,(lo:Int)=L:=⟨_,rfl⟩;obtain⟨Z,hZ⟩: ∃L:Int,(hi:Int)=L:=⟨_,rfl⟩;rw[hL,hZ];obtain⟨E,hE⟩: ∃E:Int,(if p<1099511627776 then(p:Int)else 1099511627776)=E:=⟨_,rfl⟩;have hv:=HR.o;rw[hE]at hv;have HV:=al hv;have XT:0<=L:=by omega
 have hZ0:0<=Z:=by omega
 have e1:Z=0/\L<1099511627776->E=L:=fun h=>by have h1:=HL.o.1.2 ⟨by omega,by omega⟩;rw[fi h1]at hE;have:=HL.o.2 h1;omega
 have e2: ¬(Z=0/\L<1099511627776)->E=1099511627776:=fun h=>by
  have h1: ¬p<1099511627776:=fun q=>by have:=HL.o.1.1 q;exact h ⟨by omega,by omega⟩
  rw[ff h1]at hE;exact hE.symm
 clear HL HR HM hL hZ hE hv
 have fin: ∀e:Int,e=E-> ∀q:Bool,(!decide (a<0)==decide (b<0))=q->R=if q=true then -e else e:=by rintro _ rfl q hq;rw[HV.o];by_cases ha:a<0<;>by_cases hb:b<0<;>simp[ha,hb]at hq⊢ <;>subst hq<;>simp
 have HF:=al fin;have n1:IntKind.i64.wrap (-1099511627776)= -1099511627776:=by decide
 clear fin;by_cases h0:Z=0
 ·subst h0;by_cases hl:L<1099511627776
  ·have g2:wrap64 L=L:=by unfold wrap64;omega
   have g3:wrap64 (-L)= -L:=by unfold wrap64;omega
   have HE:=al (e1 ⟨rfl,hl⟩);clear e1 e2 HV;go_wp2_with fail
   ·go_ret
    exact⟨eM Ending.returned (eM (Value.int .i64) (HF.o L HE.o.symm true ‹_›).symm),rfl⟩
   ·go_ret
    exact⟨eM Ending.returned (eM (Value.int .i64) (HF.o L HE.o.symm false ‹_›).symm),rfl⟩
  ·have HE:=al (e2 (fun h=>hl h.2));clear e1 e2 HV;go_wp2_with fail
   ·go_ret
    exact⟨eM Ending.returned (eM (Value.int .i64) (HF.o 1099511627776 HE.o.symm true ‹_›).symm),rfl⟩
   ·go_ret
    exact⟨eM Ending.returned (eM (Value.int .i64) (HF.o 1099511627776 HE.o.symm false ‹_›).symm),rfl⟩
 ·have HE:=al (e2 (fun h=>h0 h.1));clear e1 e2 HV;go_wp2_with fail
  ·go_ret
   exact⟨eM Ending.returned (eM (Value.int .i64) (HF.o 1099511627776 HE.o.symm true ‹_›).symm),rfl⟩
  ·go_ret
   exact⟨eM Ending.returned (eM (Value.int .i64) (HF.o 1099511627776 HE.o.symm false ‹_›).symm),rfl⟩
theorem Tk(hc:c.Fit)(hK:ui K)(h:MI c K w s)(x:aO)(a b:Nat)(ha:a<8)(hb:b<8)(jT:x.a=(a:Int))(qj:x.b=(b:Int)):
  Calls prog 100 #[.pointer (some ⟨c.M,0,none⟩),x.val] w (ly c K (gi x s (aZ (s.bI a+s.bI b))) w):=by
 have H:=h.at_ hc hK x;have gA: ∀i,aK (s.bI i):=by obtain⟨_,_,_,_,_,_,_,h7⟩:=h;exact h7.1
 obtain⟨dk,xa,xb,xc,xn⟩:=x;simp only at jT qj H;subst jT qj;unfold aO.val;simp only;have i1:(0:Int)<=(a:Int):=by omega
 have i2:(a:Int)<8:=by omega
 have j1:(0:Int)<=(b:Int):=by omega
 have j2:(b:Int)<8:=by omega
 go_enter func100,ntmps100;go_upto_region 1 with fail;generalize w.alloc (.cells #[.int .i64 dk,.int .i64 (a:Int),.int .i64 (b:Int),.int .i64 xc,.int .i64 xn] 93)=w1 at H⊢;obtain⟨O,hO⟩:=qt (w.heap.size);rw[hO]at H⊢;have k0:=H.box;have CO:=H.ne hc;have z0:w1.cell? ⟨O,1,none⟩=some (.int .i64 (a:Int))/\w1.cell? ⟨O,2,none⟩=some (.int .i64 (b:Int)):=by simp[World.cell?,k0]
 have r2:=H.bI hb;have r1:=H.bI ha;have f1:=H.free (18+a);obtain⟨S0,vT⟩:=qt (s.bI a+s.bI b);have lV:=al vT;have hw:=(PI gA a b).1;rw[vT]at hw⊢;have hv:=mV S0;have HC:=al (fun W=>mS W S0);have HH:=al (ab H (ab hc (ab hK (ab hv CO))));clear k0 H hc hK h hO gA hv CO;refine o0 (S:=(fun W=>W.cell? ⟨O,1,none⟩=some (.int .i64 (a:Int))/\W.cell? ⟨O,2,none⟩=some (.int .i64 (b:Int)))) (by kernel_rfl) z0 (fun ph=>?_);refine aI [0,1,2,3,4,5,6,7,8,10,11,12,13,14,15,19,20] ?_
 iterate 17 (refine bO (v:=?_) (fun _ ⟨s0,s1⟩=>?_) ph ?_;rotate_left;(go_simp;try rfl);try simp only[ai,aj,ak,ar])
 refine aJ ?_;refine pf (rs:=[9,16]) (by kernel_rfl) (by simp) (bE (i:=9) rfl (fun K hK=>?_) (bE (i:=16) rfl (fun K hK=>?_) oT))
 focus
  go_simp;refine hK.o _ _ (ph) ?_;clear hK K ph;intro ph
  try simp only[ai,aj,ak,ar]
  refine aW 16 (fun K hK=>?_)
 rotate_left
 focus
  go_simp;refine hK.o _ _ (ph) ?_;clear hK K ph;intro ph
  try simp only[ai,aj,ak,ar]
  refine aW 9 (fun K hK=>?_)
 all_goals
  go_simp;refine hK.o _ _ (ph) ?_;clear hK K ph;intro ph
  try simp only[ai,aj,ak,ar]
  refine dR 17 (v:=?_) (fun wS hSw=>?_) ph ?_;rotate_left
  ·obtain⟨s0,s1⟩:=hSw;go_simp;try rfl
  try simp only[ai,aj,ak,ar]
  refine aW 18 (fun K hK=>?_);go_simp;refine(HC.o _).m ?_;rintro e wn ⟨rfl,rfl⟩
  try go_simp
  refine hK.o _ _ (ph) ?_;clear hK K ph;intro ph
  try simp only[ai,aj,ak,ar]
  refine dR 21 (v:=?_) (fun wS hSw=>?_) ph ?_;rotate_left
  ·obtain⟨s0,s1⟩:=hSw;go_simp;try rfl
  try simp only[ai,aj,ak,ar]
  refine aW 22 (fun K hK=>?_);go_simp;refine hK.o _ _ (⟨(bj _ c.M (18+a) _).cell ph.1 HH.o.q,(bj _ c.M (18+a) _).cell ph.2 HH.o.q⟩) ?_;clear hK K ph;intro ph
  try simp only[ai,aj,ak,ar]
  refine pb (by kernel_rfl) ?_ _;clear ph z0;go_wp2_with fail;go_ret
  have h0:=lV.o;subst h0;rw[gD];exact HH.o.1.put HH.o.2.1 HH.o.d.1 ((aw _ _).drew) ha rfl HH.o.t.1 rfl
theorem PK(hc:c.Fit)(hK:ui K)(h:MI c K w s)(x:aO)(a b:Nat)(ha:a<8)(hb:b<8)(jT:x.a=(a:Int))(qj:x.b=(b:Int)):
  Calls prog 103 #[.pointer (some ⟨c.M,0,none⟩),x.val] w (ly c K (gi x s (PG s.bI a b)) w):=by
 have H:=h.at_ hc hK x;have gA: ∀i,aK (s.bI i):=by obtain⟨_,_,_,_,_,_,_,h7⟩:=h;exact h7.1
 obtain⟨dk,xa,xb,xc,xn⟩:=x;simp only at jT qj H;subst jT qj;unfold aO.val;simp only;have i1:(0:Int)<=(a:Int):=by omega
 have i2:(a:Int)<8:=by omega
 have j1:(0:Int)<=(b:Int):=by omega
 have j2:(b:Int)<8:=by omega
 go_enter func103,ntmps103;go_upto_region 1 with fail;generalize w.alloc (.cells #[.int .i64 dk,.int .i64 (a:Int),.int .i64 (b:Int),.int .i64 xc,.int .i64 xn] 93)=w1 at H⊢;obtain⟨O,hO⟩:=qt (w.heap.size);rw[hO]at H⊢;have k0:=H.box;have CO:=H.ne hc;have z0:w1.cell? ⟨O,1,none⟩=some (.int .i64 (a:Int))/\w1.cell? ⟨O,2,none⟩=some (.int .i64 (b:Int)):=by simp[World.cell?,k0]
 have r2:=H.bI hb;have r1:=H.bI ha;have f1:=H.free (18+a);obtain⟨q,hq⟩: ∃q:Bool,decide (s.bI a<s.bI b)=q:=⟨_,rfl⟩;obtain⟨S0,vT⟩: ∃z:Int,(if q=true then 1 else 0)=z:=⟨_,rfl⟩;have lV:=al (show PG s.bI a b=S0 by unfold PG;rw[<-vT,<-hq];simp only[decide_eq_true_eq]);have hv:aK S0:=by rw[<-vT];split<;>exact⟨by decide,by decide⟩
 have HC:=al (fun W=>Tj W q);rw[vT]at HC;clear vT;have HH:=al (ab H (ab hc (ab hK (ab hv CO))));clear k0 H hc hK h hO gA hv CO;refine o0 (S:=(fun W=>W.cell? ⟨O,1,none⟩=some (.int .i64 (a:Int))/\W.cell? ⟨O,2,none⟩=some (.int .i64 (b:Int)))) (by kernel_rfl) z0 (fun ph=>?_);refine aI [0,1,2,3,4,5,6,7,8,10,11,12,13,14,15,19,20] ?_
 iterate 17 (refine bO (v:=?_) (fun _ ⟨s0,s1⟩=>?_) ph ?_;rotate_left;(go_simp;try rfl);try simp only[ai,aj,ak,ar])
 refine aJ ?_;refine pf (rs:=[9,16]) (by kernel_rfl) (by simp) (bE (i:=9) rfl (fun K hK=>?_) (bE (i:=16) rfl (fun K hK=>?_) oT))
 focus
  go_simp;refine hK.o _ _ (ph) ?_;clear hK K ph;intro ph
  try simp only[ai,aj,ak,ar]
  refine aW 16 (fun K hK=>?_)
 rotate_left
 focus
  go_simp;refine hK.o _ _ (ph) ?_;clear hK K ph;intro ph
  try simp only[ai,aj,ak,ar]
  refine aW 9 (fun K hK=>?_)
 all_goals
  go_simp;refine hK.o _ _ (ph) ?_;clear hK K ph;intro ph
  try simp only[ai,aj,ak,ar]
  refine dR 17 (v:=?_) (fun wS hSw=>?_) ph ?_;rotate_left
  ·obtain⟨s0,s1⟩:=hSw;go_simp;try rfl
  try simp only[ai,aj,ak,ar]
  refine aW 18 (fun K hK=>?_);go_simp;refine(HC.o _).m ?_;rintro e wn ⟨rfl,rfl⟩
  try go_simp
  refine hK.o _ _ (ph) ?_;clear hK K ph;intro ph
  try simp only[ai,aj,ak,ar]
  refine dR 21 (v:=?_) (fun wS hSw=>?_) ph ?_;rotate_left
  ·obtain⟨s0,s1⟩:=hSw;go_simp;try rfl
  try simp only[ai,aj,ak,ar]
  refine aW 22 (fun K hK=>?_);go_simp;refine hK.o _ _ (⟨(bj _ c.M (18+a) _).cell ph.1 HH.o.q,(bj _ c.M (18+a) _).cell ph.2 HH.o.q⟩) ?_;clear hK K ph;intro ph
  try simp only[ai,aj,ak,ar]
  refine pb (by kernel_rfl) ?_ _;clear ph z0;go_wp2_with fail;go_ret
  have h0:=lV.o;subst h0;rw[gD];exact HH.o.1.put HH.o.2.1 HH.o.d.1 ((aw _ _).drew) ha rfl HH.o.t.1 rfl
theorem Tm(hc:c.Fit)(hK:ui K)(h:MI c K w s)(x:aO)(a b:Nat)(ha:a<8)(hb:b<8)(jT:x.a=(a:Int))(qj:x.b=(b:Int)):
  Calls prog 102 #[.pointer (some ⟨c.M,0,none⟩),x.val] w (ly c K (gi x s (aZ (s.bI a*s.bI b))) w):=by
 have H:=h.at_ hc hK x;have gA: ∀i,aK (s.bI i):=by obtain⟨_,_,_,_,_,_,_,h7⟩:=h;exact h7.1
 obtain⟨dk,xa,xb,xc,xn⟩:=x;simp only at jT qj H;subst jT qj;unfold aO.val;simp only;have i1:(0:Int)<=(a:Int):=by omega
 have i2:(a:Int)<8:=by omega
 have j1:(0:Int)<=(b:Int):=by omega
 have j2:(b:Int)<8:=by omega
 go_enter func102,ntmps102;go_upto_region 1 with fail;generalize w.alloc (.cells #[.int .i64 dk,.int .i64 (a:Int),.int .i64 (b:Int),.int .i64 xc,.int .i64 xn] 93)=w1 at H⊢;obtain⟨O,hO⟩:=qt (w.heap.size);rw[hO]at H⊢;have k0:=H.box;have CO:=H.ne hc;have z0:w1.cell? ⟨O,1,none⟩=some (.int .i64 (a:Int))/\w1.cell? ⟨O,2,none⟩=some (.int .i64 (b:Int)):=by simp[World.cell?,k0]
 have r2:=H.bI hb;have r1:=H.bI ha;have f1:=H.free (18+a);obtain⟨S0,vT⟩:=qt (aZ (s.bI a*s.bI b));have lV:=al vT;have hv:aK S0:=by rw[<-vT];exact mV _
 have HC:=al (fun W=>Io W (s.bI a) (s.bI b) (gA a) (gA b));rw[vT]at HC;clear vT;have HH:=al (ab H (ab hc (ab hK (ab hv CO))));clear k0 H hc hK h hO gA hv CO;refine o0 (S:=(fun W=>W.cell? ⟨O,1,none⟩=some (.int .i64 (a:Int))/\W.cell? ⟨O,2,none⟩=some (.int .i64 (b:Int)))) (by kernel_rfl) z0 (fun ph=>?_);refine aI [0,1,2,3,4,5,6,7,8,10,11,12,13,14,15,18,19] ?_
 iterate 17 (refine bO (v:=?_) (fun _ ⟨s0,s1⟩=>?_) ph ?_;rotate_left;(go_simp;try rfl);try simp only[ai,aj,ak,ar])
 refine aJ ?_;refine pf (rs:=[9,16]) (by kernel_rfl) (by simp) (bE (i:=9) rfl (fun K hK=>?_) (bE (i:=16) rfl (fun K hK=>?_) oT))
 focus
  go_simp;refine hK.o _ _ (ph) ?_;clear hK K ph;intro ph
  try simp only[ai,aj,ak,ar]
  refine aW 16 (fun K hK=>?_)
 rotate_left
 focus
  go_simp;refine hK.o _ _ (ph) ?_;clear hK K ph;intro ph
  try simp only[ai,aj,ak,ar]
  refine aW 9 (fun K hK=>?_)
 all_goals
  go_simp;refine hK.o _ _ (ph) ?_;clear hK K ph;intro ph
  try simp only[ai,aj,ak,ar]
  refine aW 17 (fun K hK=>?_);go_simp;refine(HC.o _).m ?_;rintro e wn ⟨rfl,rfl⟩
  try go_simp
  refine hK.o _ _ (ph) ?_;clear hK K ph;intro ph
  try simp only[ai,aj,ak,ar]
  refine dR 20 (v:=?_) (fun wS hSw=>?_) ph ?_;rotate_left
  ·obtain⟨s0,s1⟩:=hSw;go_simp;try rfl
  try simp only[ai,aj,ak,ar]
  refine aW 21 (fun K hK=>?_);go_simp;refine hK.o _ _ (⟨(bj _ c.M (18+a) _).cell ph.1 HH.o.q,(bj _ c.M (18+a) _).cell ph.2 HH.o.q⟩) ?_;clear hK K ph;intro ph
  try simp only[ai,aj,ak,ar]
  refine pb (by kernel_rfl) ?_ _;clear ph z0;go_wp2_with fail;go_ret
  have h0:=lV.o;subst h0;rw[gD];exact HH.o.1.put HH.o.2.1 HH.o.d.1 ((aw _ _).drew) ha rfl HH.o.t.1 rfl
theorem Tp(hc:c.Fit)(hK:ui K)(h:MI c K w s)(x:aO)(a b:Nat)(ha:a<8)(hb:b<8)(jT:x.a=(a:Int))(qj:x.b=(b:Int)):
  Calls prog 101 #[.pointer (some ⟨c.M,0,none⟩),x.val] w (ly c K (gi x s (aZ (s.bI a-s.bI b))) w):=by
 have H:=h.at_ hc hK x;have gA: ∀i,aK (s.bI i):=by obtain⟨_,_,_,_,_,_,_,h7⟩:=h;exact h7.1
 obtain⟨dk,xa,xb,xc,xn⟩:=x;simp only at jT qj H;subst jT qj;unfold aO.val;simp only;have i1:(0:Int)<=(a:Int):=by omega
 have i2:(a:Int)<8:=by omega
 have j1:(0:Int)<=(b:Int):=by omega
 have j2:(b:Int)<8:=by omega
 go_enter func101,ntmps101;go_upto_region 1 with fail;generalize w.alloc (.cells #[.int .i64 dk,.int .i64 (a:Int),.int .i64 (b:Int),.int .i64 xc,.int .i64 xn] 93)=w1 at H⊢;obtain⟨O,hO⟩:=qt (w.heap.size);rw[hO]at H⊢;have k0:=H.box;have CO:=H.ne hc;have z0:w1.cell? ⟨O,1,none⟩=some (.int .i64 (a:Int))/\w1.cell? ⟨O,2,none⟩=some (.int .i64 (b:Int)):=by simp[World.cell?,k0]
 have r2:=H.bI hb;have r1:=H.bI ha;have f1:=H.free (18+a);obtain⟨S0,vT⟩:=qt (s.bI a-s.bI b);have lV:=al vT;have hw:=(PI gA a b).2;rw[vT]at hw⊢;have hv:=mV S0;have HC:=al (fun W=>mS W S0);have HH:=al (ab H (ab hc (ab hK (ab hv CO))));clear k0 H hc hK h hO gA hv CO;refine o0 (S:=(fun W=>W.cell? ⟨O,1,none⟩=some (.int .i64 (a:Int))/\W.cell? ⟨O,2,none⟩=some (.int .i64 (b:Int)))) (by kernel_rfl) z0 (fun ph=>?_);refine aI [0,1,2,3,4,5,6,7,8,10,11,12,13,14,15,19,20] ?_
 iterate 17 (refine bO (v:=?_) (fun _ ⟨s0,s1⟩=>?_) ph ?_;rotate_left;(go_simp;try rfl);try simp only[ai,aj,ak,ar])
 refine aJ ?_;refine pf (rs:=[9,16]) (by kernel_rfl) (by simp) (bE (i:=9) rfl (fun K hK=>?_) (bE (i:=16) rfl (fun K hK=>?_) oT))
 focus
  go_simp;refine hK.o _ _ (ph) ?_;clear hK K ph;intro ph
  try simp only[ai,aj,ak,ar]
  refine aW 16 (fun K hK=>?_)
 rotate_left
 focus
  go_simp;refine hK.o _ _ (ph) ?_;clear hK K ph;intro ph
  try simp only[ai,aj,ak,ar]
  refine aW 9 (fun K hK=>?_)
 all_goals
  go_simp;refine hK.o _ _ (ph) ?_;clear hK K ph;intro ph
  try simp only[ai,aj,ak,ar]
  refine dR 17 (v:=?_) (fun wS hSw=>?_) ph ?_;rotate_left
  ·obtain⟨s0,s1⟩:=hSw;go_simp;try rfl
  try simp only[ai,aj,ak,ar]
  refine aW 18 (fun K hK=>?_);go_simp;refine(HC.o _).m ?_;rintro e wn ⟨rfl,rfl⟩
  try go_simp
  refine hK.o _ _ (ph) ?_;clear hK K ph;intro ph
  try simp only[ai,aj,ak,ar]
  refine dR 21 (v:=?_) (fun wS hSw=>?_) ph ?_;rotate_left
  ·obtain⟨s0,s1⟩:=hSw;go_simp;try rfl
  try simp only[ai,aj,ak,ar]
  refine aW 22 (fun K hK=>?_);go_simp;refine hK.o _ _ (⟨(bj _ c.M (18+a) _).cell ph.1 HH.o.q,(bj _ c.M (18+a) _).cell ph.2 HH.o.q⟩) ?_;clear hK K ph;intro ph
  try simp only[ai,aj,ak,ar]
  refine pb (by kernel_rfl) ?_ _;clear ph z0;go_wp2_with fail;go_ret
  have h0:=lV.o;subst h0;rw[gD];exact HH.o.1.put HH.o.2.1 HH.o.d.1 ((aw _ _).drew) ha rfl HH.o.t.1 rfl
theorem PL(hc:c.Fit)(hK:ui K)(h:MI c K w s)(x:aO)(a:Nat)(ha:a<8)(jT:x.a=(a:Int))(hn:0<=x.n/\s.pc+x.n<=1000):
  Calls prog 110 #[.pointer (some ⟨c.M,0,none⟩),x.val] w (ly c K ({s with pc:=if s.bI a=0 then s.pc+x.n else s.pc},0) w):=by
 have H:=h.at_ hc hK x;obtain⟨dk,xa,xb,xc,xn⟩:=x;simp only at jT H hn;subst jT;unfold aO.val;simp only;have i1:(0:Int)<=(a:Int):=by omega
 have i2:(a:Int)<8:=by omega
 go_enter func110,ntmps110;go_upto_region 1 with fail;generalize w.alloc (.cells #[.int .i64 dk,.int .i64 (a:Int),.int .i64 xb,.int .i64 xc,.int .i64 xn] 93)=w1 at H⊢;obtain⟨O,hO⟩:=qt (w.heap.size);rw[hO]at H⊢;have k0:=H.box;have o1:w1.cell? ⟨O,1,none⟩=some (.int .i64 (a:Int)):=by simp[World.cell?,k0]
 have o4:w1.cell? ⟨O,4,none⟩=some (.int .i64 xn):=by simp[World.cell?,k0]
 have r1:=H.bI ha;have f1:=H.free 17;have TR:=H.mi;have hpc:w1.cell? ⟨c.M,17,none⟩=some (.int .i64 s.pc):=by obtain⟨_,hm,_⟩:=H.mi;exact hm.pc
 have hfit:s.Fit:=by obtain⟨_,_,_,_,_,_,_,h7⟩:=h;exact h7
 have hw:IntKind.i64.wrap (s.pc+xn)=s.pc+xn:=by rw[gr];have:=hfit.2.2;omega
 have HH:=al (ab H (ab hc (ab hK (ab hn hfit))));clear k0 H hc hK h hO hn hfit TR;by_cases hz:s.bI a=0
 ·rw[hz]at r1;have HZ:=al hz;clear hz
  go_region
  go_upto_region 2 with fail;have hb2:=(aw w1.heap.size w1).drew;have o4':w1.drew.cell? ⟨O,4,none⟩=some (.int .i64 xn):=o4;have ab1:w1.drew.cell? ⟨c.M,17,none⟩=some (.int .i64 s.pc):=hpc;have f1':w1.drew.frozen? ⟨c.M,17,none⟩=false:=f1;clear o1 o4 hpc f1 r1;generalize w1.drew=w2 at hb2 o4' ab1 f1'⊢;have HB:=al hb2;clear hb2
  go_still_tail 9,(by kernel_rfl)
  change wpList _ _ _ _ _ w2.drew;go_wp2;go_ret
  obtain⟨H,hc,hK,hn,hfit⟩:=HH.o;have hb2:=HB.o.drew;rw[gD];exact⟨rfl,(H.mi.below hc hK hb2).turn hc hK (bj w2.drew c.M 17 _) (fun f hm=>hm.Jg _) rfl rfl ⟨hfit.1,hfit.2.1,by have:=hfit.2.2;show 0<=s.pc+xn;omega,hn.2⟩,(oj (H.rC.x (hb2.m H.rC.size)) c.W).x ((bj w2.drew c.M 17 _).zt hc) (fun _ _ h=>h)⟩
 ·have HZ:=al hz;go_wp2
  go_region
  go_wp2;go_ret
  obtain⟨H,hc,hK,hn,hfit⟩:=HH.o;have hb2:=(aw w1.heap.size w1).drew;exact⟨rfl,H.mi.below hc hK hb2,oj (H.rC.x (hb2.m H.rC.size)) c.W⟩
theorem L5(hc:c.Fit)(hK:ui K)(h:MI c K w s)(x:aO)(a:Nat)(ha:a<8)(jT:x.a=(a:Int)):
  Calls prog 112 #[.pointer (some ⟨c.M,0,none⟩),x.val] w (ly c K ({s with value:=s.bI a},19) w):=by
 have H:=h.at_ hc hK x;obtain⟨dk,xa,xb,xc,xn⟩:=x;simp only at jT H;subst jT;unfold aO.val;simp only;have i1:(0:Int)<=(a:Int):=by omega
 have i2:(a:Int)<8:=by omega
 go_enter func112,ntmps112;go_upto_region 1 with fail;generalize w.alloc (.cells #[.int .i64 dk,.int .i64 (a:Int),.int .i64 xb,.int .i64 xc,.int .i64 xn] 93)=w1 at H⊢;obtain⟨O,hO⟩:=qt (w.heap.size);rw[hO]at H⊢;have k0:=H.box;have o1:w1.cell? ⟨O,1,none⟩=some (.int .i64 (a:Int)):=by simp[World.cell?,k0]
 have r1:=H.bI ha;have hfit:s.Fit:=by obtain⟨_,_,_,_,_,_,_,h7⟩:=h;exact h7
 have HH:=al (ab H (ab hc (ab hK hfit)));have hmm:=H.mi;obtain⟨f,hm,-⟩:=hmm;have f1:=hm.free 29;have v1:w1.cell? ⟨c.M,29,none⟩=some (.int .i64 s.value):=hm.value;clear k0 H hc hK h hO hfit hm
 go_still_tail 11,(by kernel_rfl)
 change wpList _ _ _ _ _ w1.drew;go_wp2;go_ret
 obtain⟨H,hc,hK,hfit⟩:=HH.o;have hb2:=(aw w1.heap.size w1).drew;exact⟨rfl,(H.mi.below hc hK hb2).turn hc hK (bj w1.drew c.M 29 _) (fun f hm=>hm.setValue _) rfl rfl hfit,(oj (H.rC.x (hb2.m H.rC.size)) c.W).x ((bj w1.drew c.M 29 _).zt hc) (fun _ _ h=>h)⟩
end
section
variable{c:RC}{K:(Nat->Prop)->ax->World->Prop}{w:World}{s:PS ax}
theorem PM{R:Type}{fuel:Int}{blk:PS R->PS R×Int}{k:Nat}{t:PS R}(h:fuel<=t.steps):loopGo fuel blk (k+1) t=(t,20):=by rw[loopGo,fi h]
theorem Tq{R:Type}{fuel:Int}{blk:PS R->PS R×Int}{k:Nat}{t u:PS R}{n:Int}(h: ¬fuel<=t.steps)(hb:blk {t with steps:=t.steps+1}=(u,n)):loopGo fuel blk (k+1) t=if n=0 then loopGo fuel blk k u else(u,n):=by rw[loopGo,ff h,hb]
def ab2(c:RC)(K:(Nat->Prop)->ax->World->Prop)(blk:PS ax->PS ax×Int)(w:World)(O C:Nat)(x:aO)(s:PS ax)(i:Value)(wr:World):Prop:=
 ∃(k:Nat) (t:PS ax),k<=C/\i=.int .i64 (k:Int)/\MI c K wr t/\Only c.W w wr/\wr.heap[O]?=some (.cells #[.int .i64 x.d,.int .i64 x.a,.int .i64 x.b,.int .i64 x.c,.int .i64 x.n] 93 (0,0))/\loopGo c.fuel blk C s=loopGo c.fuel blk (C-k) t
theorem PN{act:aO->PS ax->PS ax×Int}(hc:c.Fit)(hK:ui K)(h:MI c K w s)(x:aO)(fr N C:Nat)(Rn:s.pc=(fr:Int))(Rz:x.n=(N:Int))(zi:x.c=(C:Int))(hC:C<=1000)(Xl:fr+N<=c.ops.length)(ha:yo c K act fr (fr+N)):
  Calls prog 111 #[.pointer (some ⟨c.M,0,none⟩),x.val] w (ly c K (pC c.fuel c.ops act x s) w):=by
 have hop:=hc.ops;have H:=h.at_ hc hK x;have hps:pC c.fuel c.ops act x s=if(loopGo c.fuel (fun t=>dA c.fuel c.ops act (s.pc+x.n) x.n.toNat {t with pc:=s.pc}) x.c.toNat s).2=0 then({(loopGo c.fuel (fun t=>dA c.fuel c.ops act (s.pc+x.n) x.n.toNat {t with pc:=s.pc}) x.c.toNat s).1 with pc:=s.pc+x.n},0)else loopGo c.fuel (fun t=>dA c.fuel c.ops act (s.pc+x.n) x.n.toNat {t with pc:=s.pc}) x.c.toNat s:=rfl
 obtain⟨blk,hblk⟩:=qt ((fun t:PS ax=>dA c.fuel c.ops act (s.pc+x.n) x.n.toNat {t with pc:=s.pc}));rw[hblk]at hps
 have hbk: ∀t:PS ax,blk t=dA c.fuel c.ops act ((fr:Int)+(N:Int)) (fr+N-fr) {t with pc:=(fr:Int)}:=fun t=>by rw[<-hblk,Rn,Rz];simp only[jj];rw[show fr+N-fr=N by omega]
 obtain⟨dk,xa,xb,xc,xn⟩:=x;simp only at Rz zi H hps;subst Rz zi;rw[jj,Rn]at hps;unfold aO.val;simp only
 have hBk:=al (show ∀(W:World) (t:PS ax),MI c K W t->Calls prog 72 #[.pointer (some ⟨c.M,0,none⟩),.int .i64 (fr:Int),.int .i64 ((fr:Int)+(N:Int))] W (ly c K (blk t) W)from fun W t ht=>by
  have h:=ES hc hK ht fr (fr+N) (by omega) Xl ha;rw[Int.natCast_add]at h;rw[hbk]
  exact h)
 have HC:=al (ab hc (ab hK (ab hps (ab hbk (ab hC (show fr+N<=64 from by omega))))));go_enter func111,ntmps111;go_upto_region 1 with fail;generalize w.alloc (.cells #[.int .i64 dk,.int .i64 xa,.int .i64 xb,.int .i64 (C:Int),.int .i64 (N:Int)] 93)=w1 at H⊢;obtain⟨O,hO⟩:=qt (w.heap.size);rw[hO]at H⊢;have k0:=H.box;have o3:w1.cell? ⟨O,3,none⟩=some (.int .i64 (C:Int)):=by simp[World.cell?,k0]
 have hpc:w1.cell? ⟨c.M,17,none⟩=some (.int .i64 (fr:Int)):=by obtain⟨_,hm,_⟩:=H.mi;have:=hm.pc;simp only[RC.ms]at this;rw[Rn]at this;exact this
 have H1:=al (ab H Rn);clear h k0 hO hc hK H hps hblk hbk hop Xl ha Rn hC;go_wp2_with fail
 go_loopw [14] (fun i wr=>ab2 c K blk w O C ⟨dk,xa,xb,C,N⟩ s i wr) (fun i _=>C-(intOf i).toNat)
 case atStart=>exact⟨0,s,dq _,rfl,H1.o.1.mi,oj H1.o.1.rC c.W,H1.o.1.box,rfl⟩
 case round=>
  obtain⟨k,t,hk,rfl,hI,ho,ek,hgo⟩:=hrel
  rename World=>wr
  have HR:=al (ab hI (ab ho (ab ek hgo)));have o4:wr.cell? ⟨O,4,none⟩=some (.int .i64 (N:Int)):=by simp[World.cell?,ek]
  by_cases hlt:k<C
  ·obtain⟨q,hq⟩: ∃q,C-k=q+1:=⟨C-k-1,by omega⟩;rw[hq]at hgo;by_cases hd:c.fuel<=t.steps
   ·have HS:=al (EL HC.o.1 HC.o.2.1 hI hd);have HP:=al (show pC c.fuel c.ops act ⟨dk,xa,xb,C,N⟩ s=(t,20) by rw[HC.o.d.1,hgo,PM hd];rfl);clear hI ho ek hgo hq hd;go_wp2_with fail;refine HS.o.m ?_;rintro e w2 ⟨rfl,Mu,dY⟩;have H2:=al (ab Mu dY);clear Mu dY;go_wp2_with fail;go_ret
    rw[HP.o];exact⟨rfl,H2.o.1,HR.o.2.1.x H2.o.2 (fun _ _ h=>h)⟩
   ·have HS:=al (EK HC.o.1 HC.o.2.1 hI (by omega));obtain⟨u,n,hp⟩: ∃u n,blk {t with steps:=t.steps+1}=(u,n):=⟨_,_,rfl⟩;rw[Tq hd hp]at hgo;have HG:=al (ab hgo (ab hp hq));have HN:=al (show k+1<=C/\wrap64 ((k:Int)+1)=((k+1:Nat):Int)from⟨hlt,by have:=HC.o.q.1;unfold wrap64;omega⟩);have hw:IntKind.i64.wrap ((fr:Int)+(N:Int))=(fr:Int)+(N:Int):=by rw[gr];have:=HC.o.q.2;omega
    clear hI ho hgo hq hd hp o4;go_wp2_with fail;refine HS.o.m ?_;rintro e w2 ⟨rfl,Mu,dY⟩;have WW:=dY.heap ek (fun h=>H1.o.1.off (HC.o.1.sub _ h));have o4:w2.cell? ⟨O,4,none⟩=some (.int .i64 (N:Int)):=by simp[World.cell?,WW]
    have H2:=al (ab Mu (ab dY WW));have HB:=al (hBk.o w2 _ Mu);rw[HG.o.2.1]at HB;clear Mu dY WW ek HS;go_wp2_with fail;refine HB.o.m ?_;rintro e w3 ⟨rfl,hI3,rA⟩;simp only at hI3;have aaC:=rA.heap H2.o.d (fun h=>H1.o.1.off (HC.o.1.sub _ h));have H3:=al (ab hI3 (ab ((HR.o.2.1.x H2.o.2.1 (fun _ _ h=>h)).x rA (fun _ _ h=>h)) aaC));clear hI3 rA aaC HB o4;by_cases hn:n=0
    ·subst hn;have HP:=al (HG.o.1.x (fi rfl));go_wp2_with fail;go_roundw
     case rel=>exact⟨k+1,u,HN.o.1,eM _ HN.o.2,H3.o.1,H3.o.2.1,H3.o.d,by rw[HP.o,show C-(k+1)=q by have:=HG.o.d;omega]⟩
     case measure=>rw[HN.o.2];simp only[intOf,jj];have:=HG.o.d;omega
    ·have oC:(n==0)=false:=by simpa using hn
     have HP:=al (show pC c.fuel c.ops act ⟨dk,xa,xb,C,N⟩ s=(u,n) by rw[HC.o.d.1,HG.o.1,ff hn,ff hn]);clear hn;go_wp2_with fail;go_ret
     rw[HP.o];exact⟨rfl,H3.o.1,H3.o.2.1⟩
  ·have hkC:k=C:=by omega
   subst hkC;have HP:=al (show pC c.fuel c.ops act ⟨dk,xa,xb,k,N⟩ s=({t with pc:=(fr:Int)+(N:Int)},0) by rw[HC.o.d.1,hgo,Nat.sub_self];rfl);have hw:IntKind.i64.wrap ((fr:Int)+(N:Int))=(fr:Int)+(N:Int):=by rw[gr];have:=HC.o.q.2;omega
   obtain⟨f,hm,-⟩:=id hI;have f17:=hm.free 17;have p17:wr.cell? ⟨c.M,17,none⟩=some (.int .i64 t.pc):=hm.pc;have hfit:t.Fit:=by obtain⟨_,_,_,_,_,_,_,h7⟩:=hI;exact h7
   have HF:=al hfit;clear hI ho ek hgo hm hfit;go_wp2_with fail;go_ret
   rw[HP.o];refine⟨rfl,HR.o.1.turn HC.o.1 HC.o.2.1 (bj wr c.M 17 _) (fun f hm=>hm.Jg _) rfl rfl ⟨HF.o.1,HF.o.2.1,by show(0:Int)<=(fr:Int)+(N:Int);omega,by show(fr:Int)+(N:Int)<=1000;have:=HC.o.q.2;omega⟩,HR.o.2.1.x ((bj wr c.M 17 _).zt HC.o.1) (fun _ _ h=>h)⟩
end
end Go.Proofs.YtmkofmeojbcakaaGreatDoor
