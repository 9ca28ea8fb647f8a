import Derived.Test.YtagemonojdgbdaaGreatDoorF36
import Derived.Deep.RegionWith
namespace Go.Proofs.YtagemonojdgbdaaGreatDoor
set_option maxRecDepth 100000
set_option maxHeartbeats 16000000
open Go.RowKit
structure RC where
 M:Nat
 S:Nat->Prop
 W:Nat->Prop
 Z:Nat->Prop
 ops:List aH
 opsV:Value
 b:Value
 fuel:Int
 may:Value
 ok:Cl->Bool
 lo:Nat
def RC.ms{R:Type}(c:RC)(s:PS R)(f:Value):MS:=⟨c.opsV,s.pc,s.bj,c.b,c.fuel,c.may,s.value,s.steps,f,0⟩
structure RC.Fit (c:RC):Prop where
 own:c.S c.M
 SN:c.W c.M
 sub: ∀k,c.W k->c.S k
 SP:c.Z c.M
 SQ: ∀k,c.Z k->c.S k
 low:c.lo<=c.M
 ops:c.ops.length<=64
 fuel:0<=c.fuel/\c.fuel<=10000
def PS.Fit{R:Type}(s:PS R):Prop:=(∀i,aI (s.bj i))/\(0<=s.steps/\s.steps<=10000)/\0<=s.pc/\s.pc<=1000
structure qE {R:Type} (K:(Nat->Prop)->R->World->Prop):Prop where
 only: ∀(Z:Nat->Prop) (r:R) (w w':World) (G:Nat->Prop),(∀k,G k->Z k)->K Z r w->Only G w w'->K Z r w'
 fB: ∀(Z:Nat->Prop) (r:R) (w:World) (b:Nat),K Z r w->w.heap.size<=b->K (fun k=>Z k\/k=b) r w
 back: ∀(Z Z':Nat->Prop) (r:R) (w:World),(∀k,Z' k->Z k)->K Z r w->K Z' r w
def MI{R:Type}(c:RC)(K:(Nat->Prop)->R->World->Prop)(w:World)(s:PS R):Prop:=
 ∃f,aD w c.M (c.ms s f)/\jc w c.S f s.cl/\vt w c.S c.may c.ok/\gP w (fun k=> ¬c.S k) c.opsV c.ops/\K c.Z s.rows w/\(∀k,c.S k->k<w.heap.size)/\s.Fit
def ku{R:Type}(c:RC)(K:(Nat->Prop)->R->World->Prop)(p:PS R×Int)(w:World)(e:Ending)(w':World):Prop:=e=.returned (.int .i64 p.2)/\MI c K w' p.1/\Only c.W w w'
section
variable{R:Type}{c:RC}{K:(Nat->Prop)->R->World->Prop}{w w':World}{s s':PS R}
theorem gP.only{S G:Nat->Prop}{v:Value}{l:List aH}(h:gP w G v l)(ho:Only S w w')(hd: ∀k,G k-> ¬S k):gP w' G v l:=cd.only h ho hd
theorem MI.turn(h:MI c K w s)(hc:c.Fit)(hK:qE K)(ho:Only (fun k=>k=c.M) w w')(hm: ∀f,aD w c.M (c.ms s f)->aD w' c.M (c.ms s' f))(hcl:s'.cl=s.cl)(hr:s'.rows=s.rows)(hf:s'.Fit):MI c K w' s':=by
 obtain⟨f,h1,h2,h3,h4,h5,h6,h7⟩:=h;have hS: ∀k,k=c.M->c.S k:=fun k hk=>by subst hk;exact hc.own
 refine⟨f,hm f h1,by rw[hcl];exact h2.only ho hS,h3.only ho hS,h4.only ho (fun k hk e=>hk (hS k e)),by rw[hr];exact hK.only _ _ _ _ _ (fun k hk=>by subst hk;exact hc.SP) h5 ho,fun k hk=>cq (h6 k hk) ho.size,hf⟩
theorem MI.below(h:MI c K w s)(hc:c.Fit)(hK:qE K)(hb:Below w.heap.size w w'):MI c K w' s:=
 h.turn hc hK (oy hb _) (fun f hm=>hm.below hb) rfl rfl (by obtain⟨_,_,_,_,_,_,_,h7⟩:=h;exact h7)
theorem Only.xf(hc:c.Fit)(ho:Only (fun k=>k=c.M) w w'):Only c.W w w':=ho.mono (fun k _ hk=>by subst hk;exact hc.SN)
theorem CR(hc:c.Fit)(hK:qE K)(h:MI c K w s)(hlt:s.steps<c.fuel):
  Calls Tryz.prog 114 #[.pointer (some ⟨c.M,0,none⟩)] w (ku c K ({s with steps:=s.steps+1},0) w):=by
 have h0:=h;obtain⟨f,h1,_,_,_,_,_,h7⟩:=h;refine(Ps w c.M (c.ms s f) h1 h7.2.1.1 (by have:=h7.2.1.2;simp only[RC.ms];omega) hlt).mono ?_;rintro e w' ⟨rfl,hm,ho⟩;refine⟨rfl,?_,ho.xf hc⟩;have hf:=hc.fuel;obtain⟨f',g1,g2,g3,g4,g5,g6,g7⟩:=h0
 obtain rfl:f'=f:=by have:=g1.foot;rw[h1.foot]at this;simp only[RC.ms,fj]at this;exact this.symm
 exact(show MI c K w s from⟨f',g1,g2,g3,g4,g5,g6,g7⟩).turn hc hK ho (fun T3 E2=>by
  obtain rfl:T3=f':=by have:=E2.foot;rw[h1.foot]at this;simp only[RC.ms,fj]at this;exact this.symm
  exact hm) rfl rfl ⟨g7.1,⟨by show 0<=s.steps+1;have:=g7.2.1.1;omega,by show s.steps+1<=10000;omega⟩,g7.2.2⟩
theorem CS(hc:c.Fit)(hK:qE K)(h:MI c K w s)(hle:c.fuel<=s.steps):
  Calls Tryz.prog 114 #[.pointer (some ⟨c.M,0,none⟩)] w (ku c K (s,20) w):=by
 have h0:=h;obtain⟨f,h1,_,_,_,_,_,h7⟩:=h;refine(Pt w c.M (c.ms s f) h1 hle).mono ?_;rintro e w' ⟨rfl,hm,ho⟩
 exact⟨rfl,h0.turn hc hK ho (fun T3 E2=>by
  obtain rfl:T3=f:=by have:=E2.foot;rw[h1.foot]at this;simp only[RC.ms,fj]at this;exact this.symm
  exact hm) rfl rfl h7,ho.xf hc⟩
end
def RC.fB(c:RC)(R0:Nat):RC:={c with S:=fun k=>c.S k\/k=R0,Z:=fun k=>c.Z k\/k=R0}
theorem RC.Fit.fB{c:RC}(h:c.Fit)(R0:Nat):(c.fB R0).Fit:=⟨.inl h.own,h.SN,fun k hk=>.inl (h.sub k hk),.inl h.SP,fun k hk=>hk.elim (fun h'=>.inl (h.SQ k h')) .inr,h.low,h.ops,h.fuel⟩
theorem cd.bound{k:Nat}{w:World}{F:Nat->Prop}{v:Value}{xs:List (List Value)}(h:cd k w F v xs)(hk: ∀x∈xs,x.length=k)(dX:0<k):cd k w (fun b=>F b/\b<w.heap.size) v xs:=by obtain⟨A,n,c,h1,h2,h3,h4,h5⟩:=h;refine⟨A,n,c,h1,h2,h3,h4,fun h0=>?_⟩;obtain⟨b,o,e1,e2,e3⟩:=h5 h0;refine⟨b,o,e1,⟨e2,?_⟩,e3⟩;obtain⟨x,hx⟩: ∃x,xs[0]?=some x:=⟨_,ao (by omega)⟩;have hxl:=hk x (dd hx);exact aE _ _ (e3 0 x hx 0 _ (ao (by omega)))
theorem MI.fB{R:Type}{c:RC}{K:(Nat->Prop)->R->World->Prop}{w w1:World}{s:PS R}{R0:Nat}(h:MI c K w s)(hc:c.Fit)(hK:qE K)(hb:Below w.heap.size w w1)(hR:w.heap.size<=R0)(ZQ:R0<w1.heap.size):MI (c.fB R0) K w1 s:=by
 have h':=h.below hc hK hb;obtain⟨f,h1,h2,h3,h4,h5,h6,h7⟩:=h;obtain⟨f',g1,_,_,_,g5,g6,_⟩:=h';have ho:=qe hb;have hF: ∀k,(¬c.S k/\k<w.heap.size)-> ¬(c.fB R0).S k:=fun k hk hs=>hs.elim hk.1 (fun e=>by omega)
 have XK:f'=f:=by have e1:=g1.foot;rw[(h1.below hb).foot]at e1;simp only[RC.ms,fj]at e1;exact e1.symm
 subst XK;refine⟨f',g1,⟨(cd.mono (cd.bound h2.1 (di _) (by decide)) hF).only ho (fun _ _ h=>h),h2.2⟩,?_,cd.only (cd.mono (cd.bound h4 (fun x hx=>by obtain⟨y,_,rfl⟩:=ep.1 hx;rfl) (by decide)) hF) ho (fun _ _ h=>h),hK.only _ _ _ _ _ (fun _ h=>h.elim) (hK.fB _ _ _ _ h5 hR) ho,fun k hk=>hk.elim (g6 k) (fun e=>by omega),h7⟩;rcases h3 with h3|⟨B,fv,f,e1,e2,e3,e4,e5⟩
 ·exact .inl h3
 ·exact .inr ⟨B,fv,f,e1,hF B ⟨e2,aE _ _ e3⟩,ho.cell e3 (fun h=>h),(cd.mono (cd.bound e4 (di _) (by decide)) hF).only ho (fun _ _ h=>h),e5⟩
theorem MI.back{R:Type}{c:RC}{K:(Nat->Prop)->R->World->Prop}{w w':World}{s:PS R}{R0:Nat}(h:MI (c.fB R0) K w s)(hR: ¬c.S R0)(hc:c.Fit)(hK:qE K)(ho:Only (fun k=>k=R0) w w'):MI c K w' s:=by
 obtain⟨f,h1,h2,h3,h4,h5,h6,h7⟩:=h;have hT: ∀k,k=R0->(c.fB R0).S k:=fun k hk=>.inr hk;have hF: ∀k,¬(c.fB R0).S k-> ¬c.S k:=fun k hk hs=>hk (.inl hs);refine⟨f,h1.only ho (fun e=>hR (by rw[<-e];exact hc.own)),⟨cd.mono (h2.only ho hT).1 hF,h2.2⟩,?_,cd.mono (h4.only ho (fun k hk e=>hk (hT k e))) hF,hK.back _ _ _ _ (fun k hk=>.inl hk) (hK.only _ _ _ _ _ (fun k hk=>.inr hk) h5 ho),fun k hk=>cq (h6 k (.inl hk)) ho.size,h7⟩;rcases h3.only ho hT with h3|⟨B,fv,f,e1,e2,e3,e4,e5⟩
 ·exact .inl h3
 ·exact .inr ⟨B,fv,f,e1,hF B e2,e3,cd.mono e4 hF,e5⟩
def Af:Nat->FuncId
 |1=>99
 |2=>100
 |3=>101
 |4=>102
 |5=>103
 |6=>104
 |7=>105
 |8=>106
 |9=>107
 |10=>108
 |11=>109
 |12=>110
 |13=>111
 |14=>112
 |_=>113
theorem aD.act{w:World}{M:Nat}{s:MS}(h:aD w M s){d:Nat}(h1:1<=d)(h2:d<=15):w.cell? ⟨M,1+d,none⟩=some (ov (Af d)):=by
 match d,h1,h2 with
 |1,_,_|2,_,_|3,_,_|4,_,_|5,_,_|6,_,_|7,_,_|8,_,_|9,_,_|10,_,_|11,_,_|12,_,_|13,_,_|14,_,_|15,_,_=>simp[World.cell?,h.is,MS.cells,Af]
theorem CT{d:Nat}(h1:1<=d)(h2:d<=15): ∀args w,(callFunc (Af d) args).run Tryz.prog w=.ok (.enter (Af d) args) w:=by
 match d,h1,h2 with
 |1,_,_=>exact enters_of Tryz.func99 (by kernel_rfl) rfl
 |2,_,_=>exact enters_of Tryz.func100 (by kernel_rfl) rfl
 |3,_,_=>exact enters_of Tryz.func101 (by kernel_rfl) rfl
 |4,_,_=>exact enters_of Tryz.func102 (by kernel_rfl) rfl
 |5,_,_=>exact enters_of Tryz.func103 (by kernel_rfl) rfl
 |6,_,_=>exact enters_of Tryz.func104 (by kernel_rfl) rfl
 |7,_,_=>exact enters_of Tryz.func105 (by kernel_rfl) rfl
 |8,_,_=>exact enters_of Tryz.func106 (by kernel_rfl) rfl
 |9,_,_=>exact enters_of Tryz.func107 (by kernel_rfl) rfl
 |10,_,_=>exact enters_of Tryz.func108 (by kernel_rfl) rfl
 |11,_,_=>exact enters_of Tryz.func109 (by kernel_rfl) rfl
 |12,_,_=>exact enters_of Tryz.func110 (by kernel_rfl) rfl
 |13,_,_=>exact enters_of Tryz.func111 (by kernel_rfl) rfl
 |14,_,_=>exact enters_of Tryz.func112 (by kernel_rfl) rfl
 |15,_,_=>exact enters_of Tryz.func113 (by kernel_rfl) rfl
def fL(w:World):Prop:=Lib.TabIs Tryz.prog w "internal/strconv.uint64pow10" .u64 Lib.pow10Tab
theorem Tryz.g10:Tryz.prog.globalNamed "internal/strconv.uint64pow10" =some 5:=by kernel_rfl
theorem fL.lt{w:World}(h:fL w):5<w.heap.size:=by
 unfold fL Lib.TabIs World.var? at h;rw[Tryz.g10]at h;simp only[Option.bind_some]at h;rcases Nat.lt_or_ge 5 w.heap.size with h'|h'
 ·exact h'
 ·rw[Array.getElem?_eq_none h']at h;cases h
theorem fL.only{S:Nat->Prop}{w w':World}(h:fL w)(ho:Only S w w')(hS: ¬S 5):fL w':=by have hlt:=h.lt;unfold fL Lib.TabIs World.var? at h⊢;rw[Tryz.g10]at h⊢;simp only[Option.bind_some]at h⊢;rw[ho.block _ hlt hS];exact h
theorem fL.below{w w':World}(h:fL w)(hb:Below w.heap.size w w'):fL w':=h.only (qe hb) (fun h=>h)
theorem E3(w:World)(k:Nat)(os:Array Obj):Below w.heap.size w (Sort.grow (w.drewN k) os):=by
 have h0:=aw w.heap.size w;refine⟨h0.os,h0.tape,h0.output,?_,fun j hj=>?_⟩
 ·show w.heap.size<=(w.heap++os).size;simp
 ·show(w.heap++os)[j]?=w.heap[j]?;rw[Array.getElem?_append_left hj]
theorem Ag(w:World)(n:Int)(hn:jN n)(ht:fL w):Calls Tryz.prog 147 #[.int .i64 n] w fun e w'=>e=.returned (.string ⟨(Lib.itoa n).toArray⟩)/\Below w.heap.size w w':=by
 have H:=al (Any.strconv_Itoa Tryz.Kr n hn.1 hn.2 w ht);clear ht;go_enter Tryz.func147,Tryz.ntmps147;go_wp2_with fail;refine H.out.mono ?_;rintro e w' ⟨rfl,k,os,rfl⟩;have HB:=al (E3 w k os);generalize Sort.grow (w.drewN k) os=w2 at HB⊢;go_wp2_with fail;go_ret
 exact⟨rfl,HB.out⟩
section
variable{R:Type}{c:RC}{K:(Nat->Prop)->R->World->Prop}
theorem lN{w:World}{s:PS R}(hc:c.Fit)(hK:qE K)(h:MI c K w s)(l:List Cl)(v:Value)(hl:dJ w (fun k=> ¬c.S k) v l)(hlen:l.length<=1000)(hg:Good l):
  Calls Tryz.prog 148 #[.pointer (some ⟨c.M,0,none⟩),v] w fun e w'=>e=.returned (.int .i64 (aP c.ok s.cl l).2)/\MI c K w' {s with cl:=(aP c.ok s.cl l).1}/\Only (fun k=>k=c.M) w w':=by
 obtain⟨f,h1,h2,h3,h4,h5,h6,h7⟩:=h;refine(Mn w c.S c.M (c.ms s f) c.ok s.cl l v h1 hc.own h6 h2 h3 hl hlen hg).mono ?_;rintro e w' ⟨f',rfl,g1,g2,g3⟩;have hS: ∀k,k=c.M->c.S k:=fun k hk=>by subst hk;exact hc.own
 exact⟨rfl,⟨f',g1,g2,h3.only g3 hS,h4.only g3 (fun k hk e=>hk (hS k e)),hK.only _ _ _ _ _ (fun k hk=>by subst hk;exact hc.SP) h5 g3,fun k hk=>cq (h6 k hk) g3.size,h7⟩,g3⟩
end
def ZR(r:Option Rw)(w:World)(e:Ending)(w':World):Prop:=
 e=.returned (.tuple #[(r.getD .zero).val,.int .i64 (if r.isSome then 0 else 14)])/\Below w.heap.size w w'
def yD{R:Type}(b:Value)(K:(Nat->Prop)->R->World->Prop)(get:R->List UInt8->Option Rw):Prop:=
 ∀(Z:Nat->Prop) (r:R) (w:World) (k:List UInt8),K Z r w->cQ k=0->Calls Tryz.prog 38 #[b,.string ⟨k.toArray⟩] w (ZR (get r k) w)
def Mq{R:Type}(K:(Nat->Prop)->R->World->Prop):Prop:= ∀Z r w,K Z r w->fL w
section
variable{R:Type}{c:RC}{K:(Nat->Prop)->R->World->Prop}{get:R->List UInt8->Option Rw}
def rowP(ok:Cl->Bool)(get:R->List UInt8->Option Rw)(i:Nat)(s:PS R):PS R×Option Rw×Int:=
 let p:=aP ok s.cl [fK (s.bj i)]
 ({s with cl:=p.1},if p.2=0 then get s.rows (Lib.itoa (s.bj i))else none,p.2)
def ZT(c:RC)(K:(Nat->Prop)->R->World->Prop)(p:PS R×Option Rw×Int)(w:World)(e:Ending)(w':World):Prop:=
 e=.returned (.tuple #[(p.2.1.getD .zero).val,.bool p.2.1.isSome,.int .i64 p.2.2])/\MI c K w' p.1/\Only c.W w w'
theorem Mr{w:World}{s:PS R}(hc:c.Fit)(hK:qE K)(hT:Mq K)(hG:yD c.b K get)(h:MI c K w s)(i:Nat)(hi:i<8):
  Calls Tryz.prog 146 #[.pointer (some ⟨c.M,0,none⟩),.int .i64 i] w (ZT c K (rowP c.ok get i s) w):=by
 have hb0:=af w (.cells #[.int .i64 0,.int .i64 0,.int .i64 0,.int .i64 0] 26);have k0:=an w (.cells #[.int .i64 0,.int .i64 0,.int .i64 0,.int .i64 0] 26);have h1:=h.fB hc hK hb0 (aq _) (by simp);have hlo:c.lo<=w.heap.size:=by obtain⟨_,hm,_⟩:=h;have:=hm.lt;have:=hc.low;omega
 have HC:=al (ab hc (ab hK (ab hT (ab hG hlo))));have HS:=al (show ∀k,c.S k->k<w.heap.size by obtain⟨_,_,_,_,_,_,h6,_⟩:=h;exact h6);have i1:(0:Int)<=(i:Int):=by omega
 have i2:(i:Int)<8:=by omega
 go_enter Tryz.func146,Tryz.ntmps146;go_upto_region 1 with fail;generalize w.alloc (.cells #[.int .i64 0,.int .i64 0,.int .i64 0,.int .i64 0] 26)=w1 at hb0 k0 h1⊢;obtain⟨R0,hR⟩: ∃x,w.heap.size=x:=⟨_,rfl⟩;rw[hR]at k0 h1⊢;have HR:=al (ab hR (ab hb0 k0));have HI:=al h1;obtain⟨f,hm,_,_,_,hk,_,hfit⟩:=h1;have c1:=hm.bj hi;have fT:=hfit.1 i;have SR:=al (ab (Ag w1 (s.bj i) fT.i64 (hT _ _ _ hk)) fT);simp only[RC.ms]at c1;have HL:=al (hc.fB R0);clear h hb0 k0 hR hm hk hfit fT hc hK hT hG hlo;change World.cell? w1 ⟨c.M,18+i,none⟩=_ at c1;go_wp2_with fail;refine SR.out.1.mono ?_;rintro e w2 ⟨rfl,hb2⟩;have h2:=HI.out.below HL.out HC.out.2.1 hb2;have Wx:=HR.out.2.1.trans (hb2.mono HR.out.2.1.size);have k2:=pw hb2 HR.out.2.2;have cK:=af w2 (.cells #[.bool false,.int .i64 (-1),.string ⟨(Lib.itoa (s.bj i)).toArray⟩,.int .i64 0,.int .i64 0] 48);have kx:=an w2 (.cells #[.bool false,.int .i64 (-1),.string ⟨(Lib.itoa (s.bj i)).toArray⟩,.int .i64 0,.int .i64 0] 48);have H2:=al (ab h2 (ab Wx (ab k2 (ab cK kx))));clear hb2 h2 Wx k2 cK kx c1 HI;go_wp2_with fail;have H3:=H2.out;clear H2;generalize w2.alloc (.cells #[.bool false,.int .i64 (-1),.string ⟨(Lib.itoa (s.bj i)).toArray⟩,.int .i64 0,.int .i64 0] 48)=w3 at H3⊢;obtain⟨h2,hb2,k2,cK,kx⟩:=H3;obtain⟨X,hX⟩: ∃x,w2.heap.size=x:=⟨_,rfl⟩;have TS:R0<X:=by have:=aO k2;omega
 have h3:=h2.below HL.out HC.out.2.1 cK;have hb3:=hb2.trans (cK.mono hb2.size);have k3:=pw cK k2;rw[hX]at kx⊢
 have hcl:=iQ (l:=[fK (s.bj i)]) (F:=fun k=> ¬(c.fB R0).S k) kx rfl (fun hs=>by
  rcases hs with hs|hs
  ·have:=HS.out X hs;have:=HR.out.1;omega
  ·omega) (by simp[maxLen])
 have H3:=al (ab hb3 k3);have Du:=al (lN HL.out HC.out.2.1 h3 [fK (s.bj i)] _ hcl (by simp) (jY SR.out.2));obtain⟨cl',n,hp⟩: ∃cl' n,aP c.ok s.cl [fK (s.bj i)]=(cl',n):=⟨_,_,rfl⟩;rw[show(c.fB R0).ok=c.ok from rfl,hp]at Du;have HP:=al hp;clear h2 hb2 k2 cK kx hX TS h3 hb3 k3 hcl hp;refine Du.out.mono ?_;rintro e w4 ⟨rfl,xg,nv⟩;have R4: ¬c.S R0:=fun hs=>by have:=HS.out R0 hs;have:=HR.out.1;omega
 have hRM: ¬R0=c.M:=fun e=>R4 (by rw[e];exact HC.out.1.own);have k4:=nv.heap H3.out.2 hRM;have CU:Only c.W w w4:=(oy H3.out.1 _).trans nv (fun k _ hk=>by subst hk;exact HC.out.1.SN);have H4:=al (ab xg (ab CU (ab k4 R4)));obtain⟨⟨z0,z1,z2,z3⟩,y0,y1,y2,y3⟩:=ct k4;clear nv k4 CU Du R4 hRM;by_cases hn:n=0
 ·subst hn;obtain⟨f4,NL,_,_,_,hk4,_,Wy⟩:=xg;have Y2:=NL.b;simp only[RC.ms]at Y2;change World.cell? w4 ⟨c.M,26,none⟩=_ at Y2;have HG:=al (HC.out.2.2.2.1 _ s.rows w4 (Lib.itoa (s.bj i)) hk4 (uW SR.out.2));clear NL hk4 Wy;go_wp2_with fail;have hbc:(c.fB R0).b=c.b:=rfl;rw[hbc];obtain⟨q,hq⟩: ∃q,get s.rows (Lib.itoa (s.bj i))=q:=⟨_,rfl⟩;rw[hq]at HG;have HQ:=al hq;clear hq hbc;refine HG.out.mono ?_;rintro e w5 ⟨rfl,gq⟩
  cases q with
  |none=>
   simp only[Option.getD_none,mv,Rw.val,Rw.zero];have hbz:=af w5 (.cells #[.int .i64 0,.int .i64 0,.int .i64 0,.int .i64 0] 26);have iL:=gq.trans (hbz.mono gq.size);have k6:=pw iL H4.out.2.2.1;have kz:=ct (an w5 (.cells #[.int .i64 0,.int .i64 0,.int .i64 0,.int .i64 0] 26));have hne: ¬w5.heap.size=R0:=by have:=aO H4.out.2.2.1;have:=gq.size;omega
   have H6:=al (ab iL (ab k6 (ab hne kz)));clear hbz iL k6 gq hne kz;go_upto_region 6 with fail;have H7:=H6.out;clear H6;generalize w5.alloc (.cells #[.int .i64 0,.int .i64 0,.int .i64 0,.int .i64 0] 26)=w6 at H7⊢;generalize w5.heap.size=Z at H7⊢;obtain⟨iL,k6,hne,⟨x0,x1,x2,x3⟩,_⟩:=H7;obtain⟨⟨z0,z1,z2,z3⟩,y0,y1,y2,y3⟩:=ct k6;have H6:=al (ab iL k6);clear iL k6;go_wp2_with fail;have sZ:=rU (v0:=.int .i64 0) (v1:=.int .i64 0) (v2:=.int .i64 0) (v3:=.int .i64 0) H6.out.2;have ho:=(((aT w6 R0 0 (.int .i64 0)).setCell (p:=⟨R0,1,none⟩) (fun _=>rfl) (.int .i64 0)).setCell (p:=⟨R0,2,none⟩) (fun _=>rfl) (.int .i64 0)).setCell (p:=⟨R0,3,none⟩) (fun _=>rfl) (.int .i64 0);have HO:=al (ab sZ ho);clear sZ ho;generalize ((((w6.setCell ⟨R0,0,none⟩ (.int .i64 0)).setCell ⟨R0,1,none⟩ (.int .i64 0)).setCell ⟨R0,2,none⟩ (.int .i64 0)).setCell ⟨R0,3,none⟩ (.int .i64 0))=w7 at HO⊢;refine dq (b6 rfl _ _ _ _ _ _ _ rfl HO.out.1 Tryz.underlying26 rfl (by kernel_rfl)) rfl ⟨?_,?_,?_⟩
   ·unfold rowP;rw[HP.out];simp only[if_true,HQ.out];rfl
   ·unfold rowP;rw[HP.out];exact(H4.out.1.below HL.out HC.out.2.1 H6.out.1).back H4.out.2.2.2 HC.out.1 HC.out.2.1 HO.out.2
   ·exact(H4.out.2.1.trans (oy H6.out.1 c.W) (fun _ _ h=>h)).trans HO.out.2 (fun k hk hs=>by have:=HR.out.1;omega)
  |some rho=>
   obtain⟨ra,rb,rc,rd⟩:=rho;simp only[ns,me,Rw.val,if_true];have hbz:=af w5 (.cells #[.int .i64 ra,.int .i64 rb,.int .i64 rc,.int .i64 rd] 26);have iL:=gq.trans (hbz.mono gq.size);have k6:=pw iL H4.out.2.2.1;have kz:=ct (an w5 (.cells #[.int .i64 ra,.int .i64 rb,.int .i64 rc,.int .i64 rd] 26));have hne: ¬w5.heap.size=R0:=by have:=aO H4.out.2.2.1;have:=gq.size;omega
   have H6:=al (ab iL (ab k6 (ab hne kz)));clear hbz iL k6 gq hne kz;go_upto_region 6 with fail;have H7:=H6.out;clear H6;generalize w5.alloc (.cells #[.int .i64 ra,.int .i64 rb,.int .i64 rc,.int .i64 rd] 26)=w6 at H7⊢;generalize w5.heap.size=Z at H7⊢;obtain⟨iL,k6,hne,⟨x0,x1,x2,x3⟩,_⟩:=H7;obtain⟨⟨z0,z1,z2,z3⟩,y0,y1,y2,y3⟩:=ct k6;have H6:=al (ab iL k6);clear iL k6;go_wp2_with fail;have sZ:=rU (v0:=.int .i64 ra) (v1:=.int .i64 rb) (v2:=.int .i64 rc) (v3:=.int .i64 rd) H6.out.2;have ho:=(((aT w6 R0 0 (.int .i64 ra)).setCell (p:=⟨R0,1,none⟩) (fun _=>rfl) (.int .i64 rb)).setCell (p:=⟨R0,2,none⟩) (fun _=>rfl) (.int .i64 rc)).setCell (p:=⟨R0,3,none⟩) (fun _=>rfl) (.int .i64 rd);have HO:=al (ab sZ ho);clear sZ ho;generalize ((((w6.setCell ⟨R0,0,none⟩ (.int .i64 ra)).setCell ⟨R0,1,none⟩ (.int .i64 rb)).setCell ⟨R0,2,none⟩ (.int .i64 rc)).setCell ⟨R0,3,none⟩ (.int .i64 rd))=w7 at HO⊢;refine dq (b6 rfl _ _ _ _ _ _ _ rfl HO.out.1 Tryz.underlying26 rfl (by kernel_rfl)) rfl ⟨?_,?_,?_⟩
   ·unfold rowP;rw[HP.out];simp only[if_true,HQ.out];rfl
   ·unfold rowP;rw[HP.out];exact(H4.out.1.below HL.out HC.out.2.1 H6.out.1).back H4.out.2.2.2 HC.out.1 HC.out.2.1 HO.out.2
   ·exact(H4.out.2.1.trans (oy H6.out.1 c.W) (fun _ _ h=>h)).trans HO.out.2 (fun k hk hs=>by have:=HR.out.1;omega)
 ·clear xg;have nZ:(n !=0)=true:=by simpa using hn
  have HN:=al hn;clear hn;go_wp2_with fail;have sZ:=rU (v0:=.int .i64 0) (v1:=.int .i64 0) (v2:=.int .i64 0) (v3:=.int .i64 0) H4.out.2.2.1;have ho:=(((aT w4 R0 0 (.int .i64 0)).setCell (p:=⟨R0,1,none⟩) (fun _=>rfl) (.int .i64 0)).setCell (p:=⟨R0,2,none⟩) (fun _=>rfl) (.int .i64 0)).setCell (p:=⟨R0,3,none⟩) (fun _=>rfl) (.int .i64 0);have HO:=al (ab sZ ho);clear sZ ho;generalize ((((w4.setCell ⟨R0,0,none⟩ (.int .i64 0)).setCell ⟨R0,1,none⟩ (.int .i64 0)).setCell ⟨R0,2,none⟩ (.int .i64 0)).setCell ⟨R0,3,none⟩ (.int .i64 0))=w5 at HO⊢;refine dq (b6 rfl _ _ _ _ _ _ _ rfl HO.out.1 Tryz.underlying26 rfl (by kernel_rfl)) rfl ⟨?_,?_,?_⟩
  ·unfold rowP;rw[HP.out];simp only[ff HN.out];rfl
  ·unfold rowP;rw[HP.out];exact H4.out.1.back H4.out.2.2.2 HC.out.1 HC.out.2.1 HO.out.2
  ·exact H4.out.2.1.trans HO.out.2 (fun k hk hs=>by have:=HR.out.1;omega)
end
section
variable{R:Type}{c:RC}{K:(Nat->Prop)->R->World->Prop}{get:R->List UInt8->Option Rw}{w:World}{s:PS R}
theorem Ms{f:Nat->Int}(h: ∀i,aI (f i))(a:Nat){v:Int}(hv:aI v): ∀i,aI (ko f a v i):=fun i=>by
 unfold ko;split
 ·exact hv
 ·exact h i
def GP(x:aH)(s:PS R):PS R×Int:=({s with bj:=ko s.bj x.a.toNat x.c},0)
theorem GQ(hc:c.Fit)(hK:qE K)(h:MI c K w s)(x:aH)(a:Nat)(ha:a<8)(jA:x.a=(a:Int))(AH: -1099511627776<=x.c/\x.c<=1099511627776):
  Calls Tryz.prog 99 #[.pointer (some ⟨c.M,0,none⟩),x.val] w (ku c K (GP x s) w):=by
 have h0:=h;obtain⟨f,h1,_,_,_,_,_,h7⟩:=h;refine(Sz w c.M (c.ms s f) h1 x a ha jA).mono ?_;rintro e w' ⟨rfl,hm,ho⟩;refine⟨rfl,h0.turn hc hK ho (fun T3 E2=>?_) rfl rfl ⟨Ms h7.1 _ ⟨by omega,by omega⟩,h7.2⟩,ho.xf hc⟩
 obtain rfl:T3=f:=by have:=E2.foot;rw[h1.foot]at this;simp only[RC.ms,fj]at this;exact this.symm
 unfold GP;rw[jA];exact hm
theorem GR(w:World):Calls Tryz.prog 145 #[.bool true] w fun e w'=>e=.returned (.int .i64 1)/\w=w':=by
 go_enter Tryz.func145,Tryz.ntmps145;go_wp2_with fail;go_ret
 exact⟨rfl,rfl⟩
theorem Mt(w:World):Calls Tryz.prog 145 #[.bool false] w fun e w'=>e=.returned (.int .i64 0)/\w=w':=by
 go_enter Tryz.func145,Tryz.ntmps145;go_wp2_with fail;go_ret
 exact⟨rfl,rfl⟩
def jg(ok:Cl->Bool)(get:R->List UInt8->Option Rw)(x:aH)(s:PS R):PS R×Int:=
 let p:=rowP ok get x.b.toNat s
 if p.2.2=0 then({p.1 with bj:=ko p.1.bj x.a.toNat (if p.2.1.isSome then 1 else 0)},0)else(p.1,p.2.2)
theorem MI.ja{a:Nat}(hc:c.Fit)(hK:qE K)(h:MI c K w s)(ha:a<8){v:Int}(hv:aI v):MI c K (w.setCell ⟨c.M,18+a,none⟩ (.int .i64 v)) {s with bj:=ko s.bj a v}:=by have h0:=h;obtain⟨f,h1,_,_,_,_,_,h7⟩:=h;exact h0.turn hc hK (aT w c.M (18+a) _) (fun T3 E2=>E2.ja ha v) rfl rfl ⟨Ms h7.1 _ hv,h7.2⟩
theorem MI.drew(h:MI c K w s)(hc:c.Fit)(hK:qE K):MI c K w.drew s:=h.below hc hK ((aw _ _).drew)
theorem GU(hc:c.Fit)(hK:qE K)(hT:Mq K)(hG:yD c.b K get)(h:MI c K w s)(x:aH)(a b:Nat)(ha:a<8)(hb:b<8)(jA:x.a=(a:Int))(oN:x.b=(b:Int)):
  Calls Tryz.prog 105 #[.pointer (some ⟨c.M,0,none⟩),x.val] w (ku c K (jg c.ok get x s) w):=by
 obtain⟨dk,xa,xb,xc,xn⟩:=x;simp only at jA oN;subst jA oN;unfold aH.val;simp only;have hb0:=af w (.cells #[.int .i64 dk,.int .i64 (a:Int),.int .i64 (b:Int),.int .i64 xc,.int .i64 xn] 104);have k0:=an w (.cells #[.int .i64 dk,.int .i64 (a:Int),.int .i64 (b:Int),.int .i64 xc,.int .i64 xn] 104);have h1:=h.below hc hK hb0;have HC:=al (ab hc (ab hK (ab hT hG)));have yB: ∀k,c.S k->k<w.heap.size:=by obtain⟨_,_,_,_,_,_,h6,_⟩:=h;exact h6
 have i1:(0:Int)<=(a:Int):=by omega
 have i2:(a:Int)<8:=by omega
 go_enter Tryz.func105,Tryz.ntmps105;go_upto_region 1 with fail;generalize w.alloc (.cells #[.int .i64 dk,.int .i64 (a:Int),.int .i64 (b:Int),.int .i64 xc,.int .i64 xn] 104)=w1 at hb0 k0 h1⊢;obtain⟨O,hO⟩: ∃x,w.heap.size=x:=⟨_,rfl⟩;rw[hO]at k0⊢;have hOn: ¬c.S O:=fun hs=>by have:=yB O hs;omega
 have o2:w1.cell? ⟨O,2,none⟩=some (.int .i64 (b:Int)):=by simp[World.cell?,k0]
 have HR:=al (Mr hc hK hT hG h1 b hb);have H1:=al (ab hb0 (ab k0 hOn));obtain⟨s',r,n,hp⟩: ∃s' r n,rowP c.ok get b s=(s',r,n):=⟨_,_,_,rfl⟩;rw[hp]at HR;have HP:=al hp;clear h h1 hb0 k0 hO hOn yB hp hc hK hT hG;go_wp2_with fail;refine HR.out.mono ?_;rintro e w2 ⟨rfl,JV,eo⟩;have k2:=eo.heap H1.out.2.1 (fun h=>H1.out.2.2 (HC.out.1.sub _ h));obtain⟨⟨ra,rb,rc,rd⟩,nA⟩: ∃q,r.getD .zero=q:=⟨_,rfl⟩;simp only[nA,Rw.val];have HI:=al (ab JV (ab eo k2));clear JV eo k2 HR;go_upto_region 2 with fail;have hbz:=af w2 (.cells #[.int .i64 ra,.int .i64 rb,.int .i64 rc,.int .i64 rd] 26);have HZ:=al hbz;clear hbz;generalize w2.alloc (.cells #[.int .i64 ra,.int .i64 rb,.int .i64 rc,.int .i64 rd] 26)=w3 at HZ⊢;have h3:=HI.out.1.below HC.out.1 HC.out.2.1 HZ.out;have k3:=pw HZ.out HI.out.2.2;have JP:Only c.W w w3:=((oy H1.out.1 c.W).trans HI.out.2.1 (fun _ _ h=>h)).trans (oy HZ.out c.W) (fun _ _ h=>h);by_cases hn:n=0
 ·subst hn;have H3:=al (ab h3 JP);obtain⟨f3,NM,_⟩:=h3;have m3:=NM.bj ha;have mf:=NM.free (18+a);have o1:w3.cell? ⟨O,1,none⟩=some (.int .i64 (a:Int)):=by simp[World.cell?,k3]
  have CV: ¬O=c.M:=fun e=>H1.out.2.2 (by rw[e];exact HC.out.1.own);have YD: ∀v,(w3.setCell ⟨c.M,18+a,none⟩ v).cell? ⟨O,1,none⟩=some (.int .i64 (a:Int)):=fun v=>(aT w3 c.M (18+a) v).cell o1 CV;clear NM k3 JP
  cases hq:r.isSome with
  |true=>
   go_wp2_with fail
   go_region_held3 (fun W=>W.cell? ⟨O,1,none⟩=some (.int .i64 (a:Int))) (first|exact o1|exact YD _|go_keep) (first|(go_at_call 145;refine(GR _).mono ?_;rintro e w' ⟨rfl,rfl⟩))
   go_wp2_with fail;go_ret
   have HF:=(H3.out.1.drew HC.out.1 HC.out.2.1).ja HC.out.1 HC.out.2.1 ha (v:=1) ⟨by decide,by decide⟩;refine⟨?_,?_,H3.out.2.trans ((kH w3 1 c.M (18+a) _).xf HC.out.1) (fun _ _ h=>h)⟩
   ·unfold jg;simp only[gx,HP.out,if_true];rfl
   ·unfold jg;simp only[gx,HP.out,if_true,hq];exact HF
  |false=>
   go_wp2_with fail
   go_region_held3 (fun W=>W.cell? ⟨O,1,none⟩=some (.int .i64 (a:Int))) (first|exact o1|exact YD _|go_keep) (first|(go_at_call 145;refine(Mt _).mono ?_;rintro e w' ⟨rfl,rfl⟩))
   go_wp2_with fail;go_ret
   have HF:=(H3.out.1.drew HC.out.1 HC.out.2.1).ja HC.out.1 HC.out.2.1 ha (v:=0) ⟨by decide,by decide⟩;refine⟨?_,?_,H3.out.2.trans ((kH w3 1 c.M (18+a) _).xf HC.out.1) (fun _ _ h=>h)⟩
   ·unfold jg;simp only[gx,HP.out,if_true];rfl
   ·unfold jg;simp only[gx,HP.out,if_true,hq];exact HF
 ·have nZ:(n==0)=false:=by simpa using hn
  have HN:=al (ab hn (ab h3 JP));clear hn h3 k3 JP;go_wp2_with fail;go_ret
  refine⟨?_,?_,HN.out.2.2⟩
  ·unfold jg;simp only[gx,HP.out,ff HN.out.1];rfl
  ·unfold jg;simp only[gx,HP.out,ff HN.out.1];exact HN.out.2.1
end
def E4(w:World)(M:Nat):Int:=match w.cell? ⟨M,17,none⟩with
 |some (.int _ n)=>n
 |_=>0
theorem MI.E4{R:Type}{c:RC}{K:(Nat->Prop)->R->World->Prop}{w:World}{s:PS R}(h:MI c K w s):E4 w c.M=s.pc:=by obtain⟨f,h1,_⟩:=h;have:=h1.pc;unfold Proofs.YtagemonojdgbdaaGreatDoor.E4;rw[this];rfl
def rJ{R:Type}(c:RC)(K:(Nat->Prop)->R->World->Prop)(act:aH->PS R->PS R×Int)(fr tt:Nat):Prop:=
 ∀(i:Nat) (x:aH),fr<=i->i<tt->c.ops[i]?=some x->(1<=x.d/\x.d<=15)/\ ∀(s:PS R),s.pc=(i:Int)+1->
  (∀w,MI c K w s->Calls Tryz.prog (Af x.d.toNat) #[.pointer (some ⟨c.M,0,none⟩),x.val] w (ku c K (act x s) w))/\((act x s).2=0->s.pc<=(act x s).1.pc)
def Wz{R:Type}(c:RC)(K:(Nat->Prop)->R->World->Prop)(act:aH->PS R->PS R×Int)(fr tt:Nat)(s0:PS R)(w wr:World):Prop:=
 ∃(s:PS R) (g:Nat),MI c K wr s/\Only c.W w wr/\bg c.fuel c.ops act tt (tt-fr) s0=bg c.fuel c.ops act tt g s/\(tt:Int)-s.pc<=g/\(fr:Int)<=s.pc
theorem CW{R:Type}{c:RC}{K:(Nat->Prop)->R->World->Prop}{act:aH->PS R->PS R×Int}{w:World}{s:PS R}(hc:c.Fit)(hK:qE K)(h:MI c K w s)(fr tt:Nat)(hft:fr<=tt)(TA:tt<=c.ops.length)(ha:rJ c K act fr tt):
  Calls Tryz.prog 66 #[.pointer (some ⟨c.M,0,none⟩),.int .i64 fr,.int .i64 tt] w (ku c K (bg c.fuel c.ops act tt (tt-fr) {s with pc:=fr}) w):=by
 have hlen:=hc.ops
 have h0:MI c K (w.setCell ⟨c.M,17,none⟩ (.int .i64 fr)) {s with pc:=fr}:=by refine h.turn hc hK (aT w c.M 17 _) (fun f hm=>hm.GI _) rfl rfl ?_;obtain⟨_,_,_,_,_,_,_,h7⟩:=h;exact⟨h7.1,h7.2.1,by show(0:Int)<=(fr:Int);omega,by show(fr:Int)<=1000;omega⟩
 have HC:=al (ab hc (ab hK ha));have H0:=al (show Wz c K act fr tt {s with pc:=fr} w (w.setCell ⟨c.M,17,none⟩ (.int .i64 fr))from⟨_,tt-fr,h0,(aT w c.M 17 _).xf hc,rfl,by show(tt:Int)-(fr:Int)<=((tt-fr:Nat):Int);omega,eE _⟩);obtain⟨f,hm,_⟩:=h;have cf:=hm.free 17;have cp:=hm.pc;simp only[RC.ms]at cp;clear hm ha h0 hc hK;go_enter Tryz.func66,Tryz.ntmps66;go_wp2_with fail
 go_step3
 go_wp2_with fail
 go_step3
 go_wp2_with fail
 go_loopw [7] (fun e wr=>e=.int .i64 0/\Wz c K act fr tt {s with pc:=fr} w wr) (fun _ wr=>((tt:Int)-E4 wr c.M).toNat)
 case atStart=>exact⟨rfl,H0.out⟩
 case round=>
  obtain⟨rfl,s1,g,r1,r2,r3,r4,r5⟩:=hrel;have HR:=al (ab r1 (ab r2 (ab r3 (ab r4 r5))));have hpc:=r1.E4;obtain⟨f1,iX,_,_,mN,_,_,hfit⟩:=r1;have c17:=iX.pc;simp only[RC.ms]at c17;by_cases hlt:s1.pc<tt
  ·obtain⟨i,hi⟩: ∃i:Nat,s1.pc=(i:Int):=⟨s1.pc.toNat,by have:=hfit.2.2.1;omega⟩;have hi1:fr<=i:=by omega
   have hi2:i<tt:=by omega
   obtain⟨x,hx⟩: ∃x,c.ops[i]?=some x:=⟨_,ao (by omega)⟩;obtain⟨g',rfl⟩: ∃g',g=g'+1:=⟨g-1,by omega⟩;have WA:c.ops[s1.pc.toNat]?=some x:=by rw[hi];simpa using hx
   by_cases SS:c.fuel<=s1.steps
   ·have HE:=al (ab (pI (fuel:=c.fuel) (ops:=c.ops) (act:=act) (g:=g') hlt SS) (CS HC.out.1 HC.out.2.1 HR.out.1 SS));clear r2 r3 r4 r5 hpc iX mN hfit hx WA hi;go_wp2_with fail;refine HE.out.2.mono ?_;rintro e w2 ⟨rfl,hI,ho⟩;have HI:=al (ab hI ho);clear hI ho;go_wp2_with fail;go_ret
    refine⟨?_,?_,HR.out.2.1.trans HI.out.2 (fun _ _ h=>h)⟩
    ·rw[HR.out.2.2.1,HE.out.1];rfl
    ·rw[HR.out.2.2.1,HE.out.1];exact HI.out.1
   ·have hst:s1.steps<c.fuel:=by omega
    have HX:=al (ab hx (ab WA (ab hi (ab hst hlt))));have HS:=al (CR HC.out.1 HC.out.2.1 HR.out.1 hst);clear r2 r3 r4 r5 hpc iX mN hfit hx WA SS hst hi;go_wp2_with fail;refine HS.out.mono ?_;rintro e w2 ⟨rfl,hI,ho⟩;clear c17 hlt;have HI:=al (ab hI (HR.out.2.1.trans ho (fun _ _ h=>h)));obtain⟨f2,hm2,_,_,GV,_,hS2,WB⟩:=hI;obtain⟨A,Vn,hov,hlc,hcm⟩:=GV.slice;unfold maxLen at hcm;have c0:=hm2.ops;have c17:=hm2.pc;have f17:=hm2.free 17;rw[hov]at GV;obtain⟨b,o,rfl,qL,d0,d1,d2,d3,d4⟩:=GV.at_ HX.out.1;simp only[RC.ms,hov,HX.out.2.2.1]at c0 c17;have ZU:=hm2.lt;obtain⟨xd,xa,xb,xc,xn⟩:=x;simp only at d0 d1 d2 d3 d4;have hbM: ¬b=c.M:=fun e=>qL (by rw[e];exact HC.out.1.own);have hbl:=aE _ _ d0;simp only at hbl;have i1:(0:Int)<=(i:Int):=by omega
    have i2:(i:Int)<(c.ops.length:Int):=by omega
    clear GV hm2 WB hS2 ho hov qL HS;go_upto_region 6 with fail
    go_region
    go_upto_region 7 with fail;have iL:Below w2.heap.size w2 (w2.alloc (.cells #[.int .i64 xd,.int .i64 xa,.int .i64 xb,.int .i64 xc,.int .i64 xn] 104)).drew:=(iD w2 (.cells #[.int .i64 xd,.int .i64 xa,.int .i64 xb,.int .i64 xc,.int .i64 xn] 104)).drew;have k6:(w2.alloc (.cells #[.int .i64 xd,.int .i64 xa,.int .i64 xb,.int .i64 xc,.int .i64 xn] 104)).drew.heap[w2.heap.size]?=some (.cells #[.int .i64 xd,.int .i64 xa,.int .i64 xb,.int .i64 xc,.int .i64 xn] 104 (0,0)):=an w2 _;clear c0 c17 f17 d0 d1 d2 d3 d4;generalize (w2.alloc (.cells #[.int .i64 xd,.int .i64 xa,.int .i64 xb,.int .i64 xc,.int .i64 xn] 104)).drew=w6 at iL k6⊢;obtain⟨O,hO⟩: ∃y,w2.heap.size=y:=⟨_,rfl⟩;rw[hO]at k6⊢;have ZV:=HI.out.1.below HC.out.1 HC.out.2.1 iL;have CV: ¬O=c.M:=by omega
    obtain⟨f6,ZW,_⟩:=ZV;have c17:=ZW.pc;have f17:=ZW.free 17;simp only[RC.ms,HX.out.2.2.1]at c17;have hw1:IntKind.i64.wrap ((i:Int)+1)=(i:Int)+1:=by rw[fm];omega
    have h7:MI c K (w6.setCell ⟨c.M,17,none⟩ (.int .i64 ((i:Int)+1))) {s1 with steps:=s1.steps+1,pc:=s1.pc+1}:=by
     have h6:=HI.out.1.below HC.out.1 HC.out.2.1 iL;refine h6.turn HC.out.1 HC.out.2.1 (aT w6 c.M 17 _) (fun f hm=>?_) rfl rfl ?_
     ·have:=hm.GI ((i:Int)+1);simp only[RC.ms,HX.out.2.2.1]at this⊢;exact this
     ·obtain⟨_,_,_,_,_,_,_,q7⟩:=h6;exact⟨q7.1,q7.2.1,by show 0<=s1.pc+1;have:=q7.2.2.1;simp only at this;omega,by show s1.pc+1<=1000;rw[HX.out.2.2.1];omega⟩
    have k7:=(aT w6 c.M 17 (.int .i64 ((i:Int)+1))).heap k6 CV;have AP:Only c.W w (w6.setCell ⟨c.M,17,none⟩ (.int .i64 ((i:Int)+1))):=(HI.out.2.trans (oy iL c.W) (fun _ _ h=>h)).trans ((aT w6 c.M 17 _).xf HC.out.1) (fun _ _ h=>h);have H7:=al (ab h7 (ab k7 AP));clear h7 k7 AP ZW k6 iL hO;go_upto_region 8 with fail;generalize w6.setCell ⟨c.M,17,none⟩ (.int .i64 ((i:Int)+1))=w7 at H7⊢;clear c17 f17 hw1;obtain⟨⟨hd1,hd2⟩,Ah⟩:=HC.out.2.2 i _ hi1 hi2 HX.out.1;simp only at hd1 hd2;obtain⟨dn,rfl⟩: ∃dn:Nat,xd=(dn:Int):=⟨xd.toNat,by omega⟩;obtain⟨h7,k7,AP⟩:=H7.out;obtain⟨f7,hm7,_⟩:=id h7;have ca:=hm7.act (show 1<=dn by omega) (show dn<=15 by omega);have hen:=CT (show 1<=dn by omega) (show dn<=15 by omega);obtain⟨fn,hfn⟩: ∃fn,Af dn=fn:=⟨_,rfl⟩;have CX:=Ah {s1 with steps:=s1.steps+1,pc:=s1.pc+1} (by show s1.pc+1=(i:Int)+1;rw[HX.out.2.2.1]);rw[show(aH.mk (dn:Int) xa xb xc xn).d.toNat=dn from gx dn]at CX;rw[hfn]at ca hen CX;unfold ov at ca;have HA:=al (ab (CX.1 w7.drew (h7.drew HC.out.1 HC.out.2.1)) CX.2);obtain⟨e0,e1,e2,e3,e4⟩:=rC k7;have j1:(0:Int)<=(dn:Int):=by omega
    have j2:(dn:Int)<16:=by omega
    clear h7 k7 AP hm7 Ah CX hfn
    go_still_tail 9,(by kernel_rfl)
    change wpList _ _ _ _ _ w7.drew;have HD:=al (aw w7.heap.size w7).drew;generalize w7.drew=w8 at HA HD⊢;go_wp2_with fail;obtain⟨s3,n,hp⟩: ∃s3 n,act (aH.mk (dn:Int) xa xb xc xn) {s1 with steps:=s1.steps+1,pc:=s1.pc+1}=(s3,n):=⟨_,_,rfl⟩;rw[hp]at HA;have HP:=al hp;clear hp;refine HA.out.1.mono ?_;rintro e w9 ⟨rfl,WC,eU⟩;have QR:Only c.W w w9:=(H7.out.2.2.trans (oy HD.out c.W) (fun _ _ h=>h)).trans eU (fun _ _ h=>h);by_cases hn:n=0
    ·subst hn;have HE:=al (I8 (g:=g') (tt:=(tt:Int)) HX.out.2.2.2.2 HX.out.2.2.2.1 HX.out.2.1 HP.out);have HF:=al (ab WC QR);have SU:=WC.E4;have hge:=HA.out.2 rfl;have SV:=HR.out.1.E4;simp only[HX.out.2.2.1]at hge SV SU;have HG:=al (ab hge (ab SV SU));clear WC QR eU hge SV SU;go_wp2_with fail;go_roundw
     case rel=>
      refine⟨rfl,s3,g',HF.out.1,HF.out.2,by rw[HR.out.2.2.1,HE.out],?_,?_⟩
      ·have h1:=HR.out.2.2.2.1;have h2:=HG.out.1;rw[HX.out.2.2.1]at h1;omega
      ·have h2:=HG.out.1;omega
     case measure=>rw[HG.out.2.1,HG.out.2.2];have h2:=HG.out.1;omega
    ·have nZ:(n !=0)=true:=by simpa using hn
     have HE:=al (CK (g:=g') (tt:=(tt:Int)) HX.out.2.2.2.2 HX.out.2.2.2.1 HX.out.2.1 HP.out hn);have HF:=al (ab WC QR);clear hn WC QR eU;go_wp2_with fail;go_ret
     refine⟨?_,?_,HF.out.2⟩
     ·rw[HR.out.2.2.1,HE.out];rfl
     ·rw[HR.out.2.2.1,HE.out];exact HF.out.1
  ·have HE:=al (mC (fuel:=c.fuel) (ops:=c.ops) (act:=act) (g:=g) (show(tt:Int)<=s1.pc by omega));clear r2 r3 r4 r5 hpc iX mN hfit;go_wp2_with fail;go_ret
   refine⟨?_,?_,HR.out.2.1⟩
   ·rw[HR.out.2.2.1,HE.out];rfl
   ·rw[HR.out.2.2.1,HE.out];exact HR.out.1
end Go.Proofs.YtagemonojdgbdaaGreatDoor
