import Derived.Test.YtmkofmeojbcakaaGreatDoorC32
import Derived.Test.YtmkofmeojbcakaaGreatDoorC35
import Derived.Deep.RegionWith
namespace Go.Proofs.YtmkofmeojbcakaaGreatDoor
open Go.Proofs.Tryz
set_option maxRecDepth 100000
set_option maxHeartbeats 16000000
open Go.RowKit
structure RC where
 M:Nat
 S:Nat->Prop
 W:Nat->Prop
 Z:Nat->Prop
 ops:List aO
 opsV:Value
 b:Value
 fuel:Int
 may:Value
 ok:Cl->Bool
 lo:Nat
def RC.ms{R:Type}(c:RC)(s:PS R)(f:Value):MS:=⟨c.opsV,s.pc,s.bI,c.b,c.fuel,c.may,s.value,s.steps,f,0⟩
structure RC.Fit (c:RC):Prop where
 own:c.S c.M
 Ws:c.W c.M
 sub: ∀k,c.W k->c.S k
 Wt:c.Z c.M
 Wu: ∀k,c.Z k->c.S k
 low:c.lo<=c.M
 ops:c.ops.length<=64
 fuel:0<=c.fuel/\c.fuel<=10000
def PS.Fit{R:Type}(s:PS R):Prop:=(∀i,aK (s.bI i))/\(0<=s.steps/\s.steps<=10000)/\0<=s.pc/\s.pc<=1000
structure ui {R:Type} (K:(Nat->Prop)->R->World->Prop):Prop where
 only: ∀(Z:Nat->Prop) (r:R) (w w':World) (G:Nat->Prop),(∀k,G k->Z k)->K Z r w->Only G w w'->K Z r w'
 iX: ∀(Z:Nat->Prop) (r:R) (w:World) (b:Nat),K Z r w->w.heap.size<=b->K (fun k=>Z k\/k=b) r w
 back: ∀(Z Z':Nat->Prop) (r:R) (w:World),(∀k,Z' k->Z k)->K Z r w->K Z' r w
def MI{R:Type}(c:RC)(K:(Nat->Prop)->R->World->Prop)(w:World)(s:PS R):Prop:=
 ∃f,aH w c.M (c.ms s f)/\jC w c.S f s.cl/\ym w c.S c.may c.ok/\gu w (fun k=> ¬c.S k) c.opsV c.ops/\K c.Z s.rows w/\(∀k,c.S k->k<w.heap.size)/\s.Fit
def ly{R:Type}(c:RC)(K:(Nat->Prop)->R->World->Prop)(p:PS R×Int)(w:World)(e:Ending)(w':World):Prop:=e=.returned (.int .i64 p.2)/\MI c K w' p.1/\Only c.W w w'
section
variable{R:Type}{c:RC}{K:(Nat->Prop)->R->World->Prop}{w w':World}{s s':PS R}
theorem gu.only{S G:Nat->Prop}{v:Value}{l:List aO}(h:gu w G v l)(ho:Only S w w')(hd: ∀k,G k-> ¬S k):gu w' G v l:=aS.only h ho hd
theorem MI.turn(h:MI c K w s)(hc:c.Fit)(hK:ui K)(ho:Only (fun k=>k=c.M) w w')(hm: ∀f,aH w c.M (c.ms s f)->aH w' c.M (c.ms s' f))(hcl:s'.cl=s.cl)(hr:s'.rows=s.rows)(hf:s'.Fit):MI c K w' s':=by
 obtain⟨f,h1,h2,h3,h4,h5,h6,h7⟩:=h;have hS: ∀k,k=c.M->c.S k:=fun k hk=>by subst hk;exact hc.own
 refine⟨f,hm f h1,by rw[hcl];exact h2.only ho hS,h3.only ho hS,h4.only ho (fun k hk e=>hk (hS k e)),by rw[hr];exact hK.only _ _ _ _ _ (fun k hk=>by subst hk;exact hc.Wt) h5 ho,fun k hk=>cq (h6 k hk) ho.size,hf⟩
theorem MI.below(h:MI c K w s)(hc:c.Fit)(hK:ui K)(hb:Below w.heap.size w w'):MI c K w' s:=
 h.turn hc hK (oj hb _) (fun f hm=>hm.below hb) rfl rfl (by obtain⟨_,_,_,_,_,_,_,h7⟩:=h;exact h7)
theorem Only.zt(hc:c.Fit)(ho:Only (fun k=>k=c.M) w w'):Only c.W w w':=ho.m (fun k _ hk=>by subst hk;exact hc.Ws)
theorem EK(hc:c.Fit)(hK:ui K)(h:MI c K w s)(hlt:s.steps<c.fuel):
  Calls prog 113 #[.pointer (some ⟨c.M,0,none⟩)] w (ly c K ({s with steps:=s.steps+1},0) w):=by
 have h0:=h;obtain⟨f,h1,_,_,_,_,_,h7⟩:=h;refine(RQ w c.M (c.ms s f) h1 h7.2.1.1 (by have:=h7.2.1.2;simp only[RC.ms];omega) hlt).m ?_;rintro e w' ⟨rfl,hm,ho⟩;refine⟨rfl,?_,ho.zt hc⟩;have hf:=hc.fuel;obtain⟨f',g1,g2,g3,g4,g5,g6,g7⟩:=h0
 obtain rfl:f'=f:=by have:=g1.foot;rw[h1.foot]at this;simp only[RC.ms,fl]at this;exact this.symm
 exact(show MI c K w s from⟨f',g1,g2,g3,g4,g5,g6,g7⟩).turn hc hK ho (fun XO Hu=>by
  obtain rfl:XO=f':=by have:=Hu.foot;rw[h1.foot]at this;simp only[RC.ms,fl]at this;exact this.symm
  exact hm) rfl rfl ⟨g7.1,⟨by show 0<=s.steps+1;have:=g7.2.1.1;omega,by show s.steps+1<=10000;omega⟩,g7.2.2⟩
theorem EL(hc:c.Fit)(hK:ui K)(h:MI c K w s)(hle:c.fuel<=s.steps):
  Calls prog 113 #[.pointer (some ⟨c.M,0,none⟩)] w (ly c K (s,20) w):=by
 have h0:=h;obtain⟨f,h1,_,_,_,_,_,h7⟩:=h;refine(RS w c.M (c.ms s f) h1 hle).m ?_;rintro e w' ⟨rfl,hm,ho⟩
 exact⟨rfl,h0.turn hc hK ho (fun XO Hu=>by
  obtain rfl:XO=f:=by have:=Hu.foot;rw[h1.foot]at this;simp only[RC.ms,fl]at this;exact this.symm
  exact hm) rfl rfl h7,ho.zt hc⟩
end
def RC.iX(c:RC)(R0:Nat):RC:={c with S:=fun k=>c.S k\/k=R0,Z:=fun k=>c.Z k\/k=R0}
theorem RC.Fit.iX{c:RC}(h:c.Fit)(R0:Nat):(c.iX R0).Fit:=⟨.inl h.own,h.Ws,fun k hk=>.inl (h.sub k hk),.inl h.Wt,fun k hk=>hk.elim (fun h'=>.inl (h.Wu k h')) .inr,h.low,h.ops,h.fuel⟩
theorem aS.bound{k:Nat}{w:World}{F:Nat->Prop}{v:Value}{xs:List (List Value)}(h:aS k w F v xs)(hk: ∀x∈xs,x.length=k)(eQ:0<k):aS k w (fun b=>F b/\b<w.heap.size) v xs:=by obtain⟨A,n,c,h1,h2,h3,h4,h5⟩:=h;refine⟨A,n,c,h1,h2,h3,h4,fun h0=>?_⟩;obtain⟨b,o,e1,e2,e3⟩:=h5 h0;refine⟨b,o,e1,⟨e2,?_⟩,e3⟩;obtain⟨x,hx⟩: ∃x,xs[0]?=some x:=⟨_,ao (by omega)⟩;have hxl:=hk x (de hx);exact aq _ _ (e3 0 x hx 0 _ (ao (by omega)))
theorem MI.iX{R:Type}{c:RC}{K:(Nat->Prop)->R->World->Prop}{w w1:World}{s:PS R}{R0:Nat}(h:MI c K w s)(hc:c.Fit)(hK:ui K)(hb:Below w.heap.size w w1)(hR:w.heap.size<=R0)(hR1:R0<w1.heap.size):MI (c.iX R0) K w1 s:=by
 have h':=h.below hc hK hb;obtain⟨f,h1,h2,h3,h4,h5,h6,h7⟩:=h;obtain⟨f',g1,_,_,_,g5,g6,_⟩:=h';have ho:=pw hb;have hF: ∀k,(¬c.S k/\k<w.heap.size)-> ¬(c.iX R0).S k:=fun k hk hs=>hs.elim hk.1 (fun e=>by omega)
 have hff:f'=f:=by have e1:=g1.foot;rw[(h1.below hb).foot]at e1;simp only[RC.ms,fl]at e1;exact e1.symm
 subst hff;refine⟨f',g1,⟨(aS.m (aS.bound h2.1 (cO _) (by decide)) hF).only ho (fun _ _ h=>h),h2.2⟩,?_,aS.only (aS.m (aS.bound h4 (fun x hx=>by obtain⟨y,_,rfl⟩:=ew.1 hx;rfl) (by decide)) hF) ho (fun _ _ h=>h),hK.only _ _ _ _ _ (fun _ h=>h.elim) (hK.iX _ _ _ _ h5 hR) ho,fun k hk=>hk.elim (g6 k) (fun e=>by omega),h7⟩;rcases h3 with h3|⟨B,fv,f,e1,e2,e3,e4,e5⟩
 ·exact .inl h3
 ·exact .inr ⟨B,fv,f,e1,hF B ⟨e2,aq _ _ e3⟩,ho.cell e3 (fun h=>h),(aS.m (aS.bound e4 (cO _) (by decide)) hF).only ho (fun _ _ h=>h),e5⟩
theorem MI.back{R:Type}{c:RC}{K:(Nat->Prop)->R->World->Prop}{w w':World}{s:PS R}{R0:Nat}(h:MI (c.iX R0) K w s)(hR: ¬c.S R0)(hc:c.Fit)(hK:ui K)(ho:Only (fun k=>k=R0) w w'):MI c K w' s:=by
 obtain⟨f,h1,h2,h3,h4,h5,h6,h7⟩:=h;have hT: ∀k,k=R0->(c.iX R0).S k:=fun k hk=>.inr hk;have hF: ∀k,¬(c.iX R0).S k-> ¬c.S k:=fun k hk hs=>hk (.inl hs);refine⟨f,h1.only ho (fun e=>hR (by rw[<-e];exact hc.own)),⟨aS.m (h2.only ho hT).1 hF,h2.2⟩,?_,aS.m (h4.only ho (fun k hk e=>hk (hT k e))) hF,hK.back _ _ _ _ (fun k hk=>.inl hk) (hK.only _ _ _ _ _ (fun k hk=>.inr hk) h5 ho),fun k hk=>cq (h6 k (.inl hk)) ho.size,h7⟩;rcases h3.only ho hT with h3|⟨B,fv,f,e1,e2,e3,e4,e5⟩
 ·exact .inl h3
 ·exact .inr ⟨B,fv,f,e1,hF B e2,e3,aS.m e4 hF,e5⟩
def Cy:Nat->FuncId
 |1=>98
 |2=>99
 |3=>100
 |4=>101
 |5=>102
 |6=>103
 |7=>104
 |8=>105
 |9=>106
 |10=>107
 |11=>108
 |12=>109
 |13=>110
 |14=>111
 |_=>112
theorem aH.act{w:World}{M:Nat}{s:MS}(h:aH w M s){d:Nat}(h1:1<=d)(h2:d<=15):w.cell? ⟨M,1+d,none⟩=some (pU (Cy d)):=by
 match d,h1,h2 with
 |1,_,_|2,_,_|3,_,_|4,_,_|5,_,_|6,_,_|7,_,_|8,_,_|9,_,_|10,_,_|11,_,_|12,_,_|13,_,_|14,_,_|15,_,_=>simp[World.cell?,h.is,MS.cells,Cy]
theorem EM{d:Nat}(h1:1<=d)(h2:d<=15): ∀args w,(callFunc (Cy d) args).run prog w=.ok (.enter (Cy d) args) w:=by
 match d,h1,h2 with
 |1,_,_=>exact enters_of func98 (by kernel_rfl) rfl
 |2,_,_=>exact enters_of func99 (by kernel_rfl) rfl
 |3,_,_=>exact enters_of func100 (by kernel_rfl) rfl
 |4,_,_=>exact enters_of func101 (by kernel_rfl) rfl
 |5,_,_=>exact enters_of func102 (by kernel_rfl) rfl
 |6,_,_=>exact enters_of func103 (by kernel_rfl) rfl
 |7,_,_=>exact enters_of func104 (by kernel_rfl) rfl
 |8,_,_=>exact enters_of func105 (by kernel_rfl) rfl
 |9,_,_=>exact enters_of func106 (by kernel_rfl) rfl
 |10,_,_=>exact enters_of func107 (by kernel_rfl) rfl
 |11,_,_=>exact enters_of func108 (by kernel_rfl) rfl
 |12,_,_=>exact enters_of func109 (by kernel_rfl) rfl
 |13,_,_=>exact enters_of func110 (by kernel_rfl) rfl
 |14,_,_=>exact enters_of func111 (by kernel_rfl) rfl
 |15,_,_=>exact enters_of func112 (by kernel_rfl) rfl
def gh(w:World):Prop:=Lib.TabIs prog w "internal/strconv.uint64pow10" .u64 Lib.pow10Tab
theorem Tryz.g10:prog.globalNamed "internal/strconv.uint64pow10" =some 5:=by kernel_rfl
theorem gh.lt{w:World}(h:gh w):5<w.heap.size:=by
 unfold gh Lib.TabIs World.var? at h;rw[Tryz.g10]at h;simp only[Option.bind_some]at h;rcases Nat.lt_or_ge 5 w.heap.size with h'|h'
 ·exact h'
 ·rw[Array.getElem?_eq_none h']at h;cases h
theorem gh.only{S:Nat->Prop}{w w':World}(h:gh w)(ho:Only S w w')(hS: ¬S 5):gh w':=by have hlt:=h.lt;unfold gh Lib.TabIs World.var? at h⊢;rw[Tryz.g10]at h⊢;simp only[Option.bind_some]at h⊢;rw[ho.block _ hlt hS];exact h
theorem gh.below{w w':World}(h:gh w)(hb:Below w.heap.size w w'):gh w':=h.only (pw hb) (fun h=>h)
theorem Hv(w:World)(k:Nat)(os:Array Obj):Below w.heap.size w (Sort.grow (w.drewN k) os):=by
 have h0:=aw w.heap.size w;refine⟨h0.os,h0.tape,h0.output,?_,fun j hj=>?_⟩
 ·show w.heap.size<=(w.heap++os).size;simp
 ·show(w.heap++os)[j]?=w.heap[j]?;rw[Array.getElem?_append_left hj]
theorem Cz(w:World)(n:Int)(hn:km n)(ht:gh w):Calls prog 137 #[.int .i64 n] w fun e w'=>e=.returned (.string ⟨(Lib.itoa n).toArray⟩)/\Below w.heap.size w w':=by
 have H:=al (Any.strconv_Itoa Tryz.MZ n hn.1 hn.2 w ht);clear ht;go_enter func137,ntmps137;go_wp2_with fail;refine H.o.m ?_;rintro e w' ⟨rfl,k,os,rfl⟩;have HB:=al (Hv w k os);generalize Sort.grow (w.drewN k) os=w2 at HB⊢;go_wp2_with fail;go_ret
 exact⟨rfl,HB.o⟩
section
variable{R:Type}{c:RC}{K:(Nat->Prop)->R->World->Prop}
theorem mQ{w:World}{s:PS R}(hc:c.Fit)(hK:ui K)(h:MI c K w s)(l:List Cl)(v:Value)(hl:eG w (fun k=> ¬c.S k) v l)(hlen:l.length<=1000)(hg:Good l):
  Calls prog 139 #[.pointer (some ⟨c.M,0,none⟩),v] w fun e w'=>e=.returned (.int .i64 (bC c.ok s.cl l).2)/\MI c K w' {s with cl:=(bC c.ok s.cl l).1}/\Only (fun k=>k=c.M) w w':=by
 obtain⟨f,h1,h2,h3,h4,h5,h6,h7⟩:=h;refine(OX w c.S c.M (c.ms s f) c.ok s.cl l v h1 hc.own h6 h2 h3 hl hlen hg).m ?_;rintro e w' ⟨f',rfl,g1,g2,g3⟩;have hS: ∀k,k=c.M->c.S k:=fun k hk=>by subst hk;exact hc.own
 exact⟨rfl,⟨f',g1,g2,h3.only g3 hS,h4.only g3 (fun k hk e=>hk (hS k e)),hK.only _ _ _ _ _ (fun k hk=>by subst hk;exact hc.Wt) h5 g3,fun k hk=>cq (h6 k hk) g3.size,h7⟩,g3⟩
end
def abR(r:Option Rw)(w:World)(e:Ending)(w':World):Prop:=
 e=.returned (.tuple #[(r.getD .zero).val,.int .i64 (if r.isSome then 0 else 14)])/\Below w.heap.size w w'
def EN{R:Type}(b:Value)(K:(Nat->Prop)->R->World->Prop)(get:R->List UInt8->Option Rw):Prop:=
 ∀(Z:Nat->Prop) (r:R) (w:World) (k:List UInt8),K Z r w->dU k=0->Calls prog 181 #[b,.string ⟨k.toArray⟩] w (abR (get r k) w)
def SZ{R:Type}(K:(Nat->Prop)->R->World->Prop):Prop:= ∀Z r w,K Z r w->gh w
section
variable{R:Type}{c:RC}{K:(Nat->Prop)->R->World->Prop}{get:R->List UInt8->Option Rw}
def rowP(ok:Cl->Bool)(get:R->List UInt8->Option Rw)(i:Nat)(s:PS R):PS R×Option Rw×Int:=
 let p:=bC ok s.cl [ou (s.bI i)]
 ({s with cl:=p.1},if p.2=0 then get s.rows (Lib.itoa (s.bI i))else none,p.2)
def abS(c:RC)(K:(Nat->Prop)->R->World->Prop)(p:PS R×Option Rw×Int)(w:World)(e:Ending)(w':World):Prop:=
 e=.returned (.tuple #[(p.2.1.getD .zero).val,.bool p.2.1.isSome,.int .i64 p.2.2])/\MI c K w' p.1/\Only c.W w w'
theorem Pj{w:World}{s:PS R}(hc:c.Fit)(hK:ui K)(hT:SZ K)(hG:EN c.b K get)(h:MI c K w s)(i:Nat)(hi:i<8):
  Calls prog 136 #[.pointer (some ⟨c.M,0,none⟩),.int .i64 i] w (abS c K (rowP c.ok get i s) w):=by
 obtain⟨hb0,k0⟩:=qn w (.cells #[.int .i64 0,.int .i64 0,.int .i64 0,.int .i64 0] 113);have h1:=h.iX hc hK hb0 (aE _) (by simp);have hlo:c.lo<=w.heap.size:=by obtain⟨_,hm,_⟩:=h;have:=hm.lt;have:=hc.low;omega
 have HC:=al (ab hc (ab hK (ab hT (ab hG hlo))));have HS:=al (show ∀k,c.S k->k<w.heap.size by obtain⟨_,_,_,_,_,_,h6,_⟩:=h;exact h6);have i1:(0:Int)<=(i:Int):=by omega
 have i2:(i:Int)<8:=by omega
 go_enter func136,ntmps136;go_upto_region 1 with fail;generalize w.alloc (.cells #[.int .i64 0,.int .i64 0,.int .i64 0,.int .i64 0] 113)=w1 at hb0 k0 h1⊢;obtain⟨R0,hR⟩:=qt (w.heap.size);rw[hR]at k0 h1⊢;have HR:=al (ab hR (ab hb0 k0));have HI:=al h1;obtain⟨f,hm,_,_,_,hk,_,hfit⟩:=h1;have c1:=hm.bI hi;have gA:=hfit.1 i;have Wv:=al (ab (Cz w1 (s.bI i) gA.i64 (hT _ _ _ hk)) gA);simp only[RC.ms]at c1;have HL:=al (hc.iX R0);clear h hb0 k0 hR hm hk hfit gA hc hK hT hG hlo;change World.cell? w1 ⟨c.M,18+i,none⟩=_ at c1;go_wp2_with fail;refine Wv.o.1.m ?_;rintro e w2 ⟨rfl,hb2⟩;have h2:=HI.o.below HL.o HC.o.2.1 hb2;have aan:=HR.o.2.1.x (hb2.m HR.o.2.1.size);have k2:=pt hb2 HR.o.d;obtain⟨ek,kx⟩:=qn w2 (.cells #[.bool false,.int .i64 (-1),.string ⟨(Lib.itoa (s.bI i)).toArray⟩,.int .i64 0,.int .i64 0] 107);have H2:=al (ab h2 (ab aan (ab k2 (ab ek kx))));clear hb2 h2 aan k2 ek kx c1 HI;go_wp2_with fail;have H3:=H2.o;clear H2;generalize w2.alloc (.cells #[.bool false,.int .i64 (-1),.string ⟨(Lib.itoa (s.bI i)).toArray⟩,.int .i64 0,.int .i64 0] 107)=w3 at H3⊢;obtain⟨h2,hb2,k2,ek,kx⟩:=H3;obtain⟨X,hX⟩:=qt (w2.heap.size);have QB:R0<X:=by have:=aQ k2;omega
 have h3:=h2.below HL.o HC.o.2.1 ek;have hb3:=hb2.x (ek.m hb2.size);have k3:=pt ek k2;rw[hX]at kx⊢
 have hcl:=lY (l:=[ou (s.bI i)]) (F:=fun k=> ¬(c.iX R0).S k) kx rfl (fun hs=>by
  rcases hs with hs|hs
  ·have:=HS.o X hs;have:=HR.o.1;omega
  ·omega) (by simp[maxLen])
 have H3:=al (ab hb3 k3);have Fm:=al (mQ HL.o HC.o.2.1 h3 [ou (s.bI i)] _ hcl (by simp) (G8 Wv.o.2));obtain⟨cl',n,hp⟩: ∃cl' n,bC c.ok s.cl [ou (s.bI i)]=(cl',n):=⟨_,_,rfl⟩;rw[show(c.iX R0).ok=c.ok from rfl,hp]at Fm;have HP:=al hp;clear h2 hb2 k2 ek kx hX QB h3 hb3 k3 hcl hp;refine Fm.o.m ?_;rintro e w4 ⟨rfl,zu,lX⟩;have VL: ¬c.S R0:=fun hs=>by have:=HS.o R0 hs;have:=HR.o.1;omega
 have hRM: ¬R0=c.M:=fun e=>VL (by rw[e];exact HC.o.1.own);have k4:=lX.heap H3.o.2 hRM;have EO:Only c.W w w4:=(oj H3.o.1 _).x lX (fun k _ hk=>by subst hk;exact HC.o.1.Ws);have H4:=al (ab zu (ab EO (ab k4 VL)));obtain⟨⟨z0,z1,z2,z3⟩,y0,y1,y2,y3⟩:=cL k4;clear lX k4 EO Fm VL hRM;by_cases hn:n=0
 ·subst hn;obtain⟨f4,Fq,_,_,_,hk4,_,aao⟩:=zu;have hbB:=Fq.b;simp only[RC.ms]at hbB;change World.cell? w4 ⟨c.M,26,none⟩=_ at hbB;have HG:=al (HC.o.t.1 _ s.rows w4 (Lib.itoa (s.bI i)) hk4 (yj Wv.o.2));clear Fq hk4 aao;go_wp2_with fail;have hbc:(c.iX R0).b=c.b:=rfl;rw[hbc];obtain⟨q,hq⟩:=qt (get s.rows (Lib.itoa (s.bI i)));rw[hq]at HG;have HQ:=al hq;clear hq hbc;refine HG.o.m ?_;rintro e w5 ⟨rfl,fR⟩
  cases q with
  |none=>
   simp only[Option.getD_none,lP,Rw.val,Rw.zero];have hbz:=ae w5 (.cells #[.int .i64 0,.int .i64 0,.int .i64 0,.int .i64 0] 113);have fC:=fR.x (hbz.m fR.size);have k6:=pt fC H4.o.d.1;have kz:=cL (an w5 (.cells #[.int .i64 0,.int .i64 0,.int .i64 0,.int .i64 0] 113));have hne: ¬w5.heap.size=R0:=by have:=aQ H4.o.d.1;have:=fR.size;omega
   have H6:=al (ab fC (ab k6 (ab hne kz)));clear hbz fC k6 fR hne kz;go_upto_region 6 with fail;have H7:=H6.o;clear H6;generalize w5.alloc (.cells #[.int .i64 0,.int .i64 0,.int .i64 0,.int .i64 0] 113)=w6 at H7⊢;generalize w5.heap.size=Z at H7⊢;obtain⟨fC,k6,hne,⟨x0,x1,x2,x3⟩,_⟩:=H7;obtain⟨⟨z0,z1,z2,z3⟩,y0,y1,y2,y3⟩:=cL k6;have H6:=al (ab fC k6);clear fC k6;go_wp2_with fail;have vF:=zS (v0:=.int .i64 0) (v1:=.int .i64 0) (v2:=.int .i64 0) (v3:=.int .i64 0) H6.o.2;have ho:=(((bj w6 R0 0 (.int .i64 0)).setCell (p:=⟨R0,1,none⟩) (fun _=>rfl) (.int .i64 0)).setCell (p:=⟨R0,2,none⟩) (fun _=>rfl) (.int .i64 0)).setCell (p:=⟨R0,3,none⟩) (fun _=>rfl) (.int .i64 0);have HO:=al (ab vF ho);clear vF ho;generalize ((((w6.setCell ⟨R0,0,none⟩ (.int .i64 0)).setCell ⟨R0,1,none⟩ (.int .i64 0)).setCell ⟨R0,2,none⟩ (.int .i64 0)).setCell ⟨R0,3,none⟩ (.int .i64 0))=w7 at HO⊢;refine dr (dm rfl _ _ _ _ _ _ _ rfl HO.o.1 underlying113 rfl (by kernel_rfl)) rfl ⟨?_,?_,?_⟩
   ·unfold rowP;rw[HP.o];simp only[if_true,HQ.o];rfl
   ·unfold rowP;rw[HP.o];exact(H4.o.1.below HL.o HC.o.2.1 H6.o.1).back H4.o.t HC.o.1 HC.o.2.1 HO.o.2
   ·exact(H4.o.2.1.x (oj H6.o.1 c.W) (fun _ _ h=>h)).x HO.o.2 (fun k hk hs=>by have:=HR.o.1;omega)
  |some rho=>
   obtain⟨ra,rb,rc,rd⟩:=rho;simp only[Option.getD_some,lz,Rw.val,if_true];have hbz:=ae w5 (.cells #[.int .i64 ra,.int .i64 rb,.int .i64 rc,.int .i64 rd] 113);have fC:=fR.x (hbz.m fR.size);have k6:=pt fC H4.o.d.1;have kz:=cL (an w5 (.cells #[.int .i64 ra,.int .i64 rb,.int .i64 rc,.int .i64 rd] 113));have hne: ¬w5.heap.size=R0:=by have:=aQ H4.o.d.1;have:=fR.size;omega
   have H6:=al (ab fC (ab k6 (ab hne kz)));clear hbz fC k6 fR hne kz;go_upto_region 6 with fail;have H7:=H6.o;clear H6;generalize w5.alloc (.cells #[.int .i64 ra,.int .i64 rb,.int .i64 rc,.int .i64 rd] 113)=w6 at H7⊢;generalize w5.heap.size=Z at H7⊢;obtain⟨fC,k6,hne,⟨x0,x1,x2,x3⟩,_⟩:=H7;obtain⟨⟨z0,z1,z2,z3⟩,y0,y1,y2,y3⟩:=cL k6;have H6:=al (ab fC k6);clear fC k6;go_wp2_with fail;have vF:=zS (v0:=.int .i64 ra) (v1:=.int .i64 rb) (v2:=.int .i64 rc) (v3:=.int .i64 rd) H6.o.2;have ho:=(((bj w6 R0 0 (.int .i64 ra)).setCell (p:=⟨R0,1,none⟩) (fun _=>rfl) (.int .i64 rb)).setCell (p:=⟨R0,2,none⟩) (fun _=>rfl) (.int .i64 rc)).setCell (p:=⟨R0,3,none⟩) (fun _=>rfl) (.int .i64 rd);have HO:=al (ab vF ho);clear vF ho;generalize ((((w6.setCell ⟨R0,0,none⟩ (.int .i64 ra)).setCell ⟨R0,1,none⟩ (.int .i64 rb)).setCell ⟨R0,2,none⟩ (.int .i64 rc)).setCell ⟨R0,3,none⟩ (.int .i64 rd))=w7 at HO⊢;refine dr (dm rfl _ _ _ _ _ _ _ rfl HO.o.1 underlying113 rfl (by kernel_rfl)) rfl ⟨?_,?_,?_⟩
   ·unfold rowP;rw[HP.o];simp only[if_true,HQ.o];rfl
   ·unfold rowP;rw[HP.o];exact(H4.o.1.below HL.o HC.o.2.1 H6.o.1).back H4.o.t HC.o.1 HC.o.2.1 HO.o.2
   ·exact(H4.o.2.1.x (oj H6.o.1 c.W) (fun _ _ h=>h)).x HO.o.2 (fun k hk hs=>by have:=HR.o.1;omega)
 ·clear zu;have oC:(n !=0)=true:=by simpa using hn
  have HN:=al hn;clear hn;go_wp2_with fail;have vF:=zS (v0:=.int .i64 0) (v1:=.int .i64 0) (v2:=.int .i64 0) (v3:=.int .i64 0) H4.o.d.1;have ho:=(((bj w4 R0 0 (.int .i64 0)).setCell (p:=⟨R0,1,none⟩) (fun _=>rfl) (.int .i64 0)).setCell (p:=⟨R0,2,none⟩) (fun _=>rfl) (.int .i64 0)).setCell (p:=⟨R0,3,none⟩) (fun _=>rfl) (.int .i64 0);have HO:=al (ab vF ho);clear vF ho;generalize ((((w4.setCell ⟨R0,0,none⟩ (.int .i64 0)).setCell ⟨R0,1,none⟩ (.int .i64 0)).setCell ⟨R0,2,none⟩ (.int .i64 0)).setCell ⟨R0,3,none⟩ (.int .i64 0))=w5 at HO⊢;refine dr (dm rfl _ _ _ _ _ _ _ rfl HO.o.1 underlying113 rfl (by kernel_rfl)) rfl ⟨?_,?_,?_⟩
  ·unfold rowP;rw[HP.o];simp only[ff HN.o];rfl
  ·unfold rowP;rw[HP.o];exact H4.o.1.back H4.o.t HC.o.1 HC.o.2.1 HO.o.2
  ·exact H4.o.2.1.x HO.o.2 (fun k hk hs=>by have:=HR.o.1;omega)
end
section
variable{R:Type}{c:RC}{K:(Nat->Prop)->R->World->Prop}{get:R->List UInt8->Option Rw}{w:World}{s:PS R}
theorem Pk{f:Nat->Int}(h: ∀i,aK (f i))(a:Nat){v:Int}(hv:aK v): ∀i,aK (oZ f a v i):=fun i=>by
 unfold oZ;split
 ·exact hv
 ·exact h i
def UD(x:aO)(s:PS R):PS R×Int:=({s with bI:=oZ s.bI x.a.toNat x.c},0)
theorem S3(hc:c.Fit)(hK:ui K)(h:MI c K w s)(x:aO)(a:Nat)(ha:a<8)(jT:x.a=(a:Int))(zi: -1099511627776<=x.c/\x.c<=1099511627776):
  Calls prog 98 #[.pointer (some ⟨c.M,0,none⟩),x.val] w (ly c K (UD x s) w):=by
 have h0:=h;obtain⟨f,h1,_,_,_,_,_,h7⟩:=h;refine(Vt w c.M (c.ms s f) h1 x a ha jT).m ?_;rintro e w' ⟨rfl,hm,ho⟩;refine⟨rfl,h0.turn hc hK ho (fun XO Hu=>?_) rfl rfl ⟨Pk h7.1 _ ⟨by omega,by omega⟩,h7.2⟩,ho.zt hc⟩
 obtain rfl:XO=f:=by have:=Hu.foot;rw[h1.foot]at this;simp only[RC.ms,fl]at this;exact this.symm
 unfold UD;rw[jT];exact hm
theorem JL(w:World):Calls prog 135 #[.bool true] w fun e w'=>e=.returned (.int .i64 1)/\w=w':=by
 go_enter func135,ntmps135;go_wp2;go_ret
 exact⟨rfl,rfl⟩
theorem Pm(w:World):Calls prog 135 #[.bool false] w fun e w'=>e=.returned (.int .i64 0)/\w=w':=by
 go_enter func135,ntmps135;go_wp2;go_ret
 exact⟨rfl,rfl⟩
def qJ(ok:Cl->Bool)(get:R->List UInt8->Option Rw)(x:aO)(s:PS R):PS R×Int:=
 let p:=rowP ok get x.b.toNat s
 if p.2.2=0 then({p.1 with bI:=oZ p.1.bI x.a.toNat (if p.2.1.isSome then 1 else 0)},0)else(p.1,p.2.2)
theorem MI.jx{a:Nat}(hc:c.Fit)(hK:ui K)(h:MI c K w s)(ha:a<8){v:Int}(hv:aK v):MI c K (w.setCell ⟨c.M,18+a,none⟩ (.int .i64 v)) {s with bI:=oZ s.bI a v}:=by have h0:=h;obtain⟨f,h1,_,_,_,_,_,h7⟩:=h;exact h0.turn hc hK (bj w c.M (18+a) _) (fun XO Hu=>Hu.jx ha v) rfl rfl ⟨Pk h7.1 _ hv,h7.2⟩
theorem MI.drew(h:MI c K w s)(hc:c.Fit)(hK:ui K):MI c K w.drew s:=h.below hc hK ((aw _ _).drew)
theorem S4(hc:c.Fit)(hK:ui K)(hT:SZ K)(hG:EN c.b K get)(h:MI c K w s)(x:aO)(a b:Nat)(ha:a<8)(hb:b<8)(jT:x.a=(a:Int))(qj:x.b=(b:Int)):
  Calls prog 104 #[.pointer (some ⟨c.M,0,none⟩),x.val] w (ly c K (qJ c.ok get x s) w):=by
 obtain⟨dk,xa,xb,xc,xn⟩:=x;simp only at jT qj;subst jT qj;unfold aO.val;simp only;obtain⟨hb0,k0⟩:=qn w (.cells #[.int .i64 dk,.int .i64 (a:Int),.int .i64 (b:Int),.int .i64 xc,.int .i64 xn] 93);have h1:=h.below hc hK hb0;have HC:=al (ab hc (ab hK (ab hT hG)));have Ay: ∀k,c.S k->k<w.heap.size:=by obtain⟨_,_,_,_,_,_,h6,_⟩:=h;exact h6
 have i1:(0:Int)<=(a:Int):=by omega
 have i2:(a:Int)<8:=by omega
 go_enter func104,ntmps104;go_upto_region 1 with fail;generalize w.alloc (.cells #[.int .i64 dk,.int .i64 (a:Int),.int .i64 (b:Int),.int .i64 xc,.int .i64 xn] 93)=w1 at hb0 k0 h1⊢;obtain⟨O,hO⟩:=qt (w.heap.size);rw[hO]at k0⊢;have hOn: ¬c.S O:=fun hs=>by have:=Ay O hs;omega
 have o2:w1.cell? ⟨O,2,none⟩=some (.int .i64 (b:Int)):=by simp[World.cell?,k0]
 have HR:=al (Pj hc hK hT hG h1 b hb);have H1:=al (ab hb0 (ab k0 hOn));obtain⟨s',r,n,hp⟩: ∃s' r n,rowP c.ok get b s=(s',r,n):=⟨_,_,_,rfl⟩;rw[hp]at HR;have HP:=al hp;clear h h1 hb0 k0 hO hOn Ay hp hc hK hT hG;go_wp2_with fail;refine HR.o.m ?_;rintro e w2 ⟨rfl,Mu,dY⟩;have k2:=dY.heap H1.o.2.1 (fun h=>H1.o.d (HC.o.1.sub _ h));obtain⟨⟨ra,rb,rc,rd⟩,Av⟩: ∃q,r.getD .zero=q:=⟨_,rfl⟩;simp only[Av,Rw.val];have HI:=al (ab Mu (ab dY k2));clear Mu dY k2 HR;go_upto_region 2 with fail;have hbz:=ae w2 (.cells #[.int .i64 ra,.int .i64 rb,.int .i64 rc,.int .i64 rd] 113);have HZ:=al hbz;clear hbz;generalize w2.alloc (.cells #[.int .i64 ra,.int .i64 rb,.int .i64 rc,.int .i64 rd] 113)=w3 at HZ⊢;have h3:=HI.o.1.below HC.o.1 HC.o.2.1 HZ.o;have k3:=pt HZ.o HI.o.d;have Ml:Only c.W w w3:=((oj H1.o.1 c.W).x HI.o.2.1 (fun _ _ h=>h)).x (oj HZ.o c.W) (fun _ _ h=>h);by_cases hn:n=0
 ·subst hn;have H3:=al (ab h3 Ml);obtain⟨f3,EP,_⟩:=h3;have m3:=EP.bI ha;have mf:=EP.free (18+a);have o1:w3.cell? ⟨O,1,none⟩=some (.int .i64 (a:Int)):=by simp[World.cell?,k3]
  have ER: ¬O=c.M:=fun e=>H1.o.d (by rw[e];exact HC.o.1.own);have o1': ∀v,(w3.setCell ⟨c.M,18+a,none⟩ v).cell? ⟨O,1,none⟩=some (.int .i64 (a:Int)):=fun v=>(bj w3 c.M (18+a) v).cell o1 ER;clear EP k3 Ml;cases hq:r.isSome
  focus
   go_wp2_with fail
   go_region_held3 (fun W=>W.cell? ⟨O,1,none⟩=some (.int .i64 (a:Int))) (first|exact o1|exact o1' _|go_keep) (first|(go_at_call 135;refine(Pm _).m ?_;rintro e w' ⟨rfl,rfl⟩))
   go_wp2_with fail;go_ret
   have HF:=(H3.o.1.drew HC.o.1 HC.o.2.1).jx HC.o.1 HC.o.2.1 ha (v:=0) ⟨by decide,by decide⟩
  rotate_left
  focus
   go_wp2_with fail
   go_region_held3 (fun W=>W.cell? ⟨O,1,none⟩=some (.int .i64 (a:Int))) (first|exact o1|exact o1' _|go_keep) (first|(go_at_call 135;refine(JL _).m ?_;rintro e w' ⟨rfl,rfl⟩))
   go_wp2_with fail;go_ret
   have HF:=(H3.o.1.drew HC.o.1 HC.o.2.1).jx HC.o.1 HC.o.2.1 ha (v:=1) ⟨by decide,by decide⟩
  all_goals
   refine⟨?_,?_,H3.o.2.x ((lL w3 1 c.M (18+a) _).zt HC.o.1) (fun _ _ h=>h)⟩
   ·unfold qJ;simp only[jj,HP.o,if_true];rfl
   ·unfold qJ;simp only[jj,HP.o,if_true,hq];exact HF
 ·have oC:(n==0)=false:=by simpa using hn
  have HN:=al (ab hn (ab h3 Ml));clear hn h3 k3 Ml;go_wp2_with fail;go_ret
  refine⟨?_,?_,HN.o.d⟩
  ·unfold qJ;simp only[jj,HP.o,ff HN.o.1];rfl
  ·unfold qJ;simp only[jj,HP.o,ff HN.o.1];exact HN.o.2.1
end
def Hw(w:World)(M:Nat):Int:=match w.cell? ⟨M,17,none⟩with
 |some (.int _ n)=>n
 |_=>0
theorem MI.Hw{R:Type}{c:RC}{K:(Nat->Prop)->R->World->Prop}{w:World}{s:PS R}(h:MI c K w s):Hw w c.M=s.pc:=by obtain⟨f,h1,_⟩:=h;have:=h1.pc;unfold Proofs.YtmkofmeojbcakaaGreatDoor.Hw;rw[this];rfl
def yo{R:Type}(c:RC)(K:(Nat->Prop)->R->World->Prop)(act:aO->PS R->PS R×Int)(fr tt:Nat):Prop:=
 ∀(i:Nat) (x:aO),fr<=i->i<tt->c.ops[i]?=some x->(1<=x.d/\x.d<=15)/\ ∀(s:PS R),s.pc=(i:Int)+1->
  (∀w,MI c K w s->Calls prog (Cy x.d.toNat) #[.pointer (some ⟨c.M,0,none⟩),x.val] w (ly c K (act x s) w))/\((act x s).2=0->s.pc<=(act x s).1.pc)
def aap{R:Type}(c:RC)(K:(Nat->Prop)->R->World->Prop)(act:aO->PS R->PS R×Int)(fr tt:Nat)(s0:PS R)(w wr:World):Prop:=
 ∃(s:PS R) (g:Nat),MI c K wr s/\Only c.W w wr/\dA c.fuel c.ops act tt (tt-fr) s0=dA c.fuel c.ops act tt g s/\(tt:Int)-s.pc<=g/\(fr:Int)<=s.pc
theorem ES{R:Type}{c:RC}{K:(Nat->Prop)->R->World->Prop}{act:aO->PS R->PS R×Int}{w:World}{s:PS R}(hc:c.Fit)(hK:ui K)(h:MI c K w s)(fr tt:Nat)(hft:fr<=tt)(Xl:tt<=c.ops.length)(ha:yo c K act fr tt):
  Calls prog 72 #[.pointer (some ⟨c.M,0,none⟩),.int .i64 fr,.int .i64 tt] w (ly c K (dA c.fuel c.ops act tt (tt-fr) {s with pc:=fr}) w):=by
 have hlen:=hc.ops
 have h0:MI c K (w.setCell ⟨c.M,17,none⟩ (.int .i64 fr)) {s with pc:=fr}:=by refine h.turn hc hK (bj w c.M 17 _) (fun f hm=>hm.Jg _) rfl rfl ?_;obtain⟨_,_,_,_,_,_,_,h7⟩:=h;exact⟨h7.1,h7.2.1,by show(0:Int)<=(fr:Int);omega,by show(fr:Int)<=1000;omega⟩
 have HC:=al (ab hc (ab hK ha));have H0:=al (show aap c K act fr tt {s with pc:=fr} w (w.setCell ⟨c.M,17,none⟩ (.int .i64 fr))from⟨_,tt-fr,h0,(bj w c.M 17 _).zt hc,rfl,by show(tt:Int)-(fr:Int)<=((tt-fr:Nat):Int);omega,eL _⟩);obtain⟨f,hm,_⟩:=h;have cf:=hm.free 17;have cp:=hm.pc;simp only[RC.ms]at cp;clear hm ha h0 hc hK;go_enter func72,ntmps72;go_wp2_with fail
 go_step3
 go_wp2_with fail
 go_step3
 go_wp2_with fail
 go_loopw [7] (fun e wr=>e=.int .i64 0/\aap c K act fr tt {s with pc:=fr} w wr) (fun _ wr=>((tt:Int)-Hw wr c.M).toNat)
 case atStart=>exact⟨rfl,H0.o⟩
 case round=>
  obtain⟨rfl,s1,g,r1,r2,r3,r4,r5⟩:=hrel;have HR:=al (ab r1 (ab r2 (ab r3 (ab r4 r5))));have hpc:=r1.Hw;obtain⟨f1,jo,_,_,lh,_,_,hfit⟩:=r1;have c17:=jo.pc;simp only[RC.ms]at c17;by_cases hlt:s1.pc<tt
  ·obtain⟨i,hi⟩: ∃i:Nat,s1.pc=(i:Int):=⟨s1.pc.toNat,by have:=hfit.2.2.1;omega⟩;have hi1:fr<=i:=by omega
   have hi2:i<tt:=by omega
   obtain⟨x,hx⟩: ∃x,c.ops[i]?=some x:=⟨_,ao (by omega)⟩;obtain⟨g',rfl⟩: ∃g',g=g'+1:=⟨g-1,by omega⟩;have hxp:c.ops[s1.pc.toNat]?=some x:=by rw[hi];simpa using hx
   by_cases Ww:c.fuel<=s1.steps
   ·have HE:=al (ab (Ha (fuel:=c.fuel) (ops:=c.ops) (act:=act) (g:=g') hlt Ww) (EL HC.o.1 HC.o.2.1 HR.o.1 Ww));clear r2 r3 r4 r5 hpc jo lh hfit hx hxp hi;go_wp2_with fail;refine HE.o.2.m ?_;rintro e w2 ⟨rfl,hI,ho⟩;have HI:=al (ab hI ho);clear hI ho;go_wp2_with fail;go_ret
    refine⟨?_,?_,HR.o.2.1.x HI.o.2 (fun _ _ h=>h)⟩
    ·rw[HR.o.d.1,HE.o.1];rfl
    ·rw[HR.o.d.1,HE.o.1];exact HI.o.1
   ·have hst:s1.steps<c.fuel:=by omega
    have HX:=al (ab hx (ab hxp (ab hi (ab hst hlt))));have HS:=al (EK HC.o.1 HC.o.2.1 HR.o.1 hst);clear r2 r3 r4 r5 hpc jo lh hfit hx hxp Ww hst hi;go_wp2_with fail;refine HS.o.m ?_;rintro e w2 ⟨rfl,hI,ho⟩;clear c17 hlt;have HI:=al (ab hI (HR.o.2.1.x ho (fun _ _ h=>h)));obtain⟨f2,hm2,_,_,JM,_,hS2,aaq⟩:=hI;obtain⟨A,Zp,hov,hlc,hcm⟩:=JM.slice;unfold maxLen at hcm;have c0:=hm2.ops;have c17:=hm2.pc;have f17:=hm2.free 17;rw[hov]at JM;obtain⟨b,o,rfl,qP,d0,d1,d2,d3,d4⟩:=JM.at_ HX.o.1;simp only[RC.ms,hov,HX.o.d.1]at c0 c17;have hMl:=hm2.lt;obtain⟨xd,xa,xb,xc,xn⟩:=x;simp only at d0 d1 d2 d3 d4;have hbM: ¬b=c.M:=fun e=>qP (by rw[e];exact HC.o.1.own);have hbl:=aq _ _ d0;simp only at hbl;have i1:(0:Int)<=(i:Int):=by omega
    have i2:(i:Int)<(c.ops.length:Int):=by omega
    clear JM hm2 aaq hS2 ho hov qP HS;go_upto_region 6 with fail
    go_region
    go_upto_region 7 with fail;have fC:Below w2.heap.size w2 (w2.alloc (.cells #[.int .i64 xd,.int .i64 xa,.int .i64 xb,.int .i64 xc,.int .i64 xn] 93)).drew:=(pR w2 (.cells #[.int .i64 xd,.int .i64 xa,.int .i64 xb,.int .i64 xc,.int .i64 xn] 93)).drew;have k6:(w2.alloc (.cells #[.int .i64 xd,.int .i64 xa,.int .i64 xb,.int .i64 xc,.int .i64 xn] 93)).drew.heap[w2.heap.size]?=some (.cells #[.int .i64 xd,.int .i64 xa,.int .i64 xb,.int .i64 xc,.int .i64 xn] 93 (0,0)):=an w2 _;clear c0 c17 f17 d0 d1 d2 d3 d4;generalize (w2.alloc (.cells #[.int .i64 xd,.int .i64 xa,.int .i64 xb,.int .i64 xc,.int .i64 xn] 93)).drew=w6 at fC k6⊢;obtain⟨O,hO⟩:=qt (w2.heap.size);rw[hO]at k6⊢;have hI6:=HI.o.1.below HC.o.1 HC.o.2.1 fC;have ER: ¬O=c.M:=by omega
    obtain⟨f6,Wx,_⟩:=hI6;have c17:=Wx.pc;have f17:=Wx.free 17;simp only[RC.ms,HX.o.d.1]at c17;have hw1:IntKind.i64.wrap ((i:Int)+1)=(i:Int)+1:=by rw[gr];omega
    have h7:MI c K (w6.setCell ⟨c.M,17,none⟩ (.int .i64 ((i:Int)+1))) {s1 with steps:=s1.steps+1,pc:=s1.pc+1}:=by
     have h6:=HI.o.1.below HC.o.1 HC.o.2.1 fC;refine h6.turn HC.o.1 HC.o.2.1 (bj w6 c.M 17 _) (fun f hm=>?_) rfl rfl ?_
     ·have:=hm.Jg ((i:Int)+1);simp only[RC.ms,HX.o.d.1]at this⊢;exact this
     ·obtain⟨_,_,_,_,_,_,_,q7⟩:=h6;exact⟨q7.1,q7.2.1,by show 0<=s1.pc+1;have:=q7.2.2.1;simp only at this;omega,by show s1.pc+1<=1000;rw[HX.o.d.1];omega⟩
    have k7:=(bj w6 c.M 17 (.int .i64 ((i:Int)+1))).heap k6 ER;have CP:Only c.W w (w6.setCell ⟨c.M,17,none⟩ (.int .i64 ((i:Int)+1))):=(HI.o.2.x (oj fC c.W) (fun _ _ h=>h)).x ((bj w6 c.M 17 _).zt HC.o.1) (fun _ _ h=>h);have H7:=al (ab h7 (ab k7 CP));clear h7 k7 CP Wx k6 fC hO;go_upto_region 8 with fail;generalize w6.setCell ⟨c.M,17,none⟩ (.int .i64 ((i:Int)+1))=w7 at H7⊢;clear c17 f17 hw1;obtain⟨⟨hd1,hd2⟩,CA⟩:=HC.o.d i _ hi1 hi2 HX.o.1;simp only at hd1 hd2;obtain⟨dn,rfl⟩: ∃dn:Nat,xd=(dn:Int):=⟨xd.toNat,by omega⟩;obtain⟨h7,k7,CP⟩:=H7.o;obtain⟨f7,hm7,_⟩:=id h7;have ca:=hm7.act (show 1<=dn by omega) (show dn<=15 by omega);have hen:=EM (show 1<=dn by omega) (show dn<=15 by omega);obtain⟨fn,hfn⟩:=qt (Cy dn);have ET:=CA {s1 with steps:=s1.steps+1,pc:=s1.pc+1} (by show s1.pc+1=(i:Int)+1;rw[HX.o.d.1]);rw[show(aO.mk (dn:Int) xa xb xc xn).d.toNat=dn from jj dn]at ET;rw[hfn]at ca hen ET;unfold pU at ca;have HA:=al (ab (ET.1 w7.drew (h7.drew HC.o.1 HC.o.2.1)) ET.2);obtain⟨e0,e1,e2,e3,e4⟩:=tu k7;have j1:(0:Int)<=(dn:Int):=by omega
    have j2:(dn:Int)<16:=by omega
    clear h7 k7 CP hm7 CA ET hfn
    go_still_tail 9,(by kernel_rfl)
    change wpList _ _ _ _ _ w7.drew;have HD:=al (aw w7.heap.size w7).drew;generalize w7.drew=w8 at HA HD⊢;go_wp2_with fail;obtain⟨s3,n,hp⟩: ∃s3 n,act (aO.mk (dn:Int) xa xb xc xn) {s1 with steps:=s1.steps+1,pc:=s1.pc+1}=(s3,n):=⟨_,_,rfl⟩;rw[hp]at HA;have HP:=al hp;clear hp;refine HA.o.1.m ?_;rintro e w9 ⟨rfl,hI9,eB⟩;have Ux:Only c.W w w9:=(H7.o.d.x (oj HD.o c.W) (fun _ _ h=>h)).x eB (fun _ _ h=>h);by_cases hn:n=0
    ·subst hn;have HE:=al (Lq (g:=g') (tt:=(tt:Int)) HX.o.q HX.o.t.1 HX.o.2.1 HP.o);have HF:=al (ab hI9 Ux);have Wy:=hI9.Hw;have hge:=HA.o.2 rfl;have Wz:=HR.o.1.Hw;simp only[HX.o.d.1]at hge Wz Wy;have HG:=al (ab hge (ab Wz Wy));clear hI9 Ux eB hge Wz Wy;go_wp2_with fail;go_roundw
     case rel=>
      refine⟨rfl,s3,g',HF.o.1,HF.o.2,by rw[HR.o.d.1,HE.o],?_,?_⟩
      ·have h1:=HR.o.t.1;have h2:=HG.o.1;rw[HX.o.d.1]at h1;omega
      ·have h2:=HG.o.1;omega
     case measure=>rw[HG.o.2.1,HG.o.d];have h2:=HG.o.1;omega
    ·have oC:(n !=0)=true:=by simpa using hn
     have HE:=al (EB (g:=g') (tt:=(tt:Int)) HX.o.q HX.o.t.1 HX.o.2.1 HP.o hn);have HF:=al (ab hI9 Ux);clear hn hI9 Ux eB;go_wp2_with fail;go_ret
     refine⟨?_,?_,HF.o.2⟩
     ·rw[HR.o.d.1,HE.o];rfl
     ·rw[HR.o.d.1,HE.o];exact HF.o.1
  ·have HE:=al (G9 (fuel:=c.fuel) (ops:=c.ops) (act:=act) (g:=g) (show(tt:Int)<=s1.pc by omega));clear r2 r3 r4 r5 hpc jo lh hfit;go_wp2_with fail;go_ret
   refine⟨?_,?_,HR.o.2.1⟩
   ·rw[HR.o.d.1,HE.o];rfl
   ·rw[HR.o.d.1,HE.o];exact HR.o.1
theorem yq{n:Int}(h:km n):(Lib.itoa n).length<=20:=by
 unfold Lib.itoa;split
 ·have h1:=kW 18 n.natAbs (by have:=h.1;omega);rw[fm,Lib.decDigits_length];omega
 ·have h1:=kW 18 n.toNat (by have:=h.2;omega);rw[Lib.decDigits_length];omega
theorem Pn(d:Nat)(h:d<10):(⟨#[48,49,50,51,52,53,54,55,56,57]⟩:ByteArray).extract d (d+1)=⟨#[UInt8.ofNat (48+d)]⟩:=by
 have:d=0\/d=1\/d=2\/d=3\/d=4\/d=5\/d=6\/d=7\/d=8\/d=9:=by omega
 rcases this with rfl|rfl|rfl|rfl|rfl|rfl|rfl|rfl|rfl|rfl<;>rfl
theorem JN(l:List UInt8)(b:UInt8):(⟨l.toArray⟩:ByteArray)++⟨#[b]⟩=⟨(l++[b]).toArray⟩:=by apply ByteArray.ext;simp
theorem yr: ∀(N:Nat) (n:Int) (w:World),n.natAbs<=N->km n->Calls prog 38 #[.int .i64 n] w fun e w'=>e=.returned (.string ⟨(Lib.itoa n).toArray⟩)/\ ∃m,w'=w.drewN m
 |N,n,w,hN,hn=>by
  by_cases h0:n<0
  ·by_cases h1: -10<n
   ·have hcs:n= -1\/n= -2\/n= -3\/n= -4\/n= -5\/n= -6\/n= -7\/n= -8\/n= -9:=by omega
    rcases hcs with rfl|rfl|rfl|rfl|rfl|rfl|rfl|rfl|rfl
    ·have HE:=al (show((⟨#[45]⟩:ByteArray)++(⟨#[48,49,50,51,52,53,54,55,56,57]⟩:ByteArray).extract 1 2)=⟨(Lib.itoa (-1)).toArray⟩ by rw[dG (by decide) (by decide)];rfl);go_enter func38,ntmps38;go_wp2;go_ret
     exact⟨by rw[<-HE.o];rfl,0,by rw[iS]⟩
    ·have HE:=al (show((⟨#[45]⟩:ByteArray)++(⟨#[48,49,50,51,52,53,54,55,56,57]⟩:ByteArray).extract 2 3)=⟨(Lib.itoa (-2)).toArray⟩ by rw[dG (by decide) (by decide)];rfl);go_enter func38,ntmps38;go_wp2;go_ret
     exact⟨by rw[<-HE.o];rfl,0,by rw[iS]⟩
    ·have HE:=al (show((⟨#[45]⟩:ByteArray)++(⟨#[48,49,50,51,52,53,54,55,56,57]⟩:ByteArray).extract 3 4)=⟨(Lib.itoa (-3)).toArray⟩ by rw[dG (by decide) (by decide)];rfl);go_enter func38,ntmps38;go_wp2;go_ret
     exact⟨by rw[<-HE.o];rfl,0,by rw[iS]⟩
    ·have HE:=al (show((⟨#[45]⟩:ByteArray)++(⟨#[48,49,50,51,52,53,54,55,56,57]⟩:ByteArray).extract 4 5)=⟨(Lib.itoa (-4)).toArray⟩ by rw[dG (by decide) (by decide)];rfl);go_enter func38,ntmps38;go_wp2;go_ret
     exact⟨by rw[<-HE.o];rfl,0,by rw[iS]⟩
    ·have HE:=al (show((⟨#[45]⟩:ByteArray)++(⟨#[48,49,50,51,52,53,54,55,56,57]⟩:ByteArray).extract 5 6)=⟨(Lib.itoa (-5)).toArray⟩ by rw[dG (by decide) (by decide)];rfl);go_enter func38,ntmps38;go_wp2;go_ret
     exact⟨by rw[<-HE.o];rfl,0,by rw[iS]⟩
    ·have HE:=al (show((⟨#[45]⟩:ByteArray)++(⟨#[48,49,50,51,52,53,54,55,56,57]⟩:ByteArray).extract 6 7)=⟨(Lib.itoa (-6)).toArray⟩ by rw[dG (by decide) (by decide)];rfl);go_enter func38,ntmps38;go_wp2;go_ret
     exact⟨by rw[<-HE.o];rfl,0,by rw[iS]⟩
    ·have HE:=al (show((⟨#[45]⟩:ByteArray)++(⟨#[48,49,50,51,52,53,54,55,56,57]⟩:ByteArray).extract 7 8)=⟨(Lib.itoa (-7)).toArray⟩ by rw[dG (by decide) (by decide)];rfl);go_enter func38,ntmps38;go_wp2;go_ret
     exact⟨by rw[<-HE.o];rfl,0,by rw[iS]⟩
    ·have HE:=al (show((⟨#[45]⟩:ByteArray)++(⟨#[48,49,50,51,52,53,54,55,56,57]⟩:ByteArray).extract 8 9)=⟨(Lib.itoa (-8)).toArray⟩ by rw[dG (by decide) (by decide)];rfl);go_enter func38,ntmps38;go_wp2;go_ret
     exact⟨by rw[<-HE.o];rfl,0,by rw[iS]⟩
    ·have HE:=al (show((⟨#[45]⟩:ByteArray)++(⟨#[48,49,50,51,52,53,54,55,56,57]⟩:ByteArray).extract 9 10)=⟨(Lib.itoa (-9)).toArray⟩ by rw[dG (by decide) (by decide)];rfl);go_enter func38,ntmps38;go_wp2;go_ret
     exact⟨by rw[<-HE.o];rfl,0,by rw[iS]⟩
   ·obtain⟨m,rfl⟩: ∃m:Nat,n= -(m:Int):=⟨n.natAbs,by omega⟩;have jo:m<=9223372036854775808:=by have:=hn.1;omega
    have hm2:10<=m:=by omega
    cases N with
    |zero=>omega
    |succ N=>
     have Jp:=al (fun W=>yr N (-((m/10:Nat):Int)) W (by omega) ⟨by omega,by omega⟩);have HE:=al (ab (zr (n:= -(m:Int)) h0 (by rw[tdiv_neg];omega)) (Pn (m%10) (by omega)));rw[tdiv_neg,tmod_neg]at HE;have e1:=tdiv_neg m;have e2:=tmod_neg m;obtain⟨q,hq⟩:=qt (m/10);obtain⟨d,hd⟩:=qt (m%10);have hd9:d<10:=by omega
     have hqm:q<=922337203685477580:=by omega
     have hq1:1<=q:=by omega
     rw[hq]at Jp HE e1;rw[hd]at HE e2;clear hq hd hn hN h1;have w1:IntKind.i64.wrap (-(q:Int))= -(q:Int):=by rw[gr];omega
     have w2:IntKind.i64.wrap (-(d:Int))= -(d:Int):=by rw[gr];omega
     have w3:IntKind.i64.wrap (0- -(d:Int))=(d:Int):=by rw[gr];omega
     have w4:IntKind.i64.wrap (1- -(d:Int))=(d:Int)+1:=by rw[gr];omega
     have w5:IntKind.i64.wrap (d:Int)=(d:Int):=by rw[gr];omega
     have w6:IntKind.i64.wrap (1+(d:Int))=(d:Int)+1:=by rw[gr];omega
     have v1:wrap64 (-(q:Int))= -(q:Int):=by unfold wrap64;omega
     have hqz:((-(q:Int))==0)=false:=by rw[beq_eq_false_iff_ne];omega
     have hc1:0<=(d:Int)+1/\(d:Int)+1<=10:=by omega
     have hc2:(d:Int)<=(d:Int)+1:=by omega
     have hc3: ¬9223372036854775807<(Lib.itoa (-(q:Int))).length+(min (d+1) 10-d):=by have:=yq (n:= -(q:Int)) ⟨by omega,by omega⟩;omega
     go_enter func38,ntmps38;go_wp2;go_quiet(first|(go_at_call 38;exact(Jp.o _).m (fun e w' ⟨h1,j,h2⟩=>⟨h1,_,h2.x (World.drewN_drewN _ _ _)⟩))|fail);go_wp2;go_ret
     refine⟨?_,_,rfl⟩;show Ending.returned (.string ((⟨(Lib.itoa (-(q:Int))).toArray⟩:ByteArray)++(⟨#[48,49,50,51,52,53,54,55,56,57]⟩:ByteArray).extract d (d+1)))=.returned (.string ⟨(Lib.itoa (-(m:Int))).toArray⟩);rw[HE.o.2,JN,HE.o.1];simp
  ·by_cases h1:n<10
   ·have hcs:n=0\/n=1\/n=2\/n=3\/n=4\/n=5\/n=6\/n=7\/n=8\/n=9:=by omega
    rcases hcs with rfl|rfl|rfl|rfl|rfl|rfl|rfl|rfl|rfl|rfl
    ·have HE:=al (show(⟨#[48,49,50,51,52,53,54,55,56,57]⟩:ByteArray).extract 0 1=⟨(Lib.itoa 0).toArray⟩ by rw[gz (by decide) (by decide)];rfl);go_enter func38,ntmps38;go_wp2;go_ret
     exact⟨by rw[<-HE.o];rfl,0,by rw[iS]⟩
    ·have HE:=al (show(⟨#[48,49,50,51,52,53,54,55,56,57]⟩:ByteArray).extract 1 2=⟨(Lib.itoa 1).toArray⟩ by rw[gz (by decide) (by decide)];rfl);go_enter func38,ntmps38;go_wp2;go_ret
     exact⟨by rw[<-HE.o];rfl,0,by rw[iS]⟩
    ·have HE:=al (show(⟨#[48,49,50,51,52,53,54,55,56,57]⟩:ByteArray).extract 2 3=⟨(Lib.itoa 2).toArray⟩ by rw[gz (by decide) (by decide)];rfl);go_enter func38,ntmps38;go_wp2;go_ret
     exact⟨by rw[<-HE.o];rfl,0,by rw[iS]⟩
    ·have HE:=al (show(⟨#[48,49,50,51,52,53,54,55,56,57]⟩:ByteArray).extract 3 4=⟨(Lib.itoa 3).toArray⟩ by rw[gz (by decide) (by decide)];rfl);go_enter func38,ntmps38;go_wp2;go_ret
     exact⟨by rw[<-HE.o];rfl,0,by rw[iS]⟩
    ·have HE:=al (show(⟨#[48,49,50,51,52,53,54,55,56,57]⟩:ByteArray).extract 4 5=⟨(Lib.itoa 4).toArray⟩ by rw[gz (by decide) (by decide)];rfl);go_enter func38,ntmps38;go_wp2;go_ret
     exact⟨by rw[<-HE.o];rfl,0,by rw[iS]⟩
    ·have HE:=al (show(⟨#[48,49,50,51,52,53,54,55,56,57]⟩:ByteArray).extract 5 6=⟨(Lib.itoa 5).toArray⟩ by rw[gz (by decide) (by decide)];rfl);go_enter func38,ntmps38;go_wp2;go_ret
     exact⟨by rw[<-HE.o];rfl,0,by rw[iS]⟩
    ·have HE:=al (show(⟨#[48,49,50,51,52,53,54,55,56,57]⟩:ByteArray).extract 6 7=⟨(Lib.itoa 6).toArray⟩ by rw[gz (by decide) (by decide)];rfl);go_enter func38,ntmps38;go_wp2;go_ret
     exact⟨by rw[<-HE.o];rfl,0,by rw[iS]⟩
    ·have HE:=al (show(⟨#[48,49,50,51,52,53,54,55,56,57]⟩:ByteArray).extract 7 8=⟨(Lib.itoa 7).toArray⟩ by rw[gz (by decide) (by decide)];rfl);go_enter func38,ntmps38;go_wp2;go_ret
     exact⟨by rw[<-HE.o];rfl,0,by rw[iS]⟩
    ·have HE:=al (show(⟨#[48,49,50,51,52,53,54,55,56,57]⟩:ByteArray).extract 8 9=⟨(Lib.itoa 8).toArray⟩ by rw[gz (by decide) (by decide)];rfl);go_enter func38,ntmps38;go_wp2;go_ret
     exact⟨by rw[<-HE.o];rfl,0,by rw[iS]⟩
    ·have HE:=al (show(⟨#[48,49,50,51,52,53,54,55,56,57]⟩:ByteArray).extract 9 10=⟨(Lib.itoa 9).toArray⟩ by rw[gz (by decide) (by decide)];rfl);go_enter func38,ntmps38;go_wp2;go_ret
     exact⟨by rw[<-HE.o];rfl,0,by rw[iS]⟩
   ·obtain⟨m,rfl⟩: ∃m:Nat,n=(m:Int):=⟨n.toNat,by omega⟩;have jo:m<=9223372036854775807:=by have:=hn.2;omega
    have hm2:10<=m:=by omega
    cases N with
    |zero=>omega
    |succ N=>
     have Jp:=al (fun W=>yr N ((m/10:Nat):Int) W (by omega) ⟨by omega,by omega⟩);have HE:=al (ab (LL (n:=(m:Int)) (by omega)) (Pn (m%10) (by omega)));rw[sF,sG]at HE;have e1:=sF m;have e2:=sG m;obtain⟨q,hq⟩:=qt (m/10);obtain⟨d,hd⟩:=qt (m%10);have hd9:d<10:=by omega
     have hqm:q<=922337203685477580:=by omega
     rw[hq]at Jp HE e1;rw[hd]at HE e2;clear hq hd hn hN;have w1:IntKind.i64.wrap (q:Int)=(q:Int):=by rw[gr];omega
     have w2:IntKind.i64.wrap (d:Int)=(d:Int):=by rw[gr];omega
     have w3:IntKind.i64.wrap ((d:Int)+1)=(d:Int)+1:=by rw[gr];omega
     have hc1:0<=(d:Int)+1/\(d:Int)+1<=10:=by omega
     have hc2:(d:Int)<=(d:Int)+1:=by omega
     have hc3: ¬9223372036854775807<(Lib.itoa ((q:Int))).length+(min (d+1) 10-d):=by have:=yq (n:=(q:Int)) ⟨by omega,by omega⟩;omega
     go_enter func38,ntmps38;go_wp2;go_quiet(first|(go_at_call 38;exact(Jp.o _).m (fun e w' ⟨h1,j,h2⟩=>⟨h1,_,h2.x (World.drewN_drewN _ _ _)⟩))|fail);go_wp2;go_ret
     refine⟨?_,_,rfl⟩;show Ending.returned (.string ((⟨(Lib.itoa ((q:Int))).toArray⟩:ByteArray)++(⟨#[48,49,50,51,52,53,54,55,56,57]⟩:ByteArray).extract d (d+1)))=.returned (.string ⟨(Lib.itoa ((m:Int))).toArray⟩);rw[HE.o.2,JN,HE.o.1];simp
end Go.Proofs.YtmkofmeojbcakaaGreatDoor
