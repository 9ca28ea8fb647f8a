import Derived.Test.YtehccbdajiiaaaaGreatDoorP33
import Derived.Deep.RegionWith
namespace Go.Proofs.YtehccbdajiiaaaaGreatDoor
open Go.Proofs.Tryz
set_option maxRecDepth 100000
set_option maxHeartbeats 16000000
open Go.RowKit
structure RC where
 M:Nat
 S:Nat->Prop
 W:Nat->Prop
 Z:Nat->Prop
 ops:List aX
 opsV:Value
 b:Value
 fuel:Int
 may:Value
 ok:Cl->Bool
 lo:Nat
def RC.ms{R:Type}(c:RC)(s:PS R)(f:Value):MS:=⟨c.opsV,s.pc,s.bA,c.b,c.fuel,c.may,s.value,s.steps,f,0⟩
structure RC.Fit (c:RC):Prop where
 own:c.S c.M
 Xz:c.W c.M
 sub: ∀k,c.W k->c.S k
 XA:c.Z c.M
 XB: ∀k,c.Z k->c.S k
 low:c.lo<=c.M
 ops:c.ops.length<=64
 fuel:0<=c.fuel/\c.fuel<=10000
def PS.Fit{R:Type}(s:PS R):Prop:=(∀i,aO (s.bA i))/\(0<=s.steps/\s.steps<=10000)/\0<=s.pc/\s.pc<=1000
structure tF {R:Type} (K:(Nat->Prop)->R->World->Prop):Prop where
 only: ∀(Z:Nat->Prop) (r:R) (w w':World) (G:Nat->Prop),(∀k,G k->Z k)->K Z r w->Only G w w'->K Z r w'
 om: ∀(Z:Nat->Prop) (r:R) (w:World) (b:Nat),K Z r w->w.heap.size<=b->K (fun k=>Z k\/k=b) r w
 back: ∀(Z Z':Nat->Prop) (r:R) (w:World),(∀k,Z' k->Z k)->K Z r w->K Z' r w
def MI{R:Type}(c:RC)(K:(Nat->Prop)->R->World->Prop)(w:World)(s:PS R):Prop:=
 ∃f,aK w c.M (c.ms s f)/\jH w c.S f s.cl/\uo w c.S c.may c.ok/\nV w (fun k=> ¬c.S k) c.opsV c.ops/\K c.Z s.rows w/\(∀k,c.S k->k<w.heap.size)/\s.Fit
def lO{R:Type}(c:RC)(K:(Nat->Prop)->R->World->Prop)(p:PS R×Int)(w:World)(e:Ending)(w':World):Prop:=e=.returned (rv p.2)/\MI c K w' p.1/\Only c.W w w'
section
variable{R:Type}{c:RC}{K:(Nat->Prop)->R->World->Prop}{w w':World}{s s':PS R}
theorem nV.only{S G:Nat->Prop}{v:Value}{l:List aX}(h:nV w G v l)(a:Only S w w')(b: ∀k,G k-> ¬S k):nV w' G v l:=bJ.only h a b
theorem MI.turn(v:MI c K w s)(e:c.Fit)(r:tF K)(b:Only (fun k=>k=c.M) w w')(q: ∀f,aK w c.M (c.ms s f)->aK w' c.M (c.ms s' f))(g:s'.cl=s.cl)(h:s'.rows=s.rows)(m:s'.Fit):MI c K w' s':=by
 obtain⟨f,l,i,n,p,o,j,t⟩:=v;have d: ∀k,k=c.M->c.S k:=fun k a=>by subst a;exact e.own
 refine⟨f,q f l,by rw[g];exact i.only b d,n.only b d,p.only b (fun k a u=>a (d k u)),by rw[h];exact r.only _ _ _ _ _ (fun k a=>by subst a;exact e.XA) o b,fun k a=>da (j k a) b.size,m⟩
theorem MI.below(h:MI c K w s)(e:c.Fit)(d:tF K)(a:Below w.heap.size w w'):MI c K w' s:=
 h.turn e d (oS a _) (fun f b=>b.below a) rfl rfl (by obtain⟨_,_,_,_,_,_,_,b⟩:=h;exact b)
theorem Only.uV(a:c.Fit)(b:Only (fun k=>k=c.M) w w'):Only c.W w w':=b.m (fun k _ d=>by subst d;exact a.Xz)
theorem E6(e:c.Fit)(t:tF K)(v:MI c K w s)(i:s.steps<c.fuel):
  Calls prog 115 #[r7 c.M] w (lO c K ({s with steps:=s.steps+1},0) w):=by
 have l:=v;obtain⟨u,b,_,_,_,_,_,f⟩:=v;refine(S9 w c.M (c.ms s u) b f.2.1.1 (by have:=f.2.1.2;simp only[RC.ms];omega) i).m ?_;rintro y w' ⟨rfl,r,g⟩;refine⟨rfl,?_,g.uV e⟩;have x:=e.fuel;obtain⟨d,h,q,j,o,n,p,a⟩:=l
 obtain rfl:d=u:=by have:=h.foot;rw[b.foot]at this;simp only[RC.ms,fj]at this;exact this.symm
 exact(show MI c K w s from⟨d,h,q,j,o,n,p,a⟩).turn e t g (fun m k=>by
  obtain rfl:m=d:=by have:=k.foot;rw[b.foot]at this;simp only[RC.ms,fj]at this;exact this.symm
  exact r) rfl rfl ⟨a.1,⟨by show 0<=s.steps+1;have:=a.2.1.1;omega,by show s.steps+1<=10000;omega⟩,a.2.2⟩
theorem E7(a:c.Fit)(k:tF K)(l:MI c K w s)(e:c.fuel<=s.steps):
  Calls prog 115 #[r7 c.M] w (lO c K (s,20) w):=by
 have i:=l;obtain⟨m,b,_,_,_,_,_,f⟩:=l;refine(Ta w c.M (c.ms s m) b e).m ?_;rintro n w' ⟨rfl,j,d⟩
 exact⟨rfl,i.turn a k d (fun h g=>by
  obtain rfl:h=m:=by have:=g.foot;rw[b.foot]at this;simp only[RC.ms,fj]at this;exact this.symm
  exact j) rfl rfl f,d.uV a⟩
end
def RC.om(c:RC)(a:Nat):RC:={c with S:=fun k=>c.S k\/k=a,Z:=fun k=>c.Z k\/k=a}
theorem RC.Fit.om{c:RC}(h:c.Fit)(b:Nat):(c.om b).Fit:=⟨.inl h.own,h.Xz,fun k a=>.inl (h.sub k a),.inl h.XA,fun k a=>a.elim (fun a=>.inl (h.XB k a)) .inr,h.low,h.ops,h.fuel⟩
theorem bJ.bound{k:Nat}{w:World}{F:Nat->Prop}{v:Value}{xs:List (List Value)}(r:bJ k w F v xs)(f: ∀x∈xs,x.length=k)(o:0<k):bJ k w (fun m=>F m/\m<w.heap.size) v xs:=by obtain⟨A,q,c,g,e,h,l,j⟩:=r;refine⟨A,q,c,g,e,h,l,fun a=>?_⟩;obtain⟨m,p,d,i,b⟩:=j a;refine⟨m,p,d,⟨i,?_⟩,b⟩;obtain⟨x,a⟩: ∃x,xs[0]?=some x:=⟨_,ao (by omega)⟩;have n:=f x (db a);exact aq _ _ (b 0 x a 0 _ (ao (by omega)))
theorem MI.om{R:Type}{c:RC}{K:(Nat->Prop)->R->World->Prop}{w w1:World}{s:PS R}{d:Nat}(h:MI c K w s)(A:c.Fit)(g:tF K)(j:Below w.heap.size w w1)(p:w.heap.size<=d)(D:d<w1.heap.size):MI (c.om d) K w1 s:=by
 have y:=h.below A g j;obtain⟨B,x,l,i,t,r,F,v⟩:=h;obtain⟨m,k,_,_,_,E,q,_⟩:=y;have a:=ri j;have e: ∀n,(¬c.S n/\n<w.heap.size)-> ¬(c.om d).S n:=fun n f b=>b.elim f.1 (fun u=>by omega)
 have o:m=B:=by have b:=k.foot;rw[(x.below j).foot]at b;simp only[RC.ms,fj]at b;exact b.symm
 subst o;refine⟨m,k,⟨(bJ.m (bJ.bound l.1 (df _) (by decide)) e).only a (fun _ _ h=>h),l.2⟩,?_,bJ.only (bJ.m (bJ.bound t (fun z o=>by obtain⟨z,_,rfl⟩:=eh.1 o;rfl) (by decide)) e) a (fun _ _ h=>h),g.only _ _ _ _ _ (fun _ h=>h.elim) (g.om _ _ _ _ r p) a,fun n f=>f.elim (q n) (fun u=>by omega),v⟩;rcases i with i|⟨C,u,B,b,n,f,o,z⟩
 ·exact .inl i
 ·exact .inr ⟨C,u,B,b,e C ⟨n,aq _ _ f⟩,a.cell f (fun h=>h),(bJ.m (bJ.bound o (df _) (by decide)) e).only a (fun _ _ h=>h),z⟩
theorem MI.back{R:Type}{c:RC}{K:(Nat->Prop)->R->World->Prop}{w w':World}{s:PS R}{d:Nat}(y:MI (c.om d) K w s)(o: ¬c.S d)(v:c.Fit)(i:tF K)(b:Only (fun k=>k=d) w w'):MI c K w' s:=by
 obtain⟨x,n,h,f,q,p,m,j⟩:=y;have g: ∀k,k=d->(c.om d).S k:=fun k a=>.inr a;have e: ∀k,¬(c.om d).S k-> ¬c.S k:=fun k a l=>a (.inl l);refine⟨x,n.only b (fun l=>o (by rw[<-l];exact v.own)),⟨bJ.m (h.only b g).1 e,h.2⟩,?_,bJ.m (q.only b (fun k a l=>a (g k l))) e,i.back _ _ _ _ (fun k a=>.inl a) (i.only _ _ _ _ _ (fun k a=>.inr a) p b),fun k a=>da (m k (.inl a)) b.size,j⟩;rcases f.only b g with f|⟨B,u,x,a,k,r,l,t⟩
 ·exact .inl f
 ·exact .inr ⟨B,u,x,a,e B k,r,bJ.m l e,t⟩
def CN:Nat->FuncId
 |1=>100
 |2=>101
 |3=>102
 |4=>103
 |5=>104
 |6=>105
 |7=>106
 |8=>107
 |9=>108
 |10=>109
 |11=>110
 |12=>111
 |13=>112
 |14=>113
 |_=>114
theorem aK.act{w:World}{M:Nat}{s:MS}(h:aK w M s){d:Nat}(a:1<=d)(b:d<=15):w.cell? ⟨M,1+d,none⟩=some (pK (CN d)):=by
 match d,a,b with
 |1,_,_|2,_,_|3,_,_|4,_,_|5,_,_|6,_,_|7,_,_|8,_,_|9,_,_|10,_,_|11,_,_|12,_,_|13,_,_|14,_,_|15,_,_=>simp[World.cell?,h.is,MS.cells,CN]
theorem E8{d:Nat}(b:1<=d)(c:d<=15): ∀a w,(callFunc (CN d) a).run prog w=.ok (.enter (CN d) a) w:=by
 match d,b,c with
 |1,_,_=>exact enters_of func100 (by kernel_rfl) rfl
 |2,_,_=>exact enters_of func101 (by kernel_rfl) rfl
 |3,_,_=>exact enters_of func102 (by kernel_rfl) rfl
 |4,_,_=>exact enters_of func103 (by kernel_rfl) rfl
 |5,_,_=>exact enters_of func104 (by kernel_rfl) rfl
 |6,_,_=>exact enters_of func105 (by kernel_rfl) rfl
 |7,_,_=>exact enters_of func106 (by kernel_rfl) rfl
 |8,_,_=>exact enters_of func107 (by kernel_rfl) rfl
 |9,_,_=>exact enters_of func108 (by kernel_rfl) rfl
 |10,_,_=>exact enters_of func109 (by kernel_rfl) rfl
 |11,_,_=>exact enters_of func110 (by kernel_rfl) rfl
 |12,_,_=>exact enters_of func111 (by kernel_rfl) rfl
 |13,_,_=>exact enters_of func112 (by kernel_rfl) rfl
 |14,_,_=>exact enters_of func113 (by kernel_rfl) rfl
 |15,_,_=>exact enters_of func114 (by kernel_rfl) rfl
def fp(w:World):Prop:=Lib.TabIs prog w "internal/strconv.uint64pow10" .u64 Lib.pow10Tab
theorem Tryz.g10:prog.globalNamed "internal/strconv.uint64pow10" =some 5:=by kernel_rfl
theorem fp.lt{w:World}(h:fp w):5<w.heap.size:=by
 unfold fp Lib.TabIs World.var? at h;rw[Tryz.g10]at h;simp only[Option.bind_some]at h;rcases Nat.lt_or_ge 5 w.heap.size with a|a
 ·exact a
 ·rw[Array.getElem?_eq_none a]at h;cases h
theorem fp.only{S:Nat->Prop}{w w':World}(h:fp w)(c:Only S w w')(b: ¬S 5):fp w':=by have a:=h.lt;unfold fp Lib.TabIs World.var? at h⊢;rw[Tryz.g10]at h⊢;simp only[Option.bind_some]at h⊢;rw[c.block _ a b];exact h
theorem fp.below{w w':World}(h:fp w)(a:Below w.heap.size w w'):fp w':=h.only (ri a) (fun h=>h)
theorem Iy(w:World)(k:Nat)(os:Array Obj):Below w.heap.size w (Sort.grow (w.drewN k) os):=by
 have a:=aw w.heap.size w;refine⟨a.os,a.tape,a.output,?_,fun j b=>?_⟩
 ·show w.heap.size<=(w.heap++os).size;simp
 ·show(w.heap++os)[j]?=w.heap[j]?;rw[Array.getElem?_append_left b]
theorem CO(w:World)(n:Int)(c:kK n)(a:fp w):Calls prog 161 #[rv n] w fun e w'=>e=.returned (.string ⟨(Lib.itoa n).toArray⟩)/\Below w.heap.size w w':=by
 have H:=al (Any.strconv_Itoa Tryz.NP n c.1 c.2 w a);clear a;go_enter func161,ntmps161;go_wp2_with fail;refine H.o.m ?_;rintro e w' ⟨rfl,k,b,rfl⟩;have a:=al (Iy w k b);generalize Sort.grow (w.drewN k) b=d at a⊢;go_wp2_with fail;go_ret
 exact⟨rfl,a.o⟩
section
variable{R:Type}{c:RC}{K:(Nat->Prop)->R->World->Prop}
theorem mS{w:World}{s:PS R}(d:c.Fit)(x:tF K)(A:MI c K w s)(l:List Cl)(v:Value)(j:cz w (fun k=> ¬c.S k) v l)(h:l.length<=1000)(o:Good l):
  Calls prog 163 #[r7 c.M,v] w fun y w'=>y=.returned (rv (aV c.ok s.cl l).2)/\MI c K w' {s with cl:=(aV c.ok s.cl l).1}/\Only (fun k=>k=c.M) w w':=by
 obtain⟨z,n,m,g,t,r,e,i⟩:=A;refine(PI w c.S c.M (c.ms s z) c.ok s.cl l v n d.own e m g j h o).m ?_;rintro y w' ⟨u,rfl,q,p,b⟩;have f: ∀k,k=c.M->c.S k:=fun k a=>by subst a;exact d.own
 exact⟨rfl,⟨u,q,p,g.only b f,t.only b (fun k a y=>a (f k y)),x.only _ _ _ _ _ (fun k a=>by subst a;exact d.XA) r b,fun k a=>da (e k a) b.size,i⟩,b⟩
end
def acT(r:Option Rw)(w:World)(e:Ending)(w':World):Prop:=
 e=.returned (.tuple #[(r.getD .zero).val,rv (if r.isSome then 0 else 14)])/\Below w.heap.size w w'
def E9{R:Type}(b:Value)(K:(Nat->Prop)->R->World->Prop)(get:R->List UInt8->Option Rw):Prop:=
 ∀(Z:Nat->Prop) (r:R) (w:World) (k:List UInt8),K Z r w->dN k=0->Calls prog 199 #[b,sd k] w (acT (get r k) w)
def TA{R:Type}(K:(Nat->Prop)->R->World->Prop):Prop:= ∀Z r w,K Z r w->fp w
section
variable{R:Type}{c:RC}{K:(Nat->Prop)->R->World->Prop}{get:R->List UInt8->Option Rw}
def rowP(a:Cl->Bool)(get:R->List UInt8->Option Rw)(i:Nat)(s:PS R):PS R×Option Rw×Int:=
 let p:=aV a s.cl [iB (s.bA i)]
 ({s with cl:=p.1},if p.2=0 then get s.rows (Lib.itoa (s.bA i))else none,p.2)
def acU(c:RC)(K:(Nat->Prop)->R->World->Prop)(p:PS R×Option Rw×Int)(w:World)(e:Ending)(w':World):Prop:=
 e=.returned (.tuple #[(p.2.1.getD .zero).val,.bool p.2.1.isSome,rv p.2.2])/\MI c K w' p.1/\Only c.W w w'
theorem PU{w:World}{s:PS R}(hc:c.Fit)(hK:tF K)(hT:TA K)(hG:E9 c.b K get)(h:MI c K w s)(i:Nat)(hi:i<8):
  Calls prog 160 #[.pointer (some ⟨c.M,0,none⟩),.int .i64 i] w (acU c K (rowP c.ok get i s) w):=by
 obtain⟨hb0,k0⟩:=rk w (.cells #[.int .i64 0,.int .i64 0,.int .i64 0,.int .i64 0] 109);have h1:=h.om hc hK hb0 (b8 _) (by simp);have hlo:c.lo<=w.heap.size:=by obtain⟨_,hm,_⟩:=h;have:=hm.lt;have:=hc.low;omega
 have HC:=al (ab hc (ab hK (ab hT (ab hG hlo))));have HS:=al (show ∀k,c.S k->k<w.heap.size by obtain⟨_,_,_,_,_,_,h6,_⟩:=h;exact h6);have i1:(0:Int)<=(i:Int):=by omega
 have i2:(i:Int)<8:=by omega
 go_enter func160,ntmps160;go_upto_region 1 with fail;generalize w.alloc (.cells #[.int .i64 0,.int .i64 0,.int .i64 0,.int .i64 0] 109)=w1 at hb0 k0 h1⊢;obtain⟨R0,hR⟩:=rl (w.heap.size);rw[hR]at k0 h1⊢;have HR:=al (ab hR (ab hb0 k0));have HI:=al h1;obtain⟨f,hm,_,_,_,hk,_,hfit⟩:=h1;have c1:=hm.bA hi;have gG:=hfit.1 i;have XC:=al (ab (CO w1 (s.bA i) gG.i64 (hT _ _ _ hk)) gG);simp only[RC.ms]at c1;have HL:=al (hc.om R0);clear h hb0 k0 hR hm hk hfit gG hc hK hT hG hlo;change World.cell? w1 ⟨c.M,18+i,none⟩=_ at c1;go_wp2_with fail;refine XC.o.1.m ?_;rintro e w2 ⟨rfl,hb2⟩;have h2:=HI.o.below HL.o HC.o.2.1 hb2;have aa3:=HR.o.2.1.x (hb2.m HR.o.2.1.size);have k2:=qS hb2 HR.o.d;obtain⟨bG,kx⟩:=rk w2 (.cells #[.bool false,.int .i64 (-1),.string ⟨(Lib.itoa (s.bA i)).toArray⟩,.int .i64 0,.int .i64 0] 68);have H2:=al (ab h2 (ab aa3 (ab k2 (ab bG kx))));clear hb2 h2 aa3 k2 bG kx c1 HI;go_wp2_with fail;have H3:=H2.o;clear H2;generalize w2.alloc (.cells #[.bool false,.int .i64 (-1),.string ⟨(Lib.itoa (s.bA i)).toArray⟩,.int .i64 0,.int .i64 0] 68)=w3 at H3⊢;obtain⟨h2,hb2,k2,bG,kx⟩:=H3;obtain⟨X,hX⟩:=rl (w2.heap.size);have YZ:R0<X:=by have:=aP k2;omega
 have h3:=h2.below HL.o HC.o.2.1 bG;have hb3:=hb2.x (bG.m hb2.size);have k3:=qS bG k2;rw[hX]at kx⊢
 have hcl:=ma (l:=[iB (s.bA i)]) (F:=fun k=> ¬(c.om R0).S k) kx rfl (fun hs=>by
  rcases hs with hs|hs
  ·have:=HS.o X hs;have:=HR.o.1;omega
  ·omega) (by simp[maxLen])
 have H3:=al (ab hb3 k3);have FY:=al (mS HL.o HC.o.2.1 h3 [iB (s.bA i)] _ hcl (by simp) (xR XC.o.2));obtain⟨cl',n,hp⟩: ∃cl' n,aV c.ok s.cl [iB (s.bA i)]=(cl',n):=⟨_,_,rfl⟩;rw[show(c.om R0).ok=c.ok from rfl,hp]at FY;have HP:=al hp;clear h2 hb2 k2 bG kx hX YZ h3 hb3 k3 hcl hp;refine FY.o.m ?_;rintro e w4 ⟨rfl,zl,iI⟩;have WA: ¬c.S R0:=fun hs=>by have:=HS.o R0 hs;have:=HR.o.1;omega
 have hRM: ¬R0=c.M:=fun e=>WA (by rw[e];exact HC.o.1.own);have k4:=iI.heap H3.o.2 hRM;have Fa:Only c.W w w4:=(oS H3.o.1 _).x iI (fun k _ hk=>by subst hk;exact HC.o.1.Xz);have H4:=al (ab zl (ab Fa (ab k4 WA)));obtain⟨⟨z0,z1,z2,z3⟩,y0,y1,y2,y3⟩:=cX k4;clear iI k4 Fa FY WA hRM;by_cases hn:n=0
 ·subst hn;obtain⟨f4,FZ,_,_,_,hk4,_,aa4⟩:=zl;have hbB:=FZ.b;simp only[RC.ms]at hbB;change World.cell? w4 ⟨c.M,26,none⟩=_ at hbB;have HG:=al (HC.o.t.1 _ s.rows w4 (Lib.itoa (s.bA i)) hk4 (xQ XC.o.2));clear FZ hk4 aa4;go_wp2_with fail;have hbc:(c.om R0).b=c.b:=rfl;rw[hbc];obtain⟨q,hq⟩:=rl (get s.rows (Lib.itoa (s.bA i)));rw[hq]at HG;have HQ:=al hq;clear hq hbc;refine HG.o.m ?_;rintro e w5 ⟨rfl,gp⟩
  cases q with
  |none=>
   simp only[Option.getD_none,oj,Rw.val,Rw.zero];have hbz:=af w5 (.cells #[.int .i64 0,.int .i64 0,.int .i64 0,.int .i64 0] 109);have gW:=gp.x (hbz.m gp.size);have k6:=qS gW H4.o.d.1;have kz:=cX (an w5 (.cells #[.int .i64 0,.int .i64 0,.int .i64 0,.int .i64 0] 109));have hne: ¬w5.heap.size=R0:=by have:=aP H4.o.d.1;have:=gp.size;omega
   have H6:=al (ab gW (ab k6 (ab hne kz)));clear hbz gW k6 gp hne kz;go_upto_region 6 with fail;have H7:=H6.o;clear H6;generalize w5.alloc (.cells #[.int .i64 0,.int .i64 0,.int .i64 0,.int .i64 0] 109)=w6 at H7⊢;generalize w5.heap.size=Z at H7⊢;obtain⟨gW,k6,hne,⟨x0,x1,x2,x3⟩,_⟩:=H7;obtain⟨⟨z0,z1,z2,z3⟩,y0,y1,y2,y3⟩:=cX k6;have H6:=al (ab gW k6);clear gW k6;go_wp2_with fail;have vA:=Au (v0:=.int .i64 0) (v1:=.int .i64 0) (v2:=.int .i64 0) (v3:=.int .i64 0) H6.o.2;have ho:=(((bg w6 R0 0 (.int .i64 0)).setCell (p:=⟨R0,1,none⟩) (fun _=>rfl) (.int .i64 0)).setCell (p:=⟨R0,2,none⟩) (fun _=>rfl) (.int .i64 0)).setCell (p:=⟨R0,3,none⟩) (fun _=>rfl) (.int .i64 0);have HO:=al (ab vA ho);clear vA ho;generalize ((((w6.setCell ⟨R0,0,none⟩ (.int .i64 0)).setCell ⟨R0,1,none⟩ (.int .i64 0)).setCell ⟨R0,2,none⟩ (.int .i64 0)).setCell ⟨R0,3,none⟩ (.int .i64 0))=w7 at HO⊢;refine dj (cV rfl _ _ _ _ _ _ _ rfl HO.o.1 underlying109 rfl (by kernel_rfl)) rfl ⟨?_,?_,?_⟩
   ·unfold rowP;rw[HP.o];simp only[if_true,HQ.o];rfl
   ·unfold rowP;rw[HP.o];exact(H4.o.1.below HL.o HC.o.2.1 H6.o.1).back H4.o.t HC.o.1 HC.o.2.1 HO.o.2
   ·exact(H4.o.2.1.x (oS H6.o.1 c.W) (fun _ _ h=>h)).x HO.o.2 (fun k hk hs=>by have:=HR.o.1;omega)
  |some rho=>
   obtain⟨ra,rb,rc,rd⟩:=rho;simp only[Option.getD_some,oe,Rw.val,if_true];have hbz:=af w5 (.cells #[.int .i64 ra,.int .i64 rb,.int .i64 rc,.int .i64 rd] 109);have gW:=gp.x (hbz.m gp.size);have k6:=qS gW H4.o.d.1;have kz:=cX (an w5 (.cells #[.int .i64 ra,.int .i64 rb,.int .i64 rc,.int .i64 rd] 109));have hne: ¬w5.heap.size=R0:=by have:=aP H4.o.d.1;have:=gp.size;omega
   have H6:=al (ab gW (ab k6 (ab hne kz)));clear hbz gW k6 gp hne kz;go_upto_region 6 with fail;have H7:=H6.o;clear H6;generalize w5.alloc (.cells #[.int .i64 ra,.int .i64 rb,.int .i64 rc,.int .i64 rd] 109)=w6 at H7⊢;generalize w5.heap.size=Z at H7⊢;obtain⟨gW,k6,hne,⟨x0,x1,x2,x3⟩,_⟩:=H7;obtain⟨⟨z0,z1,z2,z3⟩,y0,y1,y2,y3⟩:=cX k6;have H6:=al (ab gW k6);clear gW k6;go_wp2_with fail;have vA:=Au (v0:=.int .i64 ra) (v1:=.int .i64 rb) (v2:=.int .i64 rc) (v3:=.int .i64 rd) H6.o.2;have ho:=(((bg w6 R0 0 (.int .i64 ra)).setCell (p:=⟨R0,1,none⟩) (fun _=>rfl) (.int .i64 rb)).setCell (p:=⟨R0,2,none⟩) (fun _=>rfl) (.int .i64 rc)).setCell (p:=⟨R0,3,none⟩) (fun _=>rfl) (.int .i64 rd);have HO:=al (ab vA ho);clear vA ho;generalize ((((w6.setCell ⟨R0,0,none⟩ (.int .i64 ra)).setCell ⟨R0,1,none⟩ (.int .i64 rb)).setCell ⟨R0,2,none⟩ (.int .i64 rc)).setCell ⟨R0,3,none⟩ (.int .i64 rd))=w7 at HO⊢;refine dj (cV rfl _ _ _ _ _ _ _ rfl HO.o.1 underlying109 rfl (by kernel_rfl)) rfl ⟨?_,?_,?_⟩
   ·unfold rowP;rw[HP.o];simp only[if_true,HQ.o];rfl
   ·unfold rowP;rw[HP.o];exact(H4.o.1.below HL.o HC.o.2.1 H6.o.1).back H4.o.t HC.o.1 HC.o.2.1 HO.o.2
   ·exact(H4.o.2.1.x (oS H6.o.1 c.W) (fun _ _ h=>h)).x HO.o.2 (fun k hk hs=>by have:=HR.o.1;omega)
 ·clear zl;have oL:(n !=0)=true:=by simpa using hn
  have HN:=al hn;clear hn;go_wp2_with fail;have vA:=Au (v0:=.int .i64 0) (v1:=.int .i64 0) (v2:=.int .i64 0) (v3:=.int .i64 0) H4.o.d.1;have ho:=(((bg w4 R0 0 (.int .i64 0)).setCell (p:=⟨R0,1,none⟩) (fun _=>rfl) (.int .i64 0)).setCell (p:=⟨R0,2,none⟩) (fun _=>rfl) (.int .i64 0)).setCell (p:=⟨R0,3,none⟩) (fun _=>rfl) (.int .i64 0);have HO:=al (ab vA ho);clear vA ho;generalize ((((w4.setCell ⟨R0,0,none⟩ (.int .i64 0)).setCell ⟨R0,1,none⟩ (.int .i64 0)).setCell ⟨R0,2,none⟩ (.int .i64 0)).setCell ⟨R0,3,none⟩ (.int .i64 0))=w5 at HO⊢;refine dj (cV rfl _ _ _ _ _ _ _ rfl HO.o.1 underlying109 rfl (by kernel_rfl)) rfl ⟨?_,?_,?_⟩
  ·unfold rowP;rw[HP.o];simp only[ff HN.o];rfl
  ·unfold rowP;rw[HP.o];exact H4.o.1.back H4.o.t HC.o.1 HC.o.2.1 HO.o.2
  ·exact H4.o.2.1.x HO.o.2 (fun k hk hs=>by have:=HR.o.1;omega)
end
section
variable{R:Type}{c:RC}{K:(Nat->Prop)->R->World->Prop}{get:R->List UInt8->Option Rw}{w:World}{s:PS R}
theorem PV{f:Nat->Int}(h: ∀i,aO (f i))(a:Nat){v:Int}(b:aO v): ∀i,aO (og f a v i):=fun i=>by
 unfold og;split
 ·exact b
 ·exact h i
def Vq(x:aX)(s:PS R):PS R×Int:=({s with bA:=og s.bA x.a.toNat x.c},0)
theorem TB(d:c.Fit)(m:tF K)(n:MI c K w s)(x:aX)(a:Nat)(k:a<8)(f:x.a=(a:Int))(p: -1099511627776<=x.c/\x.c<=1099511627776):
  Calls prog 100 #[r7 c.M,x.val] w (lO c K (Vq x s) w):=by
 have j:=n;obtain⟨o,e,_,_,_,_,_,b⟩:=n;refine(WS w c.M (c.ms s o) e x a k f).m ?_;rintro q w' ⟨rfl,l,g⟩;refine⟨rfl,j.turn d m g (fun i h=>?_) rfl rfl ⟨PV b.1 _ ⟨by omega,by omega⟩,b.2⟩,g.uV d⟩
 obtain rfl:i=o:=by have:=h.foot;rw[e.foot]at this;simp only[RC.ms,fj]at this;exact this.symm
 unfold Vq;rw[f];exact l
theorem Kc(w:World):Calls prog 159 #[.bool true] w fun e w'=>e=.returned (rv 1)/\w=w':=by
 go_enter func159,ntmps159;go_wp2_with fail;go_ret
 exact⟨rfl,rfl⟩
theorem PW(w:World):Calls prog 159 #[.bool false] w fun e w'=>e=.returned (rv 0)/\w=w':=by
 go_enter func159,ntmps159;go_wp2_with fail;go_ret
 exact⟨rfl,rfl⟩
def nU(a:Cl->Bool)(get:R->List UInt8->Option Rw)(x:aX)(s:PS R):PS R×Int:=
 let p:=rowP a get x.b.toNat s
 if p.2.2=0 then({p.1 with bA:=og p.1.bA x.a.toNat (if p.2.1.isSome then 1 else 0)},0)else(p.1,p.2.2)
theorem MI.jE{a:Nat}(f:c.Fit)(i:tF K)(j:MI c K w s)(g:a<8){v:Int}(h:aO v):MI c K (w.setCell ⟨c.M,18+a,none⟩ (rv v)) {s with bA:=og s.bA a v}:=by have e:=j;obtain⟨m,l,_,_,_,_,_,b⟩:=j;exact e.turn f i (bg w c.M (18+a) _) (fun k d=>d.jE g v) rfl rfl ⟨PV b.1 _ h,b.2⟩
theorem MI.drew(h:MI c K w s)(b:c.Fit)(a:tF K):MI c K w.drew s:=h.below b a ((aw _ _).drew)
theorem TC(j:c.Fit)(g:tF K)(m:TA K)(p:E9 c.b K get)(l:MI c K w s)(x:aX)(a b:Nat)(o:a<8)(H:b<8)(e:x.a=(a:Int))(d:x.b=(b:Int)):
  Calls prog 106 #[r7 c.M,x.val] w (lO c K (nU c.ok get x s) w):=by
 obtain⟨C,N,P,A,D⟩:=x;simp only at e d;subst e d;unfold aX.val;simp only;obtain⟨f,e⟩:=rk w (sh C (a:Int) (b:Int) A D);have n:=l.below j g f;have d:=AN j g m p;have u: ∀k,c.S k->k<w.heap.size:=by obtain⟨_,_,_,_,_,_,G,_⟩:=l;exact G
 have U:(0:Int)<=(a:Int):=by omega
 have T:(a:Int)<8:=by omega
 go_enter func106,ntmps106;go_upto_region 1 with fail;generalize w.alloc (sh C (a:Int) (b:Int) A D)=i at f e n⊢;obtain⟨O,t⟩:=rl (w.heap.size);rw[t]at e⊢;have r: ¬c.S O:=fun h=>by have:=u O h;omega
 have R:i.cell? ⟨O,2,none⟩=some (rv (b:Int)):=by simp[World.cell?,e]
 have k:=al (PU j g m p n b H);have i:=AM f e r;obtain⟨s',I,J,q⟩: ∃s' I J,rowP c.ok get b s=(s',I,J):=⟨_,_,_,rfl⟩;rw[q]at k;have h:=al q;clear l n f e t r u q j g m p;go_wp2_with fail;refine k.o.m ?_;rintro L z ⟨rfl,g,e⟩;have f:=e.heap i.o.2.1 (fun l=>i.o.d (d.o.1.sub _ l));obtain⟨⟨B,v,u,y⟩,F⟩: ∃q,I.getD .zero=q:=⟨_,rfl⟩;simp only[F,Rw.val];have n:=AM g e f;clear g e f k;go_upto_region 2 with fail;have e:=af z (sg B v u y);have k:=al e;clear e;generalize z.alloc (sg B v u y)=e at k⊢;have j:=n.o.1.below d.o.1 d.o.2.1 k.o;have q:=qS k.o n.o.d;have g:Only c.W w e:=((oS i.o.1 c.W).x n.o.2.1 (fun _ _ l=>l)).x (oS k.o c.W) (fun _ _ l=>l);by_cases f:J=0
 ·subst f;have m:=AI j g;obtain⟨S,r,_⟩:=j;have Q:=r.bA o;have V:=r.free (18+a);have p:e.cell? ⟨O,1,none⟩=some (rv (a:Int)):=by simp[World.cell?,q]
  have E: ¬O=c.M:=fun L=>i.o.d (by rw[L];exact d.o.1.own);have t: ∀M,(e.setCell ⟨c.M,18+a,none⟩ M).cell? ⟨O,1,none⟩=some (rv (a:Int)):=fun M=>(bg e c.M (18+a) M).cell p E;clear r q g;cases hq:I.isSome
  focus
   go_wp2_with fail
   go_region_held3 (fun W=>W.cell? ⟨O,1,none⟩=some (rv (a:Int))) (first|exact p|exact t _|go_keep) (first|(go_at_call 159;refine(PW _).m ?_;rintro L w' ⟨rfl,rfl⟩))
   go_wp2_with fail;go_ret
   have r:=(m.o.1.drew d.o.1 d.o.2.1).jE d.o.1 d.o.2.1 o (v:=0) ⟨by decide,by decide⟩
  rotate_left
  focus
   go_wp2_with fail
   go_region_held3 (fun W=>W.cell? ⟨O,1,none⟩=some (rv (a:Int))) (first|exact p|exact t _|go_keep) (first|(go_at_call 159;refine(Kc _).m ?_;rintro L w' ⟨rfl,rfl⟩))
   go_wp2_with fail;go_ret
   have r:=(m.o.1.drew d.o.1 d.o.2.1).jE d.o.1 d.o.2.1 o (v:=1) ⟨by decide,by decide⟩
  all_goals
   refine⟨?_,?_,m.o.2.x ((lV e 1 c.M (18+a) _).uV d.o.1) (fun _ _ l=>l)⟩
   ·unfold nU;simp only[iv,h.o,if_true];rfl
   ·unfold nU;simp only[iv,h.o,if_true,hq];exact r
 ·have m:(J==0)=false:=by simpa using f
  have e:=AM f j g;clear f j q g;go_wp2_with fail;go_ret
  refine⟨?_,?_,e.o.d⟩
  ·unfold nU;simp only[iv,h.o,ff e.o.1];rfl
  ·unfold nU;simp only[iv,h.o,ff e.o.1];exact e.o.2.1
end
def Iz(w:World)(M:Nat):Int:=match w.cell? ⟨M,17,none⟩with
 |some (.int _ n)=>n
 |_=>0
theorem MI.Iz{R:Type}{c:RC}{K:(Nat->Prop)->R->World->Prop}{w:World}{s:PS R}(h:MI c K w s):Iz w c.M=s.pc:=by obtain⟨f,a,_⟩:=h;have:=a.pc;unfold Proofs.YtehccbdajiiaaaaGreatDoor.Iz;rw[this];rfl
def xY{R:Type}(c:RC)(K:(Nat->Prop)->R->World->Prop)(act:aX->PS R->PS R×Int)(fr tt:Nat):Prop:=
 ∀(i:Nat) (x:aX),fr<=i->i<tt->c.ops[i]?=some x->(1<=x.d/\x.d<=15)/\ ∀(s:PS R),s.pc=(i:Int)+1->
  (∀w,MI c K w s->Calls prog (CN x.d.toNat) #[r7 c.M,x.val] w (lO c K (act x s) w))/\((act x s).2=0->s.pc<=(act x s).1.pc)
def aa5{R:Type}(c:RC)(K:(Nat->Prop)->R->World->Prop)(act:aX->PS R->PS R×Int)(fr tt:Nat)(b:PS R)(w a:World):Prop:=
 ∃(s:PS R) (g:Nat),MI c K a s/\Only c.W w a/\cH c.fuel c.ops act tt (tt-fr) b=cH c.fuel c.ops act tt g s/\(tt:Int)-s.pc<=g/\(fr:Int)<=s.pc
theorem Fe{R:Type}{c:RC}{K:(Nat->Prop)->R->World->Prop}{act:aX->PS R->PS R×Int}{w:World}{s:PS R}(a:c.Fit)(b:tF K)(C:MI c K w s)(fr tt:Nat)(a7:fr<=tt)(Rp:tt<=c.ops.length)(d:xY c K act fr tt):
  Calls prog 63 #[r7 c.M,rv fr,rv tt] w (lO c K (cH c.fuel c.ops act tt (tt-fr) {s with pc:=fr}) w):=by
 have a2:=a.ops
 have g:MI c K (w.setCell ⟨c.M,17,none⟩ (rv fr)) {s with pc:=fr}:=by refine C.turn a b (bg w c.M 17 _) (fun f p=>p.J5 _) rfl rfl ?_;obtain⟨_,_,_,_,_,_,_,m⟩:=C;exact⟨m.1,m.2.1,by show(0:Int)<=(fr:Int);omega,by show(fr:Int)<=1000;omega⟩
 have h:=AM a b d;have H0:=al (show aa5 c K act fr tt {s with pc:=fr} w (w.setCell ⟨c.M,17,none⟩ (rv fr))from⟨_,tt-fr,g,(bg w c.M 17 _).uV a,rfl,by show(tt:Int)-(fr:Int)<=((tt-fr:Nat):Int);omega,eE _⟩);obtain⟨f,p,_⟩:=C;have cf:=p.free 17;have cp:=p.pc;simp only[RC.ms]at cp;clear p d g a b;go_enter func63,ntmps63;go_wp2_with fail
 go_step3
 go_wp2_with fail
 go_step3
 go_wp2_with fail
 go_loopw [7] (fun e wr=>e=rv 0/\aa5 c K act fr tt {s with pc:=fr} w wr) (fun _ wr=>((tt:Int)-Iz wr c.M).toNat)
 case atStart=>exact⟨rfl,H0.o⟩
 case round=>
  obtain⟨rfl,a,g,V,I,J,H,L⟩:=hrel;have d:=AS V I J H L;have S:=V.Iz;obtain⟨f1,M,_,_,lQ,_,_,G⟩:=V;have j:=M.pc;simp only[RC.ms]at j;by_cases q:a.pc<tt
  ·obtain⟨B,b⟩: ∃B:Nat,a.pc=(B:Int):=⟨a.pc.toNat,by have:=G.2.2.1;omega⟩;have am:fr<=B:=by omega
   have a0:B<tt:=by omega
   obtain⟨x,n⟩: ∃x,c.ops[B]?=some x:=⟨_,ao (by omega)⟩;obtain⟨y,rfl⟩: ∃y,g=y+1:=⟨g-1,by omega⟩;have r:c.ops[a.pc.toNat]?=some x:=by rw[b];simpa using n
   by_cases t:c.fuel<=a.steps
   ·have k:=AI (Ib (fuel:=c.fuel) (ops:=c.ops) (act:=act) (g:=y) q t) (E7 h.o.1 h.o.2.1 d.o.1 t);clear I J H L S M lQ G n r b;go_wp2_with fail;refine k.o.2.m ?_;rintro e l ⟨rfl,F,D⟩;have z:=AI F D;clear F D;go_wp2_with fail;go_ret
    refine⟨?_,?_,d.o.2.1.x z.o.2 (fun _ _ C=>C)⟩
    ·rw[d.o.d.1,k.o.1];rfl
    ·rw[d.o.d.1,k.o.1];exact z.o.1
   ·have o:a.steps<c.fuel:=by omega
    have i:=AS n r b o q;have U:=al (E6 h.o.1 h.o.2.1 d.o.1 o);clear I J H L S M lQ G n r t o b;go_wp2_with fail;refine U.o.m ?_;rintro e l ⟨rfl,F,D⟩;clear j q;have z:=AI F (d.o.2.1.x D (fun _ _ C=>C));obtain⟨f2,n,_,_,E,_,ap,aa⟩:=F;obtain⟨A,a5,N,a3,ad⟩:=E.slice;unfold maxLen at ad;have X:=n.ops;have j:=n.pc;have Q:=n.free 17;rw[N]at E;obtain⟨b,o,rfl,Z,O,W,Y,P,T⟩:=E.at_ i.o.1;simp only[RC.ms,N,i.o.d.1]at X j;have a4:=n.lt;obtain⟨v,q,t,u,r⟩:=x;simp only at O W Y P T;have a6: ¬b=c.M:=fun e=>Z (by rw[e];exact h.o.1.own);have ac:=aq _ _ O;simp only at ac;have i1:(0:Int)<=(B:Int):=by omega
    have i2:(B:Int)<(c.ops.length:Int):=by omega
    clear E n aa ap D N Z U;go_upto_region 6 with fail
    go_region
    go_upto_region 7 with fail;have E:Below l.heap.size l (l.alloc (sh v q t u r)).drew:=(pA l (sh v q t u r)).drew;have N:(l.alloc (sh v q t u r)).drew.heap[l.heap.size]?=some (sh v q t u r):=an l _;clear X j Q O W Y P T;generalize (l.alloc (sh v q t u r)).drew=n at E N⊢;obtain⟨O,U⟩:=rl (l.heap.size);rw[U]at N⊢;have ap:=z.o.1.below h.o.1 h.o.2.1 E;have Fb: ¬O=c.M:=by omega
    obtain⟨f6,T,_⟩:=ap;have j:=T.pc;have Q:=T.free 17;simp only[RC.ms,i.o.d.1]at j;have W:IntKind.i64.wrap ((B:Int)+1)=(B:Int)+1:=by rw[lP];omega
    have m:MI c K (n.setCell ⟨c.M,17,none⟩ (rv ((B:Int)+1))) {a with steps:=a.steps+1,pc:=a.pc+1}:=by
     have P:=z.o.1.below h.o.1 h.o.2.1 E;refine P.turn h.o.1 h.o.2.1 (bg n c.M 17 _) (fun f p=>?_) rfl rfl ?_
     ·have:=p.J5 ((B:Int)+1);simp only[RC.ms,i.o.d.1]at this⊢;exact this
     ·obtain⟨_,_,_,_,_,_,_,D⟩:=P;exact⟨D.1,D.2.1,by show 0<=a.pc+1;have:=D.2.2.1;simp only at this;omega,by show a.pc+1<=1000;rw[i.o.d.1];omega⟩
    have D:=(bg n c.M 17 (rv ((B:Int)+1))).heap N Fb;have P:Only c.W w (n.setCell ⟨c.M,17,none⟩ (rv ((B:Int)+1))):=(z.o.2.x (oS E c.W) (fun _ _ C=>C)).x ((bg n c.M 17 _).uV h.o.1) (fun _ _ C=>C);have Y:=AM m D P;clear m D P T N E U;go_upto_region 8 with fail;generalize n.setCell ⟨c.M,17,none⟩ (rv ((B:Int)+1))=n at Y⊢;clear j Q W;obtain⟨⟨a1,aa⟩,U⟩:=h.o.d B _ am a0 i.o.1;simp only at a1 aa;obtain⟨j,rfl⟩: ∃j:Nat,v=(j:Int):=⟨v.toNat,by omega⟩;obtain⟨m,D,P⟩:=Y.o;obtain⟨f7,Q,_⟩:=id m;have ca:=Q.act (show 1<=j by omega) (show j<=15 by omega);have a':=E8 (show 1<=j by omega) (show j<=15 by omega);obtain⟨fn,T⟩:=rl (CN j);have E:=U {a with steps:=a.steps+1,pc:=a.pc+1} (by show a.pc+1=(B:Int)+1;rw[i.o.d.1]);rw[show(aX.mk (j:Int) q t u r).d.toNat=j from iv j]at E;rw[T]at ca a' E;unfold pK at ca;have N:=AI (E.1 n.drew (m.drew h.o.1 h.o.2.1)) E.2;obtain⟨e0,e1,e2,e3,e4⟩:=pB D;have j1:(0:Int)<=(j:Int):=by omega
    have j2:(j:Int)<16:=by omega
    clear m D P Q U E T
    go_still_tail 9,(by kernel_rfl)
    change wpList _ _ _ _ _ n.drew;have HD:=al (aw n.heap.size n).drew;generalize n.drew=m at N HD⊢;go_wp2_with fail;obtain⟨W,n,m⟩: ∃W n,act (aX.mk (j:Int) q t u r) {a with steps:=a.steps+1,pc:=a.pc+1}=(W,n):=⟨_,_,rfl⟩;rw[m]at N;have HP:=al m;clear m;refine N.o.1.m ?_;rintro e w9 ⟨rfl,m,Z⟩;have P:Only c.W w w9:=(Y.o.d.x (oS HD.o c.W) (fun _ _ C=>C)).x Z (fun _ _ C=>C);by_cases Q:n=0
    ·subst Q;have k:=al (LY (g:=y) (tt:=(tt:Int)) i.o.q i.o.t.1 i.o.2.1 HP.o);have D:=AI m P;have U:=m.Iz;have T:=N.o.2 rfl;have X:=d.o.1.Iz;simp only[i.o.d.1]at T X U;have E:=AM T X U;clear m P Z T X U;go_wp2_with fail;go_roundw
     case rel=>
      refine⟨rfl,W,y,D.o.1,D.o.2,by rw[d.o.d.1,k.o],?_,?_⟩
      ·have U:=d.o.t.1;have T:=E.o.1;rw[i.o.d.1]at U;omega
      ·have T:=E.o.1;omega
     case measure=>rw[E.o.2.1,E.o.d];have T:=E.o.1;omega
    ·have E:(n !=0)=true:=by simpa using Q
     have k:=al (ER (g:=y) (tt:=(tt:Int)) i.o.q i.o.t.1 i.o.2.1 HP.o Q);have D:=AI m P;clear Q m P Z;go_wp2_with fail;go_ret
     refine⟨?_,?_,D.o.2⟩
     ·rw[d.o.d.1,k.o];rfl
     ·rw[d.o.d.1,k.o];exact D.o.1
  ·have k:=al (Ia (fuel:=c.fuel) (ops:=c.ops) (act:=act) (g:=g) (show(tt:Int)<=a.pc by omega));clear I J H L S M lQ G;go_wp2_with fail;go_ret
   refine⟨?_,?_,d.o.2.1⟩
   ·rw[d.o.d.1,k.o];rfl
   ·rw[d.o.d.1,k.o];exact d.o.1
end Go.Proofs.YtehccbdajiiaaaaGreatDoor
