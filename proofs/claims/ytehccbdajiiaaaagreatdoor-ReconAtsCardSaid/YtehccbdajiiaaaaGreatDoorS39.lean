import Derived.Test.YtehccbdajiiaaaaGreatDoorS38
import Derived.Deep.RegionWith
namespace Go.Proofs.YtehccbdajiiaaaaGreatDoor
open Go.Proofs.Tryz
set_option maxRecDepth 100000
set_option maxHeartbeats 16000000
open Go.RowKit
structure RC where
 M:Nat
 S:Nat->Prop
 W:Nat->Prop
 Z:Nat->Prop
 ops:List aX
 opsV:Value
 b:Value
 fuel:Int
 may:Value
 ok:Cl->Bool
 lo:Nat
def RC.ms{R:Type}(c:RC)(s:PS R)(f:Value):MS:=⟨c.opsV,s.pc,s.bD,c.b,c.fuel,c.may,s.value,s.steps,f,0⟩
structure RC.Fit (c:RC):Prop where
 own:c.S c.M
 YV:c.W c.M
 sub: ∀k,c.W k->c.S k
 YW:c.Z c.M
 YX: ∀k,c.Z k->c.S k
 low:c.lo<=c.M
 ops:c.ops.length<=64
 fuel:0<=c.fuel/\c.fuel<=10000
def PS.Fit{R:Type}(s:PS R):Prop:=(∀i,aQ (s.bD i))/\(0<=s.steps/\s.steps<=10000)/\0<=s.pc/\s.pc<=1000
structure uh {R:Type} (K:(Nat->Prop)->R->World->Prop):Prop where
 only: ∀(Z:Nat->Prop) (r:R) (w w':World) (G:Nat->Prop),(∀k,G k->Z k)->K Z r w->Only G w w'->K Z r w'
 oM: ∀(Z:Nat->Prop) (r:R) (w:World) (b:Nat),K Z r w->w.heap.size<=b->K (fun k=>Z k\/k=b) r w
 back: ∀(Z Z':Nat->Prop) (r:R) (w:World),(∀k,Z' k->Z k)->K Z r w->K Z' r w
def MI{R:Type}(c:RC)(K:(Nat->Prop)->R->World->Prop)(w:World)(s:PS R):Prop:=
 ∃f,aK w c.M (c.ms s f)/\jN w c.S f s.cl/\yO w c.S c.may c.ok/\qi w (fun k=> ¬c.S k) c.opsV c.ops/\K c.Z s.rows w/\(∀k,c.S k->k<w.heap.size)/\s.Fit
def lZ{R:Type}(c:RC)(K:(Nat->Prop)->R->World->Prop)(p:PS R×Int)(w:World)(e:Ending)(w':World):Prop:=e=.returned (rm p.2)/\MI c K w' p.1/\Only c.W w w'
section
variable{R:Type}{c:RC}{K:(Nat->Prop)->R->World->Prop}{w w':World}{s s':PS R}
theorem qi.only{S G:Nat->Prop}{v:Value}{l:List aX}(h:qi w G v l)(a:Only S w w')(b: ∀k,G k-> ¬S k):qi w' G v l:=bI.only h a b
theorem MI.turn(u:MI c K w s)(e:c.Fit)(i:uh K)(b:Only (fun k=>k=c.M) w w')(l: ∀f,aK w c.M (c.ms s f)->aK w' c.M (c.ms s' f))(g:s'.cl=s.cl)(m:s'.rows=s.rows)(j:s'.Fit):MI c K w' s':=by
 obtain⟨f,n,o,p,r,h,q,t⟩:=u;have d: ∀k,k=c.M->c.S k:=fun k a=>by subst a;exact e.own
 refine⟨f,l f n,by rw[g];exact o.only b d,p.only b d,r.only b (fun k a v=>a (d k v)),by rw[m];exact i.only _ _ _ _ _ (fun k a=>by subst a;exact e.YW) h b,fun k a=>da (q k a) b.size,j⟩
theorem MI.below(h:MI c K w s)(b:c.Fit)(e:uh K)(a:Below w.heap.size w w'):MI c K w' s:=
 h.turn b e (oB a _) (fun f d=>d.below a) rfl rfl (by obtain⟨_,_,_,_,_,_,_,d⟩:=h;exact d)
theorem Only.wD(d:c.Fit)(b:Only (fun k=>k=c.M) w w'):Only c.W w w':=b.m (fun k _ a=>by subst a;exact d.YV)
theorem Gb(d:c.Fit)(m:uh K)(u:MI c K w s)(i:s.steps<c.fuel):
  Calls prog 115 #[rv c.M] w (lZ c K ({s with steps:=s.steps+1},0) w):=by
 have l:=u;obtain⟨v,e,_,_,_,_,_,f⟩:=u;refine(Uk w c.M (c.ms s v) e f.2.1.1 (by have:=f.2.1.2;simp only[RC.ms];omega) i).m ?_;rintro y w' ⟨rfl,o,g⟩;refine⟨rfl,?_,g.wD d⟩;have x:=d.fuel;obtain⟨b,h,k,r,p,q,t,a⟩:=l
 obtain rfl:b=v:=by have:=h.foot;rw[e.foot]at this;simp only[RC.ms,fi]at this;exact this.symm
 exact(show MI c K w s from⟨b,h,k,r,p,q,t,a⟩).turn d m g (fun j n=>by
  obtain rfl:j=b:=by have:=n.foot;rw[e.foot]at this;simp only[RC.ms,fi]at this;exact this.symm
  exact o) rfl rfl ⟨a.1,⟨by show 0<=s.steps+1;have:=a.2.1.1;omega,by show s.steps+1<=10000;omega⟩,a.2.2⟩
theorem Gc(a:c.Fit)(g:uh K)(m:MI c K w s)(f:c.fuel<=s.steps):
  Calls prog 115 #[rv c.M] w (lZ c K (s,20) w):=by
 have h:=m;obtain⟨l,d,_,_,_,_,_,k⟩:=m;refine(Ul w c.M (c.ms s l) d f).m ?_;rintro n w' ⟨rfl,j,b⟩
 exact⟨rfl,h.turn a g b (fun e i=>by
  obtain rfl:e=l:=by have:=i.foot;rw[d.foot]at this;simp only[RC.ms,fi]at this;exact this.symm
  exact j) rfl rfl k,b.wD a⟩
end
def RC.oM(c:RC)(a:Nat):RC:={c with S:=fun k=>c.S k\/k=a,Z:=fun k=>c.Z k\/k=a}
theorem RC.Fit.oM{c:RC}(h:c.Fit)(b:Nat):(c.oM b).Fit:=⟨.inl h.own,h.YV,fun k a=>.inl (h.sub k a),.inl h.YW,fun k a=>a.elim (fun a=>.inl (h.YX k a)) .inr,h.low,h.ops,h.fuel⟩
theorem bI.bound{k:Nat}{w:World}{F:Nat->Prop}{v:Value}{xs:List (List Value)}(p:bI k w F v xs)(h: ∀x∈xs,x.length=k)(o:0<k):bI k w (fun m=>F m/\m<w.heap.size) v xs:=by obtain⟨A,q,c,g,i,j,l,d⟩:=p;refine⟨A,q,c,g,i,j,l,fun b=>?_⟩;obtain⟨m,r,e,f,a⟩:=d b;refine⟨m,r,e,⟨f,?_⟩,a⟩;obtain⟨x,b⟩: ∃x,xs[0]?=some x:=⟨_,ao (by omega)⟩;have n:=h x (db b);exact aq _ _ (a 0 x b 0 _ (ao (by omega)))
theorem MI.oM{R:Type}{c:RC}{K:(Nat->Prop)->R->World->Prop}{w w1:World}{s:PS R}{d:Nat}(h:MI c K w s)(u:c.Fit)(f:uh K)(j:Below w.heap.size w w1)(t:w.heap.size<=d)(D:d<w1.heap.size):MI (c.oM d) K w1 s:=by
 have p:=h.below u f j;obtain⟨B,x,k,i,A,v,E,r⟩:=h;obtain⟨m,l,_,_,_,F,q,_⟩:=p;have a:=qS j;have e: ∀n,(¬c.S n/\n<w.heap.size)-> ¬(c.oM d).S n:=fun n g b=>b.elim g.1 (fun y=>by omega)
 have o:m=B:=by have b:=l.foot;rw[(x.below j).foot]at b;simp only[RC.ms,fi]at b;exact b.symm
 subst o;refine⟨m,l,⟨(bI.m (bI.bound k.1 (dK _) (by decide)) e).only a (fun _ _ h=>h),k.2⟩,?_,bI.only (bI.m (bI.bound A (fun z o=>by obtain⟨z,_,rfl⟩:=ep.1 o;rfl) (by decide)) e) a (fun _ _ h=>h),f.only _ _ _ _ _ (fun _ h=>h.elim) (f.oM _ _ _ _ v t) a,fun n g=>g.elim (q n) (fun y=>by omega),r⟩;rcases i with i|⟨C,n,B,b,y,g,o,z⟩
 ·exact .inl i
 ·exact .inr ⟨C,n,B,b,e C ⟨y,aq _ _ g⟩,a.cell g (fun h=>h),(bI.m (bI.bound o (dK _) (by decide)) e).only a (fun _ _ h=>h),z⟩
theorem MI.back{R:Type}{c:RC}{K:(Nat->Prop)->R->World->Prop}{w w':World}{s:PS R}{d:Nat}(y:MI (c.oM d) K w s)(n: ¬c.S d)(m:c.Fit)(h:uh K)(b:Only (fun k=>k=d) w w'):MI c K w' s:=by
 obtain⟨x,p,i,g,u,l,q,r⟩:=y;have f: ∀k,k=d->(c.oM d).S k:=fun k a=>.inr a;have e: ∀k,¬(c.oM d).S k-> ¬c.S k:=fun k a j=>a (.inl j);refine⟨x,p.only b (fun j=>n (by rw[<-j];exact m.own)),⟨bI.m (i.only b f).1 e,i.2⟩,?_,bI.m (u.only b (fun k a j=>a (f k j))) e,h.back _ _ _ _ (fun k a=>.inl a) (h.only _ _ _ _ _ (fun k a=>.inr a) l b),fun k a=>da (q k (.inl a)) b.size,r⟩;rcases g.only b f with g|⟨B,j,x,v,o,k,a,t⟩
 ·exact .inl g
 ·exact .inr ⟨B,j,x,v,e B o,k,bI.m a e,t⟩
def Dy:Nat->FuncId
 |1=>100
 |2=>101
 |3=>102
 |4=>103
 |5=>104
 |6=>105
 |7=>106
 |8=>107
 |9=>108
 |10=>109
 |11=>110
 |12=>111
 |13=>112
 |14=>113
 |_=>114
theorem aK.act{w:World}{M:Nat}{s:MS}(h:aK w M s){d:Nat}(b:1<=d)(a:d<=15):w.cell? ⟨M,1+d,none⟩=some (pZ (Dy d)):=by
 match d,b,a with
 |1,_,_|2,_,_|3,_,_|4,_,_|5,_,_|6,_,_|7,_,_|8,_,_|9,_,_|10,_,_|11,_,_|12,_,_|13,_,_|14,_,_|15,_,_=>simp[World.cell?,h.is,MS.cells,Dy]
theorem Gd{d:Nat}(c:1<=d)(b:d<=15): ∀a w,(callFunc (Dy d) a).run prog w=.ok (.enter (Dy d) a) w:=by
 match d,c,b with
 |1,_,_=>exact enters_of func100 (by kernel_rfl) rfl
 |2,_,_=>exact enters_of func101 (by kernel_rfl) rfl
 |3,_,_=>exact enters_of func102 (by kernel_rfl) rfl
 |4,_,_=>exact enters_of func103 (by kernel_rfl) rfl
 |5,_,_=>exact enters_of func104 (by kernel_rfl) rfl
 |6,_,_=>exact enters_of func105 (by kernel_rfl) rfl
 |7,_,_=>exact enters_of func106 (by kernel_rfl) rfl
 |8,_,_=>exact enters_of func107 (by kernel_rfl) rfl
 |9,_,_=>exact enters_of func108 (by kernel_rfl) rfl
 |10,_,_=>exact enters_of func109 (by kernel_rfl) rfl
 |11,_,_=>exact enters_of func110 (by kernel_rfl) rfl
 |12,_,_=>exact enters_of func111 (by kernel_rfl) rfl
 |13,_,_=>exact enters_of func112 (by kernel_rfl) rfl
 |14,_,_=>exact enters_of func113 (by kernel_rfl) rfl
 |15,_,_=>exact enters_of func114 (by kernel_rfl) rfl
def fB(w:World):Prop:=Lib.TabIs prog w "internal/strconv.uint64pow10" .u64 Lib.pow10Tab
theorem Tryz.g10:prog.globalNamed "internal/strconv.uint64pow10" =some 5:=by kernel_rfl
theorem fB.lt{w:World}(h:fB w):5<w.heap.size:=by
 unfold fB Lib.TabIs World.var? at h;rw[Tryz.g10]at h;simp only[Option.bind_some]at h;rcases Nat.lt_or_ge 5 w.heap.size with a|a
 ·exact a
 ·rw[Array.getElem?_eq_none a]at h;cases h
theorem fB.only{S:Nat->Prop}{w w':World}(h:fB w)(b:Only S w w')(c: ¬S 5):fB w':=by have a:=h.lt;unfold fB Lib.TabIs World.var? at h⊢;rw[Tryz.g10]at h⊢;simp only[Option.bind_some]at h⊢;rw[b.block _ a c];exact h
theorem fB.below{w w':World}(h:fB w)(a:Below w.heap.size w w'):fB w':=h.only (qS a) (fun h=>h)
theorem Jw(w:World)(k:Nat)(os:Array Obj):Below w.heap.size w (Sort.grow (w.drewN k) os):=by
 have a:=bd w.heap.size w;refine⟨a.os,a.tape,a.output,?_,fun j b=>?_⟩
 ·show w.heap.size<=(w.heap++os).size;simp
 ·show(w.heap++os)[j]?=w.heap[j]?;rw[Array.getElem?_append_left b]
theorem Dz(w:World)(n:Int)(a:lq n)(b:fB w):Calls prog 161 #[rm n] w fun e w'=>e=.returned (.string ⟨(Lib.itoa n).toArray⟩)/\Below w.heap.size w w':=by
 have H:=al (Any.strconv_Itoa Tryz.Qh n a.1 a.2 w b);clear b;go_enter func161,ntmps161;go_wp2_with fail;refine H.o.m ?_;rintro e w' ⟨rfl,k,c,rfl⟩;have b:=al (Jw w k c);generalize Sort.grow (w.drewN k) c=d at b⊢;go_wp2_with fail;go_ret
 exact⟨rfl,b.o⟩
section
variable{R:Type}{c:RC}{K:(Nat->Prop)->R->World->Prop}
theorem nu{w:World}{s:PS R}(d:c.Fit)(o:uh K)(z:MI c K w s)(l:List Cl)(v:Value)(n:eI w (fun k=> ¬c.S k) v l)(h:l.length<=1000)(t:Good l):
  Calls prog 163 #[rv c.M,v] w fun y w'=>y=.returned (rm (aV c.ok s.cl l).2)/\MI c K w' {s with cl:=(aV c.ok s.cl l).1}/\Only (fun k=>k=c.M) w w':=by
 obtain⟨A,p,q,f,x,m,g,r⟩:=z;refine(Q4 w c.S c.M (c.ms s A) c.ok s.cl l v p d.own g q f n h t).m ?_;rintro y w' ⟨j,rfl,u,i,b⟩;have e: ∀k,k=c.M->c.S k:=fun k a=>by subst a;exact d.own
 exact⟨rfl,⟨j,u,i,f.only b e,x.only b (fun k a y=>a (e k y)),o.only _ _ _ _ _ (fun k a=>by subst a;exact d.YW) m b,fun k a=>da (g k a) b.size,r⟩,b⟩
end
def adw(r:Option Rw)(w:World)(e:Ending)(w':World):Prop:=
 e=.returned (.tuple #[(r.getD .zero).val,rm (if r.isSome then 0 else 14)])/\Below w.heap.size w w'
def Ge{R:Type}(b:Value)(K:(Nat->Prop)->R->World->Prop)(get:R->List UInt8->Option Rw):Prop:=
 ∀(Z:Nat->Prop) (r:R) (w:World) (k:List UInt8),K Z r w->dY k=0->Calls prog 199 #[b,r7 k] w (adw (get r k) w)
def UO{R:Type}(K:(Nat->Prop)->R->World->Prop):Prop:= ∀Z r w,K Z r w->fB w
section
variable{R:Type}{c:RC}{K:(Nat->Prop)->R->World->Prop}{get:R->List UInt8->Option Rw}
def rowP(a:Cl->Bool)(get:R->List UInt8->Option Rw)(i:Nat)(s:PS R):PS R×Option Rw×Int:=
 let p:=aV a s.cl [iG (s.bD i)]
 ({s with cl:=p.1},if p.2=0 then get s.rows (Lib.itoa (s.bD i))else none,p.2)
def adx(c:RC)(K:(Nat->Prop)->R->World->Prop)(p:PS R×Option Rw×Int)(w:World)(e:Ending)(w':World):Prop:=
 e=.returned (.tuple #[(p.2.1.getD .zero).val,.bool p.2.1.isSome,rm p.2.2])/\MI c K w' p.1/\Only c.W w w'
theorem Rf{w:World}{s:PS R}(b:c.Fit)(j:uh K)(m:UO K)(r:Ge c.b K get)(Q:MI c K w s)(i:Nat)(hi:i<8):
  Calls prog 160 #[rv c.M,rm i] w (adx c K (rowP c.ok get i s) w):=by
 obtain⟨d,h⟩:=rj w (r8 0 0 0 0);have J:=Q.oM b j d (b8 _) (by simp);have q:c.lo<=w.heap.size:=by obtain⟨_,e,_⟩:=Q;have:=e.lt;have:=b.low;omega
 have g:=AM b j m r q;have HS:=al (show ∀P,c.S P->P<w.heap.size by obtain⟨_,_,_,_,_,_,a,_⟩:=Q;exact a);have i1:(0:Int)<=(i:Int):=by omega
 have i2:(i:Int)<8:=by omega
 go_enter func160,ntmps160;go_upto_region 1 with fail;generalize w.alloc (r8 0 0 0 0)=u at d h J⊢;obtain⟨a,k⟩:=rk (w.heap.size);rw[k]at h J⊢;have p:=AF k d h;have t:=al J;obtain⟨f,e,_,_,_,v,_,o⟩:=J;have l:=e.bD hi;have n:=o.1 i;have O:=AD (Dz u (s.bD i) n.i64 (m _ _ _ v)) n;simp only[RC.ms]at l;have E:=al (b.oM a);clear Q d h k e v o n b j m r q;change World.cell? u ⟨c.M,18+i,none⟩=_ at l;go_wp2_with fail;refine O.o.1.m ?_;rintro e N ⟨rfl,b⟩;have k:=t.o.below E.o g.o.2.1 b;have m:=p.o.2.1.x (b.m p.o.2.1.size);have h:=qt b p.o.d;obtain⟨d,j⟩:=rj N (sd false (-1) ((Lib.itoa (s.bD i)).toArray) 0 0);have n:=AM k m h d j;clear b k m h d j l t;go_wp2_with fail;have I:=n.o;clear n;generalize N.alloc (sd false (-1) ((Lib.itoa (s.bD i)).toArray) 0 0)=l at I⊢;obtain⟨k,b,h,d,j⟩:=I;obtain⟨X,x⟩:=rk (N.heap.size);have y:a<X:=by have:=aM h;omega
 have u:=k.below E.o g.o.2.1 d;have r:=b.x (d.m b.size);have t:=qt d h;rw[x]at j⊢
 have q:=mr (l:=[iG (s.bD i)]) (F:=fun P=> ¬(c.oM a).S P) j rfl (fun m=>by
  rcases m with m|m
  ·have:=HS.o X m;have:=p.o.1;omega
  ·omega) (by simp[maxLen])
 have I:=AD r t;have l:=al (nu E.o g.o.2.1 u [iG (s.bD i)] _ q (by simp) (yw O.o.2));obtain⟨S,n,o⟩: ∃S n,aV c.ok s.cl [iG (s.bD i)]=(S,n):=⟨_,_,rfl⟩;rw[show(c.oM a).ok=c.ok from rfl,o]at l;have z:=al o;clear k b h d j x y u r t q o;refine l.o.m ?_;rintro e G ⟨rfl,M,h⟩;have b: ¬c.S a:=fun m=>by have:=HS.o a m;have:=p.o.1;omega
 have k: ¬a=c.M:=fun e=>b (by rw[e];exact g.o.1.own);have j:=h.heap I.o.2 k;have o:Only c.W w G:=(oB I.o.1 _).x h (fun P _ v=>by subst v;exact g.o.1.YV);have d:=AI M o j b;obtain⟨⟨z0,z1,z2,z3⟩,V,y1,Y,U⟩:=cP j;clear h j o l b k;by_cases L:n=0
 ·subst L;obtain⟨f4,h,_,_,_,b,_,j⟩:=M;have T:=h.b;simp only[RC.ms]at T;change World.cell? G ⟨c.M,26,none⟩=_ at T;have HG:=al (g.o.t.1 _ s.rows G (Lib.itoa (s.bD i)) b (yu O.o.2));clear h b j;go_wp2_with fail;have h:(c.oM a).b=c.b:=rfl;rw[h];obtain⟨q,b⟩:=rk (get s.rows (Lib.itoa (s.bD i)));rw[b]at HG;have W:=al b;clear b h;refine HG.o.m ?_;rintro e l ⟨rfl,o⟩
  cases q with
  |none=>
   simp only[Option.getD_none,nx,Rw.val,Rw.zero];have D:=ae l (r8 0 0 0 0);have h:=o.x (D.m o.size);have k:=qt h d.o.d.1;have H:=cP (an l (r8 0 0 0 0));have u: ¬l.heap.size=a:=by have:=aM d.o.d.1;have:=o.size;omega
   have j:=AI h k u H;clear D h k o u H;go_upto_region 6 with fail;have x:=j.o;clear j;generalize l.alloc (r8 0 0 0 0)=F at x⊢;generalize l.heap.size=Z at x⊢;obtain⟨h,k,u,⟨x0,x1,x2,x3⟩,_⟩:=x;obtain⟨⟨z0,z1,z2,z3⟩,V,y1,Y,U⟩:=cP k;have j:=AD h k;clear h k;go_wp2_with fail;have t:=Bj (v0:=rm 0) (v1:=rm 0) (v2:=rm 0) (v3:=rm 0) j.o.2;have r:=(((bg F a 0 (rm 0)).setCell (p:=⟨a,1,none⟩) (fun _=>rfl) (rm 0)).setCell (p:=⟨a,2,none⟩) (fun _=>rfl) (rm 0)).setCell (p:=⟨a,3,none⟩) (fun _=>rfl) (rm 0);have b:=AD t r;clear t r;generalize ((((F.setCell ⟨a,0,none⟩ (rm 0)).setCell ⟨a,1,none⟩ (rm 0)).setCell ⟨a,2,none⟩ (rm 0)).setCell ⟨a,3,none⟩ (rm 0))=w7 at b⊢;refine dj (dt rfl _ _ _ _ _ _ _ rfl b.o.1 underlying109 rfl (by kernel_rfl)) rfl ⟨?_,?_,?_⟩
   ·unfold rowP;rw[z.o];simp only[if_true,W.o];rfl
   ·unfold rowP;rw[z.o];exact(d.o.1.below E.o g.o.2.1 j.o.1).back d.o.t g.o.1 g.o.2.1 b.o.2
   ·exact(d.o.2.1.x (oB j.o.1 c.W) (fun _ _ Q=>Q)).x b.o.2 (fun P v m=>by have:=p.o.1;omega)
  |some aa=>
   obtain⟨C,A,y,B⟩:=aa;simp only[oy,mT,Rw.val,if_true];have D:=ae l (r8 C A y B);have h:=o.x (D.m o.size);have k:=qt h d.o.d.1;have H:=cP (an l (r8 C A y B));have u: ¬l.heap.size=a:=by have:=aM d.o.d.1;have:=o.size;omega
   have j:=AI h k u H;clear D h k o u H;go_upto_region 6 with fail;have x:=j.o;clear j;generalize l.alloc (r8 C A y B)=F at x⊢;generalize l.heap.size=Z at x⊢;obtain⟨h,k,u,⟨x0,x1,x2,x3⟩,_⟩:=x;obtain⟨⟨z0,z1,z2,z3⟩,V,y1,Y,U⟩:=cP k;have j:=AD h k;clear h k;go_wp2_with fail;have t:=Bj (v0:=rm C) (v1:=rm A) (v2:=rm y) (v3:=rm B) j.o.2;have r:=(((bg F a 0 (rm C)).setCell (p:=⟨a,1,none⟩) (fun _=>rfl) (rm A)).setCell (p:=⟨a,2,none⟩) (fun _=>rfl) (rm y)).setCell (p:=⟨a,3,none⟩) (fun _=>rfl) (rm B);have b:=AD t r;clear t r;generalize ((((F.setCell ⟨a,0,none⟩ (rm C)).setCell ⟨a,1,none⟩ (rm A)).setCell ⟨a,2,none⟩ (rm y)).setCell ⟨a,3,none⟩ (rm B))=w7 at b⊢;refine dj (dt rfl _ _ _ _ _ _ _ rfl b.o.1 underlying109 rfl (by kernel_rfl)) rfl ⟨?_,?_,?_⟩
   ·unfold rowP;rw[z.o];simp only[if_true,W.o];rfl
   ·unfold rowP;rw[z.o];exact(d.o.1.below E.o g.o.2.1 j.o.1).back d.o.t g.o.1 g.o.2.1 b.o.2
   ·exact(d.o.2.1.x (oB j.o.1 c.W) (fun _ _ Q=>Q)).x b.o.2 (fun P v m=>by have:=p.o.1;omega)
 ·clear M;have j:(n !=0)=true:=by simpa using L
  have h:=al L;clear L;go_wp2_with fail;have t:=Bj (v0:=rm 0) (v1:=rm 0) (v2:=rm 0) (v3:=rm 0) d.o.d.1;have r:=(((bg G a 0 (rm 0)).setCell (p:=⟨a,1,none⟩) (fun _=>rfl) (rm 0)).setCell (p:=⟨a,2,none⟩) (fun _=>rfl) (rm 0)).setCell (p:=⟨a,3,none⟩) (fun _=>rfl) (rm 0);have b:=AD t r;clear t r;generalize ((((G.setCell ⟨a,0,none⟩ (rm 0)).setCell ⟨a,1,none⟩ (rm 0)).setCell ⟨a,2,none⟩ (rm 0)).setCell ⟨a,3,none⟩ (rm 0))=l at b⊢;refine dj (dt rfl _ _ _ _ _ _ _ rfl b.o.1 underlying109 rfl (by kernel_rfl)) rfl ⟨?_,?_,?_⟩
  ·unfold rowP;rw[z.o];simp only[fb h.o];rfl
  ·unfold rowP;rw[z.o];exact d.o.1.back d.o.t g.o.1 g.o.2.1 b.o.2
  ·exact d.o.2.1.x b.o.2 (fun P v m=>by have:=p.o.1;omega)
end
section
variable{R:Type}{c:RC}{K:(Nat->Prop)->R->World->Prop}{get:R->List UInt8->Option Rw}{w:World}{s:PS R}
theorem Rg{f:Nat->Int}(h: ∀i,aQ (f i))(a:Nat){v:Int}(b:aQ v): ∀i,aQ (oL f a v i):=fun i=>by
 unfold oL;split
 ·exact b
 ·exact h i
def Wy(x:aX)(s:PS R):PS R×Int:=({s with bD:=oL s.bD x.a.toNat x.c},0)
theorem UQ(b:c.Fit)(k:uh K)(o:MI c K w s)(x:aX)(a:Nat)(i:a<8)(e:x.a=(a:Int))(p: -1099511627776<=x.c/\x.c<=1099511627776):
  Calls prog 100 #[rv c.M,x.val] w (lZ c K (Wy x s) w):=by
 have j:=o;obtain⟨n,g,_,_,_,_,_,f⟩:=o;refine(Ye w c.M (c.ms s n) g x a i e).m ?_;rintro q w' ⟨rfl,m,d⟩;refine⟨rfl,j.turn b k d (fun h l=>?_) rfl rfl ⟨Rg f.1 _ ⟨by omega,by omega⟩,f.2⟩,d.wD b⟩
 obtain rfl:h=n:=by have:=l.foot;rw[g.foot]at this;simp only[RC.ms,fi]at this;exact this.symm
 unfold Wy;rw[e];exact m
theorem Lg(w:World):Calls prog 159 #[.bool true] w fun e w'=>e=.returned (rm 1)/\w=w':=by
 go_enter func159,ntmps159;go_wp2_with fail;go_ret
 exact⟨rfl,rfl⟩
theorem Rh(w:World):Calls prog 159 #[.bool false] w fun e w'=>e=.returned (rm 0)/\w=w':=by
 go_enter func159,ntmps159;go_wp2_with fail;go_ret
 exact⟨rfl,rfl⟩
def oz(a:Cl->Bool)(get:R->List UInt8->Option Rw)(x:aX)(s:PS R):PS R×Int:=
 let p:=rowP a get x.b.toNat s
 if p.2.2=0 then({p.1 with bD:=oL p.1.bD x.a.toNat (if p.2.1.isSome then 1 else 0)},0)else(p.1,p.2.2)
theorem MI.jL{a:Nat}(f:c.Fit)(h:uh K)(j:MI c K w s)(e:a<8){v:Int}(d:aQ v):MI c K (w.setCell ⟨c.M,18+a,none⟩ (rm v)) {s with bD:=oL s.bD a v}:=by have g:=j;obtain⟨m,l,_,_,_,_,_,b⟩:=j;exact g.turn f h (bg w c.M (18+a) _) (fun k i=>i.jL e v) rfl rfl ⟨Rg b.1 _ d,b.2⟩
theorem MI.drew(h:MI c K w s)(b:c.Fit)(a:uh K):MI c K w.drew s:=h.below b a ((bd _ _).drew)
theorem UR(j:c.Fit)(g:uh K)(m:UO K)(o:Ge c.b K get)(l:MI c K w s)(x:aX)(a b:Nat)(p:a<8)(E:b<8)(e:x.a=(a:Int))(d:x.b=(b:Int)):
  Calls prog 106 #[rv c.M,x.val] w (lZ c K (oz c.ok get x s) w):=by
 obtain⟨y,S,V,D,z⟩:=x;simp only at e d;subst e d;unfold aX.val;simp only;obtain⟨f,e⟩:=rj w (sa y (a:Int) (b:Int) D z);have k:=l.below j g f;have d:=AI j g m o;have t: ∀h,c.S h->h<w.heap.size:=by obtain⟨_,_,_,_,_,_,F,_⟩:=l;exact F
 have R:(0:Int)<=(a:Int):=by omega
 have Q:(a:Int)<8:=by omega
 go_enter func106,ntmps106;go_upto_region 1 with fail;generalize w.alloc (sa y (a:Int) (b:Int) D z)=i at f e k⊢;obtain⟨O,u⟩:=rk (w.heap.size);rw[u]at e⊢;have q: ¬c.S O:=fun h=>by have:=t O h;omega
 have T:i.cell? ⟨O,2,none⟩=some (rm (b:Int)):=by simp[World.cell?,e]
 have r:=al (Rf j g m o k b E);have i:=AF f e q;obtain⟨s',I,L,n⟩: ∃s' I L,rowP c.ok get b s=(s',I,L):=⟨_,_,_,rfl⟩;rw[n]at r;have h:=al n;clear l k f e u q t n j g m o;go_wp2_with fail;refine r.o.m ?_;rintro J v ⟨rfl,g,e⟩;have f:=e.heap i.o.2.1 (fun l=>i.o.d (d.o.1.sub _ l));obtain⟨⟨C,A,u,B⟩,G⟩: ∃q,I.getD .zero=q:=⟨_,rfl⟩;simp only[G,Rw.val];have q:=AF g e f;clear g e f r;go_upto_region 2 with fail;have e:=ae v (r8 C A u B);have g:=al e;clear e;generalize v.alloc (r8 C A u B)=e at g⊢;have f:=q.o.1.below d.o.1 d.o.2.1 g.o;have m:=qt g.o q.o.d;have j:Only c.W w e:=((oB i.o.1 c.W).x q.o.2.1 (fun _ _ l=>l)).x (oB g.o c.W) (fun _ _ l=>l);by_cases k:L=0
 ·subst k;have r:=AD f j;obtain⟨U,n,_⟩:=f;have N:=n.bD p;have P:=n.free (18+a);have o:e.cell? ⟨O,1,none⟩=some (rm (a:Int)):=by simp[World.cell?,m]
  have H: ¬O=c.M:=fun J=>i.o.d (by rw[J];exact d.o.1.own);have t: ∀M,(e.setCell ⟨c.M,18+a,none⟩ M).cell? ⟨O,1,none⟩=some (rm (a:Int)):=fun M=>(bg e c.M (18+a) M).cell o H;clear n m j;cases hq:I.isSome
  focus
   go_wp2_with fail
   go_region_held3 (fun W=>W.cell? ⟨O,1,none⟩=some (rm (a:Int))) (first|exact o|exact t _|go_keep) (first|(go_at_call 159;refine(Rh _).m ?_;rintro J w' ⟨rfl,rfl⟩))
   go_wp2_with fail;go_ret
   have n:=(r.o.1.drew d.o.1 d.o.2.1).jL d.o.1 d.o.2.1 p (v:=0) ⟨by decide,by decide⟩
  rotate_left
  focus
   go_wp2_with fail
   go_region_held3 (fun W=>W.cell? ⟨O,1,none⟩=some (rm (a:Int))) (first|exact o|exact t _|go_keep) (first|(go_at_call 159;refine(Lg _).m ?_;rintro J w' ⟨rfl,rfl⟩))
   go_wp2_with fail;go_ret
   have n:=(r.o.1.drew d.o.1 d.o.2.1).jL d.o.1 d.o.2.1 p (v:=1) ⟨by decide,by decide⟩
  all_goals
   refine⟨?_,?_,r.o.2.x ((ma e 1 c.M (18+a) _).wD d.o.1) (fun _ _ l=>l)⟩
   ·unfold oz;simp only[iS,h.o,if_true];rfl
   ·unfold oz;simp only[iS,h.o,if_true,hq];exact n
 ·have n:(L==0)=false:=by simpa using k
  have e:=AF k f j;clear k f m j;go_wp2_with fail;go_ret
  refine⟨?_,?_,e.o.d⟩
  ·unfold oz;simp only[iS,h.o,fb e.o.1];rfl
  ·unfold oz;simp only[iS,h.o,fb e.o.1];exact e.o.2.1
end
def Jy(w:World)(M:Nat):Int:=match w.cell? ⟨M,17,none⟩with
 |some (.int _ n)=>n
 |_=>0
theorem MI.Jy{R:Type}{c:RC}{K:(Nat->Prop)->R->World->Prop}{w:World}{s:PS R}(h:MI c K w s):Jy w c.M=s.pc:=by obtain⟨f,a,_⟩:=h;have:=a.pc;unfold Proofs.YtehccbdajiiaaaaGreatDoor.Jy;rw[this];rfl
def yQ{R:Type}(c:RC)(K:(Nat->Prop)->R->World->Prop)(act:aX->PS R->PS R×Int)(fr tt:Nat):Prop:=
 ∀(i:Nat) (x:aX),fr<=i->i<tt->c.ops[i]?=some x->(1<=x.d/\x.d<=15)/\ ∀(s:PS R),s.pc=(i:Int)+1->
  (∀w,MI c K w s->Calls prog (Dy x.d.toNat) #[rv c.M,x.val] w (lZ c K (act x s) w))/\((act x s).2=0->s.pc<=(act x s).1.pc)
def abK{R:Type}(c:RC)(K:(Nat->Prop)->R->World->Prop)(act:aX->PS R->PS R×Int)(fr tt:Nat)(b:PS R)(w a:World):Prop:=
 ∃(s:PS R) (g:Nat),MI c K a s/\Only c.W w a/\cK c.fuel c.ops act tt (tt-fr) b=cK c.fuel c.ops act tt g s/\(tt:Int)-s.pc<=g/\(fr:Int)<=s.pc
theorem Gh{R:Type}{c:RC}{K:(Nat->Prop)->R->World->Prop}{act:aX->PS R->PS R×Int}{w:World}{s:PS R}(a:c.Fit)(b:uh K)(C:MI c K w s)(fr tt:Nat)(a5:fr<=tt)(ZN:tt<=c.ops.length)(d:yQ c K act fr tt):
  Calls prog 63 #[rv c.M,rm fr,rm tt] w (lZ c K (cK c.fuel c.ops act tt (tt-fr) {s with pc:=fr}) w):=by
 have a2:=a.ops
 have g:MI c K (w.setCell ⟨c.M,17,none⟩ (rm fr)) {s with pc:=fr}:=by refine C.turn a b (bg w c.M 17 _) (fun f r=>r.KS _) rfl rfl ?_;obtain⟨_,_,_,_,_,_,_,m⟩:=C;exact⟨m.1,m.2.1,by show(0:Int)<=(fr:Int);omega,by show(fr:Int)<=1000;omega⟩
 have h:=AF a b d;have H0:=al (show abK c K act fr tt {s with pc:=fr} w (w.setCell ⟨c.M,17,none⟩ (rm fr))from⟨_,tt-fr,g,(bg w c.M 17 _).wD a,rfl,by show(tt:Int)-(fr:Int)<=((tt-fr:Nat):Int);omega,eL _⟩);obtain⟨f,r,_⟩:=C;have cf:=r.free 17;have cp:=r.pc;simp only[RC.ms]at cp;clear r d g a b;go_enter func63,ntmps63;go_wp2_with fail
 go_step3
 go_wp2_with fail
 go_step3
 go_wp2_with fail
 go_loopw [7] (fun e wr=>e=rm 0/\abK c K act fr tt {s with pc:=fr} w wr) (fun _ wr=>((tt:Int)-Jy wr c.M).toNat)
 case atStart=>exact⟨rfl,H0.o⟩
 case round=>
  obtain⟨rfl,a,g,U,J,N,I,Q⟩:=hrel;have i:=AM U J N I Q;have T:=U.Jy;obtain⟨f1,M,_,_,W,_,_,G⟩:=U;have j:=M.pc;simp only[RC.ms]at j;by_cases o:a.pc<tt
  ·obtain⟨B,n⟩: ∃B:Nat,a.pc=(B:Int):=⟨a.pc.toNat,by have:=G.2.2.1;omega⟩;have ad:fr<=B:=by omega
   have a1:B<tt:=by omega
   obtain⟨x,b⟩: ∃x,c.ops[B]?=some x:=⟨_,ao (by omega)⟩;obtain⟨z,rfl⟩: ∃z,g=z+1:=⟨g-1,by omega⟩;have p:c.ops[a.pc.toNat]?=some x:=by rw[n];simpa using b
   by_cases t:c.fuel<=a.steps
   ·have k:=AD (IU (fuel:=c.fuel) (ops:=c.ops) (act:=act) (g:=z) o t) (Gc h.o.1 h.o.2.1 i.o.1 t);clear J N I Q T M W G b p n;go_wp2_with fail;refine k.o.2.m ?_;rintro e l ⟨rfl,E,D⟩;have y:=AD E D;clear E D;go_wp2_with fail;go_ret
    refine⟨?_,?_,i.o.2.1.x y.o.2 (fun _ _ C=>C)⟩
    ·rw[i.o.d.1,k.o.1];rfl
    ·rw[i.o.d.1,k.o.1];exact y.o.1
   ·have q:a.steps<c.fuel:=by omega
    have d:=AM b p n q o;have HS:=al (Gb h.o.1 h.o.2.1 i.o.1 q);clear J N I Q T M W G b p t q n;go_wp2_with fail;refine HS.o.m ?_;rintro e l ⟨rfl,E,D⟩;clear j o;have y:=AD E (i.o.2.1.x D (fun _ _ C=>C));obtain⟨f2,n,_,_,F,_,aa,ap⟩:=E;obtain⟨A,a4,H,a3,am⟩:=F.slice;unfold maxLen at am;have Z:=n.ops;have j:=n.pc;have P:=n.free 17;rw[H]at F;obtain⟨b,o,rfl,L,O,X,S,Y,V⟩:=F.at_ d.o.1;simp only[RC.ms,H,d.o.d.1]at Z j;have a7:=n.lt;obtain⟨q,t,u,v,p⟩:=x;simp only at O X S Y V;have a6: ¬b=c.M:=fun e=>L (by rw[e];exact h.o.1.own);have ac:=aq _ _ O;simp only at ac;have i1:(0:Int)<=(B:Int):=by omega
    have i2:(B:Int)<(c.ops.length:Int):=by omega
    clear F n ap aa D H L HS;go_upto_region 6 with fail
    go_region
    go_upto_region 7 with fail;have D:Below l.heap.size l (l.alloc (sa q t u v p)).drew:=(pR l (sa q t u v p)).drew;have L:(l.alloc (sa q t u v p)).drew.heap[l.heap.size]?=some (sa q t u v p):=an l _;clear Z j P O X S Y V;generalize (l.alloc (sa q t u v p)).drew=n at D L⊢;obtain⟨O,X⟩:=rk (l.heap.size);rw[X]at L⊢;have a':=y.o.1.below h.o.1 h.o.2.1 D;have Gg: ¬O=c.M:=by omega
    obtain⟨f6,S,_⟩:=a';have j:=S.pc;have P:=S.free 17;simp only[RC.ms,d.o.d.1]at j;have Y:IntKind.i64.wrap ((B:Int)+1)=(B:Int)+1:=by rw[me];omega
    have m:MI c K (n.setCell ⟨c.M,17,none⟩ (rm ((B:Int)+1))) {a with steps:=a.steps+1,pc:=a.pc+1}:=by
     have H:=y.o.1.below h.o.1 h.o.2.1 D;refine H.turn h.o.1 h.o.2.1 (bg n c.M 17 _) (fun f r=>?_) rfl rfl ?_
     ·have:=r.KS ((B:Int)+1);simp only[RC.ms,d.o.d.1]at this⊢;exact this
     ·obtain⟨_,_,_,_,_,_,_,F⟩:=H;exact⟨F.1,F.2.1,by show 0<=a.pc+1;have:=F.2.2.1;simp only at this;omega,by show a.pc+1<=1000;rw[d.o.d.1];omega⟩
    have F:=(bg n c.M 17 (rm ((B:Int)+1))).heap L Gg;have H:Only c.W w (n.setCell ⟨c.M,17,none⟩ (rm ((B:Int)+1))):=(y.o.2.x (oB D c.W) (fun _ _ C=>C)).x ((bg n c.M 17 _).wD h.o.1) (fun _ _ C=>C);have V:=AF m F H;clear m F H S L D X;go_upto_region 8 with fail;generalize n.setCell ⟨c.M,17,none⟩ (rm ((B:Int)+1))=D at V⊢;clear j P Y;obtain⟨⟨aa,a0⟩,X⟩:=h.o.d B _ ad a1 d.o.1;simp only at aa a0;obtain⟨j,rfl⟩: ∃j:Nat,q=(j:Int):=⟨q.toNat,by omega⟩;obtain⟨m,F,H⟩:=V.o;obtain⟨f7,S,_⟩:=id m;have ca:=S.act (show 1<=j by omega) (show j<=15 by omega);have ap:=Gd (show 1<=j by omega) (show j<=15 by omega);obtain⟨fn,L⟩:=rk (Dy j);have n:=X {a with steps:=a.steps+1,pc:=a.pc+1} (by show a.pc+1=(B:Int)+1;rw[d.o.d.1]);rw[show(aX.mk (j:Int) t u v p).d.toNat=j from iS j]at n;rw[L]at ca ap n;unfold pZ at ca;have P:=AD (n.1 D.drew (m.drew h.o.1 h.o.2.1)) n.2;obtain⟨e0,e1,e2,e3,e4⟩:=tP F;have j1:(0:Int)<=(j:Int):=by omega
    have j2:(j:Int)<16:=by omega
    clear m F H S X n L
    go_still_tail 9,(by kernel_rfl)
    change wpList _ _ _ _ _ D.drew;have HD:=al (bd D.heap.size D).drew;generalize D.drew=m at P HD⊢;go_wp2_with fail;obtain⟨s3,n,m⟩: ∃s3 n,act (aX.mk (j:Int) t u v p) {a with steps:=a.steps+1,pc:=a.pc+1}=(s3,n):=⟨_,_,rfl⟩;rw[m]at P;have HP:=al m;clear m;refine P.o.1.m ?_;rintro e w9 ⟨rfl,m,Z⟩;have H:Only c.W w w9:=(V.o.d.x (oB HD.o c.W) (fun _ _ C=>C)).x Z (fun _ _ C=>C);by_cases L:n=0
    ·subst L;have k:=al (ME (g:=z) (tt:=(tt:Int)) d.o.q d.o.t.1 d.o.2.1 HP.o);have D:=AD m H;have X:=m.Jy;have S:=P.o.2 rfl;have Y:=i.o.1.Jy;simp only[d.o.d.1]at S Y X;have F:=AF S Y X;clear m H Z S Y X;go_wp2_with fail;go_roundw
     case rel=>
      refine⟨rfl,s3,z,D.o.1,D.o.2,by rw[i.o.d.1,k.o],?_,?_⟩
      ·have X:=i.o.t.1;have S:=F.o.1;rw[d.o.d.1]at X;omega
      ·have S:=F.o.1;omega
     case measure=>rw[F.o.2.1,F.o.d];have S:=F.o.1;omega
    ·have F:(n !=0)=true:=by simpa using L
     have k:=al (Fy (g:=z) (tt:=(tt:Int)) d.o.q d.o.t.1 d.o.2.1 HP.o L);have D:=AD m H;clear L m H Z;go_wp2_with fail;go_ret
     refine⟨?_,?_,D.o.2⟩
     ·rw[i.o.d.1,k.o];rfl
     ·rw[i.o.d.1,k.o];exact D.o.1
  ·have k:=al (IQ (fuel:=c.fuel) (ops:=c.ops) (act:=act) (g:=g) (show(tt:Int)<=a.pc by omega));clear J N I Q T M W G;go_wp2_with fail;go_ret
   refine⟨?_,?_,i.o.2.1⟩
   ·rw[i.o.d.1,k.o];rfl
   ·rw[i.o.d.1,k.o];exact i.o.1
end Go.Proofs.YtehccbdajiiaaaaGreatDoor
