import Derived.Test.YtagemonojdgbdaaGreatDoorF06
import Derived.Test.YtagemonojdgbdaaGreatDoorF14
import Derived.Test.YtagemonojdgbdaaGreatDoorF38
namespace Go.Proofs.YtagemonojdgbdaaGreatDoor
set_option maxRecDepth 100000
set_option maxHeartbeats 16000000
open Go.RowKit
theorem vw{n:Int}(h:jN n):(Lib.itoa n).length<=20:=by
 unfold Lib.itoa;split
 ·have h1:=jX 18 n.natAbs (by have:=h.1;omega);rw[iS,Lib.decDigits_length];omega
 ·have h1:=jX 18 n.toNat (by have:=h.2;omega);rw[Lib.decDigits_length];omega
theorem Mx(d:Nat)(h:d<10):(⟨#[48,49,50,51,52,53,54,55,56,57]⟩:ByteArray).extract d (d+1)=⟨#[UInt8.ofNat (48+d)]⟩:=by
 have:d=0\/d=1\/d=2\/d=3\/d=4\/d=5\/d=6\/d=7\/d=8\/d=9:=by omega
 rcases this with rfl|rfl|rfl|rfl|rfl|rfl|rfl|rfl|rfl|rfl<;>rfl
theorem GX(l:List UInt8)(b:UInt8):(⟨l.toArray⟩:ByteArray)++⟨#[b]⟩=⟨(l++[b]).toArray⟩:=by apply ByteArray.ext;simp
theorem vz: ∀(N:Nat) (n:Int) (w:World),n.natAbs<=N->jN n->Calls Tryz.prog 9 #[.int .i64 n] w fun e w'=>e=.returned (.string ⟨(Lib.itoa n).toArray⟩)/\ ∃m,w'=w.drewN m
 |N,n,w,hN,hn=>by
  by_cases h0:n<0
  ·by_cases h1: -10<n
   ·have hcs:n= -1\/n= -2\/n= -3\/n= -4\/n= -5\/n= -6\/n= -7\/n= -8\/n= -9:=by omega
    rcases hcs with rfl|rfl|rfl|rfl|rfl|rfl|rfl|rfl|rfl
    ·have HE:=al (show((⟨#[45]⟩:ByteArray)++(⟨#[48,49,50,51,52,53,54,55,56,57]⟩:ByteArray).extract 1 2)=⟨(Lib.itoa (-1)).toArray⟩ by rw[dh (by decide) (by decide)];rfl);go_enter Tryz.func9,Tryz.ntmps9;go_wp2_with fail;go_ret
     exact⟨by rw[<-HE.out];rfl,0,by rw[iv]⟩
    ·have HE:=al (show((⟨#[45]⟩:ByteArray)++(⟨#[48,49,50,51,52,53,54,55,56,57]⟩:ByteArray).extract 2 3)=⟨(Lib.itoa (-2)).toArray⟩ by rw[dh (by decide) (by decide)];rfl);go_enter Tryz.func9,Tryz.ntmps9;go_wp2_with fail;go_ret
     exact⟨by rw[<-HE.out];rfl,0,by rw[iv]⟩
    ·have HE:=al (show((⟨#[45]⟩:ByteArray)++(⟨#[48,49,50,51,52,53,54,55,56,57]⟩:ByteArray).extract 3 4)=⟨(Lib.itoa (-3)).toArray⟩ by rw[dh (by decide) (by decide)];rfl);go_enter Tryz.func9,Tryz.ntmps9;go_wp2_with fail;go_ret
     exact⟨by rw[<-HE.out];rfl,0,by rw[iv]⟩
    ·have HE:=al (show((⟨#[45]⟩:ByteArray)++(⟨#[48,49,50,51,52,53,54,55,56,57]⟩:ByteArray).extract 4 5)=⟨(Lib.itoa (-4)).toArray⟩ by rw[dh (by decide) (by decide)];rfl);go_enter Tryz.func9,Tryz.ntmps9;go_wp2_with fail;go_ret
     exact⟨by rw[<-HE.out];rfl,0,by rw[iv]⟩
    ·have HE:=al (show((⟨#[45]⟩:ByteArray)++(⟨#[48,49,50,51,52,53,54,55,56,57]⟩:ByteArray).extract 5 6)=⟨(Lib.itoa (-5)).toArray⟩ by rw[dh (by decide) (by decide)];rfl);go_enter Tryz.func9,Tryz.ntmps9;go_wp2_with fail;go_ret
     exact⟨by rw[<-HE.out];rfl,0,by rw[iv]⟩
    ·have HE:=al (show((⟨#[45]⟩:ByteArray)++(⟨#[48,49,50,51,52,53,54,55,56,57]⟩:ByteArray).extract 6 7)=⟨(Lib.itoa (-6)).toArray⟩ by rw[dh (by decide) (by decide)];rfl);go_enter Tryz.func9,Tryz.ntmps9;go_wp2_with fail;go_ret
     exact⟨by rw[<-HE.out];rfl,0,by rw[iv]⟩
    ·have HE:=al (show((⟨#[45]⟩:ByteArray)++(⟨#[48,49,50,51,52,53,54,55,56,57]⟩:ByteArray).extract 7 8)=⟨(Lib.itoa (-7)).toArray⟩ by rw[dh (by decide) (by decide)];rfl);go_enter Tryz.func9,Tryz.ntmps9;go_wp2_with fail;go_ret
     exact⟨by rw[<-HE.out];rfl,0,by rw[iv]⟩
    ·have HE:=al (show((⟨#[45]⟩:ByteArray)++(⟨#[48,49,50,51,52,53,54,55,56,57]⟩:ByteArray).extract 8 9)=⟨(Lib.itoa (-8)).toArray⟩ by rw[dh (by decide) (by decide)];rfl);go_enter Tryz.func9,Tryz.ntmps9;go_wp2_with fail;go_ret
     exact⟨by rw[<-HE.out];rfl,0,by rw[iv]⟩
    ·have HE:=al (show((⟨#[45]⟩:ByteArray)++(⟨#[48,49,50,51,52,53,54,55,56,57]⟩:ByteArray).extract 9 10)=⟨(Lib.itoa (-9)).toArray⟩ by rw[dh (by decide) (by decide)];rfl);go_enter Tryz.func9,Tryz.ntmps9;go_wp2_with fail;go_ret
     exact⟨by rw[<-HE.out];rfl,0,by rw[iv]⟩
   ·obtain⟨m,rfl⟩: ∃m:Nat,n= -(m:Int):=⟨n.natAbs,by omega⟩;have iX:m<=9223372036854775808:=by have:=hn.1;omega
    have hm2:10<=m:=by omega
    cases N with
    |zero=>omega
    |succ N=>
     have Dt:=al (fun W=>vz N (-((m/10:Nat):Int)) W (by omega) ⟨by omega,by omega⟩);have HE:=al (ab (wm (n:= -(m:Int)) h0 (by rw[tdiv_neg];omega)) (Mx (m%10) (by omega)));rw[tdiv_neg,tmod_neg]at HE;have e1:=tdiv_neg m;have e2:=tmod_neg m;obtain⟨q,hq⟩: ∃q,m/10=q:=⟨_,rfl⟩;obtain⟨d,hd⟩: ∃d,m%10=d:=⟨_,rfl⟩;have hd9:d<10:=by omega
     have hqm:q<=922337203685477580:=by omega
     have hq1:1<=q:=by omega
     rw[hq]at Dt HE e1;rw[hd]at HE e2;clear hq hd hn hN h1;have w1:IntKind.i64.wrap (-(q:Int))= -(q:Int):=by rw[fm];omega
     have w2:IntKind.i64.wrap (-(d:Int))= -(d:Int):=by rw[fm];omega
     have w3:IntKind.i64.wrap (0- -(d:Int))=(d:Int):=by rw[fm];omega
     have w4:IntKind.i64.wrap (1- -(d:Int))=(d:Int)+1:=by rw[fm];omega
     have w5:IntKind.i64.wrap (d:Int)=(d:Int):=by rw[fm];omega
     have w6:IntKind.i64.wrap (1+(d:Int))=(d:Int)+1:=by rw[fm];omega
     have v1:wrap64 (-(q:Int))= -(q:Int):=by unfold wrap64;omega
     have hqz:((-(q:Int))==0)=false:=by rw[beq_eq_false_iff_ne];omega
     have hc1:0<=(d:Int)+1/\(d:Int)+1<=10:=by omega
     have hc2:(d:Int)<=(d:Int)+1:=by omega
     have hc3: ¬9223372036854775807<(Lib.itoa (-(q:Int))).length+(min (d+1) 10-d):=by have:=vw (n:= -(q:Int)) ⟨by omega,by omega⟩;omega
     go_enter Tryz.func9,Tryz.ntmps9;go_wp2_with fail;go_quiet(first|(go_at_call 9;exact(Dt.out _).mono (fun e w' ⟨h1,j,h2⟩=>⟨h1,_,h2.trans (World.drewN_drewN _ _ _)⟩))|fail);go_wp2_with fail;go_ret
     refine⟨?_,_,rfl⟩;show Ending.returned (.string ((⟨(Lib.itoa (-(q:Int))).toArray⟩:ByteArray)++(⟨#[48,49,50,51,52,53,54,55,56,57]⟩:ByteArray).extract d (d+1)))=.returned (.string ⟨(Lib.itoa (-(m:Int))).toArray⟩);rw[HE.out.2,GX,HE.out.1];simp
  ·by_cases h1:n<10
   ·have hcs:n=0\/n=1\/n=2\/n=3\/n=4\/n=5\/n=6\/n=7\/n=8\/n=9:=by omega
    rcases hcs with rfl|rfl|rfl|rfl|rfl|rfl|rfl|rfl|rfl|rfl
    ·have HE:=al (show(⟨#[48,49,50,51,52,53,54,55,56,57]⟩:ByteArray).extract 0 1=⟨(Lib.itoa 0).toArray⟩ by rw[fP (by decide) (by decide)];rfl);go_enter Tryz.func9,Tryz.ntmps9;go_wp2_with fail;go_ret
     exact⟨by rw[<-HE.out];rfl,0,by rw[iv]⟩
    ·have HE:=al (show(⟨#[48,49,50,51,52,53,54,55,56,57]⟩:ByteArray).extract 1 2=⟨(Lib.itoa 1).toArray⟩ by rw[fP (by decide) (by decide)];rfl);go_enter Tryz.func9,Tryz.ntmps9;go_wp2_with fail;go_ret
     exact⟨by rw[<-HE.out];rfl,0,by rw[iv]⟩
    ·have HE:=al (show(⟨#[48,49,50,51,52,53,54,55,56,57]⟩:ByteArray).extract 2 3=⟨(Lib.itoa 2).toArray⟩ by rw[fP (by decide) (by decide)];rfl);go_enter Tryz.func9,Tryz.ntmps9;go_wp2_with fail;go_ret
     exact⟨by rw[<-HE.out];rfl,0,by rw[iv]⟩
    ·have HE:=al (show(⟨#[48,49,50,51,52,53,54,55,56,57]⟩:ByteArray).extract 3 4=⟨(Lib.itoa 3).toArray⟩ by rw[fP (by decide) (by decide)];rfl);go_enter Tryz.func9,Tryz.ntmps9;go_wp2_with fail;go_ret
     exact⟨by rw[<-HE.out];rfl,0,by rw[iv]⟩
    ·have HE:=al (show(⟨#[48,49,50,51,52,53,54,55,56,57]⟩:ByteArray).extract 4 5=⟨(Lib.itoa 4).toArray⟩ by rw[fP (by decide) (by decide)];rfl);go_enter Tryz.func9,Tryz.ntmps9;go_wp2_with fail;go_ret
     exact⟨by rw[<-HE.out];rfl,0,by rw[iv]⟩
    ·have HE:=al (show(⟨#[48,49,50,51,52,53,54,55,56,57]⟩:ByteArray).extract 5 6=⟨(Lib.itoa 5).toArray⟩ by rw[fP (by decide) (by decide)];rfl);go_enter Tryz.func9,Tryz.ntmps9;go_wp2_with fail;go_ret
     exact⟨by rw[<-HE.out];rfl,0,by rw[iv]⟩
    ·have HE:=al (show(⟨#[48,49,50,51,52,53,54,55,56,57]⟩:ByteArray).extract 6 7=⟨(Lib.itoa 6).toArray⟩ by rw[fP (by decide) (by decide)];rfl);go_enter Tryz.func9,Tryz.ntmps9;go_wp2_with fail;go_ret
     exact⟨by rw[<-HE.out];rfl,0,by rw[iv]⟩
    ·have HE:=al (show(⟨#[48,49,50,51,52,53,54,55,56,57]⟩:ByteArray).extract 7 8=⟨(Lib.itoa 7).toArray⟩ by rw[fP (by decide) (by decide)];rfl);go_enter Tryz.func9,Tryz.ntmps9;go_wp2_with fail;go_ret
     exact⟨by rw[<-HE.out];rfl,0,by rw[iv]⟩
    ·have HE:=al (show(⟨#[48,49,50,51,52,53,54,55,56,57]⟩:ByteArray).extract 8 9=⟨(Lib.itoa 8).toArray⟩ by rw[fP (by decide) (by decide)];rfl);go_enter Tryz.func9,Tryz.ntmps9;go_wp2_with fail;go_ret
     exact⟨by rw[<-HE.out];rfl,0,by rw[iv]⟩
    ·have HE:=al (show(⟨#[48,49,50,51,52,53,54,55,56,57]⟩:ByteArray).extract 9 10=⟨(Lib.itoa 9).toArray⟩ by rw[fP (by decide) (by decide)];rfl);go_enter Tryz.func9,Tryz.ntmps9;go_wp2_with fail;go_ret
     exact⟨by rw[<-HE.out];rfl,0,by rw[iv]⟩
   ·obtain⟨m,rfl⟩: ∃m:Nat,n=(m:Int):=⟨n.toNat,by omega⟩;have iX:m<=9223372036854775807:=by have:=hn.2;omega
    have hm2:10<=m:=by omega
    cases N with
    |zero=>omega
    |succ N=>
     have Dt:=al (fun W=>vz N ((m/10:Nat):Int) W (by omega) ⟨by omega,by omega⟩);have HE:=al (ab (Hy (n:=(m:Int)) (by omega)) (Mx (m%10) (by omega)));rw[pY,pZ]at HE;have e1:=pY m;have e2:=pZ m;obtain⟨q,hq⟩: ∃q,m/10=q:=⟨_,rfl⟩;obtain⟨d,hd⟩: ∃d,m%10=d:=⟨_,rfl⟩;have hd9:d<10:=by omega
     have hqm:q<=922337203685477580:=by omega
     rw[hq]at Dt HE e1;rw[hd]at HE e2;clear hq hd hn hN;have w1:IntKind.i64.wrap (q:Int)=(q:Int):=by rw[fm];omega
     have w2:IntKind.i64.wrap (d:Int)=(d:Int):=by rw[fm];omega
     have w3:IntKind.i64.wrap ((d:Int)+1)=(d:Int)+1:=by rw[fm];omega
     have hc1:0<=(d:Int)+1/\(d:Int)+1<=10:=by omega
     have hc2:(d:Int)<=(d:Int)+1:=by omega
     have hc3: ¬9223372036854775807<(Lib.itoa ((q:Int))).length+(min (d+1) 10-d):=by have:=vw (n:=(q:Int)) ⟨by omega,by omega⟩;omega
     go_enter Tryz.func9,Tryz.ntmps9;go_wp2_with fail;go_quiet(first|(go_at_call 9;exact(Dt.out _).mono (fun e w' ⟨h1,j,h2⟩=>⟨h1,_,h2.trans (World.drewN_drewN _ _ _)⟩))|fail);go_wp2_with fail;go_ret
     refine⟨?_,_,rfl⟩;show Ending.returned (.string ((⟨(Lib.itoa ((q:Int))).toArray⟩:ByteArray)++(⟨#[48,49,50,51,52,53,54,55,56,57]⟩:ByteArray).extract d (d+1)))=.returned (.string ⟨(Lib.itoa ((m:Int))).toArray⟩);rw[HE.out.2,GX,HE.out.1];simp
def vA(f:Nat->Int)(a:Nat):Rw:=⟨f a,f (a+1),f (a+2),f (a+3)⟩
def fC(x:aH)(s:PS av)(v:Int):PS av×Int:=({s with bj:=ko s.bj x.a.toNat v},0)
def fk(s:PS av)(p:List Cl×Int)(f:PS av->PS av×Int):PS av×Int:=
 if p.2=0 then f {s with cl:=p.1}else({s with cl:=p.1},p.2)
def C4(ok:Cl->Bool)(x:aH)(s:PS av):PS av×Int:=
 fk s (aP ok s.cl [fK (s.bj x.b.toNat)]) fun t=>fC x t (match au (Lib.itoa (s.bj x.b.toNat)) t.rows with
  |some r=>aR (r.aK x.c.toNat)
  |none=>0)
def yE(most:Int)(ok:Cl->Bool)(x:aH)(s:PS av):PS av×Int:=
 let k:=Lib.itoa (s.bj x.b.toNat)
 let r:=vA s.bj x.a.toNat
 fk s (aP ok s.cl (fx k (au k s.rows) (some r))) fun t=>if au k t.rows=none/\most<=(t.rows.length:Int)then(t,16)else({t with rows:=bE (k,r) t.rows},0)
def yF(ok:Cl->Bool)(x:aH)(s:PS av):PS av×Int:=
 let k:=Lib.itoa (s.bj x.b.toNat)
 fk s (aP ok s.cl (fx k (au k s.rows) none)) fun t=>({t with rows:=fp k t.rows},0)
def Jn(k:List UInt8):Int:=(ib k).getD (-1)
def vB(ok:Cl->Bool)(x:aH)(s:PS av):PS av×Int:=
 let v:=s.bj x.b.toNat
 fk s (aP ok s.cl [⟨false,x.c,[],v,v⟩]) fun t=>fC x t (match(cJ x.c.toNat v v t.rows).head? with
  |some k=>Jn k
  |none=> -1)
def qG(ok:Cl->Bool)(x:aH)(s:PS av):PS av×Int:=
 let lo:=s.bj x.b.toNat
 let hi:=aR (lo+x.n)
 fk s (aP ok s.cl [⟨false,x.c,[],lo,hi⟩]) fun t=>fC x t (min (cJ x.c.toNat lo hi t.rows).length 16:Nat)
def pK(most:Int)(ok:Cl->Bool)(x:aH)(s:PS av):PS av×Int:=
 match x.d.toNat with
 |1=>fC x s x.c
 |2=>fC x s (s.bj x.b.toNat)
 |3=>fC x s (aR (s.bj x.a.toNat+s.bj x.b.toNat))
 |4=>fC x s (aR (s.bj x.a.toNat-s.bj x.b.toNat))
 |5=>fC x s (aR (s.bj x.a.toNat*s.bj x.b.toNat))
 |6=>fC x s (if s.bj x.a.toNat<s.bj x.b.toNat then 1 else 0)
 |7=>jg ok (fun l k=>au k l) x s
 |8=>C4 ok x s
 |9=>yE most ok x s
 |10=>yF ok x s
 |11=>vB ok x s
 |12=>qG ok x s
 |13=>({s with pc:=if s.bj x.a.toNat=0 then s.pc+x.n else s.pc},0)
 |_=>({s with value:=s.bj x.a.toNat},19)
section
variable{R:Type}
def loopGo(fuel:Int)(blk:PS R->PS R×Int):Nat->PS R->PS R×Int
 |0,s=>(s,0)
 |k+1,s=>
  if fuel<=s.steps then(s,20)
  else
   let p:=blk {s with steps:=s.steps+1}
   if p.2=0 then loopGo fuel blk k p.1 else p
def gK(fuel:Int)(ops:List aH)(act:aH->PS R->PS R×Int)(x:aH)(s:PS R):PS R×Int:=
 let p:=loopGo fuel (fun t=>bg fuel ops act (s.pc+x.n) x.n.toNat {t with pc:=s.pc}) x.c.toNat s
 if p.2=0 then({p.1 with pc:=s.pc+x.n},0)else p
end
def kv(most fuel:Int)(ok:Cl->Bool)(ops:List aH):Nat->aH->PS av->PS av×Int
 |0=>pK most ok
 |d+1=>fun x s=>if x.d=14 then gK fuel ops (kv most fuel ok ops d) x s else pK most ok x s
def pL(most fuel:Int)(ok:Cl->Bool)(ops:List aH)(args:List Int)(rows:av):PS av×Int:=
 bg fuel ops (kv most fuel ok ops ops.length) ops.length ops.length (gj args rows)
def My(q:List UInt8×Rw):Prop:=(∃n,aI n/\q.1=Lib.itoa n)/\ ∀c,aI (q.2.aK c)
def dF(l:av):Prop:=ez l/\ ∀q∈l,My q
theorem dF.fit{l:av}(h:dF l):RowsFit l:=fun q hq c=>by
 have:=(h.2 q hq).2 c;unfold aI at this;exact⟨by omega,by omega⟩
theorem dF.ins{l:av}{q:List UInt8×Rw}(h:dF l)(hq:My q):dF (bE q l):=
 ⟨dR h.1,fun p hp=>(gw hp).elim (fun e=>by subst e;exact hq) (h.2 p)⟩
theorem dF.del{l:av}{k:List UInt8}(h:dF l):dF (fp k l):=⟨fX h.1,fun p hp=>h.2 p (mU hp)⟩
theorem Jo{f:Nat->Int}(h: ∀i,aI (f i))(a c:Nat):aI ((vA f a).aK c):=by
 match c with
 |0=>exact h _
 |1=>exact h _
 |2=>exact h _
 |_+3=>exact h _
theorem oz{n:Int}(h:aI n):Jn (Lib.itoa n)=n:=by unfold Jn;rw[DI.2 ⟨rfl,by unfold aI at h;unfold DG;omega⟩];rfl
theorem dF.num{l:av}(h:dF l){c:Nat}{lo hi:Int}{k:List UInt8}(hk:(cJ c lo hi l).head?=some k):aI (Jn k):=by obtain⟨r,hr,_⟩:=(jz h.1 h.fit).1 (List.mem_of_head? hk);obtain⟨⟨n,hn,e⟩,_⟩:=h.2 _ hr;simp only at e;rw[e,oz hn];exact hn
section
variable{R:Type}
def Ext(s t:PS R):Prop:=s.steps<=t.steps/\s.cl<+:t.cl
theorem Ext.refl(s:PS R):Ext s s:=⟨eE _,eM _⟩
theorem Ext.trans{s t u:PS R}(h:Ext s t)(h':Ext t u):Ext s u:=⟨Int.le_trans h.1 h'.1,h.2.trans h'.2⟩
structure Fair (f:Int) (act:aH->PS R->PS R×Int):Prop where
 grow: ∀x s,Ext s (act x s).1
 most: ∀x s,s.steps<=f->(act x s).1.steps<=f
 JW: ∀x s,(act x s).2=20->f<=(act x s).1.steps
 value: ∀x s,(act x s).2≠19->(act x s).1.value=s.value
structure fo (f:Int) (s:PS R) (p:PS R×Int):Prop where
 grow:Ext s p.1
 most:s.steps<=f->p.1.steps<=f
 JW:p.2=20->f<=p.1.steps
 value:p.2≠19->p.1.value=s.value
theorem fo.self{f:Int}(s:PS R):fo f s (s,0):=⟨Ext.refl _,id,fun h=>(by cases h),fun _=>rfl⟩
theorem Fair.at_{f:Int}{act:aH->PS R->PS R×Int}(h:Fair f act)(x:aH)(s:PS R):fo f s (act x s):=⟨h.grow x s,h.most x s,h.JW x s,h.value x s⟩
theorem fo.GY{f:Int}{s t:PS R}{p:PS R×Int}(he:Ext s t)(hm:s.steps<=f->t.steps<=f)(hv:t.value=s.value)(h:fo f t p):fo f s p:=
 ⟨he.trans h.grow,fun k=>h.most (hm k),h.JW,fun k=>(h.value k).trans hv⟩
theorem iw{f tt:Int}{ops:List aH}{act:aH->PS R->PS R×Int}(h:Fair f act): ∀(g:Nat) (s:PS R),fo f s (bg f ops act tt g s)
 |0,s=>fo.self s
 |g+1,s=>by
  rw[bg];split
  ·split
   ·rename_i hd;exact⟨Ext.refl _,id,fun _=>hd,fun _=>rfl⟩
   ·rename_i hd;split
    ·exact fo.self s
    ·rename_i x hx;have h0:=h.at_ x {s with steps:=s.steps+1,pc:=s.pc+1};have h1:fo f s (act x {s with steps:=s.steps+1,pc:=s.pc+1}):=fo.GY (t:={s with steps:=s.steps+1,pc:=s.pc+1}) ⟨by show s.steps<=s.steps+1;omega,eM _⟩ (fun _=>by show s.steps+1<=f;omega) rfl h0;simp only;split
     ·rename_i e;exact(iw h g _).GY h1.grow h1.most (h1.value (by rw[e];decide))
     ·exact h1
  ·exact fo.self s
theorem oC{f:Int}{blk:PS R->PS R×Int}(h: ∀s,fo f s (blk s)): ∀(k:Nat) (s:PS R),fo f s (loopGo f blk k s)
 |0,s=>fo.self s
 |k+1,s=>by
  rw[loopGo];split
  ·rename_i hd;exact⟨Ext.refl _,id,fun _=>hd,fun _=>rfl⟩
  ·rename_i hd;have h1:fo f s (blk {s with steps:=s.steps+1}):=fo.GY (t:={s with steps:=s.steps+1}) ⟨by show s.steps<=s.steps+1;omega,eM _⟩ (fun _=>by show s.steps+1<=f;omega) rfl (h {s with steps:=s.steps+1});simp only;split
   ·rename_i e;exact(oC h k _).GY h1.grow h1.most (h1.value (by rw[e];decide))
   ·exact h1
def gL(p q:PS R×Int):Prop:=(p.2≠20->q=p)/\(p.2=20->Ext p.1 q.1)
theorem gL.refl(p:PS R×Int):gL p p:=⟨fun _=>rfl,fun _=>Ext.refl _⟩
theorem pM{f F tt:Int}{ops:List aH}{a b:aH->PS R->PS R×Int}(hf:f<=F)(hb:Fair F b)(h: ∀x s,gL (a x s) (b x s)): ∀(g:Nat) (s:PS R),gL (bg f ops a tt g s) (bg F ops b tt g s)
 |0,s=>gL.refl _
 |g+1,s=>by
  by_cases h1:s.pc<tt
  ·by_cases h2:f<=s.steps
   ·rw[pI h1 h2];exact⟨fun k=>absurd rfl k,fun _=>(iw hb (g+1) s).grow⟩
   ·have h3: ¬F<=s.steps:=by omega
    rw[bg,bg,fi h1,fi h1,ff h2,ff h3]
    cases hx:ops[s.pc.toNat]? with
    |none=>exact gL.refl _
    |some x=>
     have hm:=h x {s with steps:=s.steps+1,pc:=s.pc+1};simp only;by_cases h4:(a x {s with steps:=s.steps+1,pc:=s.pc+1}).2=20
     ·have hg:=hm.2 h4;rw[ff (by rw[h4];decide)];refine⟨fun k=>absurd h4 k,fun _=>hg.trans ?_⟩;split
      ·exact(iw hb g _).grow
      ·exact Ext.refl _
     ·rw[hm.1 h4];split
      ·exact pM hf hb h g _
      ·exact gL.refl _
  ·rw[mC (by omega),mC (by omega)];exact gL.refl _
theorem yG{f F:Int}{a b:PS R->PS R×Int}(hf:f<=F)(hb: ∀s,fo F s (b s))(h: ∀s,gL (a s) (b s)): ∀(k:Nat) (s:PS R),gL (loopGo f a k s) (loopGo F b k s)
 |0,s=>gL.refl _
 |k+1,s=>by
  by_cases h2:f<=s.steps
  ·rw[loopGo,fi h2];exact⟨fun k=>absurd rfl k,fun _=>(oC hb (k+1) s).grow⟩
  ·have h3: ¬F<=s.steps:=by omega
   rw[loopGo,loopGo,ff h2,ff h3];have hm:=h {s with steps:=s.steps+1};simp only;by_cases h4:(a {s with steps:=s.steps+1}).2=20
   ·have hg:=hm.2 h4;rw[ff (by rw[h4];decide)];refine⟨fun k=>absurd h4 k,fun _=>hg.trans ?_⟩;split
    ·exact(oC hb k _).grow
    ·exact Ext.refl _
   ·rw[hm.1 h4];split
    ·exact yG hf hb h k _
    ·exact gL.refl _
theorem vC{f:Int}{s:PS R}{n:Int}{p:PS R×Int}(h:fo f {s with pc:=n} p):fo f s p:=⟨h.grow,h.most,h.JW,h.value⟩
theorem C5{f:Int}{ops:List aH}{act:aH->PS R->PS R×Int}(h:Fair f act)(x:aH)(s:PS R):fo f s (gK f ops act x s):=by
 have h1:=oC (f:=f) (blk:=fun t=>bg f ops act (s.pc+x.n) x.n.toNat {t with pc:=s.pc}) (fun t=>vC (iw h _ _)) x.c.toNat s;unfold gK;simp only;split
 ·rename_i e;exact⟨h1.grow,h1.most,fun h=>(by cases h),fun _=>h1.value (by rw[e];decide)⟩
 ·exact h1
theorem C6{f F:Int}{ops:List aH}{a b:aH->PS R->PS R×Int}(hf:f<=F)(hb:Fair F b)(h: ∀x s,gL (a x s) (b x s))(x:aH)(s:PS R):gL (gK f ops a x s) (gK F ops b x s):=by
 have h1:=yG (f:=f) (F:=F) (a:=fun t=>bg f ops a (s.pc+x.n) x.n.toNat {t with pc:=s.pc}) (b:=fun t=>bg F ops b (s.pc+x.n) x.n.toNat {t with pc:=s.pc}) hf
  (fun t=>vC (iw hb _ _)) (fun t=>pM hf hb h _ _) x.c.toNat s
 unfold gK;simp only;generalize loopGo f _ x.c.toNat s=p at h1⊢;generalize loopGo F _ x.c.toNat s=q at h1⊢;by_cases h4:p.2=20
 ·have hg:=h1.2 h4;rw[ff (show ¬p.2=0 by rw[h4];decide)];refine⟨fun k=>absurd h4 k,fun _=>?_⟩;split
  ·exact hg
  ·exact hg
 ·rw[h1.1 h4];exact gL.refl _
end
theorem nD(ok:Cl->Bool): ∀(l cl:List Cl),cl<+:(aP ok cl l).1
 |[],cl=>eM _
 |c::l,cl=>by
  rw[aP];split
  ·exact eM _
  ·split
   ·exact(List.prefix_append cl [c]).trans (nD ok l _)
   ·exact eM _
theorem nE(ok:Cl->Bool): ∀(l cl:List Cl),(aP ok cl l).2=0\/(aP ok cl l).2=21\/(aP ok cl l).2=23
 |[],cl=>.inl rfl
 |c::l,cl=>by
  rw[aP];split
  ·exact .inr (.inr rfl)
  ·split
   ·exact nE ok l _
   ·exact .inr (.inl rfl)
structure Base (s:PS av) (p:PS av×Int):Prop where
 steps:p.1.steps=s.steps
 cl:s.cl<+:p.1.cl
 JW:p.2≠20
 value:p.2≠19->p.1.value=s.value
theorem Base.fair{s:PS av}{p:PS av×Int}(h:Base s p)(f:Int):fo f s p:=⟨⟨by rw[h.steps];exact eE _,h.cl⟩,fun k=>by rw[h.steps];exact k,fun k=>absurd k h.JW,h.value⟩
theorem eG(x:aH)(s:PS av)(v:Int):Base s (fC x s v):=⟨rfl,eM _,by show(0:Int)≠20;decide,fun _=>rfl⟩
theorem gM(ok:Cl->Bool)(s:PS av)(l:List Cl)(f:PS av->PS av×Int)(hf: ∀t,Base t (f t)):Base s (fk s (aP ok s.cl l) f):=by
 have h1:=nD ok l s.cl;have h2:=nE ok l s.cl;unfold fk;split
 ·have h:=hf {s with cl:=(aP ok s.cl l).1};exact⟨h.steps,h1.trans h.cl,h.JW,h.value⟩
 ·exact⟨rfl,h1,by show(aP ok s.cl l).2≠20;omega,fun _=>rfl⟩
theorem jC(most:Int)(ok:Cl->Bool)(x:aH)(s:PS av):Base s (pK most ok x s):=by
 unfold pK;split
 ·exact eG _ _ _
 ·exact eG _ _ _
 ·exact eG _ _ _
 ·exact eG _ _ _
 ·exact eG _ _ _
 ·exact eG _ _ _
 ·unfold jg rowP;have h1:=nD ok [fK (s.bj x.b.toNat)] s.cl;have h2:=nE ok [fK (s.bj x.b.toNat)] s.cl;simp only;split
  ·exact⟨rfl,h1,by show(0:Int)≠20;decide,fun _=>rfl⟩
  ·exact⟨rfl,h1,by show(aP ok s.cl _).2≠20;omega,fun _=>rfl⟩
 ·exact gM _ _ _ _ fun t=>eG _ _ _
 ·unfold yE;refine gM _ _ _ _ fun t=>?_;split
  ·exact⟨rfl,eM _,by show(16:Int)≠20;decide,fun _=>rfl⟩
  ·exact⟨rfl,eM _,by show(0:Int)≠20;decide,fun _=>rfl⟩
 ·unfold yF;exact gM _ _ _ _ fun t=>⟨rfl,eM _,by show(0:Int)≠20;decide,fun _=>rfl⟩
 ·exact gM _ _ _ _ fun t=>eG _ _ _
 ·exact gM _ _ _ _ fun t=>eG _ _ _
 ·exact⟨rfl,eM _,by show(0:Int)≠20;decide,fun _=>rfl⟩
 ·exact⟨rfl,eM _,by show(19:Int)≠20;decide,fun h=>absurd rfl h⟩
theorem oD(most f:Int)(ok:Cl->Bool)(ops:List aH): ∀d,Fair f (kv most f ok ops d)
 |0=>⟨fun x s=>((jC most ok x s).fair f).grow,fun x s=>((jC most ok x s).fair f).most,fun x s=>((jC most ok x s).fair f).JW,fun x s=>((jC most ok x s).fair f).value⟩
 |d+1=>by
  have h: ∀x s,fo f s (kv most f ok ops (d+1) x s):=fun x s=>by
   rw[kv];simp only;split
   ·exact C5 (oD most f ok ops d) x s
   ·exact(jC most ok x s).fair f
  exact⟨fun x s=>(h x s).grow,fun x s=>(h x s).most,fun x s=>(h x s).JW,fun x s=>(h x s).value⟩
theorem yH(most:Int){f F:Int}(hf:f<=F)(ok:Cl->Bool)(ops:List aH): ∀d x s,gL (kv most f ok ops d x s) (kv most F ok ops d x s)
 |0,x,s=>gL.refl _
 |d+1,x,s=>by
  rw[kv,kv];simp only;split
  ·exact C6 hf (oD most F ok ops d) (fun x s=>yH most hf ok ops d x s) x s
  ·exact gL.refl _
theorem Jp(most:Int){f F:Int}(hf:f<=F)(ok:Cl->Bool)(ops:List aH)(args:List Int)(rows:av):gL (pL most f ok ops args rows) (pL most F ok ops args rows):=
 pM hf (oD most F ok ops _) (fun x s=>yH most hf ok ops _ x s) _ _
theorem yI(most f:Int)(ok:Cl->Bool)(ops:List aH)(args:List Int)(rows:av):fo f (gj args rows) (pL most f ok ops args rows):=iw (oD most f ok ops _) _ _
theorem oF{l:List aH}(h:opsE l=0):l.length<=64/\(∀o∈l,bD o=true)/\(∀o∈l,cA o=true)/\gz l=true:=by
 unfold opsE at h;split at h
 ·cases h
 ·rename_i h1;split at h
  ·cases h
  ·rename_i h2;split at h
   ·cases h
   ·rename_i h3;split at h
    ·cases h
    ·rename_i h4;simp only[Bool.not_eq_false]at h2 h3 h4;exact⟨by omega,List.all_eq_true.1 h2,List.all_eq_true.1 h3,h4⟩
theorem iy{o:aH}(h:cA o=true){i:Nat}(hi:i<4)(hf:iU o.d i=true):AA o.d i<=o.mP i/\o.mP i<=xN o.d i:=by unfold cA at h;have:=List.all_eq_true.1 h i (List.mem_range.2 hi);rw[hf]at this;simpa using this
theorem Mz{o:aH}(h:bD o=true):1<=o.d/\o.d<=15:=by unfold bD at h;rw[mT]at h;exact of_decide_eq_true h.1
def nG(ops:List aH):Prop:= ∀(i:Nat) (o:aH),ops[i]?=some o->o.holds=true->0<=o.n/\i+1+o.n.toNat<=ops.length/\ ∀(j:Nat) (o':aH),i<j->j<i+1+o.n.toNat->ops[j]?=some o'->o'.holds=true->j+1+o'.n.toNat<=i+1+o.n.toNat
def fN(ops:List aH)(fr tt:Nat):Prop:= ∀(j:Nat) (o:aH),fr<=j->j<tt->ops[j]?=some o->o.holds=true->j+1+o.n.toNat<=tt
theorem fN.sub{ops:List aH}{fr fr' tt:Nat}(h:fN ops fr tt)(hf:fr<=fr'):fN ops fr' tt:=fun j o hj=>h j o (de hf hj)
theorem nG.body{ops:List aH}(h:nG ops){i:Nat}{o:aH}(ho:ops[i]?=some o)(hh:o.holds=true):fN ops (i+1) (i+1+o.n.toNat):=fun j o' hj=>(h i o ho hh).2.2 j o' hj
theorem nG.whole{ops:List aH}(h:nG ops):fN ops 0 ops.length:=fun j o _ _ ho hh=>(h j o ho hh).2.1
theorem Jq{len:Nat}{es:List Int}(h:es.Pairwise fun a b=>a≥b)(hl: ∀e∈es,e<=(len:Int)):(∀e∈es,jJ len es<=e)/\jJ len es<=(len:Int):=by
 unfold jJ
 cases hz:es.getLast? with
 |none=>rw[List.getLast?_eq_none_iff]at hz;subst hz;exact⟨fun e he=>by simp at he,eE _⟩
 |some z=>
  obtain⟨ys,rfl⟩:=List.getLast?_eq_some_iff.1 hz;rw[List.pairwise_append]at h;refine⟨fun e he=>?_,hl z (by simp)⟩;rcases dy.1 he with he|he
  ·exact h.2.2 e he z (by simp)
  ·rw[fl]at he;rw[he];exact eE _
theorem Jr{l:List aH}{i j:Nat}{o:aH}(ho:l[i]?=some o)(hh:o.holds=true)(hij:i<j)(hj:(j:Int)<cj i o):cj i o∈opens l j:=by unfold opens;rw[List.mem_map];refine⟨(o,i),List.mem_filter.2 ⟨?_,by simp[hh,hj]⟩,rfl⟩;rw[List.mem_zipIdx_iff_getElem?];simp only;rw[lz,fi hij];exact ho
theorem qH{l:List aH}(h:opsE l=0):nG l:=by
 obtain⟨_,_,hr,hn⟩:=oF h
 have hn0: ∀(i:Nat) (o:aH),l[i]?=some o->o.holds=true->0<=o.n:=by
  intro i o ho hh
  have h3:iU o.d 3=true:=by unfold aH.holds at hh;simp only[Bool.or_eq_true,beq_iff_eq]at hh;rcases hh with e|e<;>rw[e]<;>decide
  have:=(iy (hr o (dd ho)) (i:=3) (by decide) h3).1;have h4:AA o.d 3=0:=by unfold AA;rw[ff (by omega)]
  rw[h4]at this;exact this
 have MA: ∀(i:Nat) (o:aH),l[i]?=some o->o.holds=true->(∀e∈opens l i,cj i o<=e)/\cj i o<=(l.length:Int):=by
  intro i o ho hh;have hlt:=(b8.1 ho).1;have h1:=dO (k:=i+1) hn (by omega);rw[bH ho,mT]at h1;obtain⟨h2,h3⟩:=tX i (by omega) h1.1;have h4:=Jq h2 (fun e he=>(h3 e he).2);have h5:=h1.2;unfold dE at h5;rw[mT,Bool.or_eq_true,hh]at h5
  have h6:cj i o<=jJ l.length (opens l i):=by
   rcases h5.2 with h6|h6
   ·simp at h6
   ·exact of_decide_eq_true h6
  exact⟨fun e he=>Int.le_trans h6 (h4.1 e he),Int.le_trans h6 h4.2⟩
 intro i o ho hh;have h0:=hn0 i o ho hh;have h1:=MA i o ho hh;unfold cj at h1;refine⟨h0,by omega,fun j o' hij hj ho' hh'=>?_⟩;have h2:=(MA j o' ho' hh').1 (cj i o) (Jr ho hh hij (by unfold cj;omega));have h3:=hn0 j o' ho' hh';unfold cj at h2;omega
def qI(ops:List aH):Nat->Nat->Nat->Nat
 |0,_,_=>0
 |g+1,fr,tt=>
  if fr<tt then
   match ops[fr]? with
   |none=>0
   |some x=>if x.d=14 then 1+x.c.toNat*(1+qI ops g (fr+1) (fr+1+x.n.toNat))+qI ops g (fr+1+x.n.toNat) tt else 1+qI ops g (fr+1) tt
  else 0
def lj(ops:List aH)(fr tt:Nat):Nat:=qI ops (tt-fr) fr tt
theorem eH{x:aH}(h:x.d=14):x.holds=true:=by unfold aH.holds;rw[h];rfl
theorem vD{x:aH}(h:x.d=13):x.holds=true:=by unfold aH.holds;rw[h];rfl
section
variable{ops:List aH}
theorem nH(hn:nG ops): ∀(g g' fr tt:Nat),fN ops fr tt->tt-fr<=g->tt-fr<=g'->qI ops g fr tt=qI ops g' fr tt
 |0,0,_,_,_,_,_=>rfl
 |0,g'+1,fr,tt,_,h,_=>by rw[qI,qI,ff (by omega)]
 |g+1,0,fr,tt,_,_,h=>by rw[qI,qI,ff (by omega)]
 |g+1,g'+1,fr,tt,hc,h,h'=>by
  rw[qI,qI];split
  ·rename_i hlt
   cases hx:ops[fr]? with
   |none=>rfl
   |some x=>
    simp only;split
    ·rename_i hd;have he:=hc fr x (aq _) hlt hx (eH hd);rw[nH hn g g' (fr+1) (fr+1+x.n.toNat) (hn.body hx (eH hd)) (by omega) (by omega),nH hn g g' (fr+1+x.n.toNat) tt (hc.sub (by omega)) (by omega) (by omega)]
    ·rw[nH hn g g' (fr+1) tt (hc.sub (by omega)) (by omega) (by omega)]
  ·rfl
theorem nI(hn:nG ops){fr tt:Nat}{x:aH}(hc:fN ops fr tt)(hlt:fr<tt)(hx:ops[fr]?=some x)(hd:x.d=14):lj ops fr tt=1+x.c.toNat*(1+lj ops (fr+1) (fr+1+x.n.toNat))+lj ops (fr+1+x.n.toNat) tt:=by have he:=hc fr x (aq _) hlt hx (eH hd);unfold lj;obtain⟨g,hg⟩: ∃g,tt-fr=g+1:=⟨tt-fr-1,by omega⟩;rw[hg,qI,fi hlt,hx];simp only;rw[fi hd,nH hn g (fr+1+x.n.toNat-(fr+1)) (fr+1) _ (hn.body hx (eH hd)) (by omega) (by omega),nH hn g (tt-(fr+1+x.n.toNat)) (fr+1+x.n.toNat) tt (hc.sub (by omega)) (by omega) (by omega)]
theorem oH(_hn:nG ops){fr tt:Nat}{x:aH}(_hc:fN ops fr tt)(hlt:fr<tt)(hx:ops[fr]?=some x)(hd:x.d≠14):lj ops fr tt=1+lj ops (fr+1) tt:=by unfold lj;obtain⟨g,hg⟩: ∃g,tt-fr=g+1:=⟨tt-fr-1,by omega⟩;rw[hg,qI,fi hlt,hx];simp only;rw[ff hd,show tt-(fr+1)=g by omega]
theorem Ai{fr tt:Nat}(h:tt<=fr):lj ops fr tt=0:=by unfold lj;rw[show tt-fr=0 by omega];rfl
theorem Aj(hn:nG ops)(hl: ∀m:Nat,m<ops.length-> ∃x,ops[m]?=some x): ∀(g fr m tt:Nat),m-fr<=g->fr<=m->m<=tt->tt<=ops.length->fN ops fr m->fN ops fr tt->lj ops fr tt=lj ops fr m+lj ops m tt
 |0,fr,m,tt,hg,hf,_,_,_,_=>by
  obtain rfl:fr=m:=by omega
  rw[Ai (Nat.le_refl _),gn]
 |g+1,fr,m,tt,hg,hf,hm,hlen,hc,hc'=>by
  by_cases e:fr=m
  ·subst e;rw[Ai (Nat.le_refl _),gn]
  ·obtain⟨x,hx⟩:=hl fr (by omega);by_cases hd:x.d=14
   ·have he:=hc fr x (aq _) (by omega) hx (eH hd);rw[nI hn hc' (by omega) hx hd,nI hn hc (by omega) hx hd,Aj hn hl g (fr+1+x.n.toNat) m tt (by omega) (by omega) hm hlen (hc.sub (by omega)) (hc'.sub (by omega))];omega
   ·rw[oH hn hc' (by omega) hx hd,oH hn hc (by omega) hx hd,Aj hn hl g (fr+1) m tt (by omega) (by omega) hm hlen (hc.sub (by omega)) (hc'.sub (by omega))];omega
end
section
variable{R:Type}
def pN(p:PS R×Int):Int:=if p.2=20 then 1 else 0
def QZ(ops:List aH)(act:aH->PS R->PS R×Int)(i:Nat)(x:aH):Prop:=
 ∀s:PS R,s.pc=(i:Int)+1->(act x s).1.steps+pN (act x s)<=s.steps+(if x.d=14 then x.c.toNat*(1+lj ops (i+1) (i+1+x.n.toNat))else 0:Nat)/\
  ((act x s).2=0->(x.d≠14/\(act x s).1.pc=(i:Int)+1)\/(x.holds=true/\(act x s).1.pc=((i+1+x.n.toNat:Nat):Int)))
theorem rK{ops:List aH}(hn:nG ops){f:Int}{act:aH->PS R->PS R×Int}{fr tt:Nat}(hc:fN ops fr tt)(ht:tt<=ops.length)(h: ∀(i:Nat) (x:aH),fr<=i->i<tt->ops[i]?=some x->QZ ops act i x):
  ∀(g m:Nat) (s:PS R),s.pc=(m:Int)->fr<=m->(bg f ops act tt g s).1.steps+pN (bg f ops act tt g s)<=s.steps+(lj ops m tt:Nat)
 |0,m,s,_,_=>by show s.steps+0<=_;omega
 |g+1,m,s,hpc,hm=>by
  by_cases h1:s.pc<tt
  ·obtain⟨x,hx⟩: ∃x,ops[m]?=some x:=⟨_,ao (by omega)⟩;have WA:ops[s.pc.toNat]?=some x:=by rw[hpc];simpa using hx
   have S4:m<tt:=by omega
   have hcm:=hc.sub hm
   have hpos:1+(if x.d=14 then x.c.toNat*(1+lj ops (m+1) (m+1+x.n.toNat))else 0)<=lj ops m tt:=by
    by_cases hd:x.d=14
    ·rw[fi hd,nI hn hcm S4 hx hd];omega
    ·rw[ff hd,oH hn hcm S4 hx hd];omega
   by_cases h2:f<=s.steps
   ·rw[pI h1 h2];show s.steps+1<=_;omega
   ·have hs:=h m x hm S4 hx {s with steps:=s.steps+1,pc:=s.pc+1} (by show s.pc+1=_;rw[hpc]);rw[bg,fi h1,ff h2,WA];simp only;generalize hp:act x {s with steps:=s.steps+1,pc:=s.pc+1}=p at hs⊢;obtain⟨hs1,hs2⟩:=hs;simp only at hs1;by_cases h3:p.2=0
    ·rw[fi h3];have hdr:pN p=0:=by unfold pN;rw[h3];rfl
     rw[hdr]at hs1
     have WM: ∃m':Nat,p.1.pc=(m':Int)/\fr<=m'/\1+(if x.d=14 then x.c.toNat*(1+lj ops (m+1) (m+1+x.n.toNat))else 0)+lj ops m' tt<=lj ops m tt:=by
      rcases hs2 h3 with⟨hd,e⟩|⟨hh,e⟩
      ·refine⟨m+1,by rw[e];simp,by omega,?_⟩;rw[ff hd,oH hn hcm S4 hx hd];omega
      ·have he:=hcm m x (aq _) S4 hx hh;refine⟨m+1+x.n.toNat,e,by omega,?_⟩;by_cases hd:x.d=14
       ·rw[fi hd,nI hn hcm S4 hx hd];omega
       ·rw[ff hd,oH hn hcm S4 hx hd];rw[Aj hn (fun q hq=>⟨_,List.getElem?_eq_getElem hq⟩) x.n.toNat (m+1) (m+1+x.n.toNat) tt (by omega) (by omega) he ht (hn.body hx hh) (hcm.sub (by omega))];omega
     obtain⟨m',e,hm',hb⟩:=WM;have ih:=rK (f:=f) hn hc ht h g m' p.1 e hm';omega
    ·rw[ff h3];omega
  ·rw[mC (by omega)];show s.steps+0<=_;omega
theorem C7{f:Int}{blk:PS R->PS R×Int}{B:Nat}(h: ∀s,(blk s).1.steps+pN (blk s)<=s.steps+(B:Int)): ∀(k:Nat) (s:PS R),(loopGo f blk k s).1.steps+pN (loopGo f blk k s)<=s.steps+((k*(1+B):Nat):Int)
 |0,s=>by show s.steps+0<=_;omega
 |k+1,s=>by
  rw[kh,loopGo];split
  ·show s.steps+1<=_;omega
  ·have h1:=h {s with steps:=s.steps+1};simp only at h1⊢;generalize blk {s with steps:=s.steps+1}=p at h1⊢;split
   ·rename_i e;have hdr:pN p=0:=by unfold pN;rw[e];rfl
    have ih:=C7 (f:=f) h k p.1;omega
   ·omega
end
theorem Js(ok:Cl->Bool)(get:av->List UInt8->Option Rw)(x:aH)(s:PS av):(jg ok get x s).1.pc=s.pc:=by unfold jg rowP;simp only;split<;>rfl
theorem kf(s:PS av)(p:List Cl×Int)(f:PS av->PS av×Int)(hf: ∀t,(f t).1.pc=t.pc):(fk s p f).1.pc=s.pc:=by
 unfold fk;split
 ·rw[hf]
 ·rfl
theorem GZ(most:Int)(ok:Cl->Bool)(x:aH)(s:PS av)(h:x.d.toNat≠13):(pK most ok x s).1.pc=s.pc:=by
 unfold pK;split
 ·rfl
 ·rfl
 ·rfl
 ·rfl
 ·rfl
 ·rfl
 ·exact Js _ _ _ _
 ·unfold C4;exact kf _ _ _ fun t=>rfl
 ·unfold yE;refine kf _ _ _ fun t=>?_;split<;>rfl
 ·unfold yF;exact kf _ _ _ fun t=>rfl
 ·unfold vB;exact kf _ _ _ fun t=>rfl
 ·unfold qG;exact kf _ _ _ fun t=>rfl
 ·rename_i e;exact absurd e h
 ·rfl
theorem C8{ops:List aH}(hn:nG ops)(hr: ∀o∈ops,cA o=true)(most f:Int)(ok:Cl->Bool): ∀(d fr tt:Nat),fN ops fr tt->tt<=ops.length->tt-fr<=d-> ∀(i:Nat) (x:aH),fr<=i->i<tt->ops[i]?=some x->QZ ops (kv most f ok ops d) i x
 |0,fr,tt,_,_,hd,i,x,h1,h2,_=>by omega
 |d+1,fr,tt,hc,ht,hd,i,x,h1,h2,hx=>by
  intro s hs;rw[kv];simp only;by_cases ni:x.d=14
  ·have hh:=eH ni;have he:=hc i x h1 h2 hx hh;have hn0:=(hn i x hx hh).1;rw[fi ni,fi ni]
   have hb: ∀t:PS av,(bg f ops (kv most f ok ops d) (s.pc+x.n) x.n.toNat {t with pc:=s.pc}).1.steps+pN (bg f ops (kv most f ok ops d) (s.pc+x.n) x.n.toNat {t with pc:=s.pc})<=t.steps+((lj ops (i+1) (i+1+x.n.toNat):Nat):Int):=by
    intro t;have e1:s.pc+x.n=((i+1+x.n.toNat:Nat):Int):=by omega
    rw[e1];exact rK hn (hn.body hx hh) (by omega) (C8 hn hr most f ok d (i+1) (i+1+x.n.toNat) (hn.body hx hh) (by omega) (by omega)) x.n.toNat (i+1) {t with pc:=s.pc} (by show s.pc=_;rw[hs];simp) (aq _)
   have hl:=C7 (f:=f) hb x.c.toNat s;unfold gK;simp only;split
   ·rename_i e;have hdr:pN (loopGo f (fun t=>bg f ops (kv most f ok ops d) (s.pc+x.n) x.n.toNat {t with pc:=s.pc}) x.c.toNat s)=0:=by unfold pN;rw[e];rfl
    rw[hdr]at hl;refine⟨?_,fun _=>.inr ⟨hh,by show s.pc+x.n=_;omega⟩⟩;show _+0<=_;exact hl
   ·rename_i e;exact⟨hl,fun e'=>absurd e' e⟩
  ·rw[ff ni,ff ni];have hb:=jC most ok x s;have hdr:pN (pK most ok x s)=0:=by unfold pN;rw[ff hb.JW]
   refine⟨by rw[hdr,hb.steps];omega,fun _=>?_⟩;by_cases qM:x.d.toNat=13
   ·have hh:x.holds=true:=vD (by omega);have hn0:=(hn i x hx hh).1
    have e:(pK most ok x s).1.pc=if s.bj x.a.toNat=0 then s.pc+x.n else s.pc:=by unfold pK;rw[qM];rfl
    rw[e];split
    ·exact .inr ⟨hh,by omega⟩
    ·exact .inl ⟨ni,hs⟩
   ·exact .inl ⟨ni,(GZ most ok x s qM).trans hs⟩
theorem C9{ops:List aH}(h:opsE ops=0)(most f:Int)(ok:Cl->Bool)(args:List Int)(rows:av):(pL most f ok ops args rows).1.steps+pN (pL most f ok ops args rows)<=((lj ops 0 ops.length:Nat):Int):=by have hn:=qH h;have:=rK hn (f:=f) (act:=kv most f ok ops ops.length) (fr:=0) hn.whole (aq _) (C8 hn (oF h).2.2.1 most f ok ops.length 0 ops.length hn.whole (aq _) (by omega)) ops.length 0 (gj args rows) rfl (aq _);rw[show(gj args rows).steps=0 from rfl]at this;unfold pL;omega
theorem PE(C b s R:Nat):min (s+1+C*(1+min b 10001)+R) 10001=min (s+(1+C*(1+b)+R)) 10001:=by
 have e: ∀P Q:Nat,(P=Q\/10001<=P/\10001<=Q)->min (s+1+P+R) 10001=min (s+(1+Q+R)) 10001:=fun P Q h=>by omega
 apply e;by_cases h:b<=10001
 ·rw[nf h];exact .inl rfl
 ·rw[Nat.min_eq_right (by omega)];rcases Nat.eq_zero_or_pos C with h0|h0
  ·subst h0;exact .inl (by simp)
  ·have h1:=Nat.le_mul_of_pos_left (1+10001) h0;have h2:=Nat.le_mul_of_pos_left (1+b) h0;exact .inr ⟨by omega,by omega⟩
theorem S5{C b:Nat}(h:C<=16):C*(1+min b 10001)<=160032:=by have h1:=Nat.mul_le_mul h (show 1+min b 10001<=10002 by omega);omega
theorem MB{w:World}{F:Nat->Prop}{b o L c:Nat}{l:List aH}(h:gP w F (.slice (some ⟨b,o,none⟩) L c) l){lo N:Nat}(hlo:lo+N<=L):gP w F (.slice (if c=lo then some ⟨b,o,none⟩else some ⟨b,o+lo*5,none⟩) N (c-lo)) ((l.take (lo+N)).drop lo):=by
 obtain⟨A',n',c',hv,hl,h1,h2,hx⟩:=h;injection hv with e1 e2 e3;subst e1 e2 e3;simp at hl;refine⟨_,_,_,rfl,by simp;omega,by omega,by omega,fun h0=>?_⟩;obtain⟨b',o',e,hF,hc⟩:=hx (by omega);injection e with e;injection e with e1 e2;subst e1 e2;refine⟨b,o+lo*5,by rw[ff (by omega)],hF,fun i x hi j u hj=>?_⟩
 have hi2:(l.map aH.cells)[lo+i]?=some x:=by
  rw[oe,lE,lz]at hi;split at hi
  ·rw[oe];exact hi
  ·simp at hi
 have:=hc (lo+i) x hi2 j u hj;rw[show o+lo*5+(i*5+j)=o+((lo+i)*5+j) by omega];exact this
theorem MC{ops:List aH}{fr tt lo N:Nat}(h:fr+lo+N<=tt):((((ops.take tt).drop fr).take (lo+N)).drop lo)=((ops.take (fr+lo+N)).drop (fr+lo)):=by
 apply List.ext_getElem?;intro i;simp only[lE,lz];rw[show fr+lo+i=fr+(lo+i) by omega];by_cases hi:i<N
 ·rw[fi (by omega),fi (by omega),fi (by omega)]
 ·rw[ff (by omega),ff (by omega)]
theorem WN{n:Nat}(h:n<=20000000):wrap64 ((n:Int)+1)=((n+1:Nat):Int):=by unfold wrap64;omega
theorem MD{s C q:Nat}(hs:s<=20000000)(hp:C*(1+q)<=160032):IntKind.i64.wrap (wrap64 ((s:Int)+1)+IntKind.i64.wrap ((C:Int)*(1+(q:Int))))=((s+1+C*(1+q):Nat):Int):=by
 have e:(C:Int)*(1+(q:Int))=((C*(1+q):Nat):Int):=by push_cast;rfl
 rw[e];generalize C*(1+q)=P at *;rw[fm,fm];unfold wrap64;omega
theorem wjn{j N:Nat}(h:j+N<=64):wrap64 ((j:Int)+(N:Int)+1)=((j+1+N:Nat):Int):=by unfold wrap64;omega
theorem ME{s j j' x:Nat}(hs:s<=160033*j)(hx:x<=160032)(hj:j+1<=j'):s+1+x<=160033*j':=by omega
theorem MF{s j:Nat}(hs:s<=160033*j)(hj:j<=64):s<=20000000:=by omega
def LtS(a b:Nat):Prop:=a<b
section
variable{w:World}{F:Nat->Prop}
def Z5(w:World)(_F:Nat->Prop)(ops:List aH)(fr tt:Nat)(wr:World)(sum at_:Value):Prop:=
 ∃(j s:Nat),fr+j<=tt/\at_=.int .i64 (j:Int)/\sum=.int .i64 (s:Int)/\s<=160033*j/\min (s+lj ops (fr+j) tt) 10001=min (lj ops fr tt) 10001/\Below w.heap.size w wr
theorem vE{ops:List aH}(he:opsE ops=0)(w:World)(v:Value)(fr tt:Nat)(hft:fr<=tt)(ht:tt<=ops.length)(hcl:fN ops fr tt)(hv:gP w F v ((ops.take tt).drop fr))
  (ih: ∀(w:World) (v:Value) (fr' PF:Nat),PF-fr'<tt-fr->fr'<=PF->PF<=ops.length->fN ops fr' PF->gP w F v ((ops.take PF).drop fr')->Calls Tryz.prog 54 #[v] w fun e w'=>e=.returned (.int .i64 ((min (lj ops fr' PF) 10001:Nat):Int))/\Below w.heap.size w w'):
  Calls Tryz.prog 54 #[v] w fun e w'=>e=.returned (.int .i64 ((min (lj ops fr tt) 10001:Nat):Int))/\Below w.heap.size w w':=by
  have Dt:=al ih;have hg:True:=trivial;obtain⟨hlen,hfo,Q3,-⟩:=oF he;have hn:=qH he;obtain⟨A,c,rfl,xz,hl2⟩:=hv.slice;have hll:((ops.take tt).drop fr).length=tt-fr:=by simp;omega
  rw[hll]at xz hv⊢;have HV:=al hv;have HC:=al (ab hlen (ab hfo (ab Q3 (ab hn (ab hft (ab ht (ab hcl (ab hg (ab xz hl2)))))))));obtain⟨L,hL⟩: ∃L,tt-fr=L:=⟨_,rfl⟩;rw[hL]at HV⊢;have HL:=al hL;clear hv hll xz hl2 hlen hfo Q3 hn hL;go_enter Tryz.func54,Tryz.ntmps54;go_wp2_with fail
  go_loopw [3,4] (fun sm at_ wr=>Z5 w F ops fr tt wr sm at_) (fun _ at_ _=>L-(intOf at_).toNat)
  case atStart=>exact⟨0,0,by omega,rfl,rfl,by omega,by simp,aw _ _⟩
  case round=>
   obtain⟨j,s,hj,rfl,rfl,hs,hm,hb⟩:=hrel
   rename World=>wr
   by_cases hlt:j<L
   ·have Jt:fr+j<tt:=by have:=HL.out;omega
    obtain⟨x,hx⟩: ∃x,ops[fr+j]?=some x:=⟨_,ao (by have:=HC.out.2.2.2.2.2.1;omega)⟩;have hxl:((ops.take tt).drop fr)[j]?=some x:=by rw[lE,lz,fi Jt];exact hx
    obtain⟨b,o,rfl,hF,d0,d1,d2,d3,d4⟩:=gP.at_ (cd.below HV.out hb) hxl;have Ma:=dd hx;have hr:=HC.out.2.2.1 x Ma;obtain⟨xd,xa,xb,xc,xn⟩:=x;simp only at d0 d1 d2 d3 d4;have i1:(0:Int)<=(j:Int):=by omega
    have i2:(j:Int)<(L:Int):=by omega
    have HS:=al (ab (show LtS j L from hlt) (ab hx (ab hr (ab hs (ab hm (ab hb Jt))))));clear hx hxl Ma hr hs hm hb hF Jt;by_cases hd:xd=14
    ·subst hd;obtain⟨hl,hx,hr,hs,hm,hb,Jt⟩:=HS.out;unfold LtS at hl;have hh:(aH.mk 14 xa xb xc xn).holds=true:=eH rfl;have hn0:=(HC.out.2.2.2.1 _ _ hx hh).1;have hend:=HC.out.2.2.2.2.2.2.1 _ _ (by omega) Jt hx hh;have hcr:=iy hr (i:=2) (by decide) rfl;have WO:0<=xc/\xc<=16:=hcr;obtain⟨N,hN⟩: ∃N:Nat,xn=(N:Int):=⟨xn.toNat,by simp only at hn0;omega⟩;obtain⟨C,hC⟩: ∃N:Nat,xc=(N:Int):=⟨xc.toNat,by omega⟩;subst hN hC;simp only[gx]at hend;have hlen:=HC.out.1;have Z6:=HL.out;have hht:=HC.out.2.2.2.2.2.1;have hcap:=HC.out.2.2.2.2.2.2.2.2.1;have w1:IntKind.i64.wrap ((j:Int)+1)=(j:Int)+1:=by rw[fm];omega
     have w2:IntKind.i64.wrap ((j:Int)+1+(N:Int))=(j:Int)+1+(N:Int):=by rw[fm];omega
     have w3:wrap64 ((s:Int)+1)=((s+1:Nat):Int):=by unfold wrap64;omega
     have q1:(0:Int)<=(j:Int)+1:=by omega
     have q2:(j:Int)+1<=(j:Int)+1+(N:Int):=by omega
     have q3:(j:Int)+1+(N:Int)<=(c:Int):=by rw[Z6]at hcap;omega
     have HT:=al (ab hend (ab (show C<=16 by omega) (ab hlen (ab Z6 hht))));clear hl hx hr hs hm hb Jt hh hn0 hend hcr WO hlen Z6 hht hcap;have cK:=af wr (.cells #[.int .i64 14,.int .i64 xa,.int .i64 xb,.int .i64 (C:Int),.int .i64 (N:Int)] 104);have kx:=an wr (.cells #[.int .i64 14,.int .i64 xa,.int .i64 xb,.int .i64 (C:Int),.int .i64 (N:Int)] 104);go_upto_region 8 with fail;generalize wr.alloc (.cells #[.int .i64 14,.int .i64 xa,.int .i64 xb,.int .i64 (C:Int),.int .i64 (N:Int)] 104)=w1 at cK kx⊢;obtain⟨V,hV⟩: ∃x,wr.heap.size=x:=⟨_,rfl⟩;rw[hV]at kx⊢;have z0:w1.cell? ⟨V,3,none⟩=some (.int .i64 (C:Int))/\w1.cell? ⟨V,4,none⟩=some (.int .i64 (N:Int)):=by simp[World.cell?,kx]
     have HX:=al (ab cK kx);have eN:((j:Int)+1+(N:Int)).toNat-(j+1)=N:=by omega
     obtain⟨q,hq⟩: ∃q,min (lj ops (fr+(j+1)) (fr+(j+1)+N)) 10001=q:=⟨_,rfl⟩
     have HB:=al (show ∀W,Below w1.heap.size w1 W->Calls Tryz.prog 54 #[.slice (if c=j+1 then some ⟨b,o,none⟩else some ⟨b,o+(j+1)*5,none⟩) N (c-(j+1))] W fun e w'=>e=.returned (.int .i64 (q:Int))/\Below W.heap.size W w' from fun W hW=>by
      rw[<-hq];have h1:=HT.out.1;have h2:=HL.out;have hx:=HS.out.2.1;refine Dt.out W _ (fr+(j+1)) (fr+(j+1)+N) (by omega) (by omega) (by omega) ?_ ?_
      ·have:=HC.out.2.2.2.1.body hx (eH rfl);simp only[gx]at this;exact this
      ·rw[<-MC (tt:=tt) (by omega)]
       exact MB (cd.below (cd.below (cd.below HV.out HS.out.2.2.2.2.2.1) cK) hW) (by omega))
     have hq9:q<=10001:=by rw[<-hq];exact Nat.min_le_right _ _
     have HQ:=al (ab hq hq9);have x1:IntKind.i64.wrap (1+(q:Int))=1+(q:Int):=by rw[fm];omega
     clear cK kx hV w3 hq hq9;refine pb (S:=(fun W=>Below w1.heap.size w1 W/\W.cell? ⟨V,3,none⟩=some (.int .i64 (C:Int))/\W.cell? ⟨V,4,none⟩=some (.int .i64 (N:Int)))) (by kernel_rfl) ⟨(aw _ _).drew,z0⟩ (fun pt=>?_);refine aM [0,1,2,3,4,5,6,7,8,9,10,11] ?_
     iterate 12 (refine bX (v:=?_) (fun wS hSw=>?_) pt ?_;rotate_left;(obtain⟨s0,s1,s2⟩:=hSw;go_simp;try with_reducible rfl);try simp only[ai,aj,ak,ar])
     refine aN ?_;refine aW 12 (fun K hK=>?_);go_simp;refine(HB.out _ pt.1).mono ?_;rintro e wn ⟨rfl,cD⟩
     try go_simp
     refine hK.out _ _ (pC pt cD) ?_;clear hK K pt cD;intro pt
     try simp only[ai,aj,ak,ar]
     refine aM [13,14,15,16] ?_
     iterate 4 (refine bX (v:=?_) (fun wS hSw=>?_) pt ?_;rotate_left;(obtain⟨s0,s1,s2⟩:=hSw;go_simp;try with_reducible rfl);try simp only[ai,aj,ak,ar])
     refine aN ?_;refine pf (by kernel_rfl) ?_ _;have XT:=al (HX.out.1.trans (pt.1.mono HX.out.1.size));obtain⟨-,-,z4⟩:=pt;clear z0;have X0:j<=64:=by have:=HC.out.1;have:=HL.out;have:=HC.out.2.2.2.2.2.1;omega
     have hP:C*(1+q)<=160032:=by have:=S5 (b:=lj ops (fr+(j+1)) (fr+(j+1)+N)) HT.out.2.1;rw[HQ.out.1]at this;exact this
     rw[MD (MF HS.out.2.2.2.1 X0) hP];obtain⟨S1,hS1⟩: ∃z,s+1+C*(1+q)=z:=⟨_,rfl⟩;rw[hS1];have WQ:=al (ab hS1 hP);have HJ:=al (show j+N<=64 from by have:=HT.out.1;have:=HT.out.2.2.1;have:=HC.out.2.2.2.2.2.1;omega);have w9:IntKind.i64.wrap ((j:Int)+(N:Int))=((j+N:Nat):Int):=by rw[fm];have:=HJ.out;omega
     clear hS1 hP q1 q2 q3 x1 eN X0;go_wp2_with fail;rw[wjn HJ.out];have hend:fr+(j+1+N)<=tt:=by have:=HT.out.1;omega
     have hj:j<L:=HS.out.1;have hLt:j+1+N<=L:=by have:=HL.out;omega
     have hb:=nI HC.out.2.2.2.1 (HC.out.2.2.2.2.2.2.1.sub (show fr<=fr+j by omega)) HS.out.2.2.2.2.2.2 HS.out.2.1 rfl;simp only[gx]at hb;refine⟨⟨j+1+N,S1,hend,rfl,rfl,by rw[<-WQ.out.1];exact ME HS.out.2.2.2.1 WQ.out.2 (by omega),?_,HS.out.2.2.2.2.2.1.trans (XT.out.mono HS.out.2.2.2.2.2.1.size)⟩,?_⟩
     ·rw[<-HS.out.2.2.2.2.1,hb,<-WQ.out.1,<-HQ.out.1,show fr+(j+1+N)=fr+j+1+N by omega];exact PE C _ s _
     ·simp only[intOf,gx];omega
    ·have HD:=al hd;go_wp2_with fail;have hl:j<L:=HS.out.1;have X0:j<=64:=by have:=HC.out.1;have:=HL.out;have:=HC.out.2.2.2.2.2.1;omega
     have cu:=MF HS.out.2.2.2.1 X0;have h1:=oH HC.out.2.2.2.1 (HC.out.2.2.2.2.2.2.1.sub (by omega)) HS.out.2.2.2.2.2.2 HS.out.2.1 HD.out;have h2:=HS.out.2.2.2.2.2.2;have h3:fr+(j+1)<=tt:=by omega
     have h4:=ME (x:=0) (j':=j+1) HS.out.2.2.2.1 (by omega) (aq _);rw[WN cu,WN (by omega)];refine⟨⟨j+1,s+1,h3,rfl,rfl,h4,?_,HS.out.2.2.2.2.2.1.trans ((af _ _).mono HS.out.2.2.2.2.2.1.size)⟩,?_⟩
     ·rw[<-HS.out.2.2.2.2.1,h1,show fr+(j+1)=fr+j+1 from rfl,gO]
     ·simp only[intOf,gx];omega
   ·have hjL:j=L:=by have:=HL.out;omega
    subst hjL;have HZ:=al (ab hm (ab hb hs));clear hm hb hs;go_wp2_with fail;go_ret
    have h1:=HZ.out.1;rw[Ai (show tt<=fr+j by have:=HL.out;omega)]at h1;refine⟨?_,HZ.out.2.1⟩;rw[<-h1];refine eL Ending.returned (eL (Value.int .i64) ?_);show min (s:Int) 10001=_;rw[mu];omega
theorem Da{ops:List aH}(he:opsE ops=0): ∀(g:Nat) (w:World) (v:Value) (fr tt:Nat),tt-fr<=g->fr<=tt->tt<=ops.length->fN ops fr tt->gP w F v ((ops.take tt).drop fr)->
  Calls Tryz.prog 54 #[v] w fun e w'=>e=.returned (.int .i64 ((min (lj ops fr tt) 10001:Nat):Int))/\Below w.heap.size w w'
 |0,w,v,fr,tt,hg,hft,ht,hcl,hv=>vE he w v fr tt hft ht hcl hv (fun _ _ fr' PF h=>by omega)
 |g+1,w,v,fr,tt,hg,hft,ht,hcl,hv=>vE he w v fr tt hft ht hcl hv (fun w' v' fr' PF h h1 h2 h3 h4=>Da he g w' v' fr' PF (by omega) h1 h2 h3 h4)
theorem MG{ops:List aH}(he:opsE ops=0)(w:World)(v:Value)(hs:je w)(hv:gP w F v ops):
  Calls Tryz.prog 30 #[v] w fun e w'=>e=.returned (.tuple #[.int .i64 ((min (lj ops 0 ops.length) 10001:Nat):Int),.int .i64 0])/\Below w.heap.size w w':=by
 have HC:=al (xZ w F v ops hv hs);rw[he]at HC;have HV:=al hv;obtain⟨R,hR⟩: ∃R:Nat,min (lj ops 0 ops.length) 10001=R:=⟨_,rfl⟩;have HS:=al (fun(W:World) (hb:Below w.heap.size w W)=>Da he (F:=F) ops.length W v 0 ops.length (by omega) (dj _) (aq _) (qH he).whole (by rw[ie,List.drop_zero];exact cd.below hv hb));rw[hR]at HS⊢;clear hv hs hR;go_enter Tryz.func30,Tryz.ntmps30;go_wp2_with fail;refine HC.out.mono ?_;rintro e w1 ⟨rfl,hb1⟩;have H1:=al hb1;clear hb1;go_wp2_with fail;refine(HS.out _ H1.out).mono ?_;rintro e w2 ⟨rfl,hb2⟩;have H2:=al (H1.out.trans (hb2.mono H1.out.size));clear hb2;go_wp2_with fail
 go_ret2
 exact⟨rfl,H2.out⟩
end
end Go.Proofs.YtagemonojdgbdaaGreatDoor
