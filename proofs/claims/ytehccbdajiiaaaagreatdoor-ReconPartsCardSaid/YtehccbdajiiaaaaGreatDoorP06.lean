import Derived.Test.YtehccbdajiiaaaaGreatDoorP05
namespace Go.Proofs.YtehccbdajiiaaaaGreatDoor
set_option maxRecDepth 100000
open Go.RowKit
theorem eG.congr{w0 w:World}{A:Nat->Nat}{B:Nat->Nat->Nat->Nat->Prop}{Z U:Nat->Nat->Prop}{V a:Nat->Nat->Value}{X e:Nat->List Pr}{Y d:Nat->List Nat}{P b:Nat->Nat->Nat->Nat->Prop}(r:eG w0 A B Z U w V X Y P)
  (l: ∀t,t<3->V t 0=a t 0/\V t 1=a t 1/\X t=e t/\Y t=d t/\P t 0=b t 0/\P t 1=b t 1):eG w0 A B Z U w a e d b:=by
 obtain⟨f,g,o,i,m⟩:=r;refine⟨f,fun t c=>?_,o,i,m⟩;obtain⟨k,n,h,j,p,q⟩:=l t c;rw[<-k,<-n,<-h,<-j,<-p,<-q];exact g t c
theorem eG.lt{w0 w:World}{A:Nat->Nat}{B:Nat->Nat->Nat->Nat->Prop}{Z U:Nat->Nat->Prop}{V:Nat->Nat->Value}{X:Nat->List Pr}{Y:Nat->List Nat}{P:Nat->Nat->Nat->Nat->Prop}(h:eG w0 A B Z U w V X Y P){t s b q:Nat}(e:t<3)(d:s<2)(a:P t s b q):b<w.heap.size:=by
 obtain⟨f,c,_⟩:=h
 match s,d,a with
 |0,_,a=>exact((c t e).l1 b q a).2.1
 |1,_,a=>exact((c t e).l2 b q a).2.1
 |_+2,d,_=>omega
theorem eG.base{w0 w:World}{A:Nat->Nat}{B:Nat->Nat->Nat->Nat->Prop}{Z U:Nat->Nat->Prop}{V:Nat->Nat->Value}{X:Nat->List Pr}{Y:Nat->List Nat}{P:Nat->Nat->Nat->Nat->Prop}(h:eG w0 A B Z U w V X Y P){t s b q:Nat}(e:t<3)(d:s<2)(a:P t s b q):B t s b q\/w0.heap.size<=b:=by
 obtain⟨f,c,_⟩:=h
 match s,d,a with
 |0,_,a=>exact((c t e).l1 b q a).2.2
 |1,_,a=>exact((c t e).l2 b q a).2.2
 |_+2,d,_=>omega
def bE(w0:World)(a l r:Nat)(B:Nat->Nat->Nat->Nat->Prop)(Z U:Nat->Nat->Prop)(w:World)(v0 u0 v1 u1 v2 u2:Value)(x0 x1 x2:List Pr)(y0 y1 y2:List Nat)(P0 Q0 P1 Q1 P2 Q2:Nat->Nat->Prop):Prop:=
 eG w0 (DV a l r) B Z U w (fun t s=>DV (uE v0 u0 s) (uE v1 u1 s) (uE v2 u2 s) t) (DV x0 x1 x2) (DV y0 y1 y2) (fun t s=>DV (uE P0 Q0 s) (uE P1 Q1 s) (uE P2 Q2 s) t)
def Gw(P:Nat->Nat->Prop)(n m:Nat)(b q:Nat):Prop:=(P b q\/n<=b)/\b<m
section
variable{w0 w w1 w2:World}{a l r:Nat}{B:Nat->Nat->Nat->Nat->Prop}{Z U:Nat->Nat->Prop}{v0 u0 v1 u1 v2 u2 v':Value}{x0 x1 x2 xs':List Pr}{y0 y1 y2 ys':List Nat}{P0 Q0 P1 Q1 P2 Q2:Nat->Nat->Prop}
theorem bE.below(h:bE w0 a l r B Z U w v0 u0 v1 u1 v2 u2 x0 x1 x2 y0 y1 y2 P0 Q0 P1 Q1 P2 Q2)(b:Below w.heap.size w w1):bE w0 a l r B Z U w1 v0 u0 v1 u1 v2 u2 x0 x1 x2 y0 y1 y2 P0 Q0 P1 Q1 P2 Q2:=eG.below h b
theorem bE.lH(h:bE w0 a l r B Z U w v0 u0 v1 u1 v2 u2 x0 x1 x2 y0 y1 y2 P0 Q0 P1 Q1 P2 Q2):w.heap[a]?=some (tg v0 u0)/\aH 2 220 w v0 (x0.map aA) P0/\aH 1 169 w u0 (y0.map aN) Q0:=eG.at_ h (t:=0) (by decide)
theorem bE.p0(h:bE w0 a l r B Z U w v0 u0 v1 u1 v2 u2 x0 x1 x2 y0 y1 y2 P0 Q0 P1 Q1 P2 Q2)(c:Below w.heap.size w w1)(d:OnlyC P0 w1 w2)(e:aH 2 220 w2 v' (xs'.map aA) (fun b q=>P0 b q\/w1.heap.size<=b)):
  bE w0 a l r B Z U (w2.setCell ⟨a,0,none⟩ v') v' u0 v1 u1 v2 u2 xs' x1 x2 y0 y1 y2 (Gw P0 w1.heap.size w2.heap.size) Q0 P1 Q1 P2 Q2:=by
 refine(eG.pairs h (t:=0) (by decide) c d e).congr (fun t b=>?_)
 match t,b with
 |0,_=>exact⟨rfl,rfl,rfl,rfl,rfl,rfl⟩
 |1,_=>exact⟨rfl,rfl,rfl,rfl,rfl,rfl⟩
 |2,_=>exact⟨rfl,rfl,rfl,rfl,rfl,rfl⟩
 |_+3,b=>omega
theorem bE.k0(h:bE w0 a l r B Z U w v0 u0 v1 u1 v2 u2 x0 x1 x2 y0 y1 y2 P0 Q0 P1 Q1 P2 Q2)(c:Below w.heap.size w w1)(d:OnlyC Q0 w1 w2)(e:aH 1 169 w2 v' (ys'.map aN) (fun b q=>Q0 b q\/w1.heap.size<=b)):
  bE w0 a l r B Z U (w2.setCell ⟨a,1,none⟩ v') v0 v' v1 u1 v2 u2 x0 x1 x2 ys' y1 y2 P0 (Gw Q0 w1.heap.size w2.heap.size) P1 Q1 P2 Q2:=by
 refine(eG.kids h (t:=0) (by decide) c d e).congr (fun t b=>?_)
 match t,b with
 |0,_=>exact⟨rfl,rfl,rfl,rfl,rfl,rfl⟩
 |1,_=>exact⟨rfl,rfl,rfl,rfl,rfl,rfl⟩
 |2,_=>exact⟨rfl,rfl,rfl,rfl,rfl,rfl⟩
 |_+3,b=>omega
theorem bE.fJ(h:bE w0 a l r B Z U w v0 u0 v1 u1 v2 u2 x0 x1 x2 y0 y1 y2 P0 Q0 P1 Q1 P2 Q2):w.heap[l]?=some (tg v1 u1)/\aH 2 220 w v1 (x1.map aA) P1/\aH 1 169 w u1 (y1.map aN) Q1:=eG.at_ h (t:=1) (by decide)
theorem bE.p1(h:bE w0 a l r B Z U w v0 u0 v1 u1 v2 u2 x0 x1 x2 y0 y1 y2 P0 Q0 P1 Q1 P2 Q2)(c:Below w.heap.size w w1)(d:OnlyC P1 w1 w2)(e:aH 2 220 w2 v' (xs'.map aA) (fun b q=>P1 b q\/w1.heap.size<=b)):
  bE w0 a l r B Z U (w2.setCell ⟨l,0,none⟩ v') v0 u0 v' u1 v2 u2 x0 xs' x2 y0 y1 y2 P0 Q0 (Gw P1 w1.heap.size w2.heap.size) Q1 P2 Q2:=by
 refine(eG.pairs h (t:=1) (by decide) c d e).congr (fun t b=>?_)
 match t,b with
 |0,_=>exact⟨rfl,rfl,rfl,rfl,rfl,rfl⟩
 |1,_=>exact⟨rfl,rfl,rfl,rfl,rfl,rfl⟩
 |2,_=>exact⟨rfl,rfl,rfl,rfl,rfl,rfl⟩
 |_+3,b=>omega
theorem bE.k1(h:bE w0 a l r B Z U w v0 u0 v1 u1 v2 u2 x0 x1 x2 y0 y1 y2 P0 Q0 P1 Q1 P2 Q2)(c:Below w.heap.size w w1)(d:OnlyC Q1 w1 w2)(e:aH 1 169 w2 v' (ys'.map aN) (fun b q=>Q1 b q\/w1.heap.size<=b)):
  bE w0 a l r B Z U (w2.setCell ⟨l,1,none⟩ v') v0 u0 v1 v' v2 u2 x0 x1 x2 y0 ys' y2 P0 Q0 P1 (Gw Q1 w1.heap.size w2.heap.size) P2 Q2:=by
 refine(eG.kids h (t:=1) (by decide) c d e).congr (fun t b=>?_)
 match t,b with
 |0,_=>exact⟨rfl,rfl,rfl,rfl,rfl,rfl⟩
 |1,_=>exact⟨rfl,rfl,rfl,rfl,rfl,rfl⟩
 |2,_=>exact⟨rfl,rfl,rfl,rfl,rfl,rfl⟩
 |_+3,b=>omega
theorem bE.gZ(h:bE w0 a l r B Z U w v0 u0 v1 u1 v2 u2 x0 x1 x2 y0 y1 y2 P0 Q0 P1 Q1 P2 Q2):w.heap[r]?=some (tg v2 u2)/\aH 2 220 w v2 (x2.map aA) P2/\aH 1 169 w u2 (y2.map aN) Q2:=eG.at_ h (t:=2) (by decide)
theorem bE.p2(h:bE w0 a l r B Z U w v0 u0 v1 u1 v2 u2 x0 x1 x2 y0 y1 y2 P0 Q0 P1 Q1 P2 Q2)(c:Below w.heap.size w w1)(d:OnlyC P2 w1 w2)(e:aH 2 220 w2 v' (xs'.map aA) (fun b q=>P2 b q\/w1.heap.size<=b)):
  bE w0 a l r B Z U (w2.setCell ⟨r,0,none⟩ v') v0 u0 v1 u1 v' u2 x0 x1 xs' y0 y1 y2 P0 Q0 P1 Q1 (Gw P2 w1.heap.size w2.heap.size) Q2:=by
 refine(eG.pairs h (t:=2) (by decide) c d e).congr (fun t b=>?_)
 match t,b with
 |0,_=>exact⟨rfl,rfl,rfl,rfl,rfl,rfl⟩
 |1,_=>exact⟨rfl,rfl,rfl,rfl,rfl,rfl⟩
 |2,_=>exact⟨rfl,rfl,rfl,rfl,rfl,rfl⟩
 |_+3,b=>omega
theorem bE.k2(h:bE w0 a l r B Z U w v0 u0 v1 u1 v2 u2 x0 x1 x2 y0 y1 y2 P0 Q0 P1 Q1 P2 Q2)(c:Below w.heap.size w w1)(d:OnlyC Q2 w1 w2)(e:aH 1 169 w2 v' (ys'.map aN) (fun b q=>Q2 b q\/w1.heap.size<=b)):
  bE w0 a l r B Z U (w2.setCell ⟨r,1,none⟩ v') v0 u0 v1 u1 v2 v' x0 x1 x2 y0 y1 ys' P0 Q0 P1 Q1 P2 (Gw Q2 w1.heap.size w2.heap.size):=by
 refine(eG.kids h (t:=2) (by decide) c d e).congr (fun t b=>?_)
 match t,b with
 |0,_=>exact⟨rfl,rfl,rfl,rfl,rfl,rfl⟩
 |1,_=>exact⟨rfl,rfl,rfl,rfl,rfl,rfl⟩
 |2,_=>exact⟨rfl,rfl,rfl,rfl,rfl,rfl⟩
 |_+3,b=>omega
theorem bE.i0(h:bE w0 a l r B Z U w v0 u0 v1 u1 v2 u2 x0 x1 x2 y0 y1 y2 P0 Q0 P1 Q1 P2 Q2)(c:OnlyC P0 w w2)(d:aH 2 220 w2 v0 (xs'.map aA) P0):bE w0 a l r B Z U w2 v0 u0 v1 u1 v2 u2 xs' x1 x2 y0 y1 y2 P0 Q0 P1 Q1 P2 Q2:=by
 refine(eG.inPlace h (t:=0) (by decide) c d).congr (fun t b=>?_)
 match t,b with
 |0,_=>exact⟨rfl,rfl,rfl,rfl,rfl,rfl⟩
 |1,_=>exact⟨rfl,rfl,rfl,rfl,rfl,rfl⟩
 |2,_=>exact⟨rfl,rfl,rfl,rfl,rfl,rfl⟩
 |_+3,b=>omega
theorem bE.nO(h:bE w0 a l r B Z U w v0 u0 v1 u1 v2 u2 x0 x1 x2 y0 y1 y2 P0 Q0 P1 Q1 P2 Q2){b q:Nat}(c:P0 b q): ¬P1 b q:=eG.apart h (t:=0) (s:=0) (t':=1) (s':=0) (by decide) (by decide) (by decide) (by decide) (by decide) c
theorem bE.tL(h:bE w0 a l r B Z U w v0 u0 v1 u1 v2 u2 x0 x1 x2 y0 y1 y2 P0 Q0 P1 Q1 P2 Q2){b q:Nat}(c:P0 b q): ¬P2 b q:=eG.apart h (t:=0) (s:=0) (t':=2) (s':=0) (by decide) (by decide) (by decide) (by decide) (by decide) c
theorem bE.KJ(h:bE w0 a l r B Z U w v0 u0 v1 u1 v2 u2 x0 x1 x2 y0 y1 y2 P0 Q0 P1 Q1 P2 Q2){b q:Nat}(c:P0 b q):b≠a:=eG.iZ h (t:=0) (s:=0) (t':=0) (by decide) (by decide) (by decide) c
theorem bE.yJ(h:bE w0 a l r B Z U w v0 u0 v1 u1 v2 u2 x0 x1 x2 y0 y1 y2 P0 Q0 P1 Q1 P2 Q2){b q:Nat}(c:P0 b q):b≠l:=eG.iZ h (t:=0) (s:=0) (t':=1) (by decide) (by decide) (by decide) c
theorem bE.KL(h:bE w0 a l r B Z U w v0 u0 v1 u1 v2 u2 x0 x1 x2 y0 y1 y2 P0 Q0 P1 Q1 P2 Q2){b q:Nat}(c:P0 b q):b≠r:=eG.iZ h (t:=0) (s:=0) (t':=2) (by decide) (by decide) (by decide) c
theorem bE.ZC(h:bE w0 a l r B Z U w v0 u0 v1 u1 v2 u2 x0 x1 x2 y0 y1 y2 P0 Q0 P1 Q1 P2 Q2){b q:Nat}(c:Q0 b q):b≠a:=eG.iZ h (t:=0) (s:=1) (t':=0) (by decide) (by decide) (by decide) c
theorem bE.RV(h:bE w0 a l r B Z U w v0 u0 v1 u1 v2 u2 x0 x1 x2 y0 y1 y2 P0 Q0 P1 Q1 P2 Q2){b q:Nat}(c:P1 b q):b≠a:=eG.iZ h (t:=1) (s:=0) (t':=0) (by decide) (by decide) (by decide) c
theorem bE.DW(h:bE w0 a l r B Z U w v0 u0 v1 u1 v2 u2 x0 x1 x2 y0 y1 y2 P0 Q0 P1 Q1 P2 Q2){b q:Nat}(c:P1 b q):b≠l:=eG.iZ h (t:=1) (s:=0) (t':=1) (by decide) (by decide) (by decide) c
theorem bE.ZE(h:bE w0 a l r B Z U w v0 u0 v1 u1 v2 u2 x0 x1 x2 y0 y1 y2 P0 Q0 P1 Q1 P2 Q2){b q:Nat}(c:P1 b q):b≠r:=eG.iZ h (t:=1) (s:=0) (t':=2) (by decide) (by decide) (by decide) c
theorem bE.tM(h:bE w0 a l r B Z U w v0 u0 v1 u1 v2 u2 x0 x1 x2 y0 y1 y2 P0 Q0 P1 Q1 P2 Q2){b q:Nat}(c:Q1 b q): ¬Q2 b q:=eG.apart h (t:=1) (s:=1) (t':=2) (s':=1) (by decide) (by decide) (by decide) (by decide) (by decide) c
theorem bE.yK(h:bE w0 a l r B Z U w v0 u0 v1 u1 v2 u2 x0 x1 x2 y0 y1 y2 P0 Q0 P1 Q1 P2 Q2){b q:Nat}(c:Q1 b q):b≠l:=eG.iZ h (t:=1) (s:=1) (t':=1) (by decide) (by decide) (by decide) c
theorem bE.yL(h:bE w0 a l r B Z U w v0 u0 v1 u1 v2 u2 x0 x1 x2 y0 y1 y2 P0 Q0 P1 Q1 P2 Q2){b q:Nat}(c:Q1 b q):b≠r:=eG.iZ h (t:=1) (s:=1) (t':=2) (by decide) (by decide) (by decide) c
theorem bE.ZF(h:bE w0 a l r B Z U w v0 u0 v1 u1 v2 u2 x0 x1 x2 y0 y1 y2 P0 Q0 P1 Q1 P2 Q2){b q:Nat}(c:P2 b q):b≠a:=eG.iZ h (t:=2) (s:=0) (t':=0) (by decide) (by decide) (by decide) c
theorem bE.RX(h:bE w0 a l r B Z U w v0 u0 v1 u1 v2 u2 x0 x1 x2 y0 y1 y2 P0 Q0 P1 Q1 P2 Q2){b q:Nat}(c:P2 b q):b≠r:=eG.iZ h (t:=2) (s:=0) (t':=2) (by decide) (by decide) (by decide) c
theorem bE.DX(h:bE w0 a l r B Z U w v0 u0 v1 u1 v2 u2 x0 x1 x2 y0 y1 y2 P0 Q0 P1 Q1 P2 Q2){b q:Nat}(c:Q2 b q):b≠l:=eG.iZ h (t:=2) (s:=1) (t':=1) (by decide) (by decide) (by decide) c
theorem bE.DY(h:bE w0 a l r B Z U w v0 u0 v1 u1 v2 u2 x0 x1 x2 y0 y1 y2 P0 Q0 P1 Q1 P2 Q2){b q:Nat}(c:Q2 b q):b≠r:=eG.iZ h (t:=2) (s:=1) (t':=2) (by decide) (by decide) (by decide) c
theorem bE.ZG(h:bE w0 a l r B Z U w v0 u0 v1 u1 v2 u2 x0 x1 x2 y0 y1 y2 P0 Q0 P1 Q1 P2 Q2){b q:Nat}(c:P2 b q):b<w.heap.size:=eG.lt h (t:=2) (s:=0) (by decide) (by decide) c
theorem bE.RY(h:bE w0 a l r B Z U w v0 u0 v1 u1 v2 u2 x0 x1 x2 y0 y1 y2 P0 Q0 P1 Q1 P2 Q2){b q:Nat}(c:Q2 b q):b<w.heap.size:=eG.lt h (t:=2) (s:=1) (by decide) (by decide) c
theorem bE.e01(h:bE w0 a l r B Z U w v0 u0 v1 u1 v2 u2 x0 x1 x2 y0 y1 y2 P0 Q0 P1 Q1 P2 Q2):a≠l:=eG.NG h (t:=0) (t':=1) (by decide) (by decide) (by decide)
theorem bE.e02(h:bE w0 a l r B Z U w v0 u0 v1 u1 v2 u2 x0 x1 x2 y0 y1 y2 P0 Q0 P1 Q1 P2 Q2):a≠r:=eG.NG h (t:=0) (t':=2) (by decide) (by decide) (by decide)
theorem bE.e12(h:bE w0 a l r B Z U w v0 u0 v1 u1 v2 u2 x0 x1 x2 y0 y1 y2 P0 Q0 P1 Q1 P2 Q2):l≠r:=eG.NG h (t:=1) (t':=2) (by decide) (by decide) (by decide)
end
def bas(H Hl Hr:Nat->Nat->Nat->Prop):Nat->Nat->Nat->Nat->Prop:=fun t s=>DV (H (s+1)) (Hl (s+1)) (Hr (s+1)) t
theorem bE.start{w:World}{d a i l r:Nat}{x kl kr:ND}{F:Nat->Nat->Prop}{vp vk vl ul vr ur:Value}{aC pl pr:List Nat}{H Hl Hr:Nat->Nat->Nat->Prop}(c:aZ w (aG w d) a x F vp vk aC H)(e: ∀b q,F b q->b<w.heap.size)
  (g:aZ w (bX w d) l kl (H (i+3)) vl ul pl Hl) (f:aZ w (bX w d) r kr (H (i+4)) vr ur pr Hr):
  bE w a l r (bas H Hl Hr) (Jq H Hl Hr i) F w vp vk vl ul vr ur x.ps kl.ps kr.ps aC pl pr (H 1) (H 2) (Hl 1) (Hl 2) (Hr 1) (Hr 2):=by
 refine(eG.start c e g f).congr (fun t b=>?_)
 match t,b with
 |0,_=>exact⟨rfl,rfl,rfl,rfl,rfl,rfl⟩
 |1,_=>exact⟨rfl,rfl,rfl,rfl,rfl,rfl⟩
 |2,_=>exact⟨rfl,rfl,rfl,rfl,rfl,rfl⟩
 |_+3,b=>omega
section
variable{w w':World}{d a i l r:Nat}{x kl kr:ND}{F:Nat->Nat->Prop}{vp vk vl ul vr ur:Value}{aC pl pr:List Nat}{H Hl Hr:Nat->Nat->Nat->Prop}
 {v0 u0 v1 u1 v2 u2:Value} {x0 x1 x2:List Pr} {y0 y1 y2:List Nat} {P0 Q0 P1 Q1 P2 Q2:Nat->Nat->Prop}
theorem gM(hO:aZ w (aG w d) a x F vp vk aC H)(hF: ∀b q,F b q->b<w.heap.size)(hi:i+2<=x.ks.length)
  (hL:aZ w (bX w d) l kl (H (i+3)) vl ul pl Hl) (Gi: ∀i b q,Hl i b q->i<kl.ks.length+3) (hR:aZ w (bX w d) r kr (H (i+4)) vr ur pr Hr) (Ra: ∀i b q,Hr i b q->i<kr.ks.length+3)
  (hB:bE w a l r (bas H Hl Hr) (Jq H Hl Hr i) F w' v0 u0 v1 u1 v2 u2 x0 x1 x2 y0 y1 y2 P0 Q0 P1 Q1 P2 Q2)
  (RZ hi1:Nat) (h1:RZ<=hi1) (h1':hi1<=kl.ks.length) (KM:List (Nat×ND)) (M1:Nat->Nat->Nat->Prop) (R3 hi2:Nat) (h2:R3<=hi2) (h2':hi2<=kr.ks.length) (KN:List (Nat×ND)) (M2:Nat->Nat->Nat->Prop)
  (hy0:y0=aC) (hl:aC[i]?=some l) (hr:aC[i+1]?=some r) (hy1:y1=pl.take RZ++KM.map Prod.fst++pl.drop hi1) (hy2:y2=pr.take R3++KN.map Prod.fst++pr.drop hi2)
  (hM1: ∀m b q,M1 m b q-> ∃j,R3<=j/\j<hi2/\Hr (j+3) b q) (uF: ∀m b q,M2 m b q-> ∃j,RZ<=j/\j<hi1/\Hl (j+3) b q)
  (abZ: ∀m m' b q,M1 m b q->M1 m' b q->m=m') (ab0: ∀m m' b q,M2 m b q->M2 m' b q->m=m')
  (ZH: ∀m p k,KM[m]?=some (p,k)->bX w d p k (M1 m)) (ZI: ∀m p k,KN[m]?=some (p,k)->bX w d p k (M2 m))
  (h01:d=0->kl.ks.take RZ++KM.map Prod.snd++kl.ks.drop hi1=[]) (h02:d=0->kr.ks.take R3++KN.map Prod.snd++kr.ks.drop hi2=[]):
  aG w' (d+1) a (.mk x0 (x.ks.take i++ .mk x1 (kl.ks.take RZ++KM.map Prod.snd++kl.ks.drop hi1):: .mk x2 (kr.ks.take R3++KN.map Prod.snd++kr.ks.drop hi2)::x.ks.drop (i+2))) (fun b q=>F b q\/w.heap.size<=b)/\OnlyC F w w':=by
 rw[hy0]at hB;have hKl: ∀b q,H (i+3) b q->b<w.heap.size:=fun b q hh=>hF b q (hO.own.1 _ b q hh);have hKr: ∀b q,H (i+4) b q->b<w.heap.size:=fun b q hh=>hF b q (hO.own.1 _ b q hh);have hlr: ∀b q,H (i+3) b q-> ¬H (i+4) b q:=fun b q=>hO.own.2.1 (i+3) (i+4) b q (by omega)
 obtain⟨RL,nL,hRL⟩:=eG.node hL Gi hKl hB (t:=1) (by decide) rfl rfl rfl (fun j b q hh=>.inr (.inl ⟨j,hh⟩)) RZ hi1 h1 h1' KM M1 hy1
  (fun m b q hm=>by obtain⟨j,_,_,hj⟩:=hM1 m b q hm;exact⟨.inr (.inr ⟨j,hj⟩),fun hk=>hlr b q hk (hR.own.1 _ b q hj)⟩) abZ ZH h01
 obtain⟨RR,nR,hRR⟩:=eG.node hR Ra hKr hB (t:=2) (by decide) rfl rfl rfl (fun j b q hh=>.inr (.inr ⟨j,hh⟩)) R3 hi2 h2 h2' KN M2 hy2
  (fun m b q hm=>by obtain⟨j,_,_,hj⟩:=uF m b q hm;exact⟨.inr (.inl ⟨j,hj⟩),fun hk=>hlr b q (hL.own.1 _ b q hj) hk⟩) ab0 ZI h02
 have hbP: ∀s b q,s<2->((uE P1 Q1 s) b q\/(uE P2 Q2 s) b q)->H (i+3) b q\/H (i+4) b q\/w.heap.size<=b:=fun s b q hs hh=>by
  rcases hh with hh|hh
  ·rcases eG.base hB (t:=1) (s:=s) (by decide) hs hh with h3|h3
   ·exact .inl (hL.own.1 _ b q h3)
   ·exact .inr (.inr h3)
  ·rcases eG.base hB (t:=2) (s:=s) (by decide) hs hh with h3|h3
   ·exact .inr (.inl (hR.own.1 _ b q h3))
   ·exact .inr (.inr h3)
 have rp: ∀b q,RL b q-> ¬RR b q:=by
  intro b q c1 c2
  have hz: ∀{s t j},s<2->t<3->(DV (uE P0 Q0 s) (uE P1 Q1 s) (uE P2 Q2 s) t) b q->(Hl (j+3) b q\/Hr (j+3) b q)->False:=fun{s t j} hs ht hp hh=>by
   obtain⟨lab,hN,hz,_⟩:=hB
   have e1:lab b q=10*t+s+1:=match s,hs,hp with
    |0,_,hp=>((hN t ht).l1 b q hp).1
    |1,_,hp=>((hN t ht).l2 b q hp).1
    |_+2,hs,_=>by omega
   have e2:=(hz b q (hh.elim (fun h=>.inr (.inl ⟨j,h⟩)) (fun h=>.inr (.inr ⟨j,h⟩)))).1;omega
  have hown: ∀{s t},s<2->t<3->(DV (uE P0 Q0 s) (uE P1 Q1 s) (uE P2 Q2 s) t) b q->(Hl 0 b q\/Hr 0 b q)->b<w.heap.size->(t=1-> ¬Hr 0 b q)/\(t=2-> ¬Hl 0 b q):=fun{s t} hs ht hp hh hb=>by
   rcases eG.base hB (t:=t) (s:=s) ht hs hp with h3|h3
   ·refine⟨fun e h4=>?_,fun e h4=>?_⟩
    ·subst e;exact hlr b q (hL.own.1 _ b q h3) (hR.own.1 0 b q h4)
    ·subst e;exact hlr b q (hL.own.1 0 b q h4) (hR.own.1 _ b q h3)
   ·omega
  have L:(Hl 0 b q/\b<w.heap.size)\/(∃s,s<2/\uE P1 Q1 s b q)\/(∃j,(j<RZ\/hi1<=j)/\Hl (j+3) b q)\/(∃j,R3<=j/\j<hi2/\Hr (j+3) b q):=by
   rcases hRL b q c1 with c|c|c|⟨j,hj,c⟩|⟨m,c⟩
   ·exact .inl ⟨c,hKl b q (hL.own.1 0 b q c)⟩
   ·exact .inr (.inl ⟨0,by decide,c⟩)
   ·exact .inr (.inl ⟨1,by decide,c⟩)
   ·exact .inr (.inr (.inl ⟨j,by omega,c⟩))
   ·exact .inr (.inr (.inr (hM1 m b q c)))
  have R:(Hr 0 b q/\b<w.heap.size)\/(∃s,s<2/\uE P2 Q2 s b q)\/(∃j,(j<R3\/hi2<=j)/\Hr (j+3) b q)\/(∃j,RZ<=j/\j<hi1/\Hl (j+3) b q):=by
   rcases hRR b q c2 with c|c|c|⟨j,hj,c⟩|⟨m,c⟩
   ·exact .inl ⟨c,hKr b q (hR.own.1 0 b q c)⟩
   ·exact .inr (.inl ⟨0,by decide,c⟩)
   ·exact .inr (.inl ⟨1,by decide,c⟩)
   ·exact .inr (.inr (.inl ⟨j,by omega,c⟩))
   ·exact .inr (.inr (.inr (uF m b q c)))
  rcases L with⟨a1,a2⟩|⟨s,hs,a1⟩|⟨j,hj,a1⟩|⟨j,hj,hj',a1⟩<;>rcases R with⟨b1,b2⟩|⟨s',hs',b1⟩|⟨j',hk,b1⟩|⟨j',hk,hk',b1⟩
  ·exact hlr b q (hL.own.1 _ b q a1) (hR.own.1 _ b q b1)
  ·exact(hown hs' (t:=2) (by decide) b1 (.inl a1) a2).2 rfl a1
  ·exact hlr b q (hL.own.1 _ b q a1) (hR.own.1 _ b q b1)
  ·exact hL.own.2.1 0 (j'+3) b q (by omega) a1 b1
  ·exact(hown hs (t:=1) (by decide) a1 (.inr b1) b2).1 rfl b1
  ·exact eG.apart hB (t:=1) (s:=s) (t':=2) (s':=s') (by decide) (by decide) hs hs' (by omega) a1 b1
  ·exact hz hs (t:=1) (by decide) a1 (.inr b1)
  ·exact hz hs (t:=1) (by decide) a1 (.inl b1)
  ·exact hlr b q (hL.own.1 _ b q a1) (hR.own.1 _ b q b1)
  ·exact hz hs' (t:=2) (by decide) b1 (.inl a1)
  ·exact hlr b q (hL.own.1 _ b q a1) (hR.own.1 _ b q b1)
  ·have:=hL.2.2.2.2.2.2.2 _ _ b q a1 b1;omega
  ·exact hR.own.2.1 0 (j+3) b q (by omega) b1 a1
  ·exact hz hs' (t:=2) (by decide) b1 (.inr a1)
  ·have:=hR.2.2.2.2.2.2.2 _ _ b q a1 b1;omega
  ·exact hlr b q (hL.own.1 _ b q b1) (hR.own.1 _ b q a1)
 have ZJ: ∀b q,RL b q\/RR b q->H (i+3) b q\/H (i+4) b q\/(∃s,s<2/\(uE P1 Q1 s b q\/uE P2 Q2 s b q)):=by
  rintro b q (c|c)
  ·rcases hRL b q c with c|c|c|⟨j,hj,c⟩|⟨m,c⟩
   ·exact .inl (hL.own.1 0 b q c)
   ·exact .inr (.inr ⟨0,by decide,.inl c⟩)
   ·exact .inr (.inr ⟨1,by decide,.inl c⟩)
   ·exact .inl (hL.own.1 _ b q c)
   ·obtain⟨j,_,_,hj⟩:=hM1 m b q c;exact .inr (.inl (hR.own.1 _ b q hj))
  ·rcases hRR b q c with c|c|c|⟨j,hj,c⟩|⟨m,c⟩
   ·exact .inr (.inl (hR.own.1 0 b q c))
   ·exact .inr (.inr ⟨0,by decide,.inr c⟩)
   ·exact .inr (.inr ⟨1,by decide,.inr c⟩)
   ·exact .inr (.inl (hR.own.1 _ b q c))
   ·obtain⟨j,_,_,hj⟩:=uF m b q c;exact .inl (hL.own.1 _ b q hj)
 have Gj:aC=aC.take i++l::r::aC.drop (i+2):=zN hl hr
 have nP:=eG.parent hO hF hi hB rfl rfl rfl (fun j b q a1 a2 hh=>.inl ⟨j,a1,a2,hh⟩) [(l,.mk x1 (kl.ks.take RZ++KM.map Prod.snd++kl.ks.drop hi1)),(r,.mk x2 (kr.ks.take R3++KN.map Prod.snd++kr.ks.drop hi2))] (rh RL RR) (by
   show aC=_
   conv=>lhs;rw[Gj]
   simp)
  (fun m b q hm=>match m,hm with
   |0,hm=>ZJ b q (.inl hm)
   |1,hm=>ZJ b q (.inr hm)
   |_+2,hm=>hm.elim)
  (fun m m' b q hm hm'=>by
   match m,hm,m',hm' with
   |0,_,0,_=>rfl
   |1,_,1,_=>rfl
   |0,h1,1,h2=>exact absurd h2 (rp b q h1)
   |1,h1,0,h2=>exact absurd h1 (rp b q h2)
   |_+2,h1,_,_=>exact h1.elim
   |0,_,_+2,h2=>exact h2.elim
   |1,_,_+2,h2=>exact h2.elim)
  (fun m p k hm=>by
   match m,hm with
   |0,hm=>simp only[iS,fj,me]at hm;obtain⟨rfl,rfl⟩:=hm;exact nL
   |1,hm=>simp only[List.getElem?_cons_succ,iS,fj,me]at hm;obtain⟨rfl,rfl⟩:=hm;exact nR
   |m+2,hm=>simp at hm) hbP
 refine⟨?_,hB.UB⟩;simpa using nP
end
section
variable{w w':World}{d a i l r:Nat}{x kl kr:ND}{F:Nat->Nat->Prop}{vp vk vl ul vr ur:Value}{aC pl pr:List Nat}{H Hl Hr:Nat->Nat->Nat->Prop}
 {v0 u0 v1 u1 v2 u2:Value} {x0 x1 x2:List Pr} {y0 y1 y2:List Nat} {P0 Q0 P1 Q1 P2 Q2:Nat->Nat->Prop}
theorem Js(o:aZ w (aG w d) a x F vp vk aC H)(p: ∀c q,F c q->c<w.heap.size)(hi:i+2<=x.ks.length)
  (k:aZ w (bX w d) l kl (H (i+3)) vl ul pl Hl) (L: ∀i c q,Hl i c q->i<kl.ks.length+3) (g:aZ w (bX w d) r kr (H (i+4)) vr ur pr Hr)
  (j:bE w a l r (bas H Hl Hr) (Jq H Hl Hr i) F w' v0 u0 v1 u1 v2 u2 x0 x1 x2 y0 y1 y2 P0 Q0 P1 Q1 P2 Q2)
  (G:y0=aC.take i++[l]++aC.drop (i+2)) (z:y1=pl++pr) (I:d=0->kl.ks++kr.ks=[]):
  aG w' (d+1) a (.mk x0 (x.ks.take i++ .mk x1 (kl.ks++kr.ks)::x.ks.drop (i+2))) (fun c q=>F c q\/w.heap.size<=c)/\OnlyC F w w':=by
 have A: ∀c q,H (i+3) c q->c<w.heap.size:=fun c q e=>p c q (o.own.1 _ c q e);have E: ∀c q,H (i+3) c q-> ¬H (i+4) c q:=fun c q=>o.own.2.1 (i+3) (i+4) c q (by omega);have P:pr.length=kr.ks.length:=g.2.2.2.2.1;have K:(pr.zip kr.ks).map Prod.fst=pr:=List.map_fst_zip (by omega);have s:(pr.zip kr.ks).map Prod.snd=kr.ks:=List.map_snd_zip (by omega);have B:pl.length=kl.ks.length:=k.2.2.2.2.1
 obtain⟨J,v,D⟩:=eG.node k L A j (t:=1) (by decide) rfl rfl rfl (fun M c q e=>.inr (.inl ⟨M,e⟩)) kl.ks.length kl.ks.length (b8 _) (b8 _) (pr.zip kr.ks) (fun n c q=>Hr (n+3) c q)
  (by
   show y1=_
   rw[z,K,<-B,gn,List.drop_length,gr])
  (fun n c q b=>⟨.inr (.inr ⟨n,b⟩),fun f=>E c q f (g.own.1 _ c q b)⟩) (fun n u c q m h=>by have:=g.2.2.2.2.2.2.2 _ _ c q m h;omega)
  (fun n N O b=>by
   rw[List.getElem?_zip_eq_some]at b
   exact g.2.2.2.2.2.1 n N O b.1 b.2)
  (fun f=>by rw[s,gn,List.drop_length,gr];exact I f)
 rw[s,gn,List.drop_length,gr]at v
 have C: ∀y c q,y<2->((uE P1 Q1 y) c q\/(uE P2 Q2 y) c q)->H (i+3) c q\/H (i+4) c q\/w.heap.size<=c:=fun y c q t e=>by
  rcases e with e|e
  ·rcases eG.base j (t:=1) (s:=y) (by decide) t e with f|f
   ·exact .inl (k.own.1 _ c q f)
   ·exact .inr (.inr f)
  ·rcases eG.base j (t:=2) (s:=y) (by decide) t e with f|f
   ·exact .inr (.inl (g.own.1 _ c q f))
   ·exact .inr (.inr f)
 have f:=eG.parent o p hi j rfl rfl rfl (fun M c q t y e=>.inl ⟨M,t,y,e⟩) [(l,.mk x1 (kl.ks++kr.ks))] (rh J (fun _ _=>False)) (by
   show y0=_;rw[G]
   rfl)
  (fun n c q b=>match n,b with
   |0,b=>by
    rcases D c q b with e|e|e|⟨M,t,e⟩|⟨n,e⟩
    ·exact .inl (k.own.1 0 c q e)
    ·exact .inr (.inr ⟨0,by decide,.inl e⟩)
    ·exact .inr (.inr ⟨1,by decide,.inl e⟩)
    ·exact .inl (k.own.1 _ c q e)
    ·exact .inr (.inl (g.own.1 _ c q e))
   |1,b=>b.elim
   |_+2,b=>b.elim)
  (fun n u c q b e=>by
   match n,b,u,e with
   |0,_,0,_=>rfl
   |1,m,_,_=>exact m.elim
   |_+2,m,_,_=>exact m.elim
   |0,_,1,h=>exact h.elim
   |0,_,_+2,h=>exact h.elim)
  (fun n N O b=>by
   match n,b with
   |0,b=>simp only[iS,fj,me]at b;obtain⟨rfl,rfl⟩:=b;exact v
   |n+1,b=>simp at b) C
 refine⟨?_,j.UB⟩;simpa using f
end
end Go.Proofs.YtehccbdajiiaaaaGreatDoor
