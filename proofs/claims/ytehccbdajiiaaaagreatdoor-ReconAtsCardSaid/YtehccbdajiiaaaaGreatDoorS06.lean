import Derived.Test.YtehccbdajiiaaaaGreatDoorS05
namespace Go.Proofs.YtehccbdajiiaaaaGreatDoor
set_option maxRecDepth 100000
open Go.RowKit
theorem eP.congr{w0 w:World}{A:Nat->Nat}{B:Nat->Nat->Nat->Nat->Prop}{Z U:Nat->Nat->Prop}{V b:Nat->Nat->Value}{X c:Nat->List Pr}{Y d:Nat->List Nat}{P a:Nat->Nat->Nat->Nat->Prop}(f:eP w0 A B Z U w V X Y P)
  (h: ∀t,t<3->V t 0=b t 0/\V t 1=b t 1/\X t=c t/\Y t=d t/\P t 0=a t 0/\P t 1=a t 1):eP w0 A B Z U w b c d a:=by
 obtain⟨a,d,c,b,e⟩:=f;refine⟨a,fun t a=>?_,c,b,e⟩;obtain⟨b,e,f,g,c,i⟩:=h t a;rw[<-b,<-e,<-f,<-g,<-c,<-i];exact d t a
theorem eP.lt{w0 w:World}{A:Nat->Nat}{B:Nat->Nat->Nat->Nat->Prop}{Z U:Nat->Nat->Prop}{V:Nat->Nat->Value}{X:Nat->List Pr}{Y:Nat->List Nat}{P:Nat->Nat->Nat->Nat->Prop}(h:eP w0 A B Z U w V X Y P){t s b q:Nat}(d:t<3)(e:s<2)(a:P t s b q):b<w.heap.size:=by
 obtain⟨f,c,_⟩:=h
 match s,e,a with
 |0,_,a=>exact((c t d).l1 b q a).2.1
 |1,_,a=>exact((c t d).l2 b q a).2.1
 |_+2,e,_=>omega
theorem eP.base{w0 w:World}{A:Nat->Nat}{B:Nat->Nat->Nat->Nat->Prop}{Z U:Nat->Nat->Prop}{V:Nat->Nat->Value}{X:Nat->List Pr}{Y:Nat->List Nat}{P:Nat->Nat->Nat->Nat->Prop}(h:eP w0 A B Z U w V X Y P){t s b q:Nat}(d:t<3)(e:s<2)(a:P t s b q):B t s b q\/w0.heap.size<=b:=by
 obtain⟨f,c,_⟩:=h
 match s,e,a with
 |0,_,a=>exact((c t d).l1 b q a).2.2
 |1,_,a=>exact((c t d).l2 b q a).2.2
 |_+2,e,_=>omega
def bG(w0:World)(a l r:Nat)(B:Nat->Nat->Nat->Nat->Prop)(Z U:Nat->Nat->Prop)(w:World)(v0 u0 v1 u1 v2 u2:Value)(x0 x1 x2:List Pr)(y0 y1 y2:List Nat)(P0 Q0 P1 Q1 P2 Q2:Nat->Nat->Prop):Prop:=
 eP w0 (EA a l r) B Z U w (fun t s=>EA (uZ v0 u0 s) (uZ v1 u1 s) (uZ v2 u2 s) t) (EA x0 x1 x2) (EA y0 y1 y2) (fun t s=>EA (uZ P0 Q0 s) (uZ P1 Q1 s) (uZ P2 Q2 s) t)
def Gw(P:Nat->Nat->Prop)(n m:Nat)(b q:Nat):Prop:=(P b q\/n<=b)/\b<m
section
variable{w0 w w1 w2:World}{a l r:Nat}{B:Nat->Nat->Nat->Nat->Prop}{Z U:Nat->Nat->Prop}{v0 u0 v1 u1 v2 u2 v':Value}{x0 x1 x2 xs':List Pr}{y0 y1 y2 ys':List Nat}{P0 Q0 P1 Q1 P2 Q2:Nat->Nat->Prop}
theorem bG.below(h:bG w0 a l r B Z U w v0 u0 v1 u1 v2 u2 x0 x1 x2 y0 y1 y2 P0 Q0 P1 Q1 P2 Q2)(b:Below w.heap.size w w1):bG w0 a l r B Z U w1 v0 u0 v1 u1 v2 u2 x0 x1 x2 y0 y1 y2 P0 Q0 P1 Q1 P2 Q2:=eP.below h b
theorem bG.lT(h:bG w0 a l r B Z U w v0 u0 v1 u1 v2 u2 x0 x1 x2 y0 y1 y2 P0 Q0 P1 Q1 P2 Q2):w.heap[a]?=some (te v0 u0)/\aG 2 220 w v0 (x0.map ay) P0/\aG 1 169 w u0 (y0.map aP) Q0:=eP.at_ h (t:=0) (by decide)
theorem bG.p0(h:bG w0 a l r B Z U w v0 u0 v1 u1 v2 u2 x0 x1 x2 y0 y1 y2 P0 Q0 P1 Q1 P2 Q2)(b:Below w.heap.size w w1)(c:OnlyC P0 w1 w2)(d:aG 2 220 w2 v' (xs'.map ay) (fun e q=>P0 e q\/w1.heap.size<=e)):
  bG w0 a l r B Z U (w2.setCell ⟨a,0,none⟩ v') v' u0 v1 u1 v2 u2 xs' x1 x2 y0 y1 y2 (Gw P0 w1.heap.size w2.heap.size) Q0 P1 Q1 P2 Q2:=by
 refine(eP.pairs h (t:=0) (by decide) b c d).congr (fun t b=>?_)
 match t,b with
 |0,_=>exact⟨rfl,rfl,rfl,rfl,rfl,rfl⟩
 |1,_=>exact⟨rfl,rfl,rfl,rfl,rfl,rfl⟩
 |2,_=>exact⟨rfl,rfl,rfl,rfl,rfl,rfl⟩
 |_+3,b=>omega
theorem bG.k0(h:bG w0 a l r B Z U w v0 u0 v1 u1 v2 u2 x0 x1 x2 y0 y1 y2 P0 Q0 P1 Q1 P2 Q2)(b:Below w.heap.size w w1)(c:OnlyC Q0 w1 w2)(d:aG 1 169 w2 v' (ys'.map aP) (fun e q=>Q0 e q\/w1.heap.size<=e)):
  bG w0 a l r B Z U (w2.setCell ⟨a,1,none⟩ v') v0 v' v1 u1 v2 u2 x0 x1 x2 ys' y1 y2 P0 (Gw Q0 w1.heap.size w2.heap.size) P1 Q1 P2 Q2:=by
 refine(eP.kids h (t:=0) (by decide) b c d).congr (fun t b=>?_)
 match t,b with
 |0,_=>exact⟨rfl,rfl,rfl,rfl,rfl,rfl⟩
 |1,_=>exact⟨rfl,rfl,rfl,rfl,rfl,rfl⟩
 |2,_=>exact⟨rfl,rfl,rfl,rfl,rfl,rfl⟩
 |_+3,b=>omega
theorem bG.fP(h:bG w0 a l r B Z U w v0 u0 v1 u1 v2 u2 x0 x1 x2 y0 y1 y2 P0 Q0 P1 Q1 P2 Q2):w.heap[l]?=some (te v1 u1)/\aG 2 220 w v1 (x1.map ay) P1/\aG 1 169 w u1 (y1.map aP) Q1:=eP.at_ h (t:=1) (by decide)
theorem bG.p1(h:bG w0 a l r B Z U w v0 u0 v1 u1 v2 u2 x0 x1 x2 y0 y1 y2 P0 Q0 P1 Q1 P2 Q2)(b:Below w.heap.size w w1)(c:OnlyC P1 w1 w2)(d:aG 2 220 w2 v' (xs'.map ay) (fun e q=>P1 e q\/w1.heap.size<=e)):
  bG w0 a l r B Z U (w2.setCell ⟨l,0,none⟩ v') v0 u0 v' u1 v2 u2 x0 xs' x2 y0 y1 y2 P0 Q0 (Gw P1 w1.heap.size w2.heap.size) Q1 P2 Q2:=by
 refine(eP.pairs h (t:=1) (by decide) b c d).congr (fun t b=>?_)
 match t,b with
 |0,_=>exact⟨rfl,rfl,rfl,rfl,rfl,rfl⟩
 |1,_=>exact⟨rfl,rfl,rfl,rfl,rfl,rfl⟩
 |2,_=>exact⟨rfl,rfl,rfl,rfl,rfl,rfl⟩
 |_+3,b=>omega
theorem bG.k1(h:bG w0 a l r B Z U w v0 u0 v1 u1 v2 u2 x0 x1 x2 y0 y1 y2 P0 Q0 P1 Q1 P2 Q2)(b:Below w.heap.size w w1)(c:OnlyC Q1 w1 w2)(d:aG 1 169 w2 v' (ys'.map aP) (fun e q=>Q1 e q\/w1.heap.size<=e)):
  bG w0 a l r B Z U (w2.setCell ⟨l,1,none⟩ v') v0 u0 v1 v' v2 u2 x0 x1 x2 y0 ys' y2 P0 Q0 P1 (Gw Q1 w1.heap.size w2.heap.size) P2 Q2:=by
 refine(eP.kids h (t:=1) (by decide) b c d).congr (fun t b=>?_)
 match t,b with
 |0,_=>exact⟨rfl,rfl,rfl,rfl,rfl,rfl⟩
 |1,_=>exact⟨rfl,rfl,rfl,rfl,rfl,rfl⟩
 |2,_=>exact⟨rfl,rfl,rfl,rfl,rfl,rfl⟩
 |_+3,b=>omega
theorem bG.iq(h:bG w0 a l r B Z U w v0 u0 v1 u1 v2 u2 x0 x1 x2 y0 y1 y2 P0 Q0 P1 Q1 P2 Q2):w.heap[r]?=some (te v2 u2)/\aG 2 220 w v2 (x2.map ay) P2/\aG 1 169 w u2 (y2.map aP) Q2:=eP.at_ h (t:=2) (by decide)
theorem bG.p2(h:bG w0 a l r B Z U w v0 u0 v1 u1 v2 u2 x0 x1 x2 y0 y1 y2 P0 Q0 P1 Q1 P2 Q2)(b:Below w.heap.size w w1)(c:OnlyC P2 w1 w2)(d:aG 2 220 w2 v' (xs'.map ay) (fun e q=>P2 e q\/w1.heap.size<=e)):
  bG w0 a l r B Z U (w2.setCell ⟨r,0,none⟩ v') v0 u0 v1 u1 v' u2 x0 x1 xs' y0 y1 y2 P0 Q0 P1 Q1 (Gw P2 w1.heap.size w2.heap.size) Q2:=by
 refine(eP.pairs h (t:=2) (by decide) b c d).congr (fun t b=>?_)
 match t,b with
 |0,_=>exact⟨rfl,rfl,rfl,rfl,rfl,rfl⟩
 |1,_=>exact⟨rfl,rfl,rfl,rfl,rfl,rfl⟩
 |2,_=>exact⟨rfl,rfl,rfl,rfl,rfl,rfl⟩
 |_+3,b=>omega
theorem bG.k2(h:bG w0 a l r B Z U w v0 u0 v1 u1 v2 u2 x0 x1 x2 y0 y1 y2 P0 Q0 P1 Q1 P2 Q2)(b:Below w.heap.size w w1)(c:OnlyC Q2 w1 w2)(d:aG 1 169 w2 v' (ys'.map aP) (fun e q=>Q2 e q\/w1.heap.size<=e)):
  bG w0 a l r B Z U (w2.setCell ⟨r,1,none⟩ v') v0 u0 v1 u1 v2 v' x0 x1 x2 y0 y1 ys' P0 Q0 P1 Q1 P2 (Gw Q2 w1.heap.size w2.heap.size):=by
 refine(eP.kids h (t:=2) (by decide) b c d).congr (fun t b=>?_)
 match t,b with
 |0,_=>exact⟨rfl,rfl,rfl,rfl,rfl,rfl⟩
 |1,_=>exact⟨rfl,rfl,rfl,rfl,rfl,rfl⟩
 |2,_=>exact⟨rfl,rfl,rfl,rfl,rfl,rfl⟩
 |_+3,b=>omega
theorem bG.i0(h:bG w0 a l r B Z U w v0 u0 v1 u1 v2 u2 x0 x1 x2 y0 y1 y2 P0 Q0 P1 Q1 P2 Q2)(b:OnlyC P0 w w2)(c:aG 2 220 w2 v0 (xs'.map ay) P0):bG w0 a l r B Z U w2 v0 u0 v1 u1 v2 u2 xs' x1 x2 y0 y1 y2 P0 Q0 P1 Q1 P2 Q2:=by
 refine(eP.inPlace h (t:=0) (by decide) b c).congr (fun t b=>?_)
 match t,b with
 |0,_=>exact⟨rfl,rfl,rfl,rfl,rfl,rfl⟩
 |1,_=>exact⟨rfl,rfl,rfl,rfl,rfl,rfl⟩
 |2,_=>exact⟨rfl,rfl,rfl,rfl,rfl,rfl⟩
 |_+3,b=>omega
theorem bG.oo(h:bG w0 a l r B Z U w v0 u0 v1 u1 v2 u2 x0 x1 x2 y0 y1 y2 P0 Q0 P1 Q1 P2 Q2){b q:Nat}(c:P0 b q): ¬P1 b q:=eP.apart h (t:=0) (s:=0) (t':=1) (s':=0) (by decide) (by decide) (by decide) (by decide) (by decide) c
theorem bG.uu(h:bG w0 a l r B Z U w v0 u0 v1 u1 v2 u2 x0 x1 x2 y0 y1 y2 P0 Q0 P1 Q1 P2 Q2){b q:Nat}(c:P0 b q): ¬P2 b q:=eP.apart h (t:=0) (s:=0) (t':=2) (s':=0) (by decide) (by decide) (by decide) (by decide) (by decide) c
theorem bG.LQ(h:bG w0 a l r B Z U w v0 u0 v1 u1 v2 u2 x0 x1 x2 y0 y1 y2 P0 Q0 P1 Q1 P2 Q2){b q:Nat}(c:P0 b q):b≠a:=eP.jb h (t:=0) (s:=0) (t':=0) (by decide) (by decide) (by decide) c
theorem bG.zG(h:bG w0 a l r B Z U w v0 u0 v1 u1 v2 u2 x0 x1 x2 y0 y1 y2 P0 Q0 P1 Q1 P2 Q2){b q:Nat}(c:P0 b q):b≠l:=eP.jb h (t:=0) (s:=0) (t':=1) (by decide) (by decide) (by decide) c
theorem bG.LR(h:bG w0 a l r B Z U w v0 u0 v1 u1 v2 u2 x0 x1 x2 y0 y1 y2 P0 Q0 P1 Q1 P2 Q2){b q:Nat}(c:P0 b q):b≠r:=eP.jb h (t:=0) (s:=0) (t':=2) (by decide) (by decide) (by decide) c
theorem bG.aah(h:bG w0 a l r B Z U w v0 u0 v1 u1 v2 u2 x0 x1 x2 y0 y1 y2 P0 Q0 P1 Q1 P2 Q2){b q:Nat}(c:Q0 b q):b≠a:=eP.jb h (t:=0) (s:=1) (t':=0) (by decide) (by decide) (by decide) c
theorem bG.Td(h:bG w0 a l r B Z U w v0 u0 v1 u1 v2 u2 x0 x1 x2 y0 y1 y2 P0 Q0 P1 Q1 P2 Q2){b q:Nat}(c:P1 b q):b≠a:=eP.jb h (t:=1) (s:=0) (t':=0) (by decide) (by decide) (by decide) c
theorem bG.EB(h:bG w0 a l r B Z U w v0 u0 v1 u1 v2 u2 x0 x1 x2 y0 y1 y2 P0 Q0 P1 Q1 P2 Q2){b q:Nat}(c:P1 b q):b≠l:=eP.jb h (t:=1) (s:=0) (t':=1) (by decide) (by decide) (by decide) c
theorem bG.aai(h:bG w0 a l r B Z U w v0 u0 v1 u1 v2 u2 x0 x1 x2 y0 y1 y2 P0 Q0 P1 Q1 P2 Q2){b q:Nat}(c:P1 b q):b≠r:=eP.jb h (t:=1) (s:=0) (t':=2) (by decide) (by decide) (by decide) c
theorem bG.uw(h:bG w0 a l r B Z U w v0 u0 v1 u1 v2 u2 x0 x1 x2 y0 y1 y2 P0 Q0 P1 Q1 P2 Q2){b q:Nat}(c:Q1 b q): ¬Q2 b q:=eP.apart h (t:=1) (s:=1) (t':=2) (s':=1) (by decide) (by decide) (by decide) (by decide) (by decide) c
theorem bG.zH(h:bG w0 a l r B Z U w v0 u0 v1 u1 v2 u2 x0 x1 x2 y0 y1 y2 P0 Q0 P1 Q1 P2 Q2){b q:Nat}(c:Q1 b q):b≠l:=eP.jb h (t:=1) (s:=1) (t':=1) (by decide) (by decide) (by decide) c
theorem bG.zI(h:bG w0 a l r B Z U w v0 u0 v1 u1 v2 u2 x0 x1 x2 y0 y1 y2 P0 Q0 P1 Q1 P2 Q2){b q:Nat}(c:Q1 b q):b≠r:=eP.jb h (t:=1) (s:=1) (t':=2) (by decide) (by decide) (by decide) c
theorem bG.aaj(h:bG w0 a l r B Z U w v0 u0 v1 u1 v2 u2 x0 x1 x2 y0 y1 y2 P0 Q0 P1 Q1 P2 Q2){b q:Nat}(c:P2 b q):b≠a:=eP.jb h (t:=2) (s:=0) (t':=0) (by decide) (by decide) (by decide) c
theorem bG.Te(h:bG w0 a l r B Z U w v0 u0 v1 u1 v2 u2 x0 x1 x2 y0 y1 y2 P0 Q0 P1 Q1 P2 Q2){b q:Nat}(c:P2 b q):b≠r:=eP.jb h (t:=2) (s:=0) (t':=2) (by decide) (by decide) (by decide) c
theorem bG.EC(h:bG w0 a l r B Z U w v0 u0 v1 u1 v2 u2 x0 x1 x2 y0 y1 y2 P0 Q0 P1 Q1 P2 Q2){b q:Nat}(c:Q2 b q):b≠l:=eP.jb h (t:=2) (s:=1) (t':=1) (by decide) (by decide) (by decide) c
theorem bG.ED(h:bG w0 a l r B Z U w v0 u0 v1 u1 v2 u2 x0 x1 x2 y0 y1 y2 P0 Q0 P1 Q1 P2 Q2){b q:Nat}(c:Q2 b q):b≠r:=eP.jb h (t:=2) (s:=1) (t':=2) (by decide) (by decide) (by decide) c
theorem bG.aak(h:bG w0 a l r B Z U w v0 u0 v1 u1 v2 u2 x0 x1 x2 y0 y1 y2 P0 Q0 P1 Q1 P2 Q2){b q:Nat}(c:P2 b q):b<w.heap.size:=eP.lt h (t:=2) (s:=0) (by decide) (by decide) c
theorem bG.Tf(h:bG w0 a l r B Z U w v0 u0 v1 u1 v2 u2 x0 x1 x2 y0 y1 y2 P0 Q0 P1 Q1 P2 Q2){b q:Nat}(c:Q2 b q):b<w.heap.size:=eP.lt h (t:=2) (s:=1) (by decide) (by decide) c
theorem bG.e01(h:bG w0 a l r B Z U w v0 u0 v1 u1 v2 u2 x0 x1 x2 y0 y1 y2 P0 Q0 P1 Q1 P2 Q2):a≠l:=eP.OL h (t:=0) (t':=1) (by decide) (by decide) (by decide)
theorem bG.e02(h:bG w0 a l r B Z U w v0 u0 v1 u1 v2 u2 x0 x1 x2 y0 y1 y2 P0 Q0 P1 Q1 P2 Q2):a≠r:=eP.OL h (t:=0) (t':=2) (by decide) (by decide) (by decide)
theorem bG.e12(h:bG w0 a l r B Z U w v0 u0 v1 u1 v2 u2 x0 x1 x2 y0 y1 y2 P0 Q0 P1 Q1 P2 Q2):l≠r:=eP.OL h (t:=1) (t':=2) (by decide) (by decide) (by decide)
end
def bas(H Hl Hr:Nat->Nat->Nat->Prop):Nat->Nat->Nat->Nat->Prop:=fun t s=>EA (H (s+1)) (Hl (s+1)) (Hr (s+1)) t
theorem bG.start{w:World}{d a i l r:Nat}{x kl kr:ND}{F:Nat->Nat->Prop}{vp vk vl ul vr ur:Value}{aC pl pr:List Nat}{H Hl Hr:Nat->Nat->Nat->Prop}(f:aY w (aB w d) a x F vp vk aC H)(b: ∀c q,F c q->c<w.heap.size)
  (e:aY w (bY w d) l kl (H (i+3)) vl ul pl Hl) (c:aY w (bY w d) r kr (H (i+4)) vr ur pr Hr):
  bG w a l r (bas H Hl Hr) (Kc H Hl Hr i) F w vp vk vl ul vr ur x.ps kl.ps kr.ps aC pl pr (H 1) (H 2) (Hl 1) (Hl 2) (Hr 1) (Hr 2):=by
 refine(eP.start f b e c).congr (fun t b=>?_)
 match t,b with
 |0,_=>exact⟨rfl,rfl,rfl,rfl,rfl,rfl⟩
 |1,_=>exact⟨rfl,rfl,rfl,rfl,rfl,rfl⟩
 |2,_=>exact⟨rfl,rfl,rfl,rfl,rfl,rfl⟩
 |_+3,b=>omega
section
variable{w w':World}{d a i l r:Nat}{x kl kr:ND}{F:Nat->Nat->Prop}{vp vk vl ul vr ur:Value}{aC pl pr:List Nat}{H Hl Hr:Nat->Nat->Nat->Prop}
 {v0 u0 v1 u1 v2 u2:Value} {x0 x1 x2:List Pr} {y0 y1 y2:List Nat} {P0 Q0 P1 Q1 P2 Q2:Nat->Nat->Prop}
theorem gS(hO:aY w (aB w d) a x F vp vk aC H)(hF: ∀b q,F b q->b<w.heap.size)(hi:i+2<=x.ks.length)
  (hL:aY w (bY w d) l kl (H (i+3)) vl ul pl Hl) (Hh: ∀i b q,Hl i b q->i<kl.ks.length+3) (hR:aY w (bY w d) r kr (H (i+4)) vr ur pr Hr) (Su: ∀i b q,Hr i b q->i<kr.ks.length+3)
  (hB:bG w a l r (bas H Hl Hr) (Kc H Hl Hr i) F w' v0 u0 v1 u1 v2 u2 x0 x1 x2 y0 y1 y2 P0 Q0 P1 Q1 P2 Q2)
  (Tg hi1:Nat) (h1:Tg<=hi1) (h1':hi1<=kl.ks.length) (LS:List (Nat×ND)) (M1:Nat->Nat->Nat->Prop) (Ti hi2:Nat) (h2:Ti<=hi2) (h2':hi2<=kr.ks.length) (LU:List (Nat×ND)) (M2:Nat->Nat->Nat->Prop)
  (hy0:y0=aC) (hl:aC[i]?=some l) (hr:aC[i+1]?=some r) (hy1:y1=pl.take Tg++LS.map Prod.fst++pl.drop hi1) (hy2:y2=pr.take Ti++LU.map Prod.fst++pr.drop hi2)
  (hM1: ∀m b q,M1 m b q-> ∃j,Ti<=j/\j<hi2/\Hr (j+3) b q) (ve: ∀m b q,M2 m b q-> ∃j,Tg<=j/\j<hi1/\Hl (j+3) b q)
  (aco: ∀m m' b q,M1 m b q->M1 m' b q->m=m') (acp: ∀m m' b q,M2 m b q->M2 m' b q->m=m')
  (aal: ∀m p k,LS[m]?=some (p,k)->bY w d p k (M1 m)) (aam: ∀m p k,LU[m]?=some (p,k)->bY w d p k (M2 m))
  (h01:d=0->kl.ks.take Tg++LS.map Prod.snd++kl.ks.drop hi1=[]) (h02:d=0->kr.ks.take Ti++LU.map Prod.snd++kr.ks.drop hi2=[]):
  aB w' (d+1) a (.mk x0 (x.ks.take i++ .mk x1 (kl.ks.take Tg++LS.map Prod.snd++kl.ks.drop hi1):: .mk x2 (kr.ks.take Ti++LU.map Prod.snd++kr.ks.drop hi2)::x.ks.drop (i+2))) (fun b q=>F b q\/w.heap.size<=b)/\OnlyC F w w':=by
 rw[hy0]at hB;have hKl: ∀b q,H (i+3) b q->b<w.heap.size:=fun b q hh=>hF b q (hO.own.1 _ b q hh);have hKr: ∀b q,H (i+4) b q->b<w.heap.size:=fun b q hh=>hF b q (hO.own.1 _ b q hh);have hlr: ∀b q,H (i+3) b q-> ¬H (i+4) b q:=fun b q=>hO.own.2.1 (i+3) (i+4) b q (by omega)
 obtain⟨RL,nL,hRL⟩:=eP.node hL Hh hKl hB (t:=1) (by decide) rfl rfl rfl (fun j b q hh=>.inr (.inl ⟨j,hh⟩)) Tg hi1 h1 h1' LS M1 hy1
  (fun m b q hm=>by obtain⟨j,_,_,hj⟩:=hM1 m b q hm;exact⟨.inr (.inr ⟨j,hj⟩),fun hk=>hlr b q hk (hR.own.1 _ b q hj)⟩) aco aal h01
 obtain⟨RR,nR,hRR⟩:=eP.node hR Su hKr hB (t:=2) (by decide) rfl rfl rfl (fun j b q hh=>.inr (.inr ⟨j,hh⟩)) Ti hi2 h2 h2' LU M2 hy2
  (fun m b q hm=>by obtain⟨j,_,_,hj⟩:=ve m b q hm;exact⟨.inr (.inl ⟨j,hj⟩),fun hk=>hlr b q (hL.own.1 _ b q hj) hk⟩) acp aam h02
 have hbP: ∀s b q,s<2->((uZ P1 Q1 s) b q\/(uZ P2 Q2 s) b q)->H (i+3) b q\/H (i+4) b q\/w.heap.size<=b:=fun s b q hs hh=>by
  rcases hh with hh|hh
  ·rcases eP.base hB (t:=1) (s:=s) (by decide) hs hh with h3|h3
   ·exact .inl (hL.own.1 _ b q h3)
   ·exact .inr (.inr h3)
  ·rcases eP.base hB (t:=2) (s:=s) (by decide) hs hh with h3|h3
   ·exact .inr (.inl (hR.own.1 _ b q h3))
   ·exact .inr (.inr h3)
 have mA: ∀b q,RL b q-> ¬RR b q:=by
  intro b q c1 c2
  have hz: ∀{s t j},s<2->t<3->(EA (uZ P0 Q0 s) (uZ P1 Q1 s) (uZ P2 Q2 s) t) b q->(Hl (j+3) b q\/Hr (j+3) b q)->False:=fun{s t j} hs ht hp hh=>by
   obtain⟨lab,hN,hz,_⟩:=hB
   have e1:lab b q=10*t+s+1:=match s,hs,hp with
    |0,_,hp=>((hN t ht).l1 b q hp).1
    |1,_,hp=>((hN t ht).l2 b q hp).1
    |_+2,hs,_=>by omega
   have e2:=(hz b q (hh.elim (fun h=>.inr (.inl ⟨j,h⟩)) (fun h=>.inr (.inr ⟨j,h⟩)))).1;omega
  have hown: ∀{s t},s<2->t<3->(EA (uZ P0 Q0 s) (uZ P1 Q1 s) (uZ P2 Q2 s) t) b q->(Hl 0 b q\/Hr 0 b q)->b<w.heap.size->(t=1-> ¬Hr 0 b q)/\(t=2-> ¬Hl 0 b q):=fun{s t} hs ht hp hh hb=>by
   rcases eP.base hB (t:=t) (s:=s) ht hs hp with h3|h3
   ·refine⟨fun e h4=>?_,fun e h4=>?_⟩
    ·subst e;exact hlr b q (hL.own.1 _ b q h3) (hR.own.1 0 b q h4)
    ·subst e;exact hlr b q (hL.own.1 0 b q h4) (hR.own.1 _ b q h3)
   ·omega
  have L:(Hl 0 b q/\b<w.heap.size)\/(∃s,s<2/\uZ P1 Q1 s b q)\/(∃j,(j<Tg\/hi1<=j)/\Hl (j+3) b q)\/(∃j,Ti<=j/\j<hi2/\Hr (j+3) b q):=by
   rcases hRL b q c1 with c|c|c|⟨j,hj,c⟩|⟨m,c⟩
   ·exact .inl ⟨c,hKl b q (hL.own.1 0 b q c)⟩
   ·exact .inr (.inl ⟨0,by decide,c⟩)
   ·exact .inr (.inl ⟨1,by decide,c⟩)
   ·exact .inr (.inr (.inl ⟨j,by omega,c⟩))
   ·exact .inr (.inr (.inr (hM1 m b q c)))
  have R:(Hr 0 b q/\b<w.heap.size)\/(∃s,s<2/\uZ P2 Q2 s b q)\/(∃j,(j<Ti\/hi2<=j)/\Hr (j+3) b q)\/(∃j,Tg<=j/\j<hi1/\Hl (j+3) b q):=by
   rcases hRR b q c2 with c|c|c|⟨j,hj,c⟩|⟨m,c⟩
   ·exact .inl ⟨c,hKr b q (hR.own.1 0 b q c)⟩
   ·exact .inr (.inl ⟨0,by decide,c⟩)
   ·exact .inr (.inl ⟨1,by decide,c⟩)
   ·exact .inr (.inr (.inl ⟨j,by omega,c⟩))
   ·exact .inr (.inr (.inr (ve m b q c)))
  rcases L with⟨a1,a2⟩|⟨s,hs,a1⟩|⟨j,hj,a1⟩|⟨j,hj,hj',a1⟩<;>rcases R with⟨b1,b2⟩|⟨s',hs',b1⟩|⟨j',hk,b1⟩|⟨j',hk,hk',b1⟩
  ·exact hlr b q (hL.own.1 _ b q a1) (hR.own.1 _ b q b1)
  ·exact(hown hs' (t:=2) (by decide) b1 (.inl a1) a2).2 rfl a1
  ·exact hlr b q (hL.own.1 _ b q a1) (hR.own.1 _ b q b1)
  ·exact hL.own.2.1 0 (j'+3) b q (by omega) a1 b1
  ·exact(hown hs (t:=1) (by decide) a1 (.inr b1) b2).1 rfl b1
  ·exact eP.apart hB (t:=1) (s:=s) (t':=2) (s':=s') (by decide) (by decide) hs hs' (by omega) a1 b1
  ·exact hz hs (t:=1) (by decide) a1 (.inr b1)
  ·exact hz hs (t:=1) (by decide) a1 (.inl b1)
  ·exact hlr b q (hL.own.1 _ b q a1) (hR.own.1 _ b q b1)
  ·exact hz hs' (t:=2) (by decide) b1 (.inl a1)
  ·exact hlr b q (hL.own.1 _ b q a1) (hR.own.1 _ b q b1)
  ·have:=hL.2.2.2.2.2.2.2 _ _ b q a1 b1;omega
  ·exact hR.own.2.1 0 (j+3) b q (by omega) b1 a1
  ·exact hz hs' (t:=2) (by decide) b1 (.inr a1)
  ·have:=hR.2.2.2.2.2.2.2 _ _ b q a1 b1;omega
  ·exact hlr b q (hL.own.1 _ b q b1) (hR.own.1 _ b q a1)
 have aan: ∀b q,RL b q\/RR b q->H (i+3) b q\/H (i+4) b q\/(∃s,s<2/\(uZ P1 Q1 s b q\/uZ P2 Q2 s b q)):=by
  rintro b q (c|c)
  ·rcases hRL b q c with c|c|c|⟨j,hj,c⟩|⟨m,c⟩
   ·exact .inl (hL.own.1 0 b q c)
   ·exact .inr (.inr ⟨0,by decide,.inl c⟩)
   ·exact .inr (.inr ⟨1,by decide,.inl c⟩)
   ·exact .inl (hL.own.1 _ b q c)
   ·obtain⟨j,_,_,hj⟩:=hM1 m b q c;exact .inr (.inl (hR.own.1 _ b q hj))
  ·rcases hRR b q c with c|c|c|⟨j,hj,c⟩|⟨m,c⟩
   ·exact .inr (.inl (hR.own.1 0 b q c))
   ·exact .inr (.inr ⟨0,by decide,.inr c⟩)
   ·exact .inr (.inr ⟨1,by decide,.inr c⟩)
   ·exact .inr (.inl (hR.own.1 _ b q c))
   ·obtain⟨j,_,_,hj⟩:=ve m b q c;exact .inl (hL.own.1 _ b q hj)
 have Hj:aC=aC.take i++l::r::aC.drop (i+2):=AJ hl hr
 have nP:=eP.parent hO hF hi hB rfl rfl rfl (fun j b q a1 a2 hh=>.inl ⟨j,a1,a2,hh⟩) [(l,.mk x1 (kl.ks.take Tg++LS.map Prod.snd++kl.ks.drop hi1)),(r,.mk x2 (kr.ks.take Ti++LU.map Prod.snd++kr.ks.drop hi2))] (rO RL RR) (by
   show aC=_
   conv=>lhs;rw[Hj]
   simp)
  (fun m b q hm=>match m,hm with
   |0,hm=>aan b q (.inl hm)
   |1,hm=>aan b q (.inr hm)
   |_+2,hm=>hm.elim)
  (fun m m' b q hm hm'=>by
   match m,hm,m',hm' with
   |0,_,0,_=>rfl
   |1,_,1,_=>rfl
   |0,h1,1,h2=>exact absurd h2 (mA b q h1)
   |1,h1,0,h2=>exact absurd h1 (mA b q h2)
   |_+2,h1,_,_=>exact h1.elim
   |0,_,_+2,h2=>exact h2.elim
   |1,_,_+2,h2=>exact h2.elim)
  (fun m p k hm=>by
   match m,hm with
   |0,hm=>simp only[jj,fi,mv]at hm;obtain⟨rfl,rfl⟩:=hm;exact nL
   |1,hm=>simp only[List.getElem?_cons_succ,jj,fi,mv]at hm;obtain⟨rfl,rfl⟩:=hm;exact nR
   |m+2,hm=>simp at hm) hbP
 refine⟨?_,hB.VH⟩;simpa using nP
end
section
variable{w w':World}{d a i l r:Nat}{x kl kr:ND}{F:Nat->Nat->Prop}{vp vk vl ul vr ur:Value}{aC pl pr:List Nat}{H Hl Hr:Nat->Nat->Nat->Prop}
 {v0 u0 v1 u1 v2 u2:Value} {x0 x1 x2:List Pr} {y0 y1 y2:List Nat} {P0 Q0 P1 Q1 P2 Q2:Nat->Nat->Prop}
theorem Kf(o:aY w (aB w d) a x F vp vk aC H)(s: ∀c q,F c q->c<w.heap.size)(hi:i+2<=x.ks.length)
  (h:aY w (bY w d) l kl (H (i+3)) vl ul pl Hl) (n: ∀i c q,Hl i c q->i<kl.ks.length+3) (g:aY w (bY w d) r kr (H (i+4)) vr ur pr Hr)
  (m:bG w a l r (bas H Hl Hr) (Kc H Hl Hr i) F w' v0 u0 v1 u1 v2 u2 x0 x1 x2 y0 y1 y2 P0 Q0 P1 Q1 P2 Q2)
  (z:y0=aC.take i++[l]++aC.drop (i+2)) (j:y1=pl++pr) (v:d=0->kl.ks++kr.ks=[]):
  aB w' (d+1) a (.mk x0 (x.ks.take i++ .mk x1 (kl.ks++kr.ks)::x.ks.drop (i+2))) (fun c q=>F c q\/w.heap.size<=c)/\OnlyC F w w':=by
 have b: ∀c q,H (i+3) c q->c<w.heap.size:=fun c q e=>s c q (o.own.1 _ c q e);have p: ∀c q,H (i+3) c q-> ¬H (i+4) c q:=fun c q=>o.own.2.1 (i+3) (i+4) c q (by omega);have f:pr.length=kr.ks.length:=g.2.2.2.2.1;have t:(pr.zip kr.ks).map Prod.fst=pr:=List.map_fst_zip (by omega);have f:(pr.zip kr.ks).map Prod.snd=kr.ks:=List.map_snd_zip (by omega);have k:pl.length=kl.ks.length:=h.2.2.2.2.1
 obtain⟨B,u,A⟩:=eP.node h n b m (t:=1) (by decide) rfl rfl rfl (fun C c q e=>.inr (.inl ⟨C,e⟩)) kl.ks.length kl.ks.length (b8 _) (b8 _) (pr.zip kr.ks) (fun n c q=>Hr (n+3) c q)
  (by
   show y1=_
   rw[j,t,<-k,gE,List.drop_length,fs])
  (fun n c q b=>⟨.inr (.inr ⟨n,b⟩),fun j=>p c q j (g.own.1 _ c q b)⟩) (fun n t c q j k=>by have:=g.2.2.2.2.2.2.2 _ _ c q j k;omega)
  (fun n E D b=>by
   rw[List.getElem?_zip_eq_some]at b
   exact g.2.2.2.2.2.1 n E D b.1 b.2)
  (fun p=>by rw[f,gE,List.drop_length,fs];exact v p)
 rw[f,gE,List.drop_length,fs]at u
 have y: ∀v c q,v<2->((uZ P1 Q1 v) c q\/(uZ P2 Q2 v) c q)->H (i+3) c q\/H (i+4) c q\/w.heap.size<=c:=fun v c q p e=>by
  rcases e with e|e
  ·rcases eP.base m (t:=1) (s:=v) (by decide) p e with f|f
   ·exact .inl (h.own.1 _ c q f)
   ·exact .inr (.inr f)
  ·rcases eP.base m (t:=2) (s:=v) (by decide) p e with f|f
   ·exact .inr (.inl (g.own.1 _ c q f))
   ·exact .inr (.inr f)
 have p:=eP.parent o s hi m rfl rfl rfl (fun C c q f o e=>.inl ⟨C,f,o,e⟩) [(l,.mk x1 (kl.ks++kr.ks))] (rO B (fun _ _=>False)) (by
   show y0=_;rw[z]
   rfl)
  (fun n c q b=>match n,b with
   |0,b=>by
    rcases A c q b with e|e|e|⟨C,f,e⟩|⟨n,e⟩
    ·exact .inl (h.own.1 0 c q e)
    ·exact .inr (.inr ⟨0,by decide,.inl e⟩)
    ·exact .inr (.inr ⟨1,by decide,.inl e⟩)
    ·exact .inl (h.own.1 _ c q e)
    ·exact .inr (.inl (g.own.1 _ c q e))
   |1,b=>b.elim
   |_+2,b=>b.elim)
  (fun n t c q b e=>by
   match n,b,t,e with
   |0,_,0,_=>rfl
   |1,j,_,_=>exact j.elim
   |_+2,j,_,_=>exact j.elim
   |0,_,1,k=>exact k.elim
   |0,_,_+2,k=>exact k.elim)
  (fun n E D b=>by
   match n,b with
   |0,b=>simp only[jj,fi,mv]at b;obtain⟨rfl,rfl⟩:=b;exact u
   |n+1,b=>simp at b) y
 refine⟨?_,m.VH⟩;simpa using p
end
end Go.Proofs.YtehccbdajiiaaaaGreatDoor
