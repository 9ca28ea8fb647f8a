import Derived.Test.YtagemonojdgbdaaGreatDoorF04
namespace Go.Proofs.YtagemonojdgbdaaGreatDoor
set_option maxRecDepth 100000
open Go.RowKit
theorem dS.congr{w0 w:World}{A:Nat->Nat}{B:Nat->Nat->Nat->Nat->Prop}{Z U:Nat->Nat->Prop}{V V':Nat->Nat->Value}{X X':Nat->List Pr}{Y Y':Nat->List Nat}{P P':Nat->Nat->Nat->Nat->Prop}(h:dS w0 A B Z U w V X Y P)
  (hv: ∀t,t<3->V t 0=V' t 0/\V t 1=V' t 1/\X t=X' t/\Y t=Y' t/\P t 0=P' t 0/\P t 1=P' t 1):dS w0 A B Z U w V' X' Y' P':=by
 obtain⟨lab,hN,h1,h2,h3⟩:=h;refine⟨lab,fun t ht=>?_,h1,h2,h3⟩;obtain⟨e1,e2,e3,e4,e5,e6⟩:=hv t ht;rw[<-e1,<-e2,<-e3,<-e4,<-e5,<-e6];exact hN t ht
theorem dS.lt{w0 w:World}{A:Nat->Nat}{B:Nat->Nat->Nat->Nat->Prop}{Z U:Nat->Nat->Prop}{V:Nat->Nat->Value}{X:Nat->List Pr}{Y:Nat->List Nat}{P:Nat->Nat->Nat->Nat->Prop}(h:dS w0 A B Z U w V X Y P){t s b q:Nat}(ht:t<3)(hs:s<2)(h1:P t s b q):b<w.heap.size:=by
 obtain⟨lab,hN,_⟩:=h
 match s,hs,h1 with
 |0,_,h1=>exact((hN t ht).l1 b q h1).2.1
 |1,_,h1=>exact((hN t ht).l2 b q h1).2.1
 |_+2,hs,_=>omega
theorem dS.base{w0 w:World}{A:Nat->Nat}{B:Nat->Nat->Nat->Nat->Prop}{Z U:Nat->Nat->Prop}{V:Nat->Nat->Value}{X:Nat->List Pr}{Y:Nat->List Nat}{P:Nat->Nat->Nat->Nat->Prop}(h:dS w0 A B Z U w V X Y P){t s b q:Nat}(ht:t<3)(hs:s<2)(h1:P t s b q):B t s b q\/w0.heap.size<=b:=by
 obtain⟨lab,hN,_⟩:=h
 match s,hs,h1 with
 |0,_,h1=>exact((hN t ht).l1 b q h1).2.2
 |1,_,h1=>exact((hN t ht).l2 b q h1).2.2
 |_+2,hs,_=>omega
def bt(w0:World)(a l r:Nat)(B:Nat->Nat->Nat->Nat->Prop)(Z U:Nat->Nat->Prop)(w:World)(v0 u0 v1 u1 v2 u2:Value)(x0 x1 x2:List Pr)(y0 y1 y2:List Nat)(P0 Q0 P1 Q1 P2 Q2:Nat->Nat->Prop):Prop:=
 dS w0 (BD a l r) B Z U w (fun t s=>BD (sD v0 u0 s) (sD v1 u1 s) (sD v2 u2 s) t) (BD x0 x1 x2) (BD y0 y1 y2) (fun t s=>BD (sD P0 Q0 s) (sD P1 Q1 s) (sD P2 Q2 s) t)
def Gw(P:Nat->Nat->Prop)(n m:Nat)(b q:Nat):Prop:=(P b q\/n<=b)/\b<m
section
variable{w0 w w1 w2:World}{a l r:Nat}{B:Nat->Nat->Nat->Nat->Prop}{Z U:Nat->Nat->Prop}{v0 u0 v1 u1 v2 u2 v':Value}{x0 x1 x2 xs':List Pr}{y0 y1 y2 ys':List Nat}{P0 Q0 P1 Q1 P2 Q2:Nat->Nat->Prop}
theorem bt.below(h:bt w0 a l r B Z U w v0 u0 v1 u1 v2 u2 x0 x1 x2 y0 y1 y2 P0 Q0 P1 Q1 P2 Q2)(hb:Below w.heap.size w w1):bt w0 a l r B Z U w1 v0 u0 v1 u1 v2 u2 x0 x1 x2 y0 y1 y2 P0 Q0 P1 Q1 P2 Q2:=dS.below h hb
theorem bt.kg(h:bt w0 a l r B Z U w v0 u0 v1 u1 v2 u2 x0 x1 x2 y0 y1 y2 P0 Q0 P1 Q1 P2 Q2):w.heap[a]?=some (.cells #[v0,u0] 201 (0,0))/\az 2 210 w v0 (x0.map ax) P0/\az 1 197 w u0 (y0.map aL) Q0:=dS.at_ h (t:=0) (by decide)
theorem bt.p0(h:bt w0 a l r B Z U w v0 u0 v1 u1 v2 u2 x0 x1 x2 y0 y1 y2 P0 Q0 P1 Q1 P2 Q2)(hb:Below w.heap.size w w1)(ho:OnlyC P0 w1 w2)(hs:az 2 210 w2 v' (xs'.map ax) (fun b q=>P0 b q\/w1.heap.size<=b)):
  bt w0 a l r B Z U (w2.setCell ⟨a,0,none⟩ v') v' u0 v1 u1 v2 u2 xs' x1 x2 y0 y1 y2 (Gw P0 w1.heap.size w2.heap.size) Q0 P1 Q1 P2 Q2:=by
 refine(dS.pairs h (t:=0) (by decide) hb ho hs).congr (fun t ht=>?_)
 match t,ht with
 |0,_=>exact⟨rfl,rfl,rfl,rfl,rfl,rfl⟩
 |1,_=>exact⟨rfl,rfl,rfl,rfl,rfl,rfl⟩
 |2,_=>exact⟨rfl,rfl,rfl,rfl,rfl,rfl⟩
 |_+3,ht=>omega
theorem bt.k0(h:bt w0 a l r B Z U w v0 u0 v1 u1 v2 u2 x0 x1 x2 y0 y1 y2 P0 Q0 P1 Q1 P2 Q2)(hb:Below w.heap.size w w1)(ho:OnlyC Q0 w1 w2)(hs:az 1 197 w2 v' (ys'.map aL) (fun b q=>Q0 b q\/w1.heap.size<=b)):
  bt w0 a l r B Z U (w2.setCell ⟨a,1,none⟩ v') v0 v' v1 u1 v2 u2 x0 x1 x2 ys' y1 y2 P0 (Gw Q0 w1.heap.size w2.heap.size) P1 Q1 P2 Q2:=by
 refine(dS.kids h (t:=0) (by decide) hb ho hs).congr (fun t ht=>?_)
 match t,ht with
 |0,_=>exact⟨rfl,rfl,rfl,rfl,rfl,rfl⟩
 |1,_=>exact⟨rfl,rfl,rfl,rfl,rfl,rfl⟩
 |2,_=>exact⟨rfl,rfl,rfl,rfl,rfl,rfl⟩
 |_+3,ht=>omega
theorem bt.ft(h:bt w0 a l r B Z U w v0 u0 v1 u1 v2 u2 x0 x1 x2 y0 y1 y2 P0 Q0 P1 Q1 P2 Q2):w.heap[l]?=some (.cells #[v1,u1] 201 (0,0))/\az 2 210 w v1 (x1.map ax) P1/\az 1 197 w u1 (y1.map aL) Q1:=dS.at_ h (t:=1) (by decide)
theorem bt.p1(h:bt w0 a l r B Z U w v0 u0 v1 u1 v2 u2 x0 x1 x2 y0 y1 y2 P0 Q0 P1 Q1 P2 Q2)(hb:Below w.heap.size w w1)(ho:OnlyC P1 w1 w2)(hs:az 2 210 w2 v' (xs'.map ax) (fun b q=>P1 b q\/w1.heap.size<=b)):
  bt w0 a l r B Z U (w2.setCell ⟨l,0,none⟩ v') v0 u0 v' u1 v2 u2 x0 xs' x2 y0 y1 y2 P0 Q0 (Gw P1 w1.heap.size w2.heap.size) Q1 P2 Q2:=by
 refine(dS.pairs h (t:=1) (by decide) hb ho hs).congr (fun t ht=>?_)
 match t,ht with
 |0,_=>exact⟨rfl,rfl,rfl,rfl,rfl,rfl⟩
 |1,_=>exact⟨rfl,rfl,rfl,rfl,rfl,rfl⟩
 |2,_=>exact⟨rfl,rfl,rfl,rfl,rfl,rfl⟩
 |_+3,ht=>omega
theorem bt.k1(h:bt w0 a l r B Z U w v0 u0 v1 u1 v2 u2 x0 x1 x2 y0 y1 y2 P0 Q0 P1 Q1 P2 Q2)(hb:Below w.heap.size w w1)(ho:OnlyC Q1 w1 w2)(hs:az 1 197 w2 v' (ys'.map aL) (fun b q=>Q1 b q\/w1.heap.size<=b)):
  bt w0 a l r B Z U (w2.setCell ⟨l,1,none⟩ v') v0 u0 v1 v' v2 u2 x0 x1 x2 y0 ys' y2 P0 Q0 P1 (Gw Q1 w1.heap.size w2.heap.size) P2 Q2:=by
 refine(dS.kids h (t:=1) (by decide) hb ho hs).congr (fun t ht=>?_)
 match t,ht with
 |0,_=>exact⟨rfl,rfl,rfl,rfl,rfl,rfl⟩
 |1,_=>exact⟨rfl,rfl,rfl,rfl,rfl,rfl⟩
 |2,_=>exact⟨rfl,rfl,rfl,rfl,rfl,rfl⟩
 |_+3,ht=>omega
theorem bt.gu(h:bt w0 a l r B Z U w v0 u0 v1 u1 v2 u2 x0 x1 x2 y0 y1 y2 P0 Q0 P1 Q1 P2 Q2):w.heap[r]?=some (.cells #[v2,u2] 201 (0,0))/\az 2 210 w v2 (x2.map ax) P2/\az 1 197 w u2 (y2.map aL) Q2:=dS.at_ h (t:=2) (by decide)
theorem bt.p2(h:bt w0 a l r B Z U w v0 u0 v1 u1 v2 u2 x0 x1 x2 y0 y1 y2 P0 Q0 P1 Q1 P2 Q2)(hb:Below w.heap.size w w1)(ho:OnlyC P2 w1 w2)(hs:az 2 210 w2 v' (xs'.map ax) (fun b q=>P2 b q\/w1.heap.size<=b)):
  bt w0 a l r B Z U (w2.setCell ⟨r,0,none⟩ v') v0 u0 v1 u1 v' u2 x0 x1 xs' y0 y1 y2 P0 Q0 P1 Q1 (Gw P2 w1.heap.size w2.heap.size) Q2:=by
 refine(dS.pairs h (t:=2) (by decide) hb ho hs).congr (fun t ht=>?_)
 match t,ht with
 |0,_=>exact⟨rfl,rfl,rfl,rfl,rfl,rfl⟩
 |1,_=>exact⟨rfl,rfl,rfl,rfl,rfl,rfl⟩
 |2,_=>exact⟨rfl,rfl,rfl,rfl,rfl,rfl⟩
 |_+3,ht=>omega
theorem bt.k2(h:bt w0 a l r B Z U w v0 u0 v1 u1 v2 u2 x0 x1 x2 y0 y1 y2 P0 Q0 P1 Q1 P2 Q2)(hb:Below w.heap.size w w1)(ho:OnlyC Q2 w1 w2)(hs:az 1 197 w2 v' (ys'.map aL) (fun b q=>Q2 b q\/w1.heap.size<=b)):
  bt w0 a l r B Z U (w2.setCell ⟨r,1,none⟩ v') v0 u0 v1 u1 v2 v' x0 x1 x2 y0 y1 ys' P0 Q0 P1 Q1 P2 (Gw Q2 w1.heap.size w2.heap.size):=by
 refine(dS.kids h (t:=2) (by decide) hb ho hs).congr (fun t ht=>?_)
 match t,ht with
 |0,_=>exact⟨rfl,rfl,rfl,rfl,rfl,rfl⟩
 |1,_=>exact⟨rfl,rfl,rfl,rfl,rfl,rfl⟩
 |2,_=>exact⟨rfl,rfl,rfl,rfl,rfl,rfl⟩
 |_+3,ht=>omega
theorem bt.i0(h:bt w0 a l r B Z U w v0 u0 v1 u1 v2 u2 x0 x1 x2 y0 y1 y2 P0 Q0 P1 Q1 P2 Q2)(ho:OnlyC P0 w w2)(hs:az 2 210 w2 v0 (xs'.map ax) P0):bt w0 a l r B Z U w2 v0 u0 v1 u1 v2 u2 xs' x1 x2 y0 y1 y2 P0 Q0 P1 Q1 P2 Q2:=by
 refine(dS.inPlace h (t:=0) (by decide) ho hs).congr (fun t ht=>?_)
 match t,ht with
 |0,_=>exact⟨rfl,rfl,rfl,rfl,rfl,rfl⟩
 |1,_=>exact⟨rfl,rfl,rfl,rfl,rfl,rfl⟩
 |2,_=>exact⟨rfl,rfl,rfl,rfl,rfl,rfl⟩
 |_+3,ht=>omega
theorem bt.mG(h:bt w0 a l r B Z U w v0 u0 v1 u1 v2 u2 x0 x1 x2 y0 y1 y2 P0 Q0 P1 Q1 P2 Q2){b q:Nat}(h1:P0 b q): ¬P1 b q:=dS.apart h (t:=0) (s:=0) (t':=1) (s':=0) (by decide) (by decide) (by decide) (by decide) (by decide) h1
theorem bt.rQ(h:bt w0 a l r B Z U w v0 u0 v1 u1 v2 u2 x0 x1 x2 y0 y1 y2 P0 Q0 P1 Q1 P2 Q2){b q:Nat}(h1:P0 b q): ¬P2 b q:=dS.apart h (t:=0) (s:=0) (t':=2) (s':=0) (by decide) (by decide) (by decide) (by decide) (by decide) h1
theorem bt.Hp(h:bt w0 a l r B Z U w v0 u0 v1 u1 v2 u2 x0 x1 x2 y0 y1 y2 P0 Q0 P1 Q1 P2 Q2){b q:Nat}(h1:P0 b q):b≠a:=dS.ia h (t:=0) (s:=0) (t':=0) (by decide) (by decide) (by decide) h1
theorem bt.vX(h:bt w0 a l r B Z U w v0 u0 v1 u1 v2 u2 x0 x1 x2 y0 y1 y2 P0 Q0 P1 Q1 P2 Q2){b q:Nat}(h1:P0 b q):b≠l:=dS.ia h (t:=0) (s:=0) (t':=1) (by decide) (by decide) (by decide) h1
theorem bt.Hq(h:bt w0 a l r B Z U w v0 u0 v1 u1 v2 u2 x0 x1 x2 y0 y1 y2 P0 Q0 P1 Q1 P2 Q2){b q:Nat}(h1:P0 b q):b≠r:=dS.ia h (t:=0) (s:=0) (t':=2) (by decide) (by decide) (by decide) h1
theorem bt.Ur(h:bt w0 a l r B Z U w v0 u0 v1 u1 v2 u2 x0 x1 x2 y0 y1 y2 P0 Q0 P1 Q1 P2 Q2){b q:Nat}(h1:Q0 b q):b≠a:=dS.ia h (t:=0) (s:=1) (t':=0) (by decide) (by decide) (by decide) h1
theorem bt.Oh(h:bt w0 a l r B Z U w v0 u0 v1 u1 v2 u2 x0 x1 x2 y0 y1 y2 P0 Q0 P1 Q1 P2 Q2){b q:Nat}(h1:P1 b q):b≠a:=dS.ia h (t:=1) (s:=0) (t':=0) (by decide) (by decide) (by decide) h1
theorem bt.BF(h:bt w0 a l r B Z U w v0 u0 v1 u1 v2 u2 x0 x1 x2 y0 y1 y2 P0 Q0 P1 Q1 P2 Q2){b q:Nat}(h1:P1 b q):b≠l:=dS.ia h (t:=1) (s:=0) (t':=1) (by decide) (by decide) (by decide) h1
theorem bt.Us(h:bt w0 a l r B Z U w v0 u0 v1 u1 v2 u2 x0 x1 x2 y0 y1 y2 P0 Q0 P1 Q1 P2 Q2){b q:Nat}(h1:P1 b q):b≠r:=dS.ia h (t:=1) (s:=0) (t':=2) (by decide) (by decide) (by decide) h1
theorem bt.rR(h:bt w0 a l r B Z U w v0 u0 v1 u1 v2 u2 x0 x1 x2 y0 y1 y2 P0 Q0 P1 Q1 P2 Q2){b q:Nat}(h1:Q1 b q): ¬Q2 b q:=dS.apart h (t:=1) (s:=1) (t':=2) (s':=1) (by decide) (by decide) (by decide) (by decide) (by decide) h1
theorem bt.vY(h:bt w0 a l r B Z U w v0 u0 v1 u1 v2 u2 x0 x1 x2 y0 y1 y2 P0 Q0 P1 Q1 P2 Q2){b q:Nat}(h1:Q1 b q):b≠l:=dS.ia h (t:=1) (s:=1) (t':=1) (by decide) (by decide) (by decide) h1
theorem bt.wh(h:bt w0 a l r B Z U w v0 u0 v1 u1 v2 u2 x0 x1 x2 y0 y1 y2 P0 Q0 P1 Q1 P2 Q2){b q:Nat}(h1:Q1 b q):b≠r:=dS.ia h (t:=1) (s:=1) (t':=2) (by decide) (by decide) (by decide) h1
theorem bt.Ut(h:bt w0 a l r B Z U w v0 u0 v1 u1 v2 u2 x0 x1 x2 y0 y1 y2 P0 Q0 P1 Q1 P2 Q2){b q:Nat}(h1:P2 b q):b≠a:=dS.ia h (t:=2) (s:=0) (t':=0) (by decide) (by decide) (by decide) h1
theorem bt.Oi(h:bt w0 a l r B Z U w v0 u0 v1 u1 v2 u2 x0 x1 x2 y0 y1 y2 P0 Q0 P1 Q1 P2 Q2){b q:Nat}(h1:P2 b q):b≠r:=dS.ia h (t:=2) (s:=0) (t':=2) (by decide) (by decide) (by decide) h1
theorem bt.BG(h:bt w0 a l r B Z U w v0 u0 v1 u1 v2 u2 x0 x1 x2 y0 y1 y2 P0 Q0 P1 Q1 P2 Q2){b q:Nat}(h1:Q2 b q):b≠l:=dS.ia h (t:=2) (s:=1) (t':=1) (by decide) (by decide) (by decide) h1
theorem bt.BH(h:bt w0 a l r B Z U w v0 u0 v1 u1 v2 u2 x0 x1 x2 y0 y1 y2 P0 Q0 P1 Q1 P2 Q2){b q:Nat}(h1:Q2 b q):b≠r:=dS.ia h (t:=2) (s:=1) (t':=2) (by decide) (by decide) (by decide) h1
theorem bt.Uu(h:bt w0 a l r B Z U w v0 u0 v1 u1 v2 u2 x0 x1 x2 y0 y1 y2 P0 Q0 P1 Q1 P2 Q2){b q:Nat}(h1:P2 b q):b<w.heap.size:=dS.lt h (t:=2) (s:=0) (by decide) (by decide) h1
theorem bt.Oj(h:bt w0 a l r B Z U w v0 u0 v1 u1 v2 u2 x0 x1 x2 y0 y1 y2 P0 Q0 P1 Q1 P2 Q2){b q:Nat}(h1:Q2 b q):b<w.heap.size:=dS.lt h (t:=2) (s:=1) (by decide) (by decide) h1
theorem bt.Xt(h:bt w0 a l r B Z U w v0 u0 v1 u1 v2 u2 x0 x1 x2 y0 y1 y2 P0 Q0 P1 Q1 P2 Q2):a≠l:=dS.Kl h (t:=0) (t':=1) (by decide) (by decide) (by decide)
theorem bt.e02(h:bt w0 a l r B Z U w v0 u0 v1 u1 v2 u2 x0 x1 x2 y0 y1 y2 P0 Q0 P1 Q1 P2 Q2):a≠r:=dS.Kl h (t:=0) (t':=2) (by decide) (by decide) (by decide)
theorem bt.e12(h:bt w0 a l r B Z U w v0 u0 v1 u1 v2 u2 x0 x1 x2 y0 y1 y2 P0 Q0 P1 Q1 P2 Q2):l≠r:=dS.Kl h (t:=1) (t':=2) (by decide) (by decide) (by decide)
end
def Yn(H Hl Hr:Nat->Nat->Nat->Prop):Nat->Nat->Nat->Nat->Prop:=fun t s=>BD (H (s+1)) (Hl (s+1)) (Hr (s+1)) t
theorem bt.start{w:World}{d a i l r:Nat}{x kl kr:ND}{F:Nat->Nat->Prop}{vp vk vl ul vr ur:Value}{aA pl pr:List Nat}{H Hl Hr:Nat->Nat->Nat->Prop}(hO:aS w (ay w d) a x F vp vk aA H)(hF: ∀b q,F b q->b<w.heap.size)
  (hL:aS w (bL w d) l kl (H (i+3)) vl ul pl Hl) (hR:aS w (bL w d) r kr (H (i+4)) vr ur pr Hr):
  bt w a l r (Yn H Hl Hr) (FZ H Hl Hr i) F w vp vk vl ul vr ur x.ps kl.ps kr.ps aA pl pr (H 1) (H 2) (Hl 1) (Hl 2) (Hr 1) (Hr 2):=by
 refine(dS.start hO hF hL hR).congr (fun t ht=>?_)
 match t,ht with
 |0,_=>exact⟨rfl,rfl,rfl,rfl,rfl,rfl⟩
 |1,_=>exact⟨rfl,rfl,rfl,rfl,rfl,rfl⟩
 |2,_=>exact⟨rfl,rfl,rfl,rfl,rfl,rfl⟩
 |_+3,ht=>omega
section
variable{w w':World}{d a i l r:Nat}{x kl kr:ND}{F:Nat->Nat->Prop}{vp vk vl ul vr ur:Value}{aA pl pr:List Nat}{H Hl Hr:Nat->Nat->Nat->Prop}
 {v0 u0 v1 u1 v2 u2:Value} {x0 x1 x2:List Pr} {y0 y1 y2:List Nat} {P0 Q0 P1 Q1 P2 Q2:Nat->Nat->Prop}
theorem fZ(hO:aS w (ay w d) a x F vp vk aA H)(hF: ∀b q,F b q->b<w.heap.size)(hi:i+2<=x.ks.length)
  (hL:aS w (bL w d) l kl (H (i+3)) vl ul pl Hl) (DF: ∀i b q,Hl i b q->i<kl.ks.length+3) (hR:aS w (bL w d) r kr (H (i+4)) vr ur pr Hr) (Nw: ∀i b q,Hr i b q->i<kr.ks.length+3)
  (hB:bt w a l r (Yn H Hl Hr) (FZ H Hl Hr i) F w' v0 u0 v1 u1 v2 u2 x0 x1 x2 y0 y1 y2 P0 Q0 P1 Q1 P2 Q2)
  (Ol hi1:Nat) (h1:Ol<=hi1) (h1':hi1<=kl.ks.length) (Hs:List (Nat×ND)) (M1:Nat->Nat->Nat->Prop) (Om hi2:Nat) (h2:Om<=hi2) (h2':hi2<=kr.ks.length) (Ht:List (Nat×ND)) (M2:Nat->Nat->Nat->Prop)
  (hy0:y0=aA) (hl:aA[i]?=some l) (hr:aA[i+1]?=some r) (hy1:y1=pl.take Ol++Hs.map Prod.fst++pl.drop hi1) (hy2:y2=pr.take Om++Ht.map Prod.fst++pr.drop hi2)
  (Yo: ∀m b q,M1 m b q-> ∃j,Om<=j/\j<hi2/\Hr (j+3) b q) (sF: ∀m b q,M2 m b q-> ∃j,Ol<=j/\j<hi1/\Hl (j+3) b q)
  (Yp: ∀m m' b q,M1 m b q->M1 m' b q->m=m') (Yq: ∀m m' b q,M2 m b q->M2 m' b q->m=m')
  (Uv: ∀m p k,Hs[m]?=some (p,k)->bL w d p k (M1 m)) (Uw: ∀m p k,Ht[m]?=some (p,k)->bL w d p k (M2 m))
  (h01:d=0->kl.ks.take Ol++Hs.map Prod.snd++kl.ks.drop hi1=[]) (h02:d=0->kr.ks.take Om++Ht.map Prod.snd++kr.ks.drop hi2=[]):
  ay w' (d+1) a (.mk x0 (x.ks.take i++ .mk x1 (kl.ks.take Ol++Hs.map Prod.snd++kl.ks.drop hi1):: .mk x2 (kr.ks.take Om++Ht.map Prod.snd++kr.ks.drop hi2)::x.ks.drop (i+2))) (fun b q=>F b q\/w.heap.size<=b)/\OnlyC F w w':=by
 rw[hy0]at hB;have Xu: ∀b q,H (i+3) b q->b<w.heap.size:=fun b q hh=>hF b q (hO.own.1 _ b q hh);have hKr: ∀b q,H (i+4) b q->b<w.heap.size:=fun b q hh=>hF b q (hO.own.1 _ b q hh);have hlr: ∀b q,H (i+3) b q-> ¬H (i+4) b q:=fun b q=>hO.own.2.1 (i+3) (i+4) b q (by omega)
 obtain⟨RL,nL,Xv⟩:=dS.node hL DF Xu hB (t:=1) (by decide) rfl rfl rfl (fun j b q hh=>.inr (.inl ⟨j,hh⟩)) Ol hi1 h1 h1' Hs M1 hy1
  (fun m b q hm=>by obtain⟨j,_,_,hj⟩:=Yo m b q hm;exact⟨.inr (.inr ⟨j,hj⟩),fun hk=>hlr b q hk (hR.own.1 _ b q hj)⟩) Yp Uv h01
 obtain⟨RR,nR,Rp⟩:=dS.node hR Nw hKr hB (t:=2) (by decide) rfl rfl rfl (fun j b q hh=>.inr (.inr ⟨j,hh⟩)) Om hi2 h2 h2' Ht M2 hy2
  (fun m b q hm=>by obtain⟨j,_,_,hj⟩:=sF m b q hm;exact⟨.inr (.inl ⟨j,hj⟩),fun hk=>hlr b q (hL.own.1 _ b q hj) hk⟩) Yq Uw h02
 have Yr: ∀s b q,s<2->((sD P1 Q1 s) b q\/(sD P2 Q2 s) b q)->H (i+3) b q\/H (i+4) b q\/w.heap.size<=b:=fun s b q hs hh=>by
  rcases hh with hh|hh
  ·rcases dS.base hB (t:=1) (s:=s) (by decide) hs hh with h3|h3
   ·exact .inl (hL.own.1 _ b q h3)
   ·exact .inr (.inr h3)
  ·rcases dS.base hB (t:=2) (s:=s) (by decide) hs hh with h3|h3
   ·exact .inr (.inl (hR.own.1 _ b q h3))
   ·exact .inr (.inr h3)
 have Kn: ∀b q,RL b q-> ¬RR b q:=by
  intro b q c1 c2
  have hz: ∀{s t j},s<2->t<3->(BD (sD P0 Q0 s) (sD P1 Q1 s) (sD P2 Q2 s) t) b q->(Hl (j+3) b q\/Hr (j+3) b q)->False:=fun{s t j} hs ht hp hh=>by
   obtain⟨lab,hN,hz,_⟩:=hB
   have e1:lab b q=10*t+s+1:=match s,hs,hp with
    |0,_,hp=>((hN t ht).l1 b q hp).1
    |1,_,hp=>((hN t ht).l2 b q hp).1
    |_+2,hs,_=>by omega
   have e2:=(hz b q (hh.elim (fun h=>.inr (.inl ⟨j,h⟩)) (fun h=>.inr (.inr ⟨j,h⟩)))).1;omega
  have hown: ∀{s t},s<2->t<3->(BD (sD P0 Q0 s) (sD P1 Q1 s) (sD P2 Q2 s) t) b q->(Hl 0 b q\/Hr 0 b q)->b<w.heap.size->(t=1-> ¬Hr 0 b q)/\(t=2-> ¬Hl 0 b q):=fun{s t} hs ht hp hh hb=>by
   rcases dS.base hB (t:=t) (s:=s) ht hs hp with h3|h3
   ·refine⟨fun e h4=>?_,fun e h4=>?_⟩
    ·subst e;exact hlr b q (hL.own.1 _ b q h3) (hR.own.1 0 b q h4)
    ·subst e;exact hlr b q (hL.own.1 0 b q h4) (hR.own.1 _ b q h3)
   ·omega
  have L:(Hl 0 b q/\b<w.heap.size)\/(∃s,s<2/\sD P1 Q1 s b q)\/(∃j,(j<Ol\/hi1<=j)/\Hl (j+3) b q)\/(∃j,Om<=j/\j<hi2/\Hr (j+3) b q):=by
   rcases Xv b q c1 with c|c|c|⟨j,hj,c⟩|⟨m,c⟩
   ·exact .inl ⟨c,Xu b q (hL.own.1 0 b q c)⟩
   ·exact .inr (.inl ⟨0,by decide,c⟩)
   ·exact .inr (.inl ⟨1,by decide,c⟩)
   ·exact .inr (.inr (.inl ⟨j,by omega,c⟩))
   ·exact .inr (.inr (.inr (Yo m b q c)))
  have R:(Hr 0 b q/\b<w.heap.size)\/(∃s,s<2/\sD P2 Q2 s b q)\/(∃j,(j<Om\/hi2<=j)/\Hr (j+3) b q)\/(∃j,Ol<=j/\j<hi1/\Hl (j+3) b q):=by
   rcases Rp b q c2 with c|c|c|⟨j,hj,c⟩|⟨m,c⟩
   ·exact .inl ⟨c,hKr b q (hR.own.1 0 b q c)⟩
   ·exact .inr (.inl ⟨0,by decide,c⟩)
   ·exact .inr (.inl ⟨1,by decide,c⟩)
   ·exact .inr (.inr (.inl ⟨j,by omega,c⟩))
   ·exact .inr (.inr (.inr (sF m b q c)))
  rcases L with⟨a1,a2⟩|⟨s,hs,a1⟩|⟨j,hj,a1⟩|⟨j,hj,hj',a1⟩<;>rcases R with⟨b1,b2⟩|⟨s',hs',b1⟩|⟨j',hk,b1⟩|⟨j',hk,hk',b1⟩
  ·exact hlr b q (hL.own.1 _ b q a1) (hR.own.1 _ b q b1)
  ·exact(hown hs' (t:=2) (by decide) b1 (.inl a1) a2).2 rfl a1
  ·exact hlr b q (hL.own.1 _ b q a1) (hR.own.1 _ b q b1)
  ·exact hL.own.2.1 0 (j'+3) b q (by omega) a1 b1
  ·exact(hown hs (t:=1) (by decide) a1 (.inr b1) b2).1 rfl b1
  ·exact dS.apart hB (t:=1) (s:=s) (t':=2) (s':=s') (by decide) (by decide) hs hs' (by omega) a1 b1
  ·exact hz hs (t:=1) (by decide) a1 (.inr b1)
  ·exact hz hs (t:=1) (by decide) a1 (.inl b1)
  ·exact hlr b q (hL.own.1 _ b q a1) (hR.own.1 _ b q b1)
  ·exact hz hs' (t:=2) (by decide) b1 (.inl a1)
  ·exact hlr b q (hL.own.1 _ b q a1) (hR.own.1 _ b q b1)
  ·have:=hL.2.2.2.2.2.2.2 _ _ b q a1 b1;omega
  ·exact hR.own.2.1 0 (j+3) b q (by omega) b1 a1
  ·exact hz hs' (t:=2) (by decide) b1 (.inr a1)
  ·have:=hR.2.2.2.2.2.2.2 _ _ b q a1 b1;omega
  ·exact hlr b q (hL.own.1 _ b q b1) (hR.own.1 _ b q a1)
 have Ux: ∀b q,RL b q\/RR b q->H (i+3) b q\/H (i+4) b q\/(∃s,s<2/\(sD P1 Q1 s b q\/sD P2 Q2 s b q)):=by
  rintro b q (c|c)
  ·rcases Xv b q c with c|c|c|⟨j,hj,c⟩|⟨m,c⟩
   ·exact .inl (hL.own.1 0 b q c)
   ·exact .inr (.inr ⟨0,by decide,.inl c⟩)
   ·exact .inr (.inr ⟨1,by decide,.inl c⟩)
   ·exact .inl (hL.own.1 _ b q c)
   ·obtain⟨j,_,_,hj⟩:=Yo m b q c;exact .inr (.inl (hR.own.1 _ b q hj))
  ·rcases Rp b q c with c|c|c|⟨j,hj,c⟩|⟨m,c⟩
   ·exact .inr (.inl (hR.own.1 0 b q c))
   ·exact .inr (.inr ⟨0,by decide,.inr c⟩)
   ·exact .inr (.inr ⟨1,by decide,.inr c⟩)
   ·exact .inr (.inl (hR.own.1 _ b q c))
   ·obtain⟨j,_,_,hj⟩:=sF m b q c;exact .inl (hL.own.1 _ b q hj)
 have Ny:aA=aA.take i++l::r::aA.drop (i+2):=xD hl hr
 have nP:=dS.parent hO hF hi hB rfl rfl rfl (fun j b q a1 a2 hh=>.inl ⟨j,a1,a2,hh⟩) [(l,.mk x1 (kl.ks.take Ol++Hs.map Prod.snd++kl.ks.drop hi1)),(r,.mk x2 (kr.ks.take Om++Ht.map Prod.snd++kr.ks.drop hi2))] (pX RL RR) (by
   show aA=_
   conv=>lhs;rw[Ny]
   simp)
  (fun m b q hm=>match m,hm with
   |0,hm=>Ux b q (.inl hm)
   |1,hm=>Ux b q (.inr hm)
   |_+2,hm=>hm.elim)
  (fun m m' b q hm hm'=>by
   match m,hm,m',hm' with
   |0,_,0,_=>rfl
   |1,_,1,_=>rfl
   |0,h1,1,h2=>exact absurd h2 (Kn b q h1)
   |1,h1,0,h2=>exact absurd h1 (Kn b q h2)
   |_+2,h1,_,_=>exact h1.elim
   |0,_,_+2,h2=>exact h2.elim
   |1,_,_+2,h2=>exact h2.elim)
  (fun m p k hm=>by
   match m,hm with
   |0,hm=>simp only[gr,fj,lP]at hm;obtain⟨rfl,rfl⟩:=hm;exact nL
   |1,hm=>simp only[oj,gr,fj,lP]at hm;obtain⟨rfl,rfl⟩:=hm;exact nR
   |m+2,hm=>simp at hm) Yr
 refine⟨?_,hB.Qn⟩;simpa using nP
end
section
variable{w w':World}{d a i l r:Nat}{x kl kr:ND}{F:Nat->Nat->Prop}{vp vk vl ul vr ur:Value}{aA pl pr:List Nat}{H Hl Hr:Nat->Nat->Nat->Prop}
 {v0 u0 v1 u1 v2 u2:Value} {x0 x1 x2:List Pr} {y0 y1 y2:List Nat} {P0 Q0 P1 Q1 P2 Q2:Nat->Nat->Prop}
theorem F4(hO:aS w (ay w d) a x F vp vk aA H)(hF: ∀b q,F b q->b<w.heap.size)(hi:i+2<=x.ks.length)
  (hL:aS w (bL w d) l kl (H (i+3)) vl ul pl Hl) (DF: ∀i b q,Hl i b q->i<kl.ks.length+3) (hR:aS w (bL w d) r kr (H (i+4)) vr ur pr Hr)
  (hB:bt w a l r (Yn H Hl Hr) (FZ H Hl Hr i) F w' v0 u0 v1 u1 v2 u2 x0 x1 x2 y0 y1 y2 P0 Q0 P1 Q1 P2 Q2)
  (hy0:y0=aA.take i++[l]++aA.drop (i+2)) (hy1:y1=pl++pr) (hd:d=0->kl.ks++kr.ks=[]):
  ay w' (d+1) a (.mk x0 (x.ks.take i++ .mk x1 (kl.ks++kr.ks)::x.ks.drop (i+2))) (fun b q=>F b q\/w.heap.size<=b)/\OnlyC F w w':=by
 have Xu: ∀b q,H (i+3) b q->b<w.heap.size:=fun b q hh=>hF b q (hO.own.1 _ b q hh);have hlr: ∀b q,H (i+3) b q-> ¬H (i+4) b q:=fun b q=>hO.own.2.1 (i+3) (i+4) b q (by omega);have hlen:pr.length=kr.ks.length:=hR.2.2.2.2.1;have e1:(pr.zip kr.ks).map Prod.fst=pr:=List.map_fst_zip (by omega);have e2:(pr.zip kr.ks).map Prod.snd=kr.ks:=List.map_snd_zip (by omega);have hpl:pl.length=kl.ks.length:=hL.2.2.2.2.1
 obtain⟨RL,nL,Xv⟩:=dS.node hL DF Xu hB (t:=1) (by decide) rfl rfl rfl (fun j b q hh=>.inr (.inl ⟨j,hh⟩)) kl.ks.length kl.ks.length (aq _) (aq _) (pr.zip kr.ks) (fun m b q=>Hr (m+3) b q)
  (by
   show y1=_
   rw[hy1,e1,<-hpl,ie,List.drop_length,gd])
  (fun m b q hm=>⟨.inr (.inr ⟨m,hm⟩),fun hk=>hlr b q hk (hR.own.1 _ b q hm)⟩) (fun m m' b q h1 h2=>by have:=hR.2.2.2.2.2.2.2 _ _ b q h1 h2;omega)
  (fun m p k hm=>by
   rw[List.getElem?_zip_eq_some]at hm
   exact hR.2.2.2.2.2.1 m p k hm.1 hm.2)
  (fun e=>by rw[e2,ie,List.drop_length,gd];exact hd e)
 rw[e2,ie,List.drop_length,gd]at nL
 have Yr: ∀s b q,s<2->((sD P1 Q1 s) b q\/(sD P2 Q2 s) b q)->H (i+3) b q\/H (i+4) b q\/w.heap.size<=b:=fun s b q hs hh=>by
  rcases hh with hh|hh
  ·rcases dS.base hB (t:=1) (s:=s) (by decide) hs hh with h3|h3
   ·exact .inl (hL.own.1 _ b q h3)
   ·exact .inr (.inr h3)
  ·rcases dS.base hB (t:=2) (s:=s) (by decide) hs hh with h3|h3
   ·exact .inr (.inl (hR.own.1 _ b q h3))
   ·exact .inr (.inr h3)
 have nP:=dS.parent hO hF hi hB rfl rfl rfl (fun j b q a1 a2 hh=>.inl ⟨j,a1,a2,hh⟩) [(l,.mk x1 (kl.ks++kr.ks))] (pX RL (fun _ _=>False)) (by
   show y0=_;rw[hy0]
   rfl)
  (fun m b q hm=>match m,hm with
   |0,hm=>by
    rcases Xv b q hm with c|c|c|⟨j,hj,c⟩|⟨m,c⟩
    ·exact .inl (hL.own.1 0 b q c)
    ·exact .inr (.inr ⟨0,by decide,.inl c⟩)
    ·exact .inr (.inr ⟨1,by decide,.inl c⟩)
    ·exact .inl (hL.own.1 _ b q c)
    ·exact .inr (.inl (hR.own.1 _ b q c))
   |1,hm=>hm.elim
   |_+2,hm=>hm.elim)
  (fun m m' b q hm hm'=>by
   match m,hm,m',hm' with
   |0,_,0,_=>rfl
   |1,h1,_,_=>exact h1.elim
   |_+2,h1,_,_=>exact h1.elim
   |0,_,1,h2=>exact h2.elim
   |0,_,_+2,h2=>exact h2.elim)
  (fun m p k hm=>by
   match m,hm with
   |0,hm=>simp only[gr,fj,lP]at hm;obtain⟨rfl,rfl⟩:=hm;exact nL
   |m+1,hm=>simp at hm) Yr
 refine⟨?_,hB.Qn⟩;simpa using nP
end
end Go.Proofs.YtagemonojdgbdaaGreatDoor
