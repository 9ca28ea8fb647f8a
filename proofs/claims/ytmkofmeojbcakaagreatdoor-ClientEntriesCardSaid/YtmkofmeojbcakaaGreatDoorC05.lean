import Derived.Test.YtmkofmeojbcakaaGreatDoorC04
namespace Go.Proofs.YtmkofmeojbcakaaGreatDoor
set_option maxRecDepth 100000
open Go.RowKit
theorem eN.congr{w0 w:World}{A:Nat->Nat}{B:Nat->Nat->Nat->Nat->Prop}{Z U:Nat->Nat->Prop}{V V':Nat->Nat->Value}{X X':Nat->List Pr}{Y Y':Nat->List Nat}{P P':Nat->Nat->Nat->Nat->Prop}(h:eN w0 A B Z U w V X Y P)
  (hv: ∀t,t<3->V t 0=V' t 0/\V t 1=V' t 1/\X t=X' t/\Y t=Y' t/\P t 0=P' t 0/\P t 1=P' t 1):eN w0 A B Z U w V' X' Y' P':=by
 obtain⟨lab,hN,h1,h2,h3⟩:=h;refine⟨lab,fun t ht=>?_,h1,h2,h3⟩;obtain⟨e1,e2,e3,e4,e5,e6⟩:=hv t ht;rw[<-e1,<-e2,<-e3,<-e4,<-e5,<-e6];exact hN t ht
theorem eN.lt{w0 w:World}{A:Nat->Nat}{B:Nat->Nat->Nat->Nat->Prop}{Z U:Nat->Nat->Prop}{V:Nat->Nat->Value}{X:Nat->List Pr}{Y:Nat->List Nat}{P:Nat->Nat->Nat->Nat->Prop}(h:eN w0 A B Z U w V X Y P){t s b q:Nat}(ht:t<3)(hs:s<2)(h1:P t s b q):b<w.heap.size:=by
 obtain⟨lab,hN,_⟩:=h
 match s,hs,h1 with
 |0,_,h1=>exact((hN t ht).l1 b q h1).2.1
 |1,_,h1=>exact((hN t ht).l2 b q h1).2.1
 |_+2,hs,_=>omega
theorem eN.base{w0 w:World}{A:Nat->Nat}{B:Nat->Nat->Nat->Nat->Prop}{Z U:Nat->Nat->Prop}{V:Nat->Nat->Value}{X:Nat->List Pr}{Y:Nat->List Nat}{P:Nat->Nat->Nat->Nat->Prop}(h:eN w0 A B Z U w V X Y P){t s b q:Nat}(ht:t<3)(hs:s<2)(h1:P t s b q):B t s b q\/w0.heap.size<=b:=by
 obtain⟨lab,hN,_⟩:=h
 match s,hs,h1 with
 |0,_,h1=>exact((hN t ht).l1 b q h1).2.2
 |1,_,h1=>exact((hN t ht).l2 b q h1).2.2
 |_+2,hs,_=>omega
def bH(w0:World)(a l r:Nat)(B:Nat->Nat->Nat->Nat->Prop)(Z U:Nat->Nat->Prop)(w:World)(v0 u0 v1 u1 v2 u2:Value)(x0 x1 x2:List Pr)(y0 y1 y2:List Nat)(P0 Q0 P1 Q1 P2 Q2:Nat->Nat->Prop):Prop:=
 eN w0 (Dp a l r) B Z U w (fun t s=>Dp (uU v0 u0 s) (uU v1 u1 s) (uU v2 u2 s) t) (Dp x0 x1 x2) (Dp y0 y1 y2) (fun t s=>Dp (uU P0 Q0 s) (uU P1 Q1 s) (uU P2 Q2 s) t)
def Gw(P:Nat->Nat->Prop)(n m:Nat)(b q:Nat):Prop:=(P b q\/n<=b)/\b<m
section
variable{w0 w w1 w2:World}{a l r:Nat}{B:Nat->Nat->Nat->Nat->Prop}{Z U:Nat->Nat->Prop}{v0 u0 v1 u1 v2 u2 v':Value}{x0 x1 x2 xs':List Pr}{y0 y1 y2 ys':List Nat}{P0 Q0 P1 Q1 P2 Q2:Nat->Nat->Prop}
theorem bH.below(h:bH w0 a l r B Z U w v0 u0 v1 u1 v2 u2 x0 x1 x2 y0 y1 y2 P0 Q0 P1 Q1 P2 Q2)(hb:Below w.heap.size w w1):bH w0 a l r B Z U w1 v0 u0 v1 u1 v2 u2 x0 x1 x2 y0 y1 y2 P0 Q0 P1 Q1 P2 Q2:=eN.below h hb
theorem bH.ln(h:bH w0 a l r B Z U w v0 u0 v1 u1 v2 u2 x0 x1 x2 y0 y1 y2 P0 Q0 P1 Q1 P2 Q2):w.heap[a]?=some (.cells #[v0,u0] 185 (0,0))/\az 2 195 w v0 (x0.map av) P0/\az 1 181 w u0 (y0.map aP) Q0:=eN.at_ h (t:=0) (by decide)
theorem bH.p0(h:bH w0 a l r B Z U w v0 u0 v1 u1 v2 u2 x0 x1 x2 y0 y1 y2 P0 Q0 P1 Q1 P2 Q2)(hb:Below w.heap.size w w1)(ho:OnlyC P0 w1 w2)(hs:az 2 195 w2 v' (xs'.map av) (fun b q=>P0 b q\/w1.heap.size<=b)):
  bH w0 a l r B Z U (w2.setCell ⟨a,0,none⟩ v') v' u0 v1 u1 v2 u2 xs' x1 x2 y0 y1 y2 (Gw P0 w1.heap.size w2.heap.size) Q0 P1 Q1 P2 Q2:=by
 refine(eN.pairs h (t:=0) (by decide) hb ho hs).congr (fun t ht=>?_)
 match t,ht with
 |0,_=>exact⟨rfl,rfl,rfl,rfl,rfl,rfl⟩
 |1,_=>exact⟨rfl,rfl,rfl,rfl,rfl,rfl⟩
 |2,_=>exact⟨rfl,rfl,rfl,rfl,rfl,rfl⟩
 |_+3,ht=>omega
theorem bH.k0(h:bH w0 a l r B Z U w v0 u0 v1 u1 v2 u2 x0 x1 x2 y0 y1 y2 P0 Q0 P1 Q1 P2 Q2)(hb:Below w.heap.size w w1)(ho:OnlyC Q0 w1 w2)(hs:az 1 181 w2 v' (ys'.map aP) (fun b q=>Q0 b q\/w1.heap.size<=b)):
  bH w0 a l r B Z U (w2.setCell ⟨a,1,none⟩ v') v0 v' v1 u1 v2 u2 x0 x1 x2 ys' y1 y2 P0 (Gw Q0 w1.heap.size w2.heap.size) P1 Q1 P2 Q2:=by
 refine(eN.kids h (t:=0) (by decide) hb ho hs).congr (fun t ht=>?_)
 match t,ht with
 |0,_=>exact⟨rfl,rfl,rfl,rfl,rfl,rfl⟩
 |1,_=>exact⟨rfl,rfl,rfl,rfl,rfl,rfl⟩
 |2,_=>exact⟨rfl,rfl,rfl,rfl,rfl,rfl⟩
 |_+3,ht=>omega
theorem bH.fI(h:bH w0 a l r B Z U w v0 u0 v1 u1 v2 u2 x0 x1 x2 y0 y1 y2 P0 Q0 P1 Q1 P2 Q2):w.heap[l]?=some (.cells #[v1,u1] 185 (0,0))/\az 2 195 w v1 (x1.map av) P1/\az 1 181 w u1 (y1.map aP) Q1:=eN.at_ h (t:=1) (by decide)
theorem bH.p1(h:bH w0 a l r B Z U w v0 u0 v1 u1 v2 u2 x0 x1 x2 y0 y1 y2 P0 Q0 P1 Q1 P2 Q2)(hb:Below w.heap.size w w1)(ho:OnlyC P1 w1 w2)(hs:az 2 195 w2 v' (xs'.map av) (fun b q=>P1 b q\/w1.heap.size<=b)):
  bH w0 a l r B Z U (w2.setCell ⟨l,0,none⟩ v') v0 u0 v' u1 v2 u2 x0 xs' x2 y0 y1 y2 P0 Q0 (Gw P1 w1.heap.size w2.heap.size) Q1 P2 Q2:=by
 refine(eN.pairs h (t:=1) (by decide) hb ho hs).congr (fun t ht=>?_)
 match t,ht with
 |0,_=>exact⟨rfl,rfl,rfl,rfl,rfl,rfl⟩
 |1,_=>exact⟨rfl,rfl,rfl,rfl,rfl,rfl⟩
 |2,_=>exact⟨rfl,rfl,rfl,rfl,rfl,rfl⟩
 |_+3,ht=>omega
theorem bH.k1(h:bH w0 a l r B Z U w v0 u0 v1 u1 v2 u2 x0 x1 x2 y0 y1 y2 P0 Q0 P1 Q1 P2 Q2)(hb:Below w.heap.size w w1)(ho:OnlyC Q1 w1 w2)(hs:az 1 181 w2 v' (ys'.map aP) (fun b q=>Q1 b q\/w1.heap.size<=b)):
  bH w0 a l r B Z U (w2.setCell ⟨l,1,none⟩ v') v0 u0 v1 v' v2 u2 x0 x1 x2 y0 ys' y2 P0 Q0 P1 (Gw Q1 w1.heap.size w2.heap.size) P2 Q2:=by
 refine(eN.kids h (t:=1) (by decide) hb ho hs).congr (fun t ht=>?_)
 match t,ht with
 |0,_=>exact⟨rfl,rfl,rfl,rfl,rfl,rfl⟩
 |1,_=>exact⟨rfl,rfl,rfl,rfl,rfl,rfl⟩
 |2,_=>exact⟨rfl,rfl,rfl,rfl,rfl,rfl⟩
 |_+3,ht=>omega
theorem bH.gV(h:bH w0 a l r B Z U w v0 u0 v1 u1 v2 u2 x0 x1 x2 y0 y1 y2 P0 Q0 P1 Q1 P2 Q2):w.heap[r]?=some (.cells #[v2,u2] 185 (0,0))/\az 2 195 w v2 (x2.map av) P2/\az 1 181 w u2 (y2.map aP) Q2:=eN.at_ h (t:=2) (by decide)
theorem bH.p2(h:bH w0 a l r B Z U w v0 u0 v1 u1 v2 u2 x0 x1 x2 y0 y1 y2 P0 Q0 P1 Q1 P2 Q2)(hb:Below w.heap.size w w1)(ho:OnlyC P2 w1 w2)(hs:az 2 195 w2 v' (xs'.map av) (fun b q=>P2 b q\/w1.heap.size<=b)):
  bH w0 a l r B Z U (w2.setCell ⟨r,0,none⟩ v') v0 u0 v1 u1 v' u2 x0 x1 xs' y0 y1 y2 P0 Q0 P1 Q1 (Gw P2 w1.heap.size w2.heap.size) Q2:=by
 refine(eN.pairs h (t:=2) (by decide) hb ho hs).congr (fun t ht=>?_)
 match t,ht with
 |0,_=>exact⟨rfl,rfl,rfl,rfl,rfl,rfl⟩
 |1,_=>exact⟨rfl,rfl,rfl,rfl,rfl,rfl⟩
 |2,_=>exact⟨rfl,rfl,rfl,rfl,rfl,rfl⟩
 |_+3,ht=>omega
theorem bH.k2(h:bH w0 a l r B Z U w v0 u0 v1 u1 v2 u2 x0 x1 x2 y0 y1 y2 P0 Q0 P1 Q1 P2 Q2)(hb:Below w.heap.size w w1)(ho:OnlyC Q2 w1 w2)(hs:az 1 181 w2 v' (ys'.map aP) (fun b q=>Q2 b q\/w1.heap.size<=b)):
  bH w0 a l r B Z U (w2.setCell ⟨r,1,none⟩ v') v0 u0 v1 u1 v2 v' x0 x1 x2 y0 y1 ys' P0 Q0 P1 Q1 P2 (Gw Q2 w1.heap.size w2.heap.size):=by
 refine(eN.kids h (t:=2) (by decide) hb ho hs).congr (fun t ht=>?_)
 match t,ht with
 |0,_=>exact⟨rfl,rfl,rfl,rfl,rfl,rfl⟩
 |1,_=>exact⟨rfl,rfl,rfl,rfl,rfl,rfl⟩
 |2,_=>exact⟨rfl,rfl,rfl,rfl,rfl,rfl⟩
 |_+3,ht=>omega
theorem bH.i0(h:bH w0 a l r B Z U w v0 u0 v1 u1 v2 u2 x0 x1 x2 y0 y1 y2 P0 Q0 P1 Q1 P2 Q2)(ho:OnlyC P0 w w2)(hs:az 2 195 w2 v0 (xs'.map av) P0):bH w0 a l r B Z U w2 v0 u0 v1 u1 v2 u2 xs' x1 x2 y0 y1 y2 P0 Q0 P1 Q1 P2 Q2:=by
 refine(eN.inPlace h (t:=0) (by decide) ho hs).congr (fun t ht=>?_)
 match t,ht with
 |0,_=>exact⟨rfl,rfl,rfl,rfl,rfl,rfl⟩
 |1,_=>exact⟨rfl,rfl,rfl,rfl,rfl,rfl⟩
 |2,_=>exact⟨rfl,rfl,rfl,rfl,rfl,rfl⟩
 |_+3,ht=>omega
theorem bH.oh(h:bH w0 a l r B Z U w v0 u0 v1 u1 v2 u2 x0 x1 x2 y0 y1 y2 P0 Q0 P1 Q1 P2 Q2){b q:Nat}(h1:P0 b q): ¬P1 b q:=eN.apart h (t:=0) (s:=0) (t':=1) (s':=0) (by decide) (by decide) (by decide) (by decide) (by decide) h1
theorem bH.uy(h:bH w0 a l r B Z U w v0 u0 v1 u1 v2 u2 x0 x1 x2 y0 y1 y2 P0 Q0 P1 Q1 P2 Q2){b q:Nat}(h1:P0 b q): ¬P2 b q:=eN.apart h (t:=0) (s:=0) (t':=2) (s':=0) (by decide) (by decide) (by decide) (by decide) (by decide) h1
theorem bH.Kg(h:bH w0 a l r B Z U w v0 u0 v1 u1 v2 u2 x0 x1 x2 y0 y1 y2 P0 Q0 P1 Q1 P2 Q2){b q:Nat}(h1:P0 b q):b≠a:=eN.iQ h (t:=0) (s:=0) (t':=0) (by decide) (by decide) (by decide) h1
theorem bH.yO(h:bH w0 a l r B Z U w v0 u0 v1 u1 v2 u2 x0 x1 x2 y0 y1 y2 P0 Q0 P1 Q1 P2 Q2){b q:Nat}(h1:P0 b q):b≠l:=eN.iQ h (t:=0) (s:=0) (t':=1) (by decide) (by decide) (by decide) h1
theorem bH.Kh(h:bH w0 a l r B Z U w v0 u0 v1 u1 v2 u2 x0 x1 x2 y0 y1 y2 P0 Q0 P1 Q1 P2 Q2){b q:Nat}(h1:P0 b q):b≠r:=eN.iQ h (t:=0) (s:=0) (t':=2) (by decide) (by decide) (by decide) h1
theorem bH.Yi(h:bH w0 a l r B Z U w v0 u0 v1 u1 v2 u2 x0 x1 x2 y0 y1 y2 P0 Q0 P1 Q1 P2 Q2){b q:Nat}(h1:Q0 b q):b≠a:=eN.iQ h (t:=0) (s:=1) (t':=0) (by decide) (by decide) (by decide) h1
theorem bH.Ra(h:bH w0 a l r B Z U w v0 u0 v1 u1 v2 u2 x0 x1 x2 y0 y1 y2 P0 Q0 P1 Q1 P2 Q2){b q:Nat}(h1:P1 b q):b≠a:=eN.iQ h (t:=1) (s:=0) (t':=0) (by decide) (by decide) (by decide) h1
theorem bH.Dq(h:bH w0 a l r B Z U w v0 u0 v1 u1 v2 u2 x0 x1 x2 y0 y1 y2 P0 Q0 P1 Q1 P2 Q2){b q:Nat}(h1:P1 b q):b≠l:=eN.iQ h (t:=1) (s:=0) (t':=1) (by decide) (by decide) (by decide) h1
theorem bH.Yj(h:bH w0 a l r B Z U w v0 u0 v1 u1 v2 u2 x0 x1 x2 y0 y1 y2 P0 Q0 P1 Q1 P2 Q2){b q:Nat}(h1:P1 b q):b≠r:=eN.iQ h (t:=1) (s:=0) (t':=2) (by decide) (by decide) (by decide) h1
theorem bH.uz(h:bH w0 a l r B Z U w v0 u0 v1 u1 v2 u2 x0 x1 x2 y0 y1 y2 P0 Q0 P1 Q1 P2 Q2){b q:Nat}(h1:Q1 b q): ¬Q2 b q:=eN.apart h (t:=1) (s:=1) (t':=2) (s':=1) (by decide) (by decide) (by decide) (by decide) (by decide) h1
theorem bH.yP(h:bH w0 a l r B Z U w v0 u0 v1 u1 v2 u2 x0 x1 x2 y0 y1 y2 P0 Q0 P1 Q1 P2 Q2){b q:Nat}(h1:Q1 b q):b≠l:=eN.iQ h (t:=1) (s:=1) (t':=1) (by decide) (by decide) (by decide) h1
theorem bH.yQ(h:bH w0 a l r B Z U w v0 u0 v1 u1 v2 u2 x0 x1 x2 y0 y1 y2 P0 Q0 P1 Q1 P2 Q2){b q:Nat}(h1:Q1 b q):b≠r:=eN.iQ h (t:=1) (s:=1) (t':=2) (by decide) (by decide) (by decide) h1
theorem bH.Yk(h:bH w0 a l r B Z U w v0 u0 v1 u1 v2 u2 x0 x1 x2 y0 y1 y2 P0 Q0 P1 Q1 P2 Q2){b q:Nat}(h1:P2 b q):b≠a:=eN.iQ h (t:=2) (s:=0) (t':=0) (by decide) (by decide) (by decide) h1
theorem bH.Rb(h:bH w0 a l r B Z U w v0 u0 v1 u1 v2 u2 x0 x1 x2 y0 y1 y2 P0 Q0 P1 Q1 P2 Q2){b q:Nat}(h1:P2 b q):b≠r:=eN.iQ h (t:=2) (s:=0) (t':=2) (by decide) (by decide) (by decide) h1
theorem bH.Dr(h:bH w0 a l r B Z U w v0 u0 v1 u1 v2 u2 x0 x1 x2 y0 y1 y2 P0 Q0 P1 Q1 P2 Q2){b q:Nat}(h1:Q2 b q):b≠l:=eN.iQ h (t:=2) (s:=1) (t':=1) (by decide) (by decide) (by decide) h1
theorem bH.Ds(h:bH w0 a l r B Z U w v0 u0 v1 u1 v2 u2 x0 x1 x2 y0 y1 y2 P0 Q0 P1 Q1 P2 Q2){b q:Nat}(h1:Q2 b q):b≠r:=eN.iQ h (t:=2) (s:=1) (t':=2) (by decide) (by decide) (by decide) h1
theorem bH.Yl(h:bH w0 a l r B Z U w v0 u0 v1 u1 v2 u2 x0 x1 x2 y0 y1 y2 P0 Q0 P1 Q1 P2 Q2){b q:Nat}(h1:P2 b q):b<w.heap.size:=eN.lt h (t:=2) (s:=0) (by decide) (by decide) h1
theorem bH.Rc(h:bH w0 a l r B Z U w v0 u0 v1 u1 v2 u2 x0 x1 x2 y0 y1 y2 P0 Q0 P1 Q1 P2 Q2){b q:Nat}(h1:Q2 b q):b<w.heap.size:=eN.lt h (t:=2) (s:=1) (by decide) (by decide) h1
theorem bH.e01(h:bH w0 a l r B Z U w v0 u0 v1 u1 v2 u2 x0 x1 x2 y0 y1 y2 P0 Q0 P1 Q1 P2 Q2):a≠l:=eN.MV h (t:=0) (t':=1) (by decide) (by decide) (by decide)
theorem bH.e02(h:bH w0 a l r B Z U w v0 u0 v1 u1 v2 u2 x0 x1 x2 y0 y1 y2 P0 Q0 P1 Q1 P2 Q2):a≠r:=eN.MV h (t:=0) (t':=2) (by decide) (by decide) (by decide)
theorem bH.e12(h:bH w0 a l r B Z U w v0 u0 v1 u1 v2 u2 x0 x1 x2 y0 y1 y2 P0 Q0 P1 Q1 P2 Q2):l≠r:=eN.MV h (t:=1) (t':=2) (by decide) (by decide) (by decide)
end
def bas(H Hl Hr:Nat->Nat->Nat->Prop):Nat->Nat->Nat->Nat->Prop:=fun t s=>Dp (H (s+1)) (Hl (s+1)) (Hr (s+1)) t
theorem bH.start{w:World}{d a i l r:Nat}{x kl kr:ND}{F:Nat->Nat->Prop}{vp vk vl ul vr ur:Value}{aA pl pr:List Nat}{H Hl Hr:Nat->Nat->Nat->Prop}(hO:bg w (ay w d) a x F vp vk aA H)(hF: ∀b q,F b q->b<w.heap.size)
  (hL:bg w (b7 w d) l kl (H (i+3)) vl ul pl Hl) (hR:bg w (b7 w d) r kr (H (i+4)) vr ur pr Hr):
  bH w a l r (bas H Hl Hr) (IZ H Hl Hr i) F w vp vk vl ul vr ur x.ps kl.ps kr.ps aA pl pr (H 1) (H 2) (Hl 1) (Hl 2) (Hr 1) (Hr 2):=by
 refine(eN.start hO hF hL hR).congr (fun t ht=>?_)
 match t,ht with
 |0,_=>exact⟨rfl,rfl,rfl,rfl,rfl,rfl⟩
 |1,_=>exact⟨rfl,rfl,rfl,rfl,rfl,rfl⟩
 |2,_=>exact⟨rfl,rfl,rfl,rfl,rfl,rfl⟩
 |_+3,ht=>omega
section
variable{w w':World}{d a i l r:Nat}{x kl kr:ND}{F:Nat->Nat->Prop}{vp vk vl ul vr ur:Value}{aA pl pr:List Nat}{H Hl Hr:Nat->Nat->Nat->Prop}
 {v0 u0 v1 u1 v2 u2:Value} {x0 x1 x2:List Pr} {y0 y1 y2:List Nat} {P0 Q0 P1 Q1 P2 Q2:Nat->Nat->Prop}
theorem gI(hO:bg w (ay w d) a x F vp vk aA H)(hF: ∀b q,F b q->b<w.heap.size)(hi:i+2<=x.ks.length)
  (hL:bg w (b7 w d) l kl (H (i+3)) vl ul pl Hl) (Ki: ∀i b q,Hl i b q->i<kl.ks.length+3) (hR:bg w (b7 w d) r kr (H (i+4)) vr ur pr Hr) (Qo: ∀i b q,Hr i b q->i<kr.ks.length+3)
  (hB:bH w a l r (bas H Hl Hr) (IZ H Hl Hr i) F w' v0 u0 v1 u1 v2 u2 x0 x1 x2 y0 y1 y2 P0 Q0 P1 Q1 P2 Q2)
  (Re hi1:Nat) (h1:Re<=hi1) (h1':hi1<=kl.ks.length) (Kj:List (Nat×ND)) (M1:Nat->Nat->Nat->Prop) (Rf hi2:Nat) (h2:Rf<=hi2) (h2':hi2<=kr.ks.length) (Kk:List (Nat×ND)) (M2:Nat->Nat->Nat->Prop)
  (hy0:y0=aA) (hl:aA[i]?=some l) (hr:aA[i+1]?=some r) (hy1:y1=pl.take Re++Kj.map Prod.fst++pl.drop hi1) (hy2:y2=pr.take Rf++Kk.map Prod.fst++pr.drop hi2)
  (hM1: ∀m b q,M1 m b q-> ∃j,Rf<=j/\j<hi2/\Hr (j+3) b q) (uV: ∀m b q,M2 m b q-> ∃j,Re<=j/\j<hi1/\Hl (j+3) b q)
  (aaS: ∀m m' b q,M1 m b q->M1 m' b q->m=m') (aaT: ∀m m' b q,M2 m b q->M2 m' b q->m=m')
  (Ym: ∀m p k,Kj[m]?=some (p,k)->b7 w d p k (M1 m)) (Yn: ∀m p k,Kk[m]?=some (p,k)->b7 w d p k (M2 m))
  (h01:d=0->kl.ks.take Re++Kj.map Prod.snd++kl.ks.drop hi1=[]) (h02:d=0->kr.ks.take Rf++Kk.map Prod.snd++kr.ks.drop hi2=[]):
  ay w' (d+1) a (.mk x0 (x.ks.take i++ .mk x1 (kl.ks.take Re++Kj.map Prod.snd++kl.ks.drop hi1):: .mk x2 (kr.ks.take Rf++Kk.map Prod.snd++kr.ks.drop hi2)::x.ks.drop (i+2))) (fun b q=>F b q\/w.heap.size<=b)/\OnlyC F w w':=by
 rw[hy0]at hB;have hKl: ∀b q,H (i+3) b q->b<w.heap.size:=fun b q hh=>hF b q (hO.own.1 _ b q hh);have hKr: ∀b q,H (i+4) b q->b<w.heap.size:=fun b q hh=>hF b q (hO.own.1 _ b q hh);have hlr: ∀b q,H (i+3) b q-> ¬H (i+4) b q:=fun b q=>hO.own.2.1 (i+3) (i+4) b q (by omega)
 obtain⟨RL,nL,hRL⟩:=eN.node hL Ki hKl hB (t:=1) (by decide) rfl rfl rfl (fun j b q hh=>.inr (.inl ⟨j,hh⟩)) Re hi1 h1 h1' Kj M1 hy1
  (fun m b q hm=>by obtain⟨j,_,_,hj⟩:=hM1 m b q hm;exact⟨.inr (.inr ⟨j,hj⟩),fun hk=>hlr b q hk (hR.own.1 _ b q hj)⟩) aaS Ym h01
 obtain⟨RR,nR,hRR⟩:=eN.node hR Qo hKr hB (t:=2) (by decide) rfl rfl rfl (fun j b q hh=>.inr (.inr ⟨j,hh⟩)) Rf hi2 h2 h2' Kk M2 hy2
  (fun m b q hm=>by obtain⟨j,_,_,hj⟩:=uV m b q hm;exact⟨.inr (.inl ⟨j,hj⟩),fun hk=>hlr b q (hL.own.1 _ b q hj) hk⟩) aaT Yn h02
 have hbP: ∀s b q,s<2->((uU P1 Q1 s) b q\/(uU P2 Q2 s) b q)->H (i+3) b q\/H (i+4) b q\/w.heap.size<=b:=fun s b q hs hh=>by
  rcases hh with hh|hh
  ·rcases eN.base hB (t:=1) (s:=s) (by decide) hs hh with h3|h3
   ·exact .inl (hL.own.1 _ b q h3)
   ·exact .inr (.inr h3)
  ·rcases eN.base hB (t:=2) (s:=s) (by decide) hs hh with h3|h3
   ·exact .inr (.inl (hR.own.1 _ b q h3))
   ·exact .inr (.inr h3)
 have MX: ∀b q,RL b q-> ¬RR b q:=by
  intro b q c1 c2
  have hz: ∀{s t j},s<2->t<3->(Dp (uU P0 Q0 s) (uU P1 Q1 s) (uU P2 Q2 s) t) b q->(Hl (j+3) b q\/Hr (j+3) b q)->False:=fun{s t j} hs ht hp hh=>by
   obtain⟨lab,hN,hz,_⟩:=hB
   have e1:lab b q=10*t+s+1:=match s,hs,hp with
    |0,_,hp=>((hN t ht).l1 b q hp).1
    |1,_,hp=>((hN t ht).l2 b q hp).1
    |_+2,hs,_=>by omega
   have e2:=(hz b q (hh.elim (fun h=>.inr (.inl ⟨j,h⟩)) (fun h=>.inr (.inr ⟨j,h⟩)))).1;omega
  have hown: ∀{s t},s<2->t<3->(Dp (uU P0 Q0 s) (uU P1 Q1 s) (uU P2 Q2 s) t) b q->(Hl 0 b q\/Hr 0 b q)->b<w.heap.size->(t=1-> ¬Hr 0 b q)/\(t=2-> ¬Hl 0 b q):=fun{s t} hs ht hp hh hb=>by
   rcases eN.base hB (t:=t) (s:=s) ht hs hp with h3|h3
   ·refine⟨fun e h4=>?_,fun e h4=>?_⟩
    ·subst e;exact hlr b q (hL.own.1 _ b q h3) (hR.own.1 0 b q h4)
    ·subst e;exact hlr b q (hL.own.1 0 b q h4) (hR.own.1 _ b q h3)
   ·omega
  have L:(Hl 0 b q/\b<w.heap.size)\/(∃s,s<2/\uU P1 Q1 s b q)\/(∃j,(j<Re\/hi1<=j)/\Hl (j+3) b q)\/(∃j,Rf<=j/\j<hi2/\Hr (j+3) b q):=by
   rcases hRL b q c1 with c|c|c|⟨j,hj,c⟩|⟨m,c⟩
   ·exact .inl ⟨c,hKl b q (hL.own.1 0 b q c)⟩
   ·exact .inr (.inl ⟨0,by decide,c⟩)
   ·exact .inr (.inl ⟨1,by decide,c⟩)
   ·exact .inr (.inr (.inl ⟨j,by omega,c⟩))
   ·exact .inr (.inr (.inr (hM1 m b q c)))
  have R:(Hr 0 b q/\b<w.heap.size)\/(∃s,s<2/\uU P2 Q2 s b q)\/(∃j,(j<Rf\/hi2<=j)/\Hr (j+3) b q)\/(∃j,Re<=j/\j<hi1/\Hl (j+3) b q):=by
   rcases hRR b q c2 with c|c|c|⟨j,hj,c⟩|⟨m,c⟩
   ·exact .inl ⟨c,hKr b q (hR.own.1 0 b q c)⟩
   ·exact .inr (.inl ⟨0,by decide,c⟩)
   ·exact .inr (.inl ⟨1,by decide,c⟩)
   ·exact .inr (.inr (.inl ⟨j,by omega,c⟩))
   ·exact .inr (.inr (.inr (uV m b q c)))
  rcases L with⟨a1,a2⟩|⟨s,hs,a1⟩|⟨j,hj,a1⟩|⟨j,hj,hj',a1⟩<;>rcases R with⟨b1,b2⟩|⟨s',hs',b1⟩|⟨j',hk,b1⟩|⟨j',hk,hk',b1⟩
  ·exact hlr b q (hL.own.1 _ b q a1) (hR.own.1 _ b q b1)
  ·exact(hown hs' (t:=2) (by decide) b1 (.inl a1) a2).2 rfl a1
  ·exact hlr b q (hL.own.1 _ b q a1) (hR.own.1 _ b q b1)
  ·exact hL.own.2.1 0 (j'+3) b q (by omega) a1 b1
  ·exact(hown hs (t:=1) (by decide) a1 (.inr b1) b2).1 rfl b1
  ·exact eN.apart hB (t:=1) (s:=s) (t':=2) (s':=s') (by decide) (by decide) hs hs' (by omega) a1 b1
  ·exact hz hs (t:=1) (by decide) a1 (.inr b1)
  ·exact hz hs (t:=1) (by decide) a1 (.inl b1)
  ·exact hlr b q (hL.own.1 _ b q a1) (hR.own.1 _ b q b1)
  ·exact hz hs' (t:=2) (by decide) b1 (.inl a1)
  ·exact hlr b q (hL.own.1 _ b q a1) (hR.own.1 _ b q b1)
  ·have:=hL.2.2.2.2.2.2.2 _ _ b q a1 b1;omega
  ·exact hR.own.2.1 0 (j+3) b q (by omega) b1 a1
  ·exact hz hs' (t:=2) (by decide) b1 (.inr a1)
  ·have:=hR.2.2.2.2.2.2.2 _ _ b q a1 b1;omega
  ·exact hlr b q (hL.own.1 _ b q b1) (hR.own.1 _ b q a1)
 have Yo: ∀b q,RL b q\/RR b q->H (i+3) b q\/H (i+4) b q\/(∃s,s<2/\(uU P1 Q1 s b q\/uU P2 Q2 s b q)):=by
  rintro b q (c|c)
  ·rcases hRL b q c with c|c|c|⟨j,hj,c⟩|⟨m,c⟩
   ·exact .inl (hL.own.1 0 b q c)
   ·exact .inr (.inr ⟨0,by decide,.inl c⟩)
   ·exact .inr (.inr ⟨1,by decide,.inl c⟩)
   ·exact .inl (hL.own.1 _ b q c)
   ·obtain⟨j,_,_,hj⟩:=hM1 m b q c;exact .inr (.inl (hR.own.1 _ b q hj))
  ·rcases hRR b q c with c|c|c|⟨j,hj,c⟩|⟨m,c⟩
   ·exact .inr (.inl (hR.own.1 0 b q c))
   ·exact .inr (.inr ⟨0,by decide,.inr c⟩)
   ·exact .inr (.inr ⟨1,by decide,.inr c⟩)
   ·exact .inr (.inl (hR.own.1 _ b q c))
   ·obtain⟨j,_,_,hj⟩:=uV m b q c;exact .inl (hL.own.1 _ b q hj)
 have Xn:aA=aA.take i++l::r::aA.drop (i+2):=zL hl hr
 have nP:=eN.parent hO hF hi hB rfl rfl rfl (fun j b q a1 a2 hh=>.inl ⟨j,a1,a2,hh⟩) [(l,.mk x1 (kl.ks.take Re++Kj.map Prod.snd++kl.ks.drop hi1)),(r,.mk x2 (kr.ks.take Rf++Kk.map Prod.snd++kr.ks.drop hi2))] (rI RL RR) (by
   show aA=_
   conv=>lhs;rw[Xn]
   simp)
  (fun m b q hm=>match m,hm with
   |0,hm=>Yo b q (.inl hm)
   |1,hm=>Yo b q (.inr hm)
   |_+2,hm=>hm.elim)
  (fun m m' b q hm hm'=>by
   match m,hm,m',hm' with
   |0,_,0,_=>rfl
   |1,_,1,_=>rfl
   |0,h1,1,h2=>exact absurd h2 (MX b q h1)
   |1,h1,0,h2=>exact absurd h1 (MX b q h2)
   |_+2,h1,_,_=>exact h1.elim
   |0,_,_+2,h2=>exact h2.elim
   |1,_,_+2,h2=>exact h2.elim)
  (fun m p k hm=>by
   match m,hm with
   |0,hm=>simp only[im,fl,mc]at hm;obtain⟨rfl,rfl⟩:=hm;exact nL
   |1,hm=>simp only[List.getElem?_cons_succ,im,fl,mc]at hm;obtain⟨rfl,rfl⟩:=hm;exact nR
   |m+2,hm=>simp at hm) hbP
 refine⟨?_,hB.TU⟩;simpa using nP
end
section
variable{w w':World}{d a i l r:Nat}{x kl kr:ND}{F:Nat->Nat->Prop}{vp vk vl ul vr ur:Value}{aA pl pr:List Nat}{H Hl Hr:Nat->Nat->Nat->Prop}
 {v0 u0 v1 u1 v2 u2:Value} {x0 x1 x2:List Pr} {y0 y1 y2:List Nat} {P0 Q0 P1 Q1 P2 Q2:Nat->Nat->Prop}
theorem I1(hO:bg w (ay w d) a x F vp vk aA H)(hF: ∀b q,F b q->b<w.heap.size)(hi:i+2<=x.ks.length)
  (hL:bg w (b7 w d) l kl (H (i+3)) vl ul pl Hl) (Ki: ∀i b q,Hl i b q->i<kl.ks.length+3) (hR:bg w (b7 w d) r kr (H (i+4)) vr ur pr Hr)
  (hB:bH w a l r (bas H Hl Hr) (IZ H Hl Hr i) F w' v0 u0 v1 u1 v2 u2 x0 x1 x2 y0 y1 y2 P0 Q0 P1 Q1 P2 Q2)
  (hy0:y0=aA.take i++[l]++aA.drop (i+2)) (hy1:y1=pl++pr) (hd:d=0->kl.ks++kr.ks=[]):
  ay w' (d+1) a (.mk x0 (x.ks.take i++ .mk x1 (kl.ks++kr.ks)::x.ks.drop (i+2))) (fun b q=>F b q\/w.heap.size<=b)/\OnlyC F w w':=by
 have hKl: ∀b q,H (i+3) b q->b<w.heap.size:=fun b q hh=>hF b q (hO.own.1 _ b q hh);have hlr: ∀b q,H (i+3) b q-> ¬H (i+4) b q:=fun b q=>hO.own.2.1 (i+3) (i+4) b q (by omega);have hlen:pr.length=kr.ks.length:=hR.2.2.2.2.1;have e1:(pr.zip kr.ks).map Prod.fst=pr:=List.map_fst_zip (by omega);have e2:(pr.zip kr.ks).map Prod.snd=kr.ks:=List.map_snd_zip (by omega);have hpl:pl.length=kl.ks.length:=hL.2.2.2.2.1
 obtain⟨RL,nL,hRL⟩:=eN.node hL Ki hKl hB (t:=1) (by decide) rfl rfl rfl (fun j b q hh=>.inr (.inl ⟨j,hh⟩)) kl.ks.length kl.ks.length (aE _) (aE _) (pr.zip kr.ks) (fun m b q=>Hr (m+3) b q)
  (by
   show y1=_
   rw[hy1,e1,<-hpl,gd,List.drop_length,gn])
  (fun m b q hm=>⟨.inr (.inr ⟨m,hm⟩),fun hk=>hlr b q hk (hR.own.1 _ b q hm)⟩) (fun m m' b q h1 h2=>by have:=hR.2.2.2.2.2.2.2 _ _ b q h1 h2;omega)
  (fun m p k hm=>by
   rw[List.getElem?_zip_eq_some]at hm
   exact hR.2.2.2.2.2.1 m p k hm.1 hm.2)
  (fun e=>by rw[e2,gd,List.drop_length,gn];exact hd e)
 rw[e2,gd,List.drop_length,gn]at nL
 have hbP: ∀s b q,s<2->((uU P1 Q1 s) b q\/(uU P2 Q2 s) b q)->H (i+3) b q\/H (i+4) b q\/w.heap.size<=b:=fun s b q hs hh=>by
  rcases hh with hh|hh
  ·rcases eN.base hB (t:=1) (s:=s) (by decide) hs hh with h3|h3
   ·exact .inl (hL.own.1 _ b q h3)
   ·exact .inr (.inr h3)
  ·rcases eN.base hB (t:=2) (s:=s) (by decide) hs hh with h3|h3
   ·exact .inr (.inl (hR.own.1 _ b q h3))
   ·exact .inr (.inr h3)
 have nP:=eN.parent hO hF hi hB rfl rfl rfl (fun j b q a1 a2 hh=>.inl ⟨j,a1,a2,hh⟩) [(l,.mk x1 (kl.ks++kr.ks))] (rI RL (fun _ _=>False)) (by
   show y0=_;rw[hy0]
   rfl)
  (fun m b q hm=>match m,hm with
   |0,hm=>by
    rcases hRL b q hm with c|c|c|⟨j,hj,c⟩|⟨m,c⟩
    ·exact .inl (hL.own.1 0 b q c)
    ·exact .inr (.inr ⟨0,by decide,.inl c⟩)
    ·exact .inr (.inr ⟨1,by decide,.inl c⟩)
    ·exact .inl (hL.own.1 _ b q c)
    ·exact .inr (.inl (hR.own.1 _ b q c))
   |1,hm=>hm.elim
   |_+2,hm=>hm.elim)
  (fun m m' b q hm hm'=>by
   match m,hm,m',hm' with
   |0,_,0,_=>rfl
   |1,h1,_,_=>exact h1.elim
   |_+2,h1,_,_=>exact h1.elim
   |0,_,1,h2=>exact h2.elim
   |0,_,_+2,h2=>exact h2.elim)
  (fun m p k hm=>by
   match m,hm with
   |0,hm=>simp only[im,fl,mc]at hm;obtain⟨rfl,rfl⟩:=hm;exact nL
   |m+1,hm=>simp at hm) hbP
 refine⟨?_,hB.TU⟩;simpa using nP
end
end Go.Proofs.YtmkofmeojbcakaaGreatDoor
