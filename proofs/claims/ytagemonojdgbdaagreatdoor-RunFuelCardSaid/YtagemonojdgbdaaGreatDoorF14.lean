import Derived.Test.YtagemonojdgbdaaGreatDoorF04
import Derived.Test.YtagemonojdgbdaaGreatDoorF11
import Derived.Deep.RegionHeld3
import Derived.StillTailTactics
namespace Go.Proofs.YtagemonojdgbdaaGreatDoor
set_option maxRecDepth 100000
set_option maxHeartbeats 16000000
open Go.RowKit
abbrev o0:=@AllReadyH.nil
abbrev pb:=@wp_region_held_drew
abbrev pf:=@wpAnyH_done
abbrev ph:=@wpAnyH_ready
theorem Qt{P:Program}{md:Region.Mode}{l:List Oper}{Q:Exit->Act->World->Prop}{S:World->Prop}{i:Nat}{oi:Oper}{v:Value}{fuel:Nat}{listed:Array Bool}{a:Act}{w:World}(hi:l[i]?=some oi)
  (hs:Region.noSelect l.toArray=true) (hf:Region.free md l.toArray listed i=true) (hr:(Region.ready md l.toArray listed).contains i=true)
  (hQ: ∀c a w,Q (.panic c) (a.put oi.dst v) w->Q (.panic c) a w) (hw:Region.wanted oi (yielded l.toArray a.tmps)=true) (hy: ∀w,S w->(execOp a.eval oi).run P w=.ok (.value v) w) (hS:S w)
  (h:wpAnyH P md l.toArray Q S fuel (listed.setIfInBounds i true) (a.put oi.dst v) w):wpAnyH P md l.toArray Q S (fuel+1) listed a w:=
 wpAnyH_take (by simpa using hi) hs hf hr hQ (.inl ⟨hw,hy⟩) hS h
theorem bP{P:Program}{md:Region.Mode}{l:List Oper}{Q:Exit->Act->World->Prop}{S:World->Prop}{fuel:Nat}{listed:Array Bool}{a:Act}{w:World}{i:Nat}{o:Oper}{rs:List Nat}(ho:l[i]?=some o)
  (h: ∀K':Act->World->Prop,Shut (∀a w,S w->(S w->wpAnyH P md l.toArray Q S fuel (listed.setIfInBounds i true) a w)->K' a w)->if Region.wanted o (yielded l.toArray a.tmps)=true then Oper.wp P o a w K' Q else K' (a.put o.dst undef) w)
  (hs:AllReadyH P md l.toArray Q S fuel listed a w rs):AllReadyH P md l.toArray Q S fuel listed a w (i::rs):=AllReadyH.cons (by simpa using ho) h hs
theorem BZ{P:Program}{md:Region.Mode}{l:List Oper}{Q:Exit->Act->World->Prop}{S:World->Prop}{i:Nat}{oi:Oper}{fuel:Nat}{listed:Array Bool}{a:Act}{w:World}(hi:l[i]?=some oi)
  (hs:Region.noSelect l.toArray=true) (hf:Region.free md l.toArray listed i=true) (hr:(Region.ready md l.toArray listed).contains i=true)
  (hQ: ∀c a w,Q (.panic c) (a.put oi.dst undef) w->Q (.panic c) a w) (hw:Region.wanted oi (yielded l.toArray a.tmps)=false) (hS:S w)
  (h:wpAnyH P md l.toArray Q S fuel (listed.setIfInBounds i true) (a.put oi.dst undef) w):wpAnyH P md l.toArray Q S (fuel+1) listed a w:=
 wpAnyH_take (by simpa using hi) hs hf hr hQ (.inr ⟨hw,rfl⟩) hS h
theorem KT{wk W W':World}{p1:Addr}{v1:Value}(h:Below wk.heap.size wk W/\W.cell? p1=some v1)(hb:Below W.heap.size W W'):Below wk.heap.size wk W'/\W'.cell? p1=some v1:=
 ⟨h.1.trans (hb.mono h.1.size),(hb.cell (aE _ _ h.2)).trans h.2⟩
theorem pC{wk W W':World}{p1 p2:Addr}{v1 v2:Value}(h:Below wk.heap.size wk W/\W.cell? p1=some v1/\W.cell? p2=some v2)(hb:Below W.heap.size W W'):Below wk.heap.size wk W'/\W'.cell? p1=some v1/\W'.cell? p2=some v2:=
 ⟨h.1.trans (hb.mono h.1.size),(hb.cell (aE _ _ h.2.1)).trans h.2.1,(hb.cell (aE _ _ h.2.2)).trans h.2.2⟩
def Xy(_:List Nat)(p:Prop):Prop:=p
theorem aM(is:List Nat){p:Prop}(h:Xy is p):p:=h
theorem aN{p:Prop}(h:p):Xy [] p:=h
section
variable{P:Program}{md:Region.Mode}{l:List Oper}{Q:Exit->Act->World->Prop}{S:World->Prop}{oi:Oper}{v:Value}{fuel:Nat}{listed:Array Bool}{a:Act}{w:World}
theorem fJ(i:Nat)(hy: ∀w,S w->(execOp a.eval oi).run P w=.ok (.value v) w)(hS:S w)(h:wpAnyH P md l.toArray Q S fuel (listed.setIfInBounds i true) (a.put oi.dst v) w)(hi:l[i]?=some oi:=by rfl)
  (hs:Region.noSelect l.toArray=true:=by kernel_rfl) (hf:Region.free md l.toArray listed i=true:=by kernel_rfl) (hr:(Region.ready md l.toArray listed).contains i=true:=by kernel_rfl)
  (hQ: ∀c a w,Q (.panic c) (a.put oi.dst v) w->Q (.panic c) a w:=by exact fun _ _ _ h=>h) (hw:Region.wanted oi (yielded l.toArray a.tmps)=true:=by rfl):wpAnyH P md l.toArray Q S (fuel+1) listed a w:=
 Qt hi hs hf hr hQ hw hy hS h
theorem bX{i:Nat}{is:List Nat}(hy: ∀w,S w->(execOp a.eval oi).run P w=.ok (.value v) w)(hS:S w)(h:Xy is (wpAnyH P md l.toArray Q S fuel (listed.setIfInBounds i true) (a.put oi.dst v) w))(hi:l[i]?=some oi:=by rfl)
  (hs:Region.noSelect l.toArray=true:=by kernel_rfl) (hf:Region.free md l.toArray listed i=true:=by kernel_rfl) (hr:(Region.ready md l.toArray listed).contains i=true:=by kernel_rfl)
  (hQ: ∀c a w,Q (.panic c) (a.put oi.dst v) w->Q (.panic c) a w:=by exact fun _ _ _ h=>h) (hw:Region.wanted oi (yielded l.toArray a.tmps)=true:=by rfl):Xy (i::is) (wpAnyH P md l.toArray Q S (fuel+1) listed a w):=
 Qt hi hs hf hr hQ hw hy hS h
end
section
variable{P:Program}{md:Region.Mode}{l:List Oper}{Q:Exit->Act->World->Prop}{S:World->Prop}{o:Oper}{fuel:Nat}{listed:Array Bool}{a:Act}{w:World}
theorem aW(i:Nat)(h: ∀K':Act->World->Prop,Shut (∀a w,S w->(S w->wpAnyH P md l.toArray Q S fuel (listed.setIfInBounds i true) a w)->K' a w)->if Region.wanted o (yielded l.toArray a.tmps)=true then Oper.wp P o a w K' Q else K' (a.put o.dst undef) w)
  (ho:l[i]?=some o:=by rfl) (hr:Region.ready md l.toArray listed=[i]:=by kernel_rfl):wpAnyH P md l.toArray Q S (fuel+1) listed a w:=
 ph hr (by simp) (bP ho h o0)
end
theorem ai(a:Act)(d:Option Tmp)(v:Value):a.put d v=match d with|some t=>{a with tmps:=a.tmps.setIfInBounds t v}|none=>a:=rfl
theorem aj{α:Type}(l:List α)(i:Nat)(a:α):l.toArray.setIfInBounds i a=(l.set i a).toArray:=List.setIfInBounds_toArray ..
theorem ak{α:Type}(x:α)(xs:List α)(y:α):(x::xs).set 0 y=y::xs:=rfl
theorem ar{α:Type}(x:α)(xs:List α)(n:Nat)(y:α):(x::xs).set (n+1) y=x::xs.set n y:=rfl
theorem dG(w:World)(a c:Nat)(A:Option Addr)(c1:w.cell? ⟨a,1,none⟩=some (.slice A 0 c)):Calls Tryz.prog 137 #[.pointer (some ⟨a,0,none⟩)] w fun e w'=>e=.returned (.bool true)/\w=w':=by
 go_enter Tryz.func137,Tryz.ntmps137;go_wp2_with fail;go_ret
 exact⟨rfl,rfl⟩
theorem eQ(w:World)(a n c:Nat)(A:Option Addr)(hn:0<n)(c1:w.cell? ⟨a,1,none⟩=some (.slice A n c)):Calls Tryz.prog 137 #[.pointer (some ⟨a,0,none⟩)] w fun e w'=>e=.returned (.bool false)/\w=w':=by
 have hz:(((n:Int))==0)=false:=by rw[beq_eq_false_iff_ne];omega
 have hz2: ¬n=0:=by omega
 go_enter Tryz.func137,Tryz.ntmps137;go_wp2_with fail;go_ret
 exact⟨rfl,rfl⟩
theorem ae{w:World}{l:Nat}{v u:Value}(h:w.heap[l]?=some (.cells #[v,u] 201 (0,0))):(w.cell? ⟨l,0,none⟩=some v/\w.cell? ⟨l,1,none⟩=some u)/\w.frozen? ⟨l,0,none⟩=false/\w.frozen? ⟨l,1,none⟩=false:=by simp[World.cell?,World.frozen?,h]
theorem iE{w:World}{l:Nat}{v u:Value}(h:w.heap[l]?=some (.cells #[v,u] 201 (0,0)))(x:Value):(w.setCell ⟨l,0,none⟩ x).heap[l]?=some (.cells #[x,u] 201 (0,0)):=by have:=dr w l 0 _ _ x h;simpa using this
theorem Ge{w:World}{l:Nat}{v u:Value}(h:w.heap[l]?=some (.cells #[v,u] 201 (0,0)))(x:Value):(w.setCell ⟨l,1,none⟩ x).heap[l]?=some (.cells #[v,x] 201 (0,0)):=by have:=dr w l 1 _ _ x h;simpa using this
theorem ru{P:Program}(t e:TypeId)(k:Nat)(ht:P.underlying t=some (.slice e))(hsz: ∀w,(sizeOf e).run P w=.ok k w)(b o len c l h mx:Nat)(h1:l<=h)(h2:h<=mx)(h3:mx<=c)(hl:l<mx)(w:World):
  (Instr.slice t (.slice (some ⟨b,o,none⟩) len c) (some (.int .i64 (l:Int))) (some (.int .i64 (h:Int))) (some (.int .i64 (mx:Int)))).run P w=.ok (.slice (some ⟨b,o+l*k,none⟩) (h-l) (mx-l)) w:=by
 have hne: ¬mx=l:=by omega
 have UM: ¬l=mx:=by omega
 have h4:h<=c:=by omega
 have h5:l<=c:=by omega
 simp[Instr.slice,run_underlying ht,Instr.sliceBounds,run_sliceBound,h1,h2,h3,hsz,hne,gE]
theorem ry{P:Program}(t e:TypeId)(k:Nat)(ht:P.underlying t=some (.slice e))(hsz: ∀w,(sizeOf e).run P w=.ok k w)(b o len c h:Nat)(h3:h<=c)(w:World):
  (Instr.slice t (.slice (some ⟨b,o,none⟩) len c) none (some (.int .i64 (h:Int))) (some (.int .i64 (h:Int)))).run P w=.ok (.slice (some ⟨b,o,none⟩) h h) w:=by
 have e0:(⟨b,o,none⟩:Addr).add 0=⟨b,o,none⟩:=by rw[gE,mu]
 simp[Instr.slice,run_underlying ht,Instr.sliceBounds,run_sliceBound,h3,hsz,e0]
theorem eT{w:World}{l:Nat}{v u:Value}{t:TypeId}(h:w.heap[l]?=some (.cells #[v,u] t (0,0))):w.cell? ⟨l,0,none⟩=some v/\w.cell? ⟨l,1,none⟩=some u:=by simp[World.cell?,h]
theorem kK{W W':World}{p1 p2:Addr}{v1 v2:Value}(h:W.cell? p1=some v1/\W.cell? p2=some v2)(hb:Below W.heap.size W W'):W'.cell? p1=some v1/\W'.cell? p2=some v2:=
 ⟨(hb.cell (aE _ _ h.1)).trans h.1,(hb.cell (aE _ _ h.2)).trans h.2⟩
theorem dt{W W':World}{F:Nat->Nat->Prop}{b1 q1 b2 q2:Nat}{v1 v2:Value}(h:W.cell? ⟨b1,q1,none⟩=some v1/\W.cell? ⟨b2,q2,none⟩=some v2)(ho:OnlyC F W W')(h1: ¬F b1 q1)(h2: ¬F b2 q2):W'.cell? ⟨b1,q1,none⟩=some v1/\W'.cell? ⟨b2,q2,none⟩=some v2:=
 ⟨ho.cell h.1 h1,ho.cell h.2 h2⟩
theorem qc{d i o m:Nat}{x k:ND}{p0:Pr}(hk:x.ks[i]?=some k)(hd0:d=0->k.ks=[])(hp0:k.ps[m]?=some p0)(hm:o=m+1):lY d x i o=.mk (x.ps.take i++p0::x.ps.drop i) (x.ks.take i++(ji d k o).1::(ji d k o).2.2::x.ks.drop (i+1)):=by
 have e:(ji d k o).2.1=p0:=by rw[FW hd0];simp only;rw[hm,nw,hp0];rfl
 unfold lY;rw[hk];simp only[ns,e]
theorem dA(l:List Pr): ∀u∈(l.map ax).flatten,u.oneCell'=true:=by intro u hu;obtain⟨x,hx,hu⟩:=List.mem_flatten.1 hu;obtain⟨c,_,rfl⟩:=ep.1 hx;simp[ax]at hu;rcases hu with rfl|rfl<;>rfl
theorem bQ(l:List Nat): ∀u∈(l.map aL).flatten,u.oneCell'=true:=by intro u hu;obtain⟨x,hx,hu⟩:=List.mem_flatten.1 hu;obtain⟨c,_,rfl⟩:=ep.1 hx;simp[aL]at hu;rcases hu with rfl;rfl
theorem dV{α β:Type}(f:α->β)(l:List α)(i:Nat)(x:α):(l.map f).take i++f x::(l.map f).drop i=(l.take i++x::l.drop i).map f:=by simp
def pD(d a i o:Nat)(x:ND)(F:Nat->Nat->Prop)(w:World)(e:Ending)(w':World):Prop:=
 e=.returned (.tuple #[])/\ay w' (d+1) a (lY d x i o) (fun b q=>F b q\/w.heap.size<=b)/\OnlyC F w w'
theorem D9(w:World)(d a i o m l n1 c1 b1 o1 np cp bk ok ck nk:Nat)(A:Option Addr)(x k:ND)(F:Nat->Nat->Prop)(Qm Ob:Value)(aA iI:List Nat)(H H1:Nat->Nat->Nat->Prop)(TK:Option Addr)(c2:Nat)
  (hO:aS w (ay w d) a x F (.slice A np cp) (.slice (some ⟨bk,ok,none⟩) nk ck) aA H) (hF: ∀b q,F b q->b<w.heap.size) (hk:x.ks[i]?=some k) (hl:aA[i]?=some l) (Gb:i<=x.ps.length)
  (hK:aS w (bL w d) l k (H (i+3)) Qm Ob iI H1) (hT: ∀i b q,H1 i b q->i<k.ks.length+3) (hd0:d=0->k.ks=[])
  (hkn:k.ps.length=2*o) (ho:2<=o) (eo:o<=16) (hm:o=m+1) (mH:x.ps.length=np) (jP:aA.length=nk) (B0:nk<=1000) (RI:np<=1000)
  (hvp:Qm=.slice (some ⟨b1,o1,none⟩) n1 c1) (tF:n1=2*o) (hc1:n1<=c1) (hcm:c1<=maxLen) (hvk:Ob=.slice TK 0 c2)
  (r2:w.cell? ⟨bk,ok+i,none⟩=some (.pointer (some ⟨l,0,none⟩))) (p0:Pr) (hp0:k.ps[m]?=some p0) (r4:w.cell? ⟨b1,o1+m*2,none⟩=some (.string ⟨p0.1.toArray⟩)) (r5:w.cell? ⟨b1,o1+m*2+1,none⟩=some (.string ⟨p0.2.toArray⟩))
  (A1 B1 A2 B2:Nat->Nat->Prop) (p1:az 2 210 w (.slice (some ⟨b1,o1,none⟩) m m) ((k.ps.take (o-1)).map ax) (fun b q=>H1 1 b q/\A1 b q)) (p2:az 2 210 w (.slice (some ⟨b1,o1+o*2,none⟩) (n1-o) (n1-o)) ((k.ps.drop o).map ax) (fun b q=>H1 1 b q/\B1 b q))
  (q1:az 1 197 w (.slice TK 0 c2) ((iI.take o).map aL) (fun b q=>H1 2 b q/\A2 b q)) (q2:az 1 197 w (.slice none 0 0) ((iI.drop o).map aL) (fun b q=>H1 2 b q/\B2 b q))
  (e1: ∀b q,A1 b q-> ¬B1 b q) (e2: ∀b q,A2 b q-> ¬B2 b q):
  Calls Tryz.prog 94 #[.pointer (some ⟨a,0,none⟩),.int .i64 i,.int .i64 o] w (pD d a i o x F w):=by
 subst hvp hvk;have hal:a<w.heap.size:=hF a 0 (hO.own.1 0 a 0 (hO.2.1 0));have hll:l<w.heap.size:=hF l 0 (hO.own.1 _ l 0 (hK.own.1 0 l 0 (hK.2.1 0)));have Kk: ¬l=a:=hO.own.2.2 (i+3) l 0 (by omega) (hK.own.1 0 l 0 (hK.2.1 0));have KU:i<nk:=by have:=(b8.1 hl).1;omega
 have cS:=al (ab hO (ab hF (ab hk (ab hl (ab hK (ab hT (ab hd0 (ab p1 (ab p2 (ab q1 (ab q2 (ab e1 e2))))))))))));have HN:=al (ab hkn (ab hm (ab hp0 (ab mH (ab jP (ab Gb hal))))));have HL:=al (ab hO.1 (ab hK.1 hll));obtain⟨⟨-,r1⟩,-,-⟩:=ae hO.1;obtain⟨⟨z0,z1⟩,-,-⟩:=ae hK.1;have m1:(o:Int)-1=(m:Int):=by omega
 have i1:(0:Int)<=(i:Int):=by omega
 have i2:(i:Int)<(nk:Int):=by omega
 have i3:(0:Int)<=(m:Int):=by omega
 have i4:(m:Int)<(n1:Int):=by omega
 have i5:(o:Int)<=(n1:Int):=by omega
 have i6:(n1:Int)<=(c1:Int):=by omega
 have i7:(0:Int)<=(o:Int):=by omega
 have i8:(m:Int)<=(c1:Int):=by omega
 have j1:c1<=maxLen:=hcm;have sl1:=ru (P:=Tryz.prog) 198 210 2 Tryz.underlying198 (fun _=>by kernel_rfl) b1 o1 n1 c1 o n1 n1 (by omega) (aq _) hc1 (by omega);have sl0:=ry (P:=Tryz.prog) 198 210 2 Tryz.underlying198 (fun _=>by kernel_rfl) b1 o1 n1 c1 m (by omega);have HE:=al (ab tF (ab ho RI));clear hO hF hk hl hK hT hd0 hkn hp0 p1 p2 q1 q2 e1 e2 Gb mH jP hal hll tF hm ho;go_enter Tryz.func94,Tryz.ntmps94;go_upto_region 2 with fail;have bT:=af w (.cells #[.string ⟨p0.1.toArray⟩,.string ⟨p0.2.toArray⟩] 210);have kT:=an w (.cells #[.string ⟨p0.1.toArray⟩,.string ⟨p0.2.toArray⟩] 210);generalize w.alloc (.cells #[.string ⟨p0.1.toArray⟩,.string ⟨p0.2.toArray⟩] 210)=w1 at bT kT⊢;obtain⟨T,hTe⟩: ∃y,w.heap.size=y:=⟨_,rfl⟩;rw[hTe]at kT⊢;have l1:=pw bT HL.out.2.1;clear z0 z1 r1 r2 r4 r5;obtain⟨⟨z0,z1⟩,-,-⟩:=ae l1;have H1:=al (ab bT (ab kT (ab hTe l1)));clear bT kT hTe l1;go_upto_region 4 with fail;have bR:=af w1 (.cells #[(.slice (some ⟨b1,o1+o*2,none⟩) (n1-o) (n1-o)),.slice none 0 0] 201);have kR:=an w1 (.cells #[(.slice (some ⟨b1,o1+o*2,none⟩) (n1-o) (n1-o)),.slice none 0 0] 201);generalize w1.alloc (.cells #[(.slice (some ⟨b1,o1+o*2,none⟩) (n1-o) (n1-o)),.slice none 0 0] 201)=w2 at bR kR⊢;obtain⟨R,hR⟩: ∃y,w1.heap.size=y:=⟨_,rfl⟩;rw[hR]at kR⊢;have UN:w.heap.size<R/\T=w.heap.size/\T<R:=by have:=oS H1.out.2.1;have:=H1.out.2.2.1;omega
 have l2:=pw bR H1.out.2.2.2;have t2:=pw bR H1.out.2.1;have UO:=H1.out.1.trans (bR.mono H1.out.1.size);clear z0 z1;obtain⟨⟨z0,z1⟩,zf,-⟩:=ae l2;have H2:=al (ab UO (ab kR (ab UN (ab l2 t2))));clear bR kR hR UN l2 t2 UO H1;go_upto_region 5 with fail;have UQ: ¬T=l:=by have:=H2.out.2.2.1;have:=HL.out.2.2;omega
 have Qu: ¬R=l:=by have:=H2.out.2.2.1;have:=HL.out.2.2;omega
 have l3:=iE H2.out.2.2.2.1 (.slice (some ⟨b1,o1,none⟩) m m);have o3:=OnlyC.bp w2 l 0 (.slice (some ⟨b1,o1,none⟩) m m);have k3:=o3.heap H2.out.2.1 (fun q e=>Qu e.1);have t3:=o3.heap H2.out.2.2.2.2 (fun q e=>UQ e.1);have c3:OnlyC (fun b _=>b=l) w (w2.setCell ⟨l,0,none⟩ (.slice (some ⟨b1,o1,none⟩) m m)):=(oE H2.out.1 (fun b _=>b=l)).trans o3 (fun b q _ e=>e.1);generalize w2.setCell ⟨l,0,none⟩ (.slice (some ⟨b1,o1,none⟩) m m)=w3 at l3 k3 t3 c3⊢;clear z0 z1 zf o3;obtain⟨⟨z0,z1⟩,YB,zf⟩:=ae l3;clear YB;have H3:=al (ab c3 (ab l3 (ab k3 (ab t3 H2.out.2.2.1))));clear l3 k3 t3 c3 H2 UQ;have iW:=al (dG w3 l c2 TK z1);go_wp2_with fail;refine iW.out.mono ?_;rintro e w4 ⟨rfl,rfl⟩;clear iW z0 z1 zf;go_upto_region 8 with fail;have hgt:=H3.out.2.2.2.2;have JM: ∀j q b,H j b q->b<w.heap.size:=fun j q b hh=>cS.out.2.1 b q (cS.out.1.own.1 j b q hh);have qd: ∀j q,¬H j T q:=fun j q hh=>by have:=JM j q T hh;omega
 have RJ: ∀j b q,j≠i+3->H j b q-> ¬b=l:=fun j b q hj hh e=>cS.out.1.own.2.1 j (i+3) b q hj hh (e▸cS.out.2.2.2.2.1.own.1 0 l q (cS.out.2.2.2.2.1.2.1 q));have ka:=H3.out.1.heap HL.out.1 (fun q e=>Kk e.symm);have UR:=(cS.out.1.2.2.1).only H3.out.1 (fun b q hh=>RJ 1 b q (by omega) hh);have UT:=(cS.out.1.2.2.2.1).only H3.out.1 (fun b q hh=>RJ 2 b q (by omega) hh);have HA:=al (ab ka (ab UR UT));have HX:=al (ab qd (ab JM hgt));have tS:=eT H3.out.2.2.2.1;clear hgt JM qd RJ ka UR UT;refine pb (S:=(fun W=>W.cell? ⟨T,0,none⟩=some (.string ⟨p0.1.toArray⟩)/\W.cell? ⟨T,1,none⟩=some (.string ⟨p0.2.toArray⟩))) (by kernel_rfl) tS (fun pt=>?_);generalize hW3:World.drew w3=W3 at pt⊢;have HB:=al (show Below w3.heap.size w3 W3 from hW3▸(aw _ _).drew);clear hW3 tS;refine aM [0,1,2,3,5,6] ?_
 iterate 6 (refine bX (v:=?_) (fun wS hSw=>?_) pt ?_;rotate_left;(obtain⟨s0,s1⟩:=hSw;go_simp;try with_reducible rfl);try simp only[ai,aj,ak,ar])
 refine aN ?_;refine ph (rs:=[4,7]) (by kernel_rfl) (by simp) (bP (i:=4) rfl (fun K hK=>?_) (bP (i:=7) rfl (fun K hK=>?_) o0))
 ·skip
  obtain⟨⟨r6,-⟩,-,-⟩:=ae (pw HB.out HA.out.1);go_simp;refine hK.out _ _ (pt) ?_;clear hK K pt r6;intro pt
  try simp only[ai,aj,ak,ar]
  refine aW 7 (fun K hK=>?_);go_simp;refine hK.out _ _ (kK pt (af _ _)) ?_;clear hK K pt;intro pt
  try simp only[ai,aj,ak,ar]
  have kV:=an W3 (.cells #[.string ⟨p0.1.toArray⟩,.string ⟨p0.2.toArray⟩] 210);have bV:=af W3 (.cells #[.string ⟨p0.1.toArray⟩,.string ⟨p0.2.toArray⟩] 210);generalize W3.alloc (.cells #[.string ⟨p0.1.toArray⟩,.string ⟨p0.2.toArray⟩] 210)=W5 at kV bV pt⊢;obtain⟨VB,gA⟩: ∃y,W3.heap.size=y:=⟨_,rfl⟩;rw[gA]at kV⊢;have HV:=al (ab kV (show w.heap.size<VB by have h1:=HB.out.size;have h2:=oS H3.out.2.2.1;have h3:=H3.out.2.2.2.2;omega));have HB:=al (HB.out.trans (bV.mono HB.out.size));clear kV bV gA;refine aW 8 (fun K hK=>?_);go_simp;refine(iG W5 (H 1) _ (x.ps.map ax) i _ rfl (ax p0) VB (HA.out.2.1.only (qn HB.out) (fun _ _ _ h=>h)) (by rw[fb];exact HN.out.2.2.2.2.2.1) (by rw[fb,HN.out.2.2.2.1];exact HE.out.2.2) (by rfl) (by simp[ax,Value.oneCell']) (dA _) HV.out.1 (fun q hh=>by have:=HX.out.2.1 1 q VB hh;have:=HV.out.2;omega)).mono ?_;rintro e wn ⟨v6,rfl,bM,eA⟩;rw[dV]at bM;obtain⟨A6,c6,fy,-⟩:=bM.slice;obtain⟨n6,eY⟩: ∃y,((x.ps.take i++p0::x.ps.drop i).map ax).length=y:=⟨_,rfl⟩;rw[eY]at fy;subst fy;clear eY;have H6:=al (ab bM eA);clear bM eA
  try go_simp
  refine hK.out _ _ (dt pt H6.out.2 (HX.out.1 1 0) (HX.out.1 1 1)) ?_;clear hK K pt;intro pt
  try simp only[ai,aj,ak,ar]
  refine aM [9,10] ?_
  iterate 2 (refine bX (v:=?_) (fun wS hSw=>?_) pt ?_;rotate_left;(obtain⟨s0,s1⟩:=hSw;go_simp;try with_reducible rfl);try simp only[ai,aj,ak,ar])
  refine aN ?_;refine aW 11 (fun K hK=>?_);obtain⟨⟨r6,-⟩,rf,-⟩:=ae (H6.out.2.heap (pw HB.out HA.out.1) (fun q hh=>cS.out.1.own.2.1 1 0 a q (by decide) hh (cS.out.1.2.1 q)));go_simp;refine hK.out _ _ (dt pt (OnlyC.bp _ a 0 _) (fun e=>by have:=e.1;have:=HX.out.2.2;have:=HN.out.2.2.2.2.2.2;omega) (fun e=>by have:=e.1;have:=HX.out.2.2;have:=HN.out.2.2.2.2.2.2;omega)) ?_;clear hK K pt r6 rf;intro pt
  try simp only[ai,aj,ak,ar]
  refine pf (by kernel_rfl) ?_ _;have k7:=iE (H6.out.2.heap (pw HB.out HA.out.1) (fun q hh=>cS.out.1.own.2.1 1 0 a q (by decide) hh (cS.out.1.2.1 q))) (.slice A6 n6 c6);have s7:=((HA.out.2.2.only (qn HB.out) (fun _ _ _ h=>h)).only H6.out.2 (fun b q hh Gc=>cS.out.1.own.2.1 2 1 b q (by decide) hh Gc)).only (OnlyC.bp wn a 0 (.slice A6 n6 c6)) (fun b q hh e=>cS.out.1.own.2.2 2 b q (by decide) hh e.1);have z7:(wn.setCell ⟨a,0,none⟩ (.slice A6 n6 c6)).heap.size=wn.heap.size:=by simp[World.setCell]
  have W7:=al (show ∃u,u=wn.setCell ⟨a,0,none⟩ (.slice A6 n6 c6)from⟨_,rfl⟩);generalize h7:wn.setCell ⟨a,0,none⟩ (.slice A6 n6 c6)=w7 at k7 s7 z7 pt⊢;clear W7 pt;obtain⟨⟨-,y7⟩,-,-⟩:=ae k7;have H7:=al (ab k7 (ab s7 (ab z7 h7)));clear k7 s7 z7 h7;go_wp2_with fail;have kN:=an w7 (.cells #[.pointer (some ⟨R,0,none⟩)] 197);have bN:=af w7 (.cells #[.pointer (some ⟨R,0,none⟩)] 197);generalize w7.alloc (.cells #[.pointer (some ⟨R,0,none⟩)] 197)=w8 at kN bN⊢;obtain⟨VN,Ea⟩: ∃y,w7.heap.size=y:=⟨_,rfl⟩;rw[Ea]at kN⊢;have uo:=al (ab kN (ab Ea bN));clear kN Ea bN y7;refine(iH w8 (H 2) _ (aA.map aL) (i+1) _ (by simp) (aL R) VN (H7.out.2.1.only (qn uo.out.2.2) (fun _ _ _ h=>h)) (by rw[fb,HN.out.2.2.2.2.1];exact KU) (by rw[fb,HN.out.2.2.2.2.1];exact B0) (by rfl) (by simp[aL,Value.oneCell']) (bQ _) uo.out.1 (fun q hh=>by have:=HX.out.2.1 2 q VN hh;have h1:=uo.out.2.1;have h2:=H7.out.2.2.1;have h3:=H6.out.2.size;have h4:=HB.out.size;have h5:=oS H3.out.2.2.1;have h6:=H3.out.2.2.2.2;omega)).mono ?_;rintro e w9 ⟨v9,rfl,cu,eU⟩;rw[dV]at cu;obtain⟨A9,c9,fQ,-⟩:=cu.slice;obtain⟨n9,fG⟩: ∃y,((aA.take (i+1)++R::aA.drop (i+1)).map aL).length=y:=⟨_,rfl⟩;rw[fG]at fQ;subst fQ;clear fG;obtain⟨⟨-,y9⟩,-,f9⟩:=ae (eU.heap (pw uo.out.2.2 H7.out.1) (fun q hh=>cS.out.1.own.2.1 2 0 a q (by decide) hh (cS.out.1.2.1 q)));have H9:=al (ab cu eU);clear cu eU;go_wp2_with fail
  first|refine et (du rfl _ _ _) rfl ?_|refine dq (du rfl _ _ _) rfl ?_
  obtain⟨a1,a2,a3,a4,a5,a6,a7,a8,a9,Oc,RM,a12,RN⟩:=cS.out;unfold pD;rw[qc a3 a7 HN.out.2.2.1 HN.out.2.1];have hend:=nV (r:=R) a1 a2 a3 a4 a5 a6 a7 H3.out.1 (Nat.le_of_lt H3.out.2.2.2.2.1) (oS H3.out.2.2.1) H3.out.2.1 H3.out.2.2.1 a8 a9 Oc RM a12 RN HB.out H6.out.2 H6.out.1 (by rw[H7.out.2.2.2];exact uo.out.2.2.mono (Nat.le_of_eq H7.out.2.2.1.symm)) H9.out.2 H9.out.1;exact⟨rfl,hend⟩
 ·skip
  go_simp;refine hK.out _ _ (kK pt (af _ _)) ?_;clear hK K pt;intro pt
  try simp only[ai,aj,ak,ar]
  have kV:=an W3 (.cells #[.string ⟨p0.1.toArray⟩,.string ⟨p0.2.toArray⟩] 210);have bV:=af W3 (.cells #[.string ⟨p0.1.toArray⟩,.string ⟨p0.2.toArray⟩] 210);generalize W3.alloc (.cells #[.string ⟨p0.1.toArray⟩,.string ⟨p0.2.toArray⟩] 210)=W5 at kV bV pt⊢;obtain⟨VB,gA⟩: ∃y,W3.heap.size=y:=⟨_,rfl⟩;rw[gA]at kV⊢;have HV:=al (ab kV (show w.heap.size<VB by have h1:=HB.out.size;have h2:=oS H3.out.2.2.1;have h3:=H3.out.2.2.2.2;omega));have HB:=al (HB.out.trans (bV.mono HB.out.size));clear kV bV gA;refine aW 4 (fun K hK=>?_);obtain⟨⟨r6,-⟩,-,-⟩:=ae (pw HB.out HA.out.1);go_simp;refine hK.out _ _ (pt) ?_;clear hK K pt r6;intro pt
  try simp only[ai,aj,ak,ar]
  refine aW 8 (fun K hK=>?_);go_simp;refine(iG W5 (H 1) _ (x.ps.map ax) i _ rfl (ax p0) VB (HA.out.2.1.only (qn HB.out) (fun _ _ _ h=>h)) (by rw[fb];exact HN.out.2.2.2.2.2.1) (by rw[fb,HN.out.2.2.2.1];exact HE.out.2.2) (by rfl) (by simp[ax,Value.oneCell']) (dA _) HV.out.1 (fun q hh=>by have:=HX.out.2.1 1 q VB hh;have:=HV.out.2;omega)).mono ?_;rintro e wn ⟨v6,rfl,bM,eA⟩;rw[dV]at bM;obtain⟨A6,c6,fy,-⟩:=bM.slice;obtain⟨n6,eY⟩: ∃y,((x.ps.take i++p0::x.ps.drop i).map ax).length=y:=⟨_,rfl⟩;rw[eY]at fy;subst fy;clear eY;have H6:=al (ab bM eA);clear bM eA
  try go_simp
  refine hK.out _ _ (dt pt H6.out.2 (HX.out.1 1 0) (HX.out.1 1 1)) ?_;clear hK K pt;intro pt
  try simp only[ai,aj,ak,ar]
  refine aM [9,10] ?_
  iterate 2 (refine bX (v:=?_) (fun wS hSw=>?_) pt ?_;rotate_left;(obtain⟨s0,s1⟩:=hSw;go_simp;try with_reducible rfl);try simp only[ai,aj,ak,ar])
  refine aN ?_;refine aW 11 (fun K hK=>?_);obtain⟨⟨r6,-⟩,rf,-⟩:=ae (H6.out.2.heap (pw HB.out HA.out.1) (fun q hh=>cS.out.1.own.2.1 1 0 a q (by decide) hh (cS.out.1.2.1 q)));go_simp;refine hK.out _ _ (dt pt (OnlyC.bp _ a 0 _) (fun e=>by have:=e.1;have:=HX.out.2.2;have:=HN.out.2.2.2.2.2.2;omega) (fun e=>by have:=e.1;have:=HX.out.2.2;have:=HN.out.2.2.2.2.2.2;omega)) ?_;clear hK K pt r6 rf;intro pt
  try simp only[ai,aj,ak,ar]
  refine pf (by kernel_rfl) ?_ _;have k7:=iE (H6.out.2.heap (pw HB.out HA.out.1) (fun q hh=>cS.out.1.own.2.1 1 0 a q (by decide) hh (cS.out.1.2.1 q))) (.slice A6 n6 c6);have s7:=((HA.out.2.2.only (qn HB.out) (fun _ _ _ h=>h)).only H6.out.2 (fun b q hh Gc=>cS.out.1.own.2.1 2 1 b q (by decide) hh Gc)).only (OnlyC.bp wn a 0 (.slice A6 n6 c6)) (fun b q hh e=>cS.out.1.own.2.2 2 b q (by decide) hh e.1);have z7:(wn.setCell ⟨a,0,none⟩ (.slice A6 n6 c6)).heap.size=wn.heap.size:=by simp[World.setCell]
  have W7:=al (show ∃u,u=wn.setCell ⟨a,0,none⟩ (.slice A6 n6 c6)from⟨_,rfl⟩);generalize h7:wn.setCell ⟨a,0,none⟩ (.slice A6 n6 c6)=w7 at k7 s7 z7 pt⊢;clear W7 pt;obtain⟨⟨-,y7⟩,-,-⟩:=ae k7;have H7:=al (ab k7 (ab s7 (ab z7 h7)));clear k7 s7 z7 h7;go_wp2_with fail;have kN:=an w7 (.cells #[.pointer (some ⟨R,0,none⟩)] 197);have bN:=af w7 (.cells #[.pointer (some ⟨R,0,none⟩)] 197);generalize w7.alloc (.cells #[.pointer (some ⟨R,0,none⟩)] 197)=w8 at kN bN⊢;obtain⟨VN,Ea⟩: ∃y,w7.heap.size=y:=⟨_,rfl⟩;rw[Ea]at kN⊢;have uo:=al (ab kN (ab Ea bN));clear kN Ea bN y7;refine(iH w8 (H 2) _ (aA.map aL) (i+1) _ (by simp) (aL R) VN (H7.out.2.1.only (qn uo.out.2.2) (fun _ _ _ h=>h)) (by rw[fb,HN.out.2.2.2.2.1];exact KU) (by rw[fb,HN.out.2.2.2.2.1];exact B0) (by rfl) (by simp[aL,Value.oneCell']) (bQ _) uo.out.1 (fun q hh=>by have:=HX.out.2.1 2 q VN hh;have h1:=uo.out.2.1;have h2:=H7.out.2.2.1;have h3:=H6.out.2.size;have h4:=HB.out.size;have h5:=oS H3.out.2.2.1;have h6:=H3.out.2.2.2.2;omega)).mono ?_;rintro e w9 ⟨v9,rfl,cu,eU⟩;rw[dV]at cu;obtain⟨A9,c9,fQ,-⟩:=cu.slice;obtain⟨n9,fG⟩: ∃y,((aA.take (i+1)++R::aA.drop (i+1)).map aL).length=y:=⟨_,rfl⟩;rw[fG]at fQ;subst fQ;clear fG;obtain⟨⟨-,y9⟩,-,f9⟩:=ae (eU.heap (pw uo.out.2.2 H7.out.1) (fun q hh=>cS.out.1.own.2.1 2 0 a q (by decide) hh (cS.out.1.2.1 q)));have H9:=al (ab cu eU);clear cu eU;go_wp2_with fail
  first|refine et (du rfl _ _ _) rfl ?_|refine dq (du rfl _ _ _) rfl ?_
  obtain⟨a1,a2,a3,a4,a5,a6,a7,a8,a9,Oc,RM,a12,RN⟩:=cS.out;unfold pD;rw[qc a3 a7 HN.out.2.2.1 HN.out.2.1];have hend:=nV (r:=R) a1 a2 a3 a4 a5 a6 a7 H3.out.1 (Nat.le_of_lt H3.out.2.2.2.2.1) (oS H3.out.2.2.1) H3.out.2.1 H3.out.2.2.1 a8 a9 Oc RM a12 RN HB.out H6.out.2 H6.out.1 (by rw[H7.out.2.2.2];exact uo.out.2.2.mono (Nat.le_of_eq H7.out.2.2.1.symm)) H9.out.2 H9.out.1;exact⟨rfl,hend⟩
theorem KV(w:World)(d a i o m l n1 c1 b1 o1 np cp bk ok ck nk:Nat)(A:Option Addr)(x k:ND)(F:Nat->Nat->Prop)(Qm Ob:Value)(aA iI:List Nat)(H H1:Nat->Nat->Nat->Prop)(b2 o2 n2 c2:Nat)(nZ:n2=2*o+1)(hc2:n2<=c2)(_hcm2:c2<=maxLen)
  (hO:aS w (ay w d) a x F (.slice A np cp) (.slice (some ⟨bk,ok,none⟩) nk ck) aA H) (hF: ∀b q,F b q->b<w.heap.size) (hk:x.ks[i]?=some k) (hl:aA[i]?=some l) (Gb:i<=x.ps.length)
  (hK:aS w (bL w d) l k (H (i+3)) Qm Ob iI H1) (hT: ∀i b q,H1 i b q->i<k.ks.length+3) (hd0:d=0->k.ks=[])
  (hkn:k.ps.length=2*o) (ho:2<=o) (eo:o<=16) (hm:o=m+1) (mH:x.ps.length=np) (jP:aA.length=nk) (B0:nk<=1000) (RI:np<=1000)
  (hvp:Qm=.slice (some ⟨b1,o1,none⟩) n1 c1) (tF:n1=2*o) (hc1:n1<=c1) (hcm:c1<=maxLen) (hvk:Ob=.slice (some ⟨b2,o2,none⟩) n2 c2)
  (r2:w.cell? ⟨bk,ok+i,none⟩=some (.pointer (some ⟨l,0,none⟩))) (p0:Pr) (hp0:k.ps[m]?=some p0) (r4:w.cell? ⟨b1,o1+m*2,none⟩=some (.string ⟨p0.1.toArray⟩)) (r5:w.cell? ⟨b1,o1+m*2+1,none⟩=some (.string ⟨p0.2.toArray⟩))
  (A1 B1 A2 B2:Nat->Nat->Prop) (p1:az 2 210 w (.slice (some ⟨b1,o1,none⟩) m m) ((k.ps.take (o-1)).map ax) (fun b q=>H1 1 b q/\A1 b q)) (p2:az 2 210 w (.slice (some ⟨b1,o1+o*2,none⟩) (n1-o) (n1-o)) ((k.ps.drop o).map ax) (fun b q=>H1 1 b q/\B1 b q))
  (q1:az 1 197 w (.slice (some ⟨b2,o2,none⟩) o o) ((iI.take o).map aL) (fun b q=>H1 2 b q/\A2 b q)) (q2:az 1 197 w (.slice (some ⟨b2,o2+o,none⟩) (n2-o) (n2-o)) ((iI.drop o).map aL) (fun b q=>H1 2 b q/\B2 b q))
  (e1: ∀b q,A1 b q-> ¬B1 b q) (e2: ∀b q,A2 b q-> ¬B2 b q):
  Calls Tryz.prog 94 #[.pointer (some ⟨a,0,none⟩),.int .i64 i,.int .i64 o] w (pD d a i o x F w):=by
 subst hvp hvk;have hal:a<w.heap.size:=hF a 0 (hO.own.1 0 a 0 (hO.2.1 0));have hll:l<w.heap.size:=hF l 0 (hO.own.1 _ l 0 (hK.own.1 0 l 0 (hK.2.1 0)));have Kk: ¬l=a:=hO.own.2.2 (i+3) l 0 (by omega) (hK.own.1 0 l 0 (hK.2.1 0));have KU:i<nk:=by have:=(b8.1 hl).1;omega
 have cS:=al (ab hO (ab hF (ab hk (ab hl (ab hK (ab hT (ab hd0 (ab p1 (ab p2 (ab q1 (ab q2 (ab e1 e2))))))))))));have HN:=al (ab hkn (ab hm (ab hp0 (ab mH (ab jP (ab Gb hal))))));have HL:=al (ab hO.1 (ab hK.1 hll));obtain⟨⟨-,r1⟩,-,-⟩:=ae hO.1;obtain⟨⟨z0,z1⟩,-,-⟩:=ae hK.1;have m1:(o:Int)-1=(m:Int):=by omega
 have i1:(0:Int)<=(i:Int):=by omega
 have i2:(i:Int)<(nk:Int):=by omega
 have i3:(0:Int)<=(m:Int):=by omega
 have i4:(m:Int)<(n1:Int):=by omega
 have i5:(o:Int)<=(n1:Int):=by omega
 have i6:(n1:Int)<=(c1:Int):=by omega
 have i7:(0:Int)<=(o:Int):=by omega
 have i8:(m:Int)<=(c1:Int):=by omega
 have j1:c1<=maxLen:=hcm;have sl1:=ru (P:=Tryz.prog) 198 210 2 Tryz.underlying198 (fun _=>by kernel_rfl) b1 o1 n1 c1 o n1 n1 (by omega) (aq _) hc1 (by omega);have sl0:=ry (P:=Tryz.prog) 198 210 2 Tryz.underlying198 (fun _=>by kernel_rfl) b1 o1 n1 c1 m (by omega)
 have sl3: ∀w,(Instr.slice 199 (.slice (some ⟨b2,o2,none⟩) n2 c2) (some (.int .i64 (o:Int))) (some (.int .i64 (n2:Int))) (some (.int .i64 (n2:Int)))).run Tryz.prog w=.ok (.slice (some ⟨b2,o2+o,none⟩) (n2-o) (n2-o)) w:=fun w=>by have:=ru (P:=Tryz.prog) 199 197 1 Tryz.underlying199 (fun _=>by kernel_rfl) b2 o2 n2 c2 o n2 n2 (by omega) (aq _) hc2 (by omega) w;simpa using this
 have sl4:=ry (P:=Tryz.prog) 199 197 1 Tryz.underlying199 (fun _=>by kernel_rfl) b2 o2 n2 c2 o (by omega);have m2:(n1:Int)+1=(n2:Int):=by omega
 have m3:wrap64 (n2:Int)=(n2:Int):=by first|go_num|(unfold wrap64;omega)
 have aav:0<n2:=by omega
 have HE:=al (ab tF (ab ho RI));clear hO hF hk hl hK hT hd0 hkn hp0 p1 p2 q1 q2 e1 e2 Gb mH jP hal hll tF hm ho nZ;go_enter Tryz.func94,Tryz.ntmps94;go_upto_region 2 with fail;have bT:=af w (.cells #[.string ⟨p0.1.toArray⟩,.string ⟨p0.2.toArray⟩] 210);have kT:=an w (.cells #[.string ⟨p0.1.toArray⟩,.string ⟨p0.2.toArray⟩] 210);generalize w.alloc (.cells #[.string ⟨p0.1.toArray⟩,.string ⟨p0.2.toArray⟩] 210)=w1 at bT kT⊢;obtain⟨T,hTe⟩: ∃y,w.heap.size=y:=⟨_,rfl⟩;rw[hTe]at kT⊢;have l1:=pw bT HL.out.2.1;clear z0 z1 r1 r2 r4 r5;obtain⟨⟨z0,z1⟩,-,-⟩:=ae l1;have H1:=al (ab bT (ab kT (ab hTe l1)));clear bT kT hTe l1;go_upto_region 4 with fail;have bR:=af w1 (.cells #[(.slice (some ⟨b1,o1+o*2,none⟩) (n1-o) (n1-o)),.slice none 0 0] 201);have kR:=an w1 (.cells #[(.slice (some ⟨b1,o1+o*2,none⟩) (n1-o) (n1-o)),.slice none 0 0] 201);generalize w1.alloc (.cells #[(.slice (some ⟨b1,o1+o*2,none⟩) (n1-o) (n1-o)),.slice none 0 0] 201)=w2 at bR kR⊢;obtain⟨R,hR⟩: ∃y,w1.heap.size=y:=⟨_,rfl⟩;rw[hR]at kR⊢;have UN:w.heap.size<R/\T=w.heap.size/\T<R:=by have:=oS H1.out.2.1;have:=H1.out.2.2.1;omega
 have l2:=pw bR H1.out.2.2.2;have t2:=pw bR H1.out.2.1;have UO:=H1.out.1.trans (bR.mono H1.out.1.size);clear z0 z1;obtain⟨⟨z0,z1⟩,zf,-⟩:=ae l2;have H2:=al (ab UO (ab kR (ab UN (ab l2 t2))));clear bR kR hR UN l2 t2 UO H1;go_upto_region 5 with fail;have UQ: ¬T=l:=by have:=H2.out.2.2.1;have:=HL.out.2.2;omega
 have Qu: ¬R=l:=by have:=H2.out.2.2.1;have:=HL.out.2.2;omega
 have l3:=iE H2.out.2.2.2.1 (.slice (some ⟨b1,o1,none⟩) m m);have o3:=OnlyC.bp w2 l 0 (.slice (some ⟨b1,o1,none⟩) m m);have k3:=o3.heap H2.out.2.1 (fun q e=>Qu e.1);have t3:=o3.heap H2.out.2.2.2.2 (fun q e=>UQ e.1);have c3:OnlyC (fun b _=>b=l) w (w2.setCell ⟨l,0,none⟩ (.slice (some ⟨b1,o1,none⟩) m m)):=(oE H2.out.1 (fun b _=>b=l)).trans o3 (fun b q _ e=>e.1);generalize w2.setCell ⟨l,0,none⟩ (.slice (some ⟨b1,o1,none⟩) m m)=w3 at l3 k3 t3 c3⊢;clear z0 z1 zf o3;obtain⟨⟨z0,z1⟩,YB,zf⟩:=ae l3;clear YB;have H3:=al (ab c3 (ab l3 (ab k3 (ab t3 H2.out.2.2.1))));clear l3 k3 t3 c3 H2 UQ;have iW:=al (eQ w3 l n2 c2 _ (by omega) z1);obtain⟨⟨-,y1⟩,-,yf⟩:=ae H3.out.2.2.1;go_wp2_with fail;refine iW.out.mono ?_;rintro e w4 ⟨rfl,rfl⟩;clear iW;go_upto_region 7 with fail;have l4:=(OnlyC.bp w3 R 1 (.slice (some ⟨b2,o2+o,none⟩) (n2-o) (n2-o))).heap H3.out.2.1 (fun q e=>Qu e.1.symm);have k4:=Ge H3.out.2.2.1 (.slice (some ⟨b2,o2+o,none⟩) (n2-o) (n2-o));have t4:=(OnlyC.bp w3 R 1 (.slice (some ⟨b2,o2+o,none⟩) (n2-o) (n2-o))).heap H3.out.2.2.2.1 (fun q e=>by have:=e.1;have:=H3.out.2.2.2.2;omega);have c4:=H3.out.1.setCell (b:=R) (o:=1) (fun hb=>by have:=H3.out.2.2.2.2;omega) (.slice (some ⟨b2,o2+o,none⟩) (n2-o) (n2-o));generalize w3.setCell ⟨R,1,none⟩ (.slice (some ⟨b2,o2+o,none⟩) (n2-o) (n2-o))=w4 at l4 k4 t4 c4⊢;clear z0 z1 zf y1 yf;obtain⟨⟨z0,z1⟩,-,zf⟩:=ae l4;have H4:=al (ab c4 (ab l4 (ab k4 (ab t4 H3.out.2.2.2.2))));clear l4 k4 t4 c4 H3;go_upto_region 8 with fail;have l5:=Ge H4.out.2.1 (.slice (some ⟨b2,o2,none⟩) o o);have k5:=(OnlyC.bp w4 l 1 (.slice (some ⟨b2,o2,none⟩) o o)).heap H4.out.2.2.1 (fun q e=>Qu e.1);have t5:=(OnlyC.bp w4 l 1 (.slice (some ⟨b2,o2,none⟩) o o)).heap H4.out.2.2.2.1 (fun q e=>by have:=e.1;have:=H4.out.2.2.2.2;have:=HL.out.2.2;omega);have c5:OnlyC (fun b _=>b=l) w (w4.setCell ⟨l,1,none⟩ (.slice (some ⟨b2,o2,none⟩) o o)):=H4.out.1.setCell (b:=l) (o:=1) (fun _=>rfl) (.slice (some ⟨b2,o2,none⟩) o o);generalize w4.setCell ⟨l,1,none⟩ (.slice (some ⟨b2,o2,none⟩) o o)=YC at l5 k5 t5 c5⊢;have H5:=al (ab c5 (ab l5 (ab k5 (ab t5 H4.out.2.2.2.2))));clear l5 k5 t5 c5 H4 z0 z1 zf;have hgt:=H5.out.2.2.2.2;have JM: ∀j q b,H j b q->b<w.heap.size:=fun j q b hh=>cS.out.2.1 b q (cS.out.1.own.1 j b q hh);have qd: ∀j q,¬H j T q:=fun j q hh=>by have:=JM j q T hh;omega
 have RJ: ∀j b q,j≠i+3->H j b q-> ¬b=l:=fun j b q hj hh e=>cS.out.1.own.2.1 j (i+3) b q hj hh (e▸cS.out.2.2.2.2.1.own.1 0 l q (cS.out.2.2.2.2.1.2.1 q));have ka:=H5.out.1.heap HL.out.1 (fun q e=>Kk e.symm);have UR:=(cS.out.1.2.2.1).only H5.out.1 (fun b q hh=>RJ 1 b q (by omega) hh);have UT:=(cS.out.1.2.2.2.1).only H5.out.1 (fun b q hh=>RJ 2 b q (by omega) hh);have HA:=al (ab ka (ab UR UT));have HX:=al (ab qd (ab JM hgt));have tS:=eT H5.out.2.2.2.1;clear hgt JM qd RJ ka UR UT;refine pb (S:=(fun W=>W.cell? ⟨T,0,none⟩=some (.string ⟨p0.1.toArray⟩)/\W.cell? ⟨T,1,none⟩=some (.string ⟨p0.2.toArray⟩))) (by kernel_rfl) tS (fun pt=>?_);generalize hW3:World.drew YC=W3 at pt⊢;have HB:=al (show Below YC.heap.size YC W3 from hW3▸(aw _ _).drew);clear hW3 tS;refine aM [0,1,2,3,5,6] ?_
 iterate 6 (refine bX (v:=?_) (fun wS hSw=>?_) pt ?_;rotate_left;(obtain⟨s0,s1⟩:=hSw;go_simp;try with_reducible rfl);try simp only[ai,aj,ak,ar])
 refine aN ?_;refine ph (rs:=[4,7]) (by kernel_rfl) (by simp) (bP (i:=4) rfl (fun K hK=>?_) (bP (i:=7) rfl (fun K hK=>?_) o0))
 ·skip
  obtain⟨⟨r6,-⟩,-,-⟩:=ae (pw HB.out HA.out.1);go_simp;refine hK.out _ _ (pt) ?_;clear hK K pt r6;intro pt
  try simp only[ai,aj,ak,ar]
  refine aW 7 (fun K hK=>?_);go_simp;refine hK.out _ _ (kK pt (af _ _)) ?_;clear hK K pt;intro pt
  try simp only[ai,aj,ak,ar]
  have kV:=an W3 (.cells #[.string ⟨p0.1.toArray⟩,.string ⟨p0.2.toArray⟩] 210);have bV:=af W3 (.cells #[.string ⟨p0.1.toArray⟩,.string ⟨p0.2.toArray⟩] 210);generalize W3.alloc (.cells #[.string ⟨p0.1.toArray⟩,.string ⟨p0.2.toArray⟩] 210)=W5 at kV bV pt⊢;obtain⟨VB,gA⟩: ∃y,W3.heap.size=y:=⟨_,rfl⟩;rw[gA]at kV⊢;have HV:=al (ab kV (show w.heap.size<VB by have h1:=HB.out.size;have h2:=oS H5.out.2.2.1;have h3:=H5.out.2.2.2.2;omega));have HB:=al (HB.out.trans (bV.mono HB.out.size));clear kV bV gA;refine aW 8 (fun K hK=>?_);go_simp;refine(iG W5 (H 1) _ (x.ps.map ax) i _ rfl (ax p0) VB (HA.out.2.1.only (qn HB.out) (fun _ _ _ h=>h)) (by rw[fb];exact HN.out.2.2.2.2.2.1) (by rw[fb,HN.out.2.2.2.1];exact HE.out.2.2) (by rfl) (by simp[ax,Value.oneCell']) (dA _) HV.out.1 (fun q hh=>by have:=HX.out.2.1 1 q VB hh;have:=HV.out.2;omega)).mono ?_;rintro e wn ⟨v6,rfl,bM,eA⟩;rw[dV]at bM;obtain⟨A6,c6,fy,-⟩:=bM.slice;obtain⟨n6,eY⟩: ∃y,((x.ps.take i++p0::x.ps.drop i).map ax).length=y:=⟨_,rfl⟩;rw[eY]at fy;subst fy;clear eY;have H6:=al (ab bM eA);clear bM eA
  try go_simp
  refine hK.out _ _ (dt pt H6.out.2 (HX.out.1 1 0) (HX.out.1 1 1)) ?_;clear hK K pt;intro pt
  try simp only[ai,aj,ak,ar]
  refine aM [9,10] ?_
  iterate 2 (refine bX (v:=?_) (fun wS hSw=>?_) pt ?_;rotate_left;(obtain⟨s0,s1⟩:=hSw;go_simp;try with_reducible rfl);try simp only[ai,aj,ak,ar])
  refine aN ?_;refine aW 11 (fun K hK=>?_);obtain⟨⟨r6,-⟩,rf,-⟩:=ae (H6.out.2.heap (pw HB.out HA.out.1) (fun q hh=>cS.out.1.own.2.1 1 0 a q (by decide) hh (cS.out.1.2.1 q)));go_simp;refine hK.out _ _ (dt pt (OnlyC.bp _ a 0 _) (fun e=>by have:=e.1;have:=HX.out.2.2;have:=HN.out.2.2.2.2.2.2;omega) (fun e=>by have:=e.1;have:=HX.out.2.2;have:=HN.out.2.2.2.2.2.2;omega)) ?_;clear hK K pt r6 rf;intro pt
  try simp only[ai,aj,ak,ar]
  refine pf (by kernel_rfl) ?_ _;have k7:=iE (H6.out.2.heap (pw HB.out HA.out.1) (fun q hh=>cS.out.1.own.2.1 1 0 a q (by decide) hh (cS.out.1.2.1 q))) (.slice A6 n6 c6);have s7:=((HA.out.2.2.only (qn HB.out) (fun _ _ _ h=>h)).only H6.out.2 (fun b q hh Gc=>cS.out.1.own.2.1 2 1 b q (by decide) hh Gc)).only (OnlyC.bp wn a 0 (.slice A6 n6 c6)) (fun b q hh e=>cS.out.1.own.2.2 2 b q (by decide) hh e.1);have z7:(wn.setCell ⟨a,0,none⟩ (.slice A6 n6 c6)).heap.size=wn.heap.size:=by simp[World.setCell]
  have W7:=al (show ∃u,u=wn.setCell ⟨a,0,none⟩ (.slice A6 n6 c6)from⟨_,rfl⟩);generalize h7:wn.setCell ⟨a,0,none⟩ (.slice A6 n6 c6)=w7 at k7 s7 z7 pt⊢;clear W7 pt;obtain⟨⟨-,y7⟩,-,-⟩:=ae k7;have H7:=al (ab k7 (ab s7 (ab z7 h7)));clear k7 s7 z7 h7;go_wp2_with fail;have kN:=an w7 (.cells #[.pointer (some ⟨R,0,none⟩)] 197);have bN:=af w7 (.cells #[.pointer (some ⟨R,0,none⟩)] 197);generalize w7.alloc (.cells #[.pointer (some ⟨R,0,none⟩)] 197)=w8 at kN bN⊢;obtain⟨VN,Ea⟩: ∃y,w7.heap.size=y:=⟨_,rfl⟩;rw[Ea]at kN⊢;have uo:=al (ab kN (ab Ea bN));clear kN Ea bN y7;refine(iH w8 (H 2) _ (aA.map aL) (i+1) _ (by simp) (aL R) VN (H7.out.2.1.only (qn uo.out.2.2) (fun _ _ _ h=>h)) (by rw[fb,HN.out.2.2.2.2.1];exact KU) (by rw[fb,HN.out.2.2.2.2.1];exact B0) (by rfl) (by simp[aL,Value.oneCell']) (bQ _) uo.out.1 (fun q hh=>by have:=HX.out.2.1 2 q VN hh;have h1:=uo.out.2.1;have h2:=H7.out.2.2.1;have h3:=H6.out.2.size;have h4:=HB.out.size;have h5:=oS H5.out.2.2.1;have h6:=H5.out.2.2.2.2;omega)).mono ?_;rintro e w9 ⟨v9,rfl,cu,eU⟩;rw[dV]at cu;obtain⟨A9,c9,fQ,-⟩:=cu.slice;obtain⟨n9,fG⟩: ∃y,((aA.take (i+1)++R::aA.drop (i+1)).map aL).length=y:=⟨_,rfl⟩;rw[fG]at fQ;subst fQ;clear fG;obtain⟨⟨-,y9⟩,-,f9⟩:=ae (eU.heap (pw uo.out.2.2 H7.out.1) (fun q hh=>cS.out.1.own.2.1 2 0 a q (by decide) hh (cS.out.1.2.1 q)));have H9:=al (ab cu eU);clear cu eU;go_wp2_with fail
  first|refine et (du rfl _ _ _) rfl ?_|refine dq (du rfl _ _ _) rfl ?_
  obtain⟨a1,a2,a3,a4,a5,a6,a7,a8,a9,Oc,RM,a12,RN⟩:=cS.out;unfold pD;rw[qc a3 a7 HN.out.2.2.1 HN.out.2.1];have hend:=nV (r:=R) a1 a2 a3 a4 a5 a6 a7 H5.out.1 (Nat.le_of_lt H5.out.2.2.2.2.1) (oS H5.out.2.2.1) H5.out.2.1 H5.out.2.2.1 a8 a9 Oc RM a12 RN HB.out H6.out.2 H6.out.1 (by rw[H7.out.2.2.2];exact uo.out.2.2.mono (Nat.le_of_eq H7.out.2.2.1.symm)) H9.out.2 H9.out.1;exact⟨rfl,hend⟩
 ·skip
  go_simp;refine hK.out _ _ (kK pt (af _ _)) ?_;clear hK K pt;intro pt
  try simp only[ai,aj,ak,ar]
  have kV:=an W3 (.cells #[.string ⟨p0.1.toArray⟩,.string ⟨p0.2.toArray⟩] 210);have bV:=af W3 (.cells #[.string ⟨p0.1.toArray⟩,.string ⟨p0.2.toArray⟩] 210);generalize W3.alloc (.cells #[.string ⟨p0.1.toArray⟩,.string ⟨p0.2.toArray⟩] 210)=W5 at kV bV pt⊢;obtain⟨VB,gA⟩: ∃y,W3.heap.size=y:=⟨_,rfl⟩;rw[gA]at kV⊢;have HV:=al (ab kV (show w.heap.size<VB by have h1:=HB.out.size;have h2:=oS H5.out.2.2.1;have h3:=H5.out.2.2.2.2;omega));have HB:=al (HB.out.trans (bV.mono HB.out.size));clear kV bV gA;refine aW 4 (fun K hK=>?_);obtain⟨⟨r6,-⟩,-,-⟩:=ae (pw HB.out HA.out.1);go_simp;refine hK.out _ _ (pt) ?_;clear hK K pt r6;intro pt
  try simp only[ai,aj,ak,ar]
  refine aW 8 (fun K hK=>?_);go_simp;refine(iG W5 (H 1) _ (x.ps.map ax) i _ rfl (ax p0) VB (HA.out.2.1.only (qn HB.out) (fun _ _ _ h=>h)) (by rw[fb];exact HN.out.2.2.2.2.2.1) (by rw[fb,HN.out.2.2.2.1];exact HE.out.2.2) (by rfl) (by simp[ax,Value.oneCell']) (dA _) HV.out.1 (fun q hh=>by have:=HX.out.2.1 1 q VB hh;have:=HV.out.2;omega)).mono ?_;rintro e wn ⟨v6,rfl,bM,eA⟩;rw[dV]at bM;obtain⟨A6,c6,fy,-⟩:=bM.slice;obtain⟨n6,eY⟩: ∃y,((x.ps.take i++p0::x.ps.drop i).map ax).length=y:=⟨_,rfl⟩;rw[eY]at fy;subst fy;clear eY;have H6:=al (ab bM eA);clear bM eA
  try go_simp
  refine hK.out _ _ (dt pt H6.out.2 (HX.out.1 1 0) (HX.out.1 1 1)) ?_;clear hK K pt;intro pt
  try simp only[ai,aj,ak,ar]
  refine aM [9,10] ?_
  iterate 2 (refine bX (v:=?_) (fun wS hSw=>?_) pt ?_;rotate_left;(obtain⟨s0,s1⟩:=hSw;go_simp;try with_reducible rfl);try simp only[ai,aj,ak,ar])
  refine aN ?_;refine aW 11 (fun K hK=>?_);obtain⟨⟨r6,-⟩,rf,-⟩:=ae (H6.out.2.heap (pw HB.out HA.out.1) (fun q hh=>cS.out.1.own.2.1 1 0 a q (by decide) hh (cS.out.1.2.1 q)));go_simp;refine hK.out _ _ (dt pt (OnlyC.bp _ a 0 _) (fun e=>by have:=e.1;have:=HX.out.2.2;have:=HN.out.2.2.2.2.2.2;omega) (fun e=>by have:=e.1;have:=HX.out.2.2;have:=HN.out.2.2.2.2.2.2;omega)) ?_;clear hK K pt r6 rf;intro pt
  try simp only[ai,aj,ak,ar]
  refine pf (by kernel_rfl) ?_ _;have k7:=iE (H6.out.2.heap (pw HB.out HA.out.1) (fun q hh=>cS.out.1.own.2.1 1 0 a q (by decide) hh (cS.out.1.2.1 q))) (.slice A6 n6 c6);have s7:=((HA.out.2.2.only (qn HB.out) (fun _ _ _ h=>h)).only H6.out.2 (fun b q hh Gc=>cS.out.1.own.2.1 2 1 b q (by decide) hh Gc)).only (OnlyC.bp wn a 0 (.slice A6 n6 c6)) (fun b q hh e=>cS.out.1.own.2.2 2 b q (by decide) hh e.1);have z7:(wn.setCell ⟨a,0,none⟩ (.slice A6 n6 c6)).heap.size=wn.heap.size:=by simp[World.setCell]
  have W7:=al (show ∃u,u=wn.setCell ⟨a,0,none⟩ (.slice A6 n6 c6)from⟨_,rfl⟩);generalize h7:wn.setCell ⟨a,0,none⟩ (.slice A6 n6 c6)=w7 at k7 s7 z7 pt⊢;clear W7 pt;obtain⟨⟨-,y7⟩,-,-⟩:=ae k7;have H7:=al (ab k7 (ab s7 (ab z7 h7)));clear k7 s7 z7 h7;go_wp2_with fail;have kN:=an w7 (.cells #[.pointer (some ⟨R,0,none⟩)] 197);have bN:=af w7 (.cells #[.pointer (some ⟨R,0,none⟩)] 197);generalize w7.alloc (.cells #[.pointer (some ⟨R,0,none⟩)] 197)=w8 at kN bN⊢;obtain⟨VN,Ea⟩: ∃y,w7.heap.size=y:=⟨_,rfl⟩;rw[Ea]at kN⊢;have uo:=al (ab kN (ab Ea bN));clear kN Ea bN y7;refine(iH w8 (H 2) _ (aA.map aL) (i+1) _ (by simp) (aL R) VN (H7.out.2.1.only (qn uo.out.2.2) (fun _ _ _ h=>h)) (by rw[fb,HN.out.2.2.2.2.1];exact KU) (by rw[fb,HN.out.2.2.2.2.1];exact B0) (by rfl) (by simp[aL,Value.oneCell']) (bQ _) uo.out.1 (fun q hh=>by have:=HX.out.2.1 2 q VN hh;have h1:=uo.out.2.1;have h2:=H7.out.2.2.1;have h3:=H6.out.2.size;have h4:=HB.out.size;have h5:=oS H5.out.2.2.1;have h6:=H5.out.2.2.2.2;omega)).mono ?_;rintro e w9 ⟨v9,rfl,cu,eU⟩;rw[dV]at cu;obtain⟨A9,c9,fQ,-⟩:=cu.slice;obtain⟨n9,fG⟩: ∃y,((aA.take (i+1)++R::aA.drop (i+1)).map aL).length=y:=⟨_,rfl⟩;rw[fG]at fQ;subst fQ;clear fG;obtain⟨⟨-,y9⟩,-,f9⟩:=ae (eU.heap (pw uo.out.2.2 H7.out.1) (fun q hh=>cS.out.1.own.2.1 2 0 a q (by decide) hh (cS.out.1.2.1 q)));have H9:=al (ab cu eU);clear cu eU;go_wp2_with fail
  first|refine et (du rfl _ _ _) rfl ?_|refine dq (du rfl _ _ _) rfl ?_
  obtain⟨a1,a2,a3,a4,a5,a6,a7,a8,a9,Oc,RM,a12,RN⟩:=cS.out;unfold pD;rw[qc a3 a7 HN.out.2.2.1 HN.out.2.1];have hend:=nV (r:=R) a1 a2 a3 a4 a5 a6 a7 H5.out.1 (Nat.le_of_lt H5.out.2.2.2.2.1) (oS H5.out.2.2.1) H5.out.2.1 H5.out.2.2.1 a8 a9 Oc RM a12 RN HB.out H6.out.2 H6.out.1 (by rw[H7.out.2.2.2];exact uo.out.2.2.mono (Nat.le_of_eq H7.out.2.2.1.symm)) H9.out.2 H9.out.1;exact⟨rfl,hend⟩
theorem uq(w:World)(d a i o:Nat)(x k:ND)(F:Nat->Nat->Prop)(h:ay w (d+1) a x F)(hF: ∀b q,F b q->b<w.heap.size)(hk:x.ks[i]?=some k)(Gb:i<=x.ps.length)(hpl:x.ps.length<=1000)(hkl:x.ks.length<=1000)
  (hkn:k.ps.length=2*o) (hkk:d≠0->k.ks.length=2*o+1) (ho:2<=o) (eo:o<=16):
  Calls Tryz.prog 94 #[.pointer (some ⟨a,0,none⟩),.int .i64 i,.int .i64 o] w (pD d a i o x F w):=by
 obtain⟨_,vp,vk,aA,H,hO,_⟩:=h.open_;have Yj:=hO;obtain⟨_,_,g3,g4,g5,g6,_⟩:=Yj;have hil:=(b8.1 hk).1;obtain⟨l,hl⟩: ∃l,aA[i]?=some l:=⟨_,ao (by omega)⟩;obtain⟨hd0,Qm,Ob,iI,H1,hK,hT⟩:=(show ay w d l k (H (i+3))from g6 i l k hl hk).open_;have hK':=hK;obtain⟨_,_,k3,k4,k5,_,_⟩:=hK';obtain⟨A,cp,rfl,_⟩:=g3.slice;obtain⟨bk,ok,ck,rfl,_,_,r2⟩:=g4.ptr hl;obtain⟨m,rfl⟩: ∃m,o=m+1:=⟨o-1,by omega⟩;obtain⟨p0,hp0⟩: ∃p,k.ps[m]?=some p:=⟨_,ao (by omega)⟩;obtain⟨b1,o1,c1,e1,hc1,hcm,p1,p2⟩:=k3.parts (by simp;omega);obtain⟨b1',YD,c1',YE,_,_,r4,r5,_⟩:=k3.pair hp0;have e2:=e1.symm.trans YE;simp only[fb,gR,fj,mZ,true_and,and_true]at e2;obtain⟨⟨rfl,rfl⟩,rfl⟩:=e2;have hlen:(k.ps.map ax).length=k.ps.length:=fb _;rw[hlen]at e1 hc1 p1 p2;have YF:=p1 m (by omega);have YG:=p2 (m+1) (by omega);rw[<-mc]at YF;rw[<-kn]at YG;have mH:(x.ps.map ax).length=x.ps.length:=fb _;rw[mH]at hO
 cases d with
 |zero=>
  have dX:=hd0 rfl;have YH:iI=[]:=db (by rw[k5,dX];rfl);subst YH;obtain⟨TK,c2,e3,_⟩:=k4.slice;have e4:Ob=.slice TK 0 c2:=by simpa using e3
  subst e4
  exact D9 w 0 a i (m+1) m l k.ps.length c1 b1 o1 x.ps.length cp bk ok ck aA.length A x k F _ _ aA [] H H1 TK c2 hO hF hk hl Gb hK hT hd0 hkn ho eo rfl rfl rfl (by omega) hpl e1 hkn hc1 hcm rfl r2 p0 hp0 r4 r5
   _ _ (fun _ _=>True) (fun _ _=>False) (YF.mono fun b q hh=>hh) (YG.mono fun b q hh=>hh) (by rw[List.take_nil,kb];exact az.mono (F:=H1 2) (by simpa using k4) (fun b q hh=>⟨hh,trivial⟩)) (by rw[List.drop_nil,kb];exact az.nil 1 197 w _) (fun b q h1 h2=>by have:=h1.2;have:=h2.2;omega) (fun _ _ _ h=>h)
 |succ d=>
  have RO:=hkk (by omega);obtain⟨b2,o2,c2,e3,hc2,hcm2,q1,q2⟩:=k4.parts (by simp;omega);have Qv:(iI.map aL).length=iI.length:=fb _;rw[Qv]at e3 hc2 q1 q2;have qq1:=q1 (m+1) (by omega);have YI:=q2 (m+1) (by omega);rw[<-mc]at qq1;rw[<-kn]at YI;rw[Nat.mul_one]at YI
  exact KV w (d+1) a i (m+1) m l k.ps.length c1 b1 o1 x.ps.length cp bk ok ck aA.length A x k F _ _ aA iI H H1 b2 o2 iI.length c2 (by omega) hc2 hcm2 hO hF hk hl Gb hK hT hd0 hkn ho eo rfl rfl rfl (by omega) hpl e1 hkn hc1 hcm e3 r2 p0 hp0 r4 r5
   _ _ _ _ (YF.mono fun b q hh=>hh) (YG.mono fun b q hh=>hh) (qq1.mono fun b q hh=>hh) (YI.mono fun b q hh=>hh) (fun b q h1 h2=>by have:=h1.2;have:=h2.2;omega) (fun b q h1 h2=>by have:=h1.2;have:=h2.2;omega)
def NA(p:Pr):Value:=.agg #[.string ⟨p.1.toArray⟩,.string ⟨p.2.toArray⟩]
def Eb(d a:Nat)(y:ND)(F:Nat->Nat->Prop)(r:Option (List UInt8))(w:World)(e:Ending)(w':World):Prop:=
 e=.returned (.tuple #[.string ⟨(r.getD []).toArray⟩,.bool r.isSome])/\ay w' d a y (fun b q=>F b q\/w.heap.size<=b)/\OnlyC F w w'
theorem Gf(w:World)(d a o:Nat)(x:ND)(F:Nat->Nat->Prop)(p:Pr)(old:List UInt8)(h:ay w d a x F)(hF: ∀b q,F b q->b<w.heap.size)(hu:Up x.ps)(hlen:x.ps.length<=1000)(hh:hit p.1 x.ps=true)(hv:x.ps[posOf p.1 x.ps]?=some (p.1,old)):
  Calls Tryz.prog 93 #[.pointer (some ⟨a,0,none⟩),NA p,.int .i64 o] w (Eb d a (.mk (x.ps.take (posOf p.1 x.ps)++p::x.ps.drop (posOf p.1 x.ps+1)) x.ks) F (some old) w):=by
 unfold NA;have hb1:=af w (.cells #[.string ⟨p.1.toArray⟩,.string ⟨p.2.toArray⟩] 210);have k1:=an w (.cells #[.string ⟨p.1.toArray⟩,.string ⟨p.2.toArray⟩] 210);have h1:=h.below hb1;go_enter Tryz.func93,Tryz.ntmps93;go_upto_region 1 with fail;generalize w.alloc (.cells #[.string ⟨p.1.toArray⟩,.string ⟨p.2.toArray⟩] 210)=w1 at hb1 k1 h1⊢;obtain⟨P,hP⟩: ∃y,w.heap.size=y:=⟨_,rfl⟩;rw[hP]at k1⊢;have oU:=al (find_ok w1 F a x p.1 h1.base hu hlen);rw[hh]at oU;obtain⟨i,hi⟩: ∃i,posOf p.1 x.ps=i:=⟨_,rfl⟩;rw[hi]at oU hv⊢;have HI:=al hi;have H1:=al (ab hb1 (ab k1 (ab h1 hP)));obtain⟨y0,y1⟩:=eT k1;clear h hb1 k1 h1 hP hh hi hu;go_wp2_with fail;refine oU.out.mono ?_;rintro e w2 ⟨rfl,hb2⟩;have h2:=H1.out.2.2.1.below hb2;have k2:=pw hb2 H1.out.2.1;clear oU y0 y1;obtain⟨hd0,vp,vk,aA,H,hO,hT⟩:=h2.open_;obtain⟨b,off,c,rfl,q1,q2,c0,c1,f0,f1⟩:=hO.2.2.1.pair hv;obtain⟨⟨r0,-⟩,-,-⟩:=ae hO.1;obtain⟨y0,y1⟩:=eT k2;have hs:=hO.2.2.1.Rk (v':=p.2) hv;have H2:=al (ab hb2 (ab hd0 (ab hO (ab hs hF))));have hil:=(b8.1 hv).1;have i1:(0:Int)<=(i:Int):=by omega
 have i2:(i:Int)<(x.ps.length:Int):=by omega
 have hPb: ¬P=b:=by obtain⟨b',o',c',cs,e1,z2,z3,z4,z6,z7,z8,z9⟩:=hO.2.2.1.lies (by simp;omega);simp only[fb,gR,fj,mZ,and_true]at e1;obtain⟨⟨rfl,rfl⟩,_⟩:=e1;have:=hF _ _ (hO.own.1 1 _ _ (z8 off (aq _) (by omega)));have:=H1.out.2.2.2;omega
 have hNP:=al hv;clear h2 k2 hb2 hd0 hO hT hs hv hF;go_wp2_with fail
 go_region
 go_wp2_with fail
 go_ret2
 obtain⟨hb2,hd0,hO,hs,hF⟩:=H2.out;rw[HI.out];have jQ:=H1.out.1.trans (hb2.mono H1.out.1.size);have hF2: ∀b q,F b q->b<w2.heap.size:=fun b q hh=>cq (hF b q hh) jQ.size;have hr:=hO.nW (w':=w2.setCell ⟨b,off+i*2+1,none⟩ (.string ⟨p.2.toArray⟩)) hd0 hF2 (hs.2.heap hO.1 (fun q hh=>hO.own.2.1 1 0 a q (by decide) hh (hO.2.1 q))) (hs.2.mono (fun _ _ _ hh=>.inl hh)) (hs.1.mono (fun _ _ hh=>.inl hh));have e1:(p.1,p.2)=p:=rfl;rw[e1]at hr;refine⟨rfl,(ay.only ((OnlyC.refl (fun _ _=>False) _).drew) hr.1 (fun _ _ _ h=>h)).mono (fun b q hh=>hh.imp id (fun h=>de jQ.size h)),((oE jQ F).trans hr.2 (fun _ _ _ h=>h)).drew⟩
theorem KW(w:World)(a o:Nat)(x:ND)(F:Nat->Nat->Prop)(p:Pr)(h:ay w 0 a x F)(hF: ∀b q,F b q->b<w.heap.size)(hu:Up x.ps)(hlen:x.ps.length<=1000)(hh:hit p.1 x.ps=false):
  Calls Tryz.prog 93 #[.pointer (some ⟨a,0,none⟩),NA p,.int .i64 o] w (Eb 0 a (.mk (x.ps.take (posOf p.1 x.ps)++p::x.ps.drop (posOf p.1 x.ps)) []) F none w):=by
 unfold NA;have hb1:=af w (.cells #[.string ⟨p.1.toArray⟩,.string ⟨p.2.toArray⟩] 210);have k1:=an w (.cells #[.string ⟨p.1.toArray⟩,.string ⟨p.2.toArray⟩] 210);have h1:=h.below hb1;go_enter Tryz.func93,Tryz.ntmps93;go_upto_region 1 with fail;generalize w.alloc (.cells #[.string ⟨p.1.toArray⟩,.string ⟨p.2.toArray⟩] 210)=w1 at hb1 k1 h1⊢;obtain⟨P,hP⟩: ∃y,w.heap.size=y:=⟨_,rfl⟩;rw[hP]at k1⊢;have oU:=al (find_ok w1 F a x p.1 h1.base hu hlen);rw[hh]at oU;have hpos:=dZ p.1 x.ps;obtain⟨i,hi⟩: ∃i,posOf p.1 x.ps=i:=⟨_,rfl⟩;rw[hi]at oU hpos;have HI:=al hi;have H1:=al (ab hb1 (ab k1 (ab h1 (ab hP hF))));obtain⟨y0,y1⟩:=eT k1;clear h hb1 k1 h1 hP hh hi hu hF;go_wp2_with fail;refine oU.out.mono ?_;rintro e w2 ⟨rfl,hb2⟩;have h2:=H1.out.2.2.1.below hb2;have k2:=pw hb2 H1.out.2.1;have jQ:=H1.out.1.trans (hb2.mono H1.out.1.size);have hF2: ∀b q,F b q->b<w2.heap.size:=fun b q hh=>cq (H1.out.2.2.2.2 b q hh) jQ.size;have Og: ∀q,¬F P q:=fun q hh=>by have:=H1.out.2.2.2.2 P q hh;have:=H1.out.2.2.2.1;omega
 clear oU y0 y1;obtain⟨hd0,vp,vk,aA,H,hO,hT⟩:=h2.open_;have hks:=hd0 rfl;have hp0:aA=[]:=db (by rw[hO.2.2.2.2.1,hks];rfl);subst hp0;obtain⟨A,c,e1,-⟩:=hO.2.2.1.slice;rw[fb]at e1;subst e1;obtain⟨A2,c2,e2,-⟩:=hO.2.2.2.1.slice;have e2:vk=.slice A2 0 c2:=by simpa using e2
 subst e2;obtain⟨n,hn⟩: ∃n,x.ps.length=n:=⟨_,rfl⟩;rw[hn]at hO hlen hpos;obtain⟨⟨-,z1⟩,-,-⟩:=ae hO.1;have iW:=al (dG w2 a c2 A2 z1);have HA:=al (ab hO.1 (ab hO (ab jQ (ab hF2 (ab Og (ab k2 (ab hks (ab hn hpos))))))));clear h2 k2 hb2 jQ hF2 Og hd0 hT hks z1 hn hpos;go_wp2_with fail;refine iW.out.mono ?_;rintro e w3 ⟨rfl,rfl⟩;clear iW;go_upto_region 7 with fail;have tS:=eT HA.out.2.2.2.2.2.1;refine pb (S:=(fun W=>W.cell? ⟨P,0,none⟩=some (.string ⟨p.1.toArray⟩)/\W.cell? ⟨P,1,none⟩=some (.string ⟨p.2.toArray⟩))) (by kernel_rfl) tS (fun pt=>?_);generalize hW3:World.drew w2=W3 at pt⊢;have HB:=al (show Below w2.heap.size w2 W3 from hW3▸(aw _ _).drew);clear hW3 tS;refine aM [0,1,2,3,5,6] ?_
 iterate 6 (refine bX (v:=?_) (fun wS hSw=>?_) pt ?_;rotate_left;(obtain⟨s0,s1⟩:=hSw;go_simp;try with_reducible rfl);try simp only[ai,aj,ak,ar])
 refine aN ?_;refine ph (rs:=[4,7]) (by kernel_rfl) (by simp) (bP (i:=4) rfl (fun K hK=>?_) (bP (i:=7) rfl (fun K hK=>?_) o0))
 ·skip
  obtain⟨⟨r6,-⟩,-,-⟩:=ae (pw HB.out HA.out.1);go_simp;refine hK.out _ _ (pt) ?_;clear hK K pt r6;intro pt
  try simp only[ai,aj,ak,ar]
  refine aW 7 (fun K hK=>?_);go_simp;refine hK.out _ _ (kK pt (af _ _)) ?_;clear hK K pt;intro pt
  try simp only[ai,aj,ak,ar]
  have kV:=an W3 (.cells #[.string ⟨p.1.toArray⟩,.string ⟨p.2.toArray⟩] 210);have bV:=af W3 (.cells #[.string ⟨p.1.toArray⟩,.string ⟨p.2.toArray⟩] 210);generalize W3.alloc (.cells #[.string ⟨p.1.toArray⟩,.string ⟨p.2.toArray⟩] 210)=W5 at kV bV pt⊢;obtain⟨VB,gA⟩: ∃y,W3.heap.size=y:=⟨_,rfl⟩;rw[gA]at kV⊢;have HV:=al (ab kV (show w2.heap.size<=VB by have h1:=HB.out.size;omega));have HB:=al (HB.out.trans (bV.mono HB.out.size));clear kV bV gA;refine aW 8 (fun K hK=>?_);go_simp;refine(iG W5 (H 1) _ (x.ps.map ax) i _ rfl (ax p) VB (HA.out.2.1.2.2.1.only (qn HB.out) (fun _ _ _ h=>h)) (by rw[fb,HA.out.2.2.2.2.2.2.2.1];exact HA.out.2.2.2.2.2.2.2.2) (by rw[fb,HA.out.2.2.2.2.2.2.2.1];exact hlen) (by rfl) (by simp[ax,Value.oneCell']) (dA _) HV.out.1 (fun q hh=>by have h1:=HA.out.2.2.2.1 VB q (HA.out.2.1.own.1 1 VB q hh);have h2:=HV.out.2;omega)).mono ?_;rintro e wn ⟨v6,rfl,bM,eA⟩;rw[dV]at bM;obtain⟨A6,c6,fy,-⟩:=bM.slice;obtain⟨n6,eY⟩: ∃y,((x.ps.take i++p::x.ps.drop i).map ax).length=y:=⟨_,rfl⟩;rw[eY]at fy;subst fy;clear eY;have H6:=al (ab bM eA);clear bM eA
  try go_simp
  refine hK.out _ _ (dt pt H6.out.2 (fun hh=>HA.out.2.2.2.2.1 _ (HA.out.2.1.own.1 1 _ _ hh)) (fun hh=>HA.out.2.2.2.2.1 _ (HA.out.2.1.own.1 1 _ _ hh))) ?_;clear hK K pt;intro pt
  try simp only[ai,aj,ak,ar]
  refine aM [9,10] ?_
  iterate 2 (refine bX (v:=?_) (fun wS hSw=>?_) pt ?_;rotate_left;(obtain⟨s0,s1⟩:=hSw;go_simp;try with_reducible rfl);try simp only[ai,aj,ak,ar])
  refine aN ?_;refine aW 11 (fun K hK=>?_);obtain⟨⟨r6,-⟩,rf,-⟩:=ae (H6.out.2.heap (pw HB.out HA.out.1) (fun q hh=>HA.out.2.1.own.2.1 1 0 a q (by decide) hh (HA.out.2.1.2.1 q)));go_simp;refine hK.out _ _ (dt pt (OnlyC.bp _ a 0 _) (fun e=>HA.out.2.2.2.2.1 0 (by have e1:=e.1;rw[e1];exact HA.out.2.1.own.1 0 a 0 (HA.out.2.1.2.1 0))) (fun e=>HA.out.2.2.2.2.1 0 (by have e1:=e.1;rw[e1];exact HA.out.2.1.own.1 0 a 0 (HA.out.2.1.2.1 0)))) ?_;clear hK K pt r6 rf;intro pt
  try simp only[ai,aj,ak,ar]
  refine pf (by kernel_rfl) ?_ _;go_wp2_with fail
  go_ret2
  rw[HI.out];obtain⟨ha,hO,jQ,hF2,Og,-,hks,-,-⟩:=HA.out;have YJ:=pw HB.out ha;have ho:=((oE HB.out (fun b q=>H 1 b q\/b=a)).trans H6.out.2 (fun b q _ hh=>.inl hh)).trans (OnlyC.bp wn a 0 (.slice A6 n6 c6)) (fun b q _ e=>.inr e.1);have hs:=(H6.out.1.only (OnlyC.bp wn a 0 (.slice A6 n6 c6)) (fun b q hh e=>hh.elim (fun h1=>hO.own.2.2 1 b q (by decide) h1 e.1) (fun h1=>by have h2:=hF2 a 0 (hO.own.1 0 a 0 (hO.2.1 0));have h3:=HB.out.size;have h4:=e.1;omega))).mono (fun b q hh=>hh.imp id (fun h=>de HB.out.size h));have hr:=hO.nW (fun _=>hks) hF2 (iE (H6.out.2.heap YJ (fun q hh=>hO.own.2.1 1 0 a q (by decide) hh (hO.2.1 q))) (.slice A6 n6 c6)) ho hs;rw[hks]at hr;exact⟨rfl,hr.1.mono (fun b q hh=>hh.imp id (fun h=>de jQ.size h)),(oE jQ F).trans hr.2 (fun _ _ _ h=>h)⟩
 ·skip
  go_simp;refine hK.out _ _ (kK pt (af _ _)) ?_;clear hK K pt;intro pt
  try simp only[ai,aj,ak,ar]
  have kV:=an W3 (.cells #[.string ⟨p.1.toArray⟩,.string ⟨p.2.toArray⟩] 210);have bV:=af W3 (.cells #[.string ⟨p.1.toArray⟩,.string ⟨p.2.toArray⟩] 210);generalize W3.alloc (.cells #[.string ⟨p.1.toArray⟩,.string ⟨p.2.toArray⟩] 210)=W5 at kV bV pt⊢;obtain⟨VB,gA⟩: ∃y,W3.heap.size=y:=⟨_,rfl⟩;rw[gA]at kV⊢;have HV:=al (ab kV (show w2.heap.size<=VB by have h1:=HB.out.size;omega));have HB:=al (HB.out.trans (bV.mono HB.out.size));clear kV bV gA;refine aW 4 (fun K hK=>?_);obtain⟨⟨r6,-⟩,-,-⟩:=ae (pw HB.out HA.out.1);go_simp;refine hK.out _ _ (pt) ?_;clear hK K pt r6;intro pt
  try simp only[ai,aj,ak,ar]
  refine aW 8 (fun K hK=>?_);go_simp;refine(iG W5 (H 1) _ (x.ps.map ax) i _ rfl (ax p) VB (HA.out.2.1.2.2.1.only (qn HB.out) (fun _ _ _ h=>h)) (by rw[fb,HA.out.2.2.2.2.2.2.2.1];exact HA.out.2.2.2.2.2.2.2.2) (by rw[fb,HA.out.2.2.2.2.2.2.2.1];exact hlen) (by rfl) (by simp[ax,Value.oneCell']) (dA _) HV.out.1 (fun q hh=>by have h1:=HA.out.2.2.2.1 VB q (HA.out.2.1.own.1 1 VB q hh);have h2:=HV.out.2;omega)).mono ?_;rintro e wn ⟨v6,rfl,bM,eA⟩;rw[dV]at bM;obtain⟨A6,c6,fy,-⟩:=bM.slice;obtain⟨n6,eY⟩: ∃y,((x.ps.take i++p::x.ps.drop i).map ax).length=y:=⟨_,rfl⟩;rw[eY]at fy;subst fy;clear eY;have H6:=al (ab bM eA);clear bM eA
  try go_simp
  refine hK.out _ _ (dt pt H6.out.2 (fun hh=>HA.out.2.2.2.2.1 _ (HA.out.2.1.own.1 1 _ _ hh)) (fun hh=>HA.out.2.2.2.2.1 _ (HA.out.2.1.own.1 1 _ _ hh))) ?_;clear hK K pt;intro pt
  try simp only[ai,aj,ak,ar]
  refine aM [9,10] ?_
  iterate 2 (refine bX (v:=?_) (fun wS hSw=>?_) pt ?_;rotate_left;(obtain⟨s0,s1⟩:=hSw;go_simp;try with_reducible rfl);try simp only[ai,aj,ak,ar])
  refine aN ?_;refine aW 11 (fun K hK=>?_);obtain⟨⟨r6,-⟩,rf,-⟩:=ae (H6.out.2.heap (pw HB.out HA.out.1) (fun q hh=>HA.out.2.1.own.2.1 1 0 a q (by decide) hh (HA.out.2.1.2.1 q)));go_simp;refine hK.out _ _ (dt pt (OnlyC.bp _ a 0 _) (fun e=>HA.out.2.2.2.2.1 0 (by have e1:=e.1;rw[e1];exact HA.out.2.1.own.1 0 a 0 (HA.out.2.1.2.1 0))) (fun e=>HA.out.2.2.2.2.1 0 (by have e1:=e.1;rw[e1];exact HA.out.2.1.own.1 0 a 0 (HA.out.2.1.2.1 0)))) ?_;clear hK K pt r6 rf;intro pt
  try simp only[ai,aj,ak,ar]
  refine pf (by kernel_rfl) ?_ _;go_wp2_with fail
  go_ret2
  rw[HI.out];obtain⟨ha,hO,jQ,hF2,Og,-,hks,-,-⟩:=HA.out;have YJ:=pw HB.out ha;have ho:=((oE HB.out (fun b q=>H 1 b q\/b=a)).trans H6.out.2 (fun b q _ hh=>.inl hh)).trans (OnlyC.bp wn a 0 (.slice A6 n6 c6)) (fun b q _ e=>.inr e.1);have hs:=(H6.out.1.only (OnlyC.bp wn a 0 (.slice A6 n6 c6)) (fun b q hh e=>hh.elim (fun h1=>hO.own.2.2 1 b q (by decide) h1 e.1) (fun h1=>by have h2:=hF2 a 0 (hO.own.1 0 a 0 (hO.2.1 0));have h3:=HB.out.size;have h4:=e.1;omega))).mono (fun b q hh=>hh.imp id (fun h=>de HB.out.size h));have hr:=hO.nW (fun _=>hks) hF2 (iE (H6.out.2.heap YJ (fun q hh=>hO.own.2.1 1 0 a q (by decide) hh (hO.2.1 q))) (.slice A6 n6 c6)) ho hs;rw[hks]at hr;exact⟨rfl,hr.1.mono (fun b q hh=>hh.imp id (fun h=>de jQ.size h)),(oE jQ F).trans hr.2 (fun _ _ _ h=>h)⟩
theorem Ec{α:Type}{l:List α}{i:Nat}(hi:i<l.length)(x:α)(j:Nat):(l.take i++x::l.drop (i+1))[j]?=if j=i then some x else l[j]?:=by
 rw[List.getElem?_append];by_cases c:j<i
 ·rw[fi (by simp;omega),ff (by omega),lz,fi c]
 ·rw[ff (by simp;omega),ke,nf (by omega)];by_cases e:j=i
  ·subst e;simp
  ·rw[ff e,show j-i=(j-i-1)+1 by omega,oj,lE];congr 1;omega
theorem UU{α:Type}{l:List α}{i:Nat}(hi:i<l.length)(y:α):(l.take i++y::l.drop (i+1))[i]?=some y:=by rw[Ec hi,fi rfl]
theorem aS.below{w w':World}{d a:Nat}{x:ND}{F:Nat->Nat->Prop}{vp vk:Value}{aA:List Nat}{H:Nat->Nat->Nat->Prop}(h:aS w (bL w d) a x F vp vk aA H)(hb:Below w.heap.size w w'):aS w' (bL w' d) a x F vp vk aA H:=by have ho:=qn hb;obtain⟨g1,g2,g3,g4,g5,g6,g7⟩:=h;exact⟨ho.heap g1 (fun _ h=>h),g2,g3.only ho (fun _ _ _ h=>h),g4.only ho (fun _ _ _ h=>h),g5,fun i p k hp hk=>(g6 i p k hp hk).only ho (fun _ _ _ h=>h),g7⟩
def Qw(d o:Nat)(p:Pr):Prop:= ∀(w:World) (a lo:Nat) (x:ND) (F:Nat->Nat->Prop),ay w d a x F->(∀b q,F b q->b<w.heap.size)->eX d o lo (2*o-1) x->Up (ba d x)->
 Calls Tryz.prog 93 #[.pointer (some ⟨a,0,none⟩),NA p,.int .i64 o] w (Eb d a (gp d x p o) F (look p.1 (ba d x)) w)
theorem uu{W W':World}{F:Nat->Nat->Prop}{b1 q1 b2 q2 b3 q3 b4 q4:Nat}{v1 v2 v3 v4:Value}(h:W.cell? ⟨b1,q1,none⟩=some v1/\W.cell? ⟨b2,q2,none⟩=some v2/\W.cell? ⟨b3,q3,none⟩=some v3/\W.cell? ⟨b4,q4,none⟩=some v4)(ho:OnlyC F W W')(h1: ¬F b1 q1)(h2: ¬F b2 q2)(h3: ¬F b3 q3)(h4: ¬F b4 q4):W'.cell? ⟨b1,q1,none⟩=some v1/\W'.cell? ⟨b2,q2,none⟩=some v2/\W'.cell? ⟨b3,q3,none⟩=some v3/\W'.cell? ⟨b4,q4,none⟩=some v4:=
 ⟨ho.cell h.1 h1,ho.cell h.2.1 h2,ho.cell h.2.2.1 h3,ho.cell h.2.2.2 h4⟩
theorem RP(w:World)(d a o lo:Nat)(x:ND)(F:Nat->Nat->Prop)(p:Pr)(ih:Qw d o p)(ho:2<=o)(eo:o<=16)(h:ay w (d+1) a x F)(hF: ∀b q,F b q->b<w.heap.size)(hwf:eX (d+1) o lo (2*o-1) x)(hup:Up (ba (d+1) x))(hh:hit p.1 x.ps=false):
  Calls Tryz.prog 93 #[.pointer (some ⟨a,0,none⟩),NA p,.int .i64 o] w (Eb (d+1) a (gp (d+1) x p o) F (look p.1 (ba (d+1) x)) w):=by
 have hu:=tU hwf hup;have hlen:x.ps.length<=1000:=by have:=hwf.len;omega
 have HW:=al (ab hwf (ab hup (ab hh (ab ih ho))));clear ih hwf hup ho;unfold NA;have hb1:=af w (.cells #[.string ⟨p.1.toArray⟩,.string ⟨p.2.toArray⟩] 210);have k1:=an w (.cells #[.string ⟨p.1.toArray⟩,.string ⟨p.2.toArray⟩] 210);have h1:=h.below hb1;go_enter Tryz.func93,Tryz.ntmps93;go_upto_region 1 with fail;generalize w.alloc (.cells #[.string ⟨p.1.toArray⟩,.string ⟨p.2.toArray⟩] 210)=w1 at hb1 k1 h1⊢;obtain⟨P,hP⟩: ∃y,w.heap.size=y:=⟨_,rfl⟩;rw[hP]at k1⊢;have oU:=al (find_ok w1 F a x p.1 h1.base hu hlen);rw[hh]at oU;have hpos:=dZ p.1 x.ps;obtain⟨i,hi⟩: ∃i,posOf p.1 x.ps=i:=⟨_,rfl⟩;rw[hi]at oU hpos;have HI:=al hi;have H1:=al (ab hb1 (ab k1 (ab h1 (ab hP hF))));obtain⟨y0,y1⟩:=eT k1;clear h hb1 k1 h1 hP hh hi hu hF;go_wp2_with fail;refine oU.out.mono ?_;rintro e w2 ⟨rfl,hb2⟩;have h2:=H1.out.2.2.1.below hb2;have k2:=pw hb2 H1.out.2.1;have jQ:=H1.out.1.trans (hb2.mono H1.out.1.size);have hF2: ∀b q,F b q->b<w2.heap.size:=fun b q hh=>cq (H1.out.2.2.2.2 b q hh) jQ.size;have Og: ∀q,¬F P q:=fun q hh=>by have:=H1.out.2.2.2.2 P q hh;have:=H1.out.2.2.2.1;omega
 clear oU y0 y1;obtain⟨hd0,vp,vk,aA,H,hO,hT⟩:=h2.open_;have hkl:=HW.out.1.kids;have hil:i<x.ks.length:=by omega
 obtain⟨k,hk⟩: ∃k,x.ks[i]?=some k:=⟨_,ao hil⟩;obtain⟨l,hl⟩: ∃l,aA[i]?=some l:=⟨_,ao (by rw[hO.2.2.2.2.1];exact hil)⟩;obtain⟨A,c,e1,-⟩:=hO.2.2.1.slice;rw[fb]at e1;subst e1;obtain⟨bk,ok,ck,e2,-,-,r2⟩:=hO.2.2.2.1.ptr hl;subst e2;obtain⟨nk,jP⟩: ∃n,aA.length=n:=⟨_,rfl⟩;rw[jP]at hO;have UW:i<nk:=by rw[<-jP,hO.2.2.2.2.1];exact hil
 have B0:nk<=1001:=by rw[<-jP,hO.2.2.2.2.1];omega
 obtain⟨n,hn⟩: ∃n,x.ps.length=n:=⟨_,rfl⟩;rw[hn]at hO hlen hpos;obtain⟨⟨-,z1⟩,-,-⟩:=ae hO.1;have iW:=al (eQ w2 a nk ck _ (by omega) z1)
 have hbk:H 2 bk (ok+i):=by obtain⟨b',o',c',cs,e1,q2,q3,q4,q6,q7,q8,q9⟩:=hO.2.2.2.1.lies (by rw[fb];omega);simp only[fb,gR,fj,mZ,and_true]at e1;obtain⟨⟨rfl,rfl⟩,-,rfl⟩:=e1;rw[fb]at q2;exact q8 _ (by omega) (by omega)
 obtain⟨y0,y1⟩:=eT k2;have tS:=ab z1 (ab r2 (ab y0 y1));have HA:=al (ab hO (ab jQ (ab hF2 (ab Og (ab hk (ab hl (ab hn (ab hbk (ab hil hpos)))))))));have i1:(0:Int)<=(i:Int):=by omega
 have i2:(i:Int)<(nk:Int):=by omega
 clear h2 k2 hb2 jQ hF2 Og hd0 hT z1 hn hpos hO hk hl hil hkl jP hbk r2 y0 y1;go_wp2_with fail;refine iW.out.mono ?_;rintro e w3 ⟨rfl,rfl⟩;clear iW;go_upto_region 9 with fail;refine pb (S:=(fun W=>W.cell? ⟨a,1,none⟩=some (.slice (some ⟨bk,ok,none⟩) nk ck)/\W.cell? ⟨bk,ok+i,none⟩=some (.pointer (some ⟨l,0,none⟩))/\W.cell? ⟨P,0,none⟩=some (.string ⟨p.1.toArray⟩)/\W.cell? ⟨P,1,none⟩=some (.string ⟨p.2.toArray⟩))) (by kernel_rfl) tS (fun pt=>?_);generalize hW3:World.drew w2=W3 at pt⊢;have HB:=al (show aS W3 (ay W3 d) a x F (.slice A n c) (.slice (some ⟨bk,ok,none⟩) nk ck) aA H/\Below w2.heap.size w2 W3 from hW3▸⟨aS.below (d:=d+1) HA.out.1 (aw _ _).drew,(aw _ _).drew⟩);clear hW3 tS;refine aM [0,1,2,3,4,5,6,7,8] ?_
 iterate 9 (refine bX (v:=?_) (fun wS hSw=>?_) pt ?_;rotate_left;(obtain⟨s0,s1,s2,s3⟩:=hSw;go_simp;try with_reducible rfl);try simp only[ai,aj,ak,ar])
 refine aN ?_;refine aW 9 (fun K hK=>?_);go_simp;refine(HW.out.2.2.2.1 W3 l _ k (H (i+3)) (HB.out.1.2.2.2.2.2.1 i l k HA.out.2.2.2.2.2.1 HA.out.2.2.2.2.1) (fun b q hh=>cq (HA.out.2.2.1 b q (HA.out.1.own.1 _ b q hh)) HB.out.2.size) (HW.out.1.2.2.2 k (dd HA.out.2.2.2.2.1)) (Up.kid HW.out.1.kids (by have h:=HW.out.2.1;rwa[<-dD x]at h) HA.out.2.2.2.2.1)).mono ?_;rintro e wn ⟨rfl,Qx,how⟩;have HK:=al (ab Qx how);clear Qx how;obtain⟨s0,hs0⟩: ∃s,(⟨((look p.1 (ba d k)).getD []).toArray⟩:ByteArray)=s:=⟨_,rfl⟩;obtain⟨b0,hb0⟩: ∃b,(look p.1 (ba d k)).isSome=b:=⟨_,rfl⟩;rw[hs0,hb0];have HR:=al (ab hs0 hb0);clear hs0 hb0
 try go_simp
 refine hK.out _ _ (uu pt HK.out.2 (HA.out.1.own.2.1 0 (i+3) a 1 (by omega) (HA.out.1.2.1 1)) (HA.out.1.own.2.1 2 (i+3) bk (ok+i) (by omega) HA.out.2.2.2.2.2.2.2.1) (fun hh=>HA.out.2.2.2.1 0 (HA.out.1.own.1 _ _ _ hh)) (fun hh=>HA.out.2.2.2.1 1 (HA.out.1.own.1 _ _ _ hh))) ?_;clear hK K pt;intro pt
 try simp only[ai,aj,ak,ar]
 refine aM [10,11,12,13,14] ?_
 iterate 5 (refine bX (v:=?_) (fun wS hSw=>?_) pt ?_;rotate_left;(obtain⟨s0,s1,s2,s3⟩:=hSw;go_simp;try with_reducible rfl);try simp only[ai,aj,ak,ar])
 refine aN ?_;refine pf (by kernel_rfl) ?_ _;obtain⟨z1,r2,-,-⟩:=pt;have hres:=HB.out.1.FX (fun b q hh=>cq (HA.out.2.2.1 b q hh) HB.out.2.size) HA.out.2.2.2.2.1 HA.out.2.2.2.2.2.1 HK.out.2 HK.out.1;have hput:=pS HW.out.2.2.2.2 p (HW.out.1.2.2.2 k (dd HA.out.2.2.2.2.1)) (Up.kid HW.out.1.kids (by have h:=HW.out.2.1;rwa[<-dD x]at h) HA.out.2.2.2.2.1);obtain⟨YK,YL,B6,H3,g1,-,g3,-⟩:=HK.out.1.base;obtain⟨A3,c3,e3,-⟩:=g3.slice;rw[fb]at e3;subst e3;obtain⟨n3,ln⟩: ∃y,(gp d k p o).ps.length=y:=⟨_,rfl⟩;rw[ln]at g1;have KX:=hput.2.len.2;rw[ln]at KX;obtain⟨⟨z3,-⟩,-,-⟩:=ae g1;have mI:look p.1 (ba (d+1) x)=look p.1 (ba d k):=by rw[<-dD x];exact y8 HW.out.1.kids (by have h:=HW.out.2.1;rwa[<-dD x]at h) HW.out.2.2.1 (by rw[HI.out];exact HA.out.2.2.2.2.1)
 have hN:=FJ (d:=d) (o:=o) (ps:=x.ps) (ks:=x.ks) (k:=k) HW.out.2.2.1 (by rw[HI.out];exact HA.out.2.2.2.2.1);rw[dD,HI.out,ln]at hN;have Ed:=al (ab hres (ab hput (ab ln (ab mI hN))));clear hres hput g1 g3 ln mI hN;have io:(2:Int)<=(o:Int):=by have:=HW.out.2.2.2.2;omega
 have io2:(o:Int)<=16:=by omega
 by_cases fc:2*o-1<n3
 ·have i3:2*(o:Int)-1<(n3:Int):=by omega
  have zo:=al fc;clear fc;go_wp2_with fail;have hsz:w.heap.size<=W3.heap.size:=de HA.out.2.1.size HB.out.2.size;have hil:=HA.out.2.2.2.2.2.2.2.2.1;have lG:=HW.out.1.kids;have Qv:=HW.out.1.len.2;refine(uq wn d a i o _ (gp d k p o) _ Ed.out.1.1.bound (fun b q hh=>hh.2) (UU hil _) (by show i<=x.ps.length;omega) (by show x.ps.length<=1000;omega) (by show(x.ks.take i++gp d k p o::x.ks.drop (i+1)).length<=1000;simp;omega) (by rw[Ed.out.2.2.1];have:=zo.out;omega) (fun hd=>?_) HW.out.2.2.2.2 eo).mono ?_
  ·obtain⟨d1,rfl⟩: ∃d1,d=d1+1:=⟨d-1,by omega⟩;rw[Ed.out.2.1.2.kids,Ed.out.2.2.1];have:=zo.out;omega
  rintro e w5 ⟨rfl,KY,jR⟩;have H5:=al (ab KY jR);clear KY jR;go_wp2_with fail
  go_ret2
  obtain⟨hres,hput,ln,mI,hN⟩:=Ed.out;rw[fi zo.out]at hN;rw[hN];refine⟨by rw[<-HR.out.1,<-HR.out.2,<-mI];rfl,H5.out.1.mono (fun b q hh=>?_),((oE (HA.out.2.1.trans (HB.out.2.mono HA.out.2.1.size)) F).trans hres.2 (fun _ _ _ h=>h)).trans H5.out.2 (fun b q hb hh=>hh.1.elim id (fun h=>by omega))⟩;rcases hh with hh|hh
  ·exact hh.1.imp id (fun h=>de hsz h)
  ·exact .inr (de hsz (de HK.out.2.size hh))
 ·have i3: ¬2*(o:Int)-1<(n3:Int):=by omega
  have zo:=al fc;clear fc;go_wp2_with fail
  go_ret2
  obtain⟨hres,hput,ln,mI,hN⟩:=Ed.out;rw[ff zo.out]at hN;rw[hN];exact⟨by rw[<-HR.out.1,<-HR.out.2,<-mI];rfl,hres.1.mono (fun b q hh=>hh.imp id (fun h=>de HA.out.2.1.size (de HB.out.2.size h))),((oE (HA.out.2.1.trans (HB.out.2.mono HA.out.2.1.size)) F).trans hres.2 (fun _ _ _ h=>h))⟩
theorem KZ{o:Nat}(ho:2<=o)(eo:o<=16)(p:Pr): ∀d,Qw d o p
 |0=>fun w a lo x F h hF hwf hu=>by
  have hks:=hwf.none;have hup:=tU hwf hu;have hlen:x.ps.length<=1000:=by have:=hwf.len;omega
  by_cases hh:hit p.1 x.ps=true
  ·obtain⟨v,hv⟩:=fD hh;have:=Gf w 0 a o x F p v h hF hup hlen hh hv;rw[hks]at this
   have e:gp 0 x p o=.mk (x.ps.take (posOf p.1 x.ps)++p::x.ps.drop (posOf p.1 x.ps+1)) []:=by show ND.mk (yV x.ps p) []=_;unfold yV;rw[fi hh]
   rw[e,show look p.1 (ba 0 x)=some v from qR hv];exact this
  ·simp only[Bool.not_eq_true]at hh;have:=KW w a o x F p h hF hup hlen hh
   have e:gp 0 x p o=.mk (x.ps.take (posOf p.1 x.ps)++p::x.ps.drop (posOf p.1 x.ps)) []:=by show ND.mk (yV x.ps p) []=_;unfold yV;rw[ff (by simp[hh])]
   rw[e,show look p.1 (ba 0 x)=none from Bq hh];exact this
 |d+1=>fun w a lo x F h hF hwf hu=>by
  have hup:=tU hwf hu;have hlen:x.ps.length<=1000:=by have:=hwf.len;omega
  by_cases hh:hit p.1 x.ps=true
  ·obtain⟨v,hv⟩:=fD hh;have:=Gf w (d+1) a o x F p v h hF hup hlen hh hv;have e:=Bi (d:=d) (o:=o) (ps:=x.ps) (ks:=x.ks) hh;rw[dD]at e;rw[e]
   have e2:look p.1 (ba (d+1) x)=some v:=by rw[<-dD x]at hu⊢;exact tP hwf.kids hu hh hv
   rw[e2];exact this
  ·simp only[Bool.not_eq_true]at hh;exact RP w d a o lo x F p (KZ ho eo p d) ho eo h hF hwf hu hh
end Go.Proofs.YtagemonojdgbdaaGreatDoor
