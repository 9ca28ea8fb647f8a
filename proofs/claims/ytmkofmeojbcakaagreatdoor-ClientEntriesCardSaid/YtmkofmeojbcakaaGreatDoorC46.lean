import Derived.Test.YtmkofmeojbcakaaGreatDoorC41
import Derived.Test.YtmkofmeojbcakaaGreatDoorC45
namespace Go.Proofs.YtmkofmeojbcakaaGreatDoor
open Go.Proofs.Tryz
set_option maxRecDepth 100000
set_option maxHeartbeats 16000000
open Go.RowKit
section
open Go.RowKit Go.Maps
def sO(q:Nat):Value:=.pointer (some ⟨q,0,none⟩)
theorem aS.Qa{w:World}{X:Nat}{u:Value}{t:TypeId}(h:w.heap[X]?=some (.cells #[u] t (0,0))):aS 1 w (fun _=>True) (.slice (some ⟨X,0,none⟩) 1 1) [[u]]:=by
 refine⟨_,1,1,rfl,rfl,aE _,by simp[maxLen],fun _=>⟨X,0,rfl,trivial,fun i x hi j y hj=>?_⟩⟩
 match i,hi with
 |0,hi=>
  simp at hi;subst hi
  match j,hj with
  |0,hj=>simp at hj;subst hj;simp[World.cell?,h]
def lC(w:World)(R L:Nat)(f tr:Int)(m b0:Nat)(qs:List Nat):Prop:=
 ∃v,w.heap[R]?=some (pD L f tr v m)/\w.ownsRow b0 90 1 v qs.length (qs.map sO)/\(∀g,v.ownBlock=some g->g∉qs)/\ ∀q∈qs,q<w.heap.size
section
variable{w w':World}{R L m b0:Nat}{f tr:Int}{qs:List Nat}
theorem lC.only{S:Nat->Prop}(h:lC w R L f tr m b0 qs)(ho:Only S w w')(h1: ¬S R)(h2: ∀k,S k->k<b0\/k∈qs):lC w' R L f tr m b0 qs:=by obtain⟨v,g1,g2,g3,g4⟩:=h;exact⟨v,ho.heap g1 h1,aT g2 ho (fun g hg hs=>(h2 g hs).elim (fun e=>by have:=(g2.lt g hg).1;omega) (g3 g hg)),g3,fun q hq=>cq (g4 q hq) ho.size⟩
theorem lC.below(h:lC w R L f tr m b0 qs)(hb:Below w.heap.size w w'):lC w' R L f tr m b0 qs:=h.only (pw hb) (fun h=>h) (fun _ h=>h.elim)
theorem lC.of(h:CE w R L f tr m)(b0:Nat):lC w R L f tr m b0 []:=⟨_,h.1,ea _ _ _ _,fun _ _ h=>by simp at h,fun _ h=>by simp at h⟩
theorem lC.at_(h:lC w R L f tr m b0 qs){i q:Nat}(hi:qs[i]?=some q): ∃b o c,w.heap[R]?=some (pD L f tr (.slice (some ⟨b,o,none⟩) qs.length c) m)/\w.cell? ⟨b,o+i,none⟩=some (.pointer (some ⟨q,0,none⟩)):=by obtain⟨v,g1,g2,-⟩:=h;obtain⟨A,n,c,rfl,hl,-,-,hx⟩:=Rd.aU (F:=fun _=>True) g2 (fun _ _=>trivial);have hlt:=(b8.1 hi).1;simp at hl;obtain⟨b,o,rfl,-,hc⟩:=hx (by omega);refine⟨b,o,c,by rw[hl];exact g1,?_⟩;exact hc i _ (by simp[hi,sO])
end
theorem Qb(w:World)(R L:Nat)(f tr:Int)(m b0:Nat)(qs:List Nat)(h:lC w R L f tr m b0 qs)(i q:Nat)(hi:qs[i]?=some q):Calls prog 26 #[.pointer (some ⟨R,0,none⟩),.int .i64 (i:Int)] w fun e w'=>e=.returned (.pointer (some ⟨q,0,none⟩))/\w=w':=by
 obtain⟨b,o,c,g1,g2⟩:=h.at_ hi;have hlt:=(b8.1 hi).1;obtain⟨N,hN⟩:=qt (qs.length);rw[hN]at g1 hlt;obtain⟨⟨-,-,-,r3,-⟩,-⟩:=bq g1;have i1:(0:Int)<=(i:Int):=by omega
 have i2:(i:Int)<(N:Int):=by omega
 have i3: ¬(i:Int)<0:=by omega
 have i4: ¬(N:Int)<=(i:Int):=by omega
 clear g1 h hi hN;go_enter func26,ntmps26;go_wp2;go_ret
 exact⟨rfl,rfl⟩
def ab7(w:World)(R L:Nat)(f tr:Int)(m b0:Nat)(qs:List Nat)(l:List aO)(args:List Int)(x:Ending)(w':World):Prop:=
 x=.returned (.tuple #[.int .i64 (qs.length:Int),.int .i64 0])/\ ∃Q A1 c1 A2 c2,lC w' R L f tr m b0 (qs++[Q])/\w.heap.size<=Q/\w'.heap[Q]?=some (pE (.slice A1 l.length c1) (.slice A2 args.length c2) 1 (.slice none 0 0) 0 0)/\
  gu w' (fun k=>w.heap.size<=k/\k≠Q) (.slice A1 l.length c1) l/\Rd w' (fun k=>w.heap.size<=k/\k≠Q) (.slice A2 args.length c2) (jc args)/\Only (fun k=>k=R\/b0<=k) w w'
theorem rz(w:World)(G:Nat->Prop)(R L:Nat)(f tr:Int)(m b0:Nat)(qs:List Nat)(h:lC w R L f tr m b0 qs)(hb0:b0<=w.heap.size)(Xb:R<b0)(hq:qs.length<256)(l:List aO)(args:List Int)(vo va:Value)(hE:dD w G ⟨(qs.length:Int),l,args,[]⟩ vo va (.slice none 0 0))(hz:jQ ⟨(qs.length:Int),l,args,[]⟩=0)(hs:gS w)(hl:l.length<=1000)(hal:args.length<=1000):
  Calls prog 7 #[.pointer (some ⟨R,0,none⟩),vo,va] w (ab7 w R L f tr m b0 qs l args):=by
 obtain⟨v,g1,g2,g3,g4⟩:=h;obtain⟨A,c,rfl⟩:=ag g2;obtain⟨⟨-,-,-,r3,-⟩,-⟩:=bq g1;obtain⟨Ao,co,rfl,-⟩:=hE.1.slice;obtain⟨Aa,ca,rfl,-⟩:=tP hE.2.1;have HF:=al (jX w G _ _ _ _ hE hs (by simp));unfold Lu at HF;have H:=al (ab hE (ab hl (ab hal (ab (ab g3 g4) (ab hb0 Xb)))));have QD:=al hz;obtain⟨i0,hi,hz0,hz1,hz2⟩:=ep Tryz.WV;have jh:=al (ab hi (ab hz0 (ab hz1 hz2)));have HRl:=al (bd.1 g1).1;have H1:=al (ab g1 g2);obtain⟨N,hN⟩:=qt (qs.length);have HL:=al hN;rw[hN]at HF QD H1 H r3 hq;have n1: ¬(256:Int)<=(N:Int):=by omega
 have QE:=al hq;clear hE hs hl hal hi hz0 hz1 hz2 hz g1 g2 g3 g4 hb0 Xb hN hq;go_enter func7,ntmps7;go_wp2_with fail;refine HF.o.m ?_;rintro e w2 ⟨rfl,hb2⟩;have H2:=al (ab hb2 (ab (pt hb2 H1.o.1) (ab (aY H1.o.2 hb2) (H.o.1.below hb2))));clear HF r3 hb2;rw[QD.o];go_wp2_with fail;have HR:=al (show Below w2.heap.size w2 w2.drew/\w2.drew.heap[R]?=some (pD L f tr (.slice A N c) m)from⟨(aw _ _).drew,H2.o.2.1⟩);refine o0 (S:=(fun w'=>Only (fun k=>k=R\/b0<=k) w2 w')) (by kernel_rfl) ((ox _ _).drew) (fun ph=>?_);refine aI [0,1,2,3,5,7] ?_
 iterate 6 (refine bO (v:=?_) (fun wS hSw=>?_) ph ?_;rotate_left;(go_simp;try rfl);try simp only[ai,aj,ak,ar])
 refine aJ ?_;refine pf (rs:=[4,6]) (by kernel_rfl) (by simp) (bE (i:=4) rfl (fun K hK=>?_) (bE (i:=6) rfl (fun K hK=>?_) oT))
 focus
  obtain⟨⟨-,-,-,r3,-⟩,-⟩:=bq HR.o.2;go_simp;refine hK.o _ _ (ph) ?_;clear hK K ph r3;intro ph
  try simp only[ai,aj,ak,ar]
  refine aW 6 (fun K hK=>?_);go_simp;refine(l7 _ _ _ l (aS.below H2.o.t.1 HR.o.1) (da H.o.2.1 (by decide))).m ?_;rintro e wn ⟨A1,c1,rfl,hw1,aR⟩;have TG:=HR.o.1.size;have HR:=al (iu HR.o aR);have HO:=al (show gu wn (fun k=>w.heap.size<=k) _ l from aS.aU hw1 (gm _) (by decide) (fun g hg=>by have:=(hw1.lt g hg).1;have:=H2.o.1.size;omega));clear hw1 TG
  try go_simp
  refine hK.o _ _ (ph.x (oj aR _) (fun _ _ h=>h)) ?_;clear hK K ph aR;intro ph
  try simp only[ai,aj,ak,ar]
  refine aW 8 (fun K hK=>?_);go_simp;refine(fW _ (jc args) _ _ (Rd.below H2.o.q.1 HR.o.1) (mW _) (by have:=H.o.d.1;simp[jc];omega)).m ?_;rintro e wn ⟨A2,c2,rfl,hw2,aR⟩;rw[show(jc args).length=args.length from by simp[jc]]at hw2⊢;have TG:=HR.o.1.size;have HR:=al (iu HR.o aR);have HO:=al (aS.below HO.o aR);have HI:=al (show Rd wn (fun k=>w.heap.size<=k) _ (jc args)from Rd.aU hw2 (fun g hg=>by have:=(hw2.lt g hg).1;have:=H2.o.1.size;omega));clear hw2 TG
  try go_simp
  refine hK.o _ _ (ph.x (oj aR _) (fun _ _ h=>h)) ?_;clear hK K ph aR;intro ph
  try simp only[ai,aj,ak,ar]
  refine dR 9 (v:=?_) (fun wS hSw=>?_) ph ?_;rotate_left
  ·go_simp;try rfl
  try simp only[ai,aj,ak,ar]
  refine aW 10 (fun K hK=>?_);go_simp;refine hK.o _ _ (ph.x (oj (ae _ _) _) (fun _ _ h=>h)) ?_;clear hK K ph;intro ph
  try simp only[ai,aj,ak,ar]
  have hs1:=HR.o.1.size;obtain⟨jV,kq⟩:=qn wn (.cells #[.slice A1 l.length c1,.slice A2 args.length c2,.int .i64 1,.slice none 0 0,.int .i64 0,.int .i64 0] 96);have HO:=al (aS.mono (G:=fun k=>w.heap.size<=k/\k≠wn.heap.size) (aS.bound HO.o (gm _) (by decide)) (fun k hk=>⟨hk.1,fun e=>by have:=hk.2;omega⟩));have HI:=al (Rd.mono (G:=fun k=>w.heap.size<=k/\k≠wn.heap.size) (Rd.bound HI.o) (fun k hk=>⟨hk.1,fun e=>by have:=hk.2;omega⟩));have HR:=al (iu HR.o jV);have HO:=al (aS.below HO.o jV);have HI:=al (Rd.below HI.o jV);obtain⟨Q,hQ⟩:=qt (wn.heap.size);rw[hQ]at kq HO HI⊢;generalize wn.alloc (.cells #[.slice A1 l.length c1,.slice A2 args.length c2,.int .i64 1,.slice none 0 0,.int .i64 0,.int .i64 0] 96)=wq at kq jV ph HR HO HI⊢;have KQ:=al kq;have HQ:=al (show w2.heap.size<=Q by omega);clear kq jV hQ hs1;refine aW 11 (fun K hK=>?_);go_simp;refine hK.o _ _ (ph.x (oj (ae _ _) _) (fun _ _ h=>h)) ?_;clear hK K ph;intro ph
  try simp only[ai,aj,ak,ar]
  obtain⟨qc,kp⟩:=qn wq (.cells #[.pointer (some ⟨Q,0,none⟩)] 90);have HR:=al (iu HR.o qc);have HO:=al (aS.below HO.o qc);have HI:=al (Rd.below HI.o qc);have KQ:=al (pt qc KQ.o);obtain⟨X,hX⟩:=qt (wq.heap.size);rw[hX]at kp⊢;generalize wq.alloc (.cells #[.pointer (some ⟨Q,0,none⟩)] 90)=wp at kp qc ph HR HO HI KQ⊢;have KP:=al kp;have HP:=al (show w2.heap.size<=wp.heap.size/\Q<wp.heap.size by have:=HQ.o;have:=(bd.1 KQ.o).1;omega);clear kp qc hX
 rotate_left
 focus
  go_simp;refine(l7 _ _ _ l (aS.below H2.o.t.1 HR.o.1) (da H.o.2.1 (by decide))).m ?_;rintro e wn ⟨A1,c1,rfl,hw1,aR⟩;have TG:=HR.o.1.size;have HR:=al (iu HR.o aR);have HO:=al (show gu wn (fun k=>w.heap.size<=k) _ l from aS.aU hw1 (gm _) (by decide) (fun g hg=>by have:=(hw1.lt g hg).1;have:=H2.o.1.size;omega));clear hw1 TG
  try go_simp
  refine hK.o _ _ (ph.x (oj aR _) (fun _ _ h=>h)) ?_;clear hK K ph aR;intro ph
  try simp only[ai,aj,ak,ar]
  refine pf (rs:=[4,8]) (by kernel_rfl) (by simp) (bE (i:=4) rfl (fun K hK=>?_) (bE (i:=8) rfl (fun K hK=>?_) oT))
  focus
   obtain⟨⟨-,-,-,r3,-⟩,-⟩:=bq HR.o.2;go_simp;refine hK.o _ _ (ph) ?_;clear hK K ph r3;intro ph
   try simp only[ai,aj,ak,ar]
   refine aW 8 (fun K hK=>?_);go_simp;refine(fW _ (jc args) _ _ (Rd.below H2.o.q.1 HR.o.1) (mW _) (by have:=H.o.d.1;simp[jc];omega)).m ?_;rintro e wn ⟨A2,c2,rfl,hw2,aR⟩;rw[show(jc args).length=args.length from by simp[jc]]at hw2⊢;have TG:=HR.o.1.size;have HR:=al (iu HR.o aR);have HO:=al (aS.below HO.o aR);have HI:=al (show Rd wn (fun k=>w.heap.size<=k) _ (jc args)from Rd.aU hw2 (fun g hg=>by have:=(hw2.lt g hg).1;have:=H2.o.1.size;omega));clear hw2 TG
   try go_simp
   refine hK.o _ _ (ph.x (oj aR _) (fun _ _ h=>h)) ?_;clear hK K ph aR;intro ph
   try simp only[ai,aj,ak,ar]
   refine dR 9 (v:=?_) (fun wS hSw=>?_) ph ?_;rotate_left
   ·go_simp;try rfl
   try simp only[ai,aj,ak,ar]
   refine aW 10 (fun K hK=>?_);go_simp;refine hK.o _ _ (ph.x (oj (ae _ _) _) (fun _ _ h=>h)) ?_;clear hK K ph;intro ph
   try simp only[ai,aj,ak,ar]
   have hs1:=HR.o.1.size;obtain⟨jV,kq⟩:=qn wn (.cells #[.slice A1 l.length c1,.slice A2 args.length c2,.int .i64 1,.slice none 0 0,.int .i64 0,.int .i64 0] 96);have HO:=al (aS.mono (G:=fun k=>w.heap.size<=k/\k≠wn.heap.size) (aS.bound HO.o (gm _) (by decide)) (fun k hk=>⟨hk.1,fun e=>by have:=hk.2;omega⟩));have HI:=al (Rd.mono (G:=fun k=>w.heap.size<=k/\k≠wn.heap.size) (Rd.bound HI.o) (fun k hk=>⟨hk.1,fun e=>by have:=hk.2;omega⟩));have HR:=al (iu HR.o jV);have HO:=al (aS.below HO.o jV);have HI:=al (Rd.below HI.o jV);obtain⟨Q,hQ⟩:=qt (wn.heap.size);rw[hQ]at kq HO HI⊢;generalize wn.alloc (.cells #[.slice A1 l.length c1,.slice A2 args.length c2,.int .i64 1,.slice none 0 0,.int .i64 0,.int .i64 0] 96)=wq at kq jV ph HR HO HI⊢;have KQ:=al kq;have HQ:=al (show w2.heap.size<=Q by omega);clear kq jV hQ hs1;refine aW 11 (fun K hK=>?_);go_simp;refine hK.o _ _ (ph.x (oj (ae _ _) _) (fun _ _ h=>h)) ?_;clear hK K ph;intro ph
   try simp only[ai,aj,ak,ar]
   obtain⟨qc,kp⟩:=qn wq (.cells #[.pointer (some ⟨Q,0,none⟩)] 90);have HR:=al (iu HR.o qc);have HO:=al (aS.below HO.o qc);have HI:=al (Rd.below HI.o qc);have KQ:=al (pt qc KQ.o);obtain⟨X,hX⟩:=qt (wq.heap.size);rw[hX]at kp⊢;generalize wq.alloc (.cells #[.pointer (some ⟨Q,0,none⟩)] 90)=wp at kp qc ph HR HO HI KQ⊢;have KP:=al kp;have HP:=al (show w2.heap.size<=wp.heap.size/\Q<wp.heap.size by have:=HQ.o;have:=(bd.1 KQ.o).1;omega);clear kp qc hX
  rotate_left
  focus
   go_simp;refine(fW _ (jc args) _ _ (Rd.below H2.o.q.1 HR.o.1) (mW _) (by have:=H.o.d.1;simp[jc];omega)).m ?_;rintro e wn ⟨A2,c2,rfl,hw2,aR⟩;rw[show(jc args).length=args.length from by simp[jc]]at hw2⊢;have TG:=HR.o.1.size;have HR:=al (iu HR.o aR);have HO:=al (aS.below HO.o aR);have HI:=al (show Rd wn (fun k=>w.heap.size<=k) _ (jc args)from Rd.aU hw2 (fun g hg=>by have:=(hw2.lt g hg).1;have:=H2.o.1.size;omega));clear hw2 TG
   try go_simp
   refine hK.o _ _ (ph.x (oj aR _) (fun _ _ h=>h)) ?_;clear hK K ph aR;intro ph
   try simp only[ai,aj,ak,ar]
   refine dR 9 (v:=?_) (fun wS hSw=>?_) ph ?_;rotate_left
   ·go_simp;try rfl
   try simp only[ai,aj,ak,ar]
   refine pf (rs:=[4,10]) (by kernel_rfl) (by simp) (bE (i:=4) rfl (fun K hK=>?_) (bE (i:=10) rfl (fun K hK=>?_) oT))
   focus
    obtain⟨⟨-,-,-,r3,-⟩,-⟩:=bq HR.o.2;go_simp;refine hK.o _ _ (ph) ?_;clear hK K ph r3;intro ph
    try simp only[ai,aj,ak,ar]
    refine aW 10 (fun K hK=>?_);go_simp;refine hK.o _ _ (ph.x (oj (ae _ _) _) (fun _ _ h=>h)) ?_;clear hK K ph;intro ph
    try simp only[ai,aj,ak,ar]
    have hs1:=HR.o.1.size;obtain⟨jV,kq⟩:=qn wn (.cells #[.slice A1 l.length c1,.slice A2 args.length c2,.int .i64 1,.slice none 0 0,.int .i64 0,.int .i64 0] 96);have HO:=al (aS.mono (G:=fun k=>w.heap.size<=k/\k≠wn.heap.size) (aS.bound HO.o (gm _) (by decide)) (fun k hk=>⟨hk.1,fun e=>by have:=hk.2;omega⟩));have HI:=al (Rd.mono (G:=fun k=>w.heap.size<=k/\k≠wn.heap.size) (Rd.bound HI.o) (fun k hk=>⟨hk.1,fun e=>by have:=hk.2;omega⟩));have HR:=al (iu HR.o jV);have HO:=al (aS.below HO.o jV);have HI:=al (Rd.below HI.o jV);obtain⟨Q,hQ⟩:=qt (wn.heap.size);rw[hQ]at kq HO HI⊢;generalize wn.alloc (.cells #[.slice A1 l.length c1,.slice A2 args.length c2,.int .i64 1,.slice none 0 0,.int .i64 0,.int .i64 0] 96)=wq at kq jV ph HR HO HI⊢;have KQ:=al kq;have HQ:=al (show w2.heap.size<=Q by omega);clear kq jV hQ hs1;refine aW 11 (fun K hK=>?_);go_simp;refine hK.o _ _ (ph.x (oj (ae _ _) _) (fun _ _ h=>h)) ?_;clear hK K ph;intro ph
    try simp only[ai,aj,ak,ar]
    obtain⟨qc,kp⟩:=qn wq (.cells #[.pointer (some ⟨Q,0,none⟩)] 90);have HR:=al (iu HR.o qc);have HO:=al (aS.below HO.o qc);have HI:=al (Rd.below HI.o qc);have KQ:=al (pt qc KQ.o);obtain⟨X,hX⟩:=qt (wq.heap.size);rw[hX]at kp⊢;generalize wq.alloc (.cells #[.pointer (some ⟨Q,0,none⟩)] 90)=wp at kp qc ph HR HO HI KQ⊢;have KP:=al kp;have HP:=al (show w2.heap.size<=wp.heap.size/\Q<wp.heap.size by have:=HQ.o;have:=(bd.1 KQ.o).1;omega);clear kp qc hX
   rotate_left
   focus
    go_simp;refine hK.o _ _ (ph.x (oj (ae _ _) _) (fun _ _ h=>h)) ?_;clear hK K ph;intro ph
    try simp only[ai,aj,ak,ar]
    have hs1:=HR.o.1.size;obtain⟨jV,kq⟩:=qn wn (.cells #[.slice A1 l.length c1,.slice A2 args.length c2,.int .i64 1,.slice none 0 0,.int .i64 0,.int .i64 0] 96);have HO:=al (aS.mono (G:=fun k=>w.heap.size<=k/\k≠wn.heap.size) (aS.bound HO.o (gm _) (by decide)) (fun k hk=>⟨hk.1,fun e=>by have:=hk.2;omega⟩));have HI:=al (Rd.mono (G:=fun k=>w.heap.size<=k/\k≠wn.heap.size) (Rd.bound HI.o) (fun k hk=>⟨hk.1,fun e=>by have:=hk.2;omega⟩));have HR:=al (iu HR.o jV);have HO:=al (aS.below HO.o jV);have HI:=al (Rd.below HI.o jV);obtain⟨Q,hQ⟩:=qt (wn.heap.size);rw[hQ]at kq HO HI⊢;generalize wn.alloc (.cells #[.slice A1 l.length c1,.slice A2 args.length c2,.int .i64 1,.slice none 0 0,.int .i64 0,.int .i64 0] 96)=wq at kq jV ph HR HO HI⊢;have KQ:=al kq;have HQ:=al (show w2.heap.size<=Q by omega);clear kq jV hQ hs1;refine pf (rs:=[4,11]) (by kernel_rfl) (by simp) (bE (i:=4) rfl (fun K hK=>?_) (bE (i:=11) rfl (fun K hK=>?_) oT))
    focus
     obtain⟨⟨-,-,-,r3,-⟩,-⟩:=bq HR.o.2;go_simp;refine hK.o _ _ (ph) ?_;clear hK K ph r3;intro ph
     try simp only[ai,aj,ak,ar]
     refine aW 11 (fun K hK=>?_);go_simp;refine hK.o _ _ (ph.x (oj (ae _ _) _) (fun _ _ h=>h)) ?_;clear hK K ph;intro ph
     try simp only[ai,aj,ak,ar]
     obtain⟨qc,kp⟩:=qn wq (.cells #[.pointer (some ⟨Q,0,none⟩)] 90);have HR:=al (iu HR.o qc);have HO:=al (aS.below HO.o qc);have HI:=al (Rd.below HI.o qc);have KQ:=al (pt qc KQ.o);obtain⟨X,hX⟩:=qt (wq.heap.size);rw[hX]at kp⊢;generalize wq.alloc (.cells #[.pointer (some ⟨Q,0,none⟩)] 90)=wp at kp qc ph HR HO HI KQ⊢;have KP:=al kp;have HP:=al (show w2.heap.size<=wp.heap.size/\Q<wp.heap.size by have:=HQ.o;have:=(bd.1 KQ.o).1;omega);clear kp qc hX
    rotate_left
    focus
     go_simp;refine hK.o _ _ (ph.x (oj (ae _ _) _) (fun _ _ h=>h)) ?_;clear hK K ph;intro ph
     try simp only[ai,aj,ak,ar]
     obtain⟨qc,kp⟩:=qn wq (.cells #[.pointer (some ⟨Q,0,none⟩)] 90);have HR:=al (iu HR.o qc);have HO:=al (aS.below HO.o qc);have HI:=al (Rd.below HI.o qc);have KQ:=al (pt qc KQ.o);obtain⟨X,hX⟩:=qt (wq.heap.size);rw[hX]at kp⊢;generalize wq.alloc (.cells #[.pointer (some ⟨Q,0,none⟩)] 90)=wp at kp qc ph HR HO HI KQ⊢;have KP:=al kp;have HP:=al (show w2.heap.size<=wp.heap.size/\Q<wp.heap.size by have:=HQ.o;have:=(bd.1 KQ.o).1;omega);clear kp qc hX;refine aW 4 (fun K hK=>?_);obtain⟨⟨-,-,-,r3,-⟩,-⟩:=bq HR.o.2;go_simp;refine hK.o _ _ (ph) ?_;clear hK K ph r3;intro ph
     try simp only[ai,aj,ak,ar]
 all_goals
  refine aW 12 (fun K hK=>?_);have HW:=al (aY H2.o.d.1 HR.o.1);have CK:=al (show aS 1 wp (fun _=>True) (.slice (some ⟨X,0,none⟩) 1 1) [[sO Q]]from aS.Qa KP.o)
  (refine kO (by rfl) _ _ 85 (by rfl) b0 90 i0 _ 1 8 underlying85 jh.o.1 jh.o.2.1 jh.o.d.1 jh.o.t (by rfl) (by decide) (.slice A N c) N (qs.map sO) (by rfl) HW.o (fun _=>True) (.slice (some ⟨X,0,none⟩) 1 1) [[sO Q]] (by rfl) CK.o (by simp) (by simp[sO,Value.oneCell']) (by have:=QE.o;simp;omega) (by have:=QE.o;unfold maxLen;simp;omega) (by have:=H.o.q.1;have:=H2.o.1.size;have:=HP.o;omega) ?_)
  intro v9 wz hown hgrow hat;rw[show N+[[sO Q]].length=N+1 from rfl]at hown;obtain⟨A9,c9,rfl⟩:=ag hown;have qd:=Only.of_grownBy hgrow;have hgl: ∀g,(Value.slice A N c).ownBlock=some g->g<w2.heap.size:=fun g hg=>(H2.o.d.1.lt g hg).2;have hgb: ∀g,(Value.slice A N c).ownBlock=some g->b0<=g:=fun g hg=>(H2.o.d.1.lt g hg).1;have JX:=al (show wz.heap[R]?=some (pD L f tr (.slice A N c) m)from qd.heap HR.o.2 (fun e=>by have:=hgb R e;have:=H.o.q.2;omega));have FP:=al (aS.only HO.o qd (fun k hk e=>by have:=hgl k e;have:=hk.1;have:=(H1.o.2.lt k e).2;omega));have TH:=al (Rd.only HI.o qd (fun k hk e=>by have:=(H1.o.2.lt k e).2;have:=hk.1;omega));have TI:=al (qd.heap KQ.o (fun e=>by have:=hgl Q e;have:=HQ.o;omega));have KA:=al (ab hown (ab hat qd));clear hown hgrow hat qd hgl hgb;refine hK.o _ _ (ph.x KA.o.d (fun k _ e=>.inr ((H2.o.d.1.lt k e).1))) ?_;clear hK K ph;intro ph
  try simp only[ai,aj,ak,ar]
  refine aI [13,14] ?_
  iterate 2 (refine bO (v:=?_) (fun wS hSw=>?_) ph ?_;rotate_left;(go_simp;try rfl);try simp only[ai,aj,ak,ar])
  refine aJ ?_;refine aW 15 (fun K hK=>?_);obtain⟨⟨-,-,-,r3,-⟩,rf⟩:=bq JX.o;go_simp;refine hK.o _ _ (ph.x (Only.aN _ R 3 _) (fun _ _ h=>.inl h)) ?_;clear hK K ph r3 rf;intro ph
  try simp only[ai,aj,ak,ar]
  refine pb (by kernel_rfl) ?_ _;go_wp2_with fail
  go_ret2
  have hs:=Only.aN wz R 3 (.slice A9 (N+1) c9);have Fx:=HRl.o;have hQ:=HQ.o;have hP:=HP.o;have Xb:=H.o.q.2;have hsz:=H2.o.1.size;have Mn: ∀g,(Value.slice A9 (N+1) c9).ownBlock=some g->g≠R:=fun g hg e=>by have:=(KA.o.1.lt g hg).1;omega
  refine⟨by rw[HL.o];rfl,Q,A1,c1,A2,c2,⟨.slice A9 (N+1) c9,?_,?_,?_,?_⟩,by omega,hs.heap TI.o (fun e=>by omega),aS.only FP.o hs (fun k hk e=>by have:=hk.1;omega),Rd.only TH.o hs (fun k hk e=>by have:=hk.1;omega),?_⟩
  ·have:=db wz R 3 _ _ (.slice A9 (N+1) c9) JX.o;simpa[pD]using this
  ·have h5:=aT KA.o.1 hs (fun g hg e=>Mn g hg e);rw[fb,gk,HL.o];exact h5
  ·intro g hg hm;rw[List.mem_append,fj]at hm;rcases hm with hm|hm
   ·rcases KA.o.2.1 with e|e
    ·exact H.o.t.1.1 g (by rw[<-e];exact hg) hm
    ·have:=H.o.t.1.2 g hm;rw[hg]at e;injection e with e;omega
   ·subst hm;rcases KA.o.2.1 with e|e
    ·have:=(H2.o.d.1.lt g (by rw[<-e];exact hg)).2;omega
    ·rw[hg]at e;injection e with e;omega
  ·intro q hq;rw[List.mem_append,fj]at hq;have h6:=KA.o.d.size;have h7:=hs.size;rcases hq with hq|hq
   ·have:=H.o.t.1.2 q hq;omega
   ·omega
  ·exact(oj H2.o.1 _).x ph (fun _ _ h=>h)
end
end Go.Proofs.YtmkofmeojbcakaaGreatDoor
