import Derived.Test.YtmkofmeojbcakaaGreatDoorC44
namespace Go.Proofs.YtmkofmeojbcakaaGreatDoor
open Go.Proofs.Tryz
set_option maxRecDepth 100000
set_option maxHeartbeats 16000000
open Go.RowKit
section
open Go.RowKit Go.Maps
theorem yD{l:List Cl}(h:Good l):aX (aX l)=aX l:=by have:=uN (a:=l) (b:=[]) h (fun c hc=>by simp at hc);simpa using this
theorem iw{id:Int}{ops:List aO}{args:List Int}{l:List Cl}(hid:0<=id/\id<=1099511627776)(ho:opsE ops=0)(hl:args.length<=8)(ha: ∀n∈args,-1099511627776<=n/\n<=1099511627776)(hg:Good l)(h64:(aX l).length<=64):
  jQ ⟨id,ops,args,aX l⟩=0:=by
 have h2:kX args=true:=by unfold kX;rw[List.all_eq_true];intro n hn;have:=ha n hn;simp only[lx,decide_eq_true_eq];exact this
 have h0:lZ ⟨id,ops,args,aX l⟩=0:=by unfold lZ;rw[ff (by simp only;omega),rh ho,ED (by simp only;omega) h2]
 rw[EC h0];have hg2:=iU hg;have:=AQ (l:=aX l) (sf hg2.ok) (px hg2.ok) (by rw[yD hg];exact h64);rw[this,fi (yD hg)]
def ab6(id:Int)(ops:List aO)(args:List Int)(p:PS ax×Int)(w:World)(e:Ending)(w':World):Prop:=
 ∃A1 c1 A2 c2 A3 c3 A c,e=.returned (.tuple #[.agg #[.int .i64 id,.slice A1 ops.length c1,.slice A2 args.length c2,.slice A3 (aX p.1.cl).length c3,.int .i64 (CJ p),.int .i64 p.1.steps,.slice A (aX p.1.cl).length c,.int .i64 p.2],.int .i64 0])/\
  dD w' (fun k=>w.heap.size<=k) ⟨id,ops,args,aX p.1.cl⟩ (.slice A1 ops.length c1) (.slice A2 args.length c2) (.slice A3 (aX p.1.cl).length c3)/\(aX p.1.cl).length<=64/\Good p.1.cl/\Below w.heap.size w w'
theorem sJ{w:World}{B:Nat}{a0 a1 a2 a3 a4 a5 a6 a7 v0 v1 v2 v3 v4 v5 v6 v7:Value}{t:TypeId}(h:w.heap[B]?=some (.cells #[a0,a1,a2,a3,a4,a5,a6,a7] t (0,0))):
  ((((((((w.setCell ⟨B,0,none⟩ v0).setCell ⟨B,1,none⟩ v1).setCell ⟨B,2,none⟩ v2).setCell ⟨B,3,none⟩ v3).setCell ⟨B,4,none⟩ v4).setCell ⟨B,5,none⟩ v5).setCell ⟨B,6,none⟩ v6).setCell ⟨B,7,none⟩ v7).heap[B]?=some (.cells #[v0,v1,v2,v3,v4,v5,v6,v7] t (0,0)):=by
 have h0:=db w B 0 _ t v0 h;have h1:=db _ B 1 _ t v1 h0;have h2:=db _ B 2 _ t v2 h1;have h3:=db _ B 3 _ t v3 h2;have h4:=db _ B 4 _ t v4 h3;have h5:=db _ B 5 _ t v5 h4;have h6:=db _ B 6 _ t v6 h5;have h7:=db _ B 7 _ t v7 h6;simpa using h7
theorem og(w:World)(B:Nat)(v0 v1 v2 v3 v4 v5 v6 v7:Value):Only (fun k=>k=B) w ((((((((w.setCell ⟨B,0,none⟩ v0).setCell ⟨B,1,none⟩ v1).setCell ⟨B,2,none⟩ v2).setCell ⟨B,3,none⟩ v3).setCell ⟨B,4,none⟩ v4).setCell ⟨B,5,none⟩ v5).setCell ⟨B,6,none⟩ v6).setCell ⟨B,7,none⟩ v7):=
 (((((((Only.aN w B 0 v0).x (Only.aN _ B 1 v1) (fun _ _ h=>h)).x (Only.aN _ B 2 v2) (fun _ _ h=>h)).x (Only.aN _ B 3 v3) (fun _ _ h=>h)).x (Only.aN _ B 4 v4) (fun _ _ h=>h)).x (Only.aN _ B 5 v5) (fun _ _ h=>h)).x (Only.aN _ B 6 v6) (fun _ _ h=>h)).x (Only.aN _ B 7 v7) (fun _ _ h=>h)
theorem dD.only{w w':World}{S G:Nat->Prop}{e:FE}{vo va vc:Value}(h:dD w G e vo va vc)(ho:Only S w w')(hd: ∀k,G k-> ¬S k):dD w' G e vo va vc:=⟨aS.only h.1 ho hd,Rd.only h.2.1 ho hd,aS.only h.2.2.1 ho hd,h.2.2.2⟩
theorem mW(l:List Int): ∀u∈jc l,u.oneCell'=true:=by intro u hu;obtain⟨n,_,rfl⟩:=ew.1 hu;rfl
theorem JW{w:World}{F G:Nat->Prop}{T o:Nat}{most:Int}{l:ax}{FT:Nat->Nat->Prop}(id:Int)(ops:List aO)(opsV mU:Value)(args:List Int)(fuel:Int)
  (hid:0<=id/\id<=1099511627776) (hof: ∀o∈ops,o.fits)
  (lh:gu w G opsV ops) (hG: ∀k,G k->k<w.heap.size) (he:opsE ops=0) (hs:gS w) (hargs:Rd w F mU (args.map (Value.int .i64))) (hal:args.length<=8) (har: ∀n∈args,-1099511627776<=n/\n<=1099511627776)
  (lj:0<=fuel/\fuel<=10000) (ht:cd w T most o l FT) (hF: ∀b q,FT b q->b<w.heap.size) (hok:dH l) (h10:gh w) (hE:oJ w):
  Calls prog 9 #[.int .i64 id,opsV,mU,.pointer (some ⟨T,0,none⟩),.int .i64 fuel] w (ab6 id ops args (vw most fuel (fun _=>true) ops args l) w):=by
 obtain⟨hb,k0⟩:=qn w (.cells #[.int .i64 0,.slice none 0 0,.slice none 0 0,.slice none 0 0,.int .i64 0,.int .i64 0,.slice none 0 0,.int .i64 0] 52);obtain⟨A1,c1,rfl,-,-⟩:=lh.slice;obtain⟨A2,n2,c2,rfl,oC,-⟩:=(ab hargs trivial).1;have HB:=al (ab hb k0);have HP:=al (Iu ops (.slice A1 ops.length c1) (.slice A2 n2 c2) args fuel (aS.below lh hb) (fun k hk=>cq (hG k hk) hb.size) he (hs.below hb) (hargs.below hb) hal har lj (ht.below hb) (fun b q hq=>cq (hF b q hq) hb.size) hok (h10.below hb) (hE.below hb));have HO:=al (aS.below lh hb);have HI:=al (hargs.below hb);have HS:=al (ab (hs.below hb) (ab hid (ab hof (ab he (ab hal (ab har (p8 he).1))))));clear lh hG he hs hargs hal har lj ht hF hok h10 hE hb k0 hid hof oC;go_enter func9,ntmps9;go_upto_region 1 with fail;generalize w.alloc (.cells #[.int .i64 0,.slice none 0 0,.slice none 0 0,.slice none 0 0,.int .i64 0,.int .i64 0,.slice none 0 0,.int .i64 0] 52)=w1 at HB HP HO HI HS⊢;obtain⟨C,hC⟩:=qt (w.heap.size);have hCl:C<w1.heap.size:=by have:=(bd.1 HB.o.2).1;omega
 have HC:=al (ab hC hCl);clear hCl;rw[hC];clear hC;go_wp2_with fail;refine HP.o.m ?_;rintro e w2 ⟨f,rfl,hf,hfl,sN,hb2⟩;obtain⟨A,c,rfl,-,-⟩:=hf.slice;obtain⟨p,hp⟩:=qt (vw most fuel (fun _=>true) ops args l);rw[hp]at hf hfl sN⊢;obtain⟨cl,hcl⟩:=qt (aX p.1.cl);obtain⟨v1,hv1⟩:=qt (CJ p);obtain⟨s1,hs1⟩:=qt (p.1.steps);obtain⟨e1,yg⟩:=qt (p.2);have hfit: ∀c∈aX p.1.cl,c.fits:=(iU sN).fits;rw[hv1,hs1,yg,hcl];rw[hcl]at hf hfl hfit;have HN:=al (ab hfl (ab sN (ab hp (ab hcl (ab hv1 (ab hs1 (ab yg hfit)))))));have fg:=al (ab hf hb2);clear hf hfl sN hp hcl hv1 hs1 yg hfit hb2 HP;go_wp2_with fail;obtain⟨ek,kx⟩:=qn w2 (.cells #[.int .i64 v1,.int .i64 s1,.slice A cl.length c,.int .i64 e1] 50);obtain⟨D,hD⟩:=qt (w2.heap.size);rw[hD]at kx⊢;generalize w2.alloc (.cells #[.int .i64 v1,.int .i64 s1,.slice A cl.length c,.int .i64 e1] 50)=w3 at ek kx⊢;have hDl:D<w3.heap.size:=(bd.1 kx).1;have gy:=fg.o.2.x (ek.m fg.o.2.size);have H3:=al (ab kx (ab gy (show C<D/\D<w3.heap.size from⟨by have:=fg.o.2.size;have:=HC.o.2;omega,hDl⟩)));have r2:w3.cell? ⟨D,2,none⟩=some (.slice A cl.length c):=by simp[World.cell?,kx]
 have vT:=al (show Below w3.heap.size w3 w3.drew/\w3.drew.cell? ⟨D,2,none⟩=some (.slice A cl.length c)from⟨(aw _ _).drew,r2⟩);have HO:=al (show gu w3 G (.slice A1 ops.length c1) ops from aS.below HO.o gy);have HI:=al (show Rd w3 F (.slice A2 n2 c2) (jc args)from HI.o.below gy);have HF:=al (show eG w3 (fun _=>True) (.slice A cl.length c) cl from aS.below fg.o.1 ek);have HZ:=al (show w3.heap.size<=w3.drew.heap.size from aE _);clear ek kx hD hDl gy r2;refine o0 (S:=(fun w'=>Below w3.heap.size w3 w'/\w'.cell? ⟨D,2,none⟩=some (.slice A cl.length c))) (by kernel_rfl) (vT.o) (fun ph=>?_);refine aI [0,1,3,5,6] ?_
 iterate 5 (refine bO (v:=?_) (fun _ ⟨s0,s1⟩=>?_) ph ?_;rotate_left;(go_simp;try rfl);try simp only[ai,aj,ak,ar])
 refine aJ ?_;refine pf (rs:=[2,9]) (by kernel_rfl) (by simp) (bE (i:=2) rfl (fun K hK=>?_) (bE (i:=9) rfl (fun K hK=>?_) oT))
 focus
  go_simp;refine(l7 _ _ _ ops (aS.below HO.o ph.1) (by have:=HS.o.q.d;omega)).m ?_;rintro e wn ⟨B1,d1,rfl,hw1,aR⟩;have jq:=al (show gu wn (fun k=>w3.heap.size<=k) (.slice B1 ops.length d1) ops from aS.aU hw1 (gm _) (by decide) (fun g hg=>by have:=(hw1.lt g hg).1;have:=HZ.o;omega));have HZ:=al (da HZ.o aR.size);have lv:=al jq.o;clear hw1 jq
  try go_simp
  refine hK.o _ _ (gN ph aR) ?_;clear hK K ph aR;intro ph
  try simp only[ai,aj,ak,ar]
  refine pf (rs:=[4,9]) (by kernel_rfl) (by simp) (bE (i:=4) rfl (fun K hK=>?_) (bE (i:=9) rfl (fun K hK=>?_) oT))
  focus
   go_simp;refine(fW _ (jc args) _ _ (HI.o.below ph.1) (mW _) (by have:=HS.o.q.1;simp[jc];omega)).m ?_;rintro e wn ⟨B2,d2,rfl,hw2,aR⟩;rw[show(jc args).length=args.length from by simp[jc]]at hw2⊢;have jq:=al (show Rd wn (fun k=>w3.heap.size<=k) (.slice B2 args.length d2) (jc args)from Rd.aU hw2 (fun g hg=>by have:=(hw2.lt g hg).1;have:=HZ.o;omega));have HZ:=al (da HZ.o aR.size);have lv:=al (aS.below lv.o aR);have qb:=al jq.o;clear hw2 jq
   try go_simp
   refine hK.o _ _ (gN ph aR) ?_;clear hK K ph aR;intro ph
   try simp only[ai,aj,ak,ar]
   refine pf (rs:=[7,9]) (by kernel_rfl) (by simp) (bE (i:=7) rfl (fun K hK=>?_) (bE (i:=9) rfl (fun K hK=>?_) oT))
   focus
    go_simp;refine(jU _ _ _ cl (aS.below HF.o ph.1) (by have:=HN.o.1;omega)).m ?_;rintro e wn ⟨B3,d3,rfl,hw3,aR⟩;have jq:=al (show eG wn (fun k=>w3.heap.size<=k) (.slice B3 cl.length d3) cl from aS.aU hw3 (cO _) (by decide) (fun g hg=>by have:=(hw3.lt g hg).1;have:=HZ.o;omega));have HZ:=al (da HZ.o aR.size);have lv:=al (aS.below lv.o aR);have qb:=al (Rd.below qb.o aR);have uQ:=al jq.o;clear hw3 jq
    try go_simp
    refine hK.o _ _ (gN ph aR) ?_;clear hK K ph aR;intro ph
    try simp only[ai,aj,ak,ar]
    refine dR 8 (v:=?_) (fun wS hSw=>?_) ph ?_;rotate_left
    ·obtain⟨s0,s1⟩:=hSw;go_simp;try rfl
    try simp only[ai,aj,ak,ar]
    refine aW 9 (fun K hK=>?_);go_simp;refine hK.o _ _ (gN ph (ae _ _)) ?_;clear hK K ph;intro ph
    try simp only[ai,aj,ak,ar]
    have lv:=al (aS.below (aS.mono (G:=fun k=>w3.heap.size<=k/\k≠wn.heap.size) (aS.bound lv.o (gm _) (by decide)) (fun k hk=>⟨hk.1,fun e=>by have:=hk.2;omega⟩)) (ae wn (.cells #[.int .i64 0,.slice none 0 0,.slice none 0 0,.slice none 0 0] 46)));have qb:=al (Rd.below (Rd.mono (G:=fun k=>w3.heap.size<=k/\k≠wn.heap.size) (Rd.bound qb.o) (fun k hk=>⟨hk.1,fun e=>by have:=hk.2;omega⟩)) (ae wn (.cells #[.int .i64 0,.slice none 0 0,.slice none 0 0,.slice none 0 0] 46)));have uQ:=al (aS.below (aS.mono (G:=fun k=>w3.heap.size<=k/\k≠wn.heap.size) (aS.bound uQ.o (cO _) (by decide)) (fun k hk=>⟨hk.1,fun e=>by have:=hk.2;omega⟩)) (ae wn (.cells #[.int .i64 0,.slice none 0 0,.slice none 0 0,.slice none 0 0] 46)));have kp:=an wn (.cells #[.int .i64 0,.slice none 0 0,.slice none 0 0,.slice none 0 0] 46);obtain⟨P,hP⟩:=qt (wn.heap.size);have hZ:=HZ.o;rw[hP]at kp lv qb uQ⊢;generalize wn.alloc (.cells #[.int .i64 0,.slice none 0 0,.slice none 0 0,.slice none 0 0] 46)=wn at kp ph lv qb uQ⊢;have KP:=al kp;have lA:=al (show D<P/\w3.heap.size<=P/\P<wn.heap.size by have:=H3.o.t;have:=(bd.1 kp).1;omega);have HZ:=al (show w3.heap.size<=wn.heap.size by have:=lA.o;omega);clear hZ kp hP
   rotate_left
   focus
    go_simp;refine hK.o _ _ (gN ph (ae _ _)) ?_;clear hK K ph;intro ph
    try simp only[ai,aj,ak,ar]
    have lv:=al (aS.below (aS.mono (G:=fun k=>w3.heap.size<=k/\k≠wn.heap.size) (aS.bound lv.o (gm _) (by decide)) (fun k hk=>⟨hk.1,fun e=>by have:=hk.2;omega⟩)) (ae wn (.cells #[.int .i64 0,.slice none 0 0,.slice none 0 0,.slice none 0 0] 46)));have qb:=al (Rd.below (Rd.mono (G:=fun k=>w3.heap.size<=k/\k≠wn.heap.size) (Rd.bound qb.o) (fun k hk=>⟨hk.1,fun e=>by have:=hk.2;omega⟩)) (ae wn (.cells #[.int .i64 0,.slice none 0 0,.slice none 0 0,.slice none 0 0] 46)));have kp:=an wn (.cells #[.int .i64 0,.slice none 0 0,.slice none 0 0,.slice none 0 0] 46);obtain⟨P,hP⟩:=qt (wn.heap.size);have hZ:=HZ.o;rw[hP]at kp lv qb⊢;generalize wn.alloc (.cells #[.int .i64 0,.slice none 0 0,.slice none 0 0,.slice none 0 0] 46)=wn at kp ph lv qb⊢;have KP:=al kp;have lA:=al (show D<P/\w3.heap.size<=P/\P<wn.heap.size by have:=H3.o.t;have:=(bd.1 kp).1;omega);have HZ:=al (show w3.heap.size<=wn.heap.size by have:=lA.o;omega);clear hZ kp hP;refine aW 7 (fun K hK=>?_);go_simp;refine(jU _ _ _ cl (aS.below HF.o ph.1) (by have:=HN.o.1;omega)).m ?_;rintro e wn ⟨B3,d3,rfl,hw3,aR⟩;have jq:=al (show eG wn (fun k=>w3.heap.size<=k/\k≠P) (.slice B3 cl.length d3) cl from aS.aU hw3 (cO _) (by decide) (fun g hg=>by have:=(hw3.lt g hg).1;have:=lA.o.d;have:=HZ.o;exact⟨by omega,by omega⟩));have HZ:=al (da HZ.o aR.size);have lv:=al (aS.below lv.o aR);have qb:=al (Rd.below qb.o aR);have KP:=al (pt aR KP.o);have lA:=al (show D<P/\w3.heap.size<=P/\P<wn.heap.size from⟨lA.o.1,lA.o.2.1,cq lA.o.d aR.size⟩);have uQ:=al jq.o;clear hw3 jq
    try go_simp
    refine hK.o _ _ (gN ph aR) ?_;clear hK K ph aR;intro ph
    try simp only[ai,aj,ak,ar]
    refine dR 8 (v:=?_) (fun wS hSw=>?_) ph ?_;rotate_left
    ·obtain⟨s0,s1⟩:=hSw;go_simp;try rfl
    try simp only[ai,aj,ak,ar]
  rotate_left 2
  focus
   go_simp;refine hK.o _ _ (gN ph (ae _ _)) ?_;clear hK K ph;intro ph
   try simp only[ai,aj,ak,ar]
   have lv:=al (aS.below (aS.mono (G:=fun k=>w3.heap.size<=k/\k≠wn.heap.size) (aS.bound lv.o (gm _) (by decide)) (fun k hk=>⟨hk.1,fun e=>by have:=hk.2;omega⟩)) (ae wn (.cells #[.int .i64 0,.slice none 0 0,.slice none 0 0,.slice none 0 0] 46)));have kp:=an wn (.cells #[.int .i64 0,.slice none 0 0,.slice none 0 0,.slice none 0 0] 46);obtain⟨P,hP⟩:=qt (wn.heap.size);have hZ:=HZ.o;rw[hP]at kp lv⊢;generalize wn.alloc (.cells #[.int .i64 0,.slice none 0 0,.slice none 0 0,.slice none 0 0] 46)=wn at kp ph lv⊢;have KP:=al kp;have lA:=al (show D<P/\w3.heap.size<=P/\P<wn.heap.size by have:=H3.o.t;have:=(bd.1 kp).1;omega);have HZ:=al (show w3.heap.size<=wn.heap.size by have:=lA.o;omega);clear hZ kp hP;refine aW 4 (fun K hK=>?_);go_simp;refine(fW _ (jc args) _ _ (HI.o.below ph.1) (mW _) (by have:=HS.o.q.1;simp[jc];omega)).m ?_;rintro e wn ⟨B2,d2,rfl,hw2,aR⟩;rw[show(jc args).length=args.length from by simp[jc]]at hw2⊢;have jq:=al (show Rd wn (fun k=>w3.heap.size<=k/\k≠P) (.slice B2 args.length d2) (jc args)from Rd.aU hw2 (fun g hg=>by have:=(hw2.lt g hg).1;have:=lA.o.d;have:=HZ.o;exact⟨by omega,by omega⟩));have HZ:=al (da HZ.o aR.size);have lv:=al (aS.below lv.o aR);have KP:=al (pt aR KP.o);have lA:=al (show D<P/\w3.heap.size<=P/\P<wn.heap.size from⟨lA.o.1,lA.o.2.1,cq lA.o.d aR.size⟩);have qb:=al jq.o;clear hw2 jq
   try go_simp
   refine hK.o _ _ (gN ph aR) ?_;clear hK K ph aR;intro ph
   try simp only[ai,aj,ak,ar]
   refine aW 7 (fun K hK=>?_);go_simp;refine(jU _ _ _ cl (aS.below HF.o ph.1) (by have:=HN.o.1;omega)).m ?_;rintro e wn ⟨B3,d3,rfl,hw3,aR⟩;have jq:=al (show eG wn (fun k=>w3.heap.size<=k/\k≠P) (.slice B3 cl.length d3) cl from aS.aU hw3 (cO _) (by decide) (fun g hg=>by have:=(hw3.lt g hg).1;have:=lA.o.d;have:=HZ.o;exact⟨by omega,by omega⟩));have HZ:=al (da HZ.o aR.size);have lv:=al (aS.below lv.o aR);have qb:=al (Rd.below qb.o aR);have KP:=al (pt aR KP.o);have lA:=al (show D<P/\w3.heap.size<=P/\P<wn.heap.size from⟨lA.o.1,lA.o.2.1,cq lA.o.d aR.size⟩);have uQ:=al jq.o;clear hw3 jq
   try go_simp
   refine hK.o _ _ (gN ph aR) ?_;clear hK K ph aR;intro ph
   try simp only[ai,aj,ak,ar]
   refine dR 8 (v:=?_) (fun wS hSw=>?_) ph ?_;rotate_left
   ·obtain⟨s0,s1⟩:=hSw;go_simp;try rfl
   try simp only[ai,aj,ak,ar]
 rotate_left 3
 focus
  go_simp;refine hK.o _ _ (gN ph (ae _ _)) ?_;clear hK K ph;intro ph
  try simp only[ai,aj,ak,ar]
  have kp:((w3.alloc (.cells #[.int .i64 0,.slice none 0 0,.slice none 0 0,.slice none 0 0] 46)).drew).heap[w3.heap.size]?=_:=an w3 (.cells #[.int .i64 0,.slice none 0 0,.slice none 0 0,.slice none 0 0] 46);obtain⟨P,hP⟩:=qS (w3.heap.size);have hZ:=HZ.o;rw[<-hP]at kp;rw[show(⟨w3.heap.size,0,none⟩:Addr)=⟨P,0,none⟩ by rw[hP]];generalize (w3.alloc (.cells #[.int .i64 0,.slice none 0 0,.slice none 0 0,.slice none 0 0] 46)).drew=wn at kp ph⊢;have KP:=al kp;have lA:=al (show D<P/\w3.heap.size<=P/\P<wn.heap.size by have:=H3.o.t;have:=(bd.1 kp).1;omega);have HZ:=al (show w3.heap.size<=wn.heap.size by have:=lA.o;omega);clear hZ kp hP;refine aW 2 (fun K hK=>?_);go_simp;refine(l7 _ _ _ ops (aS.below HO.o ph.1) (by have:=HS.o.q.d;omega)).m ?_;rintro e wn ⟨B1,d1,rfl,hw1,aR⟩;have jq:=al (show gu wn (fun k=>w3.heap.size<=k/\k≠P) (.slice B1 ops.length d1) ops from aS.aU hw1 (gm _) (by decide) (fun g hg=>by have:=(hw1.lt g hg).1;have:=lA.o.d;have:=HZ.o;exact⟨by omega,by omega⟩));have HZ:=al (da HZ.o aR.size);have KP:=al (pt aR KP.o);have lA:=al (show D<P/\w3.heap.size<=P/\P<wn.heap.size from⟨lA.o.1,lA.o.2.1,cq lA.o.d aR.size⟩);have lv:=al jq.o;clear hw1 jq
  try go_simp
  refine hK.o _ _ (gN ph aR) ?_;clear hK K ph aR;intro ph
  try simp only[ai,aj,ak,ar]
  refine aW 4 (fun K hK=>?_);go_simp;refine(fW _ (jc args) _ _ (HI.o.below ph.1) (mW _) (by have:=HS.o.q.1;simp[jc];omega)).m ?_;rintro e wn ⟨B2,d2,rfl,hw2,aR⟩;rw[show(jc args).length=args.length from by simp[jc]]at hw2⊢;have jq:=al (show Rd wn (fun k=>w3.heap.size<=k/\k≠P) (.slice B2 args.length d2) (jc args)from Rd.aU hw2 (fun g hg=>by have:=(hw2.lt g hg).1;have:=lA.o.d;have:=HZ.o;exact⟨by omega,by omega⟩));have HZ:=al (da HZ.o aR.size);have lv:=al (aS.below lv.o aR);have KP:=al (pt aR KP.o);have lA:=al (show D<P/\w3.heap.size<=P/\P<wn.heap.size from⟨lA.o.1,lA.o.2.1,cq lA.o.d aR.size⟩);have qb:=al jq.o;clear hw2 jq
  try go_simp
  refine hK.o _ _ (gN ph aR) ?_;clear hK K ph aR;intro ph
  try simp only[ai,aj,ak,ar]
  refine aW 7 (fun K hK=>?_);go_simp;refine(jU _ _ _ cl (aS.below HF.o ph.1) (by have:=HN.o.1;omega)).m ?_;rintro e wn ⟨B3,d3,rfl,hw3,aR⟩;have jq:=al (show eG wn (fun k=>w3.heap.size<=k/\k≠P) (.slice B3 cl.length d3) cl from aS.aU hw3 (cO _) (by decide) (fun g hg=>by have:=(hw3.lt g hg).1;have:=lA.o.d;have:=HZ.o;exact⟨by omega,by omega⟩));have HZ:=al (da HZ.o aR.size);have lv:=al (aS.below lv.o aR);have qb:=al (Rd.below qb.o aR);have KP:=al (pt aR KP.o);have lA:=al (show D<P/\w3.heap.size<=P/\P<wn.heap.size from⟨lA.o.1,lA.o.2.1,cq lA.o.d aR.size⟩);have uQ:=al jq.o;clear hw3 jq
  try go_simp
  refine hK.o _ _ (gN ph aR) ?_;clear hK K ph aR;intro ph
  try simp only[ai,aj,ak,ar]
  refine dR 8 (v:=?_) (fun wS hSw=>?_) ph ?_;rotate_left
  ·obtain⟨s0,s1⟩:=hSw;go_simp;try rfl
  try simp only[ai,aj,ak,ar]
 all_goals
  refine aW 10 (fun K hK=>?_);have kP:=KP.o;have y0:wn.frozen? ⟨P,0,none⟩=false:=by simp[World.frozen?,kP]
  have y1:wn.frozen? ⟨P,1,none⟩=false:=by simp[World.frozen?,kP]
  have y2:wn.frozen? ⟨P,2,none⟩=false:=by simp[World.frozen?,kP]
  have y3:wn.frozen? ⟨P,3,none⟩=false:=by simp[World.frozen?,kP]
  have x0:wn.cell? ⟨P,0,none⟩=some (.int .i64 0):=by simp[World.cell?,kP]
  have x1:wn.cell? ⟨P,1,none⟩=some (.slice none 0 0):=by simp[World.cell?,kP]
  have x2:wn.cell? ⟨P,2,none⟩=some (.slice none 0 0):=by simp[World.cell?,kP]
  have x3:wn.cell? ⟨P,3,none⟩=some (.slice none 0 0):=by simp[World.cell?,kP]
  have fH:=lA.o.2.1;have yE:D≠P:=by have:=lA.o.1;omega
  have iB:=ph.2;go_simp;refine hK.o _ _ (⟨((((ph.1.setCell (p:=⟨P,0,none⟩) fH _).setCell (p:=⟨P,1,none⟩) fH _).setCell (p:=⟨P,2,none⟩) fH _).setCell (p:=⟨P,3,none⟩) fH _),(Only.aN _ P 3 _).cell ((Only.aN _ P 2 _).cell ((Only.aN _ P 1 _).cell ((Only.aN _ P 0 _).cell iB yE) yE) yE) yE⟩) ?_;clear hK K ph y0 y1 y2 y3 x0 x1 x2 x3 kP fH iB yE;intro ph
  try simp only[ai,aj,ak,ar]
  have kp:=b6 (v0:=.int .i64 id) (v1:=.slice B1 ops.length d1) (v2:=.slice B2 args.length d2) (v3:=.slice B3 cl.length d3) KP.o;generalize ((((wn.setCell ⟨P,0,none⟩ (.int .i64 id)).setCell ⟨P,1,none⟩ (.slice B1 ops.length d1)).setCell ⟨P,2,none⟩ (.slice B2 args.length d2)).setCell ⟨P,3,none⟩ (.slice B3 cl.length d3))=wz at kp ph⊢;have lv:=al (aS.only lv.o kp.2 (fun k hk=>hk.2));have qb:=al (Rd.only qb.o kp.2 (fun k hk=>hk.2));have uQ:=al (aS.only uQ.o kp.2 (fun k hk=>hk.2));have KP:=al kp.1;clear kp HZ;refine pb (by kernel_rfl) ?_ _;have hD:=pt ph.1 H3.o.1;have HE:=al (ab ph.1 (ab hD KP.o));have hE:dD wz (fun k=>w3.heap.size<=k) ⟨id,ops,args,cl⟩ (.slice B1 ops.length d1) (.slice B2 args.length d2) (.slice B3 cl.length d3):=⟨aS.m lv.o (fun _ h=>h.1),Rd.m qb.o (fun _ h=>h.1),aS.m uQ.o (fun _ h=>h.1),(show yn id from⟨by have:=HS.o.2.1;omega,by have:=HS.o.2.1;omega⟩),HS.o.d.1,fun n hn=>by have:=HS.o.q.2.1 n hn;exact⟨by omega,by omega⟩,HN.o.q.t⟩;have P9:=al (jX wz _ ⟨id,ops,args,cl⟩ _ _ _ hE (HS.o.1.below (H3.o.2.1.x (ph.1.m H3.o.2.1.size))) (by have:=HN.o.1;show cl.length<=1000;omega))
  have hz0:jQ ⟨id,ops,args,cl⟩=0:=by have h:=iw (l:=p.1.cl) HS.o.2.1 HS.o.t.1 HS.o.q.1 HS.o.q.2.1 HN.o.2.1 (by rw[HN.o.t.1];exact HN.o.1);rw[HN.o.t.1]at h;exact h
  have QD:=al hz0;have Xa:=al hE;clear ph hD hE KP hz0 lv qb uQ;have q0:wz.cell? ⟨P,0,none⟩=some (.int .i64 id):=by simp[World.cell?,HE.o.d]
  have q1:wz.cell? ⟨P,1,none⟩=some (.slice B1 ops.length d1):=by simp[World.cell?,HE.o.d]
  have q2:wz.cell? ⟨P,2,none⟩=some (.slice B2 args.length d2):=by simp[World.cell?,HE.o.d]
  have q3:wz.cell? ⟨P,3,none⟩=some (.slice B3 cl.length d3):=by simp[World.cell?,HE.o.d]
  go_wp2_with fail;refine P9.o.m ?_;rintro e w6 ⟨rfl,fC⟩;rw[QD.o];have H6:=al (ab fC (ab (pt fC HE.o.2.1) (ab (pt fC HE.o.d) (Xa.o.below fC))));have kC:w6.heap[C]?=_:=pt fC (pt HE.o.1 (pt H3.o.2.1 (by have:=HB.o.2;rw[HC.o.1]at this;exact this)));have KC:=al kC;clear q0 q1 q2 q3 fC P9;have y0:w6.frozen? ⟨C,0,none⟩=false:=by simp[World.frozen?,kC]
  have y1:w6.frozen? ⟨C,1,none⟩=false:=by simp[World.frozen?,kC]
  have y2:w6.frozen? ⟨C,2,none⟩=false:=by simp[World.frozen?,kC]
  have y3:w6.frozen? ⟨C,3,none⟩=false:=by simp[World.frozen?,kC]
  have y4:w6.frozen? ⟨C,4,none⟩=false:=by simp[World.frozen?,kC]
  have y5:w6.frozen? ⟨C,5,none⟩=false:=by simp[World.frozen?,kC]
  have y6:w6.frozen? ⟨C,6,none⟩=false:=by simp[World.frozen?,kC]
  have y7:w6.frozen? ⟨C,7,none⟩=false:=by simp[World.frozen?,kC]
  have z0:w6.cell? ⟨C,0,none⟩=some (.int .i64 0):=by simp[World.cell?,kC]
  have z1:w6.cell? ⟨C,1,none⟩=some (.slice none 0 0):=by simp[World.cell?,kC]
  have z2:w6.cell? ⟨C,2,none⟩=some (.slice none 0 0):=by simp[World.cell?,kC]
  have z3:w6.cell? ⟨C,3,none⟩=some (.slice none 0 0):=by simp[World.cell?,kC]
  have z4:w6.cell? ⟨C,4,none⟩=some (.int .i64 0):=by simp[World.cell?,kC]
  have z5:w6.cell? ⟨C,5,none⟩=some (.int .i64 0):=by simp[World.cell?,kC]
  have z6:w6.cell? ⟨C,6,none⟩=some (.slice none 0 0):=by simp[World.cell?,kC]
  have z7:w6.cell? ⟨C,7,none⟩=some (.int .i64 0):=by simp[World.cell?,kC]
  have x0:w6.cell? ⟨D,0,none⟩=some (.int .i64 v1):=by simp[World.cell?,H6.o.2.1]
  have x1:w6.cell? ⟨D,1,none⟩=some (.int .i64 s1):=by simp[World.cell?,H6.o.2.1]
  have x2:w6.cell? ⟨D,2,none⟩=some (.slice A cl.length c):=by simp[World.cell?,H6.o.2.1]
  have x3:w6.cell? ⟨D,3,none⟩=some (.int .i64 e1):=by simp[World.cell?,H6.o.2.1]
  have u0:w6.cell? ⟨P,0,none⟩=some (.int .i64 id):=by simp[World.cell?,H6.o.d.1]
  have u1:w6.cell? ⟨P,1,none⟩=some (.slice B1 ops.length d1):=by simp[World.cell?,H6.o.d.1]
  have u2:w6.cell? ⟨P,2,none⟩=some (.slice B2 args.length d2):=by simp[World.cell?,H6.o.d.1]
  have u3:w6.cell? ⟨P,3,none⟩=some (.slice B3 cl.length d3):=by simp[World.cell?,H6.o.d.1]
  clear kC;go_wp2_with fail;have hp:=sJ (v0:=.int .i64 id) (v1:=.slice B1 ops.length d1) (v2:=.slice B2 args.length d2) (v3:=.slice B3 cl.length d3) (v4:=.int .i64 v1) (v5:=.int .i64 s1) (v6:=.slice A cl.length c) (v7:=.int .i64 e1) KC.o;have hle:w.heap.size<=C:=Nat.le_of_eq HC.o.1;have hb:=HB.o.1.x ((H3.o.2.1.x ((HE.o.1.x (H6.o.1.m HE.o.1.size)).m H3.o.2.1.size)).m HB.o.1.size);refine dr (aB rfl _ _ _ _ _ _ _ rfl hp underlying52 rfl (by kernel_rfl)) rfl ⟨B1,d1,B2,d2,B3,d3,A,c,?_,?_,?_,?_,?_⟩
  ·rw[HN.o.d.1,HN.o.t.1,HN.o.q.1,HN.o.q.2.1,HN.o.q.d.1];rfl
  ·rw[HN.o.d.1,HN.o.t.1];exact dD.m (H6.o.t.only (og _ _ _ _ _ _ _ _ _ _) (fun k hk e=>by have:=H3.o.d;omega)) (fun k hk=>da (HB.o.1.x (H3.o.2.1.m HB.o.1.size)).size hk)
  ·rw[HN.o.d.1,HN.o.t.1];exact HN.o.1
  ·rw[HN.o.d.1];exact HN.o.2.1
  ·exact((((((((hb.setCell (p:=⟨C,0,none⟩) hle _).setCell (p:=⟨C,1,none⟩) hle _).setCell (p:=⟨C,2,none⟩) hle _).setCell (p:=⟨C,3,none⟩) hle _).setCell (p:=⟨C,4,none⟩) hle _).setCell (p:=⟨C,5,none⟩) hle _).setCell (p:=⟨C,6,none⟩) hle _).setCell (p:=⟨C,7,none⟩) hle _)
end
end Go.Proofs.YtmkofmeojbcakaaGreatDoor
