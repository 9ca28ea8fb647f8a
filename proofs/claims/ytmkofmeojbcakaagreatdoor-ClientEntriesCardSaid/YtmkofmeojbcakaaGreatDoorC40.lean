import Derived.Test.YtmkofmeojbcakaaGreatDoorC36
import Derived.Laws.Rows
import Derived.Shelf.Spec.SlicesInsert
namespace Go.Proofs.YtmkofmeojbcakaaGreatDoor
open Go.Proofs.Tryz
set_option maxRecDepth 100000
set_option maxHeartbeats 16000000
open Go.RowKit
def JQ(f:Nat->Int):Nat->List Int->Nat->Int
 |_,[]=>f
 |i,x::l=>JQ (oZ f i x) (i+1) l
theorem JR(M:Nat): ∀(l:List Int) (i:Nat) (w:World) (s:MS),aH w M s->i+l.length<=8->aH (w.setCells M (18+i) (l.map (Value.int .i64))) M {s with bI:=JQ s.bI i l}/\Only (fun k=>k=M) w (w.setCells M (18+i) (l.map (Value.int .i64)))
 |[],_,w,_,h,_=>⟨h,ox _ w⟩
 |x::l,i,w,s,h,hl=>by have h1:=h.jx (i:=i) (by simp at hl;omega) x;have h2:=JR M l (i+1) _ _ h1 (by simp at hl;omega);exact⟨h2.1,(bj w M (18+i) _).x h2.2 (fun _ _ h=>h)⟩
theorem Pz{w:World}{F:Nat->Prop}{M:Nat}{s:MS}{v:Value}{l:List Int}(h:aH w M s)(hv:Rd w F v (l.map (Value.int .i64)))(hl:l.length<=8)(ty:TypeId):
  (Builtin.copy_ #[23,23] ty #[.slice (some ⟨M,18,none⟩) 8 8,v]).run prog w=.ok (.int .i64 l.length) (w.setCells M 18 (l.map (Value.int .i64))):=by
 obtain⟨A,n,c,rfl,hn,hnc,hcm,hx⟩:=hv;have hn':l.length=n:=by simpa using hn
 subst hn';have hsz:(prog.info? 3).map (·.size)=some 1:=by kernel_rfl
 by_cases h0:l.length=0
 ·have hl0:l=[]:=dj h0;subst hl0;exact run_copy_none w _ _ _ 3 _ _ _ _ _ _ underlying23 hsz (by simp)
 ·obtain⟨b,o,rfl,_,hc⟩:=hx (by omega)
  have:=run_copy_cells (P:=prog) w 23 23 ty 3 M 18 8 8 ⟨b,o,none⟩ l.length c (l.map (Value.int .i64)) underlying23 hsz (by simp[Nat.min_def];omega)
   (fun j u hj=>by rw[gO];exact hc j u hj) (fun j hj=>by rw[h.bI (i:=j) (by simp at hj;omega)];rfl) (fun j _=>h.free _) (fun u hu=>by
    obtain⟨x,_,rfl⟩:=ew.1 hu
    rfl)
  simpa[goInt]using this
theorem mS(w:World)(n:Int):Calls prog 36 #[.int .i64 n] w fun e w'=>e=.returned (.int .i64 (max (-1099511627776) (min n 1099511627776)))/\w=w':=by
 go_enter func36,ntmps36;go_wp2;go_ret
 exact⟨rfl,rfl⟩
def UE:Array Value:= #[.nilFunc,pU 98,pU 99,pU 100,pU 101,pU 102,pU 103,pU 104,pU 105,pU 106,pU 107,pU 108,pU 109,pU 110,pU 111,pU 112]
theorem Te(w:World):Calls prog 71 #[] w fun e w'=>e=.returned (.agg UE)/\Below w.heap.size w w':=by go_enter func71,ntmps71;go_wp2;exact dr (results_cell_row rfl _ _ _ _ _ _ _ rfl (an _ _) underlying173 rfl (by kernel_rfl)) rfl ⟨rfl,pR _ _⟩
theorem UF{w:World}{B:Nat}{a0 a1 a2 a3 v0 v1 v2 v3:Value}{t:TypeId}(h:w.heap[B]?=some (.cells #[a0,a1,a2,a3] t (0,0))):
  ((((w.setCell ⟨B,0,none⟩ v0).setCell ⟨B,1,none⟩ v1).setCell ⟨B,2,none⟩ v2).setCell ⟨B,3,none⟩ v3).heap[B]?=some (.cells #[v0,v1,v2,v3] t (0,0)):=zS h
def WN{R:Type}(K:(Nat->Prop)->R->World->Prop)(T:Nat->Prop)(p:PS R×Int)(w:World)(e:Ending)(w':World):Prop:=
 ∃f,e=.returned (.tuple #[.agg #[.int .i64 (if p.2=0 then p.1.bI 0 else p.1.value),.int .i64 p.1.steps,f,.int .i64 p.2],.int .i64 0])/\eG w' (fun k=> ¬T k) f (aX p.1.cl)/\(aX p.1.cl).length<=64/\Good p.1.cl/\K (fun _=>False) p.1.rows w'/\Only T w w'
def mA{R:Type}(args:List Int)(r:R):PS R:=⟨0,JQ (fun _=>0) 0 args,0,[],0,r⟩
theorem E2: ∀(l:List Int) (i:Nat) (f:Nat->Int),(∀j,aK (f j))->(∀n∈l,aK n)-> ∀j,aK (JQ f i l j)
 |[],_,_,h,_,j=>h j
 |x::l,i,f,h,hl,j=>E2 l (i+1) _ (fun k=>by
   unfold oZ;split
   ·exact hl x (by simp)
   ·exact h k) (fun n hn=>hl n (by simp[hn])) j
theorem Ii{R:Type}{args:List Int}(r:R)(h: ∀n∈args,aK n):(mA args r).Fit:=
 ⟨E2 args 0 _ (fun _=>⟨by decide,by decide⟩) h,⟨eL _,by show(0:Int)<=10000;decide⟩,eL _,by show(0:Int)<=1000;decide⟩
theorem WO{R:Type}{K:(Nat->Prop)->R->World->Prop}{T F:Nat->Prop}{act:aO->PS R->PS R×Int}(w:World)(l:List aO)(opsV mU:Value)(args:List Int)(bB:Nat)(fuel:Int)(may:Value)(ok:Cl->Bool)(r0:R)
  (lh:gu w (fun k=> ¬T k) opsV l) (he:opsE l=0) (hs:gS w) (hargs:Rd w F mU (args.map (Value.int .i64))) (hal:args.length<=8) (har: ∀n∈args,-1099511627776<=n/\n<=1099511627776)
  (lj:0<=fuel/\fuel<=10000) (tW:ym w T may ok) (hK0:K (fun _=>False) r0 w) (hK:ui K) (hT: ∀k,T k->k<w.heap.size)
  (CA: ∀c:RC,c.Fit->c.ops=l->c.b=.pointer (some ⟨bB,0,none⟩)->c.fuel=fuel->c.may=may->c.ok=ok->w.heap.size<=c.lo->(∀k,T k->c.W k)->(∀k,c.S k->T k\/w.heap.size<=k)->yo c K act 0 l.length):
  Calls prog 47 #[opsV,mU,.pointer (some ⟨bB,0,none⟩),.int .i64 fuel,may] w (WN K T (dA fuel l act l.length l.length (mA args r0)) w):=by
 obtain⟨A,c,rfl,hlc,hcm⟩:=lh.slice;obtain⟨A1,n1,c1,rfl,sK,acR,abY,hx1⟩:=id hargs;have abZ:args.length=n1:=by simpa using sK
 subst abZ;unfold maxLen at hcm abY
 obtain⟨mq,rfl⟩: ∃mq,may=.pointer mq:=by
  rcases tW with⟨h,_⟩|⟨B,_,_,h,_⟩
  ·exact⟨_,h⟩
  ·exact⟨_,h⟩
 have hb0:=pR w (.cells #[.int .i64 0,.int .i64 0,.slice none 0 0,.int .i64 0] 50);have k0:=an w (.cells #[.int .i64 0,.int .i64 0,.slice none 0 0,.int .i64 0] 50)
 have ab0:l.length<=64:=by
  unfold opsE at he;split at he
  ·cases he
  ·omega
 have H:=al (ab lh (ab he (ab hs (ab hargs (ab har (ab tW (ab hK0 (ab hK (ab hT CA)))))))));clear lh he hs hargs har tW hK0 hK hT CA hx1 sK;go_enter func47,ntmps47;go_upto_region 1 with fail;generalize w.alloc (.cells #[.int .i64 0,.int .i64 0,.slice none 0 0,.int .i64 0] 50)=w1 at hb0 k0⊢;obtain⟨R0,hR0⟩:=qt (w.heap.size);rw[hR0]at k0⊢;have HR0:=al (ab hR0 (ab hb0 k0));have HP:=al (Ak w1 _ _ l (aS.below H.o.1 hb0) (H.o.d.1.below hb0));rw[H.o.2.1]at HP;clear hR0 hb0 k0;go_wp2_with fail;refine HP.o.m ?_;rintro e w2 ⟨rfl,hb2⟩;have mJ:=HR0.o.2.1.x (hb2.m HR0.o.2.1.size);have k2:=pt hb2 HR0.o.d;have fg:=al (ab mJ k2);clear hb2 mJ k2 HP;have hcond: ¬(8:Int)<(args.length:Int):=by omega
 go_wp2_with fail
 go_loop [31] (fun i=> ∃k:Nat,k<=args.length/\i=.int .i64 (k:Int)) (fun i=>args.length-(intOf i).toNat)
 case atStart=>exact⟨0,dq _,rfl⟩
 case round=>
  obtain⟨k,hk,rfl⟩:=hrel;by_cases hlt:k<args.length
  ·obtain⟨n,hn⟩: ∃n,args[k]?=some n:=⟨_,ao hlt⟩;have iB:=H.o.t.1.below fg.o.1;obtain⟨A',n',c',hv,_,_,_,hx⟩:=iB;injection hv with e1 e2 e3;subst e1 e2 e3;obtain⟨b,o,rfl,_,hc⟩:=hx (by omega);have hcell:=hc k (.int .i64 n) (by simp[hn]);have yJ:=H.o.q.1 n (de hn);have hcl:max (-1099511627776) (min n 1099511627776)=n:=by omega
   have Fm:=al (mS w2 n);rw[hcl]at Fm;have i1:(0:Int)<=(k:Int):=by omega
   have i2:(k:Int)<(args.length:Int):=by omega
   clear hx hc hn yJ hcl;go_wp2_with fail;refine Fm.o.m ?_;rintro e w3 ⟨rfl,rfl⟩;go_wp2_with fail
   go_round
   case rel=>exact⟨k+1,by omega,by go_num⟩
   case measure=>simp[intOf];omega
  ·have Mm:k=args.length:=by omega
   have F6: ¬fuel<0:=by omega
   have hf2: ¬(10000:Int)<fuel:=by omega
   go_wp2_with fail;refine(Te w2).m ?_;rintro e w3 ⟨rfl,hb3⟩;unfold UE;have gy:=fg.o.1.x (hb3.m fg.o.1.size);have k3:=pt hb3 fg.o.2;have Fq:aH (w3.alloc (.cells (MS.cells ⟨.slice A l.length c,0,fun _=>0,.pointer (some ⟨bB,0,none⟩),fuel,.pointer mq,0,0,.slice none 0 0,0⟩) 177)) w3.heap.size ⟨.slice A l.length c,0,fun _=>0,.pointer (some ⟨bB,0,none⟩),fuel,.pointer mq,0,0,.slice none 0 0,0⟩:=an _ _;have hb4:=pR w3 (.cells (MS.cells ⟨.slice A l.length c,0,fun _=>0,.pointer (some ⟨bB,0,none⟩),fuel,.pointer mq,0,0,.slice none 0 0,0⟩) 177);have H4:=al (ab Fq (ab (gy.x (hb4.m gy.size)) (ab (pt hb4 k3) (ab gy.size (aQ k3)))));clear hb3 gy k3 Fq hb4 F6 hf2 hcond;unfold MS.cells pU at H4;simp only at H4;unfold pU;go_upto_region 17 with fail;generalize w3.alloc (.cells #[.slice A l.length c,.nilFunc,.func (.func 98) #[] #[],.func (.func 99) #[] #[],.func (.func 100) #[] #[],.func (.func 101) #[] #[],.func (.func 102) #[] #[],.func (.func 103) #[] #[],.func (.func 104) #[] #[],.func (.func 105) #[] #[],.func (.func 106) #[] #[],.func (.func 107) #[] #[],.func (.func 108) #[] #[],.func (.func 109) #[] #[],.func (.func 110) #[] #[],.func (.func 111) #[] #[],.func (.func 112) #[] #[],.int .i64 0,.int .i64 0,.int .i64 0,.int .i64 0,.int .i64 0,.int .i64 0,.int .i64 0,.int .i64 0,.int .i64 0,.pointer (some ⟨bB,0,none⟩),.int .i64 fuel,.pointer mq,.int .i64 0,.int .i64 0,.slice none 0 0,.int .i64 0] 177)=w4 at H4⊢;obtain⟨M,hM⟩:=qt (w3.heap.size);rw[hM]at H4⊢;clear hM;have hR0:=HR0.o.1;have hcp:=Pz (l:=args) (F:=F) (v:=.slice A1 args.length c1) H4.o.1 (H.o.t.1.below H4.o.2.1) hal 3;have Eg:=JR M args 0 w4 _ H4.o.1 (by omega);have H5:=al (ab hcp Eg);clear hcp Eg;go_wp2_with fail;rw[H5.o.1];have H6:=al H5.o.2;clear H5;generalize w4.setCells M 18 (args.map (Value.int .i64))=w5 at H6⊢;have hMR:R0<M:=by have:=H4.o.q;omega
   have hMl:M<w5.heap.size:=H6.o.1.lt;obtain⟨cc,hcc⟩: ∃cc:RC,cc=⟨M,fun k=>T k\/k=R0\/k=M,fun k=>T k\/k=M,fun k=>(False\/k=R0)\/k=M,l,.slice A l.length c,.pointer (some ⟨bB,0,none⟩),fuel,.pointer mq,ok,w.heap.size⟩:=⟨_,rfl⟩;have hfit:cc.Fit:=by subst hcc;exact⟨.inr (.inr rfl),.inr rfl,fun k hk=>hk.elim .inl (fun h=>.inr (.inr h)),.inr rfl,fun k hk=>hk.elim (fun h=>h.elim (fun h=>h.elim) (fun h=>.inr (.inl h))) (fun h=>.inr (.inr h)),by show w.heap.size<=M;omega,ab0,lj⟩
   have hT:=H.o.q.q.1
   have hF: ∀k,(¬T k/\k<w.heap.size)-> ¬cc.S k:=by
    subst hcc;rintro k ⟨h1,h2⟩ (h|h|h)
    ·exact h1 h
    ·omega
    ·omega
   have WQ:Only (fun k=>k=M) w4 w5:=H6.o.2;have hB4:Below w.heap.size w w4:=H4.o.2.1;have iA:Only (fun k=>k=M) w w5:=(oj hB4 _).x WQ (fun _ _ h=>h);have hK:=H.o.q.t.1;have hK5:K (fun k=>(False\/k=R0)\/k=M) r0 w5:=hK.only _ r0 w w5 (fun k=>k=M) (fun k hk=>.inr hk) (hK.iX _ _ _ _ (hK.iX _ _ _ _ H.o.q.d.1 (by omega)) (by omega)) iA;have hMS: ∀k,k=M->cc.S k:=by subst hcc;intro k hk;exact .inr (.inr hk)
   have hI:MI cc K w5 (mA args r0):=by
    refine⟨.slice none 0 0,?_,⟨by rw[show(mA args r0).cl=[]from rfl,gT];exact aS.nil _ _ _,by rw[show(mA args r0).cl=[]from rfl,gT];decide,fun x hx=>by cases hx⟩,?_,?_,(by subst hcc;exact hK5),?_,Ii r0 (fun n hn=>by have:=H.o.q.1 n hn;exact⟨by omega,by omega⟩)⟩
    ·subst hcc;exact H6.o.1
    ·rcases H.o.q.2.1 with⟨h1,h2⟩|⟨B,fv,f,h1,h2,h3,h4,h5⟩
     ·subst hcc;exact .inl ⟨h1,h2⟩
     ·have hBl:=aq _ _ h3;refine .inr ⟨B,fv,f,by subst hcc;exact h1,hF B ⟨h2,hBl⟩,iA.cell h3 (fun e=>by have e':B=M:=e;have acS:B<w.heap.size:=hBl;omega),aS.only (aS.m (aS.bound h4 (cO _) (by decide)) hF) iA (fun k hk e=>hk (hMS k e)),by subst hcc;exact h5⟩
    ·subst hcc;exact aS.only (aS.m (aS.bound H.o.1 (fun x hx=>by obtain⟨y,_,rfl⟩:=ew.1 hx;rfl) (by decide)) hF) iA (fun k hk e=>hk (hMS k e))
    ·subst hcc;rintro k (h|h|h)
     ·have:=hT k h;have:=iA.size;omega
     ·omega
     ·omega
   have UG:yo cc K act 0 l.length:=by subst hcc;exact H.o.q.q.2 _ hfit rfl rfl rfl rfl rfl (aE _) (fun k hk=>.inl hk) (fun k hk=>hk.elim .inl (fun h=>.inr (by omega)))
   have hKc:ui K:=hK;have hblk:=ES hfit hKc hI 0 l.length (dq _) (by subst hcc;exact aE _) UG;have hk5:=(WQ.heap H4.o.d.1 (by omega));have HB:=al hblk;have HZ:=al (ab hcc (ab hfit (ab hK5 (ab iA (ab hk5 hT)))));have hcM:cc.M=M:=by subst hcc;rfl
   rw[hcM]at HB;clear hI hK5 iA hMS hK hB4 WQ hF hT hfit hcc UG hKc hblk hk5 hMl;go_wp2_with fail;obtain⟨s6,n,hp⟩: ∃s6 n,dA fuel l act l.length l.length (mA args r0)=(s6,n):=⟨_,_,rfl⟩;have hbe:dA cc.fuel cc.ops act (l.length:Int) (l.length-0) {(mA args r0)with pc:=((0:Nat):Int)}=(s6,n):=by rw[HZ.o.1];exact hp
   rw[hbe]at HB;have HP:=al hp;clear hp hbe;refine HB.o.m ?_;rintro e w6 ⟨rfl,hI6,fe⟩;have hT:=HZ.o.q.2
   have YM: ¬cc.W R0:=by
    rw[HZ.o.1];rintro(h|h)
    ·have:=hT R0 h;omega
    ·omega
   have k6:=fe.heap HZ.o.q.1 YM;obtain⟨f6,m6,hf6,_,_,hK6,_,_⟩:=hI6;obtain⟨A6,c6,rfl,fB,hc6⟩:=hf6.1.slice;rw[hcM]at m6;obtain⟨N6,hN6⟩:=qt ((aX s6.cl).length)
   have vg:Only T w w6:=by
    have h1:Only cc.W w w6:=(HZ.o.t.1.m (fun k _ hk=>by rw[HZ.o.1];exact .inr hk)).x fe (fun _ _ h=>h);refine h1.m (fun k hk h=>?_);rw[HZ.o.1]at h;rcases h with h|h
    ·exact h
    ·omega
   have aaA:=al (show ∀(e:Ending) (w9:World),Only (fun k=>k=M\/k=R0) w6 w9->dA fuel l act l.length l.length (mA args r0)=(s6,n)->e=.returned (.tuple #[.agg #[.int .i64 (if n=0 then s6.bI 0 else s6.value),.int .i64 s6.steps,.slice A6 N6 c6,.int .i64 n],.int .i64 0])->WN K T (dA fuel l act l.length l.length (mA args r0)) w e w9 from fun e w9 hW hp he=>by
    rw[hp]
    have hS: ∀k,(k=M\/k=R0)->cc.S k:=by
     rw[HZ.o.1];rintro k (h|h)
     ·exact .inr (.inr h)
     ·exact .inr (.inl h)
    have XN:=hf6.only hW hS;rw[<-hN6]at he;refine⟨_,he,aS.m XN.1 (fun k hk h=>hk (by rw[HZ.o.1];exact .inl h)),XN.2.1,XN.2.2,?_,vg.x hW (fun k hk h=>by omega)⟩
    exact H.o.q.t.1.back _ _ _ _ (fun k hk=>hk.elim) (H.o.q.t.1.only (fun k=>(False\/k=R0)\/k=M) _ _ _ _ (fun k hk=>hk.elim .inr (fun h=>.inl (.inr h))) (by rw[HZ.o.1]at hK6;exact hK6) hW))
   have HK6:=al k6;have HN6:=al hN6;have HM6:=al m6;have XS:=m6.e;have f32:=m6.free 32;simp only[RC.ms]at XS;clear hK6 vg hf6 YM fe hT k6 m6;go_upto_region 19 with fail;have m7:=HM6.o.abc n;have k7:=(bj w6 M 32 (.int .i64 n)).heap HK6.o (by omega);have CP:=bj w6 M 32 (.int .i64 n);clear XS f32;generalize w6.setCell ⟨M,32,none⟩ (.int .i64 n)=w7 at m7 k7 CP⊢;have XS:=m7.e;simp only at XS;by_cases hn:n=0
   ·subst hn;have c18:=m7.bI (i:=0) (by decide);have f29:=m7.free 29;have c29:=m7.value;simp only[RC.ms]at c18 c29;have H7:=al (ab m7 (ab k7 CP));clear m7 k7 CP;go_upto_region 21 with fail;have m8:=H7.o.1.setValue (s6.bI 0);have k8:=(bj w7 M 29 (.int .i64 (s6.bI 0))).heap H7.o.2.1 (by omega);have SD:=H7.o.d.x (bj w7 M 29 (.int .i64 (s6.bI 0))) (fun _ _ h=>h);clear XS c18 f29 c29;generalize w7.setCell ⟨M,29,none⟩ (.int .i64 (s6.bI 0))=w8 at m8 k8 SD⊢;obtain⟨⟨z0,z1,z2,z3⟩,y0,y1,y2,y3⟩:=cL k8;have v29:=m8.value;have v30:=m8.steps;have v31:=m8.foot;have v32:=m8.e;simp only[RC.ms]at v29 v30 v31 v32;rw[hN6]at v31;have H9:=al SD;have K9:=al k8;clear m8 k8 SD;go_wp2_with fail;have vF:=UF (v0:=.int .i64 (s6.bI 0)) (v1:=.int .i64 s6.steps) (v2:=.slice A6 N6 c6) (v3:=.int .i64 0) K9.o;have ho:=(((bj w8 R0 0 (.int .i64 (s6.bI 0))).setCell (p:=⟨R0,1,none⟩) (fun _=>rfl) (.int .i64 s6.steps)).setCell (p:=⟨R0,2,none⟩) (fun _=>rfl) (.slice A6 N6 c6)).setCell (p:=⟨R0,3,none⟩) (fun _=>rfl) (.int .i64 0);have HO:=al (ab vF ho);clear vF ho;generalize ((((w8.setCell ⟨R0,0,none⟩ (.int .i64 (s6.bI 0))).setCell ⟨R0,1,none⟩ (.int .i64 s6.steps)).setCell ⟨R0,2,none⟩ (.slice A6 N6 c6)).setCell ⟨R0,3,none⟩ (.int .i64 0))=w9 at HO⊢;have hW:Only (fun k=>k=M\/k=R0) w6 w9:=(H9.o.m (fun _ _ h=>.inl h)).x (HO.o.2.m (fun _ _ h=>.inr h)) (fun _ _ h=>h);refine dr (aB rfl _ _ _ _ _ _ _ rfl HO.o.1 underlying50 rfl (by kernel_rfl)) rfl ?_;exact aaA.o _ _ hW HP.o rfl
   ·have oC:(n==0)=false:=by simpa using hn
    have HNN:=al hn;go_upto_region 21 with fail;obtain⟨w8,hw8⟩:=qS (w7);rw[<-hw8]at m7 k7 CP⊢;have m8:=m7;have k8:=k7;have SD:=CP;clear XS hn m7 k7 CP hw8;obtain⟨⟨z0,z1,z2,z3⟩,y0,y1,y2,y3⟩:=cL k8;have v29:=m8.value;have v30:=m8.steps;have v31:=m8.foot;have v32:=m8.e;simp only[RC.ms]at v29 v30 v31 v32;rw[hN6]at v31;have H9:=al SD;have K9:=al k8;clear m8 k8 SD;go_wp2_with fail;have vF:=UF (v0:=.int .i64 s6.value) (v1:=.int .i64 s6.steps) (v2:=.slice A6 N6 c6) (v3:=.int .i64 n) K9.o;have ho:=(((bj w8 R0 0 (.int .i64 s6.value)).setCell (p:=⟨R0,1,none⟩) (fun _=>rfl) (.int .i64 s6.steps)).setCell (p:=⟨R0,2,none⟩) (fun _=>rfl) (.slice A6 N6 c6)).setCell (p:=⟨R0,3,none⟩) (fun _=>rfl) (.int .i64 n);have HO:=al (ab vF ho);clear vF ho;generalize ((((w8.setCell ⟨R0,0,none⟩ (.int .i64 s6.value)).setCell ⟨R0,1,none⟩ (.int .i64 s6.steps)).setCell ⟨R0,2,none⟩ (.slice A6 N6 c6)).setCell ⟨R0,3,none⟩ (.int .i64 n))=w9 at HO⊢;have hW:Only (fun k=>k=M\/k=R0) w6 w9:=(H9.o.m (fun _ _ h=>.inl h)).x (HO.o.2.m (fun _ _ h=>.inr h)) (fun _ _ h=>h);refine dr (aB rfl _ _ _ _ _ _ _ rfl HO.o.1 underlying50 rfl (by kernel_rfl)) rfl ?_;exact aaA.o _ _ hW HP.o (by rw[ff HNN.o];rfl)

section
open Go.RowKit Go.Maps Go.WideShapes
theorem gm(l:List aO): ∀x∈l.map aO.cells,x.length=5:=by intro x hx;obtain⟨y,_,rfl⟩:=ew.1 hx;rfl
theorem WR(l:List aO): ∀u∈(l.map aO.cells).flatten,u.oneCell'=true:=by intro u hu;obtain⟨x,hx,hu⟩:=List.mem_flatten.1 hu;obtain⟨c,_,rfl⟩:=ew.1 hx;simp[aO.cells]at hu;rcases hu with rfl|rfl|rfl|rfl|rfl<;>rfl
def WS(l:List aO)(w:World)(e:Ending)(w':World):Prop:=
 ∃A c,e=.returned (.slice A l.length c)/\w'.ownsRow w.heap.size 93 5 (.slice A l.length c) l.length (l.map aO.cells).flatten/\Below w.heap.size w w'
theorem Tryz.WT:(prog.info? 93).map (fun i=>(i.zero,i.size,i.bytes))=some (some (.agg #[.int .i64 0,.int .i64 0,.int .i64 0,.int .i64 0,.int .i64 0]),5,40):=by kernel_rfl
theorem Tryz.UH:(prog.info? 3).map (fun i=>(i.zero,i.size,i.bytes))=some (some (.int .i64 0),1,8):=by kernel_rfl
theorem l7(w:World)(F:Nat->Prop)(v:Value)(l:List aO)(h:gu w F v l)(hl:l.length<=1000000):
  Calls prog 24 #[v] w (WS l w):=by
 obtain⟨i0,hi,hz0,hz1,hz2⟩:=ep Tryz.WT;obtain⟨A,c,rfl,hnc,hcm⟩:=h.slice;have hnil:=fun w=>Lib.run_eql_slice_nil (P:=prog) w 22 93 A l.length c 0 0 underlying22;rcases A with _|a
 ·have:l=[]:=by
   cases l with
   |nil=>rfl
   |cons x r=>obtain⟨A',n',c',hv,hn',_,_,hx⟩:=h;injection hv with e1 e2 e3;obtain⟨_,_,h0,_⟩:=hx (by rw[<-e2];simp);rw[<-e1]at h0;cases h0
  subst this;clear h;simp only[ix]at hnil;go_enter func24,ntmps24
  go_wp2
  go_ret
  exact⟨none,0,rfl,ea _ _ _ _,aw _ _⟩
 ·have hr2:gu (w.alloc (.cells #[] 93)) F (.slice (some a) l.length c) l:=aS.below h ((aw _ _).alloc (aE _) _);have hown0:=World.ownsRow_made (e:=93) (base:=w.heap.size) (size:=5) w #[] 0 (aE _) (by simp[maxLen]) rfl;have HR:=al (ab hr2 hown0);have jh:=al hi;clear hr2 hown0 h hi;go_enter func24,ntmps24;go_wp2_with (at_builtin;go_loud (refine di _ rfl _ _ 22 rfl w.heap.size 93 i0 _ 5 40 underlying22 jh.o hz0 hz1 hz2 rfl (by decide) _ 0 [] rfl HR.o.2 F _ (l.map aO.cells) rfl HR.o.1 (gm _) (WR _) (by simp;omega) (by simp;unfold maxLen;omega) (by simp) ?_);intro v' w1 hown1 hgrow1 _);go_ret
  simp only[gx,fs,fa]at hown1;obtain⟨A',c',hv⟩:=ag hown1;rw[hv]at hown1⊢;exact⟨A',c',rfl,hown1,((aw _ _).alloc (aE _) _).grown hgrow1 (by simp) (fun k hk=>by have h2:some w.heap.size=some k:=hk;injection h2 with h2;omega)⟩
theorem fW(v:Value)(xs:List Value)(F:Nat->Prop)(w:World)(hr:Rd w F v xs)(h1: ∀u∈xs,u.oneCell'=true)(hb:xs.length<=1000000):
  Calls prog 25 #[v] w (I3 3 xs w):=by
 obtain⟨i0,hi,hz0,hz1,hz2⟩:=ep Tryz.UH;have hr':=hr;obtain⟨A,n,c,rfl,hl,hnc,hcm,hx⟩:=hr';have hnil:=fun w=>Lib.run_eql_slice_nil (P:=prog) w 23 3 A n c 0 0 underlying23;have HX:=al hx;have HL:=al hl;clear hx hl;rcases A with _|a
 ·go_enter func25,ntmps25
  go_wp2
  go_ret
  have:xs=[]:=by
   rcases Nat.eq_zero_or_pos n with h0|h0
   ·exact dj (by rw[HL.o,h0])
   ·obtain⟨_,_,h,_⟩:=HX.o h0;cases h
  subst this;exact⟨none,0,rfl,ea _ _ _ _,aw _ _⟩
 ·have hr2:Rd (w.alloc (.cells #[] 3)) F (.slice (some a) n c) xs:=hr.below ((aw _ _).alloc (aE _) _);have hown0:=World.ownsRow_made (e:=3) (base:=w.heap.size) (size:=1) w #[] 0 (aE _) (by simp[maxLen]) rfl;have c1:(0+xs.length)*8<=140737488355328:=by omega
  have c2:0+xs.length<=maxLen:=by simp only[maxLen];omega
  have c3:w.heap.size<=(w.alloc (.cells #[] 3)).heap.size:=by simp
  have C:=al (ab c1 (ab c2 c3));clear c1 c2 c3;go_enter func25,ntmps25;go_wp2_with (at_builtin;go_loud (refine iJ _ rfl _ _ 23 rfl w.heap.size 3 i0 (.int .i64 0) 8 underlying23 hi hz0 hz1 hz2 rfl _ 0 [] rfl hown0 F _ xs rfl hr2 h1 C.o.1 C.o.2.1 C.o.d ?_);intro v' w1 hown1 hgrow1 _);go_ret
  simp only[gx,fs]at hown1;obtain⟨A',c',hv⟩:=ag hown1;rw[hv]at hown1⊢;exact⟨A',c',rfl,hown1,((aw _ _).alloc (aE _) _).grown hgrow1 (by simp) (fun k hk=>by have h2:some w.heap.size=some k:=hk;injection h2 with h2;omega)⟩
section
variable{P:Program}{w:World}{K:TypeId}{b n:Nat}{g:Value->Option Value}
theorem bQ.clear(h:bQ P w K b n g){t e:TypeId}(ht:P.underlying t=some (.map K e))(ty:TypeId):
  ∃w',(Builtin.clear_ #[t] ty #[.map (some b)]).run P w=.ok (.tuple #[]) w'/\bQ P w' K b 0 (fun _=>none)/\Only (fun k=>k=b) w w':=by
 obtain⟨D,⟨es,clock,hb,F,hs,hD⟩,r⟩:=h;refine⟨{w with heap:=w.heap.setIfInBounds b (.map #[] clock)},?_,⟨_,⟨#[],clock,(MapKept.heap_set hb).1,⟨by simp,MapKept.stamped_empty clock,by simp⟩,aE _,rfl⟩,fun _ _ _=>⟨rfl,fun _=>rfl⟩⟩,?_⟩
 ·simp[Builtin.clear_,run_underlying ht,MapKept.run_getObj_map hb,MapKept.run_setObj_map _ hb,Result.andThen]
 ·refine⟨rfl,rfl,rfl,by simp,fun k hk hne=>?_⟩;show(w.heap.setIfInBounds b _)[k]?=_;rw[ir,ff (fun e=>hne e.symm)]
end
end
def yx(f:Nat->Int)(a:Nat):Rw:=⟨f a,f (a+1),f (a+2),f (a+3)⟩
def gi(x:aO)(s:PS ax)(v:Int):PS ax×Int:=({s with bI:=oZ s.bI x.a.toNat v},0)
def gL(s:PS ax)(p:List Cl×Int)(f:PS ax->PS ax×Int):PS ax×Int:=
 if p.2=0 then f {s with cl:=p.1}else({s with cl:=p.1},p.2)
def E3(ok:Cl->Bool)(x:aO)(s:PS ax):PS ax×Int:=
 gL s (bC ok s.cl [ou (s.bI x.b.toNat)]) fun t=>gi x t (match au (Lib.itoa (s.bI x.b.toNat)) t.rows with
  |some r=>aZ (r.aM x.c.toNat)
  |none=>0)
def E4(most:Int)(ok:Cl->Bool)(x:aO)(s:PS ax):PS ax×Int:=
 let k:=Lib.itoa (s.bI x.b.toNat)
 let r:=yx s.bI x.a.toNat
 gL s (bC ok s.cl (gY k (au k s.rows) (some r))) fun t=>if au k t.rows=none/\most<=(t.rows.length:Int)then(t,16)else({t with rows:=bP (k,r) t.rows},0)
def E5(ok:Cl->Bool)(x:aO)(s:PS ax):PS ax×Int:=
 let k:=Lib.itoa (s.bI x.b.toNat)
 gL s (bC ok s.cl (gY k (au k s.rows) none)) fun t=>({t with rows:=fG k t.rows},0)
def LV(k:List UInt8):Int:=(iW k).getD (-1)
def yz(ok:Cl->Bool)(x:aO)(s:PS ax):PS ax×Int:=
 let v:=s.bI x.b.toNat
 gL s (bC ok s.cl [⟨false,x.c,[],v,v⟩]) fun t=>gi x t (match(cV x.c.toNat v v t.rows).head? with
  |some k=>LV k
  |none=> -1)
def sI(ok:Cl->Bool)(x:aO)(s:PS ax):PS ax×Int:=
 let lo:=s.bI x.b.toNat
 let hi:=aZ (lo+x.n)
 gL s (bC ok s.cl [⟨false,x.c,[],lo,hi⟩]) fun t=>gi x t (min (cV x.c.toNat lo hi t.rows).length 16:Nat)
def zA(most:Int)(ok:Cl->Bool)(x:aO)(s:PS ax):PS ax×Int:=
 match x.d.toNat with
 |1=>gi x s x.c
 |2=>gi x s (s.bI x.b.toNat)
 |3=>gi x s (aZ (s.bI x.a.toNat+s.bI x.b.toNat))
 |4=>gi x s (aZ (s.bI x.a.toNat-s.bI x.b.toNat))
 |5=>gi x s (aZ (s.bI x.a.toNat*s.bI x.b.toNat))
 |6=>gi x s (if s.bI x.a.toNat<s.bI x.b.toNat then 1 else 0)
 |7=>qJ ok (fun l k=>au k l) x s
 |8=>E3 ok x s
 |9=>E4 most ok x s
 |10=>E5 ok x s
 |11=>yz ok x s
 |12=>sI ok x s
 |13=>({s with pc:=if s.bI x.a.toNat=0 then s.pc+x.n else s.pc},0)
 |_=>({s with value:=s.bI x.a.toNat},19)
section
variable{R:Type}
def loopGo(fuel:Int)(blk:PS R->PS R×Int):Nat->PS R->PS R×Int
 |0,s=>(s,0)
 |k+1,s=>
  if fuel<=s.steps then(s,20)
  else
   let p:=blk {s with steps:=s.steps+1}
   if p.2=0 then loopGo fuel blk k p.1 else p
def pC(fuel:Int)(ops:List aO)(act:aO->PS R->PS R×Int)(x:aO)(s:PS R):PS R×Int:=
 let p:=loopGo fuel (fun t=>dA fuel ops act (s.pc+x.n) x.n.toNat {t with pc:=s.pc}) x.c.toNat s
 if p.2=0 then({p.1 with pc:=s.pc+x.n},0)else p
end
def CD(most fuel:Int)(ok:Cl->Bool)(ops:List aO):Nat->aO->PS ax->PS ax×Int
 |0=>zA most ok
 |d+1=>fun x s=>if x.d=14 then pC fuel ops (CD most fuel ok ops d) x s else zA most ok x s
def vw(most fuel:Int)(ok:Cl->Bool)(ops:List aO)(args:List Int)(rows:ax):PS ax×Int:=
 dA fuel ops (CD most fuel ok ops ops.length) ops.length ops.length (mA args rows)
def PA(q:List UInt8×Rw):Prop:=(∃n,aK n/\q.1=Lib.itoa n)/\ ∀c,aK (q.2.aM c)
def dH(l:ax):Prop:=fc l/\ ∀q∈l,PA q
theorem dH.fit{l:ax}(h:dH l):RowsFit l:=fun q hq c=>by
 have:=(h.2 q hq).2 c;unfold aK at this;exact⟨by omega,by omega⟩
theorem dH.ins{l:ax}{q:List UInt8×Rw}(h:dH l)(hq:PA q):dH (bP q l):=
 ⟨eK h.1,fun p hp=>(gW hp).elim (fun e=>by subst e;exact hq) (h.2 p)⟩
theorem dH.del{l:ax}{k:List UInt8}(h:dH l):dH (fG k l):=⟨gG h.1,fun p hp=>h.2 p (oN hp)⟩
theorem LW{f:Nat->Int}(h: ∀i,aK (f i))(a c:Nat):aK ((yx f a).aM c):=by
 match c with
 |0=>exact h _
 |1=>exact h _
 |2=>exact h _
 |_+3=>exact h _
theorem p7{n:Int}(h:aK n):LV (Lib.itoa n)=n:=by unfold LV;rw[Ht.2 ⟨rfl,by unfold aK at h;unfold Hs;omega⟩];rfl
theorem dH.num{l:ax}(h:dH l){c:Nat}{lo hi:Int}{k:List UInt8}(hk:(cV c lo hi l).head?=some k):aK (LV k):=by obtain⟨r,hr,_⟩:=(jS h.1 h.fit).1 (List.mem_of_head? hk);obtain⟨⟨n,hn,e⟩,_⟩:=h.2 _ hr;simp only at e;rw[e,p7 hn];exact hn

theorem p8{l:List aO}(h:opsE l=0):l.length<=64/\(∀o∈l,bJ o=true)/\(∀o∈l,cw o=true)/\gK l=true:=by
 unfold opsE at h;split at h
 ·cases h
 ·rename_i h1;split at h
  ·cases h
  ·rename_i h2;split at h
   ·cases h
   ·rename_i h3;split at h
    ·cases h
    ·rename_i h4;simp only[Bool.not_eq_false]at h2 h3 h4;exact⟨by omega,List.all_eq_true.1 h2,List.all_eq_true.1 h3,h4⟩
theorem jZ{o:aO}(h:cw o=true){i:Nat}(hi:i<4)(hf:ji o.d i=true):tv o.d i<=o.mh i/\o.mh i<=rN o.d i:=by unfold cw at h;have:=List.all_eq_true.1 h i (List.mem_range.2 hi);rw[hf]at this;simpa using this
theorem PB{o:aO}(h:bJ o=true):1<=o.d/\o.d<=15:=by unfold bJ at h;rw[lx]at h;exact of_decide_eq_true h.1
def E6(ops:List aO):Prop:= ∀(i:Nat) (o:aO),ops[i]?=some o->o.holds=true->0<=o.n/\i+1+o.n.toNat<=ops.length/\ ∀(j:Nat) (o':aO),i<j->j<i+1+o.n.toNat->ops[j]?=some o'->o'.holds=true->j+1+o'.n.toNat<=i+1+o.n.toNat
def Ij(ops:List aO)(fr tt:Nat):Prop:= ∀(j:Nat) (o:aO),fr<=j->j<tt->ops[j]?=some o->o.holds=true->j+1+o.n.toNat<=tt
theorem E6.body{ops:List aO}(h:E6 ops){i:Nat}{o:aO}(ho:ops[i]?=some o)(hh:o.holds=true):Ij ops (i+1) (i+1+o.n.toNat):=fun j o' hj=>(h i o ho hh).2.2 j o' hj
theorem E6.whole{ops:List aO}(h:E6 ops):Ij ops 0 ops.length:=fun j o _ _ ho hh=>(h j o ho hh).2.1
theorem LX{len:Nat}{es:List Int}(h:es.Pairwise fun a b=>a≥b)(hl: ∀e∈es,e<=(len:Int)):(∀e∈es,kv len es<=e)/\kv len es<=(len:Int):=by
 unfold kv
 cases hz:es.getLast? with
 |none=>rw[List.getLast?_eq_none_iff]at hz;subst hz;exact⟨fun e he=>by simp at he,eL _⟩
 |some z=>
  obtain⟨ys,rfl⟩:=List.getLast?_eq_some_iff.1 hz;rw[List.pairwise_append]at h;refine⟨fun e he=>?_,hl z (by simp)⟩;rcases dy.1 he with he|he
  ·exact h.2.2 e he z (by simp)
  ·rw[fj]at he;rw[he];exact eL _
theorem LY{l:List aO}{i j:Nat}{o:aO}(ho:l[i]?=some o)(hh:o.holds=true)(hij:i<j)(hj:(j:Int)<cI i o):cI i o∈opens l j:=by unfold opens;rw[List.mem_map];refine⟨(o,i),List.mem_filter.2 ⟨?_,by simp[hh,hj]⟩,rfl⟩;rw[List.mem_zipIdx_iff_getElem?];simp only;rw[mu,fi hij];exact ho
theorem JS{l:List aO}(h:opsE l=0):E6 l:=by
 obtain⟨_,_,hr,hn⟩:=p8 h
 have hn0: ∀(i:Nat) (o:aO),l[i]?=some o->o.holds=true->0<=o.n:=by
  intro i o ho hh
  have h3:ji o.d 3=true:=by unfold aO.holds at hh;simp only[Bool.or_eq_true,beq_iff_eq]at hh;rcases hh with e|e<;>rw[e]<;>decide
  have:=(jZ (hr o (de ho)) (i:=3) (by decide) h3).1;have h4:tv o.d 3=0:=by unfold tv;rw[ff (by omega)]
  rw[h4]at this;exact this
 have PC: ∀(i:Nat) (o:aO),l[i]?=some o->o.holds=true->(∀e∈opens l i,cI i o<=e)/\cI i o<=(l.length:Int):=by
  intro i o ho hh;have hlt:=(b8.1 ho).1;have h1:=eH (k:=i+1) hn (by omega);rw[bX ho,lx]at h1;obtain⟨h2,h3⟩:=xu i (by omega) h1.1;have h4:=LX h2 (fun e he=>(h3 e he).2);have h5:=h1.2;unfold dV at h5;rw[lx,Bool.or_eq_true,hh]at h5
  have h6:cI i o<=kv l.length (opens l i):=by
   rcases h5.2 with h6|h6
   ·simp at h6
   ·exact of_decide_eq_true h6
  exact⟨fun e he=>Int.le_trans h6 (h4.1 e he),Int.le_trans h6 h4.2⟩
 intro i o ho hh;have h0:=hn0 i o ho hh;have h1:=PC i o ho hh;unfold cI at h1;refine⟨h0,by omega,fun j o' hij hj ho' hh'=>?_⟩;have h2:=(PC j o' ho' hh').1 (cI i o) (LY ho hh hij (by unfold cI;omega));have h3:=hn0 j o' ho' hh';unfold cI at h2;omega
theorem Ik{x:aO}(h:x.d=14):x.holds=true:=by unfold aO.holds;rw[h];rfl
theorem Il{x:aO}(h:x.d=13):x.holds=true:=by unfold aO.holds;rw[h];rfl
theorem LZ(ok:Cl->Bool)(get:ax->List UInt8->Option Rw)(x:aO)(s:PS ax):(qJ ok get x s).1.pc=s.pc:=by unfold qJ rowP;simp only;split<;>rfl
theorem ll(s:PS ax)(p:List Cl×Int)(f:PS ax->PS ax×Int)(hf: ∀t,(f t).1.pc=t.pc):(gL s p f).1.pc=s.pc:=by
 unfold gL;split
 ·rw[hf]
 ·rfl
theorem Tf(most:Int)(ok:Cl->Bool)(x:aO)(s:PS ax)(h:x.d.toNat≠13):(zA most ok x s).1.pc=s.pc:=by
 unfold zA;split
 ·rfl
 ·rfl
 ·rfl
 ·rfl
 ·rfl
 ·rfl
 ·exact LZ _ _ _ _
 ·unfold E3;exact ll _ _ _ fun t=>rfl
 ·unfold E4;refine ll _ _ _ fun t=>?_;split<;>rfl
 ·unfold E5;exact ll _ _ _ fun t=>rfl
 ·unfold yz;exact ll _ _ _ fun t=>rfl
 ·unfold sI;exact ll _ _ _ fun t=>rfl
 ·rename_i e;exact absurd e h
 ·rfl
end Go.Proofs.YtmkofmeojbcakaaGreatDoor
