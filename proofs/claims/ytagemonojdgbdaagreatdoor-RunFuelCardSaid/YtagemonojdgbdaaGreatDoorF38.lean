import Derived.Test.YtagemonojdgbdaaGreatDoorF31
import Derived.Test.YtagemonojdgbdaaGreatDoorF37
import Derived.Laws.Rows
import Derived.Shelf.Spec.SlicesInsert
namespace Go.Proofs.YtagemonojdgbdaaGreatDoor
set_option maxRecDepth 100000
set_option maxHeartbeats 16000000
open Go.RowKit
def CY(f:Nat->Int):Nat->List Int->Nat->Int
 |_,[]=>f
 |i,x::l=>CY (ko f i x) (i+1) l
theorem GW(M:Nat): ∀(l:List Int) (i:Nat) (w:World) (s:MS),aD w M s->i+l.length<=8->aD (w.setCells M (18+i) (l.map (Value.int .i64))) M {s with bj:=CY s.bj i l}/\Only (fun k=>k=M) w (w.setCells M (18+i) (l.map (Value.int .i64)))
 |[],_,w,_,h,_=>⟨h,oB _ w⟩
 |x::l,i,w,s,h,hl=>by have h1:=h.ja (i:=i) (by simp at hl;omega) x;have h2:=GW M l (i+1) _ _ h1 (by simp at hl;omega);exact⟨h2.1,(aT w M (18+i) _).trans h2.2 (fun _ _ h=>h)⟩
theorem Mu{w:World}{F:Nat->Prop}{M:Nat}{s:MS}{v:Value}{l:List Int}(h:aD w M s)(hv:Rd w F v (l.map (Value.int .i64)))(hl:l.length<=8)(ty:TypeId):
  (Builtin.copy_ #[51,51] ty #[.slice (some ⟨M,18,none⟩) 8 8,v]).run Tryz.prog w=.ok (.int .i64 l.length) (w.setCells M 18 (l.map (Value.int .i64))):=by
 obtain⟨A,n,c,rfl,hn,hnc,hcm,hx⟩:=hv;have hn':l.length=n:=by simpa using hn
 subst hn';have hsz:(Tryz.prog.info? 3).map (·.size)=some 1:=by kernel_rfl
 by_cases h0:l.length=0
 ·have hl0:l=[]:=db h0;subst hl0;exact run_copy_none w _ _ _ 3 _ _ _ _ _ _ Tryz.underlying51 hsz (by simp)
 ·obtain⟨b,o,rfl,_,hc⟩:=hx (by omega)
  have:=run_copy_cells (P:=Tryz.prog) w 51 51 ty 3 M 18 8 8 ⟨b,o,none⟩ l.length c (l.map (Value.int .i64)) Tryz.underlying51 hsz (by simp[Nat.min_def];omega)
   (fun j u hj=>by rw[gE];exact hc j u hj) (fun j hj=>by rw[h.bj (i:=j) (by simp at hj;omega)];rfl) (fun j _=>h.free _) (fun u hu=>by
    obtain⟨x,_,rfl⟩:=ep.1 hu
    rfl)
  simpa[goInt]using this
theorem lO(w:World)(n:Int):Calls Tryz.prog 34 #[.int .i64 n] w fun e w'=>e=.returned (.int .i64 (max (-1099511627776) (min n 1099511627776)))/\w=w':=by
 go_enter Tryz.func34,Tryz.ntmps34;go_wp2_with fail;go_ret
 exact⟨rfl,rfl⟩
def QW:Array Value:= #[.nilFunc,ov 99,ov 100,ov 101,ov 102,ov 103,ov 104,ov 105,ov 106,ov 107,ov 108,ov 109,ov 110,ov 111,ov 112,ov 113]
theorem PC(w:World):Calls Tryz.prog 65 #[] w fun e w'=>e=.returned (.agg QW)/\Below w.heap.size w w':=by go_enter Tryz.func65,Tryz.ntmps65;go_wp2_with fail;exact dq (results_cell_row rfl _ _ _ _ _ _ _ rfl (an _ _) Tryz.underlying165 rfl (by kernel_rfl)) rfl ⟨rfl,iD _ _⟩
theorem QX{w:World}{B:Nat}{a0 a1 a2 a3 v0 v1 v2 v3:Value}{t:TypeId}(h:w.heap[B]?=some (.cells #[a0,a1,a2,a3] t (0,0))):
  ((((w.setCell ⟨B,0,none⟩ v0).setCell ⟨B,1,none⟩ v1).setCell ⟨B,2,none⟩ v2).setCell ⟨B,3,none⟩ v3).heap[B]?=some (.cells #[v0,v1,v2,v3] t (0,0)):=rU h
def SX{R:Type}(K:(Nat->Prop)->R->World->Prop)(T:Nat->Prop)(p:PS R×Int)(w:World)(e:Ending)(w':World):Prop:=
 ∃f,e=.returned (.tuple #[.agg #[.int .i64 (if p.2=0 then p.1.bj 0 else p.1.value),.int .i64 p.1.steps,f,.int .i64 p.2],.int .i64 0])/\dJ w' (fun k=> ¬T k) f (aV p.1.cl)/\(aV p.1.cl).length<=64/\Good p.1.cl/\K (fun _=>False) p.1.rows w'/\Only T w w'
def gj{R:Type}(args:List Int)(r:R):PS R:=⟨0,CY (fun _=>0) 0 args,0,[],0,r⟩
theorem CZ: ∀(l:List Int) (i:Nat) (f:Nat->Int),(∀j,aI (f j))->(∀n∈l,aI n)-> ∀j,aI (CY f i l j)
 |[],_,_,h,_,j=>h j
 |x::l,i,f,h,hl,j=>CZ l (i+1) _ (fun k=>by
   unfold ko;split
   ·exact hl x (by simp)
   ·exact h k) (fun n hn=>hl n (by simp[hn])) j
theorem E5{R:Type}{args:List Int}(r:R)(h: ∀n∈args,aI n):(gj args r).Fit:=
 ⟨CZ args 0 _ (fun _=>⟨by decide,by decide⟩) h,⟨eE _,by show(0:Int)<=10000;decide⟩,eE _,by show(0:Int)<=1000;decide⟩
theorem Mv{R:Type}{K:(Nat->Prop)->R->World->Prop}{T F:Nat->Prop}{act:aH->PS R->PS R×Int}(w:World)(l:List aH)(opsV iR:Value)(args:List Int)(bB:Nat)(fuel:Int)(may:Value)(ok:Cl->Bool)(r0:R)
  (mN:gP w (fun k=> ¬T k) opsV l) (he:opsE l=0) (hs:je w) (hargs:Rd w F iR (args.map (Value.int .i64))) (hal:args.length<=8) (har: ∀n∈args,-1099511627776<=n/\n<=1099511627776)
  (qF:0<=fuel/\fuel<=10000) (rI:vt w T may ok) (WD:K (fun _=>False) r0 w) (hK:qE K) (hT: ∀k,T k->k<w.heap.size)
  (Ah: ∀c:RC,c.Fit->c.ops=l->c.b=.pointer (some ⟨bB,0,none⟩)->c.fuel=fuel->c.may=may->c.ok=ok->w.heap.size<=c.lo->(∀k,T k->c.W k)->(∀k,c.S k->T k\/w.heap.size<=k)->rJ c K act 0 l.length):
  Calls Tryz.prog 36 #[opsV,iR,.pointer (some ⟨bB,0,none⟩),.int .i64 fuel,may] w (SX K T (bg fuel l act l.length l.length (gj args r0)) w):=by
 obtain⟨A,c,rfl,hlc,hcm⟩:=mN.slice;obtain⟨A1,n1,c1,rfl,tF,aaQ,ZX,hx1⟩:=id hargs;have ZY:args.length=n1:=by simpa using tF
 subst ZY;unfold maxLen at hcm ZX
 obtain⟨mq,rfl⟩: ∃mq,may=.pointer mq:=by
  rcases rI with⟨h,_⟩|⟨B,_,_,h,_⟩
  ·exact⟨_,h⟩
  ·exact⟨_,h⟩
 have hb0:=iD w (.cells #[.int .i64 0,.int .i64 0,.slice none 0 0,.int .i64 0] 89);have k0:=an w (.cells #[.int .i64 0,.int .i64 0,.slice none 0 0,.int .i64 0] 89)
 have ZZ:l.length<=64:=by
  unfold opsE at he;split at he
  ·cases he
  ·omega
 have H:=al (ab mN (ab he (ab hs (ab hargs (ab har (ab rI (ab WD (ab hK (ab hT Ah)))))))));clear mN he hs hargs har rI WD hK hT Ah hx1 tF;go_enter Tryz.func36,Tryz.ntmps36;go_upto_region 1 with fail;generalize w.alloc (.cells #[.int .i64 0,.int .i64 0,.slice none 0 0,.int .i64 0] 89)=w1 at hb0 k0⊢;obtain⟨R0,WE⟩: ∃x,w.heap.size=x:=⟨_,rfl⟩;rw[WE]at k0⊢;have vR:=al (ab WE (ab hb0 k0));have HP:=al (xZ w1 _ _ l (cd.below H.out.1 hb0) (H.out.2.2.1.below hb0));rw[H.out.2.1]at HP;clear WE hb0 k0;go_wp2_with fail;refine HP.out.mono ?_;rintro e w2 ⟨rfl,hb2⟩;have jQ:=vR.out.2.1.trans (hb2.mono vR.out.2.1.size);have k2:=pw hb2 vR.out.2.2;have fR:=al (ab jQ k2);clear hb2 jQ k2 HP;have hcond: ¬(8:Int)<(args.length:Int):=by omega
 go_wp2_with fail
 go_loop [31] (fun i=> ∃k:Nat,k<=args.length/\i=.int .i64 (k:Int)) (fun i=>args.length-(intOf i).toNat)
 case atStart=>exact⟨0,dj _,rfl⟩
 case round=>
  obtain⟨k,hk,rfl⟩:=hrel;by_cases hlt:k<args.length
  ·obtain⟨n,hn⟩: ∃n,args[k]?=some n:=⟨_,ao hlt⟩;have kj:=H.out.2.2.2.1.below fR.out.1;obtain⟨A',n',c',hv,_,_,_,hx⟩:=kj;injection hv with e1 e2 e3;subst e1 e2 e3;obtain⟨b,o,rfl,_,hc⟩:=hx (by omega);have hcell:=hc k (.int .i64 n) (by simp[hn]);have vP:=H.out.2.2.2.2.1 n (dd hn);have hcl:max (-1099511627776) (min n 1099511627776)=n:=by omega
   have Du:=al (lO w2 n);rw[hcl]at Du;have i1:(0:Int)<=(k:Int):=by omega
   have i2:(k:Int)<(args.length:Int):=by omega
   clear hx hc hn vP hcl;go_wp2_with fail;refine Du.out.mono ?_;rintro e w3 ⟨rfl,rfl⟩;go_wp2_with fail
   go_round
   case rel=>exact⟨k+1,by omega,by go_num⟩
   case measure=>simp[intOf];omega
  ·have EI:k=args.length:=by omega
   have xV: ¬fuel<0:=by omega
   have hf2: ¬(10000:Int)<fuel:=by omega
   go_wp2_with fail;refine(PC w2).mono ?_;rintro e w3 ⟨rfl,hb3⟩;unfold QW;have kq:=fR.out.1.trans (hb3.mono fR.out.1.size);have k3:=pw hb3 fR.out.2;have NL:aD (w3.alloc (.cells (MS.cells ⟨.slice A l.length c,0,fun _=>0,.pointer (some ⟨bB,0,none⟩),fuel,.pointer mq,0,0,.slice none 0 0,0⟩) 169)) w3.heap.size ⟨.slice A l.length c,0,fun _=>0,.pointer (some ⟨bB,0,none⟩),fuel,.pointer mq,0,0,.slice none 0 0,0⟩:=an _ _;have hb4:=iD w3 (.cells (MS.cells ⟨.slice A l.length c,0,fun _=>0,.pointer (some ⟨bB,0,none⟩),fuel,.pointer mq,0,0,.slice none 0 0,0⟩) 169);have H4:=al (ab NL (ab (kq.trans (hb4.mono kq.size)) (ab (pw hb4 k3) (ab kq.size (aO k3)))));clear hb3 kq k3 NL hb4 xV hf2 hcond;unfold MS.cells ov at H4;simp only at H4;unfold ov;go_upto_region 17 with fail;generalize w3.alloc (.cells #[.slice A l.length c,.nilFunc,.func (.func 99) #[] #[],.func (.func 100) #[] #[],.func (.func 101) #[] #[],.func (.func 102) #[] #[],.func (.func 103) #[] #[],.func (.func 104) #[] #[],.func (.func 105) #[] #[],.func (.func 106) #[] #[],.func (.func 107) #[] #[],.func (.func 108) #[] #[],.func (.func 109) #[] #[],.func (.func 110) #[] #[],.func (.func 111) #[] #[],.func (.func 112) #[] #[],.func (.func 113) #[] #[],.int .i64 0,.int .i64 0,.int .i64 0,.int .i64 0,.int .i64 0,.int .i64 0,.int .i64 0,.int .i64 0,.int .i64 0,.pointer (some ⟨bB,0,none⟩),.int .i64 fuel,.pointer mq,.int .i64 0,.int .i64 0,.slice none 0 0,.int .i64 0] 169)=w4 at H4⊢;obtain⟨M,hM⟩: ∃M,w3.heap.size=M:=⟨_,rfl⟩;rw[hM]at H4⊢;clear hM;have WE:=vR.out.1;have Xo:=Mu (l:=args) (F:=F) (v:=.slice A1 args.length c1) H4.out.1 (H.out.2.2.2.1.below H4.out.2.1) hal 3;have CF:=GW M args 0 w4 _ H4.out.1 (by omega);have H5:=al (ab Xo CF);clear Xo CF;go_wp2_with fail;rw[H5.out.1];have H6:=al H5.out.2;clear H5;generalize w4.setCells M 18 (args.map (Value.int .i64))=w5 at H6⊢;have hMR:R0<M:=by have:=H4.out.2.2.2.2;omega
   have ZU:M<w5.heap.size:=H6.out.1.lt;obtain⟨cc,hcc⟩: ∃cc:RC,cc=⟨M,fun k=>T k\/k=R0\/k=M,fun k=>T k\/k=M,fun k=>(False\/k=R0)\/k=M,l,.slice A l.length c,.pointer (some ⟨bB,0,none⟩),fuel,.pointer mq,ok,w.heap.size⟩:=⟨_,rfl⟩;have hfit:cc.Fit:=by subst hcc;exact⟨.inr (.inr rfl),.inr rfl,fun k hk=>hk.elim .inl (fun h=>.inr (.inr h)),.inr rfl,fun k hk=>hk.elim (fun h=>h.elim (fun h=>h.elim) (fun h=>.inr (.inl h))) (fun h=>.inr (.inr h)),by show w.heap.size<=M;omega,ZZ,qF⟩
   have hT:=H.out.2.2.2.2.2.2.2.2.1
   have hF: ∀k,(¬T k/\k<w.heap.size)-> ¬cc.S k:=by
    subst hcc;rintro k ⟨h1,h2⟩ (h|h|h)
    ·exact h1 h
    ·omega
    ·omega
   have SY:Only (fun k=>k=M) w4 w5:=H6.out.2;have hB4:Below w.heap.size w w4:=H4.out.2.1;have gN:Only (fun k=>k=M) w w5:=(oy hB4 _).trans SY (fun _ _ h=>h);have hK:=H.out.2.2.2.2.2.2.2.1;have Z0:K (fun k=>(False\/k=R0)\/k=M) r0 w5:=hK.only _ r0 w w5 (fun k=>k=M) (fun k hk=>.inr hk) (hK.fB _ _ _ _ (hK.fB _ _ _ _ H.out.2.2.2.2.2.2.1 (by omega)) (by omega)) gN;have Z1: ∀k,k=M->cc.S k:=by subst hcc;intro k hk;exact .inr (.inr hk)
   have hI:MI cc K w5 (gj args r0):=by
    refine⟨.slice none 0 0,?_,⟨by rw[show(gj args r0).cl=[]from rfl,yx];exact cd.nil _ _ _,by rw[show(gj args r0).cl=[]from rfl,yx];decide,fun x hx=>by cases hx⟩,?_,?_,(by subst hcc;exact Z0),?_,E5 r0 (fun n hn=>by have:=H.out.2.2.2.2.1 n hn;exact⟨by omega,by omega⟩)⟩
    ·subst hcc;exact H6.out.1
    ·rcases H.out.2.2.2.2.2.1 with⟨h1,h2⟩|⟨B,fv,f,h1,h2,h3,h4,h5⟩
     ·subst hcc;exact .inl ⟨h1,h2⟩
     ·have hBl:=aE _ _ h3;refine .inr ⟨B,fv,f,by subst hcc;exact h1,hF B ⟨h2,hBl⟩,gN.cell h3 (fun e=>by have e':B=M:=e;have aaR:B<w.heap.size:=hBl;omega),cd.only (cd.mono (cd.bound h4 (di _) (by decide)) hF) gN (fun k hk e=>hk (Z1 k e)),by subst hcc;exact h5⟩
    ·subst hcc;exact cd.only (cd.mono (cd.bound H.out.1 (fun x hx=>by obtain⟨y,_,rfl⟩:=ep.1 hx;rfl) (by decide)) hF) gN (fun k hk e=>hk (Z1 k e))
    ·subst hcc;rintro k (h|h|h)
     ·have:=hT k h;have:=gN.size;omega
     ·omega
     ·omega
   have QY:rJ cc K act 0 l.length:=by subst hcc;exact H.out.2.2.2.2.2.2.2.2.2 _ hfit rfl rfl rfl rfl rfl (aq _) (fun k hk=>.inl hk) (fun k hk=>hk.elim .inl (fun h=>.inr (by omega)))
   have hKc:qE K:=hK;have hblk:=CW hfit hKc hI 0 l.length (dj _) (by subst hcc;exact aq _) QY;have WG:=(SY.heap H4.out.2.2.1 (by omega));have HB:=al hblk;have HZ:=al (ab hcc (ab hfit (ab Z0 (ab gN (ab WG hT)))));have hcM:cc.M=M:=by subst hcc;rfl
   rw[hcM]at HB;clear hI Z0 gN Z1 hK hB4 SY hF hT hfit hcc QY hKc hblk WG ZU;go_wp2_with fail;obtain⟨s6,n,hp⟩: ∃s6 n,bg fuel l act l.length l.length (gj args r0)=(s6,n):=⟨_,_,rfl⟩;have hbe:bg cc.fuel cc.ops act (l.length:Int) (l.length-0) {(gj args r0)with pc:=((0:Nat):Int)}=(s6,n):=by rw[HZ.out.1];exact hp
   rw[hbe]at HB;have HP:=al hp;clear hp hbe;refine HB.out.mono ?_;rintro e w6 ⟨rfl,ZV,eA⟩;have hT:=HZ.out.2.2.2.2.2
   have Vp: ¬cc.W R0:=by
    rw[HZ.out.1];rintro(h|h)
    ·have:=hT R0 h;omega
    ·omega
   have k6:=eA.heap HZ.out.2.2.2.2.1 Vp;obtain⟨f6,m6,Z2,_,_,Z3,_,_⟩:=ZV;obtain⟨A6,c6,rfl,eY,hc6⟩:=Z2.1.slice;rw[hcM]at m6;obtain⟨N6,XY⟩: ∃N,(aV s6.cl).length=N:=⟨_,rfl⟩
   have Gk:Only T w w6:=by
    have h1:Only cc.W w w6:=(HZ.out.2.2.2.1.mono (fun k _ hk=>by rw[HZ.out.1];exact .inr hk)).trans eA (fun _ _ h=>h);refine h1.mono (fun k hk h=>?_);rw[HZ.out.1]at h;rcases h with h|h
    ·exact h
    ·omega
   have WH:=al (show ∀(e:Ending) (w9:World),Only (fun k=>k=M\/k=R0) w6 w9->bg fuel l act l.length l.length (gj args r0)=(s6,n)->e=.returned (.tuple #[.agg #[.int .i64 (if n=0 then s6.bj 0 else s6.value),.int .i64 s6.steps,.slice A6 N6 c6,.int .i64 n],.int .i64 0])->SX K T (bg fuel l act l.length l.length (gj args r0)) w e w9 from fun e w9 hW hp he=>by
    rw[hp]
    have hS: ∀k,(k=M\/k=R0)->cc.S k:=by
     rw[HZ.out.1];rintro k (h|h)
     ·exact .inr (.inr h)
     ·exact .inr (.inl h)
    have TZ:=Z2.only hW hS;rw[<-XY]at he;refine⟨_,he,cd.mono TZ.1 (fun k hk h=>hk (by rw[HZ.out.1];exact .inl h)),TZ.2.1,TZ.2.2,?_,Gk.trans hW (fun k hk h=>by omega)⟩
    exact H.out.2.2.2.2.2.2.2.1.back _ _ _ _ (fun k hk=>hk.elim) (H.out.2.2.2.2.2.2.2.1.only (fun k=>(False\/k=R0)\/k=M) _ _ _ _ (fun k hk=>hk.elim .inr (fun h=>.inl (.inr h))) (by rw[HZ.out.1]at Z3;exact Z3) hW))
   have HK6:=al k6;have HN6:=al XY;have Mg:=al m6;have T4:=m6.e;have f32:=m6.free 32;simp only[RC.ms]at T4;clear Z3 Gk Z2 Vp eA hT k6 m6;go_upto_region 19 with fail;have m7:=Mg.out.Zz n;have k7:=(aT w6 M 32 (.int .i64 n)).heap HK6.out (by omega);have AP:=aT w6 M 32 (.int .i64 n);clear T4 f32;generalize w6.setCell ⟨M,32,none⟩ (.int .i64 n)=w7 at m7 k7 AP⊢;have T4:=m7.e;simp only at T4;by_cases hn:n=0
   ·subst hn;have c18:=m7.bj (i:=0) (by decide);have f29:=m7.free 29;have c29:=m7.value;simp only[RC.ms]at c18 c29;have H7:=al (ab m7 (ab k7 AP));clear m7 k7 AP;go_upto_region 21 with fail;have m8:=H7.out.1.setValue (s6.bj 0);have k8:=(aT w7 M 29 (.int .i64 (s6.bj 0))).heap H7.out.2.1 (by omega);have O8:=H7.out.2.2.trans (aT w7 M 29 (.int .i64 (s6.bj 0))) (fun _ _ h=>h);clear T4 c18 f29 c29;generalize w7.setCell ⟨M,29,none⟩ (.int .i64 (s6.bj 0))=w8 at m8 k8 O8⊢;obtain⟨⟨z0,z1,z2,z3⟩,y0,y1,y2,y3⟩:=ct k8;have v29:=m8.value;have v30:=m8.steps;have v31:=m8.foot;have v32:=m8.e;simp only[RC.ms]at v29 v30 v31 v32;rw[XY]at v31;have H9:=al O8;have K9:=al k8;clear m8 k8 O8;go_wp2_with fail;have sZ:=QX (v0:=.int .i64 (s6.bj 0)) (v1:=.int .i64 s6.steps) (v2:=.slice A6 N6 c6) (v3:=.int .i64 0) K9.out;have ho:=(((aT w8 R0 0 (.int .i64 (s6.bj 0))).setCell (p:=⟨R0,1,none⟩) (fun _=>rfl) (.int .i64 s6.steps)).setCell (p:=⟨R0,2,none⟩) (fun _=>rfl) (.slice A6 N6 c6)).setCell (p:=⟨R0,3,none⟩) (fun _=>rfl) (.int .i64 0);have HO:=al (ab sZ ho);clear sZ ho;generalize ((((w8.setCell ⟨R0,0,none⟩ (.int .i64 (s6.bj 0))).setCell ⟨R0,1,none⟩ (.int .i64 s6.steps)).setCell ⟨R0,2,none⟩ (.slice A6 N6 c6)).setCell ⟨R0,3,none⟩ (.int .i64 0))=w9 at HO⊢;have hW:Only (fun k=>k=M\/k=R0) w6 w9:=(H9.out.mono (fun _ _ h=>.inl h)).trans (HO.out.2.mono (fun _ _ h=>.inr h)) (fun _ _ h=>h);refine dq (aC rfl _ _ _ _ _ _ _ rfl HO.out.1 Tryz.underlying89 rfl (by kernel_rfl)) rfl ?_;exact WH.out _ _ hW HP.out rfl
   ·have nZ:(n==0)=false:=by simpa using hn
    have HNN:=al hn;go_upto_region 21 with fail;obtain⟨w8,hw8⟩: ∃w8,w8=w7:=⟨_,rfl⟩;rw[<-hw8]at m7 k7 AP⊢;have m8:=m7;have k8:=k7;have O8:=AP;clear T4 hn m7 k7 AP hw8;obtain⟨⟨z0,z1,z2,z3⟩,y0,y1,y2,y3⟩:=ct k8;have v29:=m8.value;have v30:=m8.steps;have v31:=m8.foot;have v32:=m8.e;simp only[RC.ms]at v29 v30 v31 v32;rw[XY]at v31;have H9:=al O8;have K9:=al k8;clear m8 k8 O8;go_wp2_with fail;have sZ:=QX (v0:=.int .i64 s6.value) (v1:=.int .i64 s6.steps) (v2:=.slice A6 N6 c6) (v3:=.int .i64 n) K9.out;have ho:=(((aT w8 R0 0 (.int .i64 s6.value)).setCell (p:=⟨R0,1,none⟩) (fun _=>rfl) (.int .i64 s6.steps)).setCell (p:=⟨R0,2,none⟩) (fun _=>rfl) (.slice A6 N6 c6)).setCell (p:=⟨R0,3,none⟩) (fun _=>rfl) (.int .i64 n);have HO:=al (ab sZ ho);clear sZ ho;generalize ((((w8.setCell ⟨R0,0,none⟩ (.int .i64 s6.value)).setCell ⟨R0,1,none⟩ (.int .i64 s6.steps)).setCell ⟨R0,2,none⟩ (.slice A6 N6 c6)).setCell ⟨R0,3,none⟩ (.int .i64 n))=w9 at HO⊢;have hW:Only (fun k=>k=M\/k=R0) w6 w9:=(H9.out.mono (fun _ _ h=>.inl h)).trans (HO.out.2.mono (fun _ _ h=>.inr h)) (fun _ _ h=>h);refine dq (aC rfl _ _ _ _ _ _ _ rfl HO.out.1 Tryz.underlying89 rfl (by kernel_rfl)) rfl ?_;exact WH.out _ _ hW HP.out (by rw[ff HNN.out];rfl)
def Still(w0:World):(Nat->Prop)->Unit->World->Prop:=fun Z _ w=>(∀k,Z k->w0.heap.size<=k)/\Below w0.heap.size w0 w
theorem C0(w0:World):qE (Still w0):=by refine⟨fun Z r w w' G hG ⟨hZ,h⟩ ho=>⟨hZ,?_⟩,fun Z r w b ⟨hZ,h⟩ hb=>⟨fun k hk=>hk.elim (hZ k) (fun e=>by subst e;exact de h.size hb),h⟩,fun Z Z' r w hz ⟨hZ,h⟩=>⟨fun k hk=>hZ k (hz k hk),h⟩⟩;refine⟨ho.os.trans h.os,ho.tape.trans h.tape,ho.output.trans h.output,de h.size ho.size,fun k hk=>?_⟩;exact(ho.block k (cq hk h.size) (fun hg=>by have:=hZ k (hG k hg);omega)).trans (h.block k hk)
theorem Jl{w0:World}{B T L:Nat}{most n:Int}(h:CM w0 B T most n L):yD (.pointer (some ⟨B,0,none⟩)) (Still w0) (fun _ _=>none):=by
 intro Z r w k hK hk
 have hkl:1<=k.length/\k.length<=16:=by
  unfold cQ at hk;split at hk
  ·cases hk
  ·omega
 exact(ES w B T L most n k hkl.1 hkl.2 (h.below hK.2)).mono (fun e w' h=>⟨by rw[h.1];rfl,h.2⟩)
theorem Jm{w0:World}(h:fL w0):Mq (Still w0):=fun _ _ _ hK=>h.below hK.2
def PD(ok:Cl->Bool)(x:aH)(s:PS Unit):PS Unit×Int:=if x.d=1 then GP x s else jg ok (fun _ _=>none) x s
def px:List aH:=[⟨1,0,0,7,0⟩,⟨7,1,0,0,0⟩]
theorem WI:Lib.itoa 7=[55]:=by unfold Lib.itoa;rw[ff (by decide),Lib.decDigits_eq];simp[Lib.nDigits_small];rfl
theorem E6:fK 7=⟨false,-1,[55],0,0⟩:=by unfold fK;rw[WI]
theorem WJ:bg 9 px (PD (fun _=>true)) (2:Nat) 2 (gj [] ())=(⟨2,ko (ko (fun _=>0) 0 7) 1 0,2,[fK 7],0,()⟩,0):=by have h7:Good [fK 7]:=jY ⟨by decide,by decide⟩;have hn:aV [fK 7]=[fK 7]:=lK (h7 _ (by simp)).1;have hu:ko (fun _=>0) 0 7 0=7:=rfl;simp[bg,px,PD,GP,jg,rowP,gj,CY,aP,hn,hu]
theorem Mw{R:Type}(ok:Cl->Bool)(get:R->List UInt8->Option Rw)(x:aH)(s:PS R):(jg ok get x s).1.pc=s.pc:=by unfold jg rowP;simp only;split<;>rfl
theorem SZ(w:World){B T L:Nat}{most n:Int}(hB:CM w B T most n L)(ht:fL w)(c:RC)(hf:c.Fit)(ho:c.ops=px)(hb:c.b=.pointer (some ⟨B,0,none⟩))(hk:c.ok=fun _=>true)(_hl:w.heap.size<=c.lo):rJ c (Still w) (PD (fun _=>true)) 0 2:=by
 have hK:qE (Still w):=C0 w;intro i x _ hi hx;rw[ho]at hx;have hi':i=0\/i=1:=by omega
 rcases hi' with rfl|rfl
 ·simp only[px,gr,fj]at hx;subst hx;refine⟨by decide,fun s _=>⟨fun w' h'=>?_,fun _=>eE _⟩⟩;exact GQ hf hK h' ⟨1,0,0,7,0⟩ 0 (by decide) rfl (by decide)
 ·simp only[px,oj,gr,fj]at hx;subst hx;refine⟨by decide,fun s _=>⟨fun w' h'=>?_,fun _=>?_⟩⟩
  ·have:=GU (get:=fun _ _=>none) hf hK (Jm ht) (by rw[hb];exact Jl hB) h' ⟨7,1,0,0,0⟩ 1 0 (by decide) (by decide) rfl rfl;rw[hk]at this;exact this
  ·show s.pc<=(jg (fun _=>true) (fun _ _=>none) ⟨7,1,0,0,0⟩ s).1.pc;rw[Mw];exact eE _
theorem jZ(w:World)(hs:je w)(ht:fL w):Calls Tryz.prog 7 #[] w fun e w'=>e=.returned (.bool true)/\Below w.heap.size w w':=by
 have H:=al (ab hs ht);clear hs ht;go_enter Tryz.func7,Tryz.ntmps7;go_wp2_with fail;refine(BU w 4 2 (by decide) (by decide) (by decide) (by decide)).mono ?_;rintro e w1 ⟨T,rfl,DF,hT,hb1⟩;have zm:=al hb1;clear hb1;go_wp2_with fail;refine(Ja w1 T _ 4 2 hT).mono ?_;rintro e w2 ⟨B,rfl,hBl,hB,hb2⟩;have cK:=iD w2 (.cells #[.int .i64 1,.int .i64 0,.int .i64 0,.int .i64 7,.int .i64 0,.int .i64 7,.int .i64 1,.int .i64 0,.int .i64 0,.int .i64 0] 104);have kx:=an w2 (.cells #[.int .i64 1,.int .i64 0,.int .i64 0,.int .i64 7,.int .i64 0,.int .i64 7,.int .i64 1,.int .i64 0,.int .i64 0,.int .i64 0] 104);have fR:=al (ab hB (ab (zm.out.trans (hb2.mono zm.out.size)) (ab cK kx)));clear hT DF hBl hB hb2 cK kx;go_wp2_with fail;have ou:=fR.out;clear fR;generalize w2.alloc (.cells #[.int .i64 1,.int .i64 0,.int .i64 0,.int .i64 7,.int .i64 0,.int .i64 7,.int .i64 1,.int .i64 0,.int .i64 0,.int .i64 0] 104)=w3 at ou⊢;obtain⟨hB,hb2,cK,kx⟩:=ou;have hb3:=hb2.trans (cK.mono hb2.size);have AB:=hB.below cK;have ht3:=H.out.2.below hb3
 have mN:gP w3 (fun _=> ¬False) (.slice (some ⟨w2.heap.size,0,none⟩) 2 2) px:=by refine⟨_,_,_,rfl,rfl,aq _,by simp[maxLen],fun _=>⟨w2.heap.size,0,rfl,fun h=>h,fun i x hi j u hj=>?_⟩⟩;have h1:=jl (k:=5) (xs:=px.map aH.cells) (fun y hy=>by obtain⟨z,_,rfl⟩:=ep.1 hy;rfl) i x hi j u hj;rw[World.cell?,kx];have h2:(#[.int .i64 1,.int .i64 0,.int .i64 0,.int .i64 7,.int .i64 0,.int .i64 7,.int .i64 1,.int .i64 0,.int .i64 0,.int .i64 0]:Array Value).toList=(px.map aH.cells).flatten:=rfl;rw[<-h2]at h1;simpa using h1
 have hrun:=Mv (K:=Still w3) (T:=fun _=>False) (F:=fun _=>True) (act:=PD (fun _=>true)) w3 px _ (.slice none 0 0) [] B 9 (.pointer none) (fun _=>true) () mN (by decide) (H.out.1.below hb3) (Rd.nil _ _) (by decide) (by simp) (by decide) (.inl ⟨rfl,fun _=>rfl⟩) ⟨fun k hk=>hk.elim,aw _ _⟩ (C0 w3) (fun _ h=>h.elim)
  (fun c h1 h2 h3 h4 h5 h6 h7 _ _=>SZ w3 AB ht3 c h1 h2 h3 h6 h7)
 rw[show px.length=2 from rfl,WJ]at hrun;have WK:=al hrun;have ou:=al hb3;clear hB hb2 cK kx hb3 AB ht3 mN hrun;refine WK.out.mono ?_;rintro e w4 ⟨f,rfl,hf,hfl,WL,_,nv⟩;simp only[if_true];rw[show ko (ko (fun _=>(0:Int)) 0 7) 1 0 0=7 from rfl];have hn7:aV [fK 7]=[fK 7]:=lK ((jY (n:=7) ⟨by decide,by decide⟩) _ (by simp)).1;simp only[hn7]at hf;obtain⟨A4,c4,rfl,KX,Z4⟩:=hf.slice;have hb4:Below w3.heap.size w3 w4:=Only.below nv (fun _ _ h=>h);have S3:=ou.out.trans (hb4.mono ou.out.size);have hbr:=iD w4 (.cells #[.int .i64 7,.int .i64 2,.slice A4 1 c4,.int .i64 0] 89);have kr:=an w4 (.cells #[.int .i64 7,.int .i64 2,.slice A4 1 c4,.int .i64 0] 89);have hbc:=iD (w4.alloc (.cells #[.int .i64 7,.int .i64 2,.slice A4 1 c4,.int .i64 0] 89)) (.cells #[.bool false,.int .i64 (-1),.string ⟨#[55]⟩,.int .i64 0,.int .i64 0] 48);have kc:=an (w4.alloc (.cells #[.int .i64 7,.int .i64 2,.slice A4 1 c4,.int .i64 0] 89)) (.cells #[.bool false,.int .i64 (-1),.string ⟨#[55]⟩,.int .i64 0,.int .i64 0] 48);have H4:=al (ab hf (ab S3 (ab hbr (ab kr (ab hbc kc)))));simp only[iS,nx,gn];clear hf S3 hbr kr hbc kc KX Z4 hn7 hb4 ou zm WK hfl WL nv;go_wp2_with fail;have H5:=H4.out;clear H4;rw[show w4.heap.size+1=(w4.alloc (.cells #[.int .i64 7,.int .i64 2,.slice A4 1 c4,.int .i64 0] 89)).heap.size by simp];generalize w4.alloc (.cells #[.int .i64 7,.int .i64 2,.slice A4 1 c4,.int .i64 0] 89)=w5 at H5⊢;obtain⟨hf,S3,hbr,kr,hbc,kc⟩:=H5;generalize hX:w5.heap.size=X at kc⊢;generalize w5.alloc (.cells #[.bool false,.int .i64 (-1),.string ⟨#[55]⟩,.int .i64 0,.int .i64 0] 48)=w6 at hbc kc⊢;obtain⟨RR,Rp⟩: ∃y,w4.heap.size=y:=⟨_,rfl⟩;rw[Rp]at kr⊢;have hok:Ok (⟨false,-1,[55],0,0⟩:Cl):=by rw[<-E6];exact((jY (n:=7) ⟨by decide,by decide⟩) _ (by simp)).1
 have hfit:(⟨false,-1,[55],0,0⟩:Cl).fits:=by rw[<-E6];exact((jY (n:=7) ⟨by decide,by decide⟩) _ (by simp)).2
 rw[E6]at hf;have iL:=(S3.trans (hbr.mono S3.size)).trans (hbc.mono (de S3.size hbr.size));have XP:=hbr.trans (hbc.mono hbr.size);have H6:=al (ab (cd.below hf XP) (ab iL (pw hbc kr)));have HN:=al (ab (EE w6 (fun _=>True) _ [⟨false,-1,[55],0,0⟩] (iQ kc rfl trivial (by simp[maxLen])) (by simp) (fun c hc=>by rw[fl]at hc;subst hc;exact hfit)) hok);clear hf S3 hbr kr hbc kc hX Rp iL XP hok hfit;refine HN.out.1.mono ?_;intro e w7 mH;obtain⟨v7,n7,rfl,AJ⟩:=mH.named;have C3:=AJ.1;have hno:=AJ.norm (fun c hc=>by rw[fl]at hc;subst hc;exact HN.out.2);rw[lK HN.out.2]at hno;rcases hno with⟨fc,_⟩|⟨_,rfl,A5,c5,rfl,gN⟩
 ·simp at fc
 have kj:dJ w7 (fun _=>True) (.slice A5 1 c5) [⟨false,-1,[55],0,0⟩]:=cd.cP gN (di _) (by decide) (fun _ _=>trivial);have hbz:=iD w7 (.cells #[.slice A5 1 c5] 87);have kz:=an w7 (.cells #[.slice A5 1 c5] 87);have XZ:=C3.trans (hbz.mono C3.size);have H8:=al (ab (cd.below H6.out.1 XZ) (ab (cd.below kj hbz) (ab (H6.out.2.1.trans (XZ.mono H6.out.2.1.size)) (ab (pw XZ H6.out.2.2) kz))));clear mH AJ C3 gN kj hbz kz XZ HN H6;simp only[iS,nx,gn];go_upto_region 5 with fail;have H9:=H8.out;clear H8;generalize hZ:w7.heap.size=Z at H9⊢;generalize w7.alloc (.cells #[.slice A5 1 c5] 87)=w8 at H9⊢;obtain⟨hr1,hr2,ze,kr,kz⟩:=H9;have z0:=bO kz;obtain⟨⟨x0,x1,x2,x3⟩,_⟩:=ct kr;have HS:=al (ab (vv (w:=w8) ⟨7,2,[⟨false,-1,[55],0,0⟩],0⟩ ⟨7,2,[⟨false,-1,[55],0,0⟩],0⟩ hr1 hr2 (by simp)) ze);unfold nC at HS;clear hr1 hr2 ze kr kz hZ;go_wp2_with fail;refine HS.out.1.mono ?_;rintro e w9 ⟨r,hr,rfl,Ee⟩;obtain rfl:r=true:=hr.2 (by simp);have HB:=al (HS.out.2.trans (Ee.mono HS.out.2.size));clear Ee hr;go_wp2_with fail;go_ret
 exact⟨rfl,HB.out⟩
end Go.Proofs.YtagemonojdgbdaaGreatDoor
