import Derived.Test.YtagemonojdgbdaaGreatDoorF29
import Derived.Test.YtagemonojdgbdaaGreatDoorF30
import Derived.Test.YtagemonojdgbdaaGreatDoorF35
namespace Go.Proofs.YtagemonojdgbdaaGreatDoor
set_option maxRecDepth 100000
set_option maxHeartbeats 16000000
open Go.RowKit

def jf(b:Bool)(p:Prop):Prop:=b=true↔p
theorem jf.yes{p:Prop}(h:p):jf true p:=⟨fun _=>h,fun _=>rfl⟩
theorem jf.no{p:Prop}(h: ¬p):jf false p:=⟨(fun e=>by cases e),fun e=>absurd e h⟩
theorem jf.pos{p:Prop}(h:jf true p):p:=h.1 rfl
theorem jf.neg{p:Prop}(h:jf false p): ¬p:=fun e=>by have:=h.2 e;cases this
theorem jf.congr{b:Bool}{p q:Prop}(h:jf b p)(e:p↔q):jf b q:=h.trans e
theorem GK(p:Prop): ∃b:Bool,jf b p:=by
 by_cases h:p
 ·exact⟨true,.yes h⟩
 ·exact⟨false,.no h⟩
theorem dJ.below{w w':World}{F:Nat->Prop}{v:Value}{l:List Cl}(h:dJ w F v l)(hb:Below w.heap.size w w'):dJ w' F v l:=cd.below h hb
def ZE(b:Bool)(w:World)(e:Ending)(w':World):Prop:=e=.returned (.bool b)/\Below w.heap.size w w'
theorem eK.ans{p:Prop}{r:Bool}(hr:r=true↔p){w:World}{e:Ending}{w':World}(h:eK p w e w'):ZE r w e w':=by
 obtain⟨b,hb,rfl,hw⟩:=h
 have:b=r:=by cases b<;>cases r<;>simp_all
 subst this;exact⟨rfl,hw⟩
theorem ow{w:World}{F G:Nat->Prop}{v u:Value}{a b:List Cl}(r:Bool)(hr:jf r (ju a b))(ha:dJ w F v a)(hb:dJ w G u b)(Kk:a.length<=1000000)(hlb:b.length<=1000000)(ga:Good a)(gb:Good b):
  Calls Tryz.prog 32 #[.agg #[v],.agg #[u]] w (ZE r w):=(I0 w F G v u a b ha hb Kk hlb ga.proper ga.fits gb.fits).mono fun _ _ h=>h.ans hr
theorem PB{w:World}{F G:Nat->Prop}{v u:Value}{a b:List Cl}(r:Bool)(hr:jf r (a=b))(ha:dJ w F v a)(hb:dJ w G u b)(Kk:a.length<=1000000):
  Calls Tryz.prog 55 #[.agg #[v],.agg #[u]] w (ZE r w):=(Pb w F G v u a b ha hb Kk).mono fun _ _ h=>h.ans hr
def aP(ok:Cl->Bool):List Cl->List Cl->List Cl×Int
 |cl,[]=>(cl,0)
 |cl,c::l=>if 64<(aV (cl++[c])).length then(cl,23)else if ok c then aP ok (cl++[c]) l else(cl,21)
def vt(w:World)(S:Nat->Prop)(v:Value)(ok:Cl->Bool):Prop:=
 (v=.pointer none/\ ∀c,ok c=true)\/ ∃B fv f,v=.pointer (some ⟨B,0,none⟩)/\ ¬S B/\w.cell? ⟨B,0,none⟩=some fv/\dJ w (fun k=> ¬S k) fv f/\f.length<=1000/\Good f/\ ∀c,Ok c->jf (ok c) (ju [c] f)
theorem vt.only{w w':World}{S T:Nat->Prop}{v:Value}{ok:Cl->Bool}(h:vt w S v ok)(ho:Only T w w')(hT: ∀k,T k->S k):vt w' S v ok:=by
 rcases h with h|⟨B,fv,f,h1,h2,h3,h4,h5⟩
 ·exact .inl h
 ·exact .inr ⟨B,fv,f,h1,h2,ho.cell h3 (fun h=>h2 (hT _ h)),h4.only ho (fun k hk h=>hk (hT k h)),h5⟩
def jc(w:World)(S:Nat->Prop)(v:Value)(cl:List Cl):Prop:=dJ w (fun k=> ¬S k) v (aV cl)/\(aV cl).length<=64/\Good cl
theorem jc.only{w w':World}{S T:Nat->Prop}{v:Value}{cl:List Cl}(h:jc w S v cl)(ho:Only T w w')(hT: ∀k,T k->S k):jc w' S v cl:=
 ⟨h.1.only ho (fun k hk h=>hk (hT k h)),h.2⟩
theorem gJ{c:Cl}(h:Ok c)(hf:c.fits):Good [c]:=fun x hx=>by
 rw[fl]at hx;subst hx;exact⟨h,hf⟩
def Mm(w:World)(S:Nat->Prop)(M:Nat)(s:MS)(ok:Cl->Bool)(cl l:List Cl)(k:Nat)(wr:World):Prop:=
 ∃f' pR,aD wr M {s with foot:=f'}/\jc wr S f' pR/\Only (fun k=>k=M) w wr/\aP ok cl l=aP ok pR (l.drop k)
def SG(w:World)(S:Nat->Prop)(M:Nat)(s:MS)(ok:Cl->Bool)(cl l:List Cl)(e:Ending)(w':World):Prop:=
 ∃f',e=.returned (.int .i64 (aP ok cl l).2)/\aD w' M {s with foot:=f'}/\jc w' S f' (aP ok cl l).1/\Only (fun k=>k=M) w w'
theorem mF{l:List Cl}{k:Nat}{x:Cl}(hlt:k<l.length)(hx:l[k]?=some x):l.drop k=x::l.drop (k+1):=by rw[List.drop_eq_getElem_cons hlt,(List.getElem?_eq_some_iff.1 hx).2]
theorem aD.QV{w:World}{M:Nat}{s:MS}(h:aD w M s)(n:Nat):aD (w.drewN n) M s:=h
theorem jc.bp{w:World}{S:Nat->Prop}{v:Value}{cl:List Cl}{MM:Nat}(h:jc w S v cl)(hM:S MM)(n i:Nat){u:Value}:jc ((w.drewN n).setCell ⟨MM,i,none⟩ u) S v cl:=
 h.only (kH w n MM i u) (fun k hk=>by subst hk;exact hM)
theorem GL(w:World)(o1 o2:Obj):((w.alloc o1).alloc o2).heap[w.heap.size+1]?=some o2:=by have:=an (w.alloc o1) o2;rwa[show(w.alloc o1).heap.size=w.heap.size+1 by simp]at this
theorem yC(w:World)(o1 o2:Obj):Below w.heap.size w ((w.alloc o1).alloc o2):=((aw _ _).alloc (aq _) _).alloc (by simp) _
theorem Mn(w:World)(S:Nat->Prop)(M:Nat)(s:MS)(ok:Cl->Bool)(cl l:List Cl)(v:Value)(h:aD w M s)(hSM:S M)(yB: ∀k,S k->k<w.heap.size)(hf:jc w S s.foot cl)(hm:vt w S s.may ok)(hl:dJ w (fun k=> ¬S k) v l)(_aam:l.length<=1000)(hg:Good l):
  Calls Tryz.prog 148 #[.pointer (some ⟨M,0,none⟩),v] w (SG w S M s ok cl l):=by
 obtain⟨A,c,rfl,hnc,hcm⟩:=hl.slice;unfold maxLen at hcm;have H0:=al (show Mm w S M s ok cl l 0 w from⟨s.foot,cl,h,hf,oB _ _,rfl⟩);have HG:=al (ab hSM (ab yB (ab hm (ab hl hg))));clear h hSM yB hf hm hl hg;go_enter Tryz.func148,Tryz.ntmps148;go_wp2_with fail
 go_loopw [12] (fun i wr=> ∃k:Nat,k<=l.length/\i=.int .i64 (k:Int)/\Mm w S M s ok cl l k wr) (fun i _=>l.length-(intOf i).toNat)
 case atStart=>exact⟨0,dj _,rfl,H0.out⟩
 case round=>
  obtain⟨k,hk,rfl,hR⟩:=hrel;by_cases hlt:k<l.length
  ·obtain⟨x,hx⟩: ∃x,l[k]?=some x:=⟨_,ao hlt⟩;have HR:=al (ab hR hx);obtain⟨f1,pR,r1,r2,r3,r4⟩:=hR;have xz:=HG.out.2.2.2.1.only r3 (fun k hk h=>hk (by subst h;exact HG.out.1));obtain⟨b,o,rfl,hF,q0,q1,q2,q3,q4⟩:=dJ.at_ xz hx;have ZF:=HG.out.2.2.2.2 x (dd hx);have HX:=al (ab ZF.1 ZF.2);clear hx xz ZF r1 r2 r3 r4;obtain⟨xw,xc,xk,xl,xh⟩:=x;simp only at q0 q1 q2 q3 q4;have k0:=GL wr (.cells #[.bool xw,.int .i64 xc,.string ⟨xk.toArray⟩,.int .i64 xl,.int .i64 xh] 48) (.cells #[.bool xw,.int .i64 xc,.string ⟨xk.toArray⟩,.int .i64 xl,.int .i64 xh] 48);have b0:=yC wr (.cells #[.bool xw,.int .i64 xc,.string ⟨xk.toArray⟩,.int .i64 xl,.int .i64 xh] 48) (.cells #[.bool xw,.int .i64 xc,.string ⟨xk.toArray⟩,.int .i64 xl,.int .i64 xh] 48);have HB0:=al (ab k0 b0);clear k0 b0;go_wp2_with fail;have zm:=HB0.out;clear HB0;generalize (wr.alloc (.cells #[.bool xw,.int .i64 xc,.string ⟨xk.toArray⟩,.int .i64 xl,.int .i64 xh] 48)).alloc (.cells #[.bool xw,.int .i64 xc,.string ⟨xk.toArray⟩,.int .i64 xl,.int .i64 xh] 48)=W0 at zm⊢;obtain⟨k0,b0⟩:=zm;refine(EE _ (fun _=>True) _ [⟨xw,xc,xk,xl,xh⟩] (iQ k0 rfl trivial (by simp[maxLen])) (by simp) (fun c hc=>by rw[fl]at hc;subst hc;exact HX.out.2)).mono ?_;intro e w2 mH;obtain⟨v2,n2,rfl,AJ⟩:=mH.named;have hb2:=b0.trans (AJ.1.mono b0.size);have hno:=AJ.norm (fun c hc=>by rw[fl]at hc;subst hc;exact HX.out.1);rw[lK HX.out.1]at hno;rcases hno with⟨fc,_⟩|⟨_,rfl,A2,c2,rfl,AK⟩
   ·simp at fc
   obtain⟨⟨f1,pR,r1,r2,r3,r4⟩,hx⟩:=HR.out;have hwr: ∀k,S k->k<wr.heap.size:=fun k hk=>cq (HG.out.2.1 k hk) r3.size
   have RD2:dJ w2 (fun k=> ¬S k) (.slice A2 1 c2) [⟨xw,xc,xk,xl,xh⟩]:=cd.cP AK (di _) (by decide) (fun g hg hs=>by
    have h1:=(AK.lt g hg).1;have h2:=hwr g hs;have h3:=b0.size
    omega)
   have m2:=r1.below hb2;have ZG:=r2.only (qe hb2) (fun _ h=>h.elim);obtain⟨A1,c1,rfl,xV,hf2⟩:=ZG.1.slice;have c31:=m2.foot;have c28:=m2.may;have lM:=m2.lt;simp only at c31 c28;have H2:=al (ab RD2 (ab m2 (ab ZG (ab (r3.trans (oy hb2 _) (fun _ _ h=>h)) (ab r4 hx)))));clear mH AJ hb2 AK r1 r2 r3 r4 hx RD2 m2 ZG q0 q1 q2 q3 q4 hwr;obtain⟨N1,ZH⟩: ∃N,(aV pR).length=N:=⟨_,rfl⟩;rw[ZH]at c31 xV;have sM:=al ZH;clear ZH
   -- BEGIN ROUND
   have hlt':k<l.length:=hlt;have k9:=GL w2 (.cells #[.slice A2 1 c2] 87) (.cells #[.slice A1 N1 c1] 87);have b9:=yC w2 (.cells #[.slice A2 1 c2] 87) (.cells #[.slice A1 N1 c1] 87);have k7:=(iD (w2.alloc (.cells #[.slice A2 1 c2] 87)) (.cells #[.slice A1 N1 c1] 87)).block w2.heap.size (by simp);rw[heap_alloc_new w2 (.cells #[.slice A2 1 c2] 87)]at k7;have XT:=al (ab k9 (ab b9 k7));clear k9 b9 k7;go_wp2_with fail;have HB8:=XT.out;clear XT;generalize (w2.alloc (.cells #[.slice A2 1 c2] 87)).alloc (.cells #[.slice A1 N1 c1] 87)=W3 at HB8⊢;obtain⟨k9,b9,k7⟩:=HB8;have m3:=H2.out.2.1.below b9;have f3:=H2.out.2.2.1.only (qe b9) (fun _ h=>h.elim);have o3:=H2.out.2.2.2.1.trans (oy b9 (fun k=>k=M)) (fun _ _ h=>h);have r3:=H2.out.1.below b9;rw[sM.out]at m3 f3;have SH:Good pR:=f3.2.2;obtain⟨r,hr⟩:=GK (ju [(⟨xw,xc,xk,xl,xh⟩:Cl)] (aV pR));have Ws:([(⟨xw,xc,xk,xl,xh⟩:Cl)]).length<=1000000:=by simp
   refine(ow r hr r3 f3.1 Ws (by have:=f3.2.1;omega) (gJ HX.out.1 HX.out.2) (ik SH)).mono ?_;rintro e w5 ⟨rfl,gq⟩;have mK:=m3.below gq;have GM:=f3.only (qe gq) (fun _ h=>h.elim);have jR:=o3.trans (oy gq (fun k=>k=M)) (fun _ _ h=>h);have Jh:=pw gq k7;have GN:=pw gq k9;have r5:=r3.below gq;have Wt:=b9.trans (gq.mono b9.size);have Ji:=al Wt;clear m3 f3 o3 k7 k9 r3 b9 gq Wt
   cases r with
   |true=>
    have LM:=zQ SH.ok (gJ HX.out.1 HX.out.2).ok (by rw[lK HX.out.1];exact hr.pos);have HL:=al (show ¬64<(aV (pR++[⟨xw,xc,xk,xl,xh⟩])).length by rw[LM];have:=GM.2.1;omega);have hfo:=GM
    replace GM:jc w5 S (.slice A1 N1 c1) (pR++[⟨xw,xc,xk,xl,xh⟩]):=⟨by rw[LM];exact GM.1,by rw[LM];exact GM.2.1,SH.append (gJ HX.out.1 HX.out.2)⟩
    have RW:=al r5;clear LM hr SH r5;have HT:=al (ab mK (ab GM (ab jR (ab hfo (ab Jh GN)))));have d7:=bO Jh;have d9:=bO GN;have Mo:=mK.may;have f31:=mK.free 31;have SI:=mK.foot;have SJ:=mK.lt;have XU:=aO Jh;have XV:=aO GN;have n7: ¬w2.heap.size=M:=by omega
    have n9: ¬w2.heap.size+1=M:=by omega
    simp only at Mo SI;have rI:=HG.out.2.2.1.only jR (fun k hk=>by subst hk;exact HG.out.1);clear mK GM jR hfo Jh GN;rcases rI with⟨hv,hall⟩|⟨B,fv,f,hv,hB,SK,hBr,hBl,hBg,Wu⟩
    ·rw[hv]at Mo;have HV:=al (ab hv hall);clear hv hall;go_wp2_with fail;go_quiet(fail);go_wp2_with fail;go_roundw
     case rel=>
      refine⟨k+1,by omega,by go_num,.slice A1 N1 c1,pR++[⟨xw,xc,xk,xl,xh⟩],(HT.out.1.QV _).tv _,HT.out.2.1.bp (MM:=M) HG.out.1 _ _,?_,?_⟩
      ·exact(HT.out.2.2.1.drewN _).setCell (p:=⟨M,31,none⟩) (fun _=>rfl) _
      ·rw[H2.out.2.2.2.2.1,mF hlt' H2.out.2.2.2.2.2,aP,ff HL.out,fi (HV.out.2 _)]
     case measure=>simp[intOf];omega
    ·rw[hv]at Mo;obtain⟨A6,c6,rfl,_⟩:=hBr.slice;have lB:=aE _ _ SK;have hBM: ¬B=M:=fun e=>hB (by rw[e];exact HG.out.1);have HV:=al (ab hv (ab hBr (ab hBl (ab hBg (Wu _ HX.out.1)))));clear hv hB hBr hBl hBg Wu;obtain⟨q,hq⟩: ∃q,ok ⟨xw,xc,xk,xl,xh⟩=q:=⟨_,rfl⟩;have HQ:=al (ab (hq▸HV.out.2.2.2.2) hq);clear hq;go_wp2_with fail
     go_region_held3 (fun W=>W.cell? ⟨w2.heap.size,0,none⟩=some (.slice A2 1 c2)/\W.cell? ⟨M,28,none⟩=some (.pointer (some ⟨B,0,none⟩))/\W.cell? ⟨B,0,none⟩=some (.slice A6 f.length c6)) (first|exact⟨by assumption,by assumption,by assumption⟩|go_keep) (first|(go_at_call 32;refine(ow q HQ.out.1 (RW.out.below ((aw _ _).drew)) (HV.out.2.1.below ((aw _ _).drew)) (by simp) (by have:=HV.out.2.2.1;omega) (gJ HX.out.1 HX.out.2) HV.out.2.2.2.1).mono ?_;rintro e w6 ⟨rfl,iL⟩;have nB:Below w5.heap.size w5 w6:=mQ iL;have d7':=(nB.cell (p:=⟨w2.heap.size,0,none⟩) XU).trans d7;have d9':=(nB.cell (p:=⟨w2.heap.size+1,0,none⟩) XV).trans d9;have ZI:=(nB.cell (p:=⟨M,28,none⟩) SJ).trans Mo;have ZJ:=(nB.cell (p:=⟨M,31,none⟩) SJ).trans SI;have ZK:=(nB.frozen (p:=⟨M,31,none⟩) SJ).trans f31;have ZL:=(nB.cell (p:=⟨B,0,none⟩) lB).trans SK;have H6:=al nB;clear iL nB))
     clear d7 d9 Mo SI f31 SK
     cases q with
     |false=>
      go_wp2_with fail;go_ret
      have hE:aP ok cl l=(pR,21):=by rw[H2.out.2.2.2.2.1,mF hlt' H2.out.2.2.2.2.2,aP,ff HL.out,HQ.out.2];rfl
      have Gk:=qe H6.out;exact⟨.slice A1 N1 c1,by rw[hE];rfl,HT.out.1.below H6.out,by rw[hE];exact HT.out.2.2.2.1.only Gk (fun _ h=>h.elim),HT.out.2.2.1.trans (oy H6.out (fun k=>k=M)) (fun _ _ h=>h)⟩
     |true=>
      go_wp2_with fail;go_roundw
      case rel=>
       refine⟨k+1,by omega,by go_num,.slice A1 N1 c1,pR++[⟨xw,xc,xk,xl,xh⟩],(HT.out.1.below H6.out).tv _,?_,?_,?_⟩
       ·exact(HT.out.2.1.only (qe H6.out) (fun _ h=>h.elim)).only (aT w6 M 31 _) (fun k hk=>by subst hk;exact HG.out.1)
       ·exact(HT.out.2.2.1.trans (oy H6.out (fun k=>k=M)) (fun _ _ h=>h)).setCell (p:=⟨M,31,none⟩) (fun _=>rfl) _
       ·rw[H2.out.2.2.2.2.1,mF hlt' H2.out.2.2.2.2.2,aP,ff HL.out,HQ.out.2];rfl
      case measure=>simp[intOf];omega
   |false=>
    have hwn:=hr.neg;have HW:=al (ab mK (ab GM (ab jR (ab Jh (ab GN r5)))));have d7:=bO Jh;have d9:=bO GN;have d9f:=fq GN;have XU:=aO Jh;have XV:=aO GN;have HC:=al (Pv w5 (fun k=> ¬S k) (fun k=> ¬S k) _ _ (aV pR) [⟨xw,xc,xk,xl,xh⟩] GM.1 r5 (by have:=GM.2.1;omega) (by simp) (ik SH).fits (gJ HX.out.1 HX.out.2).fits);have ZM:=al SH;clear mK GM jR Jh GN r5 hr hwn SH;go_wp2_with fail;refine HC.out.mono ?_;intro e w8 mH;obtain⟨v8,n8,rfl,AJ⟩:=mH.named;have ze:=AJ.1;have hno:=AJ.norm (fun c hc=>(dy.1 hc).elim (fun h=>(ik ZM.out).ok c h) (fun h=>(gJ HX.out.1 HX.out.2).ok c h));rw[CJ ZM.out (gJ HX.out.1 HX.out.2).ok]at hno;have k87:=pw ze HW.out.2.2.2.1;have XW:=pw ze HW.out.2.2.2.2.1;have d89:=bO XW;have ZN:=fq XW;have Wv:=al (ab ze (ab k87 XW));clear mH AJ ze k87 XW d7 d9 d9f HC;rcases hno with⟨fc,rfl,rfl⟩|⟨hshort,rfl,A7,c7,rfl,AP⟩
    ·have HL:=al fc;clear fc;go_wp2_with fail;go_ret
     have hE:aP ok cl l=(pR,23):=by rw[H2.out.2.2.2.2.1,mF hlt' H2.out.2.2.2.2.2,aP,fi HL.out]
     have GD:Below w2.heap.size w2 (w8.setCell ⟨w2.heap.size+1,0,none⟩ (.slice none 0 0)):=(Ji.out.trans (Wv.out.1.mono Ji.out.size)).setCell (p:=⟨w2.heap.size+1,0,none⟩) (Nat.le_succ _) _;have hm9:=H2.out.2.1.below GD;rw[sM.out]at hm9;have TZ:=H2.out.2.2.1.only (qe GD) (fun _ h=>h.elim);rw[sM.out]at TZ;exact⟨.slice A1 N1 c1,by rw[hE];rfl,hm9,by rw[hE];exact TZ,H2.out.2.2.2.1.trans (oy GD (fun k=>k=M)) (fun _ _ h=>h)⟩
    ·have GD:Below w2.heap.size w2 (w8.setCell ⟨w2.heap.size+1,0,none⟩ (.slice A7 (aV (pR++[⟨xw,xc,xk,xl,xh⟩])).length c7)):=(Ji.out.trans (Wv.out.1.mono Ji.out.size)).setCell (p:=⟨w2.heap.size+1,0,none⟩) (Nat.le_succ _) _
     have hS7:dJ w8 (fun k=> ¬S k) (.slice A7 (aV (pR++[⟨xw,xc,xk,xl,xh⟩])).length c7) (aV (pR++[⟨xw,xc,xk,xl,xh⟩])):=cd.cP AP (di _) (by decide) (fun g hg hs=>by
      have h1:=(AP.lt g hg).1;have h2:=HG.out.2.1 g hs;have h3:=H2.out.2.2.2.1.size;have h4:=Ji.out.size
      omega)
     have Ww:(Value.slice A7 (aV (pR++[⟨xw,xc,xk,xl,xh⟩])).length c7).ownBlock≠some (w2.heap.size+1):=eD AP Wv.out.2.2 (by decide)
     have hS8:jc (w8.setCell ⟨w2.heap.size+1,0,none⟩ (.slice A7 (aV (pR++[⟨xw,xc,xk,xl,xh⟩])).length c7)) S (.slice A7 (aV (pR++[⟨xw,xc,xk,xl,xh⟩])).length c7) (pR++[⟨xw,xc,xk,xl,xh⟩]):=by
      refine⟨?_,hshort,ZM.out.append (gJ HX.out.1 HX.out.2)⟩;have ho:=bu AP (aT w8 (w2.heap.size+1) 0 (.slice A7 (aV (pR++[⟨xw,xc,xk,xl,xh⟩])).length c7)) (fun g hg e=>by subst e;exact Ww hg)
      exact cd.cP ho (di _) (by decide) (fun g hg hs=>by
       have h1:=(AP.lt g hg).1;have h2:=HG.out.2.1 g hs;have h3:=H2.out.2.2.2.1.size;have h4:=Ji.out.size
       omega)
     have HL:=al (show ¬64<(aV (pR++[⟨xw,xc,xk,xl,xh⟩])).length by omega);have k97:=(heap_setCell_other w8 ⟨w2.heap.size+1,0,none⟩ w2.heap.size (.slice A7 (aV (pR++[⟨xw,xc,xk,xl,xh⟩])).length c7) (by simp)).trans Wv.out.2.1;have k99:=dr w8 (w2.heap.size+1) 0 _ _ (.slice A7 (aV (pR++[⟨xw,xc,xk,xl,xh⟩])).length c7) Wv.out.2.2;have ZO:=al (ab GD (ab hS8 (ab k97 k99)));obtain⟨N7,ZP⟩: ∃N,(aV (pR++[⟨xw,xc,xk,xl,xh⟩])).length=N:=⟨_,rfl⟩;have HN7:=al ZP;clear GD hS7 Ww hS8 k97 k99 AP hshort;rw[ZP]at ZO⊢;clear ZP;go_upto_region 12 with fail;have HF9:=ZO.out;clear ZO;generalize w8.setCell ⟨w2.heap.size+1,0,none⟩ (.slice A7 N7 c7)=w9 at HF9⊢;obtain⟨GD,GM,Jh,GN⟩:=HF9;have mK:=H2.out.2.1.below GD;rw[sM.out]at mK;have hfo:=H2.out.2.2.1.only (qe GD) (fun _ h=>h.elim);rw[sM.out]at hfo;have jR:=H2.out.2.2.2.1.trans (oy GD (fun k=>k=M)) (fun _ _ h=>h);have RW:=al (H2.out.1.below GD);clear GD d89 ZN;have HT:=al (ab mK (ab GM (ab jR (ab hfo (ab Jh GN)))));have d7:=bO Jh;have d9:=bO GN;have Mo:=mK.may;have f31:=mK.free 31;have SI:=mK.foot;have SJ:=mK.lt;have XU:=aO Jh;have XV:=aO GN;have n7: ¬w2.heap.size=M:=by omega
     have n9: ¬w2.heap.size+1=M:=by omega
     simp only at Mo SI;have rI:=HG.out.2.2.1.only jR (fun k hk=>by subst hk;exact HG.out.1);clear mK GM jR hfo Jh GN;rcases rI with⟨hv,hall⟩|⟨B,fv,f,hv,hB,SK,hBr,hBl,hBg,Wu⟩
     ·rw[hv]at Mo;have HV:=al (ab hv hall);clear hv hall;go_wp2_with fail;go_quiet(fail);go_wp2_with fail;go_roundw
      case rel=>
       refine⟨k+1,by omega,by go_num,.slice A7 N7 c7,pR++[⟨xw,xc,xk,xl,xh⟩],(HT.out.1.QV _).tv _,HT.out.2.1.bp (MM:=M) HG.out.1 _ _,?_,?_⟩
       ·exact(HT.out.2.2.1.drewN _).setCell (p:=⟨M,31,none⟩) (fun _=>rfl) _
       ·rw[H2.out.2.2.2.2.1,mF hlt' H2.out.2.2.2.2.2,aP,ff HL.out,fi (HV.out.2 _)]
      case measure=>simp[intOf];omega
     ·rw[hv]at Mo;obtain⟨A6,c6,rfl,_⟩:=hBr.slice;have lB:=aE _ _ SK;have hBM: ¬B=M:=fun e=>hB (by rw[e];exact HG.out.1);have HV:=al (ab hv (ab hBr (ab hBl (ab hBg (Wu _ HX.out.1)))));clear hv hB hBr hBl hBg Wu;obtain⟨q,hq⟩: ∃q,ok ⟨xw,xc,xk,xl,xh⟩=q:=⟨_,rfl⟩;have HQ:=al (ab (hq▸HV.out.2.2.2.2) hq);clear hq;go_wp2_with fail
      go_region_held3 (fun W=>W.cell? ⟨w2.heap.size,0,none⟩=some (.slice A2 1 c2)/\W.cell? ⟨M,28,none⟩=some (.pointer (some ⟨B,0,none⟩))/\W.cell? ⟨B,0,none⟩=some (.slice A6 f.length c6)) (first|exact⟨by assumption,by assumption,by assumption⟩|go_keep) (first|(go_at_call 32;refine(ow q HQ.out.1 (RW.out.below ((aw _ _).drew)) (HV.out.2.1.below ((aw _ _).drew)) (by simp) (by have:=HV.out.2.2.1;omega) (gJ HX.out.1 HX.out.2) HV.out.2.2.2.1).mono ?_;rintro e w6 ⟨rfl,iL⟩;have nB:Below w9.heap.size w9 w6:=mQ iL;have d7':=(nB.cell (p:=⟨w2.heap.size,0,none⟩) XU).trans d7;have d9':=(nB.cell (p:=⟨w2.heap.size+1,0,none⟩) XV).trans d9;have ZI:=(nB.cell (p:=⟨M,28,none⟩) SJ).trans Mo;have ZJ:=(nB.cell (p:=⟨M,31,none⟩) SJ).trans SI;have ZK:=(nB.frozen (p:=⟨M,31,none⟩) SJ).trans f31;have ZL:=(nB.cell (p:=⟨B,0,none⟩) lB).trans SK;have H6:=al nB;clear iL nB))
      clear d7 d9 Mo SI f31 SK
      cases q with
      |false=>
       go_wp2_with fail;go_ret
       have hE:aP ok cl l=(pR,21):=by rw[H2.out.2.2.2.2.1,mF hlt' H2.out.2.2.2.2.2,aP,ff HL.out,HQ.out.2];rfl
       have Gk:=qe H6.out;exact⟨.slice A1 N1 c1,by rw[hE];rfl,HT.out.1.below H6.out,by rw[hE];exact HT.out.2.2.2.1.only Gk (fun _ h=>h.elim),HT.out.2.2.1.trans (oy H6.out (fun k=>k=M)) (fun _ _ h=>h)⟩
      |true=>
       go_wp2_with fail;go_roundw
       case rel=>
        refine⟨k+1,by omega,by go_num,.slice A7 N7 c7,pR++[⟨xw,xc,xk,xl,xh⟩],(HT.out.1.below H6.out).tv _,?_,?_,?_⟩
        ·exact(HT.out.2.1.only (qe H6.out) (fun _ h=>h.elim)).only (aT w6 M 31 _) (fun k hk=>by subst hk;exact HG.out.1)
        ·exact(HT.out.2.2.1.trans (oy H6.out (fun k=>k=M)) (fun _ _ h=>h)).setCell (p:=⟨M,31,none⟩) (fun _=>rfl) _
        ·rw[H2.out.2.2.2.2.1,mF hlt' H2.out.2.2.2.2.2,aP,ff HL.out,HQ.out.2];rfl
       case measure=>simp[intOf];omega
   -- END ROUND
  ·obtain rfl:k=l.length:=by omega
   obtain⟨f1,pR,r1,r2,r3,r4⟩:=hR;rw[List.drop_length]at r4;have HR:=al (ab r1 (ab r2 (ab r3 r4)));clear r1 r2 r3 r4;go_wp2_with fail;go_ret
   obtain⟨r1,r2,r3,r4⟩:=HR.out;exact⟨f1,by rw[r4];rfl,r1,by rw[r4];exact r2,r3⟩
theorem EY(w:World)(o1 o2:Obj):Below w.heap.size w ((w.alloc o1).alloc o2):=((aw _ _).alloc (aq _) _).alloc (by simp) _
structure Res where
 value:Int
 steps:Int
 cl:List Cl
 e:Int
 deriving DecidableEq
def nC(r:Res)(f:Value):Array Value:= #[.int .i64 r.value,.int .i64 r.steps,f,.int .i64 r.e]
theorem vv{w:World}{F G:Nat->Prop}{v u:Value}(a b:Res)(ha:dJ w F v a.cl)(hb:dJ w G u b.cl)(hl:a.cl.length<=1000000):
  Calls Tryz.prog 31 #[.agg (nC a v),.agg (nC b u)] w (eK (a=b) w):=by
 obtain⟨v1,s1,la,e1⟩:=a;obtain⟨v2,s2,lb,e2⟩:=b;simp only at ha hb hl;obtain⟨A,c,rfl,hnc,hcm⟩:=ha.slice;obtain⟨B,d,rfl,hnd,XR⟩:=hb.slice;unfold nC;simp only;have hb0:=EY w (.cells #[.int .i64 v1,.int .i64 s1,.slice A la.length c,.int .i64 e1] 89) (.cells #[.int .i64 v2,.int .i64 s2,.slice B lb.length d,.int .i64 e2] 89);have H:=al (ab (cd.below ha hb0) (ab (cd.below hb hb0) hb0));clear ha hb hb0;by_cases h1:v1=v2
 ·subst h1;by_cases h2:s1=s2
  ·subst h2;by_cases h3:e1=e2
   ·subst h3;obtain⟨r,hr⟩:=GK (la=lb);have HS:=al (ab (PB r hr H.out.1 H.out.2.1 hl) hr);clear hr;go_enter Tryz.func31,Tryz.ntmps31;go_wp2_with fail;refine HS.out.1.mono ?_;rintro e w2 ⟨rfl,hb2⟩;have HB:=al (H.out.2.2.trans (hb2.mono H.out.2.2.size));clear hb2;go_wp2_with fail;go_ret
    exact⟨r,(show jf r (la=lb)from HS.out.2).congr (by simp),rfl,HB.out⟩
   ·go_enter Tryz.func31,Tryz.ntmps31;go_wp2_with fail;go_ret
    exact eK.no (fun e=>h3 (by injection e)) H.out.2.2
  ·go_enter Tryz.func31,Tryz.ntmps31;go_wp2_with fail;go_ret
   exact eK.no (fun e=>h2 (by injection e)) H.out.2.2
 ·go_enter Tryz.func31,Tryz.ntmps31;go_wp2_with fail;go_ret
  exact eK.no (fun e=>h1 (by injection e)) H.out.2.2
def XX(l:List Int):List Value:=l.map (Value.int .i64)
def SL(n:Int):Prop:= -9223372036854775808<=n/\n<=9223372036854775807
section
open Go.ChangeShapes Go.WideShapes Go.ChangeAt Go.RowKit Go.Deep
theorem Tryz.CQ:Tryz.prog.cellsOf 104=5:=by kernel_rfl
def SM(n:Int):List Value:=[.int .i64 n]
theorem Jj{W:World}{F:Nat->Prop}{v:Value}{l:List Int}(h:cd 1 W F v (l.map SM)):Rd W F v (XX l):=by
 obtain⟨A,n,c,hv,hl,hnc,hcm,hx⟩:=h;refine⟨A,n,c,hv,by simpa[XX]using hl,hnc,hcm,fun h0=>?_⟩;obtain⟨b,o,hA,hF,hc⟩:=hx h0;refine⟨b,o,hA,hF,fun i x hi=>?_⟩
 obtain⟨y,hy,rfl⟩: ∃y,l[i]?=some y/\Value.int .i64 y=x:=by
  unfold XX at hi;rw[oe]at hi
  cases hy:l[i]? with
  |none=>rw[hy]at hi;cases hi
  |some y=>rw[hy]at hi;injection hi with hi;exact⟨y,rfl,hi⟩
 simpa using hc i (SM y) (by simp[hy]) 0 _ rfl
theorem Ad{H:Type}{enc:TypeId×Value->H}{W:World}{fuel:Nat}{cs:List Value}{x:DataW H×List MemPlace}(h:DataW.trod enc Tryz.prog W 0 (fun _=>true) true fuel 104 cs=some x):
  ∃o:aH,cs=o.cells/\o.fits:=by
 obtain⟨xs,n,_,_,hlen,hxl,hf⟩:=DataW.trod_struct Tryz.underlying104 h;rw[Tryz.CQ]at hlen
 match cs,hlen with
 |[v0,v1,v2,v3,v4],_=>have hx: ∀i,i<5-> ∃y,xs[i]?=some y:=fun i hi=>⟨_,ao (by rw[hxl];exact hi)⟩;obtain⟨y0,e0⟩:=hx 0 (by decide);have f0:=hf 0 _ rfl;rw[e0]at f0;change DataW.trod enc Tryz.prog W 0 (fun _=>true) true n 3 (List.take (Tryz.prog.cellsOf 3) (List.drop 0 [v0,v1,v2,v3,v4]))=_ at f0;rw[Tryz.mE]at f0;obtain⟨y1,e1⟩:=hx 1 (by decide);have f1:=hf 1 _ rfl;rw[e1]at f1;change DataW.trod enc Tryz.prog W 0 (fun _=>true) true n 3 (List.take (Tryz.prog.cellsOf 3) (List.drop 1 [v0,v1,v2,v3,v4]))=_ at f1;rw[Tryz.mE]at f1;obtain⟨y2,e2⟩:=hx 2 (by decide);have f2:=hf 2 _ rfl;rw[e2]at f2;change DataW.trod enc Tryz.prog W 0 (fun _=>true) true n 3 (List.take (Tryz.prog.cellsOf 3) (List.drop 2 [v0,v1,v2,v3,v4]))=_ at f2;rw[Tryz.mE]at f2;obtain⟨y3,e3⟩:=hx 3 (by decide);have f3:=hf 3 _ rfl;rw[e3]at f3;change DataW.trod enc Tryz.prog W 0 (fun _=>true) true n 3 (List.take (Tryz.prog.cellsOf 3) (List.drop 3 [v0,v1,v2,v3,v4]))=_ at f3;rw[Tryz.mE]at f3;obtain⟨y4,e4⟩:=hx 4 (by decide);have f4:=hf 4 _ rfl;rw[e4]at f4;change DataW.trod enc Tryz.prog W 0 (fun _=>true) true n 3 (List.take (Tryz.prog.cellsOf 3) (List.drop 4 [v0,v1,v2,v3,v4]))=_ at f4;rw[Tryz.mE]at f4;obtain⟨n0,h0,_,w0⟩:=DataW.trod_int Tryz.underlying3 f0;obtain⟨n1,h1,_,w1⟩:=DataW.trod_int Tryz.underlying3 f1;obtain⟨n2,h2,_,w2⟩:=DataW.trod_int Tryz.underlying3 f2;obtain⟨n3,h3,_,w3⟩:=DataW.trod_int Tryz.underlying3 f3;obtain⟨n4,h4,_,w4⟩:=DataW.trod_int Tryz.underlying3 f4;simp at h0 h1 h2 h3 h4;subst h0 h1 h2 h3 h4;exact⟨⟨n0,n1,n2,n3,n4⟩,rfl,bounds_i64 w0,bounds_i64 w1,bounds_i64 w2,bounds_i64 w3,bounds_i64 w4⟩
theorem Ae{H:Type}{enc:TypeId×Value->H}{W:World}{v:Value}{d:DataW H}{p:List MemPlace}{base:Nat}(hval:Value.okWide Tryz.prog W .any base 50 v)
  (h:DataW.Trod enc Tryz.prog W 0 (fun _=>true) true 50 v d p): ∃l:List aH,gP W (fun _=>True) v l/\ ∀x∈l,x.fits:=by
 obtain⟨a0,aaO,aaP,rfl⟩:=okWide_slice Tryz.underlying50 hval;obtain⟨fuel,hf⟩:=h;obtain⟨u,l,h1,r,g⟩:=ll 50 104 Tryz.underlying50 5 (by decide) Tryz.CQ aH.cells (fun _=>rfl) aH.fits ⟨0,0,0,0,0⟩ (fun _ _ _ hh=>Ad hh) hf;simp[Value.cells]at h1;subst h1;exact⟨l,r,g⟩
end
section
open Go.ChangeShapes Go.WideShapes Go.ChangeAt Go.RowKit Go.Deep
theorem Tryz.EZ:Tryz.prog.cellsOf 84=2:=by kernel_rfl
theorem Tryz.E0:Tryz.prog.cellsOf 51=1:=by kernel_rfl
theorem Jk{H:Type}{enc:TypeId×Value->H}{W:World}{v:Value}{d:DataW H}{p:List MemPlace}{base:Nat}(hval:Value.okWide Tryz.prog W .any base 84 v)
  (h:DataW.Trod enc Tryz.prog W 0 (fun _=>true) true 84 v d p): ∃(u:Value) (xs:List Int) (fuel:Int),v=.agg #[u,.int .i64 fuel]/\Rd W (fun _=>True) u (XX xs)/\(∀x∈xs,SL x)/\SL fuel:=by
 obtain⟨cs,rfl,hs⟩:=okWide_struct Tryz.underlying84 hval;obtain⟨fuel,h⟩:=h;obtain⟨xs,n,_,_,hlen,hxl,hf⟩:=DataW.trod_struct Tryz.underlying84 h;rw[Tryz.EZ]at hlen;obtain⟨cl⟩:=cs
 match cl,hlen with
 |[v0,v1],_=>
  have hx: ∀i,i<2-> ∃y,xs[i]?=some y:=fun i hi=>⟨_,ao (by rw[hxl];exact hi)⟩;obtain⟨y0,e0⟩:=hx 0 (by decide);obtain⟨y1,e1⟩:=hx 1 (by decide);have f0:=hf 0 _ rfl;rw[e0]at f0;change DataW.trod enc Tryz.prog W 0 (fun _=>true) true n 51 (List.take (Tryz.prog.cellsOf 51) (List.drop 0 [v0,v1]))=_ at f0;rw[Tryz.E0]at f0;have f1:=hf 1 _ rfl;rw[e1]at f1;change DataW.trod enc Tryz.prog W 0 (fun _=>true) true n 3 (List.take (Tryz.prog.cellsOf 3) (List.drop 1 [v0,v1]))=_ at f1;rw[Tryz.mE]at f1;obtain⟨n1,h1,_,w1⟩:=DataW.trod_int Tryz.underlying3 f1
  obtain⟨u,l,h2,r2,g2⟩:=ll 51 3 Tryz.underlying51 1 (by decide) Tryz.mE SM (fun _=>rfl) SL 0 (fun _ cs _ hh=>by
   obtain⟨n,rfl,_,w⟩:=DataW.trod_int Tryz.underlying3 hh
   exact⟨n,rfl,bounds_i64 w⟩) f0
  simp at h1 h2;subst h1 h2;exact⟨_,l,n1,rfl,Jj r2,g2,bounds_i64 w1⟩
end
end Go.Proofs.YtagemonojdgbdaaGreatDoor
