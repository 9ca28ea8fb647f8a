import Derived.Test.YtmkofmeojbcakaaGreatDoorC28
import Derived.Test.YtmkofmeojbcakaaGreatDoorC29
import Derived.Test.YtmkofmeojbcakaaGreatDoorC31
namespace Go.Proofs.YtmkofmeojbcakaaGreatDoor
open Go.Proofs.Tryz
set_option maxRecDepth 100000
set_option maxHeartbeats 16000000
open Go.RowKit
theorem SH(W:World)(o:Obj):Below W.heap.size W (W.alloc o):=(aw _ _).alloc (aE _) _
def ov(b:Bool)(p:Prop):Prop:=b=true↔p
theorem ov.yes{p:Prop}(h:p):ov true p:=⟨fun _=>h,fun _=>rfl⟩
theorem ov.no{p:Prop}(h: ¬p):ov false p:=⟨(fun e=>by cases e),fun e=>absurd e h⟩
theorem ov.pos{p:Prop}(h:ov true p):p:=h.1 rfl
theorem ov.neg{p:Prop}(h:ov false p): ¬p:=fun e=>by have:=h.2 e;cases this
theorem SI(p:Prop): ∃b:Bool,ov b p:=by
 by_cases h:p
 ·exact⟨true,.yes h⟩
 ·exact⟨false,.no h⟩
theorem eG.below{w w':World}{F:Nat->Prop}{v:Value}{l:List Cl}(h:eG w F v l)(hb:Below w.heap.size w w'):eG w' F v l:=aS.below h hb
def Ans(b:Bool)(w:World)(e:Ending)(w':World):Prop:=e=.returned (.bool b)/\Below w.heap.size w w'
theorem gP.ans{p:Prop}{r:Bool}(hr:r=true↔p){w:World}{e:Ending}{w':World}(h:gP p w e w'):Ans r w e w':=by
 obtain⟨b,hb,rfl,hw⟩:=h
 have:b=r:=by cases b<;>cases r<;>simp_all
 subst this;exact⟨rfl,hw⟩
theorem tV{w:World}{F G:Nat->Prop}{v u:Value}{a b:List Cl}(r:Bool)(hr:ov r (nK a b))(ha:eG w F v a)(hb:eG w G u b)(MU:a.length<=1000000)(hlb:b.length<=1000000)(ga:Good a)(gb:Good b):
  Calls prog 183 #[.agg #[v],.agg #[u]] w (Ans r w):=(Kr w F G v u a b ha hb MU hlb ga.proper ga.fits gb.fits).m fun _ _ h=>h.ans hr
def bC(ok:Cl->Bool):List Cl->List Cl->List Cl×Int
 |cl,[]=>(cl,0)
 |cl,c::l=>if 64<(aX (cl++[c])).length then(cl,23)else if ok c then bC ok (cl++[c]) l else(cl,21)
def ym(w:World)(S:Nat->Prop)(v:Value)(ok:Cl->Bool):Prop:=
 (v=.pointer none/\ ∀c,ok c=true)\/ ∃B fv f,v=.pointer (some ⟨B,0,none⟩)/\ ¬S B/\w.cell? ⟨B,0,none⟩=some fv/\eG w (fun k=> ¬S k) fv f/\f.length<=1000/\Good f/\ ∀c,Ok c->ov (ok c) (nK [c] f)
theorem ym.only{w w':World}{S T:Nat->Prop}{v:Value}{ok:Cl->Bool}(h:ym w S v ok)(ho:Only T w w')(hT: ∀k,T k->S k):ym w' S v ok:=by
 rcases h with h|⟨B,fv,f,h1,h2,h3,h4,h5⟩
 ·exact .inl h
 ·exact .inr ⟨B,fv,f,h1,h2,ho.cell h3 (fun h=>h2 (hT _ h)),h4.only ho (fun k hk h=>hk (hT k h)),h5⟩
def jC(w:World)(S:Nat->Prop)(v:Value)(cl:List Cl):Prop:=eG w (fun k=> ¬S k) v (aX cl)/\(aX cl).length<=64/\Good cl
theorem jC.only{w w':World}{S T:Nat->Prop}{v:Value}{cl:List Cl}(h:jC w S v cl)(ho:Only T w w')(hT: ∀k,T k->S k):jC w' S v cl:=
 ⟨h.1.only ho (fun k hk h=>hk (hT k h)),h.2⟩
theorem ik{c:Cl}(h:Ok c)(hf:c.fits):Good [c]:=fun x hx=>by
 rw[fj]at hx;subst hx;exact⟨h,hf⟩
def OW(w:World)(S:Nat->Prop)(M:Nat)(s:MS)(ok:Cl->Bool)(cl l:List Cl)(k:Nat)(wr:World):Prop:=
 ∃f' rB,aH wr M {s with foot:=f'}/\jC wr S f' rB/\Only (fun k=>k=M) w wr/\bC ok cl l=bC ok rB (l.drop k)
def Wa(w:World)(S:Nat->Prop)(M:Nat)(s:MS)(ok:Cl->Bool)(cl l:List Cl)(e:Ending)(w':World):Prop:=
 ∃f',e=.returned (.int .i64 (bC ok cl l).2)/\aH w' M {s with foot:=f'}/\jC w' S f' (bC ok cl l).1/\Only (fun k=>k=M) w w'
theorem nZ{l:List Cl}{k:Nat}{x:Cl}(hlt:k<l.length)(hx:l[k]?=some x):l.drop k=x::l.drop (k+1):=by rw[List.drop_eq_getElem_cons hlt,(List.getElem?_eq_some_iff.1 hx).2]
theorem aH.UA{w:World}{M:Nat}{s:MS}(h:aH w M s)(n:Nat):aH (w.drewN n) M s:=h
theorem jC.aN{w:World}{S:Nat->Prop}{v:Value}{cl:List Cl}{MM:Nat}(h:jC w S v cl)(hM:S MM)(n i:Nat){u:Value}:jC ((w.drewN n).setCell ⟨MM,i,none⟩ u) S v cl:=
 h.only (lL w n MM i u) (fun k hk=>by subst hk;exact hM)
theorem JF(w:World)(o1 o2:Obj):((w.alloc o1).alloc o2).heap[w.heap.size+1]?=some o2:=by have:=an (w.alloc o1) o2;rwa[show(w.alloc o1).heap.size=w.heap.size+1 by simp]at this
theorem AP(w:World)(o1 o2:Obj):Below w.heap.size w ((w.alloc o1).alloc o2):=((aw _ _).alloc (aE _) _).alloc (by simp) _
theorem OX(w:World)(S:Nat->Prop)(M:Nat)(s:MS)(ok:Cl->Bool)(cl l:List Cl)(v:Value)(h:aH w M s)(hSM:S M)(Ay: ∀k,S k->k<w.heap.size)(hf:jC w S s.foot cl)(hm:ym w S s.may ok)(hl:eG w (fun k=> ¬S k) v l)(_acj:l.length<=1000)(hg:Good l):
  Calls prog 139 #[.pointer (some ⟨M,0,none⟩),v] w (Wa w S M s ok cl l):=by
 obtain⟨A,c,rfl,hnc,hcm⟩:=hl.slice;unfold maxLen at hcm;have H0:=al (show OW w S M s ok cl l 0 w from⟨s.foot,cl,h,hf,ox _ _,rfl⟩);have HG:=al (ab hSM (ab Ay (ab hm (ab hl hg))));clear h hSM Ay hf hm hl hg;go_enter func139,ntmps139;go_wp2_with fail
 go_loopw [12] (fun i wr=> ∃k:Nat,k<=l.length/\i=.int .i64 (k:Int)/\OW w S M s ok cl l k wr) (fun i _=>l.length-(intOf i).toNat)
 case atStart=>exact⟨0,dq _,rfl,H0.o⟩
 case round=>
  obtain⟨k,hk,rfl,hR⟩:=hrel;by_cases hlt:k<l.length
  ·obtain⟨x,hx⟩: ∃x,l[k]?=some x:=⟨_,ao hlt⟩;have HR:=al (ab hR hx);obtain⟨f1,rB,r1,r2,r3,r4⟩:=hR;have C4:=HG.o.t.1.only r3 (fun k hk h=>hk (by subst h;exact HG.o.1));obtain⟨b,o,rfl,hF,q0,q1,q2,q3,q4⟩:=eG.at_ C4 hx;have hOk:=HG.o.q x (de hx);have HX:=al (ab hOk.1 hOk.2);clear hx C4 hOk r1 r2 r3 r4;obtain⟨xw,xc,xk,xl,xh⟩:=x;simp only at q0 q1 q2 q3 q4;have k0:=JF wr (.cells #[.bool xw,.int .i64 xc,.string ⟨xk.toArray⟩,.int .i64 xl,.int .i64 xh] 107) (.cells #[.bool xw,.int .i64 xc,.string ⟨xk.toArray⟩,.int .i64 xl,.int .i64 xh] 107);have b0:=AP wr (.cells #[.bool xw,.int .i64 xc,.string ⟨xk.toArray⟩,.int .i64 xl,.int .i64 xh] 107) (.cells #[.bool xw,.int .i64 xc,.string ⟨xk.toArray⟩,.int .i64 xl,.int .i64 xh] 107);have HB0:=al (ab k0 b0);clear k0 b0;go_wp2_with fail;have uB:=HB0.o;clear HB0;generalize (wr.alloc (.cells #[.bool xw,.int .i64 xc,.string ⟨xk.toArray⟩,.int .i64 xl,.int .i64 xh] 107)).alloc (.cells #[.bool xw,.int .i64 xc,.string ⟨xk.toArray⟩,.int .i64 xl,.int .i64 xh] 107)=W0 at uB⊢;obtain⟨k0,b0⟩:=uB;refine(G1 _ (fun _=>True) _ [⟨xw,xc,xk,xl,xh⟩] (lY k0 rfl trivial (by simp[maxLen])) (by simp) (fun c hc=>by rw[fj]at hc;subst hc;exact HX.o.2)).m ?_;intro e w2 nS;obtain⟨v2,n2,rfl,Co⟩:=nS.named;have hb2:=b0.x (Co.1.m b0.size);have hno:=Co.norm (fun c hc=>by rw[fj]at hc;subst hc;exact HX.o.1);rw[AO HX.o.1]at hno;rcases hno with⟨fY,_⟩|⟨_,rfl,A2,c2,rfl,CO⟩
   ·simp at fY
   obtain⟨⟨f1,rB,r1,r2,r3,r4⟩,hx⟩:=HR.o;have hwr: ∀k,S k->k<wr.heap.size:=fun k hk=>cq (HG.o.2.1 k hk) r3.size
   have RD2:eG w2 (fun k=> ¬S k) (.slice A2 1 c2) [⟨xw,xc,xk,xl,xh⟩]:=aS.aU CO (cO _) (by decide) (fun g hg hs=>by
    have h1:=(CO.lt g hg).1;have h2:=hwr g hs;have h3:=b0.size
    omega)
   have m2:=r1.below hb2;have ft2:=r2.only (pw hb2) (fun _ h=>h.elim);obtain⟨A1,c1,rfl,F6,hf2⟩:=ft2.1.slice;have c31:=m2.foot;have c28:=m2.may;have lM:=m2.lt;simp only at c31 c28;have H2:=al (ab RD2 (ab m2 (ab ft2 (ab (r3.x (oj hb2 _) (fun _ _ h=>h)) (ab r4 hx)))));clear nS Co hb2 CO r1 r2 r3 r4 hx RD2 m2 ft2 q0 q1 q2 q3 q4 hwr;obtain⟨N1,hN1⟩:=qt ((aX rB).length);rw[hN1]at c31 F6;have Fl:=al hN1;clear hN1
   -- BEGIN ROUND
   have hlt':k<l.length:=hlt;have k9:=JF w2 (.cells #[.slice A2 1 c2] 48) (.cells #[.slice A1 N1 c1] 48);have b9:=AP w2 (.cells #[.slice A2 1 c2] 48) (.cells #[.slice A1 N1 c1] 48);have k7:=(pR (w2.alloc (.cells #[.slice A2 1 c2] 48)) (.cells #[.slice A1 N1 c1] 48)).block w2.heap.size (by simp);rw[heap_alloc_new w2 (.cells #[.slice A2 1 c2] 48)]at k7;have HB9:=al (ab k9 (ab b9 k7));clear k9 b9 k7;go_wp2_with fail;have HB8:=HB9.o;clear HB9;generalize (w2.alloc (.cells #[.slice A2 1 c2] 48)).alloc (.cells #[.slice A1 N1 c1] 48)=W3 at HB8⊢;obtain⟨k9,b9,k7⟩:=HB8;have m3:=H2.o.2.1.below b9;have f3:=H2.o.d.1.only (pw b9) (fun _ h=>h.elim);have o3:=H2.o.t.1.x (oj b9 (fun k=>k=M)) (fun _ _ h=>h);have r3:=H2.o.1.below b9;rw[Fl.o]at m3 f3;have Wb:Good rB:=f3.2.2;obtain⟨r,hr⟩:=SI (nK [(⟨xw,xc,xk,xl,xh⟩:Cl)] (aX rB));have aad:([(⟨xw,xc,xk,xl,xh⟩:Cl)]).length<=1000000:=by simp
   refine(tV r hr r3 f3.1 aad (by have:=f3.2.1;omega) (ik HX.o.1 HX.o.2) (iU Wb)).m ?_;rintro e w5 ⟨rfl,fR⟩;have oq:=m3.below fR;have JG:=f3.only (pw fR) (fun _ h=>h.elim);have jr:=o3.x (oj fR (fun k=>k=M)) (fun _ _ h=>h);have Ls:=pt fR k7;have JH:=pt fR k9;have r5:=r3.below fR;have aae:=b9.x (fR.m b9.size);have Lt:=al aae;clear m3 f3 o3 k7 k9 r3 b9 fR aae
   cases r with
   |true=>
    have OG:=Cr Wb.ok (ik HX.o.1 HX.o.2).ok (by rw[AO HX.o.1];exact hr.pos);have HL:=al (show ¬64<(aX (rB++[⟨xw,xc,xk,xl,xh⟩])).length by rw[OG];have:=JG.2.1;omega);have hfo:=JG
    replace JG:jC w5 S (.slice A1 N1 c1) (rB++[⟨xw,xc,xk,xl,xh⟩]):=⟨by rw[OG];exact JG.1,by rw[OG];exact JG.2.1,Wb.append (ik HX.o.1 HX.o.2)⟩
    have RW:=al r5;clear OG hr Wb r5;have HT:=al (ab oq (ab JG (ab jr (ab hfo (ab Ls JH)))));have d7:=bK Ls;have d9:=bK JH;have OY:=oq.may;have f31:=oq.free 31;have Wc:=oq.foot;have Wd:=oq.lt;have l57:=aQ Ls;have l59:=aQ JH;have n7: ¬w2.heap.size=M:=by omega
    have n9: ¬w2.heap.size+1=M:=by omega
    simp only at OY Wc;have tW:=HG.o.d.1.only jr (fun k hk=>by subst hk;exact HG.o.1);clear oq JG jr hfo Ls JH;rcases tW with⟨hv,hall⟩|⟨B,fv,f,hv,hB,We,hBr,hBl,hBg,hBt⟩
    ·rw[hv]at OY;have HV:=al (ab hv hall);clear hv hall;go_wp2_with fail;go_quiet(fail);go_wp2_with fail;go_roundw
     case rel=>
      refine⟨k+1,by omega,by go_num,.slice A1 N1 c1,rB++[⟨xw,xc,xk,xl,xh⟩],(HT.o.1.UA _).vG _,HT.o.2.1.aN (MM:=M) HG.o.1 _ _,?_,?_⟩
      ·exact(HT.o.d.1.drewN _).setCell (p:=⟨M,31,none⟩) (fun _=>rfl) _
      ·rw[H2.o.q.1,nZ hlt' H2.o.q.2,bC,ff HL.o,fi (HV.o.2 _)]
     case measure=>simp[intOf];omega
    ·rw[hv]at OY;obtain⟨A6,c6,rfl,_⟩:=hBr.slice;have lB:=aq _ _ We;have hBM: ¬B=M:=fun e=>hB (by rw[e];exact HG.o.1);have HV:=al (ab hv (ab hBr (ab hBl (ab hBg (hBt _ HX.o.1)))));clear hv hB hBr hBl hBg hBt;obtain⟨q,hq⟩:=qt (ok ⟨xw,xc,xk,xl,xh⟩);have HQ:=al (ab (hq▸HV.o.q) hq);clear hq;go_wp2_with fail
     go_region_held3 (fun W=>W.cell? ⟨w2.heap.size,0,none⟩=some (.slice A2 1 c2)/\W.cell? ⟨M,28,none⟩=some (.pointer (some ⟨B,0,none⟩))/\W.cell? ⟨B,0,none⟩=some (.slice A6 f.length c6)) (first|exact⟨by assumption,by assumption,by assumption⟩|go_keep) (first|(go_at_call 183;refine(tV q HQ.o.1 (RW.o.below ((aw _ _).drew)) (HV.o.2.1.below ((aw _ _).drew)) (by simp) (by have:=HV.o.d.1;omega) (ik HX.o.1 HX.o.2) HV.o.t.1).m ?_;rintro e w6 ⟨rfl,fC⟩;have pz:Below w5.heap.size w5 w6:=nt fC;have d7':=(pz.cell (p:=⟨w2.heap.size,0,none⟩) l57).x d7;have d9':=(pz.cell (p:=⟨w2.heap.size+1,0,none⟩) l59).x d9;have abu:=(pz.cell (p:=⟨M,28,none⟩) Wd).x OY;have abv:=(pz.cell (p:=⟨M,31,none⟩) Wd).x Wc;have abw:=(pz.frozen (p:=⟨M,31,none⟩) Wd).x f31;have abx:=(pz.cell (p:=⟨B,0,none⟩) lB).x We;have H6:=al pz;clear fC pz))
     clear d7 d9 OY Wc f31 We
     cases q with
     |false=>
      go_wp2_with fail;go_ret
      have hE:bC ok cl l=(rB,21):=by rw[H2.o.q.1,nZ hlt' H2.o.q.2,bC,ff HL.o,HQ.o.2];rfl
      have vg:=pw H6.o;exact⟨.slice A1 N1 c1,by rw[hE];rfl,HT.o.1.below H6.o,by rw[hE];exact HT.o.t.1.only vg (fun _ h=>h.elim),HT.o.d.1.x (oj H6.o (fun k=>k=M)) (fun _ _ h=>h)⟩
     |true=>
      go_wp2_with fail;go_roundw
      case rel=>
       refine⟨k+1,by omega,by go_num,.slice A1 N1 c1,rB++[⟨xw,xc,xk,xl,xh⟩],(HT.o.1.below H6.o).vG _,?_,?_,?_⟩
       ·exact(HT.o.2.1.only (pw H6.o) (fun _ h=>h.elim)).only (bj w6 M 31 _) (fun k hk=>by subst hk;exact HG.o.1)
       ·exact(HT.o.d.1.x (oj H6.o (fun k=>k=M)) (fun _ _ h=>h)).setCell (p:=⟨M,31,none⟩) (fun _=>rfl) _
       ·rw[H2.o.q.1,nZ hlt' H2.o.q.2,bC,ff HL.o,HQ.o.2];rfl
      case measure=>simp[intOf];omega
   |false=>
    have hwn:=hr.neg;have HW:=al (ab oq (ab JG (ab jr (ab Ls (ab JH r5)))));have d7:=bK Ls;have d9:=bK JH;have d9f:=dN JH;have l57:=aQ Ls;have l59:=aQ JH;have HC:=al (SE w5 (fun k=> ¬S k) (fun k=> ¬S k) _ _ (aX rB) [⟨xw,xc,xk,xl,xh⟩] JG.1 r5 (by have:=JG.2.1;omega) (by simp) (iU Wb).fits (ik HX.o.1 HX.o.2).fits);have HGC:=al Wb;clear oq JG jr Ls JH r5 hr hwn Wb;go_wp2_with fail;refine HC.o.m ?_;intro e w8 nS;obtain⟨v8,n8,rfl,Co⟩:=nS.named;have sL:=Co.1;have hno:=Co.norm (fun c hc=>(dy.1 hc).elim (fun h=>(iU HGC.o).ok c h) (fun h=>(ik HX.o.1 HX.o.2).ok c h));rw[uN HGC.o (ik HX.o.1 HX.o.2).ok]at hno;have k87:=pt sL HW.o.t.1;have k89:=pt sL HW.o.q.1;have d89:=bK k89;have aby:=dN k89;have HW8:=al (ab sL (ab k87 k89));clear nS Co sL k87 k89 d7 d9 d9f HC;rcases hno with⟨fY,rfl,rfl⟩|⟨hshort,rfl,A7,c7,rfl,CP⟩
    ·have HL:=al fY;clear fY;go_wp2_with fail;go_ret
     have hE:bC ok cl l=(rB,23):=by rw[H2.o.q.1,nZ hlt' H2.o.q.2,bC,fi HL.o]
     have Ju:Below w2.heap.size w2 (w8.setCell ⟨w2.heap.size+1,0,none⟩ (.slice none 0 0)):=(Lt.o.x (HW8.o.1.m Lt.o.size)).setCell (p:=⟨w2.heap.size+1,0,none⟩) (Nat.le_succ _) _;have XM:=H2.o.2.1.below Ju;rw[Fl.o]at XM;have XN:=H2.o.d.1.only (pw Ju) (fun _ h=>h.elim);rw[Fl.o]at XN;exact⟨.slice A1 N1 c1,by rw[hE];rfl,XM,by rw[hE];exact XN,H2.o.t.1.x (oj Ju (fun k=>k=M)) (fun _ _ h=>h)⟩
    ·have Ju:Below w2.heap.size w2 (w8.setCell ⟨w2.heap.size+1,0,none⟩ (.slice A7 (aX (rB++[⟨xw,xc,xk,xl,xh⟩])).length c7)):=(Lt.o.x (HW8.o.1.m Lt.o.size)).setCell (p:=⟨w2.heap.size+1,0,none⟩) (Nat.le_succ _) _
     have hS7:eG w8 (fun k=> ¬S k) (.slice A7 (aX (rB++[⟨xw,xc,xk,xl,xh⟩])).length c7) (aX (rB++[⟨xw,xc,xk,xl,xh⟩])):=aS.aU CP (cO _) (by decide) (fun g hg hs=>by
      have h1:=(CP.lt g hg).1;have h2:=HG.o.2.1 g hs;have h3:=H2.o.t.1.size;have h4:=Lt.o.size
      omega)
     have aaf:(Value.slice A7 (aX (rB++[⟨xw,xc,xk,xl,xh⟩])).length c7).ownBlock≠some (w2.heap.size+1):=cN CP HW8.o.d (by decide)
     have hS8:jC (w8.setCell ⟨w2.heap.size+1,0,none⟩ (.slice A7 (aX (rB++[⟨xw,xc,xk,xl,xh⟩])).length c7)) S (.slice A7 (aX (rB++[⟨xw,xc,xk,xl,xh⟩])).length c7) (rB++[⟨xw,xc,xk,xl,xh⟩]):=by
      refine⟨?_,hshort,HGC.o.append (ik HX.o.1 HX.o.2)⟩;have ho:=aT CP (bj w8 (w2.heap.size+1) 0 (.slice A7 (aX (rB++[⟨xw,xc,xk,xl,xh⟩])).length c7)) (fun g hg e=>by subst e;exact aaf hg)
      exact aS.aU ho (cO _) (by decide) (fun g hg hs=>by
       have h1:=(CP.lt g hg).1;have h2:=HG.o.2.1 g hs;have h3:=H2.o.t.1.size;have h4:=Lt.o.size
       omega)
     have HL:=al (show ¬64<(aX (rB++[⟨xw,xc,xk,xl,xh⟩])).length by omega);have k97:=(heap_setCell_other w8 ⟨w2.heap.size+1,0,none⟩ w2.heap.size (.slice A7 (aX (rB++[⟨xw,xc,xk,xl,xh⟩])).length c7) (by simp)).x HW8.o.2.1;have k99:=db w8 (w2.heap.size+1) 0 _ _ (.slice A7 (aX (rB++[⟨xw,xc,xk,xl,xh⟩])).length c7) HW8.o.d;have HF8:=al (ab Ju (ab hS8 (ab k97 k99)));obtain⟨N7,hN7⟩:=qt ((aX (rB++[⟨xw,xc,xk,xl,xh⟩])).length);have HN7:=al hN7;clear Ju hS7 aaf hS8 k97 k99 CP hshort;rw[hN7]at HF8⊢;clear hN7;go_upto_region 12 with fail;have HF9:=HF8.o;clear HF8;generalize w8.setCell ⟨w2.heap.size+1,0,none⟩ (.slice A7 N7 c7)=w9 at HF9⊢;obtain⟨Ju,JG,Ls,JH⟩:=HF9;have oq:=H2.o.2.1.below Ju;rw[Fl.o]at oq;have hfo:=H2.o.d.1.only (pw Ju) (fun _ h=>h.elim);rw[Fl.o]at hfo;have jr:=H2.o.t.1.x (oj Ju (fun k=>k=M)) (fun _ _ h=>h);have RW:=al (H2.o.1.below Ju);clear Ju d89 aby;have HT:=al (ab oq (ab JG (ab jr (ab hfo (ab Ls JH)))));have d7:=bK Ls;have d9:=bK JH;have OY:=oq.may;have f31:=oq.free 31;have Wc:=oq.foot;have Wd:=oq.lt;have l57:=aQ Ls;have l59:=aQ JH;have n7: ¬w2.heap.size=M:=by omega
     have n9: ¬w2.heap.size+1=M:=by omega
     simp only at OY Wc;have tW:=HG.o.d.1.only jr (fun k hk=>by subst hk;exact HG.o.1);clear oq JG jr hfo Ls JH;rcases tW with⟨hv,hall⟩|⟨B,fv,f,hv,hB,We,hBr,hBl,hBg,hBt⟩
     ·rw[hv]at OY;have HV:=al (ab hv hall);clear hv hall;go_wp2_with fail;go_quiet(fail);go_wp2_with fail;go_roundw
      case rel=>
       refine⟨k+1,by omega,by go_num,.slice A7 N7 c7,rB++[⟨xw,xc,xk,xl,xh⟩],(HT.o.1.UA _).vG _,HT.o.2.1.aN (MM:=M) HG.o.1 _ _,?_,?_⟩
       ·exact(HT.o.d.1.drewN _).setCell (p:=⟨M,31,none⟩) (fun _=>rfl) _
       ·rw[H2.o.q.1,nZ hlt' H2.o.q.2,bC,ff HL.o,fi (HV.o.2 _)]
      case measure=>simp[intOf];omega
     ·rw[hv]at OY;obtain⟨A6,c6,rfl,_⟩:=hBr.slice;have lB:=aq _ _ We;have hBM: ¬B=M:=fun e=>hB (by rw[e];exact HG.o.1);have HV:=al (ab hv (ab hBr (ab hBl (ab hBg (hBt _ HX.o.1)))));clear hv hB hBr hBl hBg hBt;obtain⟨q,hq⟩:=qt (ok ⟨xw,xc,xk,xl,xh⟩);have HQ:=al (ab (hq▸HV.o.q) hq);clear hq;go_wp2_with fail
      go_region_held3 (fun W=>W.cell? ⟨w2.heap.size,0,none⟩=some (.slice A2 1 c2)/\W.cell? ⟨M,28,none⟩=some (.pointer (some ⟨B,0,none⟩))/\W.cell? ⟨B,0,none⟩=some (.slice A6 f.length c6)) (first|exact⟨by assumption,by assumption,by assumption⟩|go_keep) (first|(go_at_call 183;refine(tV q HQ.o.1 (RW.o.below ((aw _ _).drew)) (HV.o.2.1.below ((aw _ _).drew)) (by simp) (by have:=HV.o.d.1;omega) (ik HX.o.1 HX.o.2) HV.o.t.1).m ?_;rintro e w6 ⟨rfl,fC⟩;have pz:Below w9.heap.size w9 w6:=nt fC;have d7':=(pz.cell (p:=⟨w2.heap.size,0,none⟩) l57).x d7;have d9':=(pz.cell (p:=⟨w2.heap.size+1,0,none⟩) l59).x d9;have abu:=(pz.cell (p:=⟨M,28,none⟩) Wd).x OY;have abv:=(pz.cell (p:=⟨M,31,none⟩) Wd).x Wc;have abw:=(pz.frozen (p:=⟨M,31,none⟩) Wd).x f31;have abx:=(pz.cell (p:=⟨B,0,none⟩) lB).x We;have H6:=al pz;clear fC pz))
      clear d7 d9 OY Wc f31 We
      cases q with
      |false=>
       go_wp2_with fail;go_ret
       have hE:bC ok cl l=(rB,21):=by rw[H2.o.q.1,nZ hlt' H2.o.q.2,bC,ff HL.o,HQ.o.2];rfl
       have vg:=pw H6.o;exact⟨.slice A1 N1 c1,by rw[hE];rfl,HT.o.1.below H6.o,by rw[hE];exact HT.o.t.1.only vg (fun _ h=>h.elim),HT.o.d.1.x (oj H6.o (fun k=>k=M)) (fun _ _ h=>h)⟩
      |true=>
       go_wp2_with fail;go_roundw
       case rel=>
        refine⟨k+1,by omega,by go_num,.slice A7 N7 c7,rB++[⟨xw,xc,xk,xl,xh⟩],(HT.o.1.below H6.o).vG _,?_,?_,?_⟩
        ·exact(HT.o.2.1.only (pw H6.o) (fun _ h=>h.elim)).only (bj w6 M 31 _) (fun k hk=>by subst hk;exact HG.o.1)
        ·exact(HT.o.d.1.x (oj H6.o (fun k=>k=M)) (fun _ _ h=>h)).setCell (p:=⟨M,31,none⟩) (fun _=>rfl) _
        ·rw[H2.o.q.1,nZ hlt' H2.o.q.2,bC,ff HL.o,HQ.o.2];rfl
       case measure=>simp[intOf];omega
   -- END ROUND
  ·obtain rfl:k=l.length:=by omega
   obtain⟨f1,rB,r1,r2,r3,r4⟩:=hR;rw[List.drop_length]at r4;have HR:=al (ab r1 (ab r2 (ab r3 r4)));clear r1 r2 r3 r4;go_wp2_with fail;go_ret
   obtain⟨r1,r2,r3,r4⟩:=HR.o;exact⟨f1,by rw[r4];rfl,r1,by rw[r4];exact r2,r3⟩

structure FE where
 id:Int
 ops:List aO
 args:List Int
 cls:List Cl
def yn(n:Int):Prop:= -9223372036854775808<=n/\n<=9223372036854775807
def FE.fits(e:FE):Prop:=yn e.id/\(∀o∈e.ops,o.fits)/\(∀n∈e.args,yn n)/\ ∀c∈e.cls,c.fits
def dD(w:World)(G:Nat->Prop)(e:FE)(vo va vc:Value):Prop:=gu w G vo e.ops/\Rd w G va (jc e.args)/\eG w G vc e.cls/\e.fits
def Lu(e:FE)(vo va vc:Value):Value:=.agg #[.int .i64 e.id,vo,va,vc]
theorem dD.below{w w':World}{G:Nat->Prop}{e:FE}{vo va vc:Value}(h:dD w G e vo va vc)(hb:Below w.heap.size w w'):dD w' G e vo va vc:=⟨aS.below h.1 hb,Rd.below h.2.1 hb,aS.below h.2.2.1 hb,h.2.2.2⟩
theorem dD.mono{w:World}{G G':Nat->Prop}{e:FE}{vo va vc:Value}(h:dD w G e vo va vc)(hG: ∀k,G k->G' k):dD w G' e vo va vc:=⟨aS.m h.1 hG,Rd.m h.2.1 hG,aS.m h.2.2.1 hG,h.2.2.2⟩
abbrev dD.m:=@dD.mono
noncomputable def su(l:List Cl):Int:=by
 classical
 exact if iH l≠0 then iH l else if ∃out,eI l out/\64<out.length then 23 else if eI l l then 0 else 17
def kX(l:List Int):Bool:=l.all (fun n=>decide (-1099511627776<=n)&&decide (n<=1099511627776))
def qD(e:FE):Int:=if 8<e.args.length then 23 else if kX e.args=false then 10 else 0
def uO(e:FE):Int:=if opsE e.ops≠0 then opsE e.ops else qD e
def lZ(e:FE):Int:=if e.id<0\/1099511627776<e.id then 10 else uO e
noncomputable def jQ(e:FE):Int:=if lZ e≠0 then lZ e else su e.cls
theorem vQ{e:FE}{v:Int}(h:lZ e=v)(hv:v≠0):jQ e=v:=by unfold jQ;rw[h,fi hv]
theorem EC{e:FE}(h:lZ e=0):jQ e=su e.cls:=by unfold jQ;rw[ff (by rw[h];simp)]
theorem OZ{e:FE}{p:Int}(h:opsE e.ops=p)(hp:p≠0):uO e=p:=by unfold uO;rw[h,fi hp]
theorem rh{e:FE}(h:opsE e.ops=0):uO e=qD e:=by unfold uO;rw[h,ff (by simp)]
theorem Hf{e:FE}(h:8<e.args.length):qD e=23:=by unfold qD;rw[fi h]
theorem Lv{e:FE}(h: ¬8<e.args.length)(ha:kX e.args=false):qD e=10:=by unfold qD;rw[ff h,fi ha]
theorem ED{e:FE}(h: ¬8<e.args.length)(ha:kX e.args=true):qD e=0:=by unfold qD;rw[ff h,ff (by rw[ha];simp)]
theorem O0{l:List Cl}(h:iH l≠0):su l=iH l:=by unfold su;rw[fi h]
theorem O1{l out:List Cl}(h:iH l=0)(hf:eI l out)(hl:64<out.length):su l=23:=by unfold su;rw[ff (by simp[h]),fi ⟨out,hf,hl⟩]
theorem AQ{l out:List Cl}(h:iH l=0)(hf:eI l out)(hl:out.length<=64):su l=if out=l then 0 else 17:=by
 unfold su;rw[ff (by simp[h]),ff (fun⟨o,ho,hlo⟩=>by have:=hf.unique ho;subst this;omega)];by_cases e:out=l
 ·rw[fi e,fi (by rw[e]at hf;exact hf)]
 ·rw[ff e,ff (fun h2=>e (hf.unique h2))]
theorem vt.cls{l:List Cl}{w w':World}{v:Value}{n:Int}(h:vt l w v n w'):(n≠0/\su l=n/\v=.slice none 0 0)\/(n=0/\ ∃out,eI l out/\out.length<=64/\su l=(if out=l then 0 else 17)/\ ∃A c,v=.slice A out.length c/\w'.ownsRow w.heap.size 107 5 (.slice A out.length c) out.length (out.map Cl.cells).flatten):=by
 rcases h.2 with⟨h1,rfl,rfl⟩|⟨h1,out,hf,⟨h3,rfl,rfl⟩|⟨h3,rfl,h4⟩⟩
 ·exact .inl ⟨h1,O0 h1,rfl⟩
 ·exact .inl ⟨by decide,O1 h1 hf h3,rfl⟩
 ·exact .inr ⟨rfl,out,hf,h3,AQ h1 hf h3,h4⟩
theorem SJ{l:List Int}{k:Nat}{n:Int}(hk:l[k]?=some n)(h: ¬(-1099511627776<=n/\n<=1099511627776)):kX l=false:=by unfold kX;rw[Bool.eq_false_iff];intro hh;rw[List.all_eq_true]at hh;have:=hh n (de hk);rw[lx,decide_eq_true_iff,decide_eq_true_iff]at this;exact h this
theorem jX(w:World)(G:Nat->Prop)(e:FE)(vo va vc:Value)(h:dD w G e vo va vc)(hs:gS w)(hcl:e.cls.length<=1000):
  Calls prog 23 #[Lu e vo va vc] w fun en w'=>en=.returned (.int .i64 (jQ e))/\Below w.heap.size w w':=by
 obtain⟨A1,c1,rfl,_,_⟩:=h.1.slice;obtain⟨A2,c2,rfl,MU,hca⟩:=tP h.2.1;obtain⟨AC,cC,hvc,_,_⟩:=h.2.2.1.slice;subst hvc;have hEl:=G5 h.2.1;unfold Lu;obtain⟨id,hid⟩:=qt (e.id);have he0:lZ e=if id<0\/1099511627776<id then 10 else uO e:=by unfold lZ;rw[hid]
 have Ss:=h.2.2.2.1;unfold yn at Ss;rw[hid]at Ss⊢;have HE:=al (ab (ab he0 hEl) (ab h (ab hs (aw w.heap.size w))));clear hs he0 hid hEl;have UB:jQ e=if lZ e≠0 then lZ e else su e.cls:=rfl
 have HEE:=al UB;clear UB h;by_cases hbad:id<0\/1099511627776<id
 ·have HN:=al (show jQ e=10 from vQ (by rw[HE.o.1.1,fi hbad]) (by decide));rcases hbad with hb|hb
  ·clear Ss;go_enter func23,ntmps23;go_wp2_with fail;go_ret
   exact⟨by rw[HN.o];rfl,(aw _ _).alloc (aE _) _⟩
  ·have hb0: ¬id<0:=by omega
   clear Ss;go_enter func23,ntmps23;go_wp2_with fail;go_ret
   exact⟨by rw[HN.o];rfl,(aw _ _).alloc (aE _) _⟩
 ·have hb0: ¬id<0:=fun h=>hbad (.inl h);have hb1: ¬1099511627776<id:=fun h=>hbad (.inr h);have HN:=al (show lZ e=uO e by rw[HE.o.1.1,ff hbad]);clear hbad Ss;go_enter func23,ntmps23;go_upto_region 3 with fail;have g1:(w.alloc (.cells #[.int .i64 id,.slice A1 e.ops.length c1,.slice A2 e.args.length c2,.slice AC e.cls.length cC] 46)).cell? ⟨w.heap.size,1,none⟩=some (.slice A1 e.ops.length c1):=by simp
  have g2:(w.alloc (.cells #[.int .i64 id,.slice A1 e.ops.length c1,.slice A2 e.args.length c2,.slice AC e.cls.length cC] 46)).cell? ⟨w.heap.size,2,none⟩=some (.slice A2 e.args.length c2):=by simp
  have g3:(w.alloc (.cells #[.int .i64 id,.slice A1 e.ops.length c1,.slice A2 e.args.length c2,.slice AC e.cls.length cC] 46)).cell? ⟨w.heap.size,3,none⟩=some (.slice AC e.cls.length cC):=by simp
  have hbb:=(aw w.heap.size w).alloc (aE _) (.cells #[.int .i64 id,.slice A1 e.ops.length c1,.slice A2 e.args.length c2,.slice AC e.cls.length cC] 46);generalize w.alloc (.cells #[.int .i64 id,.slice A1 e.ops.length c1,.slice A2 e.args.length c2,.slice AC e.cls.length cC] 46)=wb at g1 g2 g3 hbb⊢;obtain⟨B,hB⟩:=qt (w.heap.size);have U2:=al hbb;rw[hB]at g1 g2 g3⊢;have NK:=al hB;clear hbb hB;obtain⟨p,hp⟩:=qt (opsE e.ops);have hpc:=Ak wb G (.slice A1 e.ops.length c1) e.ops (aS.below HE.o.2.1.1 U2.o) (HE.o.d.1.below U2.o);rw[hp]at hpc;have HP:=al (ab hpc hp);clear hpc hp;go_wp2_with fail;refine HP.o.1.m ?_;rintro en w2 ⟨rfl,hb2⟩;have f2:=(hb2.cell (p:=⟨B,2,none⟩) (aq _ _ g2)).x g2;have f3:=(hb2.cell (p:=⟨B,3,none⟩) (aq _ _ g3)).x g3;have fg:=al (U2.o.x (hb2.m U2.o.size));clear hb2 g1 g2 g3;by_cases hp0:p=0
  ·subst hp0;by_cases ha8:8<e.args.length
   ·have abz:(8:Int)<(e.args.length:Int):=by omega
    have HX:=al (show jQ e=23 from vQ ((HN.o.x (rh HP.o.2)).x (Hf ha8)) (by decide));go_wp2_with fail;go_ret
    exact⟨by rw[HX.o];rfl,by rw[NK.o]at fg;exact by rw[NK.o];exact fg.o⟩
   ·have abz: ¬((8:Int)<(e.args.length:Int)):=by omega
    have HX:=al (show lZ e=qD e from HN.o.x (rh HP.o.2));go_wp2_with fail
    go_loop [29] (fun i=> ∃k:Nat,k<=e.args.length/\i=.int .i64 (k:Int)/\kX (e.args.take k)=true) (fun i=>e.args.length-(intOf i).toNat)
    case atStart=>exact⟨0,dq _,rfl,rfl⟩
    case round=>
     obtain⟨k,hk,rfl,hal⟩:=hrel;by_cases hlt:k<e.args.length
     ·obtain⟨x,hx⟩: ∃x,e.args[k]?=some x:=⟨_,ao hlt⟩;obtain⟨ba,oa,hA2,_,cx⟩:=HE.o.1.2.2.2.2 k x hx;subst hA2;have dx:=(fg.o.cell (p:=⟨ba,oa+k,none⟩) (aq _ _ cx)).x cx;have HXX:=al (ab hx hal);clear hx hal cx;by_cases hr: -1099511627776<=x/\x<=1099511627776
      ·have hr1: ¬x< -1099511627776:=by omega
       have hr2: ¬1099511627776<x:=by omega
       have HR:=al hr;clear hr;go_wp2_with fail
       go_round
       case rel=>refine⟨k+1,by omega,by go_num,?_⟩;have h9:=HXX.o.2;unfold kX at h9⊢;rw[iv,HXX.o.1,List.all_append,h9];simp[HR.o.1,HR.o.2]
       case measure=>simp[intOf];omega
      ·have HR:=al (show jQ e=10 from vQ (HX.o.x (Lv ha8 (SJ HXX.o.1 hr))) (by decide));by_cases hr1:x< -1099511627776;rotate_left
       focus
        have hr2:1099511627776<x:=by omega
       all_goals
        clear hr;go_wp2_with fail;go_ret
        exact⟨by rw[HR.o];rfl,by rw[NK.o]at fg;exact by rw[NK.o];exact fg.o⟩
     ·obtain rfl:k=e.args.length:=by omega
      rw[gd]at hal;have HY:=al (show jQ e=su e.cls from EC (HX.o.x (ED ha8 hal)));clear hal hlt hk;go_wp2_with fail;refine(G1 w2 G _ e.cls (aS.below HE.o.2.1.2.2.1 fg.o) hcl HE.o.2.1.2.2.2.2.2.2).m ?_;intro en w3 nS;obtain⟨u1,n1,rfl,Co⟩:=nS.named;have hb3:=Co.1;have e3:=(hb3.cell (p:=⟨B,3,none⟩) (aq _ _ f3)).x f3;have yK:=al (fg.o.x (hb3.m fg.o.size));rcases Co.cls with⟨hn0,hcn,rfl⟩|⟨rfl,out,hf,h64,hce,A3,c3,rfl,hO⟩
      ·have e1:(n1 !=0)=true:=by simpa using hn0
       have HZ:=al hcn;clear hn0 hcn hb3 Co nS;go_wp2_with fail;go_ret
       exact⟨by rw[HY.o,HZ.o];rfl,by have:=yK.o.alloc yK.o.size (.cells #[.slice none 0 0] 48);rw[NK.o]at this⊢;exact this⟩
      ·have HZ:=al (ab hce hf);have vg:eG (w3.alloc (.cells #[.slice A3 out.length c3] 48)) (fun _=>True) (.slice A3 out.length c3) out:=aS.below (EA hO) (SH _ _);have g6:(w3.alloc (.cells #[.slice A3 out.length c3] 48)).cell? ⟨w3.heap.size,0,none⟩=some (.slice A3 out.length c3):=by simp
       have g3:=aC e3 (.cells #[.slice A3 out.length c3] 48);have Wf:=yK.o.alloc yK.o.size (.cells #[.slice A3 out.length c3] 48);clear hce hf hb3 Co nS hO e3 f2 f3;go_upto_region 17 with fail;generalize w3.alloc (.cells #[.slice A3 out.length c3] 48)=w6 at vg g6 g3 Wf⊢;obtain⟨B6,hB6⟩:=qt (w3.heap.size);rw[hB6]at g6⊢;have HQ:=al vg;have HBW:=al Wf;clear vg Wf hB6;refine o0 (S:=(fun w'=>Below w6.heap.size w6 w'/\w'.cell? ⟨B,3,none⟩=some (.slice AC e.cls.length cC)/\w'.cell? ⟨B6,0,none⟩=some (.slice A3 out.length c3))) (by kernel_rfl) ⟨(aw _ _).drew,(((aw _ _).drew).cell (p:=⟨B,3,none⟩) (aq _ _ g3)).x g3,(((aw _ _).drew).cell (p:=⟨B6,0,none⟩) (aq _ _ g6)).x g6⟩ (fun hHeld=>?_);refine bw (i:=0) (v:=?_) rfl (by kernel_rfl) (by kernel_rfl) (by kernel_rfl) (fun _ _ _ h=>h) (by rfl) (fun wS hSw=>?_) hHeld ?_;rotate_left
       ·obtain⟨s0,s1,s2⟩:=hSw;go_simp;try rfl
       try simp only[ai,aj,ak,ar]
       refine bw (i:=2) (v:=?_) rfl (by kernel_rfl) (by kernel_rfl) (by kernel_rfl) (fun _ _ _ h=>h) (by rfl) (fun wS hSw=>?_) hHeld ?_;rotate_left
       ·obtain⟨s0,s1,s2⟩:=hSw;go_simp;try rfl
       try simp only[ai,aj,ak,ar]
       refine bw (i:=3) (v:=?_) rfl (by kernel_rfl) (by kernel_rfl) (by kernel_rfl) (fun _ _ _ h=>h) (by rfl) (fun wS hSw=>?_) hHeld ?_;rotate_left
       ·obtain⟨s0,s1,s2⟩:=hSw;go_simp;try rfl
       try simp only[ai,aj,ak,ar]
       refine pf (rs:=[1]) (by kernel_rfl) (by simp) (cM (i:=1) rfl (fun K hK=>?_) oT);go_simp;refine(jU _ (fun _=>True) (.slice A3 out.length c3) out (HQ.o.below hHeld.1) (by omega)).m ?_;rintro e wn ⟨A5,c5,rfl,iA,aR⟩;have HO5:=al iA;clear iA
       try go_simp
       refine hK.o _ _ (⟨hHeld.1.x (aR.m hHeld.1.size),(aR.cell (p:=⟨B,3,none⟩) (aq _ _ hHeld.2.1)).x hHeld.2.1,(aR.cell (p:=⟨B6,0,none⟩) (aq _ _ hHeld.2.2)).x hHeld.2.2⟩) ?_;clear hK K hHeld;intro hHeld
       try simp only[ai,aj,ak,ar]
       refine pf (rs:=[4]) (by kernel_rfl) (by simp) (cM (i:=4) rfl (fun K hK=>?_) oT);go_simp;refine(Nb _ (fun _=>True) (fun _=>True) (.slice A5 out.length c5) (.slice AC e.cls.length cC) out e.cls (EA HO5.o) (aS.m (aS.below HE.o.2.1.2.2.1 (HBW.o.x (hHeld.1.m HBW.o.size))) (fun _ _=>trivial)) (by omega)).m ?_;rintro e wn ⟨r5,hr5,rfl,aR⟩;have HR5:=al (show ov r5 (out=e.cls)from hr5);clear hr5
       try go_simp
       refine hK.o _ _ (⟨hHeld.1.x (aR.m hHeld.1.size),(aR.cell (p:=⟨B,3,none⟩) (aq _ _ hHeld.2.1)).x hHeld.2.1,(aR.cell (p:=⟨B6,0,none⟩) (aq _ _ hHeld.2.2)).x hHeld.2.2⟩) ?_;clear hK K hHeld;intro hHeld
       try simp only[ai,aj,ak,ar]
       refine bw (i:=5) (v:=?_) rfl (by kernel_rfl) (by kernel_rfl) (by kernel_rfl) (fun _ _ _ h=>h) (by rfl) (fun wS hSw=>?_) hHeld ?_;rotate_left
       ·obtain⟨s0,s1,s2⟩:=hSw;go_simp;try rfl
       try simp only[ai,aj,ak,ar]
       refine pb (by kernel_rfl) ?_ _;have HW:=al (HBW.o.x (hHeld.1.m HBW.o.size));clear hHeld
       cases r5 with
       |true=>
        have HT:=al HR5.o.pos;clear HR5;go_wp2_with fail;go_ret
        exact⟨by rw[HY.o,HZ.o.1,fi HT.o];rfl,HW.o⟩
       |false=>
        have HT:=al HR5.o.neg;clear HR5;go_wp2_with fail;go_ret
        exact⟨by rw[HY.o,HZ.o.1,ff HT.o];rfl,HW.o⟩
  ·have hpn:(p !=0)=true:=by simpa using hp0
   have HX:=al (show jQ e=p from vQ (HN.o.x (OZ HP.o.2 hp0)) hp0);clear hp0;go_wp2_with fail;go_ret
   exact⟨by rw[HX.o];rfl,by rw[NK.o]at fg;exact by rw[NK.o];exact fg.o⟩
section
open Go.ChangeShapes Go.WideShapes Go.ChangeAt Go.RowKit Go.Deep
theorem Tryz.l6:prog.cellsOf 3=1:=by kernel_rfl
end
section
open Go.ChangeShapes Go.WideShapes Go.ChangeAt Go.RowKit Go.Deep
theorem Tryz.EE:prog.cellsOf 93=5:=by kernel_rfl
def Wh(n:Int):List Value:=[.int .i64 n]
theorem Lx{W:World}{F:Nat->Prop}{v:Value}{l:List Int}(h:aS 1 W F v (l.map Wh)):Rd W F v (jc l):=by
 obtain⟨A,n,c,hv,hl,hnc,hcm,hx⟩:=h;refine⟨A,n,c,hv,by simpa[jc]using hl,hnc,hcm,fun h0=>?_⟩;obtain⟨b,o,hA,hF,hc⟩:=hx h0;refine⟨b,o,hA,hF,fun i x hi=>?_⟩
 obtain⟨y,hy,rfl⟩: ∃y,l[i]?=some y/\Value.int .i64 y=x:=by
  unfold jc at hi;rw[List.getElem?_map]at hi
  cases hy:l[i]? with
  |none=>rw[hy]at hi;cases hi
  |some y=>rw[hy]at hi;injection hi with hi;exact⟨y,rfl,hi⟩
 simpa using hc i (Wh y) (by simp[hy]) 0 _ rfl
theorem Cu{H:Type}{enc:TypeId×Value->H}{W:World}{fuel:Nat}{cs:List Value}{x:DataW H×List MemPlace}(h:DataW.trod enc prog W 0 (fun _=>true) true fuel 93 cs=some x):
  ∃o:aO,cs=o.cells/\o.fits:=by
 obtain⟨xs,n,_,_,hlen,hxl,hf⟩:=DataW.trod_struct underlying93 h;rw[Tryz.EE]at hlen
 match cs,hlen with
 |[v0,v1,v2,v3,v4],_=>have hx: ∀i,i<5-> ∃y,xs[i]?=some y:=fun i hi=>⟨_,ao (by rw[hxl];exact hi)⟩;obtain⟨y0,e0⟩:=hx 0 (by decide);have f0:=hf 0 _ rfl;rw[e0]at f0;change DataW.trod enc prog W 0 (fun _=>true) true n 3 (List.take (prog.cellsOf 3) (List.drop 0 [v0,v1,v2,v3,v4]))=_ at f0;rw[Tryz.l6]at f0;obtain⟨y1,e1⟩:=hx 1 (by decide);have f1:=hf 1 _ rfl;rw[e1]at f1;change DataW.trod enc prog W 0 (fun _=>true) true n 3 (List.take (prog.cellsOf 3) (List.drop 1 [v0,v1,v2,v3,v4]))=_ at f1;rw[Tryz.l6]at f1;obtain⟨y2,e2⟩:=hx 2 (by decide);have f2:=hf 2 _ rfl;rw[e2]at f2;change DataW.trod enc prog W 0 (fun _=>true) true n 3 (List.take (prog.cellsOf 3) (List.drop 2 [v0,v1,v2,v3,v4]))=_ at f2;rw[Tryz.l6]at f2;obtain⟨y3,e3⟩:=hx 3 (by decide);have f3:=hf 3 _ rfl;rw[e3]at f3;change DataW.trod enc prog W 0 (fun _=>true) true n 3 (List.take (prog.cellsOf 3) (List.drop 3 [v0,v1,v2,v3,v4]))=_ at f3;rw[Tryz.l6]at f3;obtain⟨y4,e4⟩:=hx 4 (by decide);have f4:=hf 4 _ rfl;rw[e4]at f4;change DataW.trod enc prog W 0 (fun _=>true) true n 3 (List.take (prog.cellsOf 3) (List.drop 4 [v0,v1,v2,v3,v4]))=_ at f4;rw[Tryz.l6]at f4;obtain⟨n0,h0,_,w0⟩:=DataW.trod_int underlying3 f0;obtain⟨n1,h1,_,w1⟩:=DataW.trod_int underlying3 f1;obtain⟨n2,h2,_,w2⟩:=DataW.trod_int underlying3 f2;obtain⟨n3,h3,_,w3⟩:=DataW.trod_int underlying3 f3;obtain⟨n4,h4,_,w4⟩:=DataW.trod_int underlying3 f4;simp at h0 h1 h2 h3 h4;subst h0 h1 h2 h3 h4;exact⟨⟨n0,n1,n2,n3,n4⟩,rfl,bounds_i64 w0,bounds_i64 w1,bounds_i64 w2,bounds_i64 w3,bounds_i64 w4⟩
theorem Cv{H:Type}{enc:TypeId×Value->H}{W:World}{v:Value}{d:DataW H}{p:List MemPlace}{base:Nat}(hval:Value.okWide prog W .any base 22 v)
  (h:DataW.Trod enc prog W 0 (fun _=>true) true 22 v d p): ∃l:List aO,gu W (fun _=>True) v l/\ ∀x∈l,x.fits:=by
 obtain⟨a0,acN,acO,rfl⟩:=okWide_slice underlying22 hval;obtain⟨fuel,hf⟩:=h;obtain⟨u,l,h1,r,g⟩:=mr 22 93 underlying22 5 (by decide) Tryz.EE aO.cells (fun _=>rfl) aO.fits ⟨0,0,0,0,0⟩ (fun _ _ _ hh=>Cu hh) hf;simp[Value.cells]at h1;subst h1;exact⟨l,r,g⟩
end
end Go.Proofs.YtmkofmeojbcakaaGreatDoor
