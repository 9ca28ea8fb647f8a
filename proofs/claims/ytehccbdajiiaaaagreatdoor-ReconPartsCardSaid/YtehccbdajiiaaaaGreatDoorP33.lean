import Derived.Test.YtehccbdajiiaaaaGreatDoorP23
import Derived.Test.YtehccbdajiiaaaaGreatDoorP25
import Derived.Test.YtehccbdajiiaaaaGreatDoorP31
namespace Go.Proofs.YtehccbdajiiaaaaGreatDoor
open Go.Proofs.Tryz
set_option maxRecDepth 100000
set_option maxHeartbeats 16000000
open Go.RowKit
theorem fG(W:World)(o:Obj):Below W.heap.size W (W.alloc o):=(aw _ _).alloc (b8 _) _
def mQ(b:Bool)(p:Prop):Prop:=b=true↔p
theorem mQ.yes{p:Prop}(h:p):mQ true p:=⟨fun _=>h,fun _=>rfl⟩
theorem mQ.no{p:Prop}(h: ¬p):mQ false p:=⟨(fun e=>by cases e),fun e=>absurd e h⟩
theorem mQ.pos{p:Prop}(h:mQ true p):p:=h.1 rfl
theorem mQ.neg{p:Prop}(h:mQ false p): ¬p:=fun e=>by have:=h.2 e;cases this
theorem Tw(p:Prop): ∃b:Bool,mQ b p:=by
 by_cases h:p
 ·exact⟨true,.yes h⟩
 ·exact⟨false,.no h⟩
theorem cz.below{w w':World}{F:Nat->Prop}{v:Value}{l:List Cl}(h:cz w F v l)(a:Below w.heap.size w w'):cz w' F v l:=bJ.below h a
def Ans(b:Bool)(w:World)(e:Ending)(w':World):Prop:=e=.returned (.bool b)/\Below w.heap.size w w'
theorem eD.ans{p:Prop}{r:Bool}(c:r=true↔p){w:World}{e:Ending}{w':World}(h:eD p w e w'):Ans r w e w':=by
 obtain⟨b,d,rfl,a⟩:=h
 have:b=r:=by cases b<;>cases r<;>simp_all
 subst this;exact⟨rfl,a⟩
theorem pP{w:World}{F G:Nat->Prop}{v u:Value}{a b:List Cl}(r:Bool)(e:mQ r (iq a b))(f:cz w F v a)(h:cz w G u b)(i:a.length<=1000000)(d:b.length<=1000000)(c:Good a)(g:Good b):
  Calls prog 64 #[.agg #[v],.agg #[u]] w (Ans r w):=(Lt w F G v u a b f h i d c.proper c.fits g.fits).m fun _ _ j=>j.ans e
theorem aS{P:Program}{c:Region.Mode}{l:List Oper}{Q:Exit->Act->World->Prop}{S:World->Prop}{i:Nat}{d:Oper}{fuel:Nat}{b:Array Bool}{a:Act}{w:World}(hi:l[i]?=some d)
  (g:Region.noSelect l.toArray=true) (j:Region.free c l.toArray b i=true) (e:(Region.ready c l.toArray b).contains i=true)
  (k: ∀f a w,Q (.panic f) (a.put d.dst undef) w->Q (.panic f) a w) (h:Region.wanted d (yielded l.toArray a.tmps)=false) (f:S w)
  (m:wpAnyH P c l.toArray Q S fuel (b.setIfInBounds i true) (a.put d.dst undef) w):wpAnyH P c l.toArray Q S (fuel+1) b a w:=
 wpAnyH_take (by simpa using hi) g j e k (.inr ⟨h,rfl⟩) f m
theorem pW.good{l:List Cl}{w w':World}{v:Value}{n:Int}(h:pW l w v n w')(c: ∀b∈l,Ok b): ∃a,cG l a/\((64<a.length/\v=.slice none 0 0/\n=23)\/
  (a.length<=64/\n=0/\ ∃A b,v=.slice A a.length b/\w'.ownsRow w.heap.size 68 5 (.slice A a.length b) a.length (a.map Cl.cells).flatten)):=by
 rcases h.2 with⟨a,_⟩|⟨a,b⟩
 ·exact absurd (rM c) a
 ·exact b
theorem E3{f g j:List Cl}(h:cG (f++g) j)(t:kU):ej j t=max (ej f t) (ej g t):=by rw[h.2,kW]
def aV(a:Cl->Bool):List Cl->List Cl->List Cl×Int
 |cl,[]=>(cl,0)
 |cl,c::l=>if 64<(aW (cl++[c])).length then(cl,23)else if a c then aV a (cl++[c]) l else(cl,21)
def uo(w:World)(S:Nat->Prop)(v:Value)(a:Cl->Bool):Prop:=
 (v=.pointer none/\ ∀c,a c=true)\/ ∃B b f,v=r7 B/\ ¬S B/\w.cell? ⟨B,0,none⟩=some b/\cz w (fun k=> ¬S k) b f/\f.length<=1000/\Good f/\ ∀c,Ok c->mQ (a c) (iq [c] f)
theorem uo.only{w w':World}{S T:Nat->Prop}{v:Value}{c:Cl->Bool}(h:uo w S v c)(d:Only T w w')(b: ∀l,T l->S l):uo w' S v c:=by
 rcases h with h|⟨B,k,m,j,a,e,i,g⟩
 ·exact .inl h
 ·exact .inr ⟨B,k,m,j,a,d.cell e (fun h=>a (b _ h)),i.only d (fun l f h=>f (b l h)),g⟩
def jH(w:World)(S:Nat->Prop)(v:Value)(cl:List Cl):Prop:=cz w (fun k=> ¬S k) v (aW cl)/\(aW cl).length<=64/\Good cl
theorem jH.only{w w':World}{S T:Nat->Prop}{v:Value}{cl:List Cl}(h:jH w S v cl)(b:Only T w w')(a: ∀k,T k->S k):jH w' S v cl:=
 ⟨h.1.only b (fun k c h=>c (a k h)),h.2⟩
theorem iE{c:Cl}(h:Ok c)(b:c.fits):Good [c]:=fun x a=>by
 rw[fl]at a;subst a;exact⟨h,b⟩
def PH(w:World)(S:Nat->Prop)(M:Nat)(s:MS)(c:Cl->Bool)(cl l:List Cl)(k:Nat)(a:World):Prop:=
 ∃d b,aK a M {s with foot:=d}/\jH a S d b/\Only (fun k=>k=M) w a/\aV c cl l=aV c b (l.drop k)
def Xm(w:World)(S:Nat->Prop)(M:Nat)(s:MS)(a:Cl->Bool)(cl l:List Cl)(e:Ending)(w':World):Prop:=
 ∃b,e=.returned (rv (aV a cl l).2)/\aK w' M {s with foot:=b}/\jH w' S b (aV a cl l).1/\Only (fun k=>k=M) w w'
theorem nM{l:List Cl}{k:Nat}{x:Cl}(a:k<l.length)(b:l[k]?=some x):l.drop k=x::l.drop (k+1):=by rw[List.drop_eq_getElem_cons a,(List.getElem?_eq_some_iff.1 b).2]
theorem aK.Vj{w:World}{M:Nat}{s:MS}(h:aK w M s)(n:Nat):aK (w.drewN n) M s:=h
theorem jH.aR{w:World}{S:Nat->Prop}{v:Value}{cl:List Cl}{MM:Nat}(h:jH w S v cl)(a:S MM)(n i:Nat){u:Value}:jH ((w.drewN n).setCell ⟨MM,i,none⟩ u) S v cl:=
 h.only (lV w n MM i u) (fun k b=>by subst b;exact a)
theorem J9(w:World)(a b:Obj):((w.alloc a).alloc b).heap[w.heap.size+1]?=some b:=by have:=an (w.alloc a) b;rwa[show(w.alloc a).heap.size=w.heap.size+1 by simp]at this
theorem Bi(w:World)(a b:Obj):Below w.heap.size w ((w.alloc a).alloc b):=((aw _ _).alloc (b8 _) _).alloc (by simp) _
theorem PI(w:World)(S:Nat->Prop)(M:Nat)(s:MS)(ok:Cl->Bool)(cl l:List Cl)(v:Value)(C:aK w M s)(b:S M)(e: ∀u,S u->u<w.heap.size)(f:jH w S s.foot cl)(d:uo w S s.may ok)(a:cz w (fun u=> ¬S u) v l)(_b6:l.length<=1000)(Y:Good l):
  Calls prog 163 #[r7 M,v] w (Xm w S M s ok cl l):=by
 obtain⟨A,c,rfl,b4,bl⟩:=a.slice;unfold maxLen at bl;have H0:=al (show PH w S M s ok cl l 0 w from⟨s.foot,cl,C,f,oT _ _,rfl⟩);have D:=AS b e d a Y;clear C b e f d a Y;go_enter func163,ntmps163;go_wp2_with fail
 go_loopw [12] (fun i wr=> ∃u:Nat,u<=l.length/\i=rv (u:Int)/\PH w S M s ok cl l u wr) (fun i _=>l.length-(intOf i).toNat)
 case atStart=>exact⟨0,dq _,rfl,H0.o⟩
 case round=>
  obtain⟨u,N,rfl,hR⟩:=hrel;by_cases bc:u<l.length
  ·obtain⟨x,f⟩: ∃x,l[u]?=some x:=⟨_,ao bc⟩;have HR:=AI hR f;obtain⟨f1,n,r1,r2,F,P⟩:=hR;have d:=D.o.t.1.only F (fun u N C=>N (by subst C;exact D.o.1));obtain⟨b,o,rfl,hF,G,H,J,I,K⟩:=cz.at_ d f;have a:=D.o.q x (db f);have t:=AI a.1 a.2;clear f d a r1 r2 F P;obtain⟨d,k,m,j,h⟩:=x;simp only at G H J I K;have k0:=J9 wr (sl d k m.toArray j h) (sl d k m.toArray j h);have b0:=Bi wr (sl d k m.toArray j h) (sl d k m.toArray j h);have a:=AI k0 b0;clear k0 b0;go_wp2_with fail;have JJ:=a.o;clear a;generalize (wr.alloc (sl d k m.toArray j h)).alloc (sl d k m.toArray j h)=a at JJ⊢;obtain⟨k0,b0⟩:=JJ;refine(sY _ (fun _=>True) _ [⟨d,k,m,j,h⟩] (ma k0 rfl trivial (by simp[maxLen])) (by simp) (fun c R=>by rw[fl]at R;subst R;exact t.o.2)).m ?_;intro e a jB;obtain⟨v2,n2,rfl,O⟩:=jB.named;have r:=b0.x (O.1.m b0.size);have a2:=O.norm (fun c R=>by rw[fl]at R;subst R;exact t.o.1);rw[tv t.o.1]at a2;rcases a2 with⟨gh,_⟩|⟨_,rfl,A2,c2,rfl,z⟩
   ·simp at gh
   obtain⟨⟨f1,n,r1,r2,F,P⟩,f⟩:=HR.o;have B: ∀u,S u->u<wr.heap.size:=fun u N=>da (D.o.2.1 u N) F.size
   have E:cz a (fun u=> ¬S u) (.slice A2 1 c2) [⟨d,k,m,j,h⟩]:=bJ.bO z (df _) (by decide) (fun g Y hs=>by
    have h1:=(z.lt g Y).1;have h2:=B g hs;have h3:=b0.size
    omega)
   have q:=r1.below r;have y:=r2.only (ri r) (fun _ C=>C.elim);obtain⟨X,V,rfl,uY,b5⟩:=y.1.slice;have bh:=q.foot;have b3:=q.may;have lM:=q.lt;simp only at bh b3;have p:=By E q y (F.x (oS r _) (fun _ _ C=>C)) P f;clear jB O r z r1 r2 F P f E q y G H J I K B;obtain⟨U,f⟩:=rl ((aW n).length);rw[f]at bh uY;have Vk:=al f;clear f
   -- BEGIN ROUND
   have aa:u<l.length:=bc;have B:=J9 a (sP A2 1 c2) (sP X U V);have f:=Bi a (sP A2 1 c2) (sP X U V);have y:=(pA (a.alloc (sP A2 1 c2)) (sP X U V)).block a.heap.size (by simp);rw[heap_alloc_new a (sP A2 1 c2)]at y;have q:=AM B f y;clear B f y;go_wp2_with fail;have bb:=q.o;clear q;generalize (a.alloc (sP A2 1 c2)).alloc (sP X U V)=q at bb⊢;obtain⟨B,f,y⟩:=bb;have G:=p.o.2.1.below f;have z:=p.o.d.1.only (ri f) (fun _ C=>C.elim);have K:=p.o.t.1.x (oS f (fun u=>u=M)) (fun _ _ C=>C);have F:=p.o.1.below f;rw[Vk.o]at G z;have Q:Good n:=z.2.2;obtain⟨r,hr⟩:=Tw (iq [(⟨d,k,m,j,h⟩:Cl)] (aW n));have bk:([(⟨d,k,m,j,h⟩:Cl)]).length<=1000000:=by simp
   refine(pP r hr F z.1 bk (by have:=z.2.1;omega) (iE t.o.1 t.o.2) (fO Q)).m ?_;rintro e w5 ⟨rfl,q⟩;have E:=G.below q;have H:=z.only (ri q) (fun _ C=>C.elim);have Z:=K.x (oS q (fun u=>u=M)) (fun _ _ C=>C);have L:=qS q y;have I:=qS q B;have r5:=F.below q;have J:=f.x (q.m f.size);have Me:=al J;clear G z K y B F f q J
   cases r with
   |true=>
    have f:=CG Q.ok (iE t.o.1 t.o.2).ok (by rw[tv t.o.1];exact hr.pos);have HL:=al (show ¬64<(aW (n++[⟨d,k,m,j,h⟩])).length by rw[f];have:=H.2.1;omega);have ad:=H
    replace H:jH w5 S (.slice X U V) (n++[⟨d,k,m,j,h⟩]):=⟨by rw[f];exact H.1,by rw[f];exact H.2.1,Q.append (iE t.o.1 t.o.2)⟩
    have RW:=al r5;clear f hr Q r5;have y:=By E H Z ad L I;have d7:=aB L;have d9:=aB I;have T:=E.may;have a':=E.free 31;have Xp:=E.foot;have Xq:=E.lt;have a4:=aP L;have a5:=aP I;have n7: ¬a.heap.size=M:=by omega
    have n9: ¬a.heap.size+1=M:=by omega
    simp only at T Xp;have xW:=D.o.d.1.only Z (fun u N=>by subst N;exact D.o.1);clear E H Z ad L I;rcases xW with⟨G,am⟩|⟨B,fv,f,G,hB,Xr,ac,a3,ap,a0⟩
    ·rw[G]at T;have J:=AI G am;clear G am;go_wp2_with fail;go_quiet(fail);go_wp2_with fail;go_roundw
     case rel=>
      refine⟨u+1,by omega,by go_num,.slice X U V,n++[⟨d,k,m,j,h⟩],(y.o.1.Vj _).vE _,y.o.2.1.aR (MM:=M) D.o.1 _ _,?_,?_⟩
      ·exact(y.o.d.1.drewN _).setCell (p:=⟨M,31,none⟩) (fun _=>rfl) _
      ·rw[p.o.q.1,nM aa p.o.q.2,aV,ff HL.o,fi (J.o.2 _)]
     case measure=>simp[intOf];omega
    ·rw[G]at T;obtain⟨A6,c6,rfl,_⟩:=ac.slice;have lB:=aq _ _ Xr;have bn: ¬B=M:=fun e=>hB (by rw[e];exact D.o.1);have J:=AS G ac a3 ap (a0 _ t.o.1);clear G hB ac a3 ap a0;obtain⟨q,hq⟩:=rl (ok ⟨d,k,m,j,h⟩);have HQ:=AI (hq▸J.o.q) hq;clear hq;go_wp2_with fail
     go_region_held3 (fun W=>W.cell? ⟨a.heap.size,0,none⟩=some (.slice A2 1 c2)/\W.cell? ⟨M,28,none⟩=some (r7 B)/\W.cell? ⟨B,0,none⟩=some (.slice A6 f.length c6)) (first|exact⟨by assumption,by assumption,by assumption⟩|go_keep) (first|(go_at_call 64;refine(pP q HQ.o.1 (RW.o.below ((aw _ _).drew)) (J.o.2.1.below ((aw _ _).drew)) (by simp) (by have:=J.o.d.1;omega) (iE t.o.1 t.o.2) J.o.t.1).m ?_;rintro e w6 ⟨rfl,gW⟩;have z:Below w5.heap.size w5 w6:=fI gW;have b2:=(z.cell (p:=⟨a.heap.size,0,none⟩) a4).x d7;have bo:=(z.cell (p:=⟨a.heap.size+1,0,none⟩) a5).x d9;have b':=(z.cell (p:=⟨M,28,none⟩) Xq).x T;have bs:=(z.cell (p:=⟨M,31,none⟩) Xq).x Xp;have bx:=(z.frozen (p:=⟨M,31,none⟩) Xq).x a';have br:=(z.cell (p:=⟨B,0,none⟩) lB).x Xr;have K:=al z;clear gW z))
     clear d7 d9 T Xp a' Xr
     cases q with
     |false=>
      go_wp2_with fail;go_ret
      have hE:aV ok cl l=(n,21):=by rw[p.o.q.1,nM aa p.o.q.2,aV,ff HL.o,HQ.o.2];rfl
      have Dd:=ri K.o;exact⟨.slice X U V,by rw[hE];rfl,y.o.1.below K.o,by rw[hE];exact y.o.t.1.only Dd (fun _ C=>C.elim),y.o.d.1.x (oS K.o (fun u=>u=M)) (fun _ _ C=>C)⟩
     |true=>
      go_wp2_with fail;go_roundw
      case rel=>
       refine⟨u+1,by omega,by go_num,.slice X U V,n++[⟨d,k,m,j,h⟩],(y.o.1.below K.o).vE _,?_,?_,?_⟩
       ·exact(y.o.2.1.only (ri K.o) (fun _ C=>C.elim)).only (bg w6 M 31 _) (fun u N=>by subst N;exact D.o.1)
       ·exact(y.o.d.1.x (oS K.o (fun u=>u=M)) (fun _ _ C=>C)).setCell (p:=⟨M,31,none⟩) (fun _=>rfl) _
       ·rw[p.o.q.1,nM aa p.o.q.2,aV,ff HL.o,HQ.o.2];rfl
      case measure=>simp[intOf];omega
   |false=>
    have a1:=hr.neg;have HW:=By E H Z L I r5;have d7:=aB L;have d9:=aB I;have a7:=bj I;have a4:=aP L;have a5:=aP I;have HC:=al (J6 w5 (fun u=> ¬S u) (fun u=> ¬S u) _ _ (aW n) [⟨d,k,m,j,h⟩] H.1 r5 (by have:=H.2.1;omega) (by simp) (fO Q).fits (iE t.o.1 t.o.2).fits);have a6:=al Q;clear E H Z L I r5 hr a1 Q;go_wp2_with fail;refine HC.o.m ?_;intro e w8 jB;obtain⟨v8,n8,rfl,O⟩:=jB.named;have zZ:=O.1;have a2:=O.norm (fun c R=>(dr.1 R).elim (fun C=>(fO a6.o).ok c C) (fun C=>(iE t.o.1 t.o.2).ok c C));rw[EP a6.o (iE t.o.1 t.o.2).ok]at a2;have R:=qS zZ HW.o.t.1;have Q:=qS zZ HW.o.q.1;have bm:=aB Q;have b1:=bj Q;have a1:=AM zZ R Q;clear jB O zZ R Q d7 d9 a7 HC;rcases a2 with⟨gh,rfl,rfl⟩|⟨a8,rfl,R,Q,rfl,Dk⟩
    ·have HL:=al gh;clear gh;go_wp2_with fail;go_ret
     have hE:aV ok cl l=(n,23):=by rw[p.o.q.1,nM aa p.o.q.2,aV,fi HL.o]
     have O:Below a.heap.size a (w8.setCell ⟨a.heap.size+1,0,none⟩ (.slice none 0 0)):=(Me.o.x (a1.o.1.m Me.o.size)).setCell (p:=⟨a.heap.size+1,0,none⟩) (Nat.le_succ _) _;have Y7:=p.o.2.1.below O;rw[Vk.o]at Y7;have Y8:=p.o.d.1.only (ri O) (fun _ C=>C.elim);rw[Vk.o]at Y8;exact⟨.slice X U V,by rw[hE];rfl,Y7,by rw[hE];exact Y8,p.o.t.1.x (oS O (fun u=>u=M)) (fun _ _ C=>C)⟩
    ·have O:Below a.heap.size a (w8.setCell ⟨a.heap.size+1,0,none⟩ (.slice R (aW (n++[⟨d,k,m,j,h⟩])).length Q)):=(Me.o.x (a1.o.1.m Me.o.size)).setCell (p:=⟨a.heap.size+1,0,none⟩) (Nat.le_succ _) _
     have bv:cz w8 (fun u=> ¬S u) (.slice R (aW (n++[⟨d,k,m,j,h⟩])).length Q) (aW (n++[⟨d,k,m,j,h⟩])):=bJ.bO Dk (df _) (by decide) (fun g Y hs=>by
      have h1:=(Dk.lt g Y).1;have h2:=D.o.2.1 g hs;have h3:=p.o.t.1.size;have h4:=Me.o.size
      omega)
     have ba:(Value.slice R (aW (n++[⟨d,k,m,j,h⟩])).length Q).ownBlock≠some (a.heap.size+1):=cw Dk a1.o.d (by decide)
     have bi:jH (w8.setCell ⟨a.heap.size+1,0,none⟩ (.slice R (aW (n++[⟨d,k,m,j,h⟩])).length Q)) S (.slice R (aW (n++[⟨d,k,m,j,h⟩])).length Q) (n++[⟨d,k,m,j,h⟩]):=by
      refine⟨?_,a8,a6.o.append (iE t.o.1 t.o.2)⟩;have ho:=aQ Dk (bg w8 (a.heap.size+1) 0 (.slice R (aW (n++[⟨d,k,m,j,h⟩])).length Q)) (fun g Y e=>by subst e;exact ba Y)
      exact bJ.bO ho (df _) (by decide) (fun g Y hs=>by
       have h1:=(Dk.lt g Y).1;have h2:=D.o.2.1 g hs;have h3:=p.o.t.1.size;have h4:=Me.o.size
       omega)
     have HL:=al (show ¬64<(aW (n++[⟨d,k,m,j,h⟩])).length by omega);have a9:=(heap_setCell_other w8 ⟨a.heap.size+1,0,none⟩ a.heap.size (.slice R (aW (n++[⟨d,k,m,j,h⟩])).length Q) (by simp)).x a1.o.2.1;have bf:=dd w8 (a.heap.size+1) 0 _ _ (.slice R (aW (n++[⟨d,k,m,j,h⟩])).length Q) a1.o.d;have g:=AN O bi a9 bf;obtain⟨N7,a7⟩:=rl ((aW (n++[⟨d,k,m,j,h⟩])).length);have ca:=al a7;clear O bv ba bi a9 bf Dk a8;rw[a7]at g⊢;clear a7;go_upto_region 12 with fail;have a7:=g.o;clear g;generalize w8.setCell ⟨a.heap.size+1,0,none⟩ (.slice R N7 Q)=g at a7⊢;obtain⟨O,H,L,I⟩:=a7;have E:=p.o.2.1.below O;rw[Vk.o]at E;have ad:=p.o.d.1.only (ri O) (fun _ C=>C.elim);rw[Vk.o]at ad;have Z:=p.o.t.1.x (oS O (fun u=>u=M)) (fun _ _ C=>C);have RW:=al (p.o.1.below O);clear O bm b1;have y:=By E H Z ad L I;have d7:=aB L;have d9:=aB I;have T:=E.may;have a':=E.free 31;have Xp:=E.foot;have Xq:=E.lt;have a4:=aP L;have a5:=aP I;have n7: ¬a.heap.size=M:=by omega
     have n9: ¬a.heap.size+1=M:=by omega
     simp only at T Xp;have xW:=D.o.d.1.only Z (fun u N=>by subst N;exact D.o.1);clear E H Z ad L I;rcases xW with⟨G,am⟩|⟨B,fv,f,G,hB,Xr,ac,a3,ap,a0⟩
     ·rw[G]at T;have J:=AI G am;clear G am;go_wp2_with fail;go_quiet(fail);go_wp2_with fail;go_roundw
      case rel=>
       refine⟨u+1,by omega,by go_num,.slice R N7 Q,n++[⟨d,k,m,j,h⟩],(y.o.1.Vj _).vE _,y.o.2.1.aR (MM:=M) D.o.1 _ _,?_,?_⟩
       ·exact(y.o.d.1.drewN _).setCell (p:=⟨M,31,none⟩) (fun _=>rfl) _
       ·rw[p.o.q.1,nM aa p.o.q.2,aV,ff HL.o,fi (J.o.2 _)]
      case measure=>simp[intOf];omega
     ·rw[G]at T;obtain⟨A6,c6,rfl,_⟩:=ac.slice;have lB:=aq _ _ Xr;have bn: ¬B=M:=fun e=>hB (by rw[e];exact D.o.1);have J:=AS G ac a3 ap (a0 _ t.o.1);clear G hB ac a3 ap a0;obtain⟨q,hq⟩:=rl (ok ⟨d,k,m,j,h⟩);have HQ:=AI (hq▸J.o.q) hq;clear hq;go_wp2_with fail
      go_region_held3 (fun W=>W.cell? ⟨a.heap.size,0,none⟩=some (.slice A2 1 c2)/\W.cell? ⟨M,28,none⟩=some (r7 B)/\W.cell? ⟨B,0,none⟩=some (.slice A6 f.length c6)) (first|exact⟨by assumption,by assumption,by assumption⟩|go_keep) (first|(go_at_call 64;refine(pP q HQ.o.1 (RW.o.below ((aw _ _).drew)) (J.o.2.1.below ((aw _ _).drew)) (by simp) (by have:=J.o.d.1;omega) (iE t.o.1 t.o.2) J.o.t.1).m ?_;rintro e w6 ⟨rfl,gW⟩;have z:Below g.heap.size g w6:=fI gW;have b2:=(z.cell (p:=⟨a.heap.size,0,none⟩) a4).x d7;have bo:=(z.cell (p:=⟨a.heap.size+1,0,none⟩) a5).x d9;have b':=(z.cell (p:=⟨M,28,none⟩) Xq).x T;have bs:=(z.cell (p:=⟨M,31,none⟩) Xq).x Xp;have bx:=(z.frozen (p:=⟨M,31,none⟩) Xq).x a';have br:=(z.cell (p:=⟨B,0,none⟩) lB).x Xr;have K:=al z;clear gW z))
      clear d7 d9 T Xp a' Xr
      cases q with
      |false=>
       go_wp2_with fail;go_ret
       have hE:aV ok cl l=(n,21):=by rw[p.o.q.1,nM aa p.o.q.2,aV,ff HL.o,HQ.o.2];rfl
       have Dd:=ri K.o;exact⟨.slice X U V,by rw[hE];rfl,y.o.1.below K.o,by rw[hE];exact y.o.t.1.only Dd (fun _ C=>C.elim),y.o.d.1.x (oS K.o (fun u=>u=M)) (fun _ _ C=>C)⟩
      |true=>
       go_wp2_with fail;go_roundw
       case rel=>
        refine⟨u+1,by omega,by go_num,.slice R N7 Q,n++[⟨d,k,m,j,h⟩],(y.o.1.below K.o).vE _,?_,?_,?_⟩
        ·exact(y.o.2.1.only (ri K.o) (fun _ C=>C.elim)).only (bg w6 M 31 _) (fun u N=>by subst N;exact D.o.1)
        ·exact(y.o.d.1.x (oS K.o (fun u=>u=M)) (fun _ _ C=>C)).setCell (p:=⟨M,31,none⟩) (fun _=>rfl) _
        ·rw[p.o.q.1,nM aa p.o.q.2,aV,ff HL.o,HQ.o.2];rfl
       case measure=>simp[intOf];omega
   -- END ROUND
  ·obtain rfl:u=l.length:=by omega
   obtain⟨f1,n,r1,r2,F,P⟩:=hR;rw[List.drop_length]at P;have HR:=AN r1 r2 F P;clear r1 r2 F P;go_wp2_with fail;go_ret
   obtain⟨r1,r2,F,P⟩:=HR.o;exact⟨f1,by rw[P];rfl,r1,by rw[P];exact r2,F⟩

def Iq(e:Int):Int:=if e=0 then 1 else if e=19 then 2 else if e=21 then 3 else if e=20 then 4 else if e=16 then 5 else if e=23 then 6 else 0
def known(e:Int):Prop:=e=0\/e=19\/e=20\/e=16\/e=23\/e=21
def zh(q:Bool)(e:Int):Int:=match q with|true=>Iq e|false=>3
def PK(k v:Int):Int:=if k=1\/k=2 then v else 0
section
open Go.RowKit Go.Maps Go.WideShapes
theorem Vl:Keyed prog 33:=int_keyed underlying33
theorem Vm{i:Int}(h:kK i):keyOf prog 33 (.int .i64 i)=some (.int .i64 i):=keyOf_int_mk underlying33 (acB h)
theorem acQ(g:Value->Option Value)(a x:Int)(v:Value):nX g (rv a) (some v) (rv x)=if x=a then some v else g (rv x):=by
 by_cases h:x=a
 ·subst h;rw[pC,fi rfl]
 ·rw[nB _ _ (fun e=>h (by injection e)),ff h]
theorem CM{w w1 w2:World}{M:Nat}(a:Below w.heap.size w w1)(c:w.heap.size<=M)(b:Only (fun k=>k=M) w1 w2):Below w.heap.size w w2:=
 a.x (b.aI a.size (fun k d e=>by omega))
theorem zi{P:Program}(w:World){ops:Array Oper}{d:List Oper}{o:Oper}{a:Act}{Q:Exit->Act->World->Prop}(r:o.guard=none)(m x v:Operand)(t:TypeId)(k:o.op=Op.insert t m x v){K e:TypeId}(L:Keyed P K)(B:P.underlying t=some (.map K e)){b n:Nat}{g:Value->Option Value}
  (z:a.eval m=.map (some b)) (i:bW P w K b n g) (q:n<maxLen) {key val:Value} {u:Lit} (p:a.eval x=key) (y:a.eval v=val) (f:keyOf P K key=some u)
  (A: ∀c,bW P c K b (n+1) (nX g key (some val))->Only (fun h=>h=b) w c->wpList P ops Q d (a.put o.dst undef) c):wpList P ops Q (o::d) a w:=by
 refine wpList_plain r fun h j=>?_;obtain⟨c,h,s,l⟩:=i.store L B q (val:=val) f;unfold Oper.wp;simp[execOp,k,z,p,y,h,Result.andThen];exact j _ _ (A c s l)
def Xt(w:World)(e:Ending)(w':World):Prop:= ∃M g,e=.returned (.map (some M))/\Below w.heap.size w w'/\bW prog w' 33 M 6 g/\ ∀x:Int,(g (rv x)).getD (rv 0)=rv (Iq x)
theorem PL(w:World):Calls prog 65 #[] w (Xt w):=by
 have j:= @run_makeMap prog;have f:=af w (.map #[] 0);have h:=bW.made prog w 33;have i:=al (b8 w.heap.size);go_enter func65,ntmps65;go_wp2_with ((refine zi _ rfl _ _ _ 153 rfl Vl underlying153 rfl h (by unfold maxLen;omega) rfl rfl (Vm (by unfold kK;omega)) ?_);intro c a b;have f:=CM f i.o b;have h:=a);go_ret
 refine⟨w.heap.size,(nX (nX (nX (nX (nX (nX (fun _=>none) (.int .i64 0) (some (.int .i64 1))) (.int .i64 19) (some (.int .i64 2))) (.int .i64 21) (some (.int .i64 3))) (.int .i64 20) (some (.int .i64 4))) (.int .i64 16) (some (.int .i64 5))) (.int .i64 23) (some (.int .i64 6))),rfl,f,h,fun x=>?_⟩;simp only[acQ];unfold Iq;by_cases a:x=0
 ·subst a;rfl
 by_cases g:x=19
 ·subst g;rfl
 by_cases b:x=21
 ·subst b;rfl
 by_cases c:x=20
 ·subst c;rfl
 by_cases e:x=16
 ·subst e;rfl
 by_cases d:x=23
 ·subst d;rfl
 rw[ff d,ff e,ff c,ff b,ff g,ff a,ff a,ff g,ff b,ff c,ff e,ff d];rfl
end
section
open Go.RowKit Go.Maps Go.WideShapes
theorem av{w:World}{B:Nat}{a b c:Value}{t:TypeId}(h:w.heap[B]?=some (.cells #[a,b,c] t (0,0))):(w.cell? ⟨B,0,none⟩=some a/\w.cell? ⟨B,1,none⟩=some b/\w.cell? ⟨B,2,none⟩=some c)/\ ∀j,w.frozen? ⟨B,j,none⟩=false:=by refine⟨⟨?_,?_,?_⟩,fun j=>?_⟩<;>simp[World.cell?,World.frozen?,h]
theorem eB{w:World}{B:Nat}{a b c d:Value}{t:TypeId}(h:w.heap[B]?=some (.cells #[a,b,c,d] t (0,0))):w.cell? ⟨B,0,none⟩=some a/\w.cell? ⟨B,1,none⟩=some b/\w.cell? ⟨B,2,none⟩=some c/\w.cell? ⟨B,3,none⟩=some d:=by refine⟨?_,?_,?_,?_⟩<;>simp[World.cell?,h]
theorem Ir(w:World)(a b c:Obj):Below w.heap.size w (((w.alloc a).alloc b).alloc c)/\(((w.alloc a).alloc b).alloc c).heap[w.heap.size]?=some a/\(((w.alloc a).alloc b).alloc c).heap[w.heap.size+1]?=some b/\(((w.alloc a).alloc b).alloc c).heap[w.heap.size+1+1]?=some c:=by
 have j:(w.alloc a).heap.size=w.heap.size+1:=by simp
 have l:((w.alloc a).alloc b).heap.size=w.heap.size+2:=by simp
 have i:=af w a;have e:=af (w.alloc a) b;have d:=af ((w.alloc a).alloc b) c;have k:=an w a;have g:=an (w.alloc a) b;have h:=an ((w.alloc a).alloc b) c;rw[j]at g;rw[l]at h;have f: ∀{x y:World} {m:Nat} {o:Obj},Below x.heap.size x y->x.heap[m]?=some o->y.heap[m]?=some o:=fun m n=>qS m n;exact⟨i.x ((e.x (d.m e.size)).m i.size),f d (f e k),f d g,h⟩
def JB(w:World)(b a d:Nat)(g c v:Int)(f:Option Addr)(h i:Nat)(e:Int)(w':World):Prop:=Below w.heap.size w w'/\w'.heap[b]?=some (tb v g f h i e)/\w'.heap[a]?=some (sC 0 0 0)/\
 ∃j:Int,w'.heap[d]?=some (sC j c 0)
theorem JB.below{w:World}{d c i:Nat}{j h v:Int}{f:Option Addr}{k l:Nat}{e:Int}{w' b:World}(q:JB w d c i j h v f k l e w')(a:Below w'.heap.size w' b):JB w d c i j h v f k l e b:=by obtain⟨g,n,p,m,o⟩:=q;exact⟨g.x (a.m g.size),qS a n,qS a p,m,qS a o⟩
theorem JB.drew{w:World}{b a d:Nat}{g c v:Int}{f:Option Addr}{h i:Nat}{e:Int}{w':World}(j:JB w b a d g c v f h i e w'):JB w b a d g c v f h i e w'.drew:=j.below (aw _ _).drew
theorem JB.acR{w:World}{d c a:Nat}{i h v:Int}{f:Option Addr}{j k:Nat}{e:Int}{w':World}(t:JB w d c a i h v f j k e w')(o:w.heap.size<=a)(m:d≠a)(l:c≠a)(b:Int):JB w d c a i h v f j k e (w'.setCell ⟨a,0,none⟩ (rv b)):=by obtain⟨n,p,r,s,q⟩:=t;have g:=Only.aR w' a 0 (rv b);refine⟨n.setCell (p:=⟨a,0,none⟩) o _,g.heap p m,g.heap r l,b,?_⟩;have:=dd w' a 0 _ _ (rv b) q;simpa using this
theorem E5{w:World}{B:Nat}{a b c v:Value}{t:TypeId}(h:w.heap[B]?=some (.cells #[a,b,c] t (0,0))):(w.setCell ⟨B,2,none⟩ v).heap[B]?=some (.cells #[a,b,v] t (0,0)):=by simpa using dd w B 2 _ t v h
theorem PM(w:World)(F G:Nat->Prop)(Ao U:Option Addr)(no co na Q:Nat)(H k v e:Int)(A C:Option Addr)(m c z y:Nat)(n J:List Cl)(q:Bool)(hc:cz w F (.slice A m c) n)(hf:cz w G (.slice C z y) J)(a0:n.length<=64)(a2:J.length<=64)(gc:Good n)(gf:Good J)(hs:cG n n)(O:mQ q (iq J n))(he:kK e):
  Calls prog 37 #[.agg #[.int .i64 k,.slice Ao no co,.slice U na Q,.slice A m c],.agg #[.int .i64 v,.int .i64 H,.slice C z y,.int .i64 e]] w fun x B=>x=.returned (.agg #[.int .i64 (zh q e),.int .i64 k,.int .i64 (PK (zh q e) v)])/\Below w.heap.size w B:=by
 have a:=al (Ir w (.cells #[.int .i64 k,.slice Ao no co,.slice U na Q,.slice A m c] 96) (.cells #[.int .i64 v,.int .i64 H,.slice C z y,.int .i64 e] 60) (.cells #[.int .i64 0,.int .i64 0,.int .i64 0] 50));go_enter func37,ntmps37;go_upto_region 1 with fail;generalize ((w.alloc (.cells #[.int .i64 k,.slice Ao no co,.slice U na Q,.slice A m c] 96)).alloc (.cells #[.int .i64 v,.int .i64 H,.slice C z y,.int .i64 e] 60)).alloc (.cells #[.int .i64 0,.int .i64 0,.int .i64 0] 50)=i at a⊢;obtain⟨f,b⟩:=rl (w.heap.size+1+1);have l:=al (show w.heap.size<=f by omega);rw[b]at a⊢;clear b;obtain⟨b3,b⟩:=rl (w.heap.size+1);rw[b]at a⊢;clear b;obtain⟨b2,t⟩:=rl (w.heap.size);have JJ:=a.o;clear a;obtain⟨p,j,u,b⟩:=JJ;rw[t]at j;rw[t];clear t;obtain⟨D,-,-,L⟩:=eB j;obtain⟨d,a⟩:=rk i (.cells #[.int .i64 3,.int .i64 k,.int .i64 0] 50);go_upto_region 2 with fail;generalize i.alloc (.cells #[.int .i64 3,.int .i64 k,.int .i64 0] 50)=r at d a⊢;have g: ∀{h:Nat} {o:Obj},i.heap[h]?=some o->r.heap[h]?=some o:=fun h=>qS d h;have o:=al (ab p.size (ab (cq.1 u).1 (cq.1 b).1));generalize i.heap.size=s at a d o⊢;have i:=p.x (d.m o.o.1);obtain⟨-,-,-,L⟩:=eB (g j);have HJ:=al (show JB w b3 f s H k v C z y e r from⟨i,g u,g b,3,a⟩);have ad:=al a;have N:=al (sY r _ _ n (bJ.below hc i) (by omega) gc.fits);clear p j u b a d g i D;go_wp2_with fail;refine N.o.m ?_;intro x X M;obtain⟨v3,n3,rfl,r⟩:=M.named;have j:=r.1;obtain⟨a1,D,i|⟨i,rfl,A3,R,rfl,E⟩⟩:=r.good gc.ok
 ·obtain rfl:=cG.unique hs D;exact absurd i.1 (by omega)
 obtain rfl:=cG.unique hs D;have K:=xN E;obtain⟨d,g⟩:=rk X (.cells #[.slice A3 n.length R] 37);have u:=j.x (d.m j.size);have I:=al (HJ.o.below u);have aa:=al (qS u ad.o);have p:=bJ.below K d;go_upto_region 3 with fail;generalize X.alloc (.cells #[.slice A3 n.length R] 37)=P at g p I aa⊢;generalize X.heap.size=S at g⊢;have T:P.cell? ⟨S,0,none⟩=some (.slice A3 n.length R):=by simp[World.cell?,g]
 obtain⟨-,-,S,-⟩:=eB I.o.2.1;have P:=al (pP q O (bJ.below hf I.o.1) p (by omega) (by omega) gf gc);clear j E K d g u p r M D i N L;go_wp2_with fail;refine P.o.m ?_;rintro x w5 ⟨rfl,g⟩;have d:=al (I.o.below g);have p:=al (qS g aa.o);clear g S T P O
 cases q with
 |false=>have a:=p.o;have b:=d.o.d.1;have E:=(av a).1.1;have W:=(av a).1.2.1;have p2:=(av a).1.2.2;have V:=(av a).2 0;have Z0:=(av a).2 1;have K:=(av a).2 2;have S:=(av b).1.1;have Z:=(av b).1.2.1;have T:=(av b).1.2.2;have L:=(av b).2 0;have N:=(av b).2 1;have P:=(av b).2 2;clear a b;go_wp2_with fail;have u:=El (v0:=.int .i64 (3)) (v1:=.int .i64 k) (v2:=.int .i64 (0)) d.o.d.1;exact dj (results_cell_row rfl _ _ _ _ _ _ _ rfl u underlying50 rfl (by kernel_rfl)) rfl ⟨rfl,((d.o.1.setCell (p:=⟨f,0,none⟩) l.o _).setCell (p:=⟨f,1,none⟩) l.o _).setCell (p:=⟨f,2,none⟩) l.o _⟩
 |true=>
  go_wp2_with fail;refine pw (S:=(fun B=>JB w b3 f s H k v C z y e B)) (by kernel_rfl) d.o.drew (fun i=>?_);refine ml 1 (v:=?_) (fun j b=>?_) i ?_;rotate_left
  ·go_simp;try with_reducible rfl
  try simp only[ah,ai,aj,ak]
  refine ml 2 (v:=?_) (fun j b=>?_) i ?_;rotate_left
  ·obtain⟨-,-,-,a⟩:=eB b.2.1;go_simp;try with_reducible rfl
  try simp only[ah,ai,aj,ak]
  refine bC 0 (fun O a=>?_);go_simp;refine(PL _).m ?_;rintro e wn ⟨M,g,rfl,r,D,B⟩;have HM:=al (ab D B);clear D B
  try go_simp
  refine a.o _ _ (i.below r) ?_;clear a O i r;intro i
  try simp only[ah,ai,aj,ak]
  refine bC 3 (fun O a=>?_);have r:=HM.o.1.look Vl underlying153 (Tryz.Ti _) (Vm he);rw[HM.o.2 e]at r;go_simp;refine a.o _ _ (i) ?_;clear a O i r;intro i
  try simp only[ah,ai,aj,ak]
  refine ml 4 (v:=?_) (fun j b=>?_) i ?_;rotate_left
  ·go_simp;try with_reducible rfl
  try simp only[ah,ai,aj,ak]
  refine bC 5 (fun O a=>?_);have a':=i;obtain⟨-,-,-,kd,b⟩:=a';have Y:=al (show _=some (Obj.cells #[.int .i64 (Iq e),.int .i64 k,.int .i64 0] 50 (0,0))from by simpa using dd _ s 0 _ _ (.int .i64 (Iq e)) b);have E:=(av b).1.1;have j:=(av b).2 0;clear b;go_simp;refine a.o _ _ (i.acR o.o.1 (Nat.ne_of_lt o.o.2.1) (Nat.ne_of_lt o.o.d) _) ?_;clear a O i E j kd;intro i
  try simp only[ah,ai,aj,ak]
  refine qe (by kernel_rfl) ?_ _;obtain⟨r,D,j,kd,a⟩:=i;obtain rfl:kd=Iq e:=by simpa using a.symm.x Y.o
  obtain⟨B,b⟩:=rl (Iq e);have O:=al (show zh true e=B from b);rw[b]at r D j a⊢;obtain⟨x0,-,-,-⟩:=eB D;clear Y b d p;by_cases Y:B=1
  ·subst Y;have d:=E5 (v:=.int .i64 v) a;have b:=(Only.aR _ s 2 (.int .i64 v)).heap j (Nat.ne_of_lt o.o.d);have p:=al (ab b (r.setCell (p:=⟨s,2,none⟩) o.o.1 (.int .i64 v)));have E:=(av a).1.1;have W:=(av a).1.2.1;have p2:=(av a).1.2.2;have V:=(av a).2 0;have Z0:=(av a).2 1;have K:=(av a).2 2;have u0:=(av d).1.1;have u1:=(av d).1.2.1;have u2:=(av d).1.2.2;have ap:=(av d).2 0;have am:=(av d).2 1;have ac:=(av d).2 2;have S:=(av b).1.1;have Z:=(av b).1.2.1;have T:=(av b).1.2.2;have L:=(av b).2 0;have N:=(av b).2 1;have P:=(av b).2 2;clear r D j a d b;go_wp2_with fail;have u:=El (v0:=.int .i64 (1)) (v1:=.int .i64 k) (v2:=.int .i64 (v)) p.o.1;exact dj (results_cell_row rfl _ _ _ _ _ _ _ rfl u underlying50 rfl (by kernel_rfl)) rfl ⟨by rw[O.o];rfl,((p.o.2.setCell (p:=⟨f,0,none⟩) l.o _).setCell (p:=⟨f,1,none⟩) l.o _).setCell (p:=⟨f,2,none⟩) l.o _⟩
  by_cases t:B=2
  ·subst t;have d:=E5 (v:=.int .i64 v) a;have b:=(Only.aR _ s 2 (.int .i64 v)).heap j (Nat.ne_of_lt o.o.d);have p:=al (ab b (r.setCell (p:=⟨s,2,none⟩) o.o.1 (.int .i64 v)));have E:=(av a).1.1;have W:=(av a).1.2.1;have p2:=(av a).1.2.2;have V:=(av a).2 0;have Z0:=(av a).2 1;have K:=(av a).2 2;have u0:=(av d).1.1;have u1:=(av d).1.2.1;have u2:=(av d).1.2.2;have ap:=(av d).2 0;have am:=(av d).2 1;have ac:=(av d).2 2;have S:=(av b).1.1;have Z:=(av b).1.2.1;have T:=(av b).1.2.2;have L:=(av b).2 0;have N:=(av b).2 1;have P:=(av b).2 2;clear r D j a d b;go_wp2_with fail;have u:=El (v0:=.int .i64 (2)) (v1:=.int .i64 k) (v2:=.int .i64 (v)) p.o.1;exact dj (results_cell_row rfl _ _ _ _ _ _ _ rfl u underlying50 rfl (by kernel_rfl)) rfl ⟨by rw[O.o];rfl,((p.o.2.setCell (p:=⟨f,0,none⟩) l.o _).setCell (p:=⟨f,1,none⟩) l.o _).setCell (p:=⟨f,2,none⟩) l.o _⟩
  have b:(B==1)=false:=by simpa using Y
  have d:(B==2)=false:=by simpa using t
  have p:=al (ab j r);have E:=(av a).1.1;have W:=(av a).1.2.1;have p2:=(av a).1.2.2;have V:=(av a).2 0;have Z0:=(av a).2 1;have K:=(av a).2 2;have S:=(av j).1.1;have Z:=(av j).1.2.1;have T:=(av j).1.2.2;have L:=(av j).2 0;have N:=(av j).2 1;have P:=(av j).2 2;clear r D j a;go_wp2_with fail;have u:=El (v0:=.int .i64 (B)) (v1:=.int .i64 k) (v2:=.int .i64 (0)) p.o.1;exact dj (results_cell_row rfl _ _ _ _ _ _ _ rfl u underlying50 rfl (by kernel_rfl)) rfl ⟨by rw[O.o];unfold PK;rw[ff (by rintro(h|h);exact Y h;exact t h)],((p.o.2.setCell (p:=⟨f,0,none⟩) l.o _).setCell (p:=⟨f,1,none⟩) l.o _).setCell (p:=⟨f,2,none⟩) l.o _⟩
end
structure FE where
 id:Int
 ops:List aX
 args:List Int
 cls:List Cl
def Xw(n:Int):Prop:= -9223372036854775808<=n/\n<=9223372036854775807
def FE.fits(e:FE):Prop:=Xw e.id/\(∀o∈e.ops,o.fits)/\(∀n∈e.args,Xw n)/\ ∀c∈e.cls,c.fits
def jK(w:World)(G:Nat->Prop)(e:FE)(c b a:Value):Prop:=nV w G c e.ops/\Rd w G b (Rm e.args)/\cz w G a e.cls/\e.fits
def zj(e:FE)(c b a:Value):Value:=.agg #[rv e.id,c,b,a]
theorem jK.below{w w':World}{G:Nat->Prop}{e:FE}{c d b:Value}(h:jK w G e c d b)(a:Below w.heap.size w w'):jK w' G e c d b:=⟨bJ.below h.1 a,Rd.below h.2.1 a,bJ.below h.2.2.1 a,h.2.2.2⟩
theorem jK.mono{w:World}{G d:Nat->Prop}{e:FE}{c f b:Value}(h:jK w G e c f b)(a: ∀k,G k->d k):jK w d e c f b:=⟨bJ.m h.1 a,Rd.m h.2.1 a,bJ.m h.2.2.1 a,h.2.2.2⟩
abbrev jK.m:=@jK.mono
noncomputable def tD(l:List Cl):Int:=by
 classical
 exact if iR l≠0 then iR l else if ∃a,cG l a/\64<a.length then 23 else if cG l l then 0 else 17
def oU(l:List Int):Bool:=l.all (fun n=>decide (-1099511627776<=n)&&decide (n<=1099511627776))
def qu(e:FE):Int:=if 8<e.args.length then 23 else if oU e.args=false then 10 else 0
def uq(e:FE):Int:=if opsE e.ops≠0 then opsE e.ops else qu e
def nT(e:FE):Int:=if e.id<0\/1099511627776<e.id then 10 else uq e
noncomputable def mR(e:FE):Int:=if nT e≠0 then nT e else tD e.cls
theorem vH{e:FE}{v:Int}(h:nT e=v)(a:v≠0):mR e=v:=by unfold mR;rw[h,fi a]
theorem PN{e:FE}(h:nT e=0):mR e=tD e.cls:=by unfold mR;rw[ff (by rw[h];simp)]
theorem PO{e:FE}{p:Int}(h:opsE e.ops=p)(a:p≠0):uq e=p:=by unfold uq;rw[h,fi a]
theorem xX{e:FE}(h:opsE e.ops=0):uq e=qu e:=by unfold uq;rw[h,ff (by simp)]
theorem Iw{e:FE}(h:8<e.args.length):qu e=23:=by unfold qu;rw[fi h]
theorem Mg{e:FE}(h: ¬8<e.args.length)(a:oU e.args=false):qu e=10:=by unfold qu;rw[ff h,fi a]
theorem PQ{e:FE}(h: ¬8<e.args.length)(a:oU e.args=true):qu e=0:=by unfold qu;rw[ff h,ff (by rw[a];simp)]
theorem PR{l:List Cl}(h:iR l≠0):tD l=iR l:=by unfold tD;rw[fi h]
theorem PT{l out:List Cl}(h:iR l=0)(a:cG l out)(b:64<out.length):tD l=23:=by unfold tD;rw[ff (by simp[h]),fi ⟨out,a,b⟩]
theorem Mh{l out:List Cl}(h:iR l=0)(a:cG l out)(d:out.length<=64):tD l=if out=l then 0 else 17:=by
 unfold tD;rw[ff (by simp[h]),ff (fun⟨o,b,c⟩=>by have:=a.unique b;subst this;omega)];by_cases e:out=l
 ·rw[fi e,fi (by rw[e]at a;exact a)]
 ·rw[ff e,ff (fun b=>e (a.unique b))]
theorem pW.cls{l:List Cl}{w w':World}{v:Value}{n:Int}(h:pW l w v n w'):(n≠0/\tD l=n/\v=.slice none 0 0)\/(n=0/\ ∃a,cG l a/\a.length<=64/\tD l=(if a=l then 0 else 17)/\ ∃A c,v=.slice A a.length c/\w'.ownsRow w.heap.size 68 5 (.slice A a.length c) a.length (a.map Cl.cells).flatten):=by
 rcases h.2 with⟨b,rfl,rfl⟩|⟨b,a,d,⟨c,rfl,rfl⟩|⟨c,rfl,e⟩⟩
 ·exact .inl ⟨b,PR b,rfl⟩
 ·exact .inl ⟨by decide,PT b d c,rfl⟩
 ·exact .inr ⟨rfl,a,d,c,Mh b d c,e⟩
theorem Ty{l:List Int}{k:Nat}{n:Int}(b:l[k]?=some n)(h: ¬(-1099511627776<=n/\n<=1099511627776)):oU l=false:=by unfold oU;rw[Bool.eq_false_iff];intro a;rw[List.all_eq_true]at a;have:=a n (db b);rw[mw,decide_eq_true_iff,decide_eq_true_iff]at this;exact h this
theorem Mi(w:World)(G:Nat->Prop)(e:FE)(Y X V:Value)(s:jK w G e Y X V)(g:fK w)(aa:e.cls.length<=1000):
  Calls prog 59 #[zj e Y X V] w fun P m=>P=.returned (rv (mR e))/\Below w.heap.size w m:=by
 obtain⟨o,q,rfl,_,_⟩:=s.1.slice;obtain⟨v,x,rfl,NF,a'⟩:=Bd s.2.1;obtain⟨k,l,a,_,_⟩:=s.2.2.1.slice;subst a;have d:=WT s.2.1;unfold zj;obtain⟨c,a⟩:=rl (e.id);have f:nT e=if c<0\/1099511627776<c then 10 else uq e:=by unfold nT;rw[a]
 have b:=s.2.2.2.1;unfold Xw at b;rw[a]at b⊢;have j:=AN (ab f d) s g (aw w.heap.size w);clear g f a d;have a:mR e=if nT e≠0 then nT e else tD e.cls:=rfl
 have ap:=al a;clear a s;by_cases a:c<0\/1099511627776<c
 ·have t:=al (show mR e=10 from vH (by rw[j.o.1.1,fi a]) (by decide));rcases a with d|d
  ·clear b;go_enter func59,ntmps59;go_wp2_with fail;go_ret
   exact⟨by rw[t.o];rfl,(aw _ _).alloc (b8 _) _⟩
  ·have ac: ¬c<0:=by omega
   clear b;go_enter func59,ntmps59;go_wp2_with fail;go_ret
   exact⟨by rw[t.o];rfl,(aw _ _).alloc (b8 _) _⟩
 ·have ac: ¬c<0:=fun s=>a (.inl s);have am: ¬1099511627776<c:=fun s=>a (.inr s);have t:=al (show nT e=uq e by rw[j.o.1.1,ff a]);clear a b;go_enter func59,ntmps59;go_upto_region 3 with fail;have g:(w.alloc (sR c o e.ops.length q v e.args.length x k e.cls.length l)).cell? ⟨w.heap.size,1,none⟩=some (.slice o e.ops.length q):=by simp
  have a:(w.alloc (sR c o e.ops.length q v e.args.length x k e.cls.length l)).cell? ⟨w.heap.size,2,none⟩=some (.slice v e.args.length x):=by simp
  have f:(w.alloc (sR c o e.ops.length q v e.args.length x k e.cls.length l)).cell? ⟨w.heap.size,3,none⟩=some (.slice k e.cls.length l):=by simp
  have b:=(aw w.heap.size w).alloc (b8 _) (sR c o e.ops.length q v e.args.length x k e.cls.length l);generalize w.alloc (sR c o e.ops.length q v e.args.length x k e.cls.length l)=h at g a f b⊢;obtain⟨T,d⟩:=rl (w.heap.size);have I:=al b;rw[d]at g a f⊢;have n:=al d;clear b d;obtain⟨p,d⟩:=rl (opsE e.ops);have b:=Az h G (.slice o e.ops.length q) e.ops (bJ.below j.o.2.1.1 I.o) (j.o.d.1.below I.o);rw[d]at b;have E:=AI b d;clear b d;go_wp2_with fail;refine E.o.1.m ?_;rintro P w2 ⟨rfl,b⟩;have R:=(b.cell (p:=⟨T,2,none⟩) (aq _ _ a)).x a;have C:=(b.cell (p:=⟨T,3,none⟩) (aq _ _ f)).x f;have d:=al (I.o.x (b.m I.o.size));clear b g a f;by_cases y:p=0
  ·subst y;by_cases M:8<e.args.length
   ·have Z:(8:Int)<(e.args.length:Int):=by omega
    have u:=al (show mR e=23 from vH ((t.o.x (xX E.o.2)).x (Iw M)) (by decide));go_wp2_with fail;go_ret
    exact⟨by rw[u.o];rfl,by rw[n.o]at d;exact by rw[n.o];exact d.o⟩
   ·have Z: ¬((8:Int)<(e.args.length:Int)):=by omega
    have u:=al (show nT e=qu e from t.o.x (xX E.o.2));go_wp2_with fail
    go_loop [29] (fun i=> ∃L:Nat,L<=e.args.length/\i=rv (L:Int)/\oU (e.args.take L)=true) (fun i=>e.args.length-(intOf i).toNat)
    case atStart=>exact⟨0,dq _,rfl,rfl⟩
    case round=>
     obtain⟨L,J,rfl,a⟩:=hrel;by_cases z:L<e.args.length
     ·obtain⟨r,g⟩: ∃r,e.args[L]?=some r:=⟨_,ao z⟩;obtain⟨H,F,h,_,b⟩:=j.o.1.2.2.2.2 L r g;subst h;have K:=(d.o.cell (p:=⟨H,F+L,none⟩) (aq _ _ b)).x b;have h:=AI g a;clear g a b;by_cases b: -1099511627776<=r/\r<=1099511627776
      ·have B: ¬r< -1099511627776:=by omega
       have D: ¬1099511627776<r:=by omega
       have g:=al b;clear b;go_wp2_with fail
       go_round
       case rel=>refine⟨L+1,by omega,by go_num,?_⟩;have A:=h.o.2;unfold oU at A⊢;rw[ir,h.o.1,List.all_append,A];simp[g.o.1,g.o.2]
       case measure=>simp[intOf];omega
      ·have g:=al (show mR e=10 from vH (u.o.x (Mg M (Ty h.o.1 b))) (by decide));by_cases B:r< -1099511627776;rotate_left
       focus
        have D:1099511627776<r:=by omega
       all_goals
        clear b;go_wp2_with fail;go_ret
        exact⟨by rw[g.o];rfl,by rw[n.o]at d;exact by rw[n.o];exact d.o⟩
     ·obtain rfl:L=e.args.length:=by omega
      rw[gn]at a;have S:=al (show mR e=tD e.cls from PN (u.o.x (PQ M a)));clear a z J;go_wp2_with fail;refine(sY w2 G _ e.cls (bJ.below j.o.2.1.2.2.1 d.o) aa j.o.2.1.2.2.2.2.2.2).m ?_;intro P A H;obtain⟨u1,n1,rfl,r⟩:=H.named;have a:=r.1;have O:=(a.cell (p:=⟨T,3,none⟩) (aq _ _ C)).x C;have F:=al (d.o.x (a.m d.o.size));rcases r.cls with⟨B,z,rfl⟩|⟨rfl,b,N,ad,K,h,g,rfl,Q⟩
      ·have D:(n1 !=0)=true:=by simpa using B
       have J:=al z;clear B z a r H;go_wp2_with fail;go_ret
       exact⟨by rw[S.o,J.o];rfl,by have:=F.o.alloc F.o.size sE;rw[n.o]at this⊢;exact this⟩
      ·have J:=AI K N;have z:cz (A.alloc (sP h b.length g)) (fun _=>True) (.slice h b.length g) b:=bJ.below (xN Q) (fG _ _);have D:(A.alloc (sP h b.length g)).cell? ⟨A.heap.size,0,none⟩=some (.slice h b.length g):=by simp
       have f:=aJ O (sP h b.length g);have B:=F.o.alloc F.o.size (sP h b.length g);clear K N a r H Q O R C;go_upto_region 17 with fail;generalize A.alloc (sP h b.length g)=r at z D f B⊢;obtain⟨H,a⟩:=rl (A.heap.size);rw[a]at D⊢;have HQ:=al z;have C:=al B;clear z B a;refine pw (S:=(fun m=>Below r.heap.size r m/\m.cell? ⟨T,3,none⟩=some (.slice k e.cls.length l)/\m.cell? ⟨H,0,none⟩=some (.slice h b.length g))) (by kernel_rfl) ⟨(aw _ _).drew,(((aw _ _).drew).cell (p:=⟨T,3,none⟩) (aq _ _ f)).x f,(((aw _ _).drew).cell (p:=⟨H,0,none⟩) (aq _ _ D)).x D⟩ (fun a=>?_);refine ag (i:=0) (v:=?_) rfl (by kernel_rfl) (by kernel_rfl) (by kernel_rfl) (fun _ _ _ s=>s) (by rfl) (fun Q m=>?_) a ?_;rotate_left
       ·obtain⟨N,R,O⟩:=m;go_simp;try rfl
       try simp only[xT]
       refine ag (i:=2) (v:=?_) rfl (by kernel_rfl) (by kernel_rfl) (by kernel_rfl) (fun _ _ _ s=>s) (by rfl) (fun Q m=>?_) a ?_;rotate_left
       ·obtain⟨N,R,O⟩:=m;go_simp;try rfl
       try simp only[xT]
       refine ag (i:=3) (v:=?_) rfl (by kernel_rfl) (by kernel_rfl) (by kernel_rfl) (fun _ _ _ s=>s) (by rfl) (fun Q m=>?_) a ?_;rotate_left
       ·obtain⟨N,R,O⟩:=m;go_simp;try rfl
       try simp only[xT]
       refine qn (rs:=[1]) (by kernel_rfl) (by simp) (au (i:=1) rfl (fun K z=>?_) pt);go_simp;refine(sO _ (fun _=>True) (.slice h b.length g) b (HQ.o.below a.1) (by omega)).m ?_;rintro e wn ⟨A5,c5,rfl,B,r⟩;have Vo:=al B;clear B
       try go_simp
       refine z.o _ _ (⟨a.1.x (r.m a.1.size),(r.cell (p:=⟨T,3,none⟩) (aq _ _ a.2.1)).x a.2.1,(r.cell (p:=⟨H,0,none⟩) (aq _ _ a.2.2)).x a.2.2⟩) ?_;clear z K a;intro a
       try simp only[xT]
       refine qn (rs:=[4]) (by kernel_rfl) (by simp) (au (i:=4) rfl (fun K z=>?_) pt);go_simp;refine(Ou _ (fun _=>True) (fun _=>True) (.slice A5 b.length c5) (.slice k e.cls.length l) b e.cls (xN Vo.o) (bJ.m (bJ.below j.o.2.1.2.2.1 (C.o.x (a.1.m C.o.size))) (fun _ _=>trivial)) (by omega)).m ?_;rintro e wn ⟨W,U,rfl,r⟩;have B:=al (show mQ W (b=e.cls)from U);clear U
       try go_simp
       refine z.o _ _ (⟨a.1.x (r.m a.1.size),(r.cell (p:=⟨T,3,none⟩) (aq _ _ a.2.1)).x a.2.1,(r.cell (p:=⟨H,0,none⟩) (aq _ _ a.2.2)).x a.2.2⟩) ?_;clear z K a;intro a
       try simp only[xT]
       refine ag (i:=5) (v:=?_) rfl (by kernel_rfl) (by kernel_rfl) (by kernel_rfl) (fun _ _ _ s=>s) (by rfl) (fun Q m=>?_) a ?_;rotate_left
       ·obtain⟨N,R,O⟩:=m;go_simp;try rfl
       try simp only[xT]
       refine qe (by kernel_rfl) ?_ _;have m:=al (C.o.x (a.1.m C.o.size));clear a
       cases W with
       |true=>
        have a:=al B.o.pos;clear B;go_wp2_with fail;go_ret
        exact⟨by rw[S.o,J.o.1,fi a.o];rfl,m.o⟩
       |false=>
        have a:=al B.o.neg;clear B;go_wp2_with fail;go_ret
        exact⟨by rw[S.o,J.o.1,ff a.o];rfl,m.o⟩
  ·have a:(p !=0)=true:=by simpa using y
   have u:=al (show mR e=p from vH (t.o.x (PO E.o.2 y)) y);clear y;go_wp2_with fail;go_ret
   exact⟨by rw[u.o];rfl,by rw[n.o]at d;exact by rw[n.o];exact d.o⟩

end Go.Proofs.YtehccbdajiiaaaaGreatDoor
