import Derived.Test.YtehccbdajiiaaaaGreatDoorS20
import Derived.Test.YtehccbdajiiaaaaGreatDoorS23
import Derived.Test.YtehccbdajiiaaaaGreatDoorS36
namespace Go.Proofs.YtehccbdajiiaaaaGreatDoor
open Go.Proofs.Tryz
set_option maxRecDepth 100000
set_option maxHeartbeats 16000000
open Go.RowKit
section
open Go.ChangeShapes Go.WideShapes Go.ChangeAt Go.RowKit Go.Deep
end
theorem fM(W:World)(o:Obj):Below W.heap.size W (W.alloc o):=(bd _ _).alloc (b8 _) _
def nj(b:Bool)(p:Prop):Prop:=b=true↔p
theorem nj.yes{p:Prop}(h:p):nj true p:=⟨fun _=>h,fun _=>rfl⟩
theorem nj.no{p:Prop}(h: ¬p):nj false p:=⟨(fun e=>by cases e),fun e=>absurd e h⟩
theorem nj.pos{p:Prop}(h:nj true p):p:=h.1 rfl
theorem nj.neg{p:Prop}(h:nj false p): ¬p:=fun e=>by have:=h.2 e;cases this
theorem UK(p:Prop): ∃b:Bool,nj b p:=by
 by_cases h:p
 ·exact⟨true,.yes h⟩
 ·exact⟨false,.no h⟩
theorem eI.below{w w':World}{F:Nat->Prop}{v:Value}{l:List Cl}(h:eI w F v l)(a:Below w.heap.size w w'):eI w' F v l:=bI.below h a
def Ans(b:Bool)(w:World)(e:Ending)(w':World):Prop:=e=.returned (.bool b)/\Below w.heap.size w w'
theorem fJ.ans{p:Prop}{r:Bool}(d:r=true↔p){w:World}{e:Ending}{w':World}(h:fJ p w e w'):Ans r w e w':=by
 obtain⟨b,c,rfl,a⟩:=h
 have:b=r:=by cases b<;>cases r<;>simp_all
 subst this;exact⟨rfl,a⟩
theorem p8{w:World}{F G:Nat->Prop}{v u:Value}{a b:List Cl}(r:Bool)(g:nj r (iC a b))(h:eI w F v a)(i:eI w G u b)(f:a.length<=1000000)(d:b.length<=1000000)(c:Good a)(e:Good b):
  Calls prog 64 #[.agg #[v],.agg #[u]] w (Ans r w):=(Mg w F G v u a b h i f d c.proper c.fits e.fits).m fun _ _ j=>j.ans g
theorem aS{P:Program}{md:Region.Mode}{l:List Oper}{Q:Exit->Act->World->Prop}{S:World->Prop}{i:Nat}{c:Oper}{fuel:Nat}{b:Array Bool}{a:Act}{w:World}(hi:l[i]?=some c)
  (d:Region.noSelect l.toArray=true) (e:Region.free md l.toArray b i=true) (f:(Region.ready md l.toArray b).contains i=true)
  (j: ∀g a w,Q (.panic g) (a.put c.dst undef) w->Q (.panic g) a w) (h:Region.wanted c (yielded l.toArray a.tmps)=false) (g:S w)
  (k:wpAnyH P md l.toArray Q S fuel (b.setIfInBounds i true) (a.put c.dst undef) w):wpAnyH P md l.toArray Q S (fuel+1) b a w:=
 wpAnyH_take (by simpa using hi) d e f j (.inr ⟨h,rfl⟩) g k
theorem su.good{l:List Cl}{w w':World}{v:Value}{n:Int}(h:su l w v n w')(b: ∀c∈l,Ok c): ∃a,dE l a/\((64<a.length/\v=.slice none 0 0/\n=23)\/
  (a.length<=64/\n=0/\ ∃A c,v=.slice A a.length c/\w'.ownsRow w.heap.size 68 5 (.slice A a.length c) a.length (a.map Cl.cells).flatten)):=by
 rcases h.2 with⟨a,_⟩|⟨a,c⟩
 ·exact absurd (si b) a
 ·exact c
def aV(a:Cl->Bool):List Cl->List Cl->List Cl×Int
 |cl,[]=>(cl,0)
 |cl,c::l=>if 64<(bC (cl++[c])).length then(cl,23)else if a c then aV a (cl++[c]) l else(cl,21)
def yO(w:World)(S:Nat->Prop)(v:Value)(b:Cl->Bool):Prop:=
 (v=.pointer none/\ ∀c,b c=true)\/ ∃B a f,v=rv B/\ ¬S B/\w.cell? ⟨B,0,none⟩=some a/\eI w (fun k=> ¬S k) a f/\f.length<=1000/\Good f/\ ∀c,Ok c->nj (b c) (iC [c] f)
theorem yO.only{w w':World}{S T:Nat->Prop}{v:Value}{c:Cl->Bool}(h:yO w S v c)(a:Only T w w')(b: ∀l,T l->S l):yO w' S v c:=by
 rcases h with h|⟨B,e,m,j,d,k,i,f⟩
 ·exact .inl h
 ·exact .inr ⟨B,e,m,j,d,a.cell k (fun h=>d (b _ h)),i.only a (fun l g h=>g (b l h)),f⟩
def jN(w:World)(S:Nat->Prop)(v:Value)(a:List Cl):Prop:=eI w (fun k=> ¬S k) v (bC a)/\(bC a).length<=64/\Good a
theorem jN.only{w w':World}{S T:Nat->Prop}{v:Value}{a:List Cl}(h:jN w S v a)(b:Only T w w')(d: ∀k,T k->S k):jN w' S v a:=
 ⟨h.1.only b (fun k c h=>c (d k h)),h.2⟩
theorem iL{c:Cl}(h:Ok c)(b:c.fits):Good [c]:=fun x a=>by
 rw[gk]at a;subst a;exact⟨h,b⟩
def Q3(w:World)(S:Nat->Prop)(M:Nat)(s:MS)(c:Cl->Bool)(e l:List Cl)(k:Nat)(a:World):Prop:=
 ∃b d,aK a M {s with foot:=b}/\jN a S b d/\Only (fun k=>k=M) w a/\aV c e l=aV c d (l.drop k)
def YL(w:World)(S:Nat->Prop)(M:Nat)(s:MS)(b:Cl->Bool)(c l:List Cl)(e:Ending)(w':World):Prop:=
 ∃a,e=.returned (rm (aV b c l).2)/\aK w' M {s with foot:=a}/\jN w' S a (aV b c l).1/\Only (fun k=>k=M) w w'
theorem og{l:List Cl}{k:Nat}{x:Cl}(a:k<l.length)(b:l[k]?=some x):l.drop k=x::l.drop (k+1):=by rw[List.drop_eq_getElem_cons a,(List.getElem?_eq_some_iff.1 b).2]
theorem aK.Ws{w:World}{M:Nat}{s:MS}(h:aK w M s)(n:Nat):aK (w.drewN n) M s:=h
theorem jN.aR{w:World}{S:Nat->Prop}{v:Value}{a:List Cl}{MM:Nat}(h:jN w S v a)(b:S MM)(n i:Nat){u:Value}:jN ((w.drewN n).setCell ⟨MM,i,none⟩ u) S v a:=
 h.only (ma w n MM i u) (fun k c=>by subst c;exact b)
theorem Lc(w:World)(a b:Obj):((w.alloc a).alloc b).heap[w.heap.size+1]?=some b:=by have:=an (w.alloc a) b;rwa[show(w.alloc a).heap.size=w.heap.size+1 by simp]at this
theorem BZ(w:World)(a b:Obj):Below w.heap.size w ((w.alloc a).alloc b):=((bd _ _).alloc (b8 _) _).alloc (by simp) _
theorem Q4(w:World)(S:Nat->Prop)(M:Nat)(s:MS)(ok:Cl->Bool)(cl l:List Cl)(v:Value)(C:aK w M s)(b:S M)(f: ∀u,S u->u<w.heap.size)(d:jN w S s.foot cl)(e:yO w S s.may ok)(a:eI w (fun u=> ¬S u) v l)(_b7:l.length<=1000)(X:Good l):
  Calls prog 163 #[rv M,v] w (YL w S M s ok cl l):=by
 obtain⟨A,c,rfl,b4,bv⟩:=a.slice;unfold maxLen at bv;have H0:=al (show Q3 w S M s ok cl l 0 w from⟨s.foot,cl,C,d,oE _ _,rfl⟩);have E:=AM b f e a X;clear C b f d e a X;go_enter func163,ntmps163;go_wp2_with fail
 go_loopw [12] (fun i wr=> ∃u:Nat,u<=l.length/\i=rm (u:Int)/\Q3 w S M s ok cl l u wr) (fun i _=>l.length-(intOf i).toNat)
 case atStart=>exact⟨0,dq _,rfl,H0.o⟩
 case round=>
  obtain⟨u,O,rfl,hR⟩:=hrel;by_cases bk:u<l.length
  ·obtain⟨x,f⟩: ∃x,l[u]?=some x:=⟨_,ao bk⟩;have HR:=AD hR f;obtain⟨f1,p,r1,r2,F,Q⟩:=hR;have d:=E.o.t.1.only F (fun u O C=>O (by subst C;exact E.o.1));obtain⟨b,o,rfl,hF,H,G,K,I,J⟩:=eI.at_ d f;have a:=E.o.q x (db f);have t:=AD a.1 a.2;clear f d a r1 r2 F Q;obtain⟨j,m,k,h,d⟩:=x;simp only at H G K I J;have k0:=Lc wr (sd j m k.toArray h d) (sd j m k.toArray h d);have b0:=BZ wr (sd j m k.toArray h d) (sd j m k.toArray h d);have a:=AD k0 b0;clear k0 b0;go_wp2_with fail;have Kl:=a.o;clear a;generalize (wr.alloc (sd j m k.toArray h d)).alloc (sd j m k.toArray h d)=a at Kl⊢;obtain⟨k0,b0⟩:=Kl;refine(C4 _ (fun _=>True) _ [⟨j,m,k,h,d⟩] (mr k0 rfl trivial (by simp[maxLen])) (by simp) (fun c P=>by rw[gk]at P;subst P;exact t.o.2)).m ?_;intro e a mI;obtain⟨v2,n2,rfl,R⟩:=mI.named;have r:=b0.x (R.1.m b0.size);have a':=R.norm (fun c P=>by rw[gk]at P;subst P;exact t.o.1);rw[tY t.o.1]at a';rcases a' with⟨gu,_⟩|⟨_,rfl,A2,c2,rfl,z⟩
   ·simp at gu
   obtain⟨⟨f1,p,r1,r2,F,Q⟩,f⟩:=HR.o;have B: ∀u,S u->u<wr.heap.size:=fun u O=>da (E.o.2.1 u O) F.size
   have D:eI a (fun u=> ¬S u) (.slice A2 1 c2) [⟨j,m,k,h,d⟩]:=bI.bO z (dK _) (by decide) (fun g X hs=>by
    have h1:=(z.lt g X).1;have h2:=B g hs;have h3:=b0.size
    omega)
   have q:=r1.below r;have y:=r2.only (qS r) (fun _ C=>C.elim);obtain⟨U,V,rfl,vN,b6⟩:=y.1.slice;have ba:=q.foot;have b':=q.may;have lM:=q.lt;simp only at ba b';have n:=AN D q y (F.x (oB r _) (fun _ _ C=>C)) Q f;clear mI R r z r1 r2 F Q f D q y H G K I J B;obtain⟨Y,f⟩:=rk ((bC p).length);rw[f]at ba vN;have a3:=al f;clear f
   -- BEGIN ROUND
   have aa:u<l.length:=bk;have B:=Lc a (tc A2 1 c2) (tc U Y V);have f:=BZ a (tc A2 1 c2) (tc U Y V);have y:=(pR (a.alloc (tc A2 1 c2)) (tc U Y V)).block a.heap.size (by simp);rw[heap_alloc_new a (tc A2 1 c2)]at y;have q:=AF B f y;clear B f y;go_wp2_with fail;have bb:=q.o;clear q;generalize (a.alloc (tc A2 1 c2)).alloc (tc U Y V)=q at bb⊢;obtain⟨B,f,y⟩:=bb;have G:=n.o.2.1.below f;have z:=n.o.d.1.only (qS f) (fun _ C=>C.elim);have K:=n.o.t.1.x (oB f (fun u=>u=M)) (fun _ _ C=>C);have F:=n.o.1.below f;rw[a3.o]at G z;have N:Good p:=z.2.2;obtain⟨r,hr⟩:=UK (iC [(⟨j,m,k,h,d⟩:Cl)] (bC p));have b1:([(⟨j,m,k,h,d⟩:Cl)]).length<=1000000:=by simp
   refine(p8 r hr F z.1 b1 (by have:=z.2.1;omega) (iL t.o.1 t.o.2) (lJ N)).m ?_;rintro e w5 ⟨rfl,q⟩;have D:=G.below q;have I:=z.only (qS q) (fun _ C=>C.elim);have Z:=K.x (oB q (fun u=>u=M)) (fun _ _ C=>C);have L:=qt q y;have H:=qt q B;have r5:=F.below q;have J:=f.x (q.m f.size);have Nl:=al J;clear G z K y B F f q J
   cases r with
   |true=>
    have f:=C6 N.ok (iL t.o.1 t.o.2).ok (by rw[tY t.o.1];exact hr.pos);have HL:=al (show ¬64<(bC (p++[⟨j,m,k,h,d⟩])).length by rw[f];have:=I.2.1;omega);have ad:=I
    replace I:jN w5 S (.slice U Y V) (p++[⟨j,m,k,h,d⟩]):=⟨by rw[f];exact I.1,by rw[f];exact I.2.1,N.append (iL t.o.1 t.o.2)⟩
    have RW:=al r5;clear f hr N r5;have y:=AN D I Z ad L H;have d7:=aL L;have d9:=aL H;have T:=D.may;have a2:=D.free 31;have YN:=D.foot;have YO:=D.lt;have a6:=aM L;have a5:=aM H;have n7: ¬a.heap.size=M:=by omega
    have n9: ¬a.heap.size+1=M:=by omega
    simp only at T YN;have Dv:=E.o.d.1.only Z (fun u O=>by subst O;exact E.o.1);clear D I Z ad L H;rcases Dv with⟨G,am⟩|⟨B,fv,f,G,hB,YP,ac,a4,a0,a1⟩
    ·rw[G]at T;have K:=AD G am;clear G am;go_wp2_with fail;go_quiet(fail);go_wp2_with fail;go_roundw
     case rel=>
      refine⟨u+1,by omega,by go_num,.slice U Y V,p++[⟨j,m,k,h,d⟩],(y.o.1.Ws _).vY _,y.o.2.1.aR (MM:=M) E.o.1 _ _,?_,?_⟩
      ·exact(y.o.d.1.drewN _).setCell (p:=⟨M,31,none⟩) (fun _=>rfl) _
      ·rw[n.o.q.1,og aa n.o.q.2,aV,fb HL.o,ff (K.o.2 _)]
     case measure=>simp[intOf];omega
    ·rw[G]at T;obtain⟨A6,c6,rfl,_⟩:=ac.slice;have lB:=aq _ _ YP;have bx: ¬B=M:=fun e=>hB (by rw[e];exact E.o.1);have K:=AM G ac a4 a0 (a1 _ t.o.1);clear G hB ac a4 a0 a1;obtain⟨q,hq⟩:=rk (ok ⟨j,m,k,h,d⟩);have HQ:=AD (hq▸K.o.q) hq;clear hq;go_wp2_with fail
     go_region_held3 (fun W=>W.cell? ⟨a.heap.size,0,none⟩=some (.slice A2 1 c2)/\W.cell? ⟨M,28,none⟩=some (rv B)/\W.cell? ⟨B,0,none⟩=some (.slice A6 f.length c6)) (first|exact⟨by assumption,by assumption,by assumption⟩|go_keep) (first|(go_at_call 64;refine(p8 q HQ.o.1 (RW.o.below ((bd _ _).drew)) (K.o.2.1.below ((bd _ _).drew)) (by simp) (by have:=K.o.d.1;omega) (iL t.o.1 t.o.2) K.o.t.1).m ?_;rintro e w6 ⟨rfl,fW⟩;have z:Below w5.heap.size w5 w6:=dV fW;have b2:=(z.cell (p:=⟨a.heap.size,0,none⟩) a6).x d7;have bm:=(z.cell (p:=⟨a.heap.size+1,0,none⟩) a5).x d9;have bn:=(z.cell (p:=⟨M,28,none⟩) YO).x T;have bs:=(z.cell (p:=⟨M,31,none⟩) YO).x YN;have bo:=(z.frozen (p:=⟨M,31,none⟩) YO).x a2;have bp:=(z.cell (p:=⟨B,0,none⟩) lB).x YP;have J:=al z;clear fW z))
     clear d7 d9 T YN a2 YP
     cases q with
     |false=>
      go_wp2_with fail;go_ret
      have hE:aV ok cl l=(p,21):=by rw[n.o.q.1,og aa n.o.q.2,aV,fb HL.o,HQ.o.2];rfl
      have DW:=qS J.o;exact⟨.slice U Y V,by rw[hE];rfl,y.o.1.below J.o,by rw[hE];exact y.o.t.1.only DW (fun _ C=>C.elim),y.o.d.1.x (oB J.o (fun u=>u=M)) (fun _ _ C=>C)⟩
     |true=>
      go_wp2_with fail;go_roundw
      case rel=>
       refine⟨u+1,by omega,by go_num,.slice U Y V,p++[⟨j,m,k,h,d⟩],(y.o.1.below J.o).vY _,?_,?_,?_⟩
       ·exact(y.o.2.1.only (qS J.o) (fun _ C=>C.elim)).only (bg w6 M 31 _) (fun u O=>by subst O;exact E.o.1)
       ·exact(y.o.d.1.x (oB J.o (fun u=>u=M)) (fun _ _ C=>C)).setCell (p:=⟨M,31,none⟩) (fun _=>rfl) _
       ·rw[n.o.q.1,og aa n.o.q.2,aV,fb HL.o,HQ.o.2];rfl
      case measure=>simp[intOf];omega
   |false=>
    have ap:=hr.neg;have HW:=AN D I Z L H r5;have d7:=aL L;have d9:=aL H;have a8:=bL H;have a6:=aM L;have a5:=aM H;have HC:=al (Ua w5 (fun u=> ¬S u) (fun u=> ¬S u) _ _ (bC p) [⟨j,m,k,h,d⟩] I.1 r5 (by have:=I.2.1;omega) (by simp) (lJ N).fits (iL t.o.1 t.o.2).fits);have a7:=al N;clear D I Z L H r5 hr ap N;go_wp2_with fail;refine HC.o.m ?_;intro e w8 mI;obtain⟨v8,n8,rfl,R⟩:=mI.named;have zx:=R.1;have a':=R.norm (fun c P=>(dr.1 P).elim (fun C=>(lJ a7.o).ok c C) (fun C=>(iL t.o.1 t.o.2).ok c C));rw[Fx a7.o (iL t.o.1 t.o.2).ok]at a';have P:=qt zx HW.o.t.1;have N:=qt zx HW.o.q.1;have br:=aL N;have b3:=bL N;have ap:=AF zx P N;clear mI R zx P N d7 d9 a8 HC;rcases a' with⟨gu,rfl,rfl⟩|⟨a9,rfl,P,R,rfl,D3⟩
    ·have HL:=al gu;clear gu;go_wp2_with fail;go_ret
     have hE:aV ok cl l=(p,23):=by rw[n.o.q.1,og aa n.o.q.2,aV,ff HL.o]
     have N:Below a.heap.size a (w8.setCell ⟨a.heap.size+1,0,none⟩ (.slice none 0 0)):=(Nl.o.x (ap.o.1.m Nl.o.size)).setCell (p:=⟨a.heap.size+1,0,none⟩) (Nat.le_succ _) _;have a8:=n.o.2.1.below N;rw[a3.o]at a8;have bc:=n.o.d.1.only (qS N) (fun _ C=>C.elim);rw[a3.o]at bc;exact⟨.slice U Y V,by rw[hE];rfl,a8,by rw[hE];exact bc,n.o.t.1.x (oB N (fun u=>u=M)) (fun _ _ C=>C)⟩
    ·have N:Below a.heap.size a (w8.setCell ⟨a.heap.size+1,0,none⟩ (.slice P (bC (p++[⟨j,m,k,h,d⟩])).length R)):=(Nl.o.x (ap.o.1.m Nl.o.size)).setCell (p:=⟨a.heap.size+1,0,none⟩) (Nat.le_succ _) _
     have bl:eI w8 (fun u=> ¬S u) (.slice P (bC (p++[⟨j,m,k,h,d⟩])).length R) (bC (p++[⟨j,m,k,h,d⟩])):=bI.bO D3 (dK _) (by decide) (fun g X hs=>by
      have h1:=(D3.lt g X).1;have h2:=E.o.2.1 g hs;have h3:=n.o.t.1.size;have h4:=Nl.o.size
      omega)
     have bf:(Value.slice P (bC (p++[⟨j,m,k,h,d⟩])).length R).ownBlock≠some (a.heap.size+1):=cD D3 ap.o.d (by decide)
     have bi:jN (w8.setCell ⟨a.heap.size+1,0,none⟩ (.slice P (bC (p++[⟨j,m,k,h,d⟩])).length R)) S (.slice P (bC (p++[⟨j,m,k,h,d⟩])).length R) (p++[⟨j,m,k,h,d⟩]):=by
      refine⟨?_,a9,a7.o.append (iL t.o.1 t.o.2)⟩;have ho:=aJ D3 (bg w8 (a.heap.size+1) 0 (.slice P (bC (p++[⟨j,m,k,h,d⟩])).length R)) (fun g X e=>by subst e;exact bf X)
      exact bI.bO ho (dK _) (by decide) (fun g X hs=>by
       have h1:=(D3.lt g X).1;have h2:=E.o.2.1 g hs;have h3:=n.o.t.1.size;have h4:=Nl.o.size
       omega)
     have HL:=al (show ¬64<(bC (p++[⟨j,m,k,h,d⟩])).length by omega);have bc:=(heap_setCell_other w8 ⟨a.heap.size+1,0,none⟩ a.heap.size (.slice P (bC (p++[⟨j,m,k,h,d⟩])).length R) (by simp)).x ap.o.2.1;have bh:=dp w8 (a.heap.size+1) 0 _ _ (.slice P (bC (p++[⟨j,m,k,h,d⟩])).length R) ap.o.d;have a8:=AI N bi bc bh;obtain⟨N7,g⟩:=rk ((bC (p++[⟨j,m,k,h,d⟩])).length);have b5:=al g;clear N bl bf bi bc bh D3 a9;rw[g]at a8⊢;clear g;go_upto_region 12 with fail;have g:=a8.o;clear a8;generalize w8.setCell ⟨a.heap.size+1,0,none⟩ (.slice P N7 R)=w9 at g⊢;obtain⟨N,I,L,H⟩:=g;have D:=n.o.2.1.below N;rw[a3.o]at D;have ad:=n.o.d.1.only (qS N) (fun _ C=>C.elim);rw[a3.o]at ad;have Z:=n.o.t.1.x (oB N (fun u=>u=M)) (fun _ _ C=>C);have RW:=al (n.o.1.below N);clear N br b3;have y:=AN D I Z ad L H;have d7:=aL L;have d9:=aL H;have T:=D.may;have a2:=D.free 31;have YN:=D.foot;have YO:=D.lt;have a6:=aM L;have a5:=aM H;have n7: ¬a.heap.size=M:=by omega
     have n9: ¬a.heap.size+1=M:=by omega
     simp only at T YN;have Dv:=E.o.d.1.only Z (fun u O=>by subst O;exact E.o.1);clear D I Z ad L H;rcases Dv with⟨G,am⟩|⟨B,fv,f,G,hB,YP,ac,a4,a0,a1⟩
     ·rw[G]at T;have K:=AD G am;clear G am;go_wp2_with fail;go_quiet(fail);go_wp2_with fail;go_roundw
      case rel=>
       refine⟨u+1,by omega,by go_num,.slice P N7 R,p++[⟨j,m,k,h,d⟩],(y.o.1.Ws _).vY _,y.o.2.1.aR (MM:=M) E.o.1 _ _,?_,?_⟩
       ·exact(y.o.d.1.drewN _).setCell (p:=⟨M,31,none⟩) (fun _=>rfl) _
       ·rw[n.o.q.1,og aa n.o.q.2,aV,fb HL.o,ff (K.o.2 _)]
      case measure=>simp[intOf];omega
     ·rw[G]at T;obtain⟨A6,c6,rfl,_⟩:=ac.slice;have lB:=aq _ _ YP;have bx: ¬B=M:=fun e=>hB (by rw[e];exact E.o.1);have K:=AM G ac a4 a0 (a1 _ t.o.1);clear G hB ac a4 a0 a1;obtain⟨q,hq⟩:=rk (ok ⟨j,m,k,h,d⟩);have HQ:=AD (hq▸K.o.q) hq;clear hq;go_wp2_with fail
      go_region_held3 (fun W=>W.cell? ⟨a.heap.size,0,none⟩=some (.slice A2 1 c2)/\W.cell? ⟨M,28,none⟩=some (rv B)/\W.cell? ⟨B,0,none⟩=some (.slice A6 f.length c6)) (first|exact⟨by assumption,by assumption,by assumption⟩|go_keep) (first|(go_at_call 64;refine(p8 q HQ.o.1 (RW.o.below ((bd _ _).drew)) (K.o.2.1.below ((bd _ _).drew)) (by simp) (by have:=K.o.d.1;omega) (iL t.o.1 t.o.2) K.o.t.1).m ?_;rintro e w6 ⟨rfl,fW⟩;have z:Below w9.heap.size w9 w6:=dV fW;have b2:=(z.cell (p:=⟨a.heap.size,0,none⟩) a6).x d7;have bm:=(z.cell (p:=⟨a.heap.size+1,0,none⟩) a5).x d9;have bn:=(z.cell (p:=⟨M,28,none⟩) YO).x T;have bs:=(z.cell (p:=⟨M,31,none⟩) YO).x YN;have bo:=(z.frozen (p:=⟨M,31,none⟩) YO).x a2;have bp:=(z.cell (p:=⟨B,0,none⟩) lB).x YP;have J:=al z;clear fW z))
      clear d7 d9 T YN a2 YP
      cases q with
      |false=>
       go_wp2_with fail;go_ret
       have hE:aV ok cl l=(p,21):=by rw[n.o.q.1,og aa n.o.q.2,aV,fb HL.o,HQ.o.2];rfl
       have DW:=qS J.o;exact⟨.slice U Y V,by rw[hE];rfl,y.o.1.below J.o,by rw[hE];exact y.o.t.1.only DW (fun _ C=>C.elim),y.o.d.1.x (oB J.o (fun u=>u=M)) (fun _ _ C=>C)⟩
      |true=>
       go_wp2_with fail;go_roundw
       case rel=>
        refine⟨u+1,by omega,by go_num,.slice P N7 R,p++[⟨j,m,k,h,d⟩],(y.o.1.below J.o).vY _,?_,?_,?_⟩
        ·exact(y.o.2.1.only (qS J.o) (fun _ C=>C.elim)).only (bg w6 M 31 _) (fun u O=>by subst O;exact E.o.1)
        ·exact(y.o.d.1.x (oB J.o (fun u=>u=M)) (fun _ _ C=>C)).setCell (p:=⟨M,31,none⟩) (fun _=>rfl) _
        ·rw[n.o.q.1,og aa n.o.q.2,aV,fb HL.o,HQ.o.2];rfl
       case measure=>simp[intOf];omega
   -- END ROUND
  ·obtain rfl:u=l.length:=by omega
   obtain⟨f1,p,r1,r2,F,Q⟩:=hR;rw[List.drop_length]at Q;have HR:=AI r1 r2 F Q;clear r1 r2 F Q;go_wp2_with fail;go_ret
   obtain⟨r1,r2,F,Q⟩:=HR.o;exact⟨f1,by rw[Q];rfl,r1,by rw[Q];exact r2,F⟩

def Js(e:Int):Int:=if e=0 then 1 else if e=19 then 2 else if e=21 then 3 else if e=20 then 4 else if e=16 then 5 else if e=23 then 6 else 0
def known(e:Int):Prop:=e=0\/e=19\/e=20\/e=16\/e=23\/e=21
def Aw(q:Bool)(e:Int):Int:=match q with|true=>Js e|false=>3
def Q6(k v:Int):Int:=if k=1\/k=2 then v else 0
section
open Go.RowKit Go.Maps Go.WideShapes
theorem Wt:Keyed prog 33:=int_keyed underlying33
theorem Wu{i:Int}(h:lq i):keyOf prog 33 (.int .i64 i)=some (.int .i64 i):=keyOf_int_mk underlying33 (acR h)
theorem adt(g:Value->Option Value)(a x:Int)(v:Value):oF g (rm a) (some v) (rm x)=if x=a then some v else g (rm x):=by
 by_cases h:x=a
 ·subst h;rw[pS,ff rfl]
 ·rw[nN _ _ (fun e=>h (by injection e)),fb h]
theorem Dw{w w1 w2:World}{M:Nat}(a:Below w.heap.size w w1)(c:w.heap.size<=M)(b:Only (fun k=>k=M) w1 w2):Below w.heap.size w w2:=
 a.x (b.aH a.size (fun k d e=>by omega))
theorem Ay{P:Program}(w:World){ops:Array Oper}{d:List Oper}{o:Oper}{a:Act}{Q:Exit->Act->World->Prop}(y:o.guard=none)(m x v:Operand)(t:TypeId)(k:o.op=Op.insert t m x v){K e:TypeId}(L:Keyed P K)(p:P.underlying t=some (.map K e)){b n:Nat}{g:Value->Option Value}
  (q:a.eval m=.map (some b)) (i:bX P w K b n g) (r:n<maxLen) {key val:Value} {s:Lit} (u:a.eval x=key) (A:a.eval v=val) (h:keyOf P K key=some s)
  (z: ∀c,bX P c K b (n+1) (oF g key (some val))->Only (fun f=>f=b) w c->wpList P ops Q d (a.put o.dst undef) c):wpList P ops Q (o::d) a w:=by
 refine wpList_plain y fun f j=>?_;obtain⟨c,f,B,l⟩:=i.store L p r (val:=val) h;unfold Oper.wp;simp[execOp,k,q,u,A,f,Result.andThen];exact j _ _ (z c B l)
def YQ(w:World)(e:Ending)(w':World):Prop:= ∃M g,e=.returned (.map (some M))/\Below w.heap.size w w'/\bX prog w' 33 M 6 g/\ ∀x:Int,(g (rm x)).getD (rm 0)=rm (Js x)
theorem Q7(w:World):Calls prog 65 #[] w (YQ w):=by
 have j:= @run_makeMap prog;have f:=ae w (.map #[] 0);have g:=bX.made prog w 33;have i:=al (b8 w.heap.size);go_enter func65,ntmps65;go_wp2_with ((refine Ay _ rfl _ _ _ 153 rfl Wt underlying153 rfl g (by unfold maxLen;omega) rfl rfl (Wu (by unfold lq;omega)) ?_);intro c a b;have f:=Dw f i.o b;have g:=a);go_ret
 refine⟨w.heap.size,(oF (oF (oF (oF (oF (oF (fun _=>none) (.int .i64 0) (some (.int .i64 1))) (.int .i64 19) (some (.int .i64 2))) (.int .i64 21) (some (.int .i64 3))) (.int .i64 20) (some (.int .i64 4))) (.int .i64 16) (some (.int .i64 5))) (.int .i64 23) (some (.int .i64 6))),rfl,f,g,fun x=>?_⟩;simp only[adt];unfold Js;by_cases b:x=0
 ·subst b;rfl
 by_cases d:x=19
 ·subst d;rfl
 by_cases e:x=21
 ·subst e;rfl
 by_cases h:x=20
 ·subst h;rfl
 by_cases c:x=16
 ·subst c;rfl
 by_cases a:x=23
 ·subst a;rfl
 rw[fb a,fb c,fb h,fb e,fb d,fb b,fb b,fb d,fb e,fb h,fb c,fb a];rfl
end
section
open Go.RowKit Go.Maps Go.WideShapes
theorem ag{w:World}{B:Nat}{a b c:Value}{t:TypeId}(h:w.heap[B]?=some (.cells #[a,b,c] t (0,0))):(w.cell? ⟨B,0,none⟩=some a/\w.cell? ⟨B,1,none⟩=some b/\w.cell? ⟨B,2,none⟩=some c)/\ ∀j,w.frozen? ⟨B,j,none⟩=false:=by refine⟨⟨?_,?_,?_⟩,fun j=>?_⟩<;>simp[World.cell?,World.frozen?,h]
theorem fY{w:World}{B:Nat}{a b c d:Value}{t:TypeId}(h:w.heap[B]?=some (.cells #[a,b,c,d] t (0,0))):w.cell? ⟨B,0,none⟩=some a/\w.cell? ⟨B,1,none⟩=some b/\w.cell? ⟨B,2,none⟩=some c/\w.cell? ⟨B,3,none⟩=some d:=by refine⟨?_,?_,?_,?_⟩<;>simp[World.cell?,h]
theorem YR(w:World)(a b c:Obj):Below w.heap.size w (((w.alloc a).alloc b).alloc c)/\(((w.alloc a).alloc b).alloc c).heap[w.heap.size]?=some a/\(((w.alloc a).alloc b).alloc c).heap[w.heap.size+1]?=some b/\(((w.alloc a).alloc b).alloc c).heap[w.heap.size+1+1]?=some c:=by
 have m:(w.alloc a).heap.size=w.heap.size+1:=by simp
 have k:((w.alloc a).alloc b).heap.size=w.heap.size+2:=by simp
 have g:=ae w a;have e:=ae (w.alloc a) b;have d:=ae ((w.alloc a).alloc b) c;have l:=an w a;have h:=an (w.alloc a) b;have i:=an ((w.alloc a).alloc b) c;rw[m]at h;rw[k]at i;have f: ∀{x y:World} {j:Nat} {o:Obj},Below x.heap.size x y->x.heap[j]?=some o->y.heap[j]?=some o:=fun j n=>qt j n;exact⟨g.x ((e.x (d.m e.size)).m g.size),f d (f e l),f d h,i⟩
def JB(w:World)(b j c:Nat)(a i v:Int)(f:Option Addr)(g d:Nat)(e:Int)(w':World):Prop:=Below w.heap.size w w'/\w'.heap[b]?=some (tb v a f g d e)/\w'.heap[j]?=some (sl 0 0 0)/\
 ∃h:Int,w'.heap[c]?=some (sl h i 0)
theorem JB.below{w:World}{c k d:Nat}{l g v:Int}{i:Option Addr}{f h:Nat}{e:Int}{w' b:World}(q:JB w c k d l g v i f h e w')(a:Below w'.heap.size w' b):JB w c k d l g v i f h e b:=by obtain⟨j,o,m,n,p⟩:=q;exact⟨j.x (a.m j.size),qt a o,qt a m,n,qt a p⟩
theorem JB.drew{w:World}{b i c:Nat}{a h v:Int}{f:Option Addr}{g d:Nat}{e:Int}{w':World}(j:JB w b i c a h v f g d e w'):JB w b i c a h v f g d e w'.drew:=j.below (bd _ _).drew
theorem JB.adu{w:World}{c d a:Nat}{k g v:Int}{i:Option Addr}{f h:Nat}{e:Int}{w':World}(t:JB w c d a k g v i f h e w')(r:w.heap.size<=a)(m:c≠a)(l:d≠a)(b:Int):JB w c d a k g v i f h e (w'.setCell ⟨a,0,none⟩ (rm b)):=by obtain⟨q,o,n,s,p⟩:=t;have j:=Only.aR w' a 0 (rm b);refine⟨q.setCell (p:=⟨a,0,none⟩) r _,j.heap o m,j.heap n l,b,?_⟩;have:=dp w' a 0 _ _ (rm b) p;simpa using this
theorem Ga{w:World}{B:Nat}{a b c v:Value}{t:TypeId}(h:w.heap[B]?=some (.cells #[a,b,c] t (0,0))):(w.setCell ⟨B,2,none⟩ v).heap[B]?=some (.cells #[a,b,v] t (0,0)):=by simpa using dp w B 2 _ t v h
theorem Q8(w:World)(F G:Nat->Prop)(Ao Z:Option Addr)(U co W ca:Nat)(H k v e:Int)(A C:Option Addr)(m c y B:Nat)(n J:List Cl)(q:Bool)(hc:eI w F (.slice A m c) n)(hf:eI w G (.slice C y B) J)(a2:n.length<=64)(a0:J.length<=64)(V:Good n)(gf:Good J)(hs:dE n n)(O:nj q (iC J n))(he:lq e):
  Calls prog 37 #[.agg #[.int .i64 k,.slice Ao U co,.slice Z W ca,.slice A m c],.agg #[.int .i64 v,.int .i64 H,.slice C y B,.int .i64 e]] w fun x r=>x=.returned (.agg #[.int .i64 (Aw q e),.int .i64 k,.int .i64 (Q6 (Aw q e) v)])/\Below w.heap.size w r:=by
 have a:=al (YR w (.cells #[.int .i64 k,.slice Ao U co,.slice Z W ca,.slice A m c] 96) (.cells #[.int .i64 v,.int .i64 H,.slice C y B,.int .i64 e] 60) (.cells #[.int .i64 0,.int .i64 0,.int .i64 0] 50));go_enter func37,ntmps37;go_upto_region 1 with fail;generalize ((w.alloc (.cells #[.int .i64 k,.slice Ao U co,.slice Z W ca,.slice A m c] 96)).alloc (.cells #[.int .i64 v,.int .i64 H,.slice C y B,.int .i64 e] 60)).alloc (.cells #[.int .i64 0,.int .i64 0,.int .i64 0] 50)=g at a⊢;obtain⟨f,b⟩:=rk (w.heap.size+1+1);have l:=al (show w.heap.size<=f by omega);rw[b]at a⊢;clear b;obtain⟨b3,b⟩:=rk (w.heap.size+1);rw[b]at a⊢;clear b;obtain⟨b2,t⟩:=rk (w.heap.size);have Kl:=a.o;clear a;obtain⟨p,i,u,b⟩:=Kl;rw[t]at i;rw[t];clear t;obtain⟨D,-,-,N⟩:=fY i;obtain⟨d,a⟩:=rj g (.cells #[.int .i64 3,.int .i64 k,.int .i64 0] 50);go_upto_region 2 with fail;generalize g.alloc (.cells #[.int .i64 3,.int .i64 k,.int .i64 0] 50)=z at d a⊢;have j: ∀{h:Nat} {o:Obj},g.heap[h]?=some o->z.heap[h]?=some o:=fun h=>qt d h;have o:=al (ab p.size (ab (cq.1 u).1 (cq.1 b).1));generalize g.heap.size=s at a d o⊢;have g:=p.x (d.m o.o.1);obtain⟨-,-,-,N⟩:=fY (j i);have HJ:=al (show JB w b3 f s H k v C y B e z from⟨g,j u,j b,3,a⟩);have a':=al a;have M:=al (C4 z _ _ n (bI.below hc g) (by omega) V.fits);clear p i u b a d j g D;go_wp2_with fail;refine M.o.m ?_;intro x Y P;obtain⟨v3,n3,rfl,z⟩:=P.named;have i:=z.1;obtain⟨a1,u,j|⟨j,rfl,T,c3,rfl,E⟩⟩:=z.good V.ok
 ·obtain rfl:=dE.unique hs u;exact absurd j.1 (by omega)
 obtain rfl:=dE.unique hs u;have K:=yo E;obtain⟨d,g⟩:=rj Y (.cells #[.slice T n.length c3] 37);have D:=i.x (d.m i.size);have I:=al (HJ.o.below D);have aa:=al (qt D a'.o);have p:=bI.below K d;go_upto_region 3 with fail;generalize Y.alloc (.cells #[.slice T n.length c3] 37)=Q at g p I aa⊢;generalize Y.heap.size=L at g⊢;have R:Q.cell? ⟨L,0,none⟩=some (.slice T n.length c3):=by simp[World.cell?,g]
 obtain⟨-,-,Q,-⟩:=fY I.o.2.1;have L:=al (p8 q O (bI.below hf I.o.1) p (by omega) (by omega) gf V);clear i E K d g D p z P u j M N;go_wp2_with fail;refine L.o.m ?_;rintro x w5 ⟨rfl,g⟩;have d:=al (I.o.below g);have p:=al (qt g aa.o);clear g Q R L O
 cases q with
 |false=>have a:=p.o;have b:=d.o.d.1;have E:=(ag a).1.1;have p1:=(ag a).1.2.1;have S:=(ag a).1.2.2;have Q:=(ag a).2 0;have R:=(ag a).2 1;have K:=(ag a).2 2;have r0:=(ag b).1.1;have r1:=(ag b).1.2.1;have r2:=(ag b).1.2.2;have L:=(ag b).2 0;have N:=(ag b).2 1;have P:=(ag b).2 2;clear a b;go_wp2_with fail;have u:=EY (v0:=.int .i64 (3)) (v1:=.int .i64 k) (v2:=.int .i64 (0)) d.o.d.1;exact dj (results_cell_row rfl _ _ _ _ _ _ _ rfl u underlying50 rfl (by kernel_rfl)) rfl ⟨rfl,((d.o.1.setCell (p:=⟨f,0,none⟩) l.o _).setCell (p:=⟨f,1,none⟩) l.o _).setCell (p:=⟨f,2,none⟩) l.o _⟩
 |true=>
  go_wp2_with fail;refine pt (S:=(fun r=>JB w b3 f s H k v C y B e r)) (by kernel_rfl) d.o.drew (fun i=>?_);refine lA 1 (v:=?_) (fun j b=>?_) i ?_;rotate_left
  ·go_simp;try with_reducible rfl
  try simp only[aj,ak,ar,au]
  refine lA 2 (v:=?_) (fun j b=>?_) i ?_;rotate_left
  ·obtain⟨-,-,-,a⟩:=fY b.2.1;go_simp;try with_reducible rfl
  try simp only[aj,ak,ar,au]
  refine bA 0 (fun O a=>?_);go_simp;refine(Q7 _).m ?_;rintro e wn ⟨M,g,rfl,r,z,D⟩;have HM:=al (ab z D);clear z D
  try go_simp
  refine a.o _ _ (i.below r) ?_;clear a O i r;intro i
  try simp only[aj,ak,ar,au]
  refine bA 3 (fun O a=>?_);have r:=HM.o.1.look Wt underlying153 (Tryz.Ud _) (Wu he);rw[HM.o.2 e]at r;go_simp;refine a.o _ _ (i) ?_;clear a O i r;intro i
  try simp only[aj,ak,ar,au]
  refine lA 4 (v:=?_) (fun j b=>?_) i ?_;rotate_left
  ·go_simp;try with_reducible rfl
  try simp only[aj,ak,ar,au]
  refine bA 5 (fun O a=>?_);have ap:=i;obtain⟨-,-,-,kd,b⟩:=ap;have X:=al (show _=some (Obj.cells #[.int .i64 (Js e),.int .i64 k,.int .i64 0] 50 (0,0))from by simpa using dp _ s 0 _ _ (.int .i64 (Js e)) b);have E:=(ag b).1.1;have j:=(ag b).2 0;clear b;go_simp;refine a.o _ _ (i.adu o.o.1 (Nat.ne_of_lt o.o.2.1) (Nat.ne_of_lt o.o.d) _) ?_;clear a O i E j kd;intro i
  try simp only[aj,ak,ar,au]
  refine pw (by kernel_rfl) ?_ _;obtain⟨r,D,j,kd,a⟩:=i;obtain rfl:kd=Js e:=by simpa using a.symm.x X.o
  obtain⟨z,b⟩:=rk (Js e);have O:=al (show Aw true e=z from b);rw[b]at r D j a⊢;obtain⟨x0,-,-,-⟩:=fY D;clear X b d p;by_cases X:z=1
  ·subst X;have d:=Ga (v:=.int .i64 v) a;have b:=(Only.aR _ s 2 (.int .i64 v)).heap j (Nat.ne_of_lt o.o.d);have p:=al (ab b (r.setCell (p:=⟨s,2,none⟩) o.o.1 (.int .i64 v)));have E:=(ag a).1.1;have p1:=(ag a).1.2.1;have S:=(ag a).1.2.2;have Q:=(ag a).2 0;have R:=(ag a).2 1;have K:=(ag a).2 2;have u0:=(ag d).1.1;have u1:=(ag d).1.2.1;have u2:=(ag d).1.2.2;have ad:=(ag d).2 0;have ac:=(ag d).2 1;have am:=(ag d).2 2;have r0:=(ag b).1.1;have r1:=(ag b).1.2.1;have r2:=(ag b).1.2.2;have L:=(ag b).2 0;have N:=(ag b).2 1;have P:=(ag b).2 2;clear r D j a d b;go_wp2_with fail;have u:=EY (v0:=.int .i64 (1)) (v1:=.int .i64 k) (v2:=.int .i64 (v)) p.o.1;exact dj (results_cell_row rfl _ _ _ _ _ _ _ rfl u underlying50 rfl (by kernel_rfl)) rfl ⟨by rw[O.o];rfl,((p.o.2.setCell (p:=⟨f,0,none⟩) l.o _).setCell (p:=⟨f,1,none⟩) l.o _).setCell (p:=⟨f,2,none⟩) l.o _⟩
  by_cases t:z=2
  ·subst t;have d:=Ga (v:=.int .i64 v) a;have b:=(Only.aR _ s 2 (.int .i64 v)).heap j (Nat.ne_of_lt o.o.d);have p:=al (ab b (r.setCell (p:=⟨s,2,none⟩) o.o.1 (.int .i64 v)));have E:=(ag a).1.1;have p1:=(ag a).1.2.1;have S:=(ag a).1.2.2;have Q:=(ag a).2 0;have R:=(ag a).2 1;have K:=(ag a).2 2;have u0:=(ag d).1.1;have u1:=(ag d).1.2.1;have u2:=(ag d).1.2.2;have ad:=(ag d).2 0;have ac:=(ag d).2 1;have am:=(ag d).2 2;have r0:=(ag b).1.1;have r1:=(ag b).1.2.1;have r2:=(ag b).1.2.2;have L:=(ag b).2 0;have N:=(ag b).2 1;have P:=(ag b).2 2;clear r D j a d b;go_wp2_with fail;have u:=EY (v0:=.int .i64 (2)) (v1:=.int .i64 k) (v2:=.int .i64 (v)) p.o.1;exact dj (results_cell_row rfl _ _ _ _ _ _ _ rfl u underlying50 rfl (by kernel_rfl)) rfl ⟨by rw[O.o];rfl,((p.o.2.setCell (p:=⟨f,0,none⟩) l.o _).setCell (p:=⟨f,1,none⟩) l.o _).setCell (p:=⟨f,2,none⟩) l.o _⟩
  have d:(z==1)=false:=by simpa using X
  have b:(z==2)=false:=by simpa using t
  have p:=al (ab j r);have E:=(ag a).1.1;have p1:=(ag a).1.2.1;have S:=(ag a).1.2.2;have Q:=(ag a).2 0;have R:=(ag a).2 1;have K:=(ag a).2 2;have r0:=(ag j).1.1;have r1:=(ag j).1.2.1;have r2:=(ag j).1.2.2;have L:=(ag j).2 0;have N:=(ag j).2 1;have P:=(ag j).2 2;clear r D j a;go_wp2_with fail;have u:=EY (v0:=.int .i64 (z)) (v1:=.int .i64 k) (v2:=.int .i64 (0)) p.o.1;exact dj (results_cell_row rfl _ _ _ _ _ _ _ rfl u underlying50 rfl (by kernel_rfl)) rfl ⟨by rw[O.o];unfold Q6;rw[fb (by rintro(h|h);exact X h;exact t h)],((p.o.2.setCell (p:=⟨f,0,none⟩) l.o _).setCell (p:=⟨f,1,none⟩) l.o _).setCell (p:=⟨f,2,none⟩) l.o _⟩
end
structure FE where
 id:Int
 ops:List aX
 args:List Int
 cls:List Cl
def YU(n:Int):Prop:= -9223372036854775808<=n/\n<=9223372036854775807
def FE.fits(e:FE):Prop:=YU e.id/\(∀o∈e.ops,o.fits)/\(∀n∈e.args,YU n)/\ ∀c∈e.cls,c.fits
def jR(w:World)(G:Nat->Prop)(e:FE)(a c b:Value):Prop:=qi w G a e.ops/\Rd w G c (SC e.args)/\eI w G b e.cls/\e.fits
def Dx(e:FE)(a c b:Value):Value:=.agg #[rm e.id,a,c,b]
theorem jR.below{w w':World}{G:Nat->Prop}{e:FE}{d c b:Value}(h:jR w G e d c b)(a:Below w.heap.size w w'):jR w' G e d c b:=⟨bI.below h.1 a,Rd.below h.2.1 a,bI.below h.2.2.1 a,h.2.2.2⟩
theorem jR.mono{w:World}{G c:Nat->Prop}{e:FE}{f d b:Value}(h:jR w G e f d b)(a: ∀k,G k->c k):jR w c e f d b:=⟨bI.m h.1 a,Rd.m h.2.1 a,bI.m h.2.2.1 a,h.2.2.2⟩
abbrev jR.m:=@jR.mono
noncomputable def ug(l:List Cl):Int:=by
 classical
 exact if iT l≠0 then iT l else if ∃a,dE l a/\64<a.length then 23 else if dE l l then 0 else 17
def pD(l:List Int):Bool:=l.all (fun n=>decide (-1099511627776<=n)&&decide (n<=1099511627776))
def qJ(e:FE):Int:=if 8<e.args.length then 23 else if pD e.args=false then 10 else 0
def uR(e:FE):Int:=if opsE e.ops≠0 then opsE e.ops else qJ e
def ow(e:FE):Int:=if e.id<0\/1099511627776<e.id then 10 else uR e
noncomputable def nt(e:FE):Int:=if ow e≠0 then ow e else ug e.cls
theorem wI{e:FE}{v:Int}(h:ow e=v)(a:v≠0):nt e=v:=by unfold nt;rw[h,ff a]
theorem Q9{e:FE}(h:ow e=0):nt e=ug e.cls:=by unfold nt;rw[fb (by rw[h];simp)]
theorem Ra{e:FE}{p:Int}(h:opsE e.ops=p)(a:p≠0):uR e=p:=by unfold uR;rw[h,ff a]
theorem yP{e:FE}(h:opsE e.ops=0):uR e=qJ e:=by unfold uR;rw[h,fb (by simp)]
theorem Ju{e:FE}(h:8<e.args.length):qJ e=23:=by unfold qJ;rw[ff h]
theorem Np{e:FE}(h: ¬8<e.args.length)(a:pD e.args=false):qJ e=10:=by unfold qJ;rw[fb h,ff a]
theorem Rb{e:FE}(h: ¬8<e.args.length)(a:pD e.args=true):qJ e=0:=by unfold qJ;rw[fb h,fb (by rw[a];simp)]
theorem Rc{l:List Cl}(h:iT l≠0):ug l=iT l:=by unfold ug;rw[ff h]
theorem Re{l out:List Cl}(h:iT l=0)(a:dE l out)(b:64<out.length):ug l=23:=by unfold ug;rw[fb (by simp[h]),ff ⟨out,a,b⟩]
theorem Nq{l out:List Cl}(h:iT l=0)(a:dE l out)(d:out.length<=64):ug l=if out=l then 0 else 17:=by
 unfold ug;rw[fb (by simp[h]),fb (fun⟨o,b,c⟩=>by have:=a.unique b;subst this;omega)];by_cases e:out=l
 ·rw[ff e,ff (by rw[e]at a;exact a)]
 ·rw[fb e,fb (fun b=>e (a.unique b))]
theorem su.cls{l:List Cl}{w w':World}{v:Value}{n:Int}(h:su l w v n w'):(n≠0/\ug l=n/\v=.slice none 0 0)\/(n=0/\ ∃a,dE l a/\a.length<=64/\ug l=(if a=l then 0 else 17)/\ ∃A c,v=.slice A a.length c/\w'.ownsRow w.heap.size 68 5 (.slice A a.length c) a.length (a.map Cl.cells).flatten):=by
 rcases h.2 with⟨b,rfl,rfl⟩|⟨b,a,d,⟨c,rfl,rfl⟩|⟨c,rfl,e⟩⟩
 ·exact .inl ⟨b,Rc b,rfl⟩
 ·exact .inl ⟨by decide,Re b d c,rfl⟩
 ·exact .inr ⟨rfl,a,d,c,Nq b d c,e⟩
theorem UM{l:List Int}{k:Nat}{n:Int}(b:l[k]?=some n)(h: ¬(-1099511627776<=n/\n<=1099511627776)):pD l=false:=by unfold pD;rw[Bool.eq_false_iff];intro a;rw[List.all_eq_true]at a;have:=a n (db b);rw[mu,decide_eq_true_iff,decide_eq_true_iff]at this;exact h this
theorem Nr(w:World)(G:Nat->Prop)(e:FE)(V U X:Value)(s:jR w G e V U X)(g:gy w)(ac:e.cls.length<=1000):
  Calls prog 59 #[Dx e V U X] w fun R m=>R=.returned (rm (nt e))/\Below w.heap.size w m:=by
 obtain⟨q,r,rfl,_,_⟩:=s.1.slice;obtain⟨t,v,rfl,Ss,ap⟩:=BN s.2.1;obtain⟨k,l,a,_,_⟩:=s.2.2.1.slice;subst a;have d:=Yf s.2.1;unfold Dx;obtain⟨c,a⟩:=rk (e.id);have f:ow e=if c<0\/1099511627776<c then 10 else uR e:=by unfold ow;rw[a]
 have b:=s.2.2.2.1;unfold YU at b;rw[a]at b⊢;have j:=AI (ab f d) s g (bd w.heap.size w);clear g f a d;have a:nt e=if ow e≠0 then ow e else ug e.cls:=rfl
 have a':=al a;clear a s;by_cases a:c<0\/1099511627776<c
 ·have x:=al (show nt e=10 from wI (by rw[j.o.1.1,ff a]) (by decide));rcases a with d|d
  ·clear b;go_enter func59,ntmps59;go_wp2_with fail;go_ret
   exact⟨by rw[x.o];rfl,(bd _ _).alloc (b8 _) _⟩
  ·have Z: ¬c<0:=by omega
   clear b;go_enter func59,ntmps59;go_wp2_with fail;go_ret
   exact⟨by rw[x.o];rfl,(bd _ _).alloc (b8 _) _⟩
 ·have Z: ¬c<0:=fun s=>a (.inl s);have am: ¬1099511627776<c:=fun s=>a (.inr s);have x:=al (show ow e=uR e by rw[j.o.1.1,fb a]);clear a b;go_enter func59,ntmps59;go_upto_region 3 with fail;have f:(w.alloc (sC c q e.ops.length r t e.args.length v k e.cls.length l)).cell? ⟨w.heap.size,1,none⟩=some (.slice q e.ops.length r):=by simp
  have a:(w.alloc (sC c q e.ops.length r t e.args.length v k e.cls.length l)).cell? ⟨w.heap.size,2,none⟩=some (.slice t e.args.length v):=by simp
  have g:(w.alloc (sC c q e.ops.length r t e.args.length v k e.cls.length l)).cell? ⟨w.heap.size,3,none⟩=some (.slice k e.cls.length l):=by simp
  have b:=(bd w.heap.size w).alloc (b8 _) (sC c q e.ops.length r t e.args.length v k e.cls.length l);generalize w.alloc (sC c q e.ops.length r t e.args.length v k e.cls.length l)=h at f a g b⊢;obtain⟨T,d⟩:=rk (w.heap.size);have J:=al b;rw[d]at f a g⊢;have n:=al d;clear b d;obtain⟨p,d⟩:=rk (opsE e.ops);have b:=BM h G (.slice q e.ops.length r) e.ops (bI.below j.o.2.1.1 J.o) (j.o.d.1.below J.o);rw[d]at b;have I:=AD b d;clear b d;go_wp2_with fail;refine I.o.1.m ?_;rintro R w2 ⟨rfl,b⟩;have S:=(b.cell (p:=⟨T,2,none⟩) (aq _ _ a)).x a;have B:=(b.cell (p:=⟨T,3,none⟩) (aq _ _ g)).x g;have d:=al (J.o.x (b.m J.o.size));clear b f a g;by_cases y:p=0
  ·subst y;by_cases M:8<e.args.length
   ·have aa:(8:Int)<(e.args.length:Int):=by omega
    have u:=al (show nt e=23 from wI ((x.o.x (yP I.o.2)).x (Ju M)) (by decide));go_wp2_with fail;go_ret
    exact⟨by rw[u.o];rfl,by rw[n.o]at d;exact by rw[n.o];exact d.o⟩
   ·have aa: ¬((8:Int)<(e.args.length:Int)):=by omega
    have u:=al (show ow e=qJ e from x.o.x (yP I.o.2));go_wp2_with fail
    go_loop [29] (fun i=> ∃L:Nat,L<=e.args.length/\i=rm (L:Int)/\pD (e.args.take L)=true) (fun i=>e.args.length-(intOf i).toNat)
    case atStart=>exact⟨0,dq _,rfl,rfl⟩
    case round=>
     obtain⟨L,H,rfl,a⟩:=hrel;by_cases z:L<e.args.length
     ·obtain⟨o,f⟩: ∃o,e.args[L]?=some o:=⟨_,ao z⟩;obtain⟨E,F,h,_,b⟩:=j.o.1.2.2.2.2 L o f;subst h;have K:=(d.o.cell (p:=⟨E,F+L,none⟩) (aq _ _ b)).x b;have h:=AD f a;clear f a b;by_cases f: -1099511627776<=o/\o<=1099511627776
      ·have D: ¬o< -1099511627776:=by omega
       have C: ¬1099511627776<o:=by omega
       have b:=al f;clear f;go_wp2_with fail
       go_round
       case rel=>refine⟨L+1,by omega,by go_num,?_⟩;have A:=h.o.2;unfold pD at A⊢;rw[gO,h.o.1,List.all_append,A];simp[b.o.1,b.o.2]
       case measure=>simp[intOf];omega
      ·have b:=al (show nt e=10 from wI (u.o.x (Np M (UM h.o.1 f))) (by decide));by_cases D:o< -1099511627776;rotate_left
       focus
        have C:1099511627776<o:=by omega
       all_goals
        clear f;go_wp2_with fail;go_ret
        exact⟨by rw[b.o];rfl,by rw[n.o]at d;exact by rw[n.o];exact d.o⟩
     ·obtain rfl:L=e.args.length:=by omega
      rw[gE]at a;have O:=al (show nt e=ug e.cls from Q9 (u.o.x (Rb M a)));clear a z H;go_wp2_with fail;refine(C4 w2 G _ e.cls (bI.below j.o.2.1.2.2.1 d.o) ac j.o.2.1.2.2.2.2.2.2).m ?_;intro R z C;obtain⟨u1,n1,rfl,o⟩:=C.named;have a:=o.1;have Q:=(a.cell (p:=⟨T,3,none⟩) (aq _ _ B)).x B;have E:=al (d.o.x (a.m d.o.size));rcases o.cls with⟨F,A,rfl⟩|⟨rfl,b,P,ad,H,f,h,rfl,N⟩
      ·have K:(n1 !=0)=true:=by simpa using F
       have D:=al A;clear F A a o C;go_wp2_with fail;go_ret
       exact⟨by rw[O.o,D.o];rfl,by have:=E.o.alloc E.o.size tg;rw[n.o]at this⊢;exact this⟩
      ·have D:=AD H P;have A:eI (z.alloc (tc f b.length h)) (fun _=>True) (.slice f b.length h) b:=bI.below (yo N) (fM _ _);have F:(z.alloc (tc f b.length h)).cell? ⟨z.heap.size,0,none⟩=some (.slice f b.length h):=by simp
       have g:=aI Q (tc f b.length h);have K:=E.o.alloc E.o.size (tc f b.length h);clear H P a o C N Q S B;go_upto_region 17 with fail;generalize z.alloc (tc f b.length h)=o at A F g K⊢;obtain⟨H,a⟩:=rk (z.heap.size);rw[a]at F⊢;have HQ:=al A;have C:=al K;clear A K a;refine pt (S:=(fun m=>Below o.heap.size o m/\m.cell? ⟨T,3,none⟩=some (.slice k e.cls.length l)/\m.cell? ⟨H,0,none⟩=some (.slice f b.length h))) (by kernel_rfl) ⟨(bd _ _).drew,(((bd _ _).drew).cell (p:=⟨T,3,none⟩) (aq _ _ g)).x g,(((bd _ _).drew).cell (p:=⟨H,0,none⟩) (aq _ _ F)).x F⟩ (fun a=>?_);refine ah (i:=0) (v:=?_) rfl (by kernel_rfl) (by kernel_rfl) (by kernel_rfl) (fun _ _ _ s=>s) (by rfl) (fun S m=>?_) a ?_;rotate_left
       ·obtain⟨P,Q,N⟩:=m;go_simp;try rfl
       try simp only[xr]
       refine ah (i:=2) (v:=?_) rfl (by kernel_rfl) (by kernel_rfl) (by kernel_rfl) (fun _ _ _ s=>s) (by rfl) (fun S m=>?_) a ?_;rotate_left
       ·obtain⟨P,Q,N⟩:=m;go_simp;try rfl
       try simp only[xr]
       refine ah (i:=3) (v:=?_) rfl (by kernel_rfl) (by kernel_rfl) (by kernel_rfl) (fun _ _ _ s=>s) (by rfl) (fun S m=>?_) a ?_;rotate_left
       ·obtain⟨P,Q,N⟩:=m;go_simp;try rfl
       try simp only[xr]
       refine qe (rs:=[1]) (by kernel_rfl) (by simp) (av (i:=1) rfl (fun K A=>?_) ph);go_simp;refine(tO _ (fun _=>True) (.slice f b.length h) b (HQ.o.below a.1) (by omega)).m ?_;rintro e wn ⟨A5,c5,rfl,B,o⟩;have Ww:=al B;clear B
       try go_simp
       refine A.o _ _ (⟨a.1.x (o.m a.1.size),(o.cell (p:=⟨T,3,none⟩) (aq _ _ a.2.1)).x a.2.1,(o.cell (p:=⟨H,0,none⟩) (aq _ _ a.2.2)).x a.2.2⟩) ?_;clear A K a;intro a
       try simp only[xr]
       refine qe (rs:=[4]) (by kernel_rfl) (by simp) (av (i:=4) rfl (fun K A=>?_) ph);go_simp;refine(Pk _ (fun _=>True) (fun _=>True) (.slice A5 b.length c5) (.slice k e.cls.length l) b e.cls (yo Ww.o) (bI.m (bI.below j.o.2.1.2.2.1 (C.o.x (a.1.m C.o.size))) (fun _ _=>trivial)) (by omega)).m ?_;rintro e wn ⟨Y,W,rfl,o⟩;have B:=al (show nj Y (b=e.cls)from W);clear W
       try go_simp
       refine A.o _ _ (⟨a.1.x (o.m a.1.size),(o.cell (p:=⟨T,3,none⟩) (aq _ _ a.2.1)).x a.2.1,(o.cell (p:=⟨H,0,none⟩) (aq _ _ a.2.2)).x a.2.2⟩) ?_;clear A K a;intro a
       try simp only[xr]
       refine ah (i:=5) (v:=?_) rfl (by kernel_rfl) (by kernel_rfl) (by kernel_rfl) (fun _ _ _ s=>s) (by rfl) (fun S m=>?_) a ?_;rotate_left
       ·obtain⟨P,Q,N⟩:=m;go_simp;try rfl
       try simp only[xr]
       refine pw (by kernel_rfl) ?_ _;have m:=al (C.o.x (a.1.m C.o.size));clear a
       cases Y with
       |true=>
        have a:=al B.o.pos;clear B;go_wp2_with fail;go_ret
        exact⟨by rw[O.o,D.o.1,ff a.o];rfl,m.o⟩
       |false=>
        have a:=al B.o.neg;clear B;go_wp2_with fail;go_ret
        exact⟨by rw[O.o,D.o.1,fb a.o];rfl,m.o⟩
  ·have a:(p !=0)=true:=by simpa using y
   have u:=al (show nt e=p from wI (x.o.x (Ra I.o.2 y)) y);clear y;go_wp2_with fail;go_ret
   exact⟨by rw[u.o];rfl,by rw[n.o]at d;exact by rw[n.o];exact d.o⟩

end Go.Proofs.YtehccbdajiiaaaaGreatDoor
