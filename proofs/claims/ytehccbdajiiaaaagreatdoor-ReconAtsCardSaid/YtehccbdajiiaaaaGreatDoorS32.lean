import Derived.Test.YtehccbdajiiaaaaGreatDoorS24
import Derived.Test.YtehccbdajiiaaaaGreatDoorS28
import Derived.StillTailTactics
namespace Go.Proofs.YtehccbdajiiaaaaGreatDoor
open Go.Proofs.Tryz
set_option maxRecDepth 100000
set_option maxHeartbeats 16000000
open Go.RowKit
section
variable{P:Program}{ops:Array Oper}{md:Region.Mode}{w:World}{n:Nat}
theorem yI{i:Nat}{a:Act}{K:Act->Prop}{f:Act->World->Prop}{Q':Exit->Act->World->Prop}(h: ∀a,K a->f a w)(b:stOp P ops w i K a):wpOpIn Fence.wide n P ops Q' i f a w:=by
 unfold stOp at b;unfold wpOpIn;split
 ·rename_i e;simp only[e]at b;exact h _ b
 ·rename_i o e;simp only[e]at b;split
  ·rename_i c;simp only[c,if_true]at b;refine⟨fun _ _=>trivial,?_⟩;unfold Oper.still at b;rw[show o.semAt Fence.wide.round a.eval=execOp a.eval o from rfl];generalize (execOp a.eval o).run P w=r at *
   cases r with
   |ok x l=>
    cases x<;>simp only[Oper.stillUpon]at b<;>simp only[Oper.uponIn]
    all_goals first|(obtain⟨rfl,d⟩:=b;exact h _ d)|skip
    obtain⟨rfl,v,j,d⟩:=b;exact⟨fun h=>by simp[Fence.wide]at h,(callsIn_wide.2 j).m fun p m ⟨g,k⟩=>by subst g;subst k;exact h _ d⟩
   |halt x l=>simp only[Oper.stillUpon]at b
  ·rename_i c;simp only[c]at b;exact⟨fun _ _=>trivial,h _ b⟩
theorem ou{m g:Nat}{L:Array Bool->Act->Prop}{Q':Exit->Act->World->Prop}(c: ∀a b,L a b->wpAnyIn Fence.wide n P md ops Q' g a b w):
  ∀(f:Nat) (a:Array Bool) (b:Act),wpAnyL P md ops w m L f a b->wpAnyIn Fence.wide n P md ops Q' (f+g) a b w
 |0,a,b,h=>by rw[ie];exact c _ _ h
 |f+1,a,b,h=>by rw[show f+1+g=(f+g)+1 by omega];exact⟨fun a=>absurd a h.1,fun i b=>yI (fun a d=>ou c f _ a d) (h.2 i b).2⟩
theorem pA{Q':Exit->Act->World->Prop}: ∀(l:List Oper) (k:Nat) (a:Array Bool) (d:Act) (w:World),(∀j,l[j]?=ops[k+j]?)->
  Region.seqB md ops l.length k a=true->wpListIn Fence.wide n P ops Q' l d w->wpAnyIn Fence.wide n P md ops Q' l.length a d w
 |[],_,_,_,_,_,hB,h=>⟨by simpa[Region.seqB]using hB,h⟩
 |o::l,k,a,d,w,hl,hB,h=>by
  have c:ops[k]?=some o:=by simpa using(hl 0).symm
  simp only[gn,Region.seqB,mu,decide_eq_true_eq]at hB;refine⟨fun a=>(by rw[hB.1]at a;cases a),fun i a=>?_⟩;rw[hB.1]at a;have b:i=k:=by simpa using a
  subst b;have a:wpOpIn Fence.wide n P ops Q' i (wpListIn Fence.wide n P ops Q' l) d w:=by unfold wpOpIn;simp only[c];exact h
  exact wpOpIn_mono (fun b d c=>pA l (i+1) _ b d (fun j=>by have:=hl (j+1);simpa[gC,Nat.add_comm 1 j]using this) hB.2 c) a
theorem nZ{d:Nat}{Q:Exit->Act->World->Prop}{a:Act}{w:World}{l:List Oper}(m:Nat)(o:P.follows .mixedOrders=true)(b:Region.lexTailB .any l.toArray m=true)
  (r:wpStill P l.toArray w.drew (fun c=>wpListIn Fence.wide n P l.toArray Q (l.drop m) c w.drew) (l.take m) a):(Code.region d l.toArray true).wpIn Fence.wide n P Q a w:=by
 simp only[Region.lexTailB,mu,decide_eq_true_eq]at b;obtain⟨⟨⟨⟨h,d⟩,j⟩,k⟩,i⟩:=b;have b:m<l.length:=by simpa using d
 have b:(l.take m).length=m:=by simp;omega
 have e:(l.drop m).length=l.toArray.size-m:=by simp
 have g:HeadInv .any l.toArray m (Array.replicate l.toArray.size false):=
  ⟨by simp,fun p q _ f=>(by rw[getD_replicate_false]at f;cases f),fun t _ f=>getD_in (by simpa using f) (getD_replicate_false _ _)⟩
 have H:=wpAnyL_lex (md:=.any) (g:=l.toArray.size-m) h j k d (l.take m) 0 _ a (fun p d=>by
  have f:p<m:=by rw[b]at d;exact d
  simp[f]) (by simpa using b) g (by rw[b];exact i) r
 refine wpIn_region_any o ?_
 have:=ou (n:=n) (Q':=Q) (g:=l.toArray.size-m) (fun f c d=>by
  have:=pA (n:=n) (md:=.any) (Q':=Q) (l.drop m) m f c w.drew (fun p=>by simp) (by rw[e];exact d.1) d.2
  rwa[e]at this) _ _ _ H
 rw[b,show m+(l.toArray.size-m)=l.toArray.size by omega]at this;exact this
def wH(o:Oper):Bool:=match o.op with
 | .defer _=>false
 |_=>true
theorem Jl{l n:Nat}{o:Oper}{a:Act}{w:World}{K:Act->World->Prop}{Q:Exit->Act->World->Prop}(b:wH o=true)(h:o.wp P a w K Q):o.wpIn (Fence.wide.inRound l) n P a w K Q:=by
 refine⟨fun _ _=>trivial,?_⟩;rw[Oper.semAt_plain _ _ _ (fun d c=>by unfold wH at b;rw[c]at b;cases b)];unfold Oper.wp at h;generalize (execOp a.eval o).run P w=r at *
 cases r with
 |ok x b=>
  cases x<;>simp only[Oper.upon]at h<;>simp only[Oper.uponIn]
  all_goals first|exact h|skip
  ·exact⟨fun h=>by simp[Fence.wide]at h,(callsIn_wide.2 h).m fun e b c=>by cases e<;>exact c⟩
  ·exact⟨fun h=>by simp[Fence.wide]at h,fun d c _=>let⟨v,b,r,s⟩:=h d c;⟨v,b,r,stepsIn_wide.2 s⟩⟩
 |halt x b=>cases x<;>simp only[Oper.upon]at h<;>simp only[Oper.uponIn]<;>exact h
theorem iK{l n:Nat}{Q:Exit->Act->World->Prop}(d: ¬LetsOut Q)(c: ∀(k:Nat) (o:Oper),ops[k]?=some o->wH o=true): ∀(b:Nat) (f:Array Bool) (i:Act) (w:World),wpAny P md ops Q b f i w->wpAnyIn (Fence.wide.inRound l) n P md ops Q b f i w
 |0,_,_,_,h=>h
 |b+1,f,i,w,h=>by
  refine⟨h.1,fun k j=>?_⟩;have a:=h.2 k j;unfold wpOp at a;unfold wpOpIn;split
  ·rename_i e;simp only[e]at a;exact iK d c b _ _ _ a
  ·rename_i o e;simp only[e]at a;split
   ·rename_i g;simp only[g,if_true]at a;rcases a with a|a
    ·exact Oper.wpIn_mono (fun i w h=>iK d c b _ i w h) (Jl (c k o e) a)
    ·exact absurd a.2 d
   ·rename_i g;simp only[g]at a;exact⟨fun _ _=>trivial,iK d c b _ _ _ a⟩
theorem vw{l f:Nat}{Q:Exit->Act->World->Prop}{S:World->Prop}{a:Act}(e:P.follows .mixedOrders=true)(c:S w.drew)(h:S w.drew->wpAnyH P .any ops Q S ops.size (Array.replicate ops.size false) a w.drew)
  (d: ¬LetsOut Q:=by exact fun⟨_,_,h⟩=>h) (b:ops.all wH=true:=by kernel_rfl):(Code.region f ops true).wpIn (Fence.wide.inRound l) n P Q a w:=
 wpIn_region_any e (iK d (fun i o d=>by
  have:=Array.all_eq_true'.1 b o (Array.mem_of_getElem? d)
  exact this) _ _ _ _ (wpAny_of_held _ _ _ _ (h c)))
end
section
open Go.RowKit Go.Shelf
attribute [local go_sem] Oper.semAt_some
def adg(F:Nat->Prop)(ps:List (List UInt8))(w:World)(e:Ending)(w':World):Prop:=
 ∃a v,e=.returned (.func (.func 55) #[] #[rv a])/\Below w.heap.size w w'/\w.heap.size<=a/\w'.cell? ⟨a,0,none⟩=some v/\
  cg w' (fun k=>F k\/w.heap.size<=k) v ps
theorem YF(w:World)(F:Nat->Prop)(b:Nat)(ps:List (List UInt8))(m:eX w F b ps)(C:ps.length<=1024):
  Calls prog 29 #[rv b] w (adg F ps w):=by
 obtain⟨A,v,s,d⟩:=m.at_
 replace d:=d.bound
 have B:=m.lt;have z:(w.alloc (.cells #[.slice none 0 0] 22)).cell? ⟨b,0,none⟩=some (.slice A ps.length v):=aI s _;have n:cg (w.alloc (.cells #[.slice none 0 0] 22)) (fun k=>F k/\k<w.heap.size) (.slice A ps.length v) ps:=d.below ((bd _ _).alloc (b8 _) _);obtain⟨c,l,e,f⟩:=n;have H:=AF l e f
 have g: ∀u∈c,u.oneCell'=true:=by intro u q;obtain⟨t,h,rfl⟩:=List.getElem_of_mem q;obtain⟨i,j,a,_⟩:=f t ps[t] (by simp[<-e,h]);rw[List.getElem?_eq_getElem h]at a;injection a with a;rw[a];rfl
 have o:c.length*24<=140737488355328:=by omega
 have p:=al g;clear d l e f m g;go_enter func29,ntmps29;go_wp2_with fail;refine(Hv _ c _ _ H.o.1 p.o o).m ?_;rintro x f ⟨g,l,rfl,a,d⟩;have e:f.heap[w.heap.size]?=some (.cells #[.slice none 0 0] 22 (0,0)):=(d.block _ (by simp)).x (an w _);have r:=aL e;have y:=bL e;go_wp2_with fail;go_ret
 have m:=Only.aR f w.heap.size 0 (.slice g c.length l);refine⟨w.heap.size,.slice g c.length l,rfl,?_,b8 _,?_,c,?_,H.o.2.1,fun t l f=>?_⟩
 ·refine(((bd _ _).alloc (b8 _) _).x (d.m (by simp))).setCell (b8 _) _
 ·exact World.cell?_setCell_same' _ _ _ (by rw[r];rfl)
 ·refine Rd.bO (aJ a m ?_) ?_
  ·intro g c x;have:=(a.lt g c).1;simp at this;omega
  ·intro g c;have:=(a.lt g c).1;simp at this;exact .inr (by omega)
 ·obtain⟨i,j,a,c⟩:=H.o.d t l f;refine⟨i,j,a,Rd.mono (F:=fun k=>F k/\k<w.heap.size) ((c.below d).only m ?_) (fun k a=>.inl a.1)⟩;intro k a x;omega
def Dq(ps:List (List UInt8))(a:List (List UInt8))(x:List UInt8)(v0 v1:Value)(U:Nat->Prop)(W:World):Prop:=
 v0=rm a.length/\ ∃A c F,v1=.slice A x.length c/\ps[a.length]?=some x/\a=ps.take a.length/\Rd W F (.slice A x.length c) (x.map B8)/\ ∀k,F k-> ¬U k
theorem F4(ps:List (List UInt8)): ∀a x b c U V A B,Dq ps a x b c V A->Only V A B->(∀k,U k->V k)->Dq ps a x b c U B:=by rintro a x b c U V A B ⟨e,j,n,F,i,f,m,g,d⟩ l h;exact⟨e,j,n,F,i,f,m,g.only l d,fun k a b=>d k a (h k b)⟩
theorem UG(w:World)(Fp:Nat->Prop)(Bs:Nat)(v:Value)(ps:List (List UInt8))(hpl: ∀p∈ps,p.length<=8192)(hF:Fp Bs)(hBs:w.cell? ⟨Bs,0,none⟩=some v)(hr:cg w Fp v ps):
  Aj prog 55 #[rv Bs] (fun pre x args U W=> ∃v0 v1,args= #[v0,v1]/\Dq ps pre x v0 v1 U W) Fp (fun xs=>xs=ps) (fun pre=>pre<+:ps) w:=by
 intro l J Jx W U0 hJ qH hag mA h0 hY;have hr':=hr.agree hag;obtain⟨A,c,rfl,hc,hm,_⟩:=hr.at_;have aeA:W.cell? ⟨Bs,0,none⟩=some (.slice A ps.length c):=qQ hag hF hBs;have HY:=al hY;have HR:=al hr';have HP:=al hpl;clear hY hr hr' hag hpl hBs;unfold maxLen at hm;refine callsIn_of_wp func55 rfl trivial ?_ rfl;simp only[ntmps55,lz,gn,lp,Nat.reduceAdd,Nat.reduceSub,Array.replicate_succ,Array.replicate_zero,List.push_toArray,List.append_toArray,fj,lE]
 gi_wp2
 gi_loopw [7] (fun i wr=> ∃(k:Nat) (U:Nat->Prop),k<=ps.length/\i=rm k/\J (ps.take k) U wr/\Only U0 W wr/\Grow W U0 U)
  (fun i _=>ps.length-(intOf i).toNat)
 case atStart=>exact⟨0,U0,dq _,rfl,by simpa using h0,oE _ _,Grow.refl _ _⟩
 case round=>
  obtain⟨k,U,hk,rfl,hJs,ho,hg⟩:=hrel;by_cases hlt:k<ps.length
  ·obtain⟨p,hp⟩: ∃p,ps[k]?=some p:=⟨_,ao hlt⟩;obtain⟨A0,c0,he,_,_,hat⟩:=(HR.o.only ho mA).at_;injection he with e1 _ e3;subst e1 e3;obtain⟨b,o,A',c',rfl,hcell,fF⟩:=hat k p hp;have hpl:=HP.o p (db hp);have htk:ps.take (k+1)=ps.take k++[p]:=by rw[gO,hp];rfl
   have hlk:(ps.take k).length=k:=by simp;omega
   have HTK:=al htk;have HLK:=al hlk;have HPK:=al hp;have HRD:=al fF;have QL:=hJ.1 _ _ _ hJs;have HU:=al QL;clear hat htk hlk hp fF QL
   gi_wp2_with (refine⟨trivial,?_⟩;gi_at_call 46;refine(callsIn_wide.2 (jz _ (p.map B8) Fp _ HRD.o (tz p) (by simp;omega))).m ?_;rintro e w1 ⟨Ax,cx,rfl,hx,hbl⟩)
   have hx2:w1.ownsRow wr.heap.size 5 1 (.slice Ax p.length cx) p.length (p.map B8):=by simpa using hx
   have hJ1:J (ps.take k) U w1:=hJ.2 _ _ _ _ _ hJs (oB hbl fun _=>False) (fun _ h=>h.elim)
   have hpre:Dq ps (ps.take k) p (rm k) (.slice Ax p.length cx) U w1:=
    ⟨by rw[HLK.o],Ax,cx,fun j=>wr.heap.size<=j,rfl,by rw[HLK.o];exact HPK.o,by rw[HLK.o],Rd.bO hx2 (fun g hg=>(hx2.lt g hg).1),fun j hj hu=>by have:=HU.o j hu;omega⟩
   obtain⟨fn,tmps,assign,body,hy,hR⟩:=HY.o _ _ _ _ _ hJ1 ⟨_,_,rfl,hpre⟩;have hsz:wr.heap.size<=w1.heap.size:=hbl.size;have hg1:Only U0 W w1:=ho.trans (T:=fun _=>False) (oB hbl _) (fun _ _ h=>h.elim);rw[hy];refine⟨fun h=>by simp[Fence.wide]at h,(nX hR).m ?_⟩;rintro e W3 (⟨rfl,U',hJ3,eo,hg3⟩|⟨rfl,U',ql,eo,hg3⟩)
   ·have Wm:J (ps.take (k+1)) U' W3:=by rw[HTK.o];exact hJ3
    have lX:Only U0 W W3:=hg1.x eo (fun i hi h=>(hg i h).elim id (fun h=>by omega));have hg4:Grow W U0 U':=hg.x hg3 (by have:=ho.size;omega)
    gi_wp2
    go_roundw
    case rel=>exact⟨k+1,U',by omega,by go_num,Wm,lX,hg4⟩
    case measure=>simp[intOf];omega
   ·have lX:Only U0 W W3:=hg1.x eo (fun i hi h=>(hg i h).elim id (fun h=>by omega));have hg4:Grow W U0 U':=hg.x hg3 (by have:=ho.size;omega)
    gi_wp2
    refine dj (du rfl _ _ _) rfl ?_;exact⟨⟨_,rfl⟩,.inr ⟨_,U',by rw[<-HTK.o];exact List.take_prefix _ _,ql,lX,hg4⟩⟩
  ·obtain rfl:k=ps.length:=by omega
   gi_wp2
   go_end0
   exact⟨⟨_,rfl⟩,.inl ⟨_,U,rfl,by simpa using hJs,ho,hg⟩⟩
end
end Go.Proofs.YtehccbdajiiaaaaGreatDoor
