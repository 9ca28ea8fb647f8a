import Derived.Test.YtehccbdajiiaaaaGreatDoorS19
import Derived.Test.YtehccbdajiiaaaaGreatDoorS42
import Derived.Test.YtehccbdajiiaaaaGreatDoorS44
namespace Go.Proofs.YtehccbdajiiaaaaGreatDoor
open Go.Proofs.Tryz
set_option maxRecDepth 100000
set_option maxHeartbeats 16000000
open Go.RowKit
def zeroE:Value:=.agg #[rm 0,.slice none 0 0,.slice none 0 0,.slice none 0 0]
def Zu(xs:List UInt8)(w:World)(e:Ending)(w':World):Prop:=
 Below w.heap.size w w'/\
  ((∃a x d b c,xs=gF a/\gJ a=some x/\nt x=0/\e=.returned (.tuple #[Dx x d b c,rm 0])/\jR w' (fun k=>w.heap.size<=k) x d b c)\/
   (∃a x,xs=gF a/\gJ a=some x/\nt x≠0/\e=.returned (.tuple #[zeroE,rm (nt x)]))\/
   (∃a,xs=gF a/\gJ a=none/\e=.returned (.tuple #[zeroE,rm 11]))\/
   ((∀a,xs≠gF a)/\e=.returned (.tuple #[zeroE,rm (if xs.length<4 then 11 else 12)])))
theorem DJ{w w0:World}{N B:Nat}(h:Below N w0 w)(a:N<=B)(v0 v1 v2 v3:Value):
  Below N w0 ((((w.setCell ⟨B,0,none⟩ v0).setCell ⟨B,1,none⟩ v1).setCell ⟨B,2,none⟩ v2).setCell ⟨B,3,none⟩ v3):=
 (((h.setCell a v0).setCell a v1).setCell a v2).setCell a v3
theorem jR.only{w w':World}{G S:Nat->Prop}{e:FE}{f c d:Value}(h:jR w G e f c d)(a:Only S w w')(b: ∀k,G k-> ¬S k):jR w' G e f c d:=⟨bI.only h.1 a b,Rd.only h.2.1 a b,bI.only h.2.2.1 a b,h.2.2.2⟩
theorem GH(w:World)(F:Nat->Prop)(v:Value)(xs:List UInt8)(e:gZ w)(f:gy w)(d:Rd w F v (xs.map B8))(hl:xs.length<=1000000):
  Calls prog 34 #[v] w (Zu xs w):=by
 obtain⟨A,n,c,rfl,_⟩:=id d;have a:=fM w (sq 0);have j:=an w (sq 0);have g:=T9 _ F _ xs (e.below a) (d.below a) hl;have HT:=AD f hl;have I:=al a;have b:=al g;clear e f d a g;go_enter func34,ntmps34;go_wp2_with fail;generalize w.alloc (sq 0)=d at I b j⊢;obtain⟨z,a⟩:=rk (w.heap.size);rw[a]at j⊢;have u:=al a;clear a;have a0:z<d.heap.size:=(cq.1 j).1;refine b.o.m ?_;rintro e Z ⟨q,am⟩;have t:=qt q j;have B:=al (I.o.x (q.m I.o.size));have C:=al q.size;clear b;rcases am with⟨a,A2,c2,b,rfl,d⟩|⟨V,rfl⟩
 ·have DT:a.length<=1000000:=by
   have g:=eE List.length b;have f:a.length<=(gF a).length:=by simp[gF]
   have:=HT.o.2;omega
  have m:=al (Kn Z (fun _=>True) _ a (Rd.bO d (fun _ _=>trivial)) (by omega));have T:=al b;clear b d j q;go_wp2_with fail;refine m.o.m ?_;rintro e w3 ⟨b,rfl,d,f⟩;have i:Z.heap.size<=b:=by obtain⟨_,_,h,_⟩:=f;exact h
  have l:=al (JG _ b a 0 w3 f.bound (fun k y=>y.2));have g:=qt d t;have L:=al (B.o.x (d.m (by have:=B.o.size;omega)));have ac:=al d.size;have HG:=al i;clear f d t m i;go_wp2_with fail;refine l.o.m ?_;rintro e d ⟨f,r⟩;rw[List.drop_zero]at r;have i:z≠b:=by have:=HG.o;have:=C.o;omega
  have p:=f.heap g i;have U:=al (L.o.x (f.aH (N:=w.heap.size) (by have:=L.o.size;omega) (fun k y e=>by have:=HG.o;have:=C.o;have:=B.o.size;omega)));clear l f g;have ad:z<d.heap.size:=(cq.1 p).1;have M:w.heap.size<=d.heap.size:=U.o.size
  cases hg:gJ a with
  |none=>rw[hg]at r;obtain rfl:=r;have S:=al hg;clear hg i;go_upto_region 5 with fail;have f:=fM d (sq 0);have g:=qt f p;have l:=al (U.o.x (f.m M));clear f p;generalize d.alloc (sq 0)=w5 at g l⊢;obtain⟨⟨z0,z1,z2,z3⟩,Y,y1,y2,X⟩:=rC g;go_wp2_with fail;refine dj (ax rfl _ _ _ _ _ _ _ rfl (AB g _ _ _ _) underlying96 rfl (by kernel_rfl)) rfl ⟨DJ l.o (by have:=u.o;omega) _ _ _ _,.inr (.inr (.inl ⟨a,T.o,S.o,?_⟩))⟩;exact rfl
  |some x=>
   rw[hg]at r;obtain⟨vo,va,vc,rfl,E,D,s⟩:=r;obtain⟨o,_,_,a'⟩:=yX hg;have m:jR d (fun k=>w3.heap.size<=k) x vo va vc:=⟨E,D,s,o⟩;obtain⟨N,K,rfl,_,_⟩:=m.1.slice;obtain⟨J,H,rfl,_,_⟩:=BN m.2.1;obtain⟨O,P,rfl,_,_⟩:=m.2.2.1.slice;have W:=al hg;clear hg E D s i o;unfold Dx;obtain⟨E,R⟩:=rk (x.id);rw[R];go_upto_region 5 with fail;have f:=fM d (sC E N x.ops.length K J x.args.length H O x.cls.length P);have s:=an d (sC E N x.ops.length K J x.args.length H O x.cls.length P);have g:=qt f p;have G:=U.o.x (f.m M);have Q:=m.below f;have o:=al (Nr _ _ x _ _ _ Q (HT.o.1.below G) (by omega));have l:=al G;have D:=al Q;clear f p G Q m;unfold Dx at o;rw[R]at o;generalize d.alloc (sC E N x.ops.length K J x.args.length H O x.cls.length P)=w5 at g s l D o⊢;generalize d.heap.size=f at s ad M⊢;obtain⟨⟨Q,x1,x2,x3⟩,_,_,_,_⟩:=rC s;go_wp2_with fail;refine o.o.m ?_;rintro e w6 ⟨rfl,f⟩;have m:=qt f g;have aa:=qt f s;have G:=al (l.o.x (f.m l.o.size));have ap:=al (D.o.below f);clear o f g s D Q x1 x2 x3;obtain⟨⟨z0,z1,z2,z3⟩,Y,y1,y2,X⟩:=rC m;obtain⟨⟨Q,x1,x2,x3⟩,_,_,_,_⟩:=rC aa;obtain⟨o,f⟩:=rk (nt x);rw[f];have g:=al f;clear f;by_cases p:o=0
   ·subst p;go_wp2_with fail;refine dj (ax rfl _ _ _ _ _ _ _ rfl (AB m _ _ _ _) underlying96 rfl (by kernel_rfl)) rfl ⟨DJ G.o (by have:=u.o;omega) _ _ _ _,.inl ⟨a,x,_,_,_,T.o,W.o,g.o,?_,ap.o.only (Rs w6 z _ _ _ _) (fun k y e=>by have:=C.o;have:=ac.o;omega)|>.mono (fun k y=>by have:=L.o.size;omega)⟩⟩;rw[Dx,R];rfl
   ·have i:(o !=0)=true:=by simpa using p
    go_wp2_with fail;refine dj (ax rfl _ _ _ _ _ _ _ rfl (AB m _ _ _ _) underlying96 rfl (by kernel_rfl)) rfl ⟨DJ G.o (by have:=u.o;omega) _ _ _ _,.inr (.inl ⟨a,x,T.o,W.o,by rw[g.o];exact p,?_⟩)⟩;rw[g.o];rfl
 ·have i:((if xs.length<4 then(11:Int)else 12) !=0)=true:=by split<;>rfl
  have S:=al V;clear V q j;generalize f:(if xs.length<4 then(11:Int)else 12)=o at i⊢;have g:=al f;clear f;obtain⟨⟨z0,z1,z2,z3⟩,Y,y1,y2,X⟩:=rC t;go_wp2_with fail;refine dj (ax rfl _ _ _ _ _ _ _ rfl (AB t _ _ _ _) underlying96 rfl (by kernel_rfl)) rfl ⟨DJ B.o (by have:=u.o;omega) _ _ _ _,.inr (.inr (.inr ⟨S.o,?_⟩))⟩;rw[g.o];exact rfl
noncomputable def sP(a:List UInt8):Option FE:=
 if a=gF (a.take (a.length-4))then
  match gJ (a.take (a.length-4))with
  |some x=>if nt x=0 then some x else none
  |none=>none
 else none
theorem NK(ys:List UInt8):(gF ys).take ((gF ys).length-4)=ys:=by rw[oX,ox];unfold gF;rw[List.take_left]
theorem rE(ys:List UInt8):sP (gF ys)=match gJ ys with
  |some x=>if nt x=0 then some x else none
  |none=>none:=by
 unfold sP;rw[NK,ff rfl]
theorem GI{a:List UInt8}(h: ∀b,a≠gF b):sP a=none:=by unfold sP;rw[fb (h _)]
theorem JQ{c:List UInt8}{x:FE}(h:sP c=some x):nt x=0/\x.fits/\x.ops.length<=64/\x.args.length<=8/\x.cls.length<=64:=by
 unfold sP at h;split at h
 ·split at h
  ·rename_i y b;split at h
   ·rename_i a;injection h with h;subst h;exact⟨a,yX b⟩
   ·cases h
  ·cases h
 ·cases h
abbrev Out:=Int×Int×Int
noncomputable def qL(p:PS az×Int)(x:FE):Bool:= @decide (iC (bC p.1.cl) (bC x.cls)) (Classical.propDecidable _)
theorem NL{p:PS az×Int}{x:FE}:qL p x=true↔iC (bC p.1.cl) (bC x.cls):=by unfold qL;exact @decide_eq_true_iff _ (Classical.propDecidable _)
def ab2(p:PS az×Int):Int:=if p.2=0 then p.1.bD 0 else p.1.value
noncomputable def Zx(most fuel:Int)(x:FE)(l:az):Out×az:=
 let p:=DG most fuel (fun _=>true) x.ops x.args l
 let k:=Aw (qL p x) p.2
 ((k,x.id,Q6 k (ab2 p)),if k=1 then p.1.rows else l)
noncomputable def qp(most fuel:Int)(a:List UInt8)(l:az):Out×az:=match sP a with
 |some x=>Zx most fuel x l
 |none=>((7,0,0),l)
noncomputable def bH(most fuel:Int):List (List UInt8)->az->List Out×az
 |[],l=>([],l)
 |b::bs,l=>((qp most fuel b l).1::(bH most fuel bs (qp most fuel b l).2).1,(bH most fuel bs (qp most fuel b l).2).2)
theorem qc(most fuel:Int): ∀(a b:List (List UInt8)) (l:az),bH most fuel (a++b) l=((bH most fuel a l).1++(bH most fuel b (bH most fuel a l).2).1,(bH most fuel b (bH most fuel a l).2).2)
 |[],_,_=>rfl
 |x::a,b,l=>by rw[lE,bH,qc most fuel a b,bH];rfl
theorem jn(most fuel:Int): ∀(a:List (List UInt8)) (l:az),(bH most fuel a l).1.length=a.length
 |[],_=>rfl
 |x::a,l=>by rw[bH,gn,gn,jn most fuel a]
theorem zl(most fuel:Int){ps:List (List UInt8)}{n:Nat}{b:List UInt8}(a:ps[n]?=some b)(l:az):
  bH most fuel (ps.take (n+1)) l=((bH most fuel (ps.take n) l).1++[(qp most fuel b (bH most fuel (ps.take n) l).2).1],(qp most fuel b (bH most fuel (ps.take n) l).2).2):=by
 rw[gO,a,Option.toList_some,qc,bH,bH]
theorem zn(most fuel:Int)(ps:List (List UInt8))(n:Nat)(l:az):(bH most fuel (ps.take n) l).1=(bH most fuel ps l).1.take n:=by
 have h:=qc most fuel (ps.take n) (ps.drop n) l;rw[List.take_append_drop]at h;rw[h];have a:(bH most fuel (ps.take n) l).1.length=min n ps.length:=by rw[jn,im]
 have b:(bH most fuel (ps.drop n) (bH most fuel (ps.take n) l).2).1.length=ps.length-n:=by rw[jn,my]
 generalize (bH most fuel (ps.take n) l).1=A at a⊢;generalize (bH most fuel (ps.drop n) _).1=B at b⊢;show A=(A++B).take n;rw[List.take_append];by_cases c:n<=ps.length
 ·rw[show n-A.length=0 by omega,kn,fs,fm (by omega)]
 ·rw[List.length_eq_zero_iff.1 (show B.length=0 by omega),List.take_nil,fs,fm (by omega)]
theorem RU(most fuel:Int){ps:List (List UInt8)}{n:Nat}{b:List UInt8}(a:ps[n]?=some b)(l:az):(bH most fuel ps l).1[n]?=some (qp most fuel b (bH most fuel (ps.take n) l).2).1:=by
 have h:=zn most fuel ps (n+1) l;rw[zl most fuel a]at h;have d:=(aw.1 a).1;have e:((bH most fuel ps l).1.take (n+1))[n]?=(bH most fuel ps l).1[n]?:=by rw[lP];simp
 rw[<-e,<-h];have c:(bH most fuel (ps.take n) l).1.length=n:=by rw[jn,im];omega
 rw[iv (by omega),c,Nat.sub_self];rfl
theorem Zu.read{xs:List UInt8}{w w':World}{e:Ending}(l:Zu xs w e w'):Below w.heap.size w w'/\
  ((∃x g c f,sP xs=some x/\e=.returned (.tuple #[Dx x g c f,rm 0])/\jR w' (fun k=>w.heap.size<=k) x g c f)\/(sP xs=none/\ ∃k:Int,k≠0/\e=.returned (.tuple #[zeroE,rm k]))):=by
 obtain⟨j,l⟩:=l;refine⟨j,?_⟩;rcases l with⟨h,x,g,c,f,rfl,b,d,a,k⟩|⟨h,x,rfl,b,d,a⟩|⟨h,rfl,b,a⟩|⟨i,a⟩
 ·exact .inl ⟨x,g,c,f,by rw[rE,b];exact ff d,a,k⟩
 ·exact .inr ⟨by rw[rE,b];exact fb d,_,d,a⟩
 ·exact .inr ⟨by rw[rE,b],11,by decide,a⟩
 ·exact .inr ⟨GI i,_,by split<;>decide,a⟩
end Go.Proofs.YtehccbdajiiaaaaGreatDoor
