import Derived.Test.YtehccbdajiiaaaaGreatDoorP24
import Derived.Test.YtehccbdajiiaaaaGreatDoorP37
import Derived.Test.YtehccbdajiiaaaaGreatDoorP43
namespace Go.Proofs.YtehccbdajiiaaaaGreatDoor
open Go.Proofs.Tryz
set_option maxRecDepth 100000
set_option maxHeartbeats 16000000
open Go.RowKit
def zeroE:Value:=.agg #[rv 0,.slice none 0 0,.slice none 0 0,.slice none 0 0]
def Yq(xs:List UInt8)(w:World)(e:Ending)(w':World):Prop:=
 Below w.heap.size w w'/\
  ((∃a x c d b,xs=gw a/\gH a=some x/\mR x=0/\e=.returned (.tuple #[zj x c d b,rv 0])/\jK w' (fun k=>w.heap.size<=k) x c d b)\/
   (∃a x,xs=gw a/\gH a=some x/\mR x≠0/\e=.returned (.tuple #[zeroE,rv (mR x)]))\/
   (∃a,xs=gw a/\gH a=none/\e=.returned (.tuple #[zeroE,rv 11]))\/
   ((∀a,xs≠gw a)/\e=.returned (.tuple #[zeroE,rv (if xs.length<4 then 11 else 12)])))
theorem C3{w w0:World}{N B:Nat}(h:Below N w0 w)(a:N<=B)(v0 v1 v2 v3:Value):
  Below N w0 ((((w.setCell ⟨B,0,none⟩ v0).setCell ⟨B,1,none⟩ v1).setCell ⟨B,2,none⟩ v2).setCell ⟨B,3,none⟩ v3):=
 (((h.setCell a v0).setCell a v1).setCell a v2).setCell a v3
theorem jK.only{w w':World}{G S:Nat->Prop}{e:FE}{d f c:Value}(h:jK w G e d f c)(b:Only S w w')(a: ∀k,G k-> ¬S k):jK w' G e d f c:=⟨bJ.only h.1 b a,Rd.only h.2.1 b a,bJ.only h.2.2.1 b a,h.2.2.2⟩
theorem uz(w:World)(F:Nat->Prop)(v:Value)(xs:List UInt8)(g:iz w)(e:fK w)(d:Rd w F v (xs.map B8))(hl:xs.length<=1000000):
  Calls prog 34 #[v] w (Yq xs w):=by
 obtain⟨A,n,c,rfl,_⟩:=id d;have a:=fG w (sq 0);have j:=an w (sq 0);have f:=Te _ F _ xs (g.below a) (d.below a) hl;have HT:=AI e hl;have P:=al a;have b:=al f;clear g e d a f;go_enter func34,ntmps34;go_wp2_with fail;generalize w.alloc (sq 0)=d at P b j⊢;obtain⟨u,a⟩:=rl (w.heap.size);rw[a]at j⊢;have B:=al a;clear a;have a0:u<d.heap.size:=(cq.1 j).1;refine b.o.m ?_;rintro e w2 ⟨q,ac⟩;have t:=qS q j;have z:=al (P.o.x (q.m P.o.size));have D:=al q.size;clear b;rcases ac with⟨a,A2,c2,b,rfl,d⟩|⟨V,rfl⟩
 ·have Da:a.length<=1000000:=by
   have g:=ew List.length b;have f:a.length<=(gw a).length:=by simp[gw]
   have:=HT.o.2;omega
  have i:=al (JL w2 (fun _=>True) _ a (Rd.bO d (fun _ _=>trivial)) (by omega));have O:=al b;clear b d j q;go_wp2_with fail;refine i.o.m ?_;rintro e w3 ⟨b,rfl,d,f⟩;have g:w2.heap.size<=b:=by obtain⟨_,_,h,_⟩:=f;exact h
  have m:=al (IG _ b a 0 w3 f.bound (fun k y=>y.2));have l:=qS d t;have G:=al (z.o.x (d.m (by have:=z.o.size;omega)));have ap:=al d.size;have HG:=al g;clear f d t i g;go_wp2_with fail;refine m.o.m ?_;rintro e d ⟨f,r⟩;rw[List.drop_zero]at r;have i:u≠b:=by have:=HG.o;have:=D.o;omega
  have o:=f.heap l i;have U:=al (G.o.x (f.aI (N:=w.heap.size) (by have:=G.o.size;omega) (fun k y e=>by have:=HG.o;have:=D.o;have:=z.o.size;omega)));clear m f l;have ad:u<d.heap.size:=(cq.1 o).1;have S:w.heap.size<=d.heap.size:=U.o.size
  cases hg:gH a with
  |none=>rw[hg]at r;obtain rfl:=r;have H:=al hg;clear hg i;go_upto_region 5 with fail;have f:=fG d (sq 0);have g:=qS f o;have l:=al (U.o.x (f.m S));clear f o;generalize d.alloc (sq 0)=w5 at g l⊢;obtain⟨⟨z0,X,z2,Y⟩,y0,Z,y2,y3⟩:=qO g;go_wp2_with fail;refine dj (ax rfl _ _ _ _ _ _ _ rfl (zo g _ _ _ _) underlying96 rfl (by kernel_rfl)) rfl ⟨C3 l.o (by have:=B.o;omega) _ _ _ _,.inr (.inr (.inl ⟨a,O.o,H.o,?_⟩))⟩;exact rfl
  |some x=>
   rw[hg]at r;obtain⟨vo,va,vc,rfl,C,s,E⟩:=r;obtain⟨p,_,_,a'⟩:=yh hg;have m:jK d (fun k=>w3.heap.size<=k) x vo va vc:=⟨C,s,E,p⟩;obtain⟨J,I,rfl,_,_⟩:=m.1.slice;obtain⟨M,Q,rfl,_,_⟩:=Bd m.2.1;obtain⟨N,T,rfl,_,_⟩:=m.2.2.1.slice;have W:=al hg;clear hg C s E i p;unfold zj;obtain⟨E,R⟩:=rl (x.id);rw[R];go_upto_region 5 with fail;have f:=fG d (sR E J x.ops.length I M x.args.length Q N x.cls.length T);have s:=an d (sR E J x.ops.length I M x.args.length Q N x.cls.length T);have g:=qS f o;have L:=U.o.x (f.m S);have K:=m.below f;have p:=al (Mi _ _ x _ _ _ K (HT.o.1.below L) (by omega));have l:=al L;have C:=al K;clear f o L K m;unfold zj at p;rw[R]at p;generalize d.alloc (sR E J x.ops.length I M x.args.length Q N x.cls.length T)=w5 at g s l C p⊢;generalize d.heap.size=f at s ad S⊢;obtain⟨⟨L,x1,x2,x3⟩,_,_,_,_⟩:=qO s;go_wp2_with fail;refine p.o.m ?_;rintro e w6 ⟨rfl,f⟩;have m:=qS f g;have am:=qS f s;have K:=al (l.o.x (f.m l.o.size));have aa:=al (C.o.below f);clear p f g s C L x1 x2 x3;obtain⟨⟨z0,X,z2,Y⟩,y0,Z,y2,y3⟩:=qO m;obtain⟨⟨L,x1,x2,x3⟩,_,_,_,_⟩:=qO am;obtain⟨o,f⟩:=rl (mR x);rw[f];have g:=al f;clear f;by_cases p:o=0
   ·subst p;go_wp2_with fail;refine dj (ax rfl _ _ _ _ _ _ _ rfl (zo m _ _ _ _) underlying96 rfl (by kernel_rfl)) rfl ⟨C3 K.o (by have:=B.o;omega) _ _ _ _,.inl ⟨a,x,_,_,_,O.o,W.o,g.o,?_,aa.o.only (Qa w6 u _ _ _ _) (fun k y e=>by have:=D.o;have:=ap.o;omega)|>.mono (fun k y=>by have:=G.o.size;omega)⟩⟩;rw[zj,R];rfl
   ·have i:(o !=0)=true:=by simpa using p
    go_wp2_with fail;refine dj (ax rfl _ _ _ _ _ _ _ rfl (zo m _ _ _ _) underlying96 rfl (by kernel_rfl)) rfl ⟨C3 K.o (by have:=B.o;omega) _ _ _ _,.inr (.inl ⟨a,x,O.o,W.o,by rw[g.o];exact p,?_⟩)⟩;rw[g.o];rfl
 ·have i:((if xs.length<4 then(11:Int)else 12) !=0)=true:=by split<;>rfl
  have H:=al V;clear V q j;generalize f:(if xs.length<4 then(11:Int)else 12)=o at i⊢;have g:=al f;clear f;obtain⟨⟨z0,X,z2,Y⟩,y0,Z,y2,y3⟩:=qO t;go_wp2_with fail;refine dj (ax rfl _ _ _ _ _ _ _ rfl (zo t _ _ _ _) underlying96 rfl (by kernel_rfl)) rfl ⟨C3 z.o (by have:=B.o;omega) _ _ _ _,.inr (.inr (.inr ⟨H.o,?_⟩))⟩;rw[g.o];exact rfl
noncomputable def qw(a:List UInt8):Option FE:=
 if a=gw (a.take (a.length-4))then
  match gH (a.take (a.length-4))with
  |some x=>if mR x=0 then some x else none
  |none=>none
 else none
theorem ME(ys:List UInt8):(gw ys).take ((gw ys).length-4)=ys:=by rw[rA,oE];unfold gw;rw[List.take_left]
theorem qP(ys:List UInt8):qw (gw ys)=match gH ys with
  |some x=>if mR x=0 then some x else none
  |none=>none:=by
 unfold qw;rw[ME,fi rfl]
theorem QH{a:List UInt8}(h: ∀b,a≠gw b):qw a=none:=by unfold qw;rw[ff (h _)]
theorem yr{c:List UInt8}{x:FE}(h:qw c=some x):mR x=0/\x.fits/\x.ops.length<=64/\x.args.length<=8/\x.cls.length<=64:=by
 unfold qw at h;split at h
 ·split at h
  ·rename_i y a;split at h
   ·rename_i b;injection h with h;subst h;exact⟨b,yh a⟩
   ·cases h
  ·cases h
 ·cases h
abbrev Out:=Int×Int×Int
noncomputable def qx(p:PS az×Int)(x:FE):Bool:= @decide (iq (aW p.1.cl) (aW x.cls)) (Classical.propDecidable _)
theorem MF{p:PS az×Int}{x:FE}:qx p x=true↔iq (aW p.1.cl) (aW x.cls):=by unfold qx;exact @decide_eq_true_iff _ (Classical.propDecidable _)
def abA(p:PS az×Int):Int:=if p.2=0 then p.1.bA 0 else p.1.value
noncomputable def Yu(most fuel:Int)(x:FE)(l:az):Out×az:=
 let p:=r9 most fuel (fun _=>true) x.ops x.args l
 let k:=zh (qx p x) p.2
 ((k,x.id,PK k (abA p)),if k=1 then p.1.rows else l)
noncomputable def yt(most fuel:Int)(a:List UInt8)(l:az):Out×az:=match qw a with
 |some x=>Yu most fuel x l
 |none=>((7,0,0),l)
noncomputable def eT(most fuel:Int):List (List UInt8)->az->List Out×az
 |[],l=>([],l)
 |b::bs,l=>((yt most fuel b l).1::(eT most fuel bs (yt most fuel b l).2).1,(eT most fuel bs (yt most fuel b l).2).2)
theorem Bu(most fuel:Int): ∀(a b:List (List UInt8)) (l:az),eT most fuel (a++b) l=((eT most fuel a l).1++(eT most fuel b (eT most fuel a l).2).1,(eT most fuel b (eT most fuel a l).2).2)
 |[],_,_=>rfl
 |x::a,b,l=>by rw[nh,eT,Bu most fuel a b,eT];rfl
theorem Yq.read{xs:List UInt8}{w w':World}{e:Ending}(l:Yq xs w e w'):Below w.heap.size w w'/\
  ((∃x f g c,qw xs=some x/\e=.returned (.tuple #[zj x f g c,rv 0])/\jK w' (fun k=>w.heap.size<=k) x f g c)\/(qw xs=none/\ ∃k:Int,k≠0/\e=.returned (.tuple #[zeroE,rv k]))):=by
 obtain⟨j,l⟩:=l;refine⟨j,?_⟩;rcases l with⟨h,x,f,g,c,rfl,b,d,a,i⟩|⟨h,x,rfl,b,d,a⟩|⟨h,rfl,b,a⟩|⟨k,a⟩
 ·exact .inl ⟨x,f,g,c,by rw[qP,b];exact fi d,a,i⟩
 ·exact .inr ⟨by rw[qP,b];exact ff d,_,d,a⟩
 ·exact .inr ⟨by rw[qP,b],11,by decide,a⟩
 ·exact .inr ⟨QH k,_,by split<;>decide,a⟩
end Go.Proofs.YtehccbdajiiaaaaGreatDoor
