import Derived.Test.YtehccbdajiiaaaaGreatDoorS25
import Derived.Test.YtehccbdajiiaaaaGreatDoorS32
import Derived.Maps.OwnIn
theorem List.IsPrefix.x{α:Type}{a b c:List α}(h:a<+:b)(k:b<+:c):a<+:c:=.trans h k
namespace Go.Proofs.YtehccbdajiiaaaaGreatDoor
open Go.Proofs.Tryz
set_option maxRecDepth 100000
set_option maxHeartbeats 16000000
open Go.RowKit
attribute [local go_sem] Oper.semAt_some
def K6(L a:List Pr)(p:Pr)(v0 v1:Value)(_:Nat->Prop)(_:World):Prop:=v0=BA p.1/\v1=BA p.2/\a++[p]<+:L
theorem yJ{n m:Nat}{P:Program}{l d:Nat}{f:FuncId}{tmps:Array Value}{a b:Code}{w:World}{R:Ending->World->Prop}(h:RoundIn Fence.wide n P l f tmps a b w R):RoundIn (Fence.wide.inRound d) m P l f tmps a b w R:=
 ⟨h.1,fun e c _=>h.2 e c (room_wide _)⟩
theorem K8(w:World)(N:Nat):Calls prog 125 #[rv N] w fun e a=>
  e=.returned (.func (.func 181) #[] #[rv w.heap.size])/\a=w.alloc (so N):=by
 go_enter func125,ntmps125;go_wp2_with fail;go_ret
 exact⟨rfl,rfl⟩
def Dr(l:Nat):Obj:=.cells #[.func (.yield l) #[] #[]] 221 (0,0)
def yK(J:List Pr->(Nat->Prop)->World->Prop)(W:World)(b:Nat->Prop)(l Y:Nat)(xs:List Pr)(c:List Deferred)(U:Nat->Prop)(a:World):Prop:=
 J xs U a/\Only b W a/\Grow W b U/\(¬U Y/\a.heap[Y]?=some (Dr l))/\fu W.heap.size U a c
theorem yK.next{J:List Pr->(Nat->Prop)->World->Prop}{W:World}{j:Nat->Prop}{l Y:Nat}{xs ys:List Pr}{k:List Deferred}{U e:Nat->Prop}{f g:World}(o:yK J W j l Y xs k U f)(m:J ys e g)(d:Only U f.drew g)(b:Grow f.drew U e):yK J W j l Y ys k e g:=by obtain⟨-,i,h,a,n⟩:=o;exact⟨m,i.x d.dV (fun q p c=>(h q c).elim id (fun o=>by omega)),h.x b i.size,⟨fun c=>(b _ c).elim a.1 (fun o=>by have:=oT a.2;simp at o;omega),d.dV.heap a.2 a.1⟩,n.go d.dV b⟩
theorem yK.drewN{N:Nat}{J:List Pr->(Nat->Prop)->World->Prop}{W:World}{d:Nat->Prop}{l Y:Nat}{xs:List Pr}{c:List Deferred}{U:Nat->Prop}{a:World}(h:yK J W d l Y xs c U a)(g:ed N J)(q:Nat):yK J W d l Y xs c U (a.drewN q):=by obtain⟨j,k,f,e,i⟩:=h;have b:=(oE (fun _=>False) a).drewN q;exact⟨g.2 _ _ _ _ _ j b (fun _ h=>h.elim),k.x b (fun _ _ h=>h.elim),f,⟨e.1,e.2⟩,i.go (b.m (fun _ _ h=>h.elim)) (Grow.refl _ _)⟩
def QQ(d:Nat):Prop:= ∀(o b a:Nat) (w:World) (B c:Nat) (x:ND) (F:Nat->Nat->Prop),aB w d c x F->w.heap[B]?=some (so c)->fD d o b a x->a<=1000->o<=500->(∀b q,F b q->b<w.heap.size)->
  Aj prog 181 #[rv B] (fun a p e U W=> ∃b c,e= #[b,c]/\K6 (aZ d x) a p b c U W) (fun k=>k=B\/ ∃q,F k q) (fun b=>b=aZ d x) (fun a=>a<+:aZ d x) w
theorem Lb(d:Nat)(ih: ∀d',d=d'+1->QQ d'):QQ d:=by
 intro o lo hi w B a C F r hB I d5 ho hF l J Jx W U0 hJ qH a4 mA h0 hY
 have cr: ∀k,(k=B\/ ∃E,F k E)->k<W.heap.size:=fun k g=>by
  have hw:k<w.heap.size:=by rcases g with rfl|⟨E,u⟩;exact oT hB;exact hF k E u
  exact oT (a4 k _ g (fl hw))
 have hn:=aB.agree (S:=fun k=>k=B\/ ∃E,F k E) a4 r (fun b E u=>.inr ⟨E,u⟩);have Hg:=a4 B _ (.inl rfl) hB;obtain⟨hb,kY⟩:=rj W (Dr l)
 have a7:(d=0\/C.ks.length=C.ps.length+1)/\C.ps.length<=hi:=by
  cases d with
  |zero=>exact⟨.inl rfl,I.2.1⟩
  |succ d=>exact⟨.inr I.2.2.1,I.2.1⟩
 obtain⟨X,hN⟩:=rk (C.ps.length);have wC:=hJ.1 _ _ _ h0;have f:=B9 hJ qH mA h0 hY hn Hg I a7 hN d5 ho cr;have jW:(X:Int)+1<=1001:=by have:=a7.2;omega
 obtain⟨vp,vk,aC,H,s,-,g3,g4,g5,-⟩:=hn.base.only (sub':=fun _ _ _=>True) (ri hb) (fun _ _ _ r=>r) (fun _ _ _ _ _=>trivial);obtain⟨A,c,rfl,-⟩:=g3.slice;obtain⟨Ak,ck,rfl,-⟩:=g4.slice;rw[fa,hN]at s;have q1:=qt hb Hg;clear hJ qH a4 mA h0 hY r hB I d5 ho hF cr hn Hg a7 hN g3 g4 g5;refine callsIn_wide.2 (fX func181 rfl ?_);simp only[ntmps181,lz,gn,lp,Nat.reduceAdd,Nat.reduceSub,Array.replicate_succ,Array.replicate_zero,List.push_toArray,List.append_toArray,fj,lE];go_upto_region 1 with fail;change Code.wp _ _ _ _ (W.alloc (Dr l));obtain⟨W1,bx⟩:=rk (W.alloc (Dr l));rw[bx]at hb kY s q1⊢;obtain⟨Y,YJ⟩:=rk (W.heap.size);rw[YJ]at kY⊢;have z0:W1.cell? ⟨B,0,none⟩=some (rv a):=by simp[World.cell?,q1]
 have z1:W1.cell? ⟨a,0,none⟩=some (.slice A X c):=by simp[World.cell?,s]
 have dc:=f.o.1.2 _ _ _ _ _ f.o.t.1 (qS hb) (fun _ r=>r.elim);have H1:=al (show yK J W U0 l Y (fL d C 0) [] U0 W1 from⟨by rw[Jb];exact dc,oB hb _,Grow.refl _ _,⟨fun r=>by have:=wC _ r;omega,kY⟩,fu.nil _ _ _⟩);have HE:=al YJ;clear hb kY s q1 wC bx YJ dc;go_wp2_with fail;clear z0 z1;refine(wpIn_wide (n:=10)).1 (wpIn_loop (fun a' q=> ∃(n:Nat) (U:Nat->Prop) (ds:List Deferred) (u3 u4 u5 ZU cw c3 cx b2 c' cm dl bv c8 b7 ce d4 bs cl c1 b' dn br bn bi b9 dx dz dg bl c4 bf b4 c9 d2 d8 ca d1 b5 ci cc c7 d3 d0 d7 c6 bh b1 bo dh dk cs ch cb:Value),n<=X+1/\yK J W U0 l Y (if n<=X then fL d C n else aZ d C) ds U q/\ZU=rm (n:Int)/\a'={tmps:= #[.func (.yield l) #[] #[],rv B,rv Y,u3,u4,u5,rv a,rv a,rv a,.slice A X c,rm (X:Int),rm ((X:Int)+1),ZU,cw,c3,cx,b2,c',cm,dl,bv,c8,b7,ce,d4,bs,cl,c1,b',dn,br,bn,bi,b9,dx,dz,dg,bl,c4,bf,b4,c9,d2,d8,ca,d1,b5,ci,cc,c7,d3,d0,d7,c6,bh,b1,bo,dh,dk,cs,ch,cb],defers:=ds}) (fun a' _=>X+1-(intOf (a'.tmps.getD 12 undef)).toNat) ?_ ?_)
 ·exact⟨0,U0,[],_,_,_,_,_,_,_,_,_,_,_,_,_,_,_,_,_,_,_,_,_,_,_,_,_,_,_,_,_,_,_,_,_,_,_,_,_,_,_,_,_,_,_,_,_,_,_,_,_,_,_,_,_,dq _,by rw[ff (Nat.zero_le _)];exact H1.o,rfl,rfl⟩
 rintro _ q ⟨n,U,ds,u3,u4,u5,ZU,cw,c3,cx,b2,c',cm,dl,bv,c8,b7,ce,d4,bs,cl,c1,b',dn,br,bn,bi,b9,dx,dz,dg,bl,c4,bf,b4,c9,d2,d8,ca,d1,b5,ci,cc,c7,d3,d0,d7,c6,bh,b1,bo,dh,dk,cs,ch,cb,cd,N,rfl,rfl⟩;by_cases a9:n<=X
 ·rw[ff a9]at N;have hj:=N.1;have co: ∀k,(k=B\/ ∃E,F k E)-> ¬U k:=fun k g v=>(N.2.2.1 k v).elim (f.o.d.1 k g) (fun r=>by have:=f.o.q.q.q k g;omega);have O:Agr (fun k=>k=B\/ ∃E,F k E) W q:=N.2.1.agr (fun k g=>f.o.d.1 k g);have rZ:=aB.agree O f.o.q.2.1 (fun b E u=>.inr ⟨E,u⟩);have ba:=O B _ (.inl rfl) f.o.q.d.1;have z0:q.cell? ⟨B,0,none⟩=some (rv a):=by simp[World.cell?,ba]
  have i1:(n:Int)<(X:Int)+1:=by omega
  have h:=AN N co O rZ ba a9;clear N hj co O ba a9 cd;rcases Nat.eq_zero_or_pos d with z|z
  focus
   have cv:C.ks=[]:=by subst z;exact f.o.q.t.1.none
   have HL:=al (OH q F a C rZ.base cv);have G:=al (show yK J W U0 l Y (fL d C n++ua d C n) ds U q from by subst z;simpa[ua]using h.o.1);clear rZ cv
   gi_wp2_with (refine⟨trivial,?_⟩;gi_at_call 173;refine(callsIn_wide.2 HL.o).m ?_;rintro e w2 ⟨rfl,rfl⟩)
   clear HL z0 z
  rotate_left
  focus
   obtain⟨d',a6⟩: ∃d',d=d'+1:=⟨d-1,by omega⟩;have I:=f.o.q.t.1;have lV:=rZ;rw[a6]at I lV;have el:=I.kids;have b6:=I.2.2.2;obtain⟨xk,aa⟩: ∃k,C.ks[n]?=some k:=⟨_,ao (by have:=f.o.q.q.2.1;have:=h.o.q.2;omega)⟩;obtain⟨vp,vk,aC,H,s,-,-,g4,g5,g6,g7⟩:=(show fg q (aB q d') a C F from lV);obtain⟨kp,a5⟩: ∃k,aC[n]?=some k:=⟨_,ao (by have:=(aw.1 aa).1;omega)⟩;obtain⟨bk,ok,ck,rfl,-,-,kc⟩:=g4.ptr a5;have d9:=(aw.1 a5).1;obtain⟨nk,jQ⟩:=rk (aC.length);rw[jQ]at s d9;have z1:q.cell? ⟨a,1,none⟩=some (.slice (some ⟨bk,ok,none⟩) nk ck):=by simp[World.cell?,s]
   have HL:=al (S4 q F a C rZ.base (fun e=>by rw[e]at aa;simp at aa));obtain⟨L,V⟩:=rj q (so kp);have P:=AS L V (g6 n kp xk a5 aa) g7.1 (b6 xk (db aa)) (MZ a6 aa) z;have i2:(0:Int)<=(n:Int):=by omega
   have i3:(n:Int)<(nk:Int):=by omega
   clear s g4 g5 g6 g7 a5 jQ el b6 aa rZ lV I L V z d9
   gi_wp2_with (first|(refine⟨trivial,?_⟩;gi_at_call 173;refine(callsIn_wide.2 HL.o).m ?_;rintro e w2 ⟨rfl,rfl⟩)|(refine⟨trivial,?_⟩;gi_at_call 125;refine(callsIn_wide.2 (K8 q kp)).m ?_;rintro e w2 ⟨rfl,eu⟩))
   have L:=P.o.1;have V:=P.o.2.1;generalize q.alloc (so kp)=w2 at L V⊢;obtain⟨Bi,bb⟩:=rk (q.heap.size);rw[bb]at V⊢
   have hH: ∀b E,H (n+3) b E->b<q.heap.size/\ ∃E,F b E:=fun b E u=>by have R:=P.o.t.1 _ b E u;have h2:=f.o.q.q.q b (.inr ⟨E,R⟩);have h3:=h.o.1.2.1.size;exact⟨by omega,E,R⟩
   have bc:=ih d' a6 o _ _ w2 Bi kp xk (H (n+3)) (P.o.d.1.below L) V P.o.q.1 (by have:=f.o.q.q.t.1;omega) f.o.q.q.t.1 (fun b E u=>by have:=(hH b E u).1;have:=L.size;omega);have b0:=f.o.1.2 _ _ _ _ _ h.o.1.1 (qS L) (fun _ r=>r.elim);have Wp:=f.o.1.1 _ _ _ h.o.1.1;have c5:=qt L h.o.1.2.2.2.1.2;have j:=By bc L hH b0 Wp c5 bb (oT V);clear bc L V hH b0 Wp c5 bb HL z0 z1
   refine(wpIn_wide (n:=10)).2 (lO (α:=Pr) (fun t v0 v1=>(t.setIfInBounds 4 v0).setIfInBounds 5 v1) rfl (enters_of func181 (by kernel_rfl) rfl) j.o.1 ?Ai (fun _ _ _ _ _ _ _ _ r _ _=>r)
    (fun m U W=>J (fL d C n++m) U W/\ ¬U Y/\W.heap[Y]?=some (Dr l)) (fun c m U W=>c=.ret/\Jx (fL d C n++m) U W) ?hJ ?qH U ⟨by rw[fs];exact j.o.t.1,h.o.1.2.2.2.1.1,j.o.q.2.1⟩ ?wC ?cF ?hbody ?hdone ?lN)
   case Ai=>
    rintro k (rfl|⟨E,u⟩)
    ·exact j.o.q.t
    ·have:=(j.o.d.1 k E u).1;have:=j.o.2.1.size;omega
   case hJ=>have em:=j.o.2.1.size;have ei:=h.o.1.2.1.size;have en:=oT h.o.1.2.2.2.1.2;refine⟨fun m U A r=>f.o.1.1 _ _ _ r.1,?_⟩;rintro m U A B' S ⟨R,h2,h3⟩ ho z;exact⟨f.o.1.2 _ _ _ _ _ R ho (fun k g=>⟨by have:=(z k g).1;omega,(z k g).2⟩),h2,ho.heap h3 (fun hs=>by have:=(z _ hs).1;omega)⟩
   case qH=>have em:=j.o.2.1.size;have ei:=h.o.1.2.1.size;refine fun c=>⟨fun m U A r=>f.o.2.1.1 _ _ _ r.2,?_⟩;rintro m U A B' S ⟨R,h2⟩ ho z;exact⟨R,f.o.2.1.2 _ _ _ _ _ h2 ho (fun k g=>⟨by have:=(z k g).1;omega,(z k g).2⟩)⟩
   case wC=>
    rintro k (rfl|⟨E,u⟩) v
    ·have:=j.o.q.1 _ v;have:=j.o.q.d.1;omega
    ·exact h.o.2.1 k (.inr (j.o.d.1 k E u).2) v
   case cF=>
    intro l' v0 v1 M K hK
    gi_wp2
    exact hK
   case hbody=>
    rintro l' m p v0 v1 Q M ⟨am,a3,ad⟩ ⟨rfl,rfl,b3⟩
    have QR:(fL d C n++m)++[p]<+:aZ d C:=by rw[kh];refine List.IsPrefix.x ((List.prefix_append_right_inj _).2 ?_) (mZ f.o.q.q.1.1 (X-n) n (by have:=f.o.q.q.2.1;have:=h.o.q.2;omega));rw[P.o.q.2.1];exact b3
    obtain⟨fn,ef,ec,eg,hy,hR⟩:=f.o.q.1 _ p #[BA p.1,BA p.2] Q M am ⟨_,_,rfl,rfl,rfl,QR⟩;have z2:M.cell? ⟨Y,0,none⟩=some (.func (.yield l) #[] #[]):=by simp[World.cell?,ad,Dr]
    have HY:=AD a3 ad;clear a3 ad am b3 QR
    gi_wp2
    refine(yJ hR).m ?_;rintro e W3 (⟨rfl,U3,ap,y,x⟩|⟨rfl,U3,ql,y,x⟩)
    ·have i:=al (show nY (fun m U W=>J (fL d C n++m) U W/\ ¬U Y/\W.heap[Y]?=some (Dr l)) (fun c m U W=>c=.ret/\Jx (fL d C n++m) U W) (m++[p]) Q M .normal ⟨#[],[]⟩ W3 from
      ⟨U3,⟨by rw[<-kh];exact ap,fun r=>(x _ r).elim HY.o.1 (fun r=>by have:=oT HY.o.2;omega),y.heap HY.o.2 HY.o.1⟩,y,x⟩)
     clear ap y x z2
     gi_wp2
     exact i.o
    ·have i:=al (show nY (fun m U W=>J (fL d C n++m) U W/\ ¬U Y/\W.heap[Y]?=some (Dr l)) (fun c m U W=>c=.ret/\Jx (fL d C n++m) U W) (m++[p]) Q M .ret ⟨#[],[]⟩ W3 from
      ⟨U3,⟨rfl,by rw[<-kh];exact ql⟩,y,x⟩)
     clear ql y x z2
     gi_wp2
     exact i.o
   case lN=>rintro D c0 m Q M hD rz hS ⟨rfl,cf⟩ a0 a1 g;have cj:Only U q M:=(oB j.o.2.1 U).x a0 (fun _ _ r=>r);have Z:Grow q U Q:=fun k v=>(a1 k v).imp id (fun r=>by have:=j.o.2.1.size;omega);have hM:=h.o.1.2.2.2.2.more (D:=D) (by have:=h.o.1.2.1.size;have:=j.o.2.1.size;omega) (fun r=>by have:=j.o.q.1 _ r;have:=j.o.2.1.size;omega) (by have:=j.o.2.1.size;omega) cj Z rz g;have i:=AM hM cf (h.o.1.2.1.x cj (fun k g v=>(h.o.1.2.2.1 k v).elim id (fun r=>by omega))) (h.o.1.2.2.1.x Z h.o.1.2.1.size) hS;clear hM cf cj Z g a0 a1 hD rz hS;go_wp2_with fail;refine jF (v:=.tuple #[]) (fun W=>by simp[results,Tryz.results181,go_sem]) i.o.1 (fun cn T=>⟨⟨_,rfl⟩,.inr ⟨fL d C n++m,Q,?_,f.o.2.1.2 _ _ _ _ _ i.o.2.1 T (fun k r=>r),i.o.d.1.x T (fun k g r=>by omega),i.o.t.1⟩⟩);have R:=mZ f.o.q.q.1.1 (X-n) n (by have:=f.o.q.q.2.1;have:=h.o.q.2;omega);refine List.IsPrefix.x ((List.prefix_append_right_inj _).2 ?_) R;rw[P.o.q.2.1];exact i.o.q
   rintro D xs Q M hD rz hS ⟨am,a3,ad⟩ a0 a1 g;have cj:Only U q M:=(oB j.o.2.1 U).x a0 (fun _ _ r=>r);have Z:Grow q U Q:=fun k v=>(a1 k v).imp id (fun r=>by have:=j.o.2.1.size;omega);have hM:=h.o.1.2.2.2.2.more (D:=D) (by have:=h.o.1.2.1.size;have:=j.o.2.1.size;omega) (fun r=>by have:=j.o.q.1 _ r;have:=j.o.2.1.size;omega) (by have:=j.o.2.1.size;omega) cj Z rz g;have G:=al (show yK J W U0 l Y (fL d C n++ua d C n) ({target:=.collected D,args:= #[]}::ds) Q M from⟨by rw[P.o.q.2.1,<-hS];exact am,h.o.1.2.1.x cj (fun k g v=>(h.o.1.2.2.1 k v).elim id (fun r=>by omega)),h.o.1.2.2.1.x Z h.o.1.2.1.size,⟨a3,ad⟩,hM⟩);clear hM am a3 ad g a0 a1 hD rz hS cj Z j P ih a6
   gi_wp2
  all_goals
   have O:=G.o.2.1.agr (fun k g=>f.o.d.1 k g);have nM:=aB.agree O f.o.q.2.1 (fun b E u=>.inr ⟨E,u⟩);have z0:=aL (O B _ (.inl rfl) f.o.q.d.1);have z3:=aL G.o.t.1.2;obtain⟨eq,es,er,H2,s,-,g3,-,-,-⟩:=nM.base;have a2:=f.o.q.q.2.1;rcases Nat.lt_or_ge n X with ac|ac
   ·obtain⟨p,hp⟩: ∃p,C.ps[n]?=some p:=⟨_,ao (by omega)⟩;obtain⟨bp,op,cp,rfl,-,-,k0,k1,-,-⟩:=g3.pair hp;rw[a2]at s;have z1:=(af s).1.1;have i4:(n:Int)<(X:Int):=by omega
    have i5:(0:Int)<=(n:Int):=by omega
    have HP:=AD hp ac;clear O nM s g3 hp a2 ac;refine nZ 25 (by kernel_rfl) (by kernel_rfl) ?_;simp only[List.take_succ_cons,kn,List.drop_succ_cons,List.drop_zero]
    repeat still_step
    try refine wpStill_nil ?_
    have Z9:=yD f.o.q.q.1.1 HP.o.1
    have QR:(fL d C n++ua d C n)++[p]<+:aZ d C:=by rw[<-Z9];exact(List.prefix_append _ _).x (mZ f.o.q.q.1.1 (X-(n+1)) (n+1) (by have:=HP.o.2;have:=f.o.q.q.2.1;omega))
    have bm:=f.o.1.2 _ _ _ _ _ G.o.1 (Only.drew (oE (fun _=>False) _)) (fun _ r=>r.elim);obtain⟨fn,ef,ec,eg,hy,hR⟩:=f.o.q.1 _ p #[r7 p.1,r7 p.2] _ _ bm ⟨_,_,rfl,rfl,rfl,QR⟩;have KE:wrap64 ((n:Int)+1)=(n:Int)+1:=by unfold wrap64;omega
    have HN:=al Z9;clear bm Z9 QR z0 z1 z3 k0 k1
    gi_wp2
    refine hR.m ?_;rintro e W3 (⟨rfl,U3,ap,y,x⟩|⟨rfl,U3,ql,y,x⟩)
    ·have i:=al (show yK J W U0 l Y (if n+1<=X then fL d C (n+1)else aZ d C) _ U3 W3 from G.o.next (by have:=HP.o.2;rw[ff (by omega),HN.o];exact ap) y x);clear ap y x
     gi_wp2
     exact⟨⟨n+1,_,_,_,_,_,_,_,_,_,_,_,_,_,_,_,_,_,_,_,_,_,_,_,_,_,_,_,_,_,_,_,_,_,_,_,_,_,_,_,_,_,_,_,_,_,_,_,_,_,_,_,_,_,_,_,by omega,i.o,by go_num,rfl⟩,by simp[intOf];omega⟩
    ·have i:=AI ql (G.o.2.1.x y.dV (fun k g v=>(G.o.d.1 k v).elim id (fun r=>by omega))) (G.o.d.1.x x G.o.2.1.size) (G.o.q.go y.dV x);clear ql y x
     gi_wp2
     refine jF (v:=.tuple #[]) (fun W=>by simp[results,Tryz.results181,go_sem]) i.o.t (fun cn T=>⟨⟨_,rfl⟩,.inr ⟨_,U3,?_,f.o.2.1.2 _ _ _ _ _ i.o.1 T (fun k r=>r),i.o.2.1.x T (fun k g r=>by omega),i.o.d.1⟩⟩);rw[<-HN.o];exact(List.prefix_append _ _).x (mZ f.o.q.q.1.1 (X-(n+1)) (n+1) (by have:=HP.o.2;have:=f.o.q.q.2.1;omega))
   ·have di:n=X:=by have:=h.o.q.2;omega
    have i4: ¬(n:Int)<(X:Int):=by omega
    obtain⟨A2,c2,rfl,-⟩:=g3.slice;rw[fa,a2]at s;have z1:=(af s).1.1;have KE:wrap64 ((n:Int)+1)=(n:Int)+1:=by unfold wrap64;omega
    have a8:=yE f.o.q.q.1.1;rw[a2,<-di]at a8;have hx:=G.o;rw[a8]at hx;have d6: ¬n+1<=X:=by omega
    have i:=AD (fun E=>hx.drewN f.o.1 E) d6;clear hx d6;clear O nM s g3 a8 a2 z3 di ac;refine(wpIn_wide (n:=10)).2 ?_;go_quiet(fail)
    gi_wp2
    exact⟨⟨n+1,by omega,⟨_,by rw[fb i.o.2];exact i.o.1 _⟩,by omega⟩,by simp[intOf];omega⟩
 ·have ac:n=X+1:=by omega
  subst ac;rw[fb (by omega)]at N;have i:=al N;clear N cd
  gi_wp2
  refine jF (v:=.tuple #[]) (fun W=>by simp[results,Tryz.results181,go_sem]) i.o.q (fun cn T=>⟨⟨_,rfl⟩,.inl ⟨_,U,rfl,f.o.1.2 _ _ _ _ _ i.o.1 T (fun k r=>r),i.o.2.1.x T (fun k g r=>by omega),i.o.d.1⟩⟩)
theorem F5: ∀d,QQ d
 |0=>Lb 0 (fun a h=>by omega)
 |d+1=>Lb (d+1) (fun a h=>by injection h with h;subst h;exact F5 d)
section
open Go.RowKit Go.Shelf
attribute [local go_sem] Oper.semAt_some
theorem Tryz.QS:(prog.info? 220).map (fun i=>(i.zero,i.size,i.bytes))=some (some (.agg #[.string ⟨#[]⟩,.string ⟨#[]⟩]),2,32):=by kernel_rfl
def QT(w:World)(N B:Nat)(L a:List Pr)(U:Nat->Prop)(W:World):Prop:=
 ∃v,W.heap[B]?=some (.cells #[v] 170 (0,0))/\W.ownsRow N 220 2 v a.length (a.map ay).flatten/\(∀k,U k↔k=B\/v.ownBlock=some k)/\Below w.heap.size w W/\B<N/\N<=W.heap.size/\w.heap.size<=B/\a.length<=L.length
theorem QT.jl{w:World}{N B:Nat}{L:List Pr}:ed N (QT w N B L):=by
 refine⟨?_,?_⟩
 ·rintro i U A ⟨v,c,e,a,-⟩ o f;rcases(a o).1 f with rfl|h
  ·exact oT c
  ·exact(e.lt o h).2
 ·rintro i U A q S ⟨v,c,e,a,g,m,k,n,l⟩ b d;exact⟨v,b.heap c (fun h=>(d _ h).2 ((a B).2 (.inl rfl))),aJ e b (fun p j h=>(d p h).2 ((a p).2 (.inr j))),a,g.x (b.aH g.size (fun o f h=>by have:=(d o h).1;omega)),m,dd k b.size,n,l⟩
def adl(l:List Pr)(w:World)(e:Ending)(w':World):Prop:=
 ∃B A c,e=.returned (.func (.func 126) #[] #[rv B])/\w.heap.size<=B/\w'.heap[B]?=some (.cells #[.slice A l.length c] 170 (0,0))/\bI 2 w' (fun k=>w.heap.size<=k/\k<w'.heap.size) (.slice A l.length c) (l.map ay)/\Below w.heap.size w w'
theorem UH(w:World)(T o:Nat)(l:List Pr)(F:Nat->Nat->Prop)(A:bM w T o l F)(n: ∀t g,F t g->t<w.heap.size)(m:l.length<=65536):Calls prog 74 #[rv T] w (adl l w):=by
 obtain⟨b,c⟩:=rj w (.cells #[.slice none 0 0] 170);obtain⟨Y,P,R,Q,a,f,p,j,d,s,i,q,e⟩:=A.below b;refine fX func74 rfl ?_;simp only[ntmps74,lz,gn,lp,Nat.reduceAdd,Nat.reduceSub,Array.replicate_succ,Array.replicate_zero,List.push_toArray,List.append_toArray,fj,lE];go_upto_region 2 with fail;generalize w.alloc (.cells #[.slice none 0 0] 170)=k at b c a f⊢;obtain⟨B,h⟩:=rk (w.heap.size);rw[h]at c⊢;have N:k.cell? ⟨T,2,none⟩=some (rv P):=by simp[World.cell?,a]
 have I:=BT b c f p j s i n m h;clear b c a f p j d s i q e n m h A;go_wp2_with fail;refine(K8 k P).m ?_;rintro e q ⟨rfl,z⟩;obtain⟨b,c,f,p,j,s,i,n,m,h⟩:=I.o;obtain⟨d,a⟩:=rj k (so P);rw[<-z]at d a;obtain⟨X,D⟩:=rk (k.heap.size);rw[D]at a⊢;have r: ∀t g,Q t g->t<w.heap.size:=fun t g k=>n t g (i t g k);have K:=b.size;have M:=d.size;have L:=oT c;have E:=oT a;have u:=F5 Y o _ _ q X P R Q (f.below d) a p (by omega) (by omega) (fun t g k=>by have:=r t g k;omega);rw[j]at u;have C:=b.x (d.m b.size)
 have G:QT w q.heap.size B l [] (fun k=>k=B\/(Value.slice none 0 0).ownBlock=some k) q:=
  ⟨.slice none 0 0,qt d c,dy _ _ _ _,fun k=>Iff.rfl,C,by omega,b8 _,by omega,dq _⟩
 have J: ∀k,(k=X\/ ∃g,Q k g)-> ¬(k=B\/(Value.slice none 0 0).ownBlock=some k):=by
  rintro k (rfl|⟨g,t⟩) (e|e)
  ·omega
  ·cases e
  ·have:=r k g t;omega
  ·cases e
 have H: ∀k,(k=X\/ ∃g,Q k g)->k<q.heap.size:=by
  rintro k (rfl|⟨g,t⟩)
  ·exact E
  ·have:=r k g t;omega
 obtain⟨O,y,v,x,t⟩:=eh Tryz.QS;have g:=BE u G J H m y v x t;clear u G J H m y v x t b c f p j s i n h d a D r K M L E C I z N;go_wp2_with fail
 refine lO (α:=Pr) (fun t y x=>(t.setIfInBounds 4 y).setIfInBounds 5 x) rfl (enters_of func181 (by kernel_rfl) rfl) g.o.1 g.o.t.1 (fun _ _ _ _ _ _ _ _ A _ _=>A)
  (QT w q.heap.size B l) (fun _ _ _ _=>False) QT.jl (fun _=>ed.none _) _ g.o.2.1 g.o.d.1 ?cF ?hbody ?hdone (fun _ _ _ _ _ _ _ _ A=>A.elim)
 case cF=>
  intro M y x d c b;simp only[List.setIfInBounds_toArray,List.set_cons_zero,List.set_cons_succ]at b⊢
  gi_wp2
  exact b
 case hbody=>
  rintro M J G y x U W ⟨V,f,a,b,d,c,j,h,z⟩ ⟨rfl,rfl,r⟩;obtain⟨N,v,rfl⟩:=ai a;obtain⟨C,n⟩:=rk (J.length);rw[n]at f a b;have p:=r.length_le;rw[gr,n,List.length_singleton]at p;have S:=aL f;have m:=ae W (sh G.1.toArray G.2.toArray);have i:=AI (eb (an W (sh G.1.toArray G.2.toArray))) (aJ a (qS m) (fun _ _ A=>A)) m p;have s:=By f a b d c j h n;unfold BA;simp only[List.setIfInBounds_toArray,List.set_cons_zero,List.set_cons_succ];clear f a b d c j h z r p m n
  gi_wp2_with (gi_at_builtin;go_loud (refine wpListIn_append_own_at _ rfl _ _ 170 rfl q.heap.size 220 O (.agg #[.string ⟨#[]⟩,.string ⟨#[]⟩]) 2 32 underlying170 g.o.q.2.1 g.o.q.d.1 g.o.q.t.1 g.o.q.q rfl (by decide) (.slice N C v) C _ rfl i.o.2.1 ⟨W.heap.size,0,none⟩ 1 1 [r7 G.1,r7 G.2] rfl rfl i.o.1 (by simp[Value.oneCell']) (by have:=i.o.t;have:=g.o.q.1;unfold maxLen;omega) (by have:=i.o.t;have:=g.o.q.1;omega) (dd s.o.q.2.1 i.o.d.1.size) ?_);intro I t u r _ D;obtain⟨p,m,rfl⟩:=ai u;have c:=(Only.of_grownBy r).heap (qt i.o.d.1 s.o.1) (fun e=>by have:=(s.o.2.1.lt B e).1;have:=s.o.q.1;omega);have K:=aL c;have H:=bL c;have E:=AI u r D c;clear u r D c)
  obtain⟨f,a,b,d,c,j,h,n⟩:=s.o;obtain⟨D,H,r,L⟩:=E.o;have I:Only U W t:=(oB i.o.d.1 U).x (Only.of_grownBy H) (fun k _ e=>(b k).2 (.inr e));have E:=Only.aR t B 0 (.slice p (C+1) m);have u:Only U W (t.setCell ⟨B,0,none⟩ (.slice p (C+1) m)):=I.x E (fun k _ e=>(b k).2 (.inl e));refine⟨fun k=>k=B\/(Value.slice p (C+1) m).ownBlock=some k,⟨.slice p (C+1) m,?_,?_,fun k=>Iff.rfl,?_,c,dd j u.size,h,?_⟩,u,?_⟩
  ·have:=dp t B 0 _ _ (.slice p (C+1) m) L;simpa using this
  ·rw[gr,n,gR,la];simp only[kt,kb,List.flatten_cons,List.flatten_nil,fs,gn,lp];exact aJ D E (fun t m e=>by have:=(D.lt t m).1;omega)
  ·exact d.x (u.aH d.size (fun k p K=>by
    rcases(b k).1 K with e|e
    ·omega
    ·have:=(a.lt k e).1;omega))
  ·rw[gr,n,List.length_singleton];exact i.o.t
  ·rintro k (e|e)
   ·exact .inl ((b k).2 (.inl e))
   ·rcases r with r|r
    ·exact .inl ((b k).2 (.inr (r▸e)))
    ·rw[r]at e;have:=i.o.d.1.size;injection e with e;exact .inr (dd this (Nat.le_of_eq e))
 case hdone=>rintro D u U W r i rfl ⟨V,f,a,b,d,c,j,h,z⟩ n m p;obtain⟨N,v,rfl⟩:=ai a;have s:=BT f a b d c j h p r i;clear f a b d c j h z p r i n m;go_wp2_with fail;obtain⟨f,a,b,d,c,j,h,p,r,i⟩:=s.o;have n:=Only.putObj W D (.deferred none);refine jk (v:=.func (.func 126) #[] #[rv B]) p (by simp[results,Tryz.results74,go_sem]) ⟨B,N,v,rfl,h,n.heap f (fun e=>i (e▸(b B).2 (.inl rfl))),?_,d.x (n.aH d.size (fun k p e=>by omega))⟩;exact bI.bO (aJ a n (fun t m e=>i (e▸(b t).2 (.inr m)))) (fun R k=>by obtain⟨y,-,rfl⟩:=ep.1 k;rfl) (by decide) (fun t m=>⟨by have:=(a.lt t m).1;omega,da (a.lt t m).2 n.size⟩)
end
section
open Go.RowKit Go.Shelf
attribute [local go_sem] Oper.semAt_some
theorem bI.agree{k:Nat}{w w':World}{F:Nat->Prop}{v:Value}{xs:List (List Value)}(m:bI k w F v xs)(a:Agr F w w'):bI k w' F v xs:=by obtain⟨A,n,q,f,g,h,d,i⟩:=m;exact⟨A,n,q,f,g,h,d,fun c=>let⟨b,o,e,hb,hu⟩:=i c;⟨b,o,e,hb,fun l x j p u c=>qQ a hb (hu l x j p u c)⟩⟩
theorem bI.pair{w:World}{F:Nat->Prop}{A:Option Addr}{n c k:Nat}{l:List Pr}{p:Pr}(s:bI 2 w F (.slice A n c) (l.map ay))(b:l[k]?=some p):
  ∃e o,A=some ⟨e,o,none⟩/\w.cell? ⟨e,o+k*2,none⟩=some (r7 p.1)/\w.cell? ⟨e,o+k*2+1,none⟩=some (r7 p.2):=by
 obtain⟨q,j,r,a,g,-,-,f⟩:=s;injection a with a d i;subst a d;have m:=(aw.1 b).1;obtain⟨e,o,h,-,a⟩:=f (by rw[<-g,fa];omega);have d:(l.map ay)[k]?=some (ay p):=by simp[b]
 exact⟨e,o,h,by simpa using a k _ d 0 _ rfl,by simpa[gC]using a k _ d 1 _ rfl⟩
theorem QV(w:World)(Fp:Nat->Prop)(B c:Nat)(A:Option Addr)(l:List Pr)(hl:l.length<=65536)(hF:Fp B)(hB:w.heap[B]?=some (.cells #[.slice A l.length c] 170 (0,0)))(hr:bI 2 w Fp (.slice A l.length c) (l.map ay)):
  Aj prog 126 #[.pointer (some ⟨B,0,none⟩)] (fun pre p args U W=> ∃v0 v1,args= #[v0,v1]/\K6 l pre p v0 v1 U W) Fp (fun xs=>xs=l) (fun pre=>pre<+:l) w:=by
 intro y J Jx W U0 hJ qH hag mA h0 hY;have hr':=hr.agree hag;have hB':=aL (hag B _ hF hB);obtain⟨n,hn⟩:=rk (l.length);rw[hn]at hB' hr' hl;have HH:=al (ab hJ (ab mA (ab hY (ab hr' hn))));clear hY hr hr' hag hB hJ mA;refine callsIn_of_wp func126 rfl trivial ?_ rfl;simp only[ntmps126,lz,gn,lp,Nat.reduceAdd,Nat.reduceSub,Array.replicate_succ,Array.replicate_zero,List.push_toArray,List.append_toArray,fj,lE]
 gi_wp2
 gi_loopw [7] (fun i wr=> ∃(k:Nat) (U:Nat->Prop),k<=n/\i=.int .i64 k/\J (l.take k) U wr/\Only U0 W wr/\Grow W U0 U)
  (fun i _=>n-(intOf i).toNat)
 case atStart=>exact⟨0,U0,dq _,rfl,by simpa using h0,oE _ _,Grow.refl _ _⟩
 case round=>
  obtain⟨k,U,hk,rfl,hJs,ho,hg⟩:=hrel;by_cases hlt:k<n
  ·obtain⟨p,hp⟩: ∃p,l[k]?=some p:=⟨_,ao (by have:=HH.o.q;omega)⟩;obtain⟨b,o,rfl,c0,c1⟩:=bI.pair (bI.only HH.o.t.1 ho HH.o.2.1) hp;have htk:l.take (k+1)=l.take k++[p]:=by rw[gO,hp];rfl
   have QL:=HH.o.1.1 _ _ _ hJs;have hb1:=ae wr (.cells #[.string ⟨p.1.toArray⟩,.string ⟨p.2.toArray⟩] 220);have HK:=al (ab htk (ab hp (ab QL (ab hb1 (HH.o.1.2 _ _ _ _ _ hJs (qS hb1) (fun _ h=>h.elim))))));have i1:(0:Int)<=(k:Int):=by omega
   have i2:(k:Int)<(n:Int):=by omega
   obtain⟨fn,tmps,assign,body,hy,hR⟩:=HH.o.d.1 _ p #[.string ⟨p.1.toArray⟩,.string ⟨p.2.toArray⟩] _ _ HK.o.q ⟨_,_,rfl,rfl,rfl,by rw[<-htk];exact List.take_prefix _ _⟩;clear htk hp QL hb1
   gi_wp2
   refine(nX hR).m ?_;rintro e W3 (⟨rfl,U',hJ3,eo,hg3⟩|⟨rfl,U',ql,eo,hg3⟩)
   ·have HX:=al (show ∃U',J (l.take (k+1)) U' W3/\Only U0 W W3/\Grow W U0 U' from⟨U',by rw[HK.o.1];exact hJ3,(ho.trans (T:=fun _=>False) (oB HK.o.t.1 _) (fun _ _ h=>h.elim)).x eo (fun i hi h=>(hg i h).elim id (fun h=>by omega)),hg.x hg3 (by have:=ho.size;have:=HK.o.t.1.size;omega)⟩);clear hJ3 eo hg3 c0 c1
    gi_wp2
    go_roundw
    case rel=>obtain⟨U',q1,q2,q3⟩:=HX.o;exact⟨k+1,U',by omega,by go_num,q1,q2,q3⟩
    case measure=>simp[intOf];omega
   ·have HX:=al (ab ql (ab ((ho.trans (T:=fun _=>False) (oB HK.o.t.1 _) (fun _ _ h=>h.elim)).x eo (fun i hi h=>(hg i h).elim id (fun h=>by omega))) (hg.x hg3 (by have:=ho.size;have:=HK.o.t.1.size;omega):Grow W U0 U')));clear ql eo hg3 c0 c1
    gi_wp2
    refine dj (du rfl _ _ _) rfl ?_;exact⟨⟨_,rfl⟩,.inr ⟨_,U',by rw[<-HK.o.1];exact List.take_prefix _ _,HX.o.1,HX.o.2.1,HX.o.d⟩⟩
  ·obtain rfl:k=n:=by omega
   gi_wp2
   go_end0
   exact⟨⟨_,rfl⟩,.inl ⟨_,U,rfl,by have:=hJs;rwa[<-HH.o.q,gE]at this,ho,hg⟩⟩
end
end Go.Proofs.YtehccbdajiiaaaaGreatDoor
