import Derived.Test.YtehccbdajiiaaaaGreatDoorP44
import Derived.Test.YtehccbdajiiaaaaGreatDoorP46
import Derived.Test.YtehccbdajiiaaaaGreatDoorP47
namespace Go.Proofs.YtehccbdajiiaaaaGreatDoor
open Go.Proofs.Tryz
set_option maxRecDepth 100000
set_option maxHeartbeats 16000000
open Go.RowKit
section
open Go.RowKit Go.Maps Go.WideShapes
theorem Bz{x:FE}(h:mR x=0)(f:x.fits)(_l:x.cls.length<=64):opsE x.ops=0/\x.args.length<=8/\(∀n∈x.args,-1099511627776<=n/\n<=1099511627776)/\Good x.cls/\cG x.cls x.cls:=by
 unfold mR at h;by_cases a:nT x=0
 ·rw[ff (by rw[a];simp)]at h;unfold nT uq qu at a;split at a
  ·cases a
  ·split at a
   ·rename_i b;exact absurd a b
   ·rename_i b;split at a
    ·cases a
    ·rename_i k;split at a
     ·cases a
     ·rename_i c;unfold tD at h;split at h
      ·rename_i d;exact absurd h d
      ·rename_i d;split at h
       ·cases h
       ·split at h
        ·rename_i i;refine⟨by simpa using b,by omega,fun n g=>?_,fun j e=>⟨ug (by simpa using d) j e,f.2.2.2 j e⟩,i⟩;unfold oU at c;rw[Bool.not_eq_false,List.all_eq_true]at c;simpa using c n g
        ·cases h
 ·rw[fi a]at h;exact absurd h a
theorem jK.bound{w:World}{G:Nat->Prop}{e:FE}{b a c:Value}(h:jK w G e b a c):jK w (fun k=>G k/\k<w.heap.size) e b a c:=
 ⟨bJ.bound h.1 (Yv _) (by decide),h.2.1.bound,bJ.bound h.2.2.1 (df _) (by decide),h.2.2.2⟩
theorem C8{w:World}{B:Nat}{b a c v0 v1 v2:Value}{t:TypeId}(h:w.heap[B]?=some (.cells #[b,a,c] t (0,0))):
  (((w.setCell ⟨B,0,none⟩ v0).setCell ⟨B,1,none⟩ v1).setCell ⟨B,2,none⟩ v2).heap[B]?=some (.cells #[v0,v1,v2] t (0,0))/\Only (fun k=>k=B) w (((w.setCell ⟨B,0,none⟩ v0).setCell ⟨B,1,none⟩ v1).setCell ⟨B,2,none⟩ v2):=
 ⟨El h,((Only.aR w B 0 v0).x (Only.aR _ B 1 v1) (fun _ _ h=>h)).x (Only.aR _ B 2 v2) (fun _ _ h=>h)⟩
def YB(o:Out):Value:=.agg #[rv o.1,rv o.2.1,rv o.2.2]
def adu(T o:Nat)(most:Int)(F:Nat->Nat->Prop)(p:Out×az)(w:World)(e:Ending)(w':World):Prop:=
 e=.returned (.tuple #[YB p.1,rv 0])/\bK w' T most o p.2 (fun b q=>F b q\/w.heap.size<=b)/\OnlyC F w w'/\dv p.2
theorem QY(w:World)(T o:Nat)(most:Int)(l:az)(F:Nat->Nat->Prop)(G:Nat->Prop)(pv:Value)(D:List UInt8)(rows s fuel:Int)(U:bK w T most o l F)(k: ∀V q,F V q->V<w.heap.size)(f:dv l)(i:Rd w G pv (D.map B8))(j:D.length<=1000000)(n:0<=fuel/\fuel<=10000)
  (e:fp w) (c:mz w) (m:fK w) (h:iz w):Calls prog 15 #[r7 T,pv,.agg #[rv rows,rv s,rv fuel]] w (adu T o most F (yt most fuel D l) w):=by
 have g:=al (mI w (sv rows s fuel) (sC 0 0 0));have a:=qS (af (w.alloc (sv rows s fuel)) (sC 0 0 0)) (an w (sv rows s fuel));have d:=an (w.alloc (sv rows s fuel)) (sC 0 0 0);rw[show(w.alloc (sv rows s fuel)).heap.size=w.heap.size+1 by simp]at d;have b:=B7 U k f i j n e c m h;obtain⟨Ap,np,cp,rfl,-⟩:=id i;clear U k f i j e c m h;go_enter func15,ntmps15;go_upto_region 3 with fail;generalize (w.alloc (sv rows s fuel)).alloc (sC 0 0 0)=k at g a d⊢;obtain⟨C,j⟩:=rl (w.heap.size);obtain⟨S,h⟩:=rl (w.heap.size+1);rw[h]at d⊢;rw[j]at a⊢;have t:=(av a).1.2.2;have f:=al (AH k fuel);rw[show dY fuel=0 by unfold dY;rw[ff (by omega)]]at f;have e:=AS g.o a d j h;clear a d j h g n;go_wp2_with fail;refine f.o.m ?_;rintro M v ⟨rfl,hw⟩;obtain rfl:k=v:=hw.symm;have HD:=al (uz k G _ D (b.o.q.q.2.below e.o.1) (b.o.q.q.1.below e.o.1) (b.o.t.1.below e.o.1) b.o.q.1);clear t f;go_wp2_with fail;refine HD.o.m ?_;intro M v hd;obtain⟨O,hd⟩:=hd.read;have Y:=e.o.1.x (O.m e.o.1.size);have kC:=qS O e.o.2.1;have kO:=qS O e.o.d.1;rcases hd with⟨x,vo,va,vc,I,rfl,c⟩|⟨I,kk,ed,rfl⟩
 ·obtain⟨m,g,p,h,d⟩:=yr I;obtain⟨k,-,j,n,f⟩:=Bz m g d;obtain⟨Ao,co,rfl,-,-⟩:=c.1.slice;obtain⟨Aa,na,ca,rfl,-⟩:=id c.2.1;obtain⟨Ac,cc,rfl,-,-⟩:=c.2.2.1.slice;have a:=Cd Y kC kO c I k j n f h d;unfold zj;clear Y kC kO c I k j n f h d O m g p;go_upto_region 9 with fail;obtain⟨f,h⟩:=rk v (sR x.id Ao x.ops.length co Aa na ca Ac x.cls.length cc);generalize v.alloc (sR x.id Ao x.ops.length co Aa na ca Ac x.cls.length cc)=w3 at f h⊢;obtain⟨E,a3⟩:=rl (v.heap.size);rw[a3]at h⊢;have g:=a.o.1.x (f.m a.o.1.size);have j:=a.o.1.size;have N:=al (xS w3 T o most l F (b.o.1.below g) (fun V q d=>da (b.o.2.1 V q d) g.size));have c:=By g (qS f a.o.2.1) (qS f a.o.d.1) h a3 (a.o.t.1.bound.below f);clear f h g j;go_wp2_with fail;refine N.o.m ?_;rintro M w4 ⟨B,rfl,K,f⟩;obtain⟨m,J,H⟩:=KB.new K f (fun V q d=>da (b.o.2.1 V q d) c.o.1.size) b.o.d.1 (b.o.q.d.1.below c.o.1) (b.o.q.t.1.below c.o.1);have r:=c.o.1.x (f.m c.o.1.size);have p:=qS f c.o.2.1;have A:=qS f c.o.d.1;have n:=qS f c.o.t.1;have g:=c.o.q.2.below f;have y:E<m:=da (aP c.o.t.1) J;have z:w.heap.size<m:=by have:=a.o.1.size;have:=c.o.q.1;omega
  have u:S<m:=by have:=aP c.o.d.1;omega
  obtain⟨-,X,t,-⟩:=eB n;have R:=(av p).1.2.2;have L:=al (MJ x.ops _ _ x.args fuel (.pointer none) (fun _=>true) l (bJ.m g.1 (fun k j M=>by have:=c.o.q.1;omega)) a.o.q.2.1 (b.o.q.q.1.below r) g.2.1 a.o.q.q.2.1 a.o.q.d.1 b.o.q.2.1 (.inl ⟨rfl,fun _=>rfl⟩) H);have h:=BT r p A n g y z u;clear K f J H r p A n g y z u N;go_wp2_with fail;refine L.o.m ?_;rintro M Z ⟨f,rfl,r,J,M7,Kb,H⟩;obtain⟨A,cf,rfl,-,-⟩:=r.slice;obtain⟨N,i⟩:=rl (r9 most fuel (fun _=>true) x.ops x.args l);rw[i]at r J M7 Kb⊢;have W:known N.2:=by rw[<-i];exact IV _ _ _ _ _ _
  obtain⟨Q,P⟩: ∃z,(if N.2=0 then N.1.bA 0 else N.1.value)=z:=⟨_,rfl⟩;rw[P];obtain⟨st,ac⟩:=rl (N.1.steps);obtain⟨u,K⟩:=rl (N.2);obtain⟨y,n⟩:=rl (aW N.1.cl);rw[ac,K,n];rw[n]at r J;rw[K]at W P;clear X t R L;go_upto_region 15 with fail;obtain⟨g,kr⟩:=rk Z (tb Q st A y.length cf u);generalize Z.alloc (tb Q st A y.length cf u)=w6 at g kr⊢;obtain⟨R,ap⟩:=rl (Z.heap.size);rw[ap]at kr⊢;have a5:=H.heap h.o.t.1 (fun M=>by have:=h.o.q.2.1;omega);have YC:=H.heap h.o.d.1 (fun M=>by have:=h.o.q.t;omega);have am:=qS g a5;have aa:=qS g YC;have YD:Below w.heap.size w Z:=h.o.1.x (H.aI h.o.1.size (fun k j M=>by have:=h.o.q.d.1;omega));have a4:=YD.x (g.m YD.size);have a':=bJ.below (bJ.only h.o.q.1.2.2.1 H (fun k j M=>by have:=c.o.q.1;have:=h.o.q.2.1;omega)) g;have T6:=bJ.below r g;have a2:=KB.ok.only _ _ _ _ (fun _=>False) (fun k j=>j) Kb (ri g);obtain⟨j0,j1,j2,j3⟩:=eB am;obtain⟨i0,i1,i2,i3⟩:=eB kr;have yC:x.cls=aW x.cls:=iA a.o.q.t.1.ok a.o.q.q.1;have ad:Good y:=by rw[<-n];exact fO M7
  have X:=al (PM w6 _ _ Ao Aa x.ops.length co na ca st x.id Q u Ac A x.cls.length cc y.length cf x.cls y (qx N x) a' T6 a.o.q.q.d J a.o.q.t.1 ad a.o.q.q.1 (by show qx N x=true↔iq y x.cls;rw[MF,n,<-yC]) (by unfold known at W;unfold kK;omega))
  have t:yt most fuel D l=((zh (qx N x) u,x.id,PK (zh (qx N x) u) Q),if zh (qx N x) u=1 then N.1.rows else l):=by unfold yt;rw[a.o.q.1];show Yu most fuel x l=_;unfold Yu abA;dsimp only;rw[i,K,P]
  have a7:=IW (q:=qx N x) W;obtain⟨L,a0⟩:=rl (zh (qx N x) u);rw[a0]at X t a7;obtain⟨z,a1⟩:=rl (PK L Q);rw[a1]at X t;have p:=AS a4 aa a2 t ap;clear g kr a5 YC am aa YD a4 a' T6 a2 yC ad t a0 a1 r J M7 Kb H i W P ac K n;go_wp2_with fail;refine X.o.m ?_;rintro M w7 ⟨rfl,i⟩;clear j0 j1 j2 j3 i0 i1 i2 i3 X;go_upto_region 16 with fail;obtain⟨H,K⟩:=rk w7 (sC L x.id z);generalize w7.alloc (sC L x.id z)=w8 at H K⊢;obtain⟨J,a2⟩:=rl (w7.heap.size);rw[a2]at K⊢;have Us:Below w.heap.size w w8:=(p.o.1.x (i.m p.o.1.size)).x (H.m (dp p.o.1.size i.size));have W:=qS H (qS i p.o.2.1);have a4:=KB.ok.only _ _ _ _ (fun _=>False) (fun k j=>j) (KB.ok.only _ _ _ _ (fun _=>False) (fun k j=>j) p.o.d.1 (ri i)) (ri H);obtain⟨⟨j0,j1,j2⟩,-⟩:=av K;have ac:S≠J:=fun M=>by have:=aP p.o.2.1;have:=i.size;omega
  obtain⟨wl,n,g,FR,P,QZ,a5,a6,aa,-⟩:=a4;have X:=P.tab;have r:=AN Us W K ac;have zF:w6.heap.size<=J:=by rw[<-a2];exact i.size
  clear H i;by_cases a1:L=1
  ·subst a1;have HP:=al (QJ w8 B T o m n most l wl F g FR P (fun V q d=>da (b.o.2.1 V q d) Us.size) (Bw P.up aa) (by rw[QZ];exact a6));clear Us W ac P aa X K;go_wp2_with fail;refine HP.o.m ?_;rintro M w9 ⟨rfl,am,X⟩
   have a8:m<J:=by obtain⟨_,_,_,_,h1,_⟩:=p.o.d.1;have:=h1.map.lt;have:=zF;omega
   have ad: ∀H,¬(F S H\/S=m):=fun H i=>by
    have h5:=e.o.q;have h6:=h.o.q.t;rcases i with i|i
    ·have:=b.o.2.1 S H i;omega
    ·omega
   have a': ∀H,¬(F J H\/J=m):=fun H i=>by
    have h5:=e.o.q;have h6:=h.o.q.t;rcases i with i|i
    ·have:=b.o.2.1 J H i;omega
    ·omega
   have i:=X.heap r.o.2.1 ad;have a0:=X.heap r.o.d.1 a';obtain⟨⟨z0,z1,z2⟩,zf⟩:=av i;obtain⟨⟨u0,u1,u2⟩,-⟩:=av a0;have H:=By am X i QZ (aP r.o.2.1) a5;clear am X i a0 ad a' j0 j1 j2 HP QZ;go_wp2_with fail;have i:=C8 (v0:=rv 1) (v1:=rv x.id) (v2:=rv z) H.o.d.1;generalize ((w9.setCell ⟨S,0,none⟩ (rv 1)).setCell ⟨S,1,none⟩ (rv x.id)).setCell ⟨S,2,none⟩ (rv z)=X at i⊢;rw[p.o.t.1,fi trivial];have X:OnlyC F w w9:=(o0 r.o.1 F).x H.o.2.1 (fun V q hb d=>d.elim (fun U=>U) (fun M=>by have:=h.o.q.d.1;omega));refine dj (ax rfl _ _ _ _ _ _ _ rfl i.1 underlying50 rfl (by kernel_rfl)) rfl ⟨rfl,?_,X.far i.2 (fun k j M=>by have:=e.o.q;omega),H.o.q.2⟩;rw[<-H.o.t.1];refine(H.o.1.dR i.2 (fun V q d M=>?_)).m (fun V q d=>d.imp (fun U=>U) (fun U=>dp r.o.1.size U));have h5:=e.o.q;have h6:=H.o.q.1;rcases d with d|d
   ·have:=b.o.2.1 V q d;omega
   ·omega
  ·obtain⟨⟨z0,z1,z2⟩,zf⟩:=av W;clear Us W ac P aa K;go_wp2_with fail;have i:=C8 (v0:=rv L) (v1:=rv x.id) (v2:=rv z) r.o.2.1;generalize ((w8.setCell ⟨S,0,none⟩ (rv L)).setCell ⟨S,1,none⟩ (rv x.id)).setCell ⟨S,2,none⟩ (rv z)=w9 at i⊢;have d:=r.o.1.x (i.2.aI r.o.1.size (fun k j M=>by have:=e.o.q;omega));rw[p.o.t.1,ff a1];exact dj (ax rfl _ _ _ _ _ _ _ rfl i.1 underlying50 rfl (by kernel_rfl)) rfl ⟨rfl,(b.o.1.below d).m (fun _ _ U=>.inl U),o0 d _,b.o.d.1⟩
 ·have t:yt most fuel D l=((7,0,0),l):=by unfold yt;rw[I]
  have a:=AN Y kO t ed;unfold zeroE;clear Y kC kO O I t;go_upto_region 8 with fail;have d:=af v (sq 0);generalize v.alloc (sq 0)=w3 at d⊢;have f:=qS d a.o.2.1;obtain⟨⟨z0,z1,z2⟩,zf⟩:=av f;have c:=AI (a.o.1.x (d.m a.o.1.size)) f;clear d f;go_wp2_with fail;have i:=C8 (v0:=rv 7) (v1:=rv 0) (v2:=rv 0) c.o.2;generalize ((w3.setCell ⟨S,0,none⟩ (rv 7)).setCell ⟨S,1,none⟩ (rv 0)).setCell ⟨S,2,none⟩ (rv 0)=w4 at i⊢;have d:=c.o.1.x (i.2.aI c.o.1.size (fun k j M=>by have:=e.o.q;omega));rw[a.o.d.1];exact dj (ax rfl _ _ _ _ _ _ _ rfl i.1 underlying50 rfl (by kernel_rfl)) rfl ⟨rfl,b.o.1.dR (ri d) (fun _ _ _ U=>U)|>.mono (fun _ _ U=>.inl U),o0 d _,b.o.d.1⟩
end
noncomputable def si(most fuel:Int)(a:List UInt8)(l:az):List Cl:=match qw a with
 |some x=>(r9 most fuel (fun _=>true) x.ops x.args l).1.cl
 |none=>[]
def adw(V:Nat->Prop)(cl:List Cl)(w:World)(e:Ending)(w':World):Prop:=
 ∃v,e=.returned (.agg #[v])/\cz w' (fun k=>k<w'.heap.size/\ ¬V k) v (aW cl)/\(aW cl).length<=64/\Good cl/\Below w.heap.size w w'
theorem BA{w:World}{F:Nat->Prop}{v:Value}{l:List Cl}{e:Nat}{A:Option Addr}{n c:Nat}{t:TypeId}(y:cz w F v l)(h:w.heap[e]?=some (.cells #[.slice A n c] t (0,0))):cz w (fun k=>F k/\k≠e) v l:=by
 obtain⟨p,k,i,f,b,j,s,m⟩:=y;refine⟨p,k,i,f,b,j,s,fun a=>?_⟩;obtain⟨r,u,g,q,d⟩:=m a;refine⟨r,u,g,⟨q,fun a=>?_⟩,d⟩;subst a;obtain⟨x,o⟩: ∃x,l[0]?=some x:=⟨_,ao (by simp at b;omega)⟩;have a:=d 0 x.cells (by simp[o]) 0 (.bool x.wr) rfl;rw[World.cell?,h]at a
 match u with
 |0=>simp at a
 |u+1=>simp at a
theorem YE(w:World)(T o:Nat)(most:Int)(l:az)(F:Nat->Nat->Prop)(G:Nat->Prop)(pv:Value)(h:List UInt8)(rows i fuel:Int)(s:bK w T most o l F)(j: ∀D H,F D H->D<w.heap.size)(g:dv l)(m:Rd w G pv (h.map B8))(r:h.length<=1000000)(q:0<=fuel/\fuel<=10000)
  (e:fp w) (a:mz w) (p:fK w) (n:iz w):Calls prog 30 #[pv,r7 T,.agg #[rv rows,rv i,rv fuel]] w (adw (fun k=> ∃H,F k H) (si most fuel h l) w):=by
 have f:=al (mI w (sv rows i fuel) sE);have d:=qS (af (w.alloc (sv rows i fuel)) sE) (an w (sv rows i fuel));have b:=an (w.alloc (sv rows i fuel)) sE;rw[show(w.alloc (sv rows i fuel)).heap.size=w.heap.size+1 by simp]at b;have c:=B7 s j g m r q e a p n;obtain⟨Ap,np,cp,rfl,-⟩:=id m;clear s j g m r e a p n;go_enter func30,ntmps30;go_upto_region 1 with fail;generalize (w.alloc (sv rows i fuel)).alloc sE=z at f d b⊢;obtain⟨C,j⟩:=rl (w.heap.size);obtain⟨O,e⟩:=rl (w.heap.size+1);rw[e]at b⊢;rw[j]at d⊢;have g:=AS f.o d b j e;clear d b j e f q;have HD:=al (uz z G _ h (c.o.q.q.2.below g.o.1) (c.o.q.q.1.below g.o.1) (c.o.t.1.below g.o.1) c.o.q.1);go_wp2_with fail;refine HD.o.m ?_;intro e y S;obtain⟨x,S⟩:=S.read;have M:=g.o.1.x (x.m g.o.1.size);have R:=qS x g.o.2.1;have q:=qS x g.o.d.1;rcases S with⟨I,vo,va,vc,r,rfl,a⟩|⟨r,kk,ed,rfl⟩
 ·obtain⟨s,b,t,f,p⟩:=yr r;obtain⟨n,-,j,-,-⟩:=Bz s b p;obtain⟨Y,W,rfl,-,-⟩:=a.1.slice;obtain⟨Aa,na,ca,rfl,-⟩:=id a.2.1;obtain⟨Ac,cc,rfl,-,-⟩:=a.2.2.1.slice;have v:(r9 most fuel (fun _=>true) I.ops I.args l).1.cl=si most fuel h l:=by unfold si;rw[r]
  have B:=al v;have d:=BE M R q a n j f;unfold zj;clear M R q a r n j f p x s b t v;go_upto_region 2 with fail;obtain⟨b,p⟩:=rk y (sR I.id Y I.ops.length W Aa na ca Ac I.cls.length cc);generalize y.alloc (sR I.id Y I.ops.length W Aa na ca Ac I.cls.length cc)=n at b p⊢;obtain⟨E,t⟩:=rl (y.heap.size);rw[t]at p⊢;have f:=d.o.1.x (b.m d.o.1.size);have u:=qS b d.o.2.1;have s:=d.o.t.1.bound.below b;have A:=g.o.1.size;have K:=al (uB (w:=n) (F:=fun k=>k<n.heap.size) (G:=fun k=>z.heap.size<=k/\k<n.heap.size) (V:=fun k=> ∃H,F k H) I.ops _ _ I.args fuel (bJ.m s.1 (fun k a=>⟨a.1,da a.2 b.size⟩)) (fun k a=>a.2) d.o.q.1 (c.o.q.q.1.below f) (Rd.m s.2.1 (fun k a=>da a.2 b.size)) d.o.q.d d.o.q.2.1 c.o.q.2.1 (c.o.1.below f) (fun D H j=>da (c.o.2.1 D H j) f.size) c.o.d.1 (c.o.q.d.1.below f) (c.o.q.t.1.below f) (fun k ⟨H,j⟩=>⟨da (c.o.2.1 k H j) f.size,fun a=>by have:=c.o.2.1 k H j;omega⟩));have j:=AI f (qS b d.o.d.1);obtain⟨-,L,P,-⟩:=eB p;have X:=(av u).1.2.2;clear b p f u s t A;go_wp2_with fail;refine K.o.m ?_;rintro e U ⟨f,rfl,s,J,Q,u⟩;obtain⟨A,t,rfl,-,-⟩:=s.slice;obtain⟨p,m⟩:=rl (r9 most fuel (fun _=>true) I.ops I.args l);have z:=B.o;rw[m]at s J Q z⊢;rw[z]at s J Q⊢;obtain⟨N,V⟩:=rl ((aW (si most fuel h l)).length);obtain⟨Z,D⟩:=rl (MK p);rw[V]at s⊢;rw[D];clear L P X K m D z;obtain⟨z,L⟩:=rk U (tb Z p.1.steps A N t p.2);go_upto_region 5 with fail;generalize U.alloc (tb Z p.1.steps A N t p.2)=K at z L⊢;obtain⟨D,hD⟩:=rl (U.heap.size);rw[hD]at L⊢;have gp:=j.o.1.x ((u.x (z.m u.size)).m j.o.1.size);have P:=qS (u.x (z.m u.size)) j.o.2;have X:cz K (fun k=>k<K.heap.size/\ ¬ ∃H,F k H) (.slice A N t) (aW (si most fuel h l)):=bJ.m (bJ.bound (bJ.below s z) (df _) (by decide)) (fun k a=>⟨a.2,a.1⟩);have m:=AS gp P X J Q;obtain⟨-,-,y2,-⟩:=eB L;have H:=aB P;have z1:=bj P;clear z L hD gp P X J Q s u V;go_wp2_with fail;have u:=dd K O 0 _ _ (.slice A N t) m.o.2.1;have s:=Only.aR K O 0 (.slice A N t);have z:=BA m.o.d.1 m.o.2.1;refine dj (results_cell_row rfl _ _ _ _ _ _ _ rfl u underlying37 rfl (by kernel_rfl)) rfl ⟨.slice A N t,rfl,bJ.m (bJ.only z s (fun k a=>a.2)) (fun k a=>⟨da a.1.1 s.size,a.1.2⟩),m.o.t.1,m.o.q,m.o.1.x (s.aI m.o.1.size (fun k a e=>by have:=g.o.q;omega))⟩
 ·have v:si most fuel h l=[]:=by unfold si;rw[r]
  have B:=al v;have H:=aB q;have z1:=bj q;have d:=AI M q;unfold zeroE;clear M R q r x v HD;have b:=af y (sq 0);go_upto_region 2 with fail;generalize y.alloc (sq 0)=n at b⊢;have f:=qS b d.o.2;have j:=AI (d.o.1.x (b.m d.o.1.size)) f;have H:=aB f;have z1:=bj f;clear b f;go_wp2_with fail;have u:=dd n O 0 _ _ (.slice none 0 0) j.o.2;have s:=Only.aR n O 0 (.slice none 0 0);refine dj (results_cell_row rfl _ _ _ _ _ _ _ rfl u underlying37 rfl (by kernel_rfl)) rfl ⟨.slice none 0 0,rfl,by rw[B.o,pL];exact bJ.nil _ _ _,by rw[B.o,pL];decide,by rw[B.o];exact Good.nil,j.o.1.x (s.aI j.o.1.size (fun k a e=>by have:=g.o.q;omega))⟩
def FU(most f:Int)(ps:List (List UInt8))(cl:List Cl)(i:Nat):Prop:=
 ∃b,ps[i]?=some b/\(yt most f b (eT most f (ps.take i) []).2).1.1=1/\Good (si most f b (eT most f (ps.take i) []).2)/\nA (aW (si most f b (eT most f (ps.take i) []).2)) cl
def I7(most f:Int)(ps:List (List UInt8))(cl:List Cl)(a b:Nat):Prop:= ∃i,a<=i/\i<b/\FU most f ps cl i
theorem I8{most f:Int}{ps:List (List UInt8)}{cl:List Cl}{a m b:Nat}(g:a<=m)(j:m<=b):I7 most f ps cl a b↔I7 most f ps cl a m\/I7 most f ps cl m b:=by
 constructor
 ·rintro⟨i,e,d,c⟩;rcases Nat.lt_or_ge i m with h|h
  ·exact .inl ⟨i,e,h,c⟩
  ·exact .inr ⟨i,h,d,c⟩
 ·rintro(⟨i,e,d,c⟩|⟨i,e,d,c⟩)
  ·exact⟨i,e,by omega,c⟩
  ·exact⟨i,by omega,d,c⟩
theorem qQ{x a b j:List Cl}(e:Good x)(g:Good a)(h:Good b)(m:cG (a++b) j):nA x j↔nA x a\/nA x b:=by
 rw[tq e (tj m (g.append h)),tq e g,tq e h];constructor
 ·rintro⟨t,c,f,d⟩;rw[E3 m]at f d;have k:=fx a t;have i:=fx b t;have n:=fx x t;by_cases l:1<=ej a t/\(ej x t=2\/ej a t=2)
  ·exact .inl ⟨t,c,l⟩
  ·exact .inr ⟨t,c,by omega,by omega⟩
 ·rintro(⟨t,c,f,d⟩|⟨t,c,f,d⟩)<;>
  ·have k:=fx a t;have i:=fx b t;refine⟨t,c,?_,?_⟩<;>rw[E3 m]<;>omega
theorem MN{most f:Int}{ps:List (List UInt8)}{x y j:List Cl}{a b:Nat}(k:Good x)(l:Good y)(o:cG (x++y) j):I7 most f ps j a b↔I7 most f ps x a b\/I7 most f ps y a b:=by
 constructor
 ·rintro⟨m,d,h,q,e,g,c,i⟩;rcases(qQ (fO c) k l o).1 i with n|n
  ·exact .inl ⟨m,d,h,q,e,g,c,n⟩
  ·exact .inr ⟨m,d,h,q,e,g,c,n⟩
 ·rintro(⟨m,d,h,q,e,g,c,i⟩|⟨m,d,h,q,e,g,c,i⟩)
  ·exact⟨m,d,h,q,e,g,c,(qQ (fO c) k l o).2 (.inl i)⟩
  ·exact⟨m,d,h,q,e,g,c,(qQ (fO c) k l o).2 (.inr i)⟩
theorem abI:Lib.itoa 3=[51]:=by unfold Lib.itoa;rw[ff (by decide),Lib.decDigits_eq];simp[Lib.nDigits_small];rfl
def yA:List aX:=[⟨1,0,0,3,0⟩,⟨7,1,0,0,0⟩]
theorem VI:(r9 4 9 (fun _=>true) yA [] []).1.cl=[⟨false,-1,[51],0,0⟩]/\aW [⟨false,-1,[51],0,0⟩]=[⟨false,-1,[51],0,0⟩]:=by
 have b:iB 3=⟨false,-1,[51],0,0⟩:=by unfold iB;rw[abI]
 have d:Good [iB 3]:=xR ⟨by decide,by decide⟩;have a:aW [iB 3]=[iB 3]:=tv (d _ (by simp)).1;have c:og (fun _=>0) 0 3 0=3:=rfl;rw[<-b];refine⟨?_,a⟩;simp[r9,cH,yA,uQ,rZ,fP,nU,rowP,lF,FD,aV,a,c]
theorem abJ(w:World):(Op.equalIn 10000 68 (.agg #[.bool false,rv (-1),.string ⟨#[51]⟩,rv 0,rv 0]) (.agg #[.bool false,rv (-1),.string ⟨#[51]⟩,rv 0,rv 0])).run prog w=.ok true w:=by
 have a:prog.stoodInHeld 68=false:=by kernel_rfl
 have b:prog.underlying 68=some (.struct (prog.fieldsOf 68)):=by unfold Program.fieldsOf;rw[underlying68]
 rw[run_equalIn_agg w 9999 68 _ _ b a];unfold Program.fieldsOf;rw[underlying68];simp[Op.eqFields,go_sem,underlying3,underlying4,underlying9]
theorem Q3(w:World)(a:fp w)(b:mz w)(c:fK w):Calls prog 7 #[] w fun u d=>u=.returned (.bool true)/\Below w.heap.size w d:=by
 have i:=AM a b c;clear a b c;go_enter func7,ntmps7;go_wp2_with fail;refine(xK w 4 2 (by decide) (by decide) (by decide) (by decide)).m ?_;rintro u j ⟨T,rfl,e,a⟩;obtain⟨c,b⟩:=rk j (.cells #[rv 1,rv 0,rv 0,rv 3,rv 0,rv 7,rv 1,rv 0,rv 0,rv 0] 64);have f:=AN e a c b;clear e a c b;go_wp2_with fail;have f:=f.o;generalize j.alloc (.cells #[rv 1,rv 0,rv 0,rv 3,rv 0,rv 7,rv 1,rv 0,rv 0,rv 0] 64)=h at f⊢;obtain⟨C,g⟩:=rl (j.heap.size);rw[g]at f⊢;obtain⟨e,a,c,b⟩:=f;have d:=a.x (c.m (by rw[<-g];exact a.size));have n:=aP b
 have m:nV h (fun p=>p=C) (.slice (some ⟨C,0,none⟩) 2 2) yA:=by refine⟨_,_,_,rfl,rfl,b8 _,by simp[maxLen],fun _=>⟨C,0,rfl,rfl,fun q x l s r h=>?_⟩⟩;have k:=jP (k:=5) (xs:=yA.map aX.cells) (fun y o=>by obtain⟨z,_,rfl⟩:=eh.1 o;rfl) q x l s r h;rw[World.cell?,b];have x:(#[rv 1,rv 0,rv 0,rv 3,rv 0,rv 7,rv 1,rv 0,rv 0,rv 0]:Array Value).toList=(yA.map aX.cells).flatten:=rfl;rw[<-x]at k;simpa using k
 have l:=al (I4 (F:=fun _=>False) yA _ (.slice none 0 0) [] 9 m (fun p h=>by have o:p=C:=h;omega) (by decide) (i.o.d.below d) (Rd.nil _ _) (by decide) (by simp) (by decide) (e.below (by rw[g];exact c)) (fun F q h=>by have:=h.2;omega) ⟨ee,fun q h=>by cases h⟩ (i.o.1.below d) (i.o.2.1.below d));have h:=al d;clear e a c b d m n g;refine l.o.m ?_;rintro u v ⟨J,rfl,a,p,-,d⟩;rw[VI.1,VI.2]at a;obtain⟨G,H,rfl,e,g⟩:=a.slice;obtain⟨D,m⟩:=rl (r9 4 9 (fun _=>true) yA [] []);rw[m];obtain⟨c,q⟩:=rk v (tb (MK D) D.1.steps G 1 H D.2);have b:=bJ.below a c;have t:=al (sO _ _ _ _ b (by simp));have n:=al (h.o.x ((d.x (c.m d.size)).m h.o.size));simp only[jj,nF,gR]at e g⊢;clear a p d e g c q b m l;go_wp2_with fail;refine t.o.m ?_;rintro u a ⟨A,l,rfl,e,q⟩;have B:=al (n.o.x (q.m n.o.size))
 obtain⟨g,d,z⟩: ∃g d,(Value.slice A 1 l)=.slice (some ⟨g,0,none⟩) 1 d:=by
  rcases e.2 with o|o
  ·obtain⟨o,-⟩:=o;cases o
  ·obtain⟨g,d,_,u,_⟩:=o;exact⟨g,d,u⟩
 injection z with c E m;subst c m;have b:cz a (fun _=>True) (.slice (some ⟨g,0,none⟩) 1 l) [⟨false,-1,[51],0,0⟩]:=bJ.bO e (df _) (by decide) (fun _ _=>trivial);obtain⟨F,I,c,-,s,m,o,p,r⟩:=cz.at_ b (k:=0) rfl;injection c with c;injection c with c y;subst c y;have s:a.cell? ⟨g,0,none⟩=some (.bool false):=s;have m:a.cell? ⟨g,1,none⟩=some (rv (-1)):=m;have o:a.cell? ⟨g,2,none⟩=some (.string ⟨#[51]⟩):=o;have p:a.cell? ⟨g,3,none⟩=some (rv 0):=p;have r:a.cell? ⟨g,4,none⟩=some (rv 0):=r;have c:=abJ;have y:=Tryz.JO;clear e q b t;go_wp2_with fail;go_ret
 exact⟨rfl,B.o⟩
end Go.Proofs.YtehccbdajiiaaaaGreatDoor
