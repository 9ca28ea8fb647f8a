import Derived.Test.YtehccbdajiiaaaaGreatDoorP05
import Derived.Test.YtehccbdajiiaaaaGreatDoorP15
namespace Go.Proofs.YtehccbdajiiaaaaGreatDoor
open Go.Proofs.Tryz
set_option maxRecDepth 100000
set_option maxHeartbeats 16000000
open Go.RowKit
theorem dO(w:World)(a c:Nat)(A:Option Addr)(d:w.cell? ⟨a,1,none⟩=some (.slice A 0 c)):Calls prog 173 #[r7 a] w fun e b=>e=.returned (.bool true)/\w=b:=by
 go_enter func173,ntmps173;go_wp2_with fail;go_ret
 exact⟨rfl,rfl⟩
theorem fk(w:World)(a n c:Nat)(A:Option Addr)(e:0<n)(f:w.cell? ⟨a,1,none⟩=some (.slice A n c)):Calls prog 173 #[r7 a] w fun d b=>d=.returned (.bool false)/\w=b:=by
 have d:(((n:Int))==0)=false:=by rw[beq_eq_false_iff_ne];omega
 have b: ¬n=0:=by omega
 go_enter func173,ntmps173;go_wp2_with fail;go_ret
 exact⟨rfl,rfl⟩
theorem ae{w:World}{l:Nat}{v u:Value}(h:w.heap[l]?=some (tg v u)):(w.cell? ⟨l,0,none⟩=some v/\w.cell? ⟨l,1,none⟩=some u)/\w.frozen? ⟨l,0,none⟩=false/\w.frozen? ⟨l,1,none⟩=false:=by simp[World.cell?,World.frozen?,h]
theorem jm{w:World}{l:Nat}{v u:Value}(h:w.heap[l]?=some (tg v u))(x:Value):(w.setCell ⟨l,0,none⟩ x).heap[l]?=some (tg x u):=by have:=dd w l 0 _ _ x h;simpa using this
theorem JP{w:World}{l:Nat}{v u:Value}(h:w.heap[l]?=some (tg v u))(x:Value):(w.setCell ⟨l,1,none⟩ x).heap[l]?=some (tg v x):=by have:=dd w l 1 _ _ x h;simpa using this
theorem sS{P:Program}(t e:TypeId)(k:Nat)(r:P.underlying t=some (.slice e))(g: ∀w,(sizeOf e).run P w=.ok k w)(b o i c l h a:Nat)(q:l<=h)(j:h<=a)(m:a<=c)(s:l<a)(w:World):
  (Instr.slice t (.slice (some ⟨b,o,none⟩) i c) (some (rv (l:Int))) (some (rv (h:Int))) (some (rv (a:Int)))).run P w=.ok (.slice (some ⟨b,o+l*k,none⟩) (h-l) (a-l)) w:=by
 have f: ¬a=l:=by omega
 have d: ¬l=a:=by omega
 have p:h<=c:=by omega
 have n:l<=c:=by omega
 simp[Instr.slice,run_underlying r,Instr.sliceBounds,run_sliceBound,q,j,m,g,f,ie]
theorem sU{P:Program}(t e:TypeId)(k:Nat)(i:P.underlying t=some (.slice e))(d: ∀w,(sizeOf e).run P w=.ok k w)(b o a c h:Nat)(g:h<=c)(w:World):
  (Instr.slice t (.slice (some ⟨b,o,none⟩) a c) none (some (rv (h:Int))) (some (rv (h:Int)))).run P w=.ok (.slice (some ⟨b,o,none⟩) h h) w:=by
 have f:(⟨b,o,none⟩:Addr).add 0=⟨b,o,none⟩:=by rw[ie,mT]
 simp[Instr.slice,run_underlying i,Instr.sliceBounds,run_sliceBound,g,d,f]
theorem fo{w:World}{l:Nat}{v u:Value}{t:TypeId}(h:w.heap[l]?=some (.cells #[v,u] t (0,0))):w.cell? ⟨l,0,none⟩=some v/\w.cell? ⟨l,1,none⟩=some u:=by simp[World.cell?,h]
theorem l7{W a:World}{d b:Addr}{v1 v2:Value}(h:W.cell? d=some v1/\W.cell? b=some v2)(c:Below W.heap.size W a):a.cell? d=some v1/\a.cell? b=some v2:=
 ⟨(c.cell (aq _ _ h.1)).x h.1,(c.cell (aq _ _ h.2)).x h.2⟩
theorem dB{W b:World}{F:Nat->Nat->Prop}{e c d a:Nat}{v1 v2:Value}(i:W.cell? ⟨e,c,none⟩=some v1/\W.cell? ⟨d,a,none⟩=some v2)(f:OnlyC F W b)(h: ¬F e c)(g: ¬F d a):b.cell? ⟨e,c,none⟩=some v1/\b.cell? ⟨d,a,none⟩=some v2:=
 ⟨f.cell i.1 h,f.cell i.2 g⟩
theorem rH{d i o m:Nat}{x k:ND}{a:Pr}(f:x.ks[i]?=some k)(b:d=0->k.ks=[])(c:k.ps[m]?=some a)(e:o=m+1):mZ d x i o=.mk (x.ps.take i++a::x.ps.drop i) (x.ks.take i++(jN d k o).1::(jN d k o).2.2::x.ks.drop (i+1)):=by
 have g:(jN d k o).2.1=a:=by rw[Jn b];simp only;rw[e,oE,c];rfl
 unfold mZ;rw[f];simp only[Option.getD_some,g]
theorem dH(l:List Pr): ∀u∈(l.map aA).flatten,u.oneCell'=true:=by intro u a;obtain⟨x,b,a⟩:=List.mem_flatten.1 a;obtain⟨c,_,rfl⟩:=eh.1 b;simp[aA]at a;rcases a with rfl|rfl<;>rfl
theorem b7(l:List Nat): ∀u∈(l.map aN).flatten,u.oneCell'=true:=by intro u a;obtain⟨x,b,a⟩:=List.mem_flatten.1 a;obtain⟨c,_,rfl⟩:=eh.1 b;simp[aN]at a;rcases a with rfl;rfl
theorem eI{α β:Type}(f:α->β)(l:List α)(i:Nat)(x:α):(l.map f).take i++f x::(l.map f).drop i=(l.take i++x::l.drop i).map f:=by simp
def qG(d a i o:Nat)(x:ND)(F:Nat->Nat->Prop)(w:World)(e:Ending)(w':World):Prop:=
 e=.returned (.tuple #[])/\aG w' (d+1) a (mZ d x i o) (fun b q=>F b q\/w.heap.size<=b)/\OnlyC F w w'
theorem GV(w:World)(d a i o m l n u s t Q cp V X ck G:Nat)(A:Option Addr)(x k:ND)(F:Nat->Nat->Prop)(UA W:Value)(D P:List Nat)(H c:Nat->Nat->Nat->Prop)(R:Option Addr)(S:Nat)
  (e:aZ w (aG w d) a x F (.slice A Q cp) (.slice (some ⟨V,X,none⟩) G ck) D H) (j: ∀g q,F g q->g<w.heap.size) (L:x.ks[i]?=some k) (y:D[i]?=some l) (JC:i<=x.ps.length)
  (b:aZ w (bX w d) l k (H (i+3)) UA W P c) (T: ∀i g q,c i g q->i<k.ks.length+3) (z:d=0->k.ks=[])
  (I:k.ps.length=2*o) (O:2<=o) (cN:o<=16) (K:o=m+1) (jB:x.ps.length=Q) (lh:D.length=G) (Es:G<=1000) (Wl:Q<=1000)
  (p:UA=.slice (some ⟨s,t,none⟩) n u) (Y:n=2*o) (ac:n<=u) (aa:u<=maxLen) (h:W=.slice R 0 S)
  (r2:w.cell? ⟨V,X+i,none⟩=some (r7 l)) (f:Pr) (B:k.ps[m]?=some f) (r4:w.cell? ⟨s,t+m*2,none⟩=some (sd f.1)) (r5:w.cell? ⟨s,t+m*2+1,none⟩=some (sd f.2))
  (A1 B1 A2 B2:Nat->Nat->Prop) (N:aH 2 220 w (.slice (some ⟨s,t,none⟩) m m) ((k.ps.take (o-1)).map aA) (fun g q=>c 1 g q/\A1 g q)) (p2:aH 2 220 w (.slice (some ⟨s,t+o*2,none⟩) (n-o) (n-o)) ((k.ps.drop o).map aA) (fun g q=>c 1 g q/\B1 g q))
  (Z:aH 1 169 w (.slice R 0 S) ((P.take o).map aN) (fun g q=>c 2 g q/\A2 g q)) (q2:aH 1 169 w (.slice none 0 0) ((P.drop o).map aN) (fun g q=>c 2 g q/\B2 g q))
  (U: ∀g q,A1 g q-> ¬B1 g q) (J: ∀g q,A2 g q-> ¬B2 g q):
  Calls prog 178 #[r7 a,rv i,rv o] w (qG d a i o x F w):=by
 subst p h;have E:a<w.heap.size:=j a 0 (e.own.1 0 a 0 (e.2.1 0));have C:l<w.heap.size:=j l 0 (e.own.1 _ l 0 (b.own.1 0 l 0 (b.2.1 0)));have NF: ¬l=a:=e.own.2.2 (i+3) l 0 (by omega) (b.own.1 0 l 0 (b.2.1 0));have Oz:i<G:=by have:=(bd.1 y).1;omega
 have r:=Dg e j L y b T z N p2 Z q2 U J;have v:=BE I K B jB lh JC E;have M:=AM e.1 b.1 C;obtain⟨⟨-,r1⟩,-,-⟩:=ae e.1;obtain⟨⟨p,h⟩,-,-⟩:=ae b.1;have m1:(o:Int)-1=(m:Int):=by omega
 have i1:(0:Int)<=(i:Int):=by omega
 have i2:(i:Int)<(G:Int):=by omega
 have i3:(0:Int)<=(m:Int):=by omega
 have i4:(m:Int)<(n:Int):=by omega
 have i5:(o:Int)<=(n:Int):=by omega
 have i6:(n:Int)<=(u:Int):=by omega
 have i7:(0:Int)<=(o:Int):=by omega
 have i8:(m:Int)<=(u:Int):=by omega
 have j1:u<=maxLen:=aa;have ad:=sS (P:=prog) 170 220 2 underlying170 (fun _=>by kernel_rfl) s t n u o n n (by omega) (b8 _) ac (by omega);have am:=sU (P:=prog) 170 220 2 underlying170 (fun _=>by kernel_rfl) s t n u m (by omega);have HE:=AM Y O Wl;clear e j L y b T z I B N p2 Z q2 U J JC jB lh E C Y K O;go_enter func178,ntmps178;go_upto_region 2 with fail;obtain⟨e,j⟩:=rk w (so f.1.toArray f.2.toArray);generalize w.alloc (so f.1.toArray f.2.toArray)=z at e j⊢;obtain⟨U,y⟩:=rl (w.heap.size);rw[y]at j⊢;have B:=qS e M.o.2.1;clear p h r1 r2 r4 r5;obtain⟨⟨p,h⟩,-,-⟩:=ae B;have c:=AN e j y B;clear e j y B;go_upto_region 4 with fail;obtain⟨j,y⟩:=rk z (uv (.slice (some ⟨s,t+o*2,none⟩) (n-o) (n-o)));generalize z.alloc (uv (.slice (some ⟨s,t+o*2,none⟩) (n-o) (n-o)))=E at j y⊢;obtain⟨T,C⟩:=rl (z.heap.size);rw[C]at y⊢;have I:w.heap.size<T/\U=w.heap.size/\U<T:=by have:=pb c.o.2.1;have:=c.o.d.1;omega
 have z:=qS j c.o.t;have J:=qS j c.o.2.1;have B:=c.o.1.x (j.m c.o.1.size);clear p h;obtain⟨⟨p,h⟩,K,-⟩:=ae z;have e:=AS B y I z J;clear j y C I z J B c;go_upto_region 5 with fail;have L: ¬U=l:=by have:=e.o.d.1;have:=M.o.d;omega
 have UQ: ¬T=l:=by have:=e.o.d.1;have:=M.o.d;omega
 have z:=jm e.o.t.1 (.slice (some ⟨s,t,none⟩) m m);have c:=OnlyC.aR E l 0 (.slice (some ⟨s,t,none⟩) m m);have I:=c.heap e.o.2.1 (fun q B=>UQ B.1);have J:=c.heap e.o.q (fun q B=>L B.1);have C:OnlyC (fun g _=>g=l) w (E.setCell ⟨l,0,none⟩ (.slice (some ⟨s,t,none⟩) m m)):=(o0 e.o.1 (fun g _=>g=l)).x c (fun g q _ B=>B.1);generalize E.setCell ⟨l,0,none⟩ (.slice (some ⟨s,t,none⟩) m m)=y at z I J C⊢;clear p h K c;obtain⟨⟨p,h⟩,c,K⟩:=ae z;clear c;have j:=AS C z I J e.o.d.1;clear z I J C e L;have c:=al (dO y l S R h);go_wp2_with fail;refine c.o.m ?_;rintro B w4 ⟨rfl,rfl⟩;clear c p h K;go_upto_region 8 with fail;have z:=j.o.q;have p: ∀c q g,H c g q->g<w.heap.size:=fun c q g e=>r.o.2.1 g q (r.o.1.own.1 c g q e);have I: ∀c q,¬H c U q:=fun c q e=>by have:=p c q U e;omega
 have h: ∀c g q,c≠i+3->H c g q-> ¬g=l:=fun c g q C e B=>r.o.1.own.2.1 c (i+3) g q C e (B▸r.o.q.1.own.1 0 l q (r.o.q.1.2.1 q));have L:=j.o.1.heap M.o.1 (fun q B=>NF B.symm);have J:=(r.o.1.2.2.1).only j.o.1 (fun g q e=>h 1 g q (by omega) e);have c:=(r.o.1.2.2.2.1).only j.o.1 (fun g q e=>h 2 g q (by omega) e);have C:=AM L J c;have E:=AM I p z;have K:=fo j.o.t.1;clear z p I h L J c;refine pw (S:=(fun c=>c.cell? ⟨U,0,none⟩=some (sd f.1)/\c.cell? ⟨U,1,none⟩=some (sd f.2))) (by kernel_rfl) K (fun c=>?_);generalize h:World.drew y=z at c⊢;have p:=al (show Below y.heap.size y z from h▸(aw _ _).drew);clear h K;refine bq [0,1,2,3,5,6] ?_
 iterate 6 (refine ek (v:=?_) (fun _ ⟨s0,s1⟩=>?_) c ?_;rotate_left;(go_simp;try rfl);try simp only[xT])
 refine bt ?_;refine qn (rs:=[4,7]) (by kernel_rfl) (by simp) (dw (i:=4) rfl (fun O b=>?_) (dw (i:=7) rfl (fun O b=>?_) pt))
 focus
  obtain⟨⟨L,-⟩,-,-⟩:=ae (qS p.o C.o.1);go_simp;refine b.o _ _ (c) ?_;clear b O c L;intro c
  try simp only[xT]
  refine bC 7 (fun O b=>?_);go_simp;refine b.o _ _ (l7 c (af _ _)) ?_;clear b O c;intro c
  try simp only[xT]
  obtain⟨y,h⟩:=rk z (so f.1.toArray f.2.toArray);generalize z.alloc (so f.1.toArray f.2.toArray)=N at h y c⊢;obtain⟨J,I⟩:=rl (z.heap.size);rw[I]at h⊢;have K:=AI h (show w.heap.size<J by have Z:=p.o.size;have h2:=pb j.o.d.1;have h3:=j.o.q;omega);have p:=al (p.o.x (y.m p.o.size));clear h y I
 rotate_left
 focus
  go_simp;refine b.o _ _ (l7 c (af _ _)) ?_;clear b O c;intro c
  try simp only[xT]
  obtain⟨y,h⟩:=rk z (so f.1.toArray f.2.toArray);generalize z.alloc (so f.1.toArray f.2.toArray)=N at h y c⊢;obtain⟨J,I⟩:=rl (z.heap.size);rw[I]at h⊢;have K:=AI h (show w.heap.size<J by have Z:=p.o.size;have h2:=pb j.o.d.1;have h3:=j.o.q;omega);have p:=al (p.o.x (y.m p.o.size));clear h y I;refine bC 4 (fun O b=>?_);obtain⟨⟨L,-⟩,-,-⟩:=ae (qS p.o C.o.1);go_simp;refine b.o _ _ (c) ?_;clear b O c L;intro c
  try simp only[xT]
 all_goals
  refine bC 8 (fun O b=>?_);go_simp;refine(jn N (H 1) _ (x.ps.map aA) i _ rfl (aA f) J (C.o.2.1.only (rj p.o) (fun _ _ _ h=>h)) (by rw[eS];exact v.o.q.2.1) (by rw[eS,v.o.t.1];exact HE.o.d) (by rfl) (by simp[aA,Value.oneCell']) (dH _) K.o.1 (fun q e=>by have:=E.o.2.1 1 q J e;have:=K.o.2;omega)).m ?_;rintro B I ⟨v6,rfl,N,Y⟩;rw[eI]at N;obtain⟨J,z,fM,-⟩:=N.slice;obtain⟨K,y⟩:=rl (((x.ps.take i++f::x.ps.drop i).map aA).length);rw[y]at fM;subst fM;clear y;have y:=AI N Y;clear N Y
  try go_simp
  refine b.o _ _ (dB c y.o.2 (E.o.1 1 0) (E.o.1 1 1)) ?_;clear b O c;intro c
  try simp only[xT]
  refine bq [9,10] ?_
  iterate 2 (refine ek (v:=?_) (fun _ ⟨s0,s1⟩=>?_) c ?_;rotate_left;(go_simp;try rfl);try simp only[xT])
  refine bt ?_;refine bC 11 (fun O b=>?_);obtain⟨⟨L,-⟩,N,-⟩:=ae (y.o.2.heap (qS p.o C.o.1) (fun q e=>r.o.1.own.2.1 1 0 a q (by decide) e (r.o.1.2.1 q)));go_simp;refine b.o _ _ (dB c (OnlyC.aR _ a 0 _) (fun B=>by have:=B.1;have:=E.o.d;have:=v.o.q.d;omega) (fun B=>by have:=B.1;have:=E.o.d;have:=v.o.q.d;omega)) ?_;clear b O c L N;intro c
  try simp only[xT]
  refine qe (by kernel_rfl) ?_ _;have b:=jm (y.o.2.heap (qS p.o C.o.1) (fun q e=>r.o.1.own.2.1 1 0 a q (by decide) e (r.o.1.2.1 q))) (.slice J K z);have L:=((C.o.d.only (rj p.o) (fun _ _ _ h=>h)).only y.o.2 (fun g q e N=>r.o.1.own.2.1 2 1 g q (by decide) e N)).only (OnlyC.aR I a 0 (.slice J K z)) (fun g q e B=>r.o.1.own.2.2 2 g q (by decide) e B.1);have g:(I.setCell ⟨a,0,none⟩ (.slice J K z)).heap.size=I.heap.size:=by simp[World.setCell]
  have Y:=al (show ∃N,N=I.setCell ⟨a,0,none⟩ (.slice J K z)from⟨_,rfl⟩);generalize O:I.setCell ⟨a,0,none⟩ (.slice J K z)=N at b L g c⊢;clear Y c;obtain⟨⟨-,y7⟩,-,-⟩:=ae b;have c:=AN b L g O;clear b L g O;go_wp2_with fail;obtain⟨L,g⟩:=rk N (sz T);generalize N.alloc (sz T)=w8 at g L⊢;obtain⟨Y,O⟩:=rl (N.heap.size);rw[O]at g⊢;have b:=AM g O L;clear g O L y7;refine(jo w8 (H 2) _ (D.map aN) (i+1) _ (by simp) (aN T) Y (c.o.2.1.only (rj b.o.d) (fun _ _ _ h=>h)) (by rw[eS,v.o.q.1];exact Oz) (by rw[eS,v.o.q.1];exact Es) (by rfl) (by simp[aN,Value.oneCell']) (b7 _) b.o.1 (fun q e=>by have:=E.o.2.1 2 q Y e;have Z:=b.o.2.1;have h2:=c.o.d.1;have h3:=y.o.2.size;have g:=p.o.size;have h:=pb j.o.d.1;have L:=j.o.q;omega)).m ?_;rintro B w9 ⟨v9,rfl,g,h⟩;rw[eI]at g;obtain⟨A9,c9,N,-⟩:=g.slice;obtain⟨n9,L⟩:=rl (((D.take (i+1)++T::D.drop (i+1)).map aN).length);rw[L]at N;subst N;clear L;obtain⟨⟨-,y9⟩,-,f9⟩:=ae (h.heap (qS b.o.d c.o.1) (fun q e=>r.o.1.own.2.1 2 0 a q (by decide) e (r.o.1.2.1 q)));have e:=AI g h;clear g h;go_wp2_with fail
  first|refine et (du rfl _ _ _) rfl ?_|refine dj (du rfl _ _ _) rfl ?_
  obtain⟨Z,a2,h,a4,a5,N,g,a8,a9,RS,O,L,Wo⟩:=r.o;unfold qG;rw[rH h g v.o.d.1 v.o.2.1];have q:=px (r:=T) Z a2 h a4 a5 N g j.o.1 (Nat.le_of_lt j.o.q.1) (pb j.o.d.1) j.o.2.1 j.o.d.1 a8 a9 RS O L Wo p.o y.o.2 y.o.1 (by rw[c.o.t];exact b.o.d.m (Nat.le_of_eq c.o.d.1.symm)) e.o.2 e.o.1;exact⟨rfl,q⟩
theorem OA(w:World)(d a i o m l r B v y W cp Z ok ck L:Nat)(A:Option Addr)(x k:ND)(F:Nat->Nat->Prop)(UA RQ:Value)(J V:List Nat)(H e:Nat->Nat->Nat->Prop)(n p b G:Nat)(oL:b=2*o+1)(ad:b<=G)(_am:G<=maxLen)
  (s:aZ w (aG w d) a x F (.slice A W cp) (.slice (some ⟨Z,ok,none⟩) L ck) J H) (u: ∀j q,F j q->j<w.heap.size) (Q:x.ks[i]?=some k) (z:J[i]?=some l) (JC:i<=x.ps.length)
  (c:aZ w (bX w d) l k (H (i+3)) UA RQ V e) (T: ∀i j q,e i j q->i<k.ks.length+3) (D:d=0->k.ks=[])
  (M:k.ps.length=2*o) (S:2<=o) (cN:o<=16) (O:o=m+1) (jB:x.ps.length=W) (lh:J.length=L) (Es:L<=1000) (Wl:W<=1000)
  (h:UA=.slice (some ⟨v,y,none⟩) r B) (X:r=2*o) (ac:r<=B) (aa:B<=maxLen) (f:RQ=.slice (some ⟨n,p,none⟩) b G)
  (r2:w.cell? ⟨Z,ok+i,none⟩=some (r7 l)) (g:Pr) (E:k.ps[m]?=some g) (r4:w.cell? ⟨v,y+m*2,none⟩=some (sd g.1)) (r5:w.cell? ⟨v,y+m*2+1,none⟩=some (sd g.2))
  (A1 B1 A2 B2:Nat->Nat->Prop) (R:aH 2 220 w (.slice (some ⟨v,y,none⟩) m m) ((k.ps.take (o-1)).map aA) (fun j q=>e 1 j q/\A1 j q)) (p2:aH 2 220 w (.slice (some ⟨v,y+o*2,none⟩) (r-o) (r-o)) ((k.ps.drop o).map aA) (fun j q=>e 1 j q/\B1 j q))
  (Y:aH 1 169 w (.slice (some ⟨n,p,none⟩) o o) ((V.take o).map aN) (fun j q=>e 2 j q/\A2 j q)) (q2:aH 1 169 w (.slice (some ⟨n,p+o,none⟩) (b-o) (b-o)) ((V.drop o).map aN) (fun j q=>e 2 j q/\B2 j q))
  (U: ∀j q,A1 j q-> ¬B1 j q) (N: ∀j q,A2 j q-> ¬B2 j q):
  Calls prog 178 #[r7 a,rv i,rv o] w (qG d a i o x F w):=by
 subst h f;have K:a<w.heap.size:=u a 0 (s.own.1 0 a 0 (s.2.1 0));have I:l<w.heap.size:=u l 0 (s.own.1 _ l 0 (c.own.1 0 l 0 (c.2.1 0)));have NF: ¬l=a:=s.own.2.2 (i+3) l 0 (by omega) (c.own.1 0 l 0 (c.2.1 0));have Oz:i<L:=by have:=(bd.1 z).1;omega
 have t:=Dg s u Q z c T D R p2 Y q2 U N;have C:=BE M O E jB lh JC K;have P:=AM s.1 c.1 I;obtain⟨⟨-,r1⟩,-,-⟩:=ae s.1;obtain⟨⟨h,f⟩,-,-⟩:=ae c.1;have m1:(o:Int)-1=(m:Int):=by omega
 have i1:(0:Int)<=(i:Int):=by omega
 have i2:(i:Int)<(L:Int):=by omega
 have i3:(0:Int)<=(m:Int):=by omega
 have i4:(m:Int)<(r:Int):=by omega
 have i5:(o:Int)<=(r:Int):=by omega
 have i6:(r:Int)<=(B:Int):=by omega
 have i7:(0:Int)<=(o:Int):=by omega
 have i8:(m:Int)<=(B:Int):=by omega
 have j1:B<=maxLen:=aa;have a0:=sS (P:=prog) 170 220 2 underlying170 (fun _=>by kernel_rfl) v y r B o r r (by omega) (b8 _) ac (by omega);have ba:=sU (P:=prog) 170 220 2 underlying170 (fun _=>by kernel_rfl) v y r B m (by omega)
 have a': ∀w,(Instr.slice 171 (.slice (some ⟨n,p,none⟩) b G) (some (rv (o:Int))) (some (rv (b:Int))) (some (rv (b:Int)))).run prog w=.ok (.slice (some ⟨n,p+o,none⟩) (b-o) (b-o)) w:=fun w=>by have:=sS (P:=prog) 171 169 1 underlying171 (fun _=>by kernel_rfl) n p b G o b b (by omega) (b8 _) ad (by omega) w;simpa using this
 have ap:=sU (P:=prog) 171 169 1 underlying171 (fun _=>by kernel_rfl) n p b G o (by omega);have m2:(r:Int)+1=(b:Int):=by omega
 have m3:wrap64 (b:Int)=(b:Int):=by first|go_num|(unfold wrap64;omega)
 have bb:0<b:=by omega
 have HE:=AM X S Wl;clear s u Q z c T D M E R p2 Y q2 U N JC jB lh K I X O S oL;go_enter func178,ntmps178;go_upto_region 2 with fail;obtain⟨s,u⟩:=rk w (so g.1.toArray g.2.toArray);generalize w.alloc (so g.1.toArray g.2.toArray)=D at s u⊢;obtain⟨Y,z⟩:=rl (w.heap.size);rw[z]at u⊢;have E:=qS s P.o.2.1;clear h f r1 r2 r4 r5;obtain⟨⟨h,f⟩,-,-⟩:=ae E;have e:=AN s u z E;clear s u z E;go_upto_region 4 with fail;obtain⟨u,z⟩:=rk D (uv (.slice (some ⟨v,y+o*2,none⟩) (r-o) (r-o)));generalize D.alloc (uv (.slice (some ⟨v,y+o*2,none⟩) (r-o) (r-o)))=K at u z⊢;obtain⟨S,M⟩:=rl (D.heap.size);rw[M]at z⊢;have N:w.heap.size<S/\Y=w.heap.size/\Y<S:=by have:=pb e.o.2.1;have:=e.o.d.1;omega
 have E:=qS u e.o.t;have O:=qS u e.o.2.1;have I:=e.o.1.x (u.m e.o.1.size);clear h f;obtain⟨⟨h,f⟩,D,-⟩:=ae E;have s:=AS I z N E O;clear u z M N E O I e;go_upto_region 5 with fail;have O: ¬Y=l:=by have:=s.o.d.1;have:=P.o.d;omega
 have X: ¬S=l:=by have:=s.o.d.1;have:=P.o.d;omega
 have E:=jm s.o.t.1 (.slice (some ⟨v,y,none⟩) m m);have e:=OnlyC.aR K l 0 (.slice (some ⟨v,y,none⟩) m m);have M:=e.heap s.o.2.1 (fun q z=>X z.1);have N:=e.heap s.o.q (fun q z=>O z.1);have I:OnlyC (fun j _=>j=l) w (K.setCell ⟨l,0,none⟩ (.slice (some ⟨v,y,none⟩) m m)):=(o0 s.o.1 (fun j _=>j=l)).x e (fun j q _ z=>z.1);generalize K.setCell ⟨l,0,none⟩ (.slice (some ⟨v,y,none⟩) m m)=u at E M N I⊢;clear h f D e;obtain⟨⟨h,f⟩,e,D⟩:=ae E;clear e;have e:=AS I E M N s.o.d.1;clear E M N I s O;have s:=al (fk u l b G _ (by omega) f);obtain⟨⟨-,N⟩,-,Q⟩:=ae e.o.d.1;go_wp2_with fail;refine s.o.m ?_;rintro z O ⟨rfl,rfl⟩;clear s;go_upto_region 7 with fail;have E:=(OnlyC.aR u S 1 (.slice (some ⟨n,p+o,none⟩) (b-o) (b-o))).heap e.o.2.1 (fun q z=>X z.1.symm);have M:=JP e.o.d.1 (.slice (some ⟨n,p+o,none⟩) (b-o) (b-o));have I:=(OnlyC.aR u S 1 (.slice (some ⟨n,p+o,none⟩) (b-o) (b-o))).heap e.o.t.1 (fun q z=>by have:=z.1;have:=e.o.q;omega);have K:=e.o.1.setCell (b:=S) (o:=1) (fun s=>by have:=e.o.q;omega) (.slice (some ⟨n,p+o,none⟩) (b-o) (b-o));generalize u.setCell ⟨S,1,none⟩ (.slice (some ⟨n,p+o,none⟩) (b-o) (b-o))=O at E M I K⊢;clear h f D N Q;obtain⟨⟨h,f⟩,-,D⟩:=ae E;have s:=AS K E M I e.o.q;clear E M I K e;go_upto_region 8 with fail;have E:=JP s.o.2.1 (.slice (some ⟨n,p,none⟩) o o);have I:=(OnlyC.aR O l 1 (.slice (some ⟨n,p,none⟩) o o)).heap s.o.d.1 (fun q z=>X z.1);have e:=(OnlyC.aR O l 1 (.slice (some ⟨n,p,none⟩) o o)).heap s.o.t.1 (fun q z=>by have:=z.1;have:=s.o.q;have:=P.o.d;omega);have K:OnlyC (fun j _=>j=l) w (O.setCell ⟨l,1,none⟩ (.slice (some ⟨n,p,none⟩) o o)):=s.o.1.setCell (b:=l) (o:=1) (fun _=>rfl) (.slice (some ⟨n,p,none⟩) o o);generalize O.setCell ⟨l,1,none⟩ (.slice (some ⟨n,p,none⟩) o o)=M at E I e K⊢;have u:=AS K E I e s.o.q;clear E I e K s h f D;have D:=u.o.q;have s: ∀e q j,H e j q->j<w.heap.size:=fun e q j f=>t.o.2.1 j q (t.o.1.own.1 e j q f);have E: ∀e q,¬H e Y q:=fun e q f=>by have:=s e q Y f;omega
 have h: ∀e j q,e≠i+3->H e j q-> ¬j=l:=fun e j q I f z=>t.o.1.own.2.1 e (i+3) j q I f (z▸t.o.q.1.own.1 0 l q (t.o.q.1.2.1 q));have R:=u.o.1.heap P.o.1 (fun q z=>NF z.symm);have N:=(t.o.1.2.2.1).only u.o.1 (fun j q f=>h 1 j q (by omega) f);have e:=(t.o.1.2.2.2.1).only u.o.1 (fun j q f=>h 2 j q (by omega) f);have I:=AM R N e;have K:=AM E s D;have Q:=fo u.o.t.1;clear D s E h R N e;refine pw (S:=(fun e=>e.cell? ⟨Y,0,none⟩=some (sd g.1)/\e.cell? ⟨Y,1,none⟩=some (sd g.2))) (by kernel_rfl) Q (fun e=>?_);generalize h:World.drew M=E at e⊢;have s:=al (show Below M.heap.size M E from h▸(aw _ _).drew);clear h Q;refine bq [0,1,2,3,5,6] ?_
 iterate 6 (refine ek (v:=?_) (fun _ ⟨s0,s1⟩=>?_) e ?_;rotate_left;(go_simp;try rfl);try simp only[xT])
 refine bt ?_;refine qn (rs:=[4,7]) (by kernel_rfl) (by simp) (dw (i:=4) rfl (fun U c=>?_) (dw (i:=7) rfl (fun U c=>?_) pt))
 focus
  obtain⟨⟨R,-⟩,-,-⟩:=ae (qS s.o I.o.1);go_simp;refine c.o _ _ (e) ?_;clear c U e R;intro e
  try simp only[xT]
  refine bC 7 (fun U c=>?_);go_simp;refine c.o _ _ (l7 e (af _ _)) ?_;clear c U e;intro e
  try simp only[xT]
  obtain⟨D,h⟩:=rk E (so g.1.toArray g.2.toArray);generalize E.alloc (so g.1.toArray g.2.toArray)=T at h D e⊢;obtain⟨N,M⟩:=rl (E.heap.size);rw[M]at h⊢;have Q:=AI h (show w.heap.size<N by have h1:=s.o.size;have h2:=pb u.o.d.1;have h3:=u.o.q;omega);have s:=al (s.o.x (D.m s.o.size));clear h D M
 rotate_left
 focus
  go_simp;refine c.o _ _ (l7 e (af _ _)) ?_;clear c U e;intro e
  try simp only[xT]
  obtain⟨D,h⟩:=rk E (so g.1.toArray g.2.toArray);generalize E.alloc (so g.1.toArray g.2.toArray)=T at h D e⊢;obtain⟨N,M⟩:=rl (E.heap.size);rw[M]at h⊢;have Q:=AI h (show w.heap.size<N by have h1:=s.o.size;have h2:=pb u.o.d.1;have h3:=u.o.q;omega);have s:=al (s.o.x (D.m s.o.size));clear h D M;refine bC 4 (fun U c=>?_);obtain⟨⟨R,-⟩,-,-⟩:=ae (qS s.o I.o.1);go_simp;refine c.o _ _ (e) ?_;clear c U e R;intro e
  try simp only[xT]
 all_goals
  refine bC 8 (fun U c=>?_);go_simp;refine(jn T (H 1) _ (x.ps.map aA) i _ rfl (aA g) N (I.o.2.1.only (rj s.o) (fun _ _ _ h=>h)) (by rw[eS];exact C.o.q.2.1) (by rw[eS,C.o.t.1];exact HE.o.d) (by rfl) (by simp[aA,Value.oneCell']) (dH _) Q.o.1 (fun q f=>by have:=K.o.2.1 1 q N f;have:=Q.o.2;omega)).m ?_;rintro z M ⟨v6,rfl,T,eV⟩;rw[eI]at T;obtain⟨N,E,fM,-⟩:=T.slice;obtain⟨Q,D⟩:=rl (((x.ps.take i++g::x.ps.drop i).map aA).length);rw[D]at fM;subst fM;clear D;have D:=AI T eV;clear T eV
  try go_simp
  refine c.o _ _ (dB e D.o.2 (K.o.1 1 0) (K.o.1 1 1)) ?_;clear c U e;intro e
  try simp only[xT]
  refine bq [9,10] ?_
  iterate 2 (refine ek (v:=?_) (fun _ ⟨s0,s1⟩=>?_) e ?_;rotate_left;(go_simp;try rfl);try simp only[xT])
  refine bt ?_;refine bC 11 (fun U c=>?_);obtain⟨⟨R,-⟩,T,-⟩:=ae (D.o.2.heap (qS s.o I.o.1) (fun q f=>t.o.1.own.2.1 1 0 a q (by decide) f (t.o.1.2.1 q)));go_simp;refine c.o _ _ (dB e (OnlyC.aR _ a 0 _) (fun z=>by have:=z.1;have:=K.o.d;have:=C.o.q.d;omega) (fun z=>by have:=z.1;have:=K.o.d;have:=C.o.q.d;omega)) ?_;clear c U e R T;intro e
  try simp only[xT]
  refine qe (by kernel_rfl) ?_ _;have c:=jm (D.o.2.heap (qS s.o I.o.1) (fun q f=>t.o.1.own.2.1 1 0 a q (by decide) f (t.o.1.2.1 q))) (.slice N Q E);have R:=((I.o.d.only (rj s.o) (fun _ _ _ h=>h)).only D.o.2 (fun j q f T=>t.o.1.own.2.1 2 1 j q (by decide) f T)).only (OnlyC.aR M a 0 (.slice N Q E)) (fun j q f z=>t.o.1.own.2.2 2 j q (by decide) f z.1);have j:(M.setCell ⟨a,0,none⟩ (.slice N Q E)).heap.size=M.heap.size:=by simp[World.setCell]
  have W7:=al (show ∃T,T=M.setCell ⟨a,0,none⟩ (.slice N Q E)from⟨_,rfl⟩);generalize U:M.setCell ⟨a,0,none⟩ (.slice N Q E)=T at c R j e⊢;clear W7 e;obtain⟨⟨-,y7⟩,-,-⟩:=ae c;have e:=AN c R j U;clear c R j U;go_wp2_with fail;obtain⟨R,j⟩:=rk T (sz S);generalize T.alloc (sz S)=w8 at j R⊢;obtain⟨VN,U⟩:=rl (T.heap.size);rw[U]at j⊢;have c:=AM j U R;clear j U R y7;refine(jo w8 (H 2) _ (J.map aN) (i+1) _ (by simp) (aN S) VN (e.o.2.1.only (rj c.o.d) (fun _ _ _ h=>h)) (by rw[eS,C.o.q.1];exact Oz) (by rw[eS,C.o.q.1];exact Es) (by rfl) (by simp[aN,Value.oneCell']) (b7 _) c.o.1 (fun q f=>by have:=K.o.2.1 2 q VN f;have h1:=c.o.2.1;have h2:=e.o.d.1;have h3:=D.o.2.size;have h:=s.o.size;have j:=pb u.o.d.1;have R:=u.o.q;omega)).m ?_;rintro z w9 ⟨v9,rfl,h,j⟩;rw[eI]at h;obtain⟨A9,c9,T,-⟩:=h.slice;obtain⟨n9,R⟩:=rl (((J.take (i+1)++S::J.drop (i+1)).map aN).length);rw[R]at T;subst T;clear R;obtain⟨⟨-,y9⟩,-,f9⟩:=ae (j.heap (qS c.o.d e.o.1) (fun q f=>t.o.1.own.2.1 2 0 a q (by decide) f (t.o.1.2.1 q)));have f:=AI h j;clear h j;go_wp2_with fail
  first|refine et (du rfl _ _ _) rfl ?_|refine dj (du rfl _ _ _) rfl ?_
  obtain⟨a1,a2,j,a4,a5,T,h,a8,a9,RS,U,R,Wo⟩:=t.o;unfold qG;rw[rH j h C.o.d.1 C.o.2.1];have q:=px (r:=S) a1 a2 j a4 a5 T h u.o.1 (Nat.le_of_lt u.o.q.1) (pb u.o.d.1) u.o.2.1 u.o.d.1 a8 a9 RS U R Wo s.o D.o.2 D.o.1 (by rw[e.o.t];exact c.o.d.m (Nat.le_of_eq e.o.d.1.symm)) f.o.2 f.o.1;exact⟨rfl,q⟩
theorem xq(w:World)(d a i o:Nat)(x k:ND)(F:Nat->Nat->Prop)(h:aG w (d+1) a x F)(hF: ∀j u,F j u->j<w.heap.size)(p:x.ks[i]?=some k)(P:i<=x.ps.length)(K:x.ps.length<=1000)(a1:x.ks.length<=1000)
  (m:k.ps.length=2*o) (ap:d≠0->k.ks.length=2*o+1) (ho:2<=o) (Z:o<=16):
  Calls prog 178 #[r7 a,rv i,rv o] w (qG d a i o x F w):=by
 obtain⟨_,vp,vk,c,H,q,_⟩:=h.open_;have am:=q;obtain⟨_,_,g3,g4,g5,g6,_⟩:=am;have a0:=(bd.1 p).1;obtain⟨l,r⟩: ∃l,c[i]?=some l:=⟨_,ao (by omega)⟩;obtain⟨z,UA,RQ,e,I,G,hT⟩:=(show aG w d l k (H (i+3))from g6 i l k r p).open_;have ad:=G;obtain⟨_,_,k3,J,k5,_,_⟩:=ad;obtain⟨A,V,rfl,_⟩:=g3.slice;obtain⟨Q,U,X,rfl,_,_,W⟩:=g4.ptr r;obtain⟨v,rfl⟩: ∃v,o=v+1:=⟨o-1,by omega⟩;obtain⟨p0,D⟩: ∃b,k.ps[v]?=some b:=⟨_,ao (by omega)⟩;obtain⟨b1,Y,c1,s,E,M,p1,S⟩:=k3.parts (by simp;omega);obtain⟨a2,a4,a3,a',_,_,R,r5,_⟩:=k3.pair D;have T:=s.symm.x a';simp only[eS,im,fj,nx,true_and,and_true]at T;obtain⟨⟨rfl,rfl⟩,rfl⟩:=T;have ac:(k.ps.map aA).length=k.ps.length:=eS _;rw[ac]at s E p1 S;have B:=p1 v (by omega);have y:=S (v+1) (by omega);rw[<-mc]at B;rw[<-lr]at y;have jB:(x.ps.map aA).length=x.ps.length:=eS _;rw[jB]at q
 cases d with
 |zero=>
  have L:=z rfl;have b:e=[]:=de (by rw[k5,L];rfl);subst b;obtain⟨C,t,n,_⟩:=J.slice;have b:RQ=.slice C 0 t:=by simpa using n
  subst b
  exact GV w 0 a i (v+1) v l k.ps.length c1 b1 Y x.ps.length V Q U X c.length A x k F _ _ c [] H I C t q hF p r P G hT z m ho Z rfl rfl rfl (by omega) K s m E M rfl W p0 D R r5
   _ _ (fun _ _=>True) (fun _ _=>False) (B.m fun j u b=>b) (y.m fun j u b=>b) (by rw[List.take_nil,kh];exact aH.mono (F:=I 2) (by simpa using J) (fun j u b=>⟨b,trivial⟩)) (by rw[List.drop_nil,kh];exact aH.nil 1 169 w _) (fun j u g f=>by have:=g.2;have:=f.2;omega) (fun _ _ _ h=>h)
 |succ d=>
  have Wp:=ap (by omega);obtain⟨b2,o2,t,n,N,aa,q1,O⟩:=J.parts (by simp;omega);have UR:(e.map aN).length=e.length:=eS _;rw[UR]at n N q1 O;have L:=q1 (v+1) (by omega);have C:=O (v+1) (by omega);rw[<-mc]at L;rw[<-lr]at C;rw[Nat.mul_one]at C
  exact OA w (d+1) a i (v+1) v l k.ps.length c1 b1 Y x.ps.length V Q U X c.length A x k F _ _ c e H I b2 o2 e.length t (by omega) N aa q hF p r P G hT z m ho Z rfl rfl rfl (by omega) K s m E M n W p0 D R r5
   _ _ _ _ (B.m fun j u b=>b) (y.m fun j u b=>b) (L.m fun j u b=>b) (C.m fun j u b=>b) (fun j u g f=>by have:=g.2;have:=f.2;omega) (fun j u g f=>by have:=g.2;have:=f.2;omega)
def Rf(p:Pr):Value:=.agg #[sd p.1,sd p.2]
def GX(d a:Nat)(y:ND)(F:Nat->Nat->Prop)(r:Option (List UInt8))(w:World)(e:Ending)(w':World):Prop:=
 e=.returned (.tuple #[.string ⟨(r.getD []).toArray⟩,.bool r.isSome])/\aG w' d a y (fun b q=>F b q\/w.heap.size<=b)/\OnlyC F w w'
theorem JQ(w:World)(d a o:Nat)(x:ND)(F:Nat->Nat->Prop)(p:Pr)(old:List UInt8)(s:aG w d a x F)(k: ∀n r,F n r->n<w.heap.size)(m:Up x.ps)(A:x.ps.length<=1000)(f:hit p.1 x.ps=true)(i:x.ps[posOf p.1 x.ps]?=some (p.1,old)):
  Calls prog 177 #[r7 a,Rf p,rv o] w (GX d a (.mk (x.ps.take (posOf p.1 x.ps)++p::x.ps.drop (posOf p.1 x.ps+1)) x.ks) F (some old) w):=by
 unfold Rf;obtain⟨c,b⟩:=rk w (so p.1.toArray p.2.toArray);have e:=s.below c;go_enter func177,ntmps177;go_upto_region 1 with fail;generalize w.alloc (so p.1.toArray p.2.toArray)=g at c b e⊢;obtain⟨P,l⟩:=rl (w.heap.size);rw[l]at b⊢;have h:=al (find_ok g F a x p.1 e.base m A);rw[f]at h;obtain⟨G,g⟩:=rl (posOf p.1 x.ps);rw[g]at h i⊢;have B:=al g;have j:=AN c b e l;obtain⟨v,u⟩:=fo b;clear s c b e l f g m;go_wp2_with fail;refine h.o.m ?_;rintro e y ⟨rfl,g⟩;have z:=j.o.d.1.below g;have q:=qS g j.o.2.1;clear h v u;obtain⟨l,M,vk,S,H,b,E⟩:=z.open_;obtain⟨n,t,c,rfl,q1,L,N,c1,Z,f1⟩:=b.2.2.1.pair i;obtain⟨⟨O,-⟩,-,-⟩:=ae b.1;obtain⟨v,u⟩:=fo q;have h:=b.2.2.1.VY (v':=p.2) i;have D:=AS g l b h k;have I:=(bd.1 i).1;have i1:(0:Int)<=(G:Int):=by omega
 have i2:(G:Int)<(x.ps.length:Int):=by omega
 have K: ¬P=n:=by obtain⟨Y,W,T,U,m,z2,Q,z4,V,R,C,X⟩:=b.2.2.1.lies (by simp;omega);simp only[eS,im,fj,nx,and_true]at m;obtain⟨⟨rfl,rfl⟩,_⟩:=m;have:=k _ _ (b.own.1 1 _ _ (C t (b8 _) (by omega)));have:=j.o.t;omega
 have J:=al i;clear z q g l b E h i k;go_wp2_with fail
 go_region
 go_wp2_with fail
 go_ret2
 obtain⟨g,l,b,h,k⟩:=D.o;rw[B.o];have q:=j.o.1.x (g.m j.o.1.size);have z: ∀n r,F n r->n<y.heap.size:=fun n r f=>da (k n r f) q.size;have i:=b.py (w':=y.setCell ⟨n,t+G*2+1,none⟩ (sd p.2)) l z (h.2.heap b.1 (fun r f=>b.own.2.1 1 0 a r (by decide) f (b.2.1 r))) (h.2.m (fun _ _ _ f=>.inl f)) (h.1.m (fun _ _ f=>.inl f));have m:(p.1,p.2)=p:=rfl;rw[m]at i;refine⟨rfl,(aG.only ((OnlyC.refl (fun _ _=>False) _).drew) i.1 (fun _ _ _ s=>s)).m (fun n r f=>f.imp id (fun s=>dp q.size s)),((o0 q F).x i.2 (fun _ _ _ s=>s)).drew⟩
theorem OB(w:World)(a o:Nat)(x:ND)(F:Nat->Nat->Prop)(p:Pr)(C:aG w 0 a x F)(l: ∀u q,F u q->u<w.heap.size)(j:Up x.ps)(D:x.ps.length<=1000)(b:hit p.1 x.ps=false):
  Calls prog 177 #[r7 a,Rf p,rv o] w (GX 0 a (.mk (x.ps.take (posOf p.1 x.ps)++p::x.ps.drop (posOf p.1 x.ps)) []) F none w):=by
 unfold Rf;obtain⟨e,c⟩:=rk w (so p.1.toArray p.2.toArray);have h:=C.below e;go_enter func177,ntmps177;go_upto_region 1 with fail;generalize w.alloc (so p.1.toArray p.2.toArray)=d at e c h⊢;obtain⟨R,i⟩:=rl (w.heap.size);rw[i]at c⊢;have f:=al (find_ok d F a x p.1 h.base j D);rw[b]at f;have d:=eJ p.1 x.ps;obtain⟨S,g⟩:=rl (posOf p.1 x.ps);rw[g]at f d;have N:=al g;have k:=AS e c h i l;obtain⟨s,n⟩:=fo c;clear C e c h i b g j l;go_wp2_with fail;refine f.o.m ?_;rintro B m ⟨rfl,e⟩;have A:=k.o.d.1.below e;have l:=qS e k.o.2.1;have r:=k.o.1.x (e.m k.o.1.size);have v: ∀u q,F u q->u<m.heap.size:=fun u q b=>da (k.o.q u q b) r.size;have G: ∀q,¬F R q:=fun q b=>by have:=k.o.q R q b;have:=k.o.t.1;omega
 clear f s n;obtain⟨i,U,Q,O,T,g,y⟩:=A.open_;have n:=i rfl;have c:O=[]:=de (by rw[g.2.2.2.2.1,n];rfl);subst c;obtain⟨Z,Y,t,-⟩:=g.2.2.1.slice;rw[eS]at t;subst t;obtain⟨I,L,c,-⟩:=g.2.2.2.1.slice;have c:Q=.slice I 0 L:=by simpa using c
 subst c;obtain⟨X,f⟩:=rl (x.ps.length);rw[f]at g D d;obtain⟨⟨-,j⟩,-,-⟩:=ae g.1;have s:=al (dO m a L I j);have c:=BY g.1 g r v G l n f d;clear A l e r v G i y n j f d;go_wp2_with fail;refine s.o.m ?_;rintro B V ⟨rfl,rfl⟩;clear s;go_upto_region 7 with fail;have i:=fo c.o.q.2.1;refine pw (S:=(fun W=>W.cell? ⟨R,0,none⟩=some (sd p.1)/\W.cell? ⟨R,1,none⟩=some (sd p.2))) (by kernel_rfl) i (fun d=>?_);generalize e:World.drew m=j at d⊢;have f:=al (show Below m.heap.size m j from e▸(aw _ _).drew);clear e i;refine bq [0,1,2,3,5,6] ?_
 iterate 6 (refine ek (v:=?_) (fun _ ⟨M,P⟩=>?_) d ?_;rotate_left;(go_simp;try rfl);try simp only[xT])
 refine bt ?_;refine qn (rs:=[4,7]) (by kernel_rfl) (by simp) (dw (i:=4) rfl (fun K e=>?_) (dw (i:=7) rfl (fun K e=>?_) pt))
 focus
  obtain⟨⟨z,-⟩,-,-⟩:=ae (qS f.o c.o.1);go_simp;refine e.o _ _ (d) ?_;clear e K d z;intro d
  try simp only[xT]
  refine bC 7 (fun K e=>?_);go_simp;refine e.o _ _ (l7 d (af _ _)) ?_;clear e K d;intro d
  try simp only[xT]
  obtain⟨l,i⟩:=rk j (so p.1.toArray p.2.toArray);generalize j.alloc (so p.1.toArray p.2.toArray)=H at i l d⊢;obtain⟨s,y⟩:=rl (j.heap.size);rw[y]at i⊢;have E:=AI i (show m.heap.size<=s by have h:=f.o.size;omega);have f:=al (f.o.x (l.m f.o.size));clear i l y
 rotate_left
 focus
  go_simp;refine e.o _ _ (l7 d (af _ _)) ?_;clear e K d;intro d
  try simp only[xT]
  obtain⟨l,i⟩:=rk j (so p.1.toArray p.2.toArray);generalize j.alloc (so p.1.toArray p.2.toArray)=H at i l d⊢;obtain⟨s,y⟩:=rl (j.heap.size);rw[y]at i⊢;have E:=AI i (show m.heap.size<=s by have h:=f.o.size;omega);have f:=al (f.o.x (l.m f.o.size));clear i l y;refine bC 4 (fun K e=>?_);obtain⟨⟨z,-⟩,-,-⟩:=ae (qS f.o c.o.1);go_simp;refine e.o _ _ (d) ?_;clear e K d z;intro d
  try simp only[xT]
 all_goals
  refine bC 8 (fun K e=>?_);go_simp;refine(jn H (T 1) _ (x.ps.map aA) S _ rfl (aA p) s (c.o.2.1.2.2.1.only (rj f.o) (fun _ _ _ C=>C)) (by rw[eS,c.o.q.t.1];exact c.o.q.q) (by rw[eS,c.o.q.t.1];exact D) (by rfl) (by simp[aA,Value.oneCell']) (dH _) E.o.1 (fun q b=>by have h:=c.o.t.1 s q (c.o.2.1.own.1 1 s q b);have A:=E.o.2;omega)).m ?_;rintro B E ⟨W,rfl,j,H⟩;rw[eI]at j;obtain⟨y,l,J,-⟩:=j.slice;obtain⟨s,i⟩:=rl (((x.ps.take S++p::x.ps.drop S).map aA).length);rw[i]at J;subst J;clear i;have i:=AI j H;clear j H
  try go_simp
  refine e.o _ _ (dB d i.o.2 (fun b=>c.o.q.1 _ (c.o.2.1.own.1 1 _ _ b)) (fun b=>c.o.q.1 _ (c.o.2.1.own.1 1 _ _ b))) ?_;clear e K d;intro d
  try simp only[xT]
  refine bq [9,10] ?_
  iterate 2 (refine ek (v:=?_) (fun _ ⟨M,P⟩=>?_) d ?_;rotate_left;(go_simp;try rfl);try simp only[xT])
  refine bt ?_;refine bC 11 (fun K e=>?_);obtain⟨⟨z,-⟩,j,-⟩:=ae (i.o.2.heap (qS f.o c.o.1) (fun q b=>c.o.2.1.own.2.1 1 0 a q (by decide) b (c.o.2.1.2.1 q)));go_simp;refine e.o _ _ (dB d (OnlyC.aR _ a 0 _) (fun B=>c.o.q.1 0 (by have t:=B.1;rw[t];exact c.o.2.1.own.1 0 a 0 (c.o.2.1.2.1 0))) (fun B=>c.o.q.1 0 (by have t:=B.1;rw[t];exact c.o.2.1.own.1 0 a 0 (c.o.2.1.2.1 0)))) ?_;clear e K d z j;intro d
  try simp only[xT]
  refine qe (by kernel_rfl) ?_ _;go_wp2_with fail
  go_ret2
  rw[N.o];obtain⟨z,g,r,v,G,-,n,-,-⟩:=c.o;have j:=qS f.o z;have J:=((o0 f.o (fun u q=>T 1 u q\/u=a)).x i.o.2 (fun u q _ b=>.inl b)).x (OnlyC.aR E a 0 (.slice y s l)) (fun u q _ B=>.inr B.1);have H:=(i.o.1.only (OnlyC.aR E a 0 (.slice y s l)) (fun u q b B=>b.elim (fun h=>g.own.2.2 1 u q (by decide) h B.1) (fun h=>by have A:=v a 0 (g.own.1 0 a 0 (g.2.1 0));have K:=f.o.size;have e:=B.1;omega))).m (fun u q b=>b.imp id (fun C=>dp f.o.size C));have e:=g.py (fun _=>n) v (jm (i.o.2.heap j (fun q b=>g.own.2.1 1 0 a q (by decide) b (g.2.1 q))) (.slice y s l)) J H;rw[n]at e;exact⟨rfl,e.1.m (fun u q b=>b.imp id (fun C=>dp r.size C)),(o0 r F).x e.2 (fun _ _ _ C=>C)⟩
theorem GY{α:Type}{l:List α}{i:Nat}(hi:i<l.length)(x:α)(j:Nat):(l.take i++x::l.drop (i+1))[j]?=if j=i then some x else l[j]?:=by
 rw[List.getElem?_append];by_cases c:j<i
 ·rw[fi (by simp;omega),ff (by omega),mu,fi c]
 ·rw[ff (by simp;omega),lk,oB (by omega)];by_cases e:j=i
  ·subst e;simp
  ·rw[ff e,show j-i=(j-i-1)+1 by omega,List.getElem?_cons_succ,mv];congr 1;omega
theorem aac{α:Type}{l:List α}{i:Nat}(hi:i<l.length)(y:α):(l.take i++y::l.drop (i+1))[i]?=some y:=by rw[GY hi,fi rfl]
theorem aZ.below{w w':World}{d a:Nat}{x:ND}{F:Nat->Nat->Prop}{c e:Value}{f:List Nat}{H:Nat->Nat->Nat->Prop}(h:aZ w (bX w d) a x F c e f H)(q:Below w.heap.size w w'):aZ w' (bX w' d) a x F c e f H:=by have b:=rj q;obtain⟨p,n,g,k,i,l,m⟩:=h;exact⟨b.heap p (fun _ h=>h),n,g.only b (fun _ _ _ h=>h),k.only b (fun _ _ _ h=>h),i,fun t s r o j=>(l t s r o j).only b (fun _ _ _ h=>h),m⟩
def UT(d o:Nat)(p:Pr):Prop:= ∀(w:World) (b a:Nat) (x:ND) (F:Nat->Nat->Prop),aG w d b x F->(∀c q,F c q->c<w.heap.size)->fw d o a (2*o-1) x->Up (bz d x)->
 Calls prog 177 #[r7 b,Rf p,rv o] w (GX d b (gY d x p o) F (look p.1 (bz d x)) w)
theorem xt{W a:World}{F:Nat->Nat->Prop}{j g h d e f c i:Nat}{v1 v2 v3 v4:Value}(o:W.cell? ⟨j,g,none⟩=some v1/\W.cell? ⟨h,d,none⟩=some v2/\W.cell? ⟨e,f,none⟩=some v3/\W.cell? ⟨c,i,none⟩=some v4)(b:OnlyC F W a)(n: ¬F j g)(k: ¬F h d)(l: ¬F e f)(m: ¬F c i):a.cell? ⟨j,g,none⟩=some v1/\a.cell? ⟨h,d,none⟩=some v2/\a.cell? ⟨e,f,none⟩=some v3/\a.cell? ⟨c,i,none⟩=some v4:=
 ⟨b.cell o.1 n,b.cell o.2.1 k,b.cell o.2.2.1 l,b.cell o.2.2.2 m⟩
theorem Ws(w:World)(d a o lo:Nat)(x:ND)(F:Nat->Nat->Prop)(p:Pr)(h:UT d o p)(e:2<=o)(cN:o<=16)(t:aG w (d+1) a x F)(n: ∀B s,F B s->B<w.heap.size)(b:fw (d+1) o lo (2*o-1) x)(c:Up (bz (d+1) x))(f:hit p.1 x.ps=false):
  Calls prog 177 #[r7 a,Rf p,rv o] w (GX (d+1) a (gY (d+1) x p o) F (look p.1 (bz (d+1) x)) w):=by
 have l:=vY b c;have W:x.ps.length<=1000:=by have:=b.len;omega
 have g:=AS b c f h e;clear h b c e;unfold Rf;obtain⟨c,b⟩:=rk w (so p.1.toArray p.2.toArray);have e:=t.below c;go_enter func177,ntmps177;go_upto_region 1 with fail;generalize w.alloc (so p.1.toArray p.2.toArray)=i at c b e⊢;obtain⟨P,k⟩:=rl (w.heap.size);rw[k]at b⊢;have h:=al (find_ok i F a x p.1 e.base l W);rw[f]at h;have i:=eJ p.1 x.ps;obtain⟨u,j⟩:=rl (posOf p.1 x.ps);rw[j]at h i;have U:=al j;have q:=AS c b e k n;obtain⟨r,m⟩:=fo b;clear t c b e k f j l n;go_wp2_with fail;refine h.o.m ?_;rintro e J ⟨rfl,j⟩;have Z:=q.o.d.1.below j;have T:=qS j q.o.2.1;have z:=q.o.1.x (j.m q.o.1.size);have L: ∀B s,F B s->B<J.heap.size:=fun B s f=>da (q.o.q B s f) z.size;have N: ∀s,¬F P s:=fun s f=>by have:=q.o.q P s f;have:=q.o.t.1;omega
 clear h r m;obtain⟨aa,vp,vk,V,H,h,hT⟩:=Z.open_;have ac:=g.o.1.kids;have k:u<x.ks.length:=by omega
 obtain⟨M,Q⟩: ∃M,x.ks[u]?=some M:=⟨_,ao k⟩;obtain⟨l,C⟩: ∃l,V[u]?=some l:=⟨_,ao (by rw[h.2.2.2.2.1];exact k)⟩;obtain⟨A,c,K,-⟩:=h.2.2.1.slice;rw[eS]at K;subst K;obtain⟨D,G,S,b,-,-,R⟩:=h.2.2.2.1.ptr C;subst b;obtain⟨v,y⟩:=rl (V.length);rw[y]at h;have am:u<v:=by rw[<-y,h.2.2.2.2.1];exact k
 have Es:v<=1001:=by rw[<-y,h.2.2.2.2.1];omega
 obtain⟨n,E⟩:=rl (x.ps.length);rw[E]at h W i;obtain⟨⟨-,O⟩,-,-⟩:=ae h.1;have Y:=al (fk J a v S _ (by omega) O)
 have I:H 2 D (G+u):=by obtain⟨b',o',c',cs,K,q2,q3,q4,q6,q7,q8,q9⟩:=h.2.2.2.1.lies (by rw[eS];omega);simp only[eS,im,fj,nx,and_true]at K;obtain⟨⟨rfl,rfl⟩,-,rfl⟩:=K;rw[eS]at q2;exact q8 _ (by omega) (by omega)
 obtain⟨r,m⟩:=fo T;have X:=yv O R r m;have b:=B7 h z L N Q C E I k i;have i1:(0:Int)<=(u:Int):=by omega
 have i2:(u:Int)<(v:Int):=by omega
 clear Z T j z L N aa hT O E i h Q C k ac y I R r m;go_wp2_with fail;refine Y.o.m ?_;rintro e w3 ⟨rfl,rfl⟩;clear Y;go_upto_region 9 with fail;refine pw (S:=(fun h=>h.cell? ⟨a,1,none⟩=some (.slice (some ⟨D,G,none⟩) v S)/\h.cell? ⟨D,G+u,none⟩=some (r7 l)/\h.cell? ⟨P,0,none⟩=some (sd p.1)/\h.cell? ⟨P,1,none⟩=some (sd p.2))) (by kernel_rfl) X (fun r=>?_);generalize h:World.drew J=L at r⊢;have i:=al (show aZ L (aG L d) a x F (.slice A n c) (.slice (some ⟨D,G,none⟩) v S) V H/\Below J.heap.size J L from h▸⟨aZ.below (d:=d+1) b.o.1 (aw _ _).drew,(aw _ _).drew⟩);clear h X;refine bq [0,1,2,3,4,5,6,7,8] ?_
 iterate 9 (refine ek (v:=?_) (fun _ ⟨Y,C,z,y⟩=>?_) r ?_;rotate_left;(go_simp;try rfl);try simp only[xT])
 refine bt ?_;refine bC 9 (fun I m=>?_);go_simp;refine(g.o.t.1 L l _ M (H (u+3)) (i.o.1.2.2.2.2.2.1 u l M b.o.q.2.1 b.o.q.1) (fun B s f=>da (b.o.d.1 B s (b.o.1.own.1 _ B s f)) i.o.2.size) (g.o.1.2.2.2 M (db b.o.q.1)) (Up.kid g.o.1.kids (by have t:=g.o.2.1;rwa[<-dL x]at t) b.o.q.1)).m ?_;rintro e wn ⟨rfl,j,h⟩;have E:=AI j h;clear j h;obtain⟨Y,h⟩:=rl ((⟨((look p.1 (bz d M)).getD []).toArray⟩:ByteArray));obtain⟨b0,j⟩:=rl ((look p.1 (bz d M)).isSome);rw[h,j];have N:=AI h j;clear h j
 try go_simp
 refine m.o _ _ (xt r E.o.2 (b.o.1.own.2.1 0 (u+3) a 1 (by omega) (b.o.1.2.1 1)) (b.o.1.own.2.1 2 (u+3) D (G+u) (by omega) b.o.q.t.1) (fun f=>b.o.t.1 0 (b.o.1.own.1 _ _ _ f)) (fun f=>b.o.t.1 1 (b.o.1.own.1 _ _ _ f))) ?_;clear m I r;intro r
 try simp only[xT]
 refine bq [10,11,12,13,14] ?_
 iterate 5 (refine ek (v:=?_) (fun _ ⟨Y,C,z,y⟩=>?_) r ?_;rotate_left;(go_simp;try rfl);try simp only[xT])
 refine bt ?_;refine qe (by kernel_rfl) ?_ _;obtain⟨O,R,-,-⟩:=r;have j:=i.o.1.Jo (fun B s f=>da (b.o.d.1 B s f) i.o.2.size) b.o.q.1 b.o.q.2.1 E.o.2 E.o.1;have C:=qU g.o.q p (g.o.1.2.2.2 M (db b.o.q.1)) (Up.kid g.o.1.kids (by have t:=g.o.2.1;rwa[<-dL x]at t) b.o.q.1);obtain⟨ad,ac,Et,H3,I,-,Q,-⟩:=E.o.1.base;obtain⟨A3,c3,h,-⟩:=Q.slice;rw[eS]at h;subst h;obtain⟨T,m⟩:=rl ((gY d M p o).ps.length);rw[m]at I;have SA:=C.2.len.2;rw[m]at SA;obtain⟨⟨z3,-⟩,-,-⟩:=ae I;have z:look p.1 (bz (d+1) x)=look p.1 (bz d M):=by rw[<-dL x];exact BJ g.o.1.kids (by have t:=g.o.2.1;rwa[<-dL x]at t) g.o.d.1 (by rw[U.o];exact b.o.q.1)
 have h:=Jc (d:=d) (o:=o) (ps:=x.ps) (ks:=x.ks) (k:=M) g.o.d.1 (by rw[U.o];exact b.o.q.1);rw[dL,U.o,m]at h;have y:=AS j C m z h;clear j C I Q m z h;have io:(2:Int)<=(o:Int):=by have:=g.o.q;omega
 have aa:(o:Int)<=16:=by omega
 by_cases Q:2*o-1<T
 ·have i3:2*(o:Int)-1<(T:Int):=by omega
  have I:=al Q;clear Q;go_wp2_with fail;have X:w.heap.size<=L.heap.size:=dp b.o.2.1.size i.o.2.size;have k:=b.o.q.q.1;have mM:=g.o.1.kids;have UR:=g.o.1.len.2;refine(xq wn d a u o _ (gY d M p o) _ y.o.1.1.bound (fun B s f=>f.2) (aac k _) (by show u<=x.ps.length;omega) (by show x.ps.length<=1000;omega) (by show(x.ks.take u++gY d M p o::x.ks.drop (u+1)).length<=1000;simp;omega) (by rw[y.o.d.1];have:=I.o;omega) (fun L=>?_) g.o.q cN).m ?_
  ·obtain⟨L,rfl⟩: ∃L,d=L+1:=⟨d-1,by omega⟩;rw[y.o.2.1.2.kids,y.o.d.1];have:=I.o;omega
  rintro e w5 ⟨rfl,Z,L⟩;have H5:=AI Z L;clear Z L;go_wp2_with fail
  go_ret2
  obtain⟨j,C,m,z,h⟩:=y.o;rw[fi I.o]at h;rw[h];refine⟨by rw[<-N.o.1,<-N.o.2,<-z];rfl,H5.o.1.m (fun B s f=>?_),((o0 (b.o.2.1.x (i.o.2.m b.o.2.1.size)) F).x j.2 (fun _ _ _ t=>t)).x H5.o.2 (fun B s L f=>f.1.elim id (fun t=>by omega))⟩;rcases f with f|f
  ·exact f.1.imp id (fun t=>dp X t)
  ·exact .inr (dp X (dp E.o.2.size f))
 ·have i3: ¬2*(o:Int)-1<(T:Int):=by omega
  have I:=al Q;clear Q;go_wp2_with fail
  go_ret2
  obtain⟨j,C,m,z,h⟩:=y.o;rw[ff I.o]at h;rw[h];exact⟨by rw[<-N.o.1,<-N.o.2,<-z];rfl,j.1.m (fun B s f=>f.imp id (fun t=>dp b.o.2.1.size (dp i.o.2.size t))),((o0 (b.o.2.1.x (i.o.2.m b.o.2.1.size)) F).x j.2 (fun _ _ _ t=>t))⟩
theorem OD{o:Nat}(k:2<=o)(i:o<=16)(p:Pr): ∀h,UT h o p
 |0=>fun w m j x F n d b c=>by
  have q:=b.none;have g:=vY b c;have f:x.ps.length<=1000:=by have:=b.len;omega
  by_cases a:hit p.1 x.ps=true
  ·obtain⟨v,e⟩:=fQ a;have:=JQ w 0 m o x F p v n d g f a e;rw[q]at this
   have l:gY 0 x p o=.mk (x.ps.take (posOf p.1 x.ps)++p::x.ps.drop (posOf p.1 x.ps+1)) []:=by show ND.mk (BF x.ps p) []=_;unfold BF;rw[fi a]
   rw[l,show look p.1 (bz 0 x)=some v from sx e];exact this
  ·simp only[Bool.not_eq_true]at a;have:=OB w m o x F p n d g f a
   have l:gY 0 x p o=.mk (x.ps.take (posOf p.1 x.ps)++p::x.ps.drop (posOf p.1 x.ps)) []:=by show ND.mk (BF x.ps p) []=_;unfold BF;rw[ff (by simp[a])]
   rw[l,show look p.1 (bz 0 x)=none from Dz a];exact this
 |h+1=>fun w m j x F n d b c=>by
  have g:=vY b c;have f:x.ps.length<=1000:=by have:=b.len;omega
  by_cases a:hit p.1 x.ps=true
  ·obtain⟨v,e⟩:=fQ a;have:=JQ w (h+1) m o x F p v n d g f a e;have l:=Ds (d:=h) (o:=o) (ps:=x.ps) (ks:=x.ks) a;rw[dL]at l;rw[l]
   have q:look p.1 (bz (h+1) x)=some v:=by rw[<-dL x]at c⊢;exact vQ b.kids c a e
   rw[q];exact this
  ·simp only[Bool.not_eq_true]at a;exact Ws w h m o j x F p (OD k i p h) k i n d b c a
end Go.Proofs.YtehccbdajiiaaaaGreatDoor
