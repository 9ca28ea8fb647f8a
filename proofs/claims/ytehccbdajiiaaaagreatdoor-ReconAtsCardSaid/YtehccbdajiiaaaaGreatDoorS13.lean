import Derived.Test.YtehccbdajiiaaaaGreatDoorS05
import Derived.Test.YtehccbdajiiaaaaGreatDoorS12
namespace Go.Proofs.YtehccbdajiiaaaaGreatDoor
open Go.Proofs.Tryz
set_option maxRecDepth 100000
set_option maxHeartbeats 16000000
open Go.RowKit
theorem ek(w:World)(a c:Nat)(A:Option Addr)(d:w.cell? ⟨a,1,none⟩=some (.slice A 0 c)):Calls prog 173 #[rv a] w fun e b=>e=.returned (.bool true)/\w=b:=by
 go_enter func173,ntmps173;go_wp2_with fail;go_ret
 exact⟨rfl,rfl⟩
theorem fy(w:World)(a n c:Nat)(A:Option Addr)(d:0<n)(e:w.cell? ⟨a,1,none⟩=some (.slice A n c)):Calls prog 173 #[rv a] w fun f b=>f=.returned (.bool false)/\w=b:=by
 have f:(((n:Int))==0)=false:=by rw[beq_eq_false_iff_ne];omega
 have b: ¬n=0:=by omega
 go_enter func173,ntmps173;go_wp2_with fail;go_ret
 exact⟨rfl,rfl⟩
theorem af{w:World}{l:Nat}{v u:Value}(h:w.heap[l]?=some (te v u)):(w.cell? ⟨l,0,none⟩=some v/\w.cell? ⟨l,1,none⟩=some u)/\w.frozen? ⟨l,0,none⟩=false/\w.frozen? ⟨l,1,none⟩=false:=by simp[World.cell?,World.frozen?,h]
theorem ju{w:World}{l:Nat}{v u:Value}(h:w.heap[l]?=some (te v u))(x:Value):(w.setCell ⟨l,0,none⟩ x).heap[l]?=some (te x u):=by have:=dp w l 0 _ _ x h;simpa using this
theorem Kw{w:World}{l:Nat}{v u:Value}(h:w.heap[l]?=some (te v u))(x:Value):(w.setCell ⟨l,1,none⟩ x).heap[l]?=some (te v x):=by have:=dp w l 1 _ _ x h;simpa using this
theorem tR{P:Program}(t e:TypeId)(k:Nat)(q:P.underlying t=some (.slice e))(d: ∀w,(sizeOf e).run P w=.ok k w)(b o i c l h a:Nat)(p:l<=h)(j:h<=a)(n:a<=c)(s:l<a)(w:World):
  (Instr.slice t (.slice (some ⟨b,o,none⟩) i c) (some (rm (l:Int))) (some (rm (h:Int))) (some (rm (a:Int)))).run P w=.ok (.slice (some ⟨b,o+l*k,none⟩) (h-l) (a-l)) w:=by
 have g: ¬a=l:=by omega
 have f: ¬l=a:=by omega
 have r:h<=c:=by omega
 have m:l<=c:=by omega
 simp[Instr.slice,run_underlying q,Instr.sliceBounds,run_sliceBound,p,j,n,d,g,ir]
theorem tT{P:Program}(t e:TypeId)(k:Nat)(f:P.underlying t=some (.slice e))(a: ∀w,(sizeOf e).run P w=.ok k w)(b o d c h:Nat)(g:h<=c)(w:World):
  (Instr.slice t (.slice (some ⟨b,o,none⟩) d c) none (some (rm (h:Int))) (some (rm (h:Int)))).run P w=.ok (.slice (some ⟨b,o,none⟩) h h) w:=by
 have i:(⟨b,o,none⟩:Addr).add 0=⟨b,o,none⟩:=by rw[ir,mS]
 simp[Instr.slice,run_underlying f,Instr.sliceBounds,run_sliceBound,g,a,i]
theorem fA{w:World}{l:Nat}{v u:Value}{t:TypeId}(h:w.heap[l]?=some (.cells #[v,u] t (0,0))):w.cell? ⟨l,0,none⟩=some v/\w.cell? ⟨l,1,none⟩=some u:=by simp[World.cell?,h]
theorem mn{W a:World}{b c:Addr}{v1 v2:Value}(h:W.cell? b=some v1/\W.cell? c=some v2)(d:Below W.heap.size W a):a.cell? b=some v1/\a.cell? c=some v2:=
 ⟨(d.cell (aq _ _ h.1)).x h.1,(d.cell (aq _ _ h.2)).x h.2⟩
theorem dF{W a:World}{F:Nat->Nat->Prop}{d b c e:Nat}{v1 v2:Value}(i:W.cell? ⟨d,b,none⟩=some v1/\W.cell? ⟨c,e,none⟩=some v2)(f:OnlyC F W a)(h: ¬F d b)(g: ¬F c e):a.cell? ⟨d,b,none⟩=some v1/\a.cell? ⟨c,e,none⟩=some v2:=
 ⟨f.cell i.1 h,f.cell i.2 g⟩
theorem rW{d i o m:Nat}{x k:ND}{a:Pr}(e:x.ks[i]?=some k)(c:d=0->k.ks=[])(b:k.ps[m]?=some a)(f:o=m+1):nA d x i o=.mk (x.ps.take i++a::x.ps.drop i) (x.ks.take i++(jU d k o).1::(jU d k o).2.2::x.ks.drop (i+1)):=by
 have g:(jU d k o).2.1=a:=by rw[J9 c];simp only;rw[f,ox,b];rfl
 unfold nA;rw[e];simp only[oy,g]
theorem dL(l:List Pr): ∀u∈(l.map ay).flatten,u.oneCell'=true:=by intro u a;obtain⟨x,b,a⟩:=List.mem_flatten.1 a;obtain⟨c,_,rfl⟩:=ep.1 b;simp[ay]at a;rcases a with rfl|rfl<;>rfl
theorem ct(l:List Nat): ∀u∈(l.map aP).flatten,u.oneCell'=true:=by intro u a;obtain⟨x,b,a⟩:=List.mem_flatten.1 a;obtain⟨c,_,rfl⟩:=ep.1 b;simp[aP]at a;rcases a with rfl;rfl
theorem eQ{α β:Type}(f:α->β)(l:List α)(i:Nat)(x:α):(l.map f).take i++f x::(l.map f).drop i=(l.take i++x::l.drop i).map f:=by simp
def qW(d a i o:Nat)(x:ND)(F:Nat->Nat->Prop)(w:World)(e:Ending)(w':World):Prop:=
 e=.returned (.tuple #[])/\aB w' (d+1) a (nA d x i o) (fun b q=>F b q\/w.heap.size<=b)/\OnlyC F w w'
theorem Ih(w:World)(d a i o m l r u t s R cp bk V ck J:Nat)(A:Option Addr)(x k:ND)(F:Nat->Nat->Prop)(Z S8:Value)(C Q:List Nat)(H c:Nat->Nat->Nat->Prop)(P:Option Addr)(S:Nat)
  (h:aY w (aB w d) a x F (.slice A R cp) (.slice (some ⟨bk,V,none⟩) J ck) C H) (p: ∀g q,F g q->g<w.heap.size) (N:x.ks[i]?=some k) (y:C[i]?=some l) (L:i<=x.ps.length)
  (b:aY w (bY w d) l k (H (i+3)) Z S8 Q c) (hT: ∀i g q,c i g q->i<k.ks.length+3) (z:d=0->k.ks=[])
  (B:k.ps.length=2*o) (T:2<=o) (cj:o<=16) (Y:o=m+1) (mI:x.ps.length=R) (I:C.length=J) (E6:J<=1000) (XA:R<=1000)
  (e:Z=.slice (some ⟨t,s,none⟩) r u) (O:r=2*o) (ac:r<=u) (aa:u<=maxLen) (j:S8=.slice P 0 S)
  (r2:w.cell? ⟨bk,V+i,none⟩=some (rv l)) (f:Pr) (G:k.ps[m]?=some f) (r4:w.cell? ⟨t,s+m*2,none⟩=some (r7 f.1)) (r5:w.cell? ⟨t,s+m*2+1,none⟩=some (r7 f.2))
  (A1 B1 A2 B2:Nat->Nat->Prop) (K:aG 2 220 w (.slice (some ⟨t,s,none⟩) m m) ((k.ps.take (o-1)).map ay) (fun g q=>c 1 g q/\A1 g q)) (X:aG 2 220 w (.slice (some ⟨t,s+o*2,none⟩) (r-o) (r-o)) ((k.ps.drop o).map ay) (fun g q=>c 1 g q/\B1 g q))
  (q1:aG 1 169 w (.slice P 0 S) ((Q.take o).map aP) (fun g q=>c 2 g q/\A2 g q)) (W:aG 1 169 w (.slice none 0 0) ((Q.drop o).map aP) (fun g q=>c 2 g q/\B2 g q))
  (U: ∀g q,A1 g q-> ¬B1 g q) (e2: ∀g q,A2 g q-> ¬B2 g q):
  Calls prog 178 #[rv a,rm i,rm o] w (qW d a i o x F w):=by
 subst e j;have E:a<w.heap.size:=p a 0 (h.own.1 0 a 0 (h.2.1 0));have D:l<w.heap.size:=p l 0 (h.own.1 _ l 0 (b.own.1 0 l 0 (b.2.1 0)));have Ss: ¬l=a:=h.own.2.2 (i+3) l 0 (by omega) (b.own.1 0 l 0 (b.2.1 0));have Pp:i<J:=by have:=(aw.1 y).1;omega
 have n:=B9 h p N y b hT z K X q1 W U e2;have v:=AS B Y G mI I L E;have M:=AF h.1 b.1 D;obtain⟨⟨-,r1⟩,-,-⟩:=af h.1;obtain⟨⟨j,e⟩,-,-⟩:=af b.1;have m1:(o:Int)-1=(m:Int):=by omega
 have i1:(0:Int)<=(i:Int):=by omega
 have i2:(i:Int)<(J:Int):=by omega
 have i3:(0:Int)<=(m:Int):=by omega
 have i4:(m:Int)<(r:Int):=by omega
 have i5:(o:Int)<=(r:Int):=by omega
 have i6:(r:Int)<=(u:Int):=by omega
 have i7:(0:Int)<=(o:Int):=by omega
 have i8:(m:Int)<=(u:Int):=by omega
 have j1:u<=maxLen:=aa;have am:=tR (P:=prog) 170 220 2 underlying170 (fun _=>by kernel_rfl) t s r u o r r (by omega) (b8 _) ac (by omega);have ad:=tT (P:=prog) 170 220 2 underlying170 (fun _=>by kernel_rfl) t s r u m (by omega);have HE:=AF O T XA;clear h p N y b hT z B G K X q1 W U e2 L mI I E D O Y T;go_enter func178,ntmps178;go_upto_region 2 with fail;obtain⟨h,p⟩:=rj w (sh f.1.toArray f.2.toArray);generalize w.alloc (sh f.1.toArray f.2.toArray)=B at h p⊢;obtain⟨U,y⟩:=rk (w.heap.size);rw[y]at p⊢;have z:=qt h M.o.2.1;clear j e r1 r2 r4 r5;obtain⟨⟨j,e⟩,-,-⟩:=af z;have c:=AI h p y z;clear h p y z;go_upto_region 4 with fail;obtain⟨p,y⟩:=rj B (ue (.slice (some ⟨t,s+o*2,none⟩) (r-o) (r-o)));generalize B.alloc (ue (.slice (some ⟨t,s+o*2,none⟩) (r-o) (r-o)))=z at p y⊢;obtain⟨T,E⟩:=rk (B.heap.size);rw[E]at y⊢;have K:w.heap.size<T/\U=w.heap.size/\U<T:=by have:=oT c.o.2.1;have:=c.o.d.1;omega
 have B:=qt p c.o.t;have I:=qt p c.o.2.1;have D:=c.o.1.x (p.m c.o.1.size);clear j e;obtain⟨⟨j,e⟩,G,-⟩:=af B;have h:=AM D y K B I;clear p y E K B I D c;go_upto_region 5 with fail;have I: ¬U=l:=by have:=h.o.d.1;have:=M.o.d;omega
 have VS: ¬T=l:=by have:=h.o.d.1;have:=M.o.d;omega
 have c:=ju h.o.t.1 (.slice (some ⟨t,s,none⟩) m m);have p:=OnlyC.aR z l 0 (.slice (some ⟨t,s,none⟩) m m);have y:=p.heap h.o.2.1 (fun q B=>VS B.1);have E:=p.heap h.o.q (fun q B=>I B.1);have D:OnlyC (fun g _=>g=l) w (z.setCell ⟨l,0,none⟩ (.slice (some ⟨t,s,none⟩) m m)):=(oS h.o.1 (fun g _=>g=l)).x p (fun g q _ B=>B.1);generalize z.setCell ⟨l,0,none⟩ (.slice (some ⟨t,s,none⟩) m m)=z at c y E D⊢;clear j e G p;obtain⟨⟨j,e⟩,p,G⟩:=af c;clear p;have p:=AM D c y E h.o.d.1;clear c y E D h I;have c:=al (ek z l S P e);go_wp2_with fail;refine c.o.m ?_;rintro B w4 ⟨rfl,rfl⟩;clear c j e G;go_upto_region 8 with fail;have y:=p.o.q;have c: ∀j q g,H j g q->g<w.heap.size:=fun j q g e=>n.o.2.1 g q (n.o.1.own.1 j g q e);have I: ∀j q,¬H j U q:=fun j q e=>by have:=c j q U e;omega
 have h: ∀j g q,j≠i+3->H j g q-> ¬g=l:=fun j g q D e B=>n.o.1.own.2.1 j (i+3) g q D e (B▸n.o.q.1.own.1 0 l q (n.o.q.1.2.1 q));have K:=p.o.1.heap M.o.1 (fun q B=>Ss B.symm);have G:=(n.o.1.2.2.1).only p.o.1 (fun g q e=>h 1 g q (by omega) e);have j:=(n.o.1.2.2.2.1).only p.o.1 (fun g q e=>h 2 g q (by omega) e);have E:=AF K G j;have D:=AF I c y;have L:=fA p.o.t.1;clear y c I h K G j;refine pt (S:=(fun W=>W.cell? ⟨U,0,none⟩=some (r7 f.1)/\W.cell? ⟨U,1,none⟩=some (r7 f.2))) (by kernel_rfl) L (fun c=>?_);generalize h:World.drew z=y at c⊢;have j:=al (show Below z.heap.size z y from h▸(bd _ _).drew);clear h L;refine bj [0,1,2,3,5,6] ?_
 iterate 6 (refine dZ (v:=?_) (fun _ ⟨s0,s1⟩=>?_) c ?_;rotate_left;(go_simp;try rfl);try simp only[xr])
 refine bq ?_;refine qe (rs:=[4,7]) (by kernel_rfl) (by simp) (cX (i:=4) rfl (fun O b=>?_) (cX (i:=7) rfl (fun O b=>?_) ph))
 focus
  obtain⟨⟨K,-⟩,-,-⟩:=af (qt j.o E.o.1);go_simp;refine b.o _ _ (c) ?_;clear b O c K;intro c
  try simp only[xr]
  refine bA 7 (fun O b=>?_);go_simp;refine b.o _ _ (mn c (ae _ _)) ?_;clear b O c;intro c
  try simp only[xr]
  obtain⟨z,h⟩:=rj y (sh f.1.toArray f.2.toArray);generalize y.alloc (sh f.1.toArray f.2.toArray)=N at h z c⊢;obtain⟨I,G⟩:=rk (y.heap.size);rw[G]at h⊢;have L:=AD h (show w.heap.size<I by have Y:=j.o.size;have h2:=oT p.o.d.1;have W:=p.o.q;omega);have j:=al (j.o.x (z.m j.o.size));clear h z G
 rotate_left
 focus
  go_simp;refine b.o _ _ (mn c (ae _ _)) ?_;clear b O c;intro c
  try simp only[xr]
  obtain⟨z,h⟩:=rj y (sh f.1.toArray f.2.toArray);generalize y.alloc (sh f.1.toArray f.2.toArray)=N at h z c⊢;obtain⟨I,G⟩:=rk (y.heap.size);rw[G]at h⊢;have L:=AD h (show w.heap.size<I by have Y:=j.o.size;have h2:=oT p.o.d.1;have W:=p.o.q;omega);have j:=al (j.o.x (z.m j.o.size));clear h z G;refine bA 4 (fun O b=>?_);obtain⟨⟨K,-⟩,-,-⟩:=af (qt j.o E.o.1);go_simp;refine b.o _ _ (c) ?_;clear b O c K;intro c
  try simp only[xr]
 all_goals
  refine bA 8 (fun O b=>?_);go_simp;refine(jw N (H 1) _ (x.ps.map ay) i _ rfl (ay f) I (E.o.2.1.only (ri j.o) (fun _ _ _ h=>h)) (by rw[fa];exact v.o.q.2.1) (by rw[fa,v.o.t.1];exact HE.o.d) (by rfl) (by simp[ay,Value.oneCell']) (dL _) L.o.1 (fun q e=>by have:=D.o.2.1 1 q I e;have:=L.o.2;omega)).m ?_;rintro B z ⟨v6,rfl,N,X⟩;rw[eQ]at N;obtain⟨L,I,y,-⟩:=N.slice;obtain⟨G,fH⟩:=rk (((x.ps.take i++f::x.ps.drop i).map ay).length);rw[fH]at y;subst y;clear fH;have y:=AD N X;clear N X
  try go_simp
  refine b.o _ _ (dF c y.o.2 (D.o.1 1 0) (D.o.1 1 1)) ?_;clear b O c;intro c
  try simp only[xr]
  refine bj [9,10] ?_
  iterate 2 (refine dZ (v:=?_) (fun _ ⟨s0,s1⟩=>?_) c ?_;rotate_left;(go_simp;try rfl);try simp only[xr])
  refine bq ?_;refine bA 11 (fun O b=>?_);obtain⟨⟨K,-⟩,N,-⟩:=af (y.o.2.heap (qt j.o E.o.1) (fun q e=>n.o.1.own.2.1 1 0 a q (by decide) e (n.o.1.2.1 q)));go_simp;refine b.o _ _ (dF c (OnlyC.aR _ a 0 _) (fun B=>by have:=B.1;have:=D.o.d;have:=v.o.q.d;omega) (fun B=>by have:=B.1;have:=D.o.d;have:=v.o.q.d;omega)) ?_;clear b O c K N;intro c
  try simp only[xr]
  refine pw (by kernel_rfl) ?_ _;have b:=ju (y.o.2.heap (qt j.o E.o.1) (fun q e=>n.o.1.own.2.1 1 0 a q (by decide) e (n.o.1.2.1 q))) (.slice L G I);have K:=((E.o.d.only (ri j.o) (fun _ _ _ h=>h)).only y.o.2 (fun g q e N=>n.o.1.own.2.1 2 1 g q (by decide) e N)).only (OnlyC.aR z a 0 (.slice L G I)) (fun g q e B=>n.o.1.own.2.2 2 g q (by decide) e B.1);have g:(z.setCell ⟨a,0,none⟩ (.slice L G I)).heap.size=z.heap.size:=by simp[World.setCell]
  have X:=al (show ∃N,N=z.setCell ⟨a,0,none⟩ (.slice L G I)from⟨_,rfl⟩);generalize N:z.setCell ⟨a,0,none⟩ (.slice L G I)=O at b K g c⊢;clear X c;obtain⟨⟨-,y7⟩,-,-⟩:=af b;have c:=AI b K g N;clear b K g N;go_wp2_with fail;obtain⟨N,g⟩:=rj O (so T);generalize O.alloc (so T)=w8 at g N⊢;obtain⟨X,K⟩:=rk (O.heap.size);rw[K]at g⊢;have b:=AF g K N;clear g K N y7;refine(jx w8 (H 2) _ (C.map aP) (i+1) _ (by simp) (aP T) X (c.o.2.1.only (ri b.o.d) (fun _ _ _ h=>h)) (by rw[fa,v.o.q.1];exact Pp) (by rw[fa,v.o.q.1];exact E6) (by rfl) (by simp[aP,Value.oneCell']) (ct _) b.o.1 (fun q e=>by have:=D.o.2.1 2 q X e;have Y:=b.o.2.1;have h2:=c.o.d.1;have W:=y.o.2.size;have K:=j.o.size;have g:=oT p.o.d.1;have h:=p.o.q;omega)).m ?_;rintro B w9 ⟨v9,rfl,g,h⟩;rw[eQ]at g;obtain⟨A9,c9,N,-⟩:=g.slice;obtain⟨n9,K⟩:=rk (((C.take (i+1)++T::C.drop (i+1)).map aP).length);rw[K]at N;subst N;clear K;obtain⟨⟨-,y9⟩,-,f9⟩:=af (h.heap (qt b.o.d c.o.1) (fun q e=>n.o.1.own.2.1 2 0 a q (by decide) e (n.o.1.2.1 q)));have q:=AD g h;clear g h;go_wp2_with fail
  first|refine ew (du rfl _ _ _) rfl ?_|refine dj (du rfl _ _ _) rfl ?_
  obtain⟨a1,a2,e,a4,N,a6,g,W,a9,Y,XC,K,O⟩:=n.o;unfold qW;rw[rW e g v.o.d.1 v.o.2.1];have h:=pO (r:=T) a1 a2 e a4 N a6 g p.o.1 (Nat.le_of_lt p.o.q.1) (oT p.o.d.1) p.o.2.1 p.o.d.1 W a9 Y XC K O j.o y.o.2 y.o.1 (by rw[c.o.t];exact b.o.d.m (Nat.le_of_eq c.o.d.1.symm)) q.o.2 q.o.1;exact⟨rfl,h⟩
theorem Pq(w:World)(d a i o m l r B y v X cp bk Z ck P:Nat)(A:Option Addr)(x k:ND)(F:Nat->Nat->Prop)(VG S8:Value)(I V:List Nat)(H e:Nat->Nat->Nat->Prop)(n p b G:Nat)(nM:b=2*o+1)(aa:b<=G)(_am:G<=maxLen)
  (s:aY w (aB w d) a x F (.slice A X cp) (.slice (some ⟨bk,Z,none⟩) P ck) I H) (u: ∀j q,F j q->j<w.heap.size) (R:x.ks[i]?=some k) (z:I[i]?=some l) (Q:i<=x.ps.length)
  (c:aY w (bY w d) l k (H (i+3)) VG S8 V e) (hT: ∀i j q,e i j q->i<k.ks.length+3) (D:d=0->k.ks=[])
  (E:k.ps.length=2*o) (T:2<=o) (cj:o<=16) (hm:o=m+1) (mI:x.ps.length=X) (M:I.length=P) (E6:P<=1000) (XA:X<=1000)
  (f:VG=.slice (some ⟨y,v,none⟩) r B) (S:r=2*o) (ad:r<=B) (ac:B<=maxLen) (h:S8=.slice (some ⟨n,p,none⟩) b G)
  (r2:w.cell? ⟨bk,Z+i,none⟩=some (rv l)) (g:Pr) (L:k.ps[m]?=some g) (r4:w.cell? ⟨y,v+m*2,none⟩=some (r7 g.1)) (r5:w.cell? ⟨y,v+m*2+1,none⟩=some (r7 g.2))
  (A1 B1 A2 B2:Nat->Nat->Prop) (O:aG 2 220 w (.slice (some ⟨y,v,none⟩) m m) ((k.ps.take (o-1)).map ay) (fun j q=>e 1 j q/\A1 j q)) (Y:aG 2 220 w (.slice (some ⟨y,v+o*2,none⟩) (r-o) (r-o)) ((k.ps.drop o).map ay) (fun j q=>e 1 j q/\B1 j q))
  (q1:aG 1 169 w (.slice (some ⟨n,p,none⟩) o o) ((V.take o).map aP) (fun j q=>e 2 j q/\A2 j q)) (W:aG 1 169 w (.slice (some ⟨n,p+o,none⟩) (b-o) (b-o)) ((V.drop o).map aP) (fun j q=>e 2 j q/\B2 j q))
  (U: ∀j q,A1 j q-> ¬B1 j q) (e2: ∀j q,A2 j q-> ¬B2 j q):
  Calls prog 178 #[rv a,rm i,rm o] w (qW d a i o x F w):=by
 subst f h;have K:a<w.heap.size:=u a 0 (s.own.1 0 a 0 (s.2.1 0));have J:l<w.heap.size:=u l 0 (s.own.1 _ l 0 (c.own.1 0 l 0 (c.2.1 0)));have Ss: ¬l=a:=s.own.2.2 (i+3) l 0 (by omega) (c.own.1 0 l 0 (c.2.1 0));have Pp:i<P:=by have:=(aw.1 z).1;omega
 have t:=B9 s u R z c hT D O Y q1 W U e2;have C:=AS E hm L mI M Q K;have N:=AF s.1 c.1 J;obtain⟨⟨-,r1⟩,-,-⟩:=af s.1;obtain⟨⟨h,f⟩,-,-⟩:=af c.1;have m1:(o:Int)-1=(m:Int):=by omega
 have i1:(0:Int)<=(i:Int):=by omega
 have i2:(i:Int)<(P:Int):=by omega
 have i3:(0:Int)<=(m:Int):=by omega
 have i4:(m:Int)<(r:Int):=by omega
 have i5:(o:Int)<=(r:Int):=by omega
 have i6:(r:Int)<=(B:Int):=by omega
 have i7:(0:Int)<=(o:Int):=by omega
 have i8:(m:Int)<=(B:Int):=by omega
 have j1:B<=maxLen:=ac;have ba:=tR (P:=prog) 170 220 2 underlying170 (fun _=>by kernel_rfl) y v r B o r r (by omega) (b8 _) ad (by omega);have a':=tT (P:=prog) 170 220 2 underlying170 (fun _=>by kernel_rfl) y v r B m (by omega)
 have a0: ∀w,(Instr.slice 171 (.slice (some ⟨n,p,none⟩) b G) (some (rm (o:Int))) (some (rm (b:Int))) (some (rm (b:Int)))).run prog w=.ok (.slice (some ⟨n,p+o,none⟩) (b-o) (b-o)) w:=fun w=>by have:=tR (P:=prog) 171 169 1 underlying171 (fun _=>by kernel_rfl) n p b G o b b (by omega) (b8 _) aa (by omega) w;simpa using this
 have bb:=tT (P:=prog) 171 169 1 underlying171 (fun _=>by kernel_rfl) n p b G o (by omega);have m2:(r:Int)+1=(b:Int):=by omega
 have m3:wrap64 (b:Int)=(b:Int):=by first|go_num|(unfold wrap64;omega)
 have ap:0<b:=by omega
 have HE:=AF S T XA;clear s u R z c hT D E L O Y q1 W U e2 Q mI M K J S hm T nM;go_enter func178,ntmps178;go_upto_region 2 with fail;obtain⟨s,u⟩:=rj w (sh g.1.toArray g.2.toArray);generalize w.alloc (sh g.1.toArray g.2.toArray)=D at s u⊢;obtain⟨Y,z⟩:=rk (w.heap.size);rw[z]at u⊢;have E:=qt s N.o.2.1;clear h f r1 r2 r4 r5;obtain⟨⟨h,f⟩,-,-⟩:=af E;have e:=AI s u z E;clear s u z E;go_upto_region 4 with fail;obtain⟨u,z⟩:=rj D (ue (.slice (some ⟨y,v+o*2,none⟩) (r-o) (r-o)));generalize D.alloc (ue (.slice (some ⟨y,v+o*2,none⟩) (r-o) (r-o)))=E at u z⊢;obtain⟨S,L⟩:=rk (D.heap.size);rw[L]at z⊢;have O:w.heap.size<S/\Y=w.heap.size/\Y<S:=by have:=oT e.o.2.1;have:=e.o.d.1;omega
 have J:=qt u e.o.t;have M:=qt u e.o.2.1;have K:=e.o.1.x (u.m e.o.1.size);clear h f;obtain⟨⟨h,f⟩,D,-⟩:=af J;have s:=AM K z O J M;clear u z L O J M K e;go_upto_region 5 with fail;have M: ¬Y=l:=by have:=s.o.d.1;have:=N.o.d;omega
 have W: ¬S=l:=by have:=s.o.d.1;have:=N.o.d;omega
 have u:=ju s.o.t.1 (.slice (some ⟨y,v,none⟩) m m);have e:=OnlyC.aR E l 0 (.slice (some ⟨y,v,none⟩) m m);have J:=e.heap s.o.2.1 (fun q z=>W z.1);have L:=e.heap s.o.q (fun q z=>M z.1);have K:OnlyC (fun j _=>j=l) w (E.setCell ⟨l,0,none⟩ (.slice (some ⟨y,v,none⟩) m m)):=(oS s.o.1 (fun j _=>j=l)).x e (fun j q _ z=>z.1);generalize E.setCell ⟨l,0,none⟩ (.slice (some ⟨y,v,none⟩) m m)=E at u J L K⊢;clear h f D e;obtain⟨⟨h,f⟩,e,D⟩:=af u;clear e;have e:=AM K u J L s.o.d.1;clear u J L K s M;have s:=al (fy E l b G _ (by omega) f);obtain⟨⟨-,M⟩,-,Q⟩:=af e.o.d.1;go_wp2_with fail;refine s.o.m ?_;rintro z O ⟨rfl,rfl⟩;clear s;go_upto_region 7 with fail;have u:=(OnlyC.aR E S 1 (.slice (some ⟨n,p+o,none⟩) (b-o) (b-o))).heap e.o.2.1 (fun q z=>W z.1.symm);have L:=Kw e.o.d.1 (.slice (some ⟨n,p+o,none⟩) (b-o) (b-o));have K:=(OnlyC.aR E S 1 (.slice (some ⟨n,p+o,none⟩) (b-o) (b-o))).heap e.o.t.1 (fun q z=>by have:=z.1;have:=e.o.q;omega);have J:=e.o.1.setCell (b:=S) (o:=1) (fun s=>by have:=e.o.q;omega) (.slice (some ⟨n,p+o,none⟩) (b-o) (b-o));generalize E.setCell ⟨S,1,none⟩ (.slice (some ⟨n,p+o,none⟩) (b-o) (b-o))=O at u L K J⊢;clear h f D M Q;obtain⟨⟨h,f⟩,-,D⟩:=af u;have s:=AM J u L K e.o.q;clear u L K J e;go_upto_region 8 with fail;have L:=Kw s.o.2.1 (.slice (some ⟨n,p,none⟩) o o);have e:=(OnlyC.aR O l 1 (.slice (some ⟨n,p,none⟩) o o)).heap s.o.d.1 (fun q z=>W z.1);have K:=(OnlyC.aR O l 1 (.slice (some ⟨n,p,none⟩) o o)).heap s.o.t.1 (fun q z=>by have:=z.1;have:=s.o.q;have:=N.o.d;omega);have J:OnlyC (fun j _=>j=l) w (O.setCell ⟨l,1,none⟩ (.slice (some ⟨n,p,none⟩) o o)):=s.o.1.setCell (b:=l) (o:=1) (fun _=>rfl) (.slice (some ⟨n,p,none⟩) o o);generalize O.setCell ⟨l,1,none⟩ (.slice (some ⟨n,p,none⟩) o o)=E at L e K J⊢;have u:=AM J L e K s.o.q;clear L e K J s h f D;have D:=u.o.q;have h: ∀e q j,H e j q->j<w.heap.size:=fun e q j f=>t.o.2.1 j q (t.o.1.own.1 e j q f);have M: ∀e q,¬H e Y q:=fun e q f=>by have:=h e q Y f;omega
 have s: ∀e j q,e≠i+3->H e j q-> ¬j=l:=fun e j q J f z=>t.o.1.own.2.1 e (i+3) j q J f (z▸t.o.q.1.own.1 0 l q (t.o.q.1.2.1 q));have Q:=u.o.1.heap N.o.1 (fun q z=>Ss z.symm);have L:=(t.o.1.2.2.1).only u.o.1 (fun j q f=>s 1 j q (by omega) f);have e:=(t.o.1.2.2.2.1).only u.o.1 (fun j q f=>s 2 j q (by omega) f);have K:=AF Q L e;have J:=AF M h D;have R:=fA u.o.t.1;clear D h M s Q L e;refine pt (S:=(fun e=>e.cell? ⟨Y,0,none⟩=some (r7 g.1)/\e.cell? ⟨Y,1,none⟩=some (r7 g.2))) (by kernel_rfl) R (fun e=>?_);generalize h:World.drew E=D at e⊢;have s:=al (show Below E.heap.size E D from h▸(bd _ _).drew);clear h R;refine bj [0,1,2,3,5,6] ?_
 iterate 6 (refine dZ (v:=?_) (fun _ ⟨s0,s1⟩=>?_) e ?_;rotate_left;(go_simp;try rfl);try simp only[xr])
 refine bq ?_;refine qe (rs:=[4,7]) (by kernel_rfl) (by simp) (cX (i:=4) rfl (fun U c=>?_) (cX (i:=7) rfl (fun U c=>?_) ph))
 focus
  obtain⟨⟨Q,-⟩,-,-⟩:=af (qt s.o K.o.1);go_simp;refine c.o _ _ (e) ?_;clear c U e Q;intro e
  try simp only[xr]
  refine bA 7 (fun U c=>?_);go_simp;refine c.o _ _ (mn e (ae _ _)) ?_;clear c U e;intro e
  try simp only[xr]
  obtain⟨E,h⟩:=rj D (sh g.1.toArray g.2.toArray);generalize D.alloc (sh g.1.toArray g.2.toArray)=T at h E e⊢;obtain⟨M,L⟩:=rk (D.heap.size);rw[L]at h⊢;have R:=AD h (show w.heap.size<M by have h1:=s.o.size;have h2:=oT u.o.d.1;have h3:=u.o.q;omega);have s:=al (s.o.x (E.m s.o.size));clear h E L
 rotate_left
 focus
  go_simp;refine c.o _ _ (mn e (ae _ _)) ?_;clear c U e;intro e
  try simp only[xr]
  obtain⟨E,h⟩:=rj D (sh g.1.toArray g.2.toArray);generalize D.alloc (sh g.1.toArray g.2.toArray)=T at h E e⊢;obtain⟨M,L⟩:=rk (D.heap.size);rw[L]at h⊢;have R:=AD h (show w.heap.size<M by have h1:=s.o.size;have h2:=oT u.o.d.1;have h3:=u.o.q;omega);have s:=al (s.o.x (E.m s.o.size));clear h E L;refine bA 4 (fun U c=>?_);obtain⟨⟨Q,-⟩,-,-⟩:=af (qt s.o K.o.1);go_simp;refine c.o _ _ (e) ?_;clear c U e Q;intro e
  try simp only[xr]
 all_goals
  refine bA 8 (fun U c=>?_);go_simp;refine(jw T (H 1) _ (x.ps.map ay) i _ rfl (ay g) M (K.o.2.1.only (ri s.o) (fun _ _ _ h=>h)) (by rw[fa];exact C.o.q.2.1) (by rw[fa,C.o.t.1];exact HE.o.d) (by rfl) (by simp[ay,Value.oneCell']) (dL _) R.o.1 (fun q f=>by have:=J.o.2.1 1 q M f;have:=R.o.2;omega)).m ?_;rintro z E ⟨v6,rfl,T,fe⟩;rw[eQ]at T;obtain⟨R,M,D,-⟩:=T.slice;obtain⟨L,fH⟩:=rk (((x.ps.take i++g::x.ps.drop i).map ay).length);rw[fH]at D;subst D;clear fH;have D:=AD T fe;clear T fe
  try go_simp
  refine c.o _ _ (dF e D.o.2 (J.o.1 1 0) (J.o.1 1 1)) ?_;clear c U e;intro e
  try simp only[xr]
  refine bj [9,10] ?_
  iterate 2 (refine dZ (v:=?_) (fun _ ⟨s0,s1⟩=>?_) e ?_;rotate_left;(go_simp;try rfl);try simp only[xr])
  refine bq ?_;refine bA 11 (fun U c=>?_);obtain⟨⟨Q,-⟩,T,-⟩:=af (D.o.2.heap (qt s.o K.o.1) (fun q f=>t.o.1.own.2.1 1 0 a q (by decide) f (t.o.1.2.1 q)));go_simp;refine c.o _ _ (dF e (OnlyC.aR _ a 0 _) (fun z=>by have:=z.1;have:=J.o.d;have:=C.o.q.d;omega) (fun z=>by have:=z.1;have:=J.o.d;have:=C.o.q.d;omega)) ?_;clear c U e Q T;intro e
  try simp only[xr]
  refine pw (by kernel_rfl) ?_ _;have c:=ju (D.o.2.heap (qt s.o K.o.1) (fun q f=>t.o.1.own.2.1 1 0 a q (by decide) f (t.o.1.2.1 q))) (.slice R L M);have Q:=((K.o.d.only (ri s.o) (fun _ _ _ h=>h)).only D.o.2 (fun j q f T=>t.o.1.own.2.1 2 1 j q (by decide) f T)).only (OnlyC.aR E a 0 (.slice R L M)) (fun j q f z=>t.o.1.own.2.2 2 j q (by decide) f z.1);have j:(E.setCell ⟨a,0,none⟩ (.slice R L M)).heap.size=E.heap.size:=by simp[World.setCell]
  have W7:=al (show ∃T,T=E.setCell ⟨a,0,none⟩ (.slice R L M)from⟨_,rfl⟩);generalize T:E.setCell ⟨a,0,none⟩ (.slice R L M)=U at c Q j e⊢;clear W7 e;obtain⟨⟨-,y7⟩,-,-⟩:=af c;have e:=AI c Q j T;clear c Q j T;go_wp2_with fail;obtain⟨T,j⟩:=rj U (so S);generalize U.alloc (so S)=w8 at j T⊢;obtain⟨VN,Q⟩:=rk (U.heap.size);rw[Q]at j⊢;have c:=AF j Q T;clear j Q T y7;refine(jx w8 (H 2) _ (I.map aP) (i+1) _ (by simp) (aP S) VN (e.o.2.1.only (ri c.o.d) (fun _ _ _ h=>h)) (by rw[fa,C.o.q.1];exact Pp) (by rw[fa,C.o.q.1];exact E6) (by rfl) (by simp[aP,Value.oneCell']) (ct _) c.o.1 (fun q f=>by have:=J.o.2.1 2 q VN f;have h1:=c.o.2.1;have h2:=e.o.d.1;have h3:=D.o.2.size;have Q:=s.o.size;have h:=oT u.o.d.1;have j:=u.o.q;omega)).m ?_;rintro z w9 ⟨v9,rfl,h,j⟩;rw[eQ]at h;obtain⟨A9,c9,T,-⟩:=h.slice;obtain⟨n9,Q⟩:=rk (((I.take (i+1)++S::I.drop (i+1)).map aP).length);rw[Q]at T;subst T;clear Q;obtain⟨⟨-,y9⟩,-,f9⟩:=af (j.heap (qt c.o.d e.o.1) (fun q f=>t.o.1.own.2.1 2 0 a q (by decide) f (t.o.1.2.1 q)));have q:=AD h j;clear h j;go_wp2_with fail
  first|refine ew (du rfl _ _ _) rfl ?_|refine dj (du rfl _ _ _) rfl ?_
  obtain⟨a1,a2,f,a4,T,a6,h,a8,a9,S9,XC,Q,U⟩:=t.o;unfold qW;rw[rW f h C.o.d.1 C.o.2.1];have j:=pO (r:=S) a1 a2 f a4 T a6 h u.o.1 (Nat.le_of_lt u.o.q.1) (oT u.o.d.1) u.o.2.1 u.o.d.1 a8 a9 S9 XC Q U s.o D.o.2 D.o.1 (by rw[e.o.t];exact c.o.d.m (Nat.le_of_eq e.o.d.1.symm)) q.o.2 q.o.1;exact⟨rfl,j⟩
theorem xV(w:World)(d a i o:Nat)(x k:ND)(F:Nat->Nat->Prop)(h:aB w (d+1) a x F)(V: ∀j u,F j u->j<w.heap.size)(q:x.ks[i]?=some k)(Y:i<=x.ps.length)(M:x.ps.length<=1000)(a3:x.ks.length<=1000)
  (m:k.ps.length=2*o) (ap:d≠0->k.ks.length=2*o+1) (ho:2<=o) (cj:o<=16):
  Calls prog 178 #[rv a,rm i,rm o] w (qW d a i o x F w):=by
 obtain⟨_,vp,vk,c,H,r,_⟩:=h.open_;have am:=r;obtain⟨_,_,g3,g4,g5,g6,_⟩:=am;have a2:=(aw.1 q).1;obtain⟨l,s⟩: ∃l,c[i]?=some l:=⟨_,ao (by omega)⟩;obtain⟨C,VG,S8,g,I,G,W⟩:=(show aB w d l k (H (i+3))from g6 i l k s q).open_;have a':=G;obtain⟨_,_,O,J,k5,_,_⟩:=a';obtain⟨A,cp,rfl,_⟩:=g3.slice;obtain⟨bk,Q,R,rfl,_,_,r2⟩:=g4.ptr s;obtain⟨v,rfl⟩: ∃v,o=v+1:=⟨o-1,by omega⟩;obtain⟨p0,z⟩: ∃p,k.ps[v]?=some p:=⟨_,ao (by omega)⟩;obtain⟨S,Z,P,t,B,K,X,U⟩:=O.parts (by simp;omega);obtain⟨a4,a0,a1,ad,_,_,r4,r5,_⟩:=O.pair z;have e2:=t.symm.x ad;simp only[fa,ix,fi,nw,true_and,and_true]at e2;obtain⟨⟨rfl,rfl⟩,rfl⟩:=e2;have ac:(k.ps.map ay).length=k.ps.length:=fa _;rw[ac]at t B X U;have E:=X v (by omega);have y:=U (v+1) (by omega);rw[<-mc]at E;rw[<-lx]at y;have mI:(x.ps.map ay).length=x.ps.length:=fa _;rw[mI]at r
 cases d with
 |zero=>
  have L:=C rfl;have b:g=[]:=de (by rw[k5,L];rfl);subst b;obtain⟨D,p,n,_⟩:=J.slice;have b:S8=.slice D 0 p:=by simpa using n
  subst b
  exact Ih w 0 a i (v+1) v l k.ps.length P S Z x.ps.length cp bk Q R c.length A x k F _ _ c [] H I D p r V q s Y G W C m ho cj rfl rfl rfl (by omega) M t m B K rfl r2 p0 z r4 r5
   _ _ (fun _ _=>True) (fun _ _=>False) (E.m fun j u b=>b) (y.m fun j u b=>b) (by rw[List.take_nil,kb];exact aG.mono (F:=I 2) (by simpa using J) (fun j u b=>⟨b,trivial⟩)) (by rw[List.drop_nil,kb];exact aG.nil 1 169 w _) (fun j u f e=>by have:=f.2;have:=e.2;omega) (fun _ _ _ h=>h)
 |succ d=>
  have XE:=ap (by omega);obtain⟨b2,o2,p,n,N,aa,q1,T⟩:=J.parts (by simp;omega);have VT:(g.map aP).length=g.length:=fa _;rw[VT]at n N q1 T;have L:=q1 (v+1) (by omega);have D:=T (v+1) (by omega);rw[<-mc]at L;rw[<-lx]at D;rw[Nat.mul_one]at D
  exact Pq w (d+1) a i (v+1) v l k.ps.length P S Z x.ps.length cp bk Q R c.length A x k F _ _ c g H I b2 o2 g.length p (by omega) N aa r V q s Y G W C m ho cj rfl rfl rfl (by omega) M t m B K n r2 p0 z r4 r5
   _ _ _ _ (E.m fun j u b=>b) (y.m fun j u b=>b) (L.m fun j u b=>b) (D.m fun j u b=>b) (fun j u f e=>by have:=f.2;have:=e.2;omega) (fun j u f e=>by have:=f.2;have:=e.2;omega)
def Sy(p:Pr):Value:=.agg #[r7 p.1,r7 p.2]
def Ij(d a:Nat)(y:ND)(F:Nat->Nat->Prop)(r:Option (List UInt8))(w:World)(e:Ending)(w':World):Prop:=
 e=.returned (.tuple #[.string ⟨(r.getD []).toArray⟩,.bool r.isSome])/\aB w' d a y (fun b q=>F b q\/w.heap.size<=b)/\OnlyC F w w'
theorem KC(w:World)(d a o:Nat)(x:ND)(F:Nat->Nat->Prop)(p:Pr)(old:List UInt8)(s:aB w d a x F)(j: ∀n r,F n r->n<w.heap.size)(m:Up x.ps)(A:x.ps.length<=1000)(b:hit p.1 x.ps=true)(h:x.ps[posOf p.1 x.ps]?=some (p.1,old)):
  Calls prog 177 #[rv a,Sy p,rm o] w (Ij d a (.mk (x.ps.take (posOf p.1 x.ps)++p::x.ps.drop (posOf p.1 x.ps+1)) x.ks) F (some old) w):=by
 unfold Sy;obtain⟨e,c⟩:=rj w (sh p.1.toArray p.2.toArray);have f:=s.below e;go_enter func177,ntmps177;go_upto_region 1 with fail;generalize w.alloc (sh p.1.toArray p.2.toArray)=g at e c f⊢;obtain⟨P,l⟩:=rk (w.heap.size);rw[l]at c⊢;have i:=al (find_ok g F a x p.1 f.base m A);rw[b]at i;obtain⟨G,g⟩:=rk (posOf p.1 x.ps);rw[g]at i h⊢;have D:=al g;have k:=AI e c f l;obtain⟨u,z⟩:=fA c;clear s e c f l b g m;go_wp2_with fail;refine i.o.m ?_;rintro e v ⟨rfl,g⟩;have y:=k.o.d.1.below g;have q:=qt g k.o.2.1;clear i u z;obtain⟨l,N,vk,L,H,f,C⟩:=y.open_;obtain⟨n,t,c,rfl,Y,R,T,M,f0,U⟩:=f.2.2.1.pair h;obtain⟨⟨X,-⟩,-,-⟩:=af f.1;obtain⟨u,z⟩:=fA q;have i:=f.2.2.1.Xi (v':=p.2) h;have E:=AM g l f i j;have I:=(aw.1 h).1;have S:(0:Int)<=(G:Int):=by omega
 have Q:(G:Int)<(x.ps.length:Int):=by omega
 have J: ¬P=n:=by obtain⟨b',V,c',O,m,z2,z3,W,z6,z7,B,Z⟩:=f.2.2.1.lies (by simp;omega);simp only[fa,ix,fi,nw,and_true]at m;obtain⟨⟨rfl,rfl⟩,_⟩:=m;have:=j _ _ (f.own.1 1 _ _ (B t (b8 _) (by omega)));have:=k.o.t;omega
 have K:=al h;clear y q g l f C i h j;go_wp2_with fail
 go_region
 go_wp2_with fail
 go_ret2
 obtain⟨g,l,f,i,j⟩:=E.o;rw[D.o];have h:=k.o.1.x (g.m k.o.1.size);have y: ∀n r,F n r->n<v.heap.size:=fun n r b=>da (j n r b) h.size;have q:=f.pP (w':=v.setCell ⟨n,t+G*2+1,none⟩ (r7 p.2)) l y (i.2.heap f.1 (fun r b=>f.own.2.1 1 0 a r (by decide) b (f.2.1 r))) (i.2.m (fun _ _ _ b=>.inl b)) (i.1.m (fun _ _ b=>.inl b));have m:(p.1,p.2)=p:=rfl;rw[m]at q;refine⟨rfl,(aB.only ((OnlyC.refl (fun _ _=>False) _).drew) q.1 (fun _ _ _ s=>s)).m (fun n r b=>b.imp id (fun s=>dd h.size s)),((oS h F).x q.2 (fun _ _ _ s=>s)).drew⟩
theorem Ps(w:World)(a o:Nat)(x:ND)(F:Nat->Nat->Prop)(p:Pr)(C:aB w 0 a x F)(j: ∀u q,F u q->u<w.heap.size)(k:Up x.ps)(D:x.ps.length<=1000)(b:hit p.1 x.ps=false):
  Calls prog 177 #[rv a,Sy p,rm o] w (Ij 0 a (.mk (x.ps.take (posOf p.1 x.ps)++p::x.ps.drop (posOf p.1 x.ps)) []) F none w):=by
 unfold Sy;obtain⟨d,c⟩:=rj w (sh p.1.toArray p.2.toArray);have h:=C.below d;go_enter func177,ntmps177;go_upto_region 1 with fail;generalize w.alloc (sh p.1.toArray p.2.toArray)=e at d c h⊢;obtain⟨R,i⟩:=rk (w.heap.size);rw[i]at c⊢;have f:=al (find_ok e F a x p.1 h.base k D);rw[b]at f;have e:=eT p.1 x.ps;obtain⟨S,g⟩:=rk (posOf p.1 x.ps);rw[g]at f e;have P:=al g;have m:=AM d c h i j;obtain⟨l,n⟩:=fA c;clear C d c h i b g k j;go_wp2_with fail;refine f.o.m ?_;rintro B j ⟨rfl,c⟩;have A:=m.o.d.1.below c;have k:=qt c m.o.2.1;have s:=m.o.1.x (c.m m.o.1.size);have v: ∀u q,F u q->u<j.heap.size:=fun u q b=>da (m.o.q u q b) s.size;have E: ∀q,¬F R q:=fun q b=>by have:=m.o.q R q b;have:=m.o.t.1;omega
 clear f l n;obtain⟨i,U,O,M,T,g,y⟩:=A.open_;have n:=i rfl;have d:M=[]:=de (by rw[g.2.2.2.2.1,n];rfl);subst d;obtain⟨X,Z,t,-⟩:=g.2.2.1.slice;rw[fa]at t;subst t;obtain⟨I,L,d,-⟩:=g.2.2.2.1.slice;have d:O=.slice I 0 L:=by simpa using d
 subst d;obtain⟨Y,f⟩:=rk (x.ps.length);rw[f]at g D e;obtain⟨⟨-,l⟩,-,-⟩:=af g.1;have r:=al (ek j a L I l);have d:=BE g.1 g s v E k n f e;clear A k c s v E i y n l f e;go_wp2_with fail;refine r.o.m ?_;rintro B V ⟨rfl,rfl⟩;clear r;go_upto_region 7 with fail;have i:=fA d.o.q.2.1;refine pt (S:=(fun W=>W.cell? ⟨R,0,none⟩=some (r7 p.1)/\W.cell? ⟨R,1,none⟩=some (r7 p.2))) (by kernel_rfl) i (fun c=>?_);generalize e:World.drew j=k at c⊢;have f:=al (show Below j.heap.size j k from e▸(bd _ _).drew);clear e i;refine bj [0,1,2,3,5,6] ?_
 iterate 6 (refine dZ (v:=?_) (fun _ ⟨N,Q⟩=>?_) c ?_;rotate_left;(go_simp;try rfl);try simp only[xr])
 refine bq ?_;refine qe (rs:=[4,7]) (by kernel_rfl) (by simp) (cX (i:=4) rfl (fun K e=>?_) (cX (i:=7) rfl (fun K e=>?_) ph))
 focus
  obtain⟨⟨z,-⟩,-,-⟩:=af (qt f.o d.o.1);go_simp;refine e.o _ _ (c) ?_;clear e K c z;intro c
  try simp only[xr]
  refine bA 7 (fun K e=>?_);go_simp;refine e.o _ _ (mn c (ae _ _)) ?_;clear e K c;intro c
  try simp only[xr]
  obtain⟨l,i⟩:=rj k (sh p.1.toArray p.2.toArray);generalize k.alloc (sh p.1.toArray p.2.toArray)=H at i l c⊢;obtain⟨r,y⟩:=rk (k.heap.size);rw[y]at i⊢;have G:=AD i (show j.heap.size<=r by have h:=f.o.size;omega);have f:=al (f.o.x (l.m f.o.size));clear i l y
 rotate_left
 focus
  go_simp;refine e.o _ _ (mn c (ae _ _)) ?_;clear e K c;intro c
  try simp only[xr]
  obtain⟨l,i⟩:=rj k (sh p.1.toArray p.2.toArray);generalize k.alloc (sh p.1.toArray p.2.toArray)=H at i l c⊢;obtain⟨r,y⟩:=rk (k.heap.size);rw[y]at i⊢;have G:=AD i (show j.heap.size<=r by have h:=f.o.size;omega);have f:=al (f.o.x (l.m f.o.size));clear i l y;refine bA 4 (fun K e=>?_);obtain⟨⟨z,-⟩,-,-⟩:=af (qt f.o d.o.1);go_simp;refine e.o _ _ (c) ?_;clear e K c z;intro c
  try simp only[xr]
 all_goals
  refine bA 8 (fun K e=>?_);go_simp;refine(jw H (T 1) _ (x.ps.map ay) S _ rfl (ay p) r (d.o.2.1.2.2.1.only (ri f.o) (fun _ _ _ C=>C)) (by rw[fa,d.o.q.t.1];exact d.o.q.q) (by rw[fa,d.o.q.t.1];exact D) (by rfl) (by simp[ay,Value.oneCell']) (dL _) G.o.1 (fun q b=>by have h:=d.o.t.1 r q (d.o.2.1.own.1 1 r q b);have A:=G.o.2;omega)).m ?_;rintro B G ⟨W,rfl,k,H⟩;rw[eQ]at k;obtain⟨y,r,i,-⟩:=k.slice;obtain⟨l,J⟩:=rk (((x.ps.take S++p::x.ps.drop S).map ay).length);rw[J]at i;subst i;clear J;have i:=AD k H;clear k H
  try go_simp
  refine e.o _ _ (dF c i.o.2 (fun b=>d.o.q.1 _ (d.o.2.1.own.1 1 _ _ b)) (fun b=>d.o.q.1 _ (d.o.2.1.own.1 1 _ _ b))) ?_;clear e K c;intro c
  try simp only[xr]
  refine bj [9,10] ?_
  iterate 2 (refine dZ (v:=?_) (fun _ ⟨N,Q⟩=>?_) c ?_;rotate_left;(go_simp;try rfl);try simp only[xr])
  refine bq ?_;refine bA 11 (fun K e=>?_);obtain⟨⟨z,-⟩,k,-⟩:=af (i.o.2.heap (qt f.o d.o.1) (fun q b=>d.o.2.1.own.2.1 1 0 a q (by decide) b (d.o.2.1.2.1 q)));go_simp;refine e.o _ _ (dF c (OnlyC.aR _ a 0 _) (fun B=>d.o.q.1 0 (by have t:=B.1;rw[t];exact d.o.2.1.own.1 0 a 0 (d.o.2.1.2.1 0))) (fun B=>d.o.q.1 0 (by have t:=B.1;rw[t];exact d.o.2.1.own.1 0 a 0 (d.o.2.1.2.1 0)))) ?_;clear e K c z k;intro c
  try simp only[xr]
  refine pw (by kernel_rfl) ?_ _;go_wp2_with fail
  go_ret2
  rw[P.o];obtain⟨z,g,s,v,E,-,n,-,-⟩:=d.o;have k:=qt f.o z;have J:=((oS f.o (fun u q=>T 1 u q\/u=a)).x i.o.2 (fun u q _ b=>.inl b)).x (OnlyC.aR G a 0 (.slice y l r)) (fun u q _ B=>.inr B.1);have H:=(i.o.1.only (OnlyC.aR G a 0 (.slice y l r)) (fun u q b B=>b.elim (fun h=>g.own.2.2 1 u q (by decide) h B.1) (fun h=>by have A:=v a 0 (g.own.1 0 a 0 (g.2.1 0));have e:=f.o.size;have K:=B.1;omega))).m (fun u q b=>b.imp id (fun C=>dd f.o.size C));have e:=g.pP (fun _=>n) v (ju (i.o.2.heap k (fun q b=>g.own.2.1 1 0 a q (by decide) b (g.2.1 q))) (.slice y l r)) J H;rw[n]at e;exact⟨rfl,e.1.m (fun u q b=>b.imp id (fun C=>dd s.size C)),(oS s F).x e.2 (fun _ _ _ C=>C)⟩
theorem Ik{α:Type}{l:List α}{i:Nat}(hi:i<l.length)(x:α)(j:Nat):(l.take i++x::l.drop (i+1))[j]?=if j=i then some x else l[j]?:=by
 rw[List.getElem?_append];by_cases c:j<i
 ·rw[ff (by simp;omega),fb (by omega),lP,ff c]
 ·rw[fb (by simp;omega),im,oe (by omega)];by_cases e:j=i
  ·subst e;simp
  ·rw[fb e,show j-i=(j-i-1)+1 by omega,List.getElem?_cons_succ,mw];congr 1;omega
theorem aaG{α:Type}{l:List α}{i:Nat}(hi:i<l.length)(y:α):(l.take i++y::l.drop (i+1))[i]?=some y:=by rw[Ik hi,ff rfl]
theorem aY.below{w w':World}{d a:Nat}{x:ND}{F:Nat->Nat->Prop}{e f:Value}{c:List Nat}{H:Nat->Nat->Nat->Prop}(h:aY w (bY w d) a x F e f c H)(m:Below w.heap.size w w'):aY w' (bY w' d) a x F e f c H:=by have b:=ri m;obtain⟨p,g,n,j,l,o,i⟩:=h;exact⟨b.heap p (fun _ h=>h),g,n.only b (fun _ _ _ h=>h),j.only b (fun _ _ _ h=>h),l,fun t r s q k=>(o t r s q k).only b (fun _ _ _ h=>h),i⟩
def VU(d o:Nat)(p:Pr):Prop:= ∀(w:World) (b a:Nat) (x:ND) (F:Nat->Nat->Prop),aB w d b x F->(∀c q,F c q->c<w.heap.size)->fD d o a (2*o-1) x->Up (aZ d x)->
 Calls prog 177 #[rv b,Sy p,rm o] w (Ij d b (ik d x p o) F (look p.1 (aZ d x)) w)
theorem xW{W a:World}{F:Nat->Nat->Prop}{g e f j i h d c:Nat}{v1 v2 v3 v4:Value}(o:W.cell? ⟨g,e,none⟩=some v1/\W.cell? ⟨f,j,none⟩=some v2/\W.cell? ⟨i,h,none⟩=some v3/\W.cell? ⟨d,c,none⟩=some v4)(b:OnlyC F W a)(m: ¬F g e)(k: ¬F f j)(l: ¬F i h)(n: ¬F d c):a.cell? ⟨g,e,none⟩=some v1/\a.cell? ⟨f,j,none⟩=some v2/\a.cell? ⟨i,h,none⟩=some v3/\a.cell? ⟨d,c,none⟩=some v4:=
 ⟨b.cell o.1 m,b.cell o.2.1 k,b.cell o.2.2.1 l,b.cell o.2.2.2 n⟩
theorem XF(w:World)(d a o lo:Nat)(x:ND)(F:Nat->Nat->Prop)(p:Pr)(h:VU d o p)(e:2<=o)(cj:o<=16)(u:aB w (d+1) a x F)(l: ∀B s,F B s->B<w.heap.size)(b:fD (d+1) o lo (2*o-1) x)(c:Up (aZ (d+1) x))(f:hit p.1 x.ps=false):
  Calls prog 177 #[rv a,Sy p,rm o] w (Ij (d+1) a (ik (d+1) x p o) F (look p.1 (aZ (d+1) x)) w):=by
 have m:=xm b c;have W:x.ps.length<=1000:=by have:=b.len;omega
 have g:=AM b c f h e;clear h b c e;unfold Sy;obtain⟨c,b⟩:=rj w (sh p.1.toArray p.2.toArray);have e:=u.below c;go_enter func177,ntmps177;go_upto_region 1 with fail;generalize w.alloc (sh p.1.toArray p.2.toArray)=i at c b e⊢;obtain⟨P,k⟩:=rk (w.heap.size);rw[k]at b⊢;have h:=al (find_ok i F a x p.1 e.base m W);rw[f]at h;have i:=eT p.1 x.ps;obtain⟨t,j⟩:=rk (posOf p.1 x.ps);rw[j]at h i;have S:=al j;have r:=AM c b e k l;obtain⟨v,q⟩:=fA b;clear u c b e k f j m l;go_wp2_with fail;refine h.o.m ?_;rintro e D ⟨rfl,j⟩;have X:=r.o.d.1.below j;have O:=qt j r.o.2.1;have z:=r.o.1.x (j.m r.o.1.size);have L: ∀B s,F B s->B<D.heap.size:=fun B s f=>da (r.o.q B s f) z.size;have Y: ∀s,¬F P s:=fun s f=>by have:=r.o.q P s f;have:=r.o.t.1;omega
 clear h v q;obtain⟨ac,vp,vk,R,H,h,hT⟩:=X.open_;have aa:=g.o.1.kids;have k:t<x.ks.length:=by omega
 obtain⟨M,Q⟩: ∃M,x.ks[t]?=some M:=⟨_,ao k⟩;obtain⟨l,C⟩: ∃l,R[t]?=some l:=⟨_,ao (by rw[h.2.2.2.2.1];exact k)⟩;obtain⟨A,c,K,-⟩:=h.2.2.1.slice;rw[fa]at K;subst K;obtain⟨J,E,V,b,-,-,U⟩:=h.2.2.2.1.ptr C;subst b;obtain⟨y,m⟩:=rk (R.length);rw[m]at h;have ad:t<y:=by rw[<-m,h.2.2.2.2.1];exact k
 have E6:y<=1001:=by rw[<-m,h.2.2.2.2.1];omega
 obtain⟨n,G⟩:=rk (x.ps.length);rw[G]at h W i;obtain⟨⟨-,N⟩,-,-⟩:=af h.1;have Z:=al (fy D a y V _ (by omega) N)
 have I:H 2 J (E+t):=by obtain⟨b',o',c',cs,K,q2,q3,q4,q6,q7,q8,q9⟩:=h.2.2.2.1.lies (by rw[fa];omega);simp only[fa,ix,fi,nw,and_true]at K;obtain⟨⟨rfl,rfl⟩,-,rfl⟩:=K;rw[fa]at q2;exact q8 _ (by omega) (by omega)
 obtain⟨v,q⟩:=fA O;have T:=xT N U v q;have b:=BT h z L Y Q C G I k i;have i1:(0:Int)<=(t:Int):=by omega
 have i2:(t:Int)<(y:Int):=by omega
 clear X O j z L Y ac hT N G i h Q C k aa m I U v q;go_wp2_with fail;refine Z.o.m ?_;rintro e w3 ⟨rfl,rfl⟩;clear Z;go_upto_region 9 with fail;refine pt (S:=(fun h=>h.cell? ⟨a,1,none⟩=some (.slice (some ⟨J,E,none⟩) y V)/\h.cell? ⟨J,E+t,none⟩=some (rv l)/\h.cell? ⟨P,0,none⟩=some (r7 p.1)/\h.cell? ⟨P,1,none⟩=some (r7 p.2))) (by kernel_rfl) T (fun q=>?_);generalize h:World.drew D=G at q⊢;have i:=al (show aY G (aB G d) a x F (.slice A n c) (.slice (some ⟨J,E,none⟩) y V) R H/\Below D.heap.size D G from h▸⟨aY.below (d:=d+1) b.o.1 (bd _ _).drew,(bd _ _).drew⟩);clear h T;refine bj [0,1,2,3,4,5,6,7,8] ?_
 iterate 9 (refine dZ (v:=?_) (fun _ ⟨Y,z,v,C⟩=>?_) q ?_;rotate_left;(go_simp;try rfl);try simp only[xr])
 refine bq ?_;refine bA 9 (fun I m=>?_);go_simp;refine(g.o.t.1 G l _ M (H (t+3)) (i.o.1.2.2.2.2.2.1 t l M b.o.q.2.1 b.o.q.1) (fun B s f=>da (b.o.d.1 B s (b.o.1.own.1 _ B s f)) i.o.2.size) (g.o.1.2.2.2 M (db b.o.q.1)) (Up.kid g.o.1.kids (by have u:=g.o.2.1;rwa[<-dU x]at u) b.o.q.1)).m ?_;rintro e wn ⟨rfl,j,h⟩;have L:=AD j h;clear j h;obtain⟨Y,h⟩:=rk ((⟨((look p.1 (aZ d M)).getD []).toArray⟩:ByteArray));obtain⟨b0,j⟩:=rk ((look p.1 (aZ d M)).isSome);rw[h,j];have O:=AD h j;clear h j
 try go_simp
 refine m.o _ _ (xW q L.o.2 (b.o.1.own.2.1 0 (t+3) a 1 (by omega) (b.o.1.2.1 1)) (b.o.1.own.2.1 2 (t+3) J (E+t) (by omega) b.o.q.t.1) (fun f=>b.o.t.1 0 (b.o.1.own.1 _ _ _ f)) (fun f=>b.o.t.1 1 (b.o.1.own.1 _ _ _ f))) ?_;clear m I q;intro q
 try simp only[xr]
 refine bj [10,11,12,13,14] ?_
 iterate 5 (refine dZ (v:=?_) (fun _ ⟨Y,z,v,C⟩=>?_) q ?_;rotate_left;(go_simp;try rfl);try simp only[xr])
 refine bq ?_;refine pw (by kernel_rfl) ?_ _;obtain⟨N,U,-,-⟩:=q;have j:=i.o.1.Ka (fun B s f=>da (b.o.d.1 B s f) i.o.2.size) b.o.q.1 b.o.q.2.1 L.o.2 L.o.1;have C:=rI g.o.q p (g.o.1.2.2.2 M (db b.o.q.1)) (Up.kid g.o.1.kids (by have u:=g.o.2.1;rwa[<-dU x]at u) b.o.q.1);obtain⟨am,aa,E7,H3,I,-,Q,-⟩:=L.o.1.base;obtain⟨A3,c3,h,-⟩:=Q.slice;rw[fa]at h;subst h;obtain⟨T,m⟩:=rk ((ik d M p o).ps.length);rw[m]at I;have TI:=C.2.len.2;rw[m]at TI;obtain⟨⟨z3,-⟩,-,-⟩:=af I;have z:look p.1 (aZ (d+1) x)=look p.1 (aZ d M):=by rw[<-dU x];exact Cv g.o.1.kids (by have u:=g.o.2.1;rwa[<-dU x]at u) g.o.d.1 (by rw[S.o];exact b.o.q.1)
 have h:=JY (d:=d) (o:=o) (ps:=x.ps) (ks:=x.ks) (k:=M) g.o.d.1 (by rw[S.o];exact b.o.q.1);rw[dU,S.o,m]at h;have v:=AM j C m z h;clear j C I Q m z h;have io:(2:Int)<=(o:Int):=by have:=g.o.q;omega
 have ac:(o:Int)<=16:=by omega
 by_cases Q:2*o-1<T
 ·have i3:2*(o:Int)-1<(T:Int):=by omega
  have I:=al Q;clear Q;go_wp2_with fail;have X:w.heap.size<=G.heap.size:=dd b.o.2.1.size i.o.2.size;have k:=b.o.q.q.1;have mU:=g.o.1.kids;have VT:=g.o.1.len.2;refine(xV wn d a t o _ (ik d M p o) _ v.o.1.1.bound (fun B s f=>f.2) (aaG k _) (by show t<=x.ps.length;omega) (by show x.ps.length<=1000;omega) (by show(x.ks.take t++ik d M p o::x.ks.drop (t+1)).length<=1000;simp;omega) (by rw[v.o.d.1];have:=I.o;omega) (fun G=>?_) g.o.q cj).m ?_
  ·obtain⟨G,rfl⟩: ∃G,d=G+1:=⟨d-1,by omega⟩;rw[v.o.2.1.2.kids,v.o.d.1];have:=I.o;omega
  rintro e w5 ⟨rfl,Z,G⟩;have H5:=AD Z G;clear Z G;go_wp2_with fail
  go_ret2
  obtain⟨j,C,m,z,h⟩:=v.o;rw[ff I.o]at h;rw[h];refine⟨by rw[<-O.o.1,<-O.o.2,<-z];rfl,H5.o.1.m (fun B s f=>?_),((oS (b.o.2.1.x (i.o.2.m b.o.2.1.size)) F).x j.2 (fun _ _ _ u=>u)).x H5.o.2 (fun B s G f=>f.1.elim id (fun u=>by omega))⟩;rcases f with f|f
  ·exact f.1.imp id (fun u=>dd X u)
  ·exact .inr (dd X (dd L.o.2.size f))
 ·have i3: ¬2*(o:Int)-1<(T:Int):=by omega
  have I:=al Q;clear Q;go_wp2_with fail
  go_ret2
  obtain⟨j,C,m,z,h⟩:=v.o;rw[fb I.o]at h;rw[h];exact⟨by rw[<-O.o.1,<-O.o.2,<-z];rfl,j.1.m (fun B s f=>f.imp id (fun u=>dd b.o.2.1.size (dd i.o.2.size u))),((oS (b.o.2.1.x (i.o.2.m b.o.2.1.size)) F).x j.2 (fun _ _ _ u=>u))⟩
theorem Pv{o:Nat}(j:2<=o)(i:o<=16)(p:Pr): ∀h,VU h o p
 |0=>fun w n k x F m e b c=>by
  have q:=b.none;have g:=xm b c;have f:x.ps.length<=1000:=by have:=b.len;omega
  by_cases a:hit p.1 x.ps=true
  ·obtain⟨v,d⟩:=gh a;have:=KC w 0 n o x F p v m e g f a d;rw[q]at this
   have l:ik 0 x p o=.mk (x.ps.take (posOf p.1 x.ps)++p::x.ps.drop (posOf p.1 x.ps+1)) []:=by show ND.mk (Cr x.ps p) []=_;unfold Cr;rw[ff a]
   rw[l,show look p.1 (aZ 0 x)=some v from tj d];exact this
  ·simp only[Bool.not_eq_true]at a;have:=Ps w n o x F p m e g f a
   have l:ik 0 x p o=.mk (x.ps.take (posOf p.1 x.ps)++p::x.ps.drop (posOf p.1 x.ps)) []:=by show ND.mk (Cr x.ps p) []=_;unfold Cr;rw[fb (by simp[a])]
   rw[l,show look p.1 (aZ 0 x)=none from Ej a];exact this
 |h+1=>fun w n k x F m e b c=>by
  have g:=xm b c;have f:x.ps.length<=1000:=by have:=b.len;omega
  by_cases a:hit p.1 x.ps=true
  ·obtain⟨v,d⟩:=gh a;have:=KC w (h+1) n o x F p v m e g f a d;have l:=Eb (d:=h) (o:=o) (ps:=x.ps) (ks:=x.ks) a;rw[dU]at l;rw[l]
   have q:look p.1 (aZ (h+1) x)=some v:=by rw[<-dU x]at c⊢;exact wU b.kids c a d
   rw[q];exact this
  ·simp only[Bool.not_eq_true]at a;exact XF w h n o k x F p (Pv j i p h) j i m e b c a
end Go.Proofs.YtehccbdajiiaaaaGreatDoor
