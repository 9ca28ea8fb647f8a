import Derived.Test.YtehccbdajiiaaaaGreatDoorP26
namespace Go.Proofs.YtehccbdajiiaaaaGreatDoor
open Go.Proofs.Tryz
set_option maxRecDepth 100000
set_option maxHeartbeats 16000000
open Go.RowKit
section
open Go.RowKit Go.Maps Go.WideShapes
theorem Ie(k:List UInt8)(wl:nS)(l:az):jW k wl l=(ay k wl).getD (ay k l):=by unfold jW;cases ay k wl<;>rfl
theorem jY{wl:nS}{l:az}(a:dK wl)(h:dK l)(k:List UInt8):jW k wl l=ay k (aY wl l):=by rw[Ie,dG a h]
section
variable{P:Program}{w w':World}{K:TypeId}{b n:Nat}{g:Value->Option Value}
theorem bW.PB(h:bW P w K b n g)(L:Keyed P K){t e:TypeId}(x:P.underlying t=some (.map K e))(u:n<maxLen){key val:Value}{a:Lit}(c:keyOf P K key=some a):
  ∃w',(Instr.mapUpdate t (.map (some b)) key val).run P w=.ok () w'/\bW P w' K b (if(g key).isSome then n else n+1) (nX g key (some val))/\Only (fun k=>k=b) w w':=by
 obtain⟨D,h,z⟩:=h;obtain⟨w',o,p,y⟩:=h.store L x u c (show qg val=some (.held val,[])from rfl);refine⟨w',o,⟨D.put a (.held val),?_,fun v l d=>?_⟩,(Only.of_grownBy y.grown).m (fun i _ e=>by injection e with e;exact e.symm)⟩
 ·have i:=size_put (h.tidy L) (k:=a) (.held val);rw[(z key a c).1]at i;have A:=h.size_le;obtain⟨f,m,q,s,B,j⟩:=p;refine⟨f,m,q,s,?_,j⟩;have r:Maps.size (D.put a (.held val))=f.size:=by rw[j];simp[Maps.size,length_sorted]
  rw[<-r,i];split<;>omega
 ·by_cases e:v=key
  ·subst e;have:l=a:=eC (d.symm.x c);subst this;rw[pC];exact⟨has_put_same h.isMap (L.key c) _,fun j=>atKey_put_same h.isMap (L.key c) _ _⟩
  ·have f:l≠a:=fun i=>e (L.inj (by rw[<-i];exact d) c);rw[nB _ _ e,has_put_other f];exact⟨(z v l d).1,fun j=>by rw[atKey_put_other f];exact(z v l d).2 j⟩
end
section
variable{P:Program}(w:World){ops:Array Oper}{rest:List Oper}{o:Oper}{a:Act}{Q:Exit->Act->World->Prop}
theorem jG(j:o.guard=none)(m x v:Operand)(t:TypeId)(h:o.op=Op.mapUpdate t m x v){K e:TypeId}(L:Keyed P K)(A:P.underlying t=some (.map K e)){b n:Nat}{g:Value->Option Value}
  (p:a.eval m=.map (some b)) (d:bW P w K b n g) (z:n<maxLen) {key val:Value} {u:Lit} (s:a.eval x=key) (r:a.eval v=val) (c:keyOf P K key=some u)
  (y: ∀w',bW P w' K b (if(g key).isSome then n else n+1) (nX g key (some val))->Only (fun k=>k=b) w w'->wpList P ops Q rest (a.put o.dst undef) w'):wpList P ops Q (o::rest) a w:=by
 refine wpList_plain j fun f i=>?_;obtain⟨w',f,q,l⟩:=d.PB L A z (val:=val) c;unfold Oper.wp;simp[execOp,h,p,s,r,f,Result.andThen];exact i _ _ (y w' q l)
end
theorem Y4.ET{w:World}{FR:Nat->Prop}{a:Option Value}{b:Option (Option Rw)}(h:Y4 w FR a b):a.isSome=b.isSome:=by
 match a,b,h with
 |none,none,_=>rfl
 |some _,some _,_=>rfl
theorem mP.PC{w:World}{B T o m n:Nat}{most:Int}{l:az}{wl:nS}{FT:Nat->Nat->Prop}{g:Value->Option Value}{FR:Nat->Prop}(h:mP w B T most o l wl FT m n g FR)(k:List UInt8):(g (sd k)).isSome=true↔k∈wl.map Prod.fst:=by rw[(h.wr k).ET];exact wC h.up k
theorem mP.Tk{w:World}{B T o m n:Nat}{most:Int}{l:az}{wl:nS}{FT:Nat->Nat->Prop}{g:Value->Option Value}{FR:Nat->Prop}(h:mP w B T most o l wl FT m n g FR): ∀k∈wl.map Prod.fst,1<=k.length/\k.length<=16:=by intro k a;obtain⟨q,b,rfl⟩:=eh.1 a;exact h.key q b
theorem nJ(wl:nS)(l:az): ∀a:List (List UInt8),-(a.length:Int)<=kI wl l a/\kI wl l a<=a.length
 |[]=>⟨eE _,eE _⟩
 |k::a=>by
  have b:=nJ wl l a
  have h: -1<=kI wl l [k]/\kI wl l [k]<=1:=by
   unfold kI dQ;simp only[kI];split
   ·split<;>split<;>simp
   ·simp
  have e:=wH wl l k a [];simp only[fm]at e;simp only[jj];omega
def aaS(w:World)(m r c:Nat)(g:Value->Option Value)(wl:nS)(l:az)(v:Value)(b:World):Prop:=
 ∃a,nY b m r c g a/\(∀k∈a,k∈wl.map Prod.fst)/\a.length<=wl.length/\v=.int .i64 (((aY wl l).length:Int)-kI wl l a)/\Below w.heap.size w b/\w.heap.size<=r
theorem Bg(w:World)(B T o:Nat)(most:Int)(l:az)(wl:nS)(FT:Nat->Nat->Prop)(O:Nat->Prop)(r:iC w B T most o l wl FT O)(i:wl.length<=2305843009213693952):
  Calls prog 66 #[r7 B] w fun C w'=>C=.returned (rv ((aY wl l).length:Int))/\Below w.heap.size w w':=by
 obtain⟨m,n,g,FR,a,-,-,-⟩:=r;have c:=a.blk;have U:w.cell? ⟨B,0,none⟩=some (r7 T):=by simp[World.cell?,c]
 have R:w.cell? ⟨B,1,none⟩=some (.map (some m)):=by simp[World.cell?,c]
 have d:=wI (l:=l) a.up a.tab.up;have h:=a.tab.len;have f:=a.tab.J3;have H:=AS a d i h f.2;have e:=al (sZ w T o most l FT a.tab);clear a c d i h f;go_enter func66,ntmps66;go_wp2_with fail;refine e.o.m ?_;rintro C N ⟨rfl,rfl⟩;clear e;go_wp2_with (at_range;go_loud (refine lj _ rfl _ 138 rfl underlying138 rfl H.o.1.map (wl.map Prod.fst) (fun k _=>H.o.1.PC k) (gS H.o.1.up) (fun k a=>by have:=(H.o.1.Tk k a).2;unfold maxLen;omega) ?_);intro N c d;have e:=AI c d;clear c d)
 go_frame
 go_loopw [3] (fun v wr=>aaS w m w.heap.size n g wl l v wr) (fun _ wr=>wr.rangeLeft m w.heap.size)
 case atStart=>exact⟨_,e.o.1,fun k a=>a,by simp,by have:=H.o.2.1;congr 1;omega,e.o.2,b8 _⟩
 case round=>
  obtain⟨t,c,a,d,rfl,f,q⟩:=hrel
  rename World=>wr
  have e:=AN a d f q;clear a d f q;go_wp2_with (at_next;refine qh _ rfl _ rfl rfl c ?_ ?_)
  ·intro a;subst a;go_wp2_with fail;go_ret
   exact⟨by simp[kI],e.o.d.1⟩
  ·intro j i k v p f G y z E D P;have K:=H.o.1.Tk k (e.o.1 k (by rw[f];simp));have h:=H.o.1.wr k;rw[G]at h;have s:Below w.heap.size w p:=e.o.d.1.x (E.aI e.o.d.1.size (fun d a C=>by have:=e.o.t;omega))
   obtain⟨x,A⟩: ∃x,ay k wl=some x:=by
    cases hq:ay k wl with
    |none=>rw[hq]at h;exact h.elim
    |some x=>exact⟨x,rfl⟩
   rw[A]at h;have a:=qS s H.o.1.blk;have Q:p.cell? ⟨B,0,none⟩=some (r7 T):=by simp[World.cell?,a]
   clear a;have u:=wH wl l k i j;rw[<-f]at u;have F:kI wl l [k]=dQ l (k,x):=by simp[kI,A]
   rw[F]at u;have L:=nJ wl l (j++i);have I:=nJ wl l t;have J:=e.o.2.1;have d:=BE y z s u (show -(wl.length:Int)<=kI wl l t/\kI wl l t<=wl.length from by omega) D (show(∀M∈j++i,M∈wl.map Prod.fst)/\(j++i).length<=wl.length from⟨fun M a=>e.o.1 M (by rw[f];rcases dr.1 a with r|r<;>simp[r]),by have:=e.o.2.1;rw[f]at this;simp at this⊢;omega⟩);have a:=al (pJ p T o most l FT k (H.o.1.tab.below s) K);clear u F L I J y z s D E c f G;obtain⟨S,s⟩: ∃S:Int,((aY wl l).length:Int)-kI wl l t=S:=⟨_,rfl⟩;have f: -9000000000000000000<=S/\S<=9000000000000000000:=by have:=H.o.2.1;have:=H.o.d.1;have:=H.o.t.1;have:=H.o.q;have:=d.o.q.1;have:=wI (l:=l) H.o.1.up H.o.1.tab.up;have M:=nJ wl l (wl.map Prod.fst);rw[eS]at M;omega
   have c:((aY wl l).length:Int)-kI wl l (j++i)=S+dQ l (k,x):=by have:=d.o.t.1;omega
   rw[s];have E:=al c;have D:=al f;clear c s f;obtain⟨J,y⟩:=rl (ay k l);rw[y]at a;have F:dQ l (k,x)=if J.isSome then(if x.isSome then 0 else -1)else(if x.isSome then 1 else 0):=by unfold dQ;rw[y]
   rw[F]at E
   have s:=al (show ∀(f u:World) (z:Int),Below p.heap.size p f->Below f.heap.size f u->z=S+(if J.isSome then(if x.isSome then 0 else -1)else(if x.isSome then 1 else 0))->aaS w m w.heap.size n g wl l (rv z) u/\u.rangeLeft m w.heap.size<wr.rangeLeft m w.heap.size from by
    rintro f u z c L rfl;have I:=c.x (L.m c.size);have G:=ri I
    exact⟨⟨j++i,d.o.1.only G (fun r=>r) (fun r=>r),d.o.q.d.1,d.o.q.t,by rw[E.o],d.o.d.1.x (I.m d.o.d.1.size),b8 _⟩,by rw[d.o.1.left G (fun r=>r) (fun r=>r)];exact d.o.2.1⟩)
   obtain⟨v,rfl,u⟩: ∃z,v=.pointer z/\(x=none/\z=none\/ ∃b,x.isSome/\z=some b):=by
    cases x with
    |none=>exact⟨none,h.1,.inl ⟨rfl,rfl⟩⟩
    |some z=>obtain⟨⟨b,rfl,-⟩,-⟩:=h;exact⟨_,rfl,.inr ⟨_,rfl,rfl⟩⟩
   clear h A y F;obtain⟨⟨F,y,A,G⟩,q⟩: ∃z,J.getD .zero=z:=⟨_,rfl⟩;unfold l9 at a;rw[q]at a;clear q;unfold Rw.val at a;rcases u with⟨rfl,rfl⟩|⟨b,h,rfl⟩
   ·cases J with
    |some q=>go_wp2_with fail;refine a.o.m ?_;rintro C f ⟨rfl,c⟩;clear a;go_wp2_with fail;refine s.o _ _ _ c (af _ _) ?_;have:=D.o;simp;unfold wrap64;omega
    |none=>go_wp2_with fail;refine a.o.m ?_;rintro C f ⟨rfl,c⟩;clear a;go_wp2_with fail;exact s.o _ _ _ c (af _ _) (by simp)
   ·cases J with
    |some q=>go_wp2_with fail;refine a.o.m ?_;rintro C f ⟨rfl,c⟩;clear a;go_wp2_with fail;exact s.o _ _ _ c (af _ _) (by simp[h])
    |none=>go_wp2_with fail;refine a.o.m ?_;rintro C f ⟨rfl,c⟩;clear a;go_wp2_with fail;refine s.o _ _ _ c (af _ _) ?_;have:=D.o;simp[h];unfold wrap64;omega
end
section
open Go.RowKit Go.Maps Go.WideShapes
theorem str_inj{a b:List UInt8}(h:Value.string ⟨a.toArray⟩=sd b):a=b:=by injection h with h;injection h with h;simpa using h
section
variable{w w':World}{B T o m n:Nat}{most:Int}{l:az}{wl:nS}{FT:Nat->Nat->Prop}{g:Value->Option Value}{FR:Nat->Prop}{k:List UInt8}{x:Option Rw}{v:Value}
theorem mP.put(h:mP w B T most o l wl FT m n g FR)(s:1<=k.length/\k.length<=16)(t: ∀r,x=some r-> ∀c,I6 (r.aL c))
  (p:bW prog w' 9 m (if(g (sd k)).isSome then n else n+1) (nX g (sd k) (some v))) (e:Only (fun j=>j=m) w w') (r:lq w v x)
  (f: ∀b,v=r7 b->b≠B/\b≠m/\b<w.heap.size/\ ∀q,¬FT b q):
  mP w' B T most o l (cK (k,x) wl) FT m (if(g (sd k)).isSome then n else n+1) (nX g (sd k) (some v)) (fun b=>FR b\/v=r7 b):=by
 refine⟨e.heap h.blk h.Bm,p,h.tab.dR e (fun b q c j=>h.bm q (j▸c)),eX h.up,fun q d=>?_,fun q d=>?_,fun i=>?_,h.bB,h.bm,fun b c=>?_,h.Bm,?_⟩
 ·rcases ia d with rfl|d
  ·exact s
  ·exact h.key q d
 ·rcases ia d with rfl|d
  ·exact t
  ·exact h.fit q d
 ·rw[mG h.up];by_cases j:i=k
  ·subst j;rw[fi rfl,pC];exact⟨r.only e (fun b j=>(f b j).2.1),fun b j=>.inr j⟩
  ·rw[ff j,nB _ _ (fun d=>j (str_inj d))];have d:=(h.wr i).only e (fun b c=>(h.bR b c).2.1);generalize g (sd i)=a at d⊢;generalize ay i wl=b at d⊢
   match a,b,d with
   |none,none,_=>trivial
   |some _,some _,d=>exact⟨d.1,fun b j=>.inl (d.2 b j)⟩
 ·rcases c with c|c
  ·exact⟨(h.bR b c).1,(h.bR b c).2.1,da (h.bR b c).2.2.1 e.size,(h.bR b c).2.2.2⟩
  ·exact⟨(f b c).1,(f b c).2.1,da (f b c).2.2.1 e.size,(f b c).2.2.2⟩
 ·have d:=h.cnt;have c:=(h.wr k).ET;rw[kE h.up,c];split<;>omega
end
def J8(w w':World)(B T o:Nat)(most:Int)(l:az)(wl:nS)(FT:Nat->Nat->Prop)(m:Nat)(FR:Nat->Prop):Prop:=
 ∃n g a,mP w' B T most o l wl FT m n g a/\(∀b,a b->FR b\/w.heap.size<=b)/\Only (fun k=>k=m) w w'
def rQ(w:World)(B T o:Nat)(most:Int)(l:az)(wl:nS)(FT:Nat->Nat->Prop)(m:Nat)(FR:Nat->Prop)(k:List UInt8)(r:Rw)(e:Ending)(w':World):Prop:=
 if ay k (aY wl l)=none/\most<=(aY wl l).length then e=.returned (rv 16)/\Below w.heap.size w w'
 else e=.returned (rv 0)/\J8 w w' B T o most l (cK (k,some r) wl) FT m FR
theorem mP.at_{w:World}{B T o m n:Nat}{most:Int}{l:az}{wl:nS}{FT:Nat->Nat->Prop}{g:Value->Option Value}{FR:Nat->Prop}(h:mP w B T most o l wl FT m n g FR):iC w B T most o l wl FT (fun _=>True):=⟨m,n,g,FR,h,trivial,trivial,fun _ _=>trivial⟩
theorem iC.up{w:World}{B T o:Nat}{most:Int}{l:az}{wl:nS}{FT:Nat->Nat->Prop}{b:Nat->Prop}(h:iC w B T most o l wl FT b):dK wl:=by obtain⟨m,n,g,FR,a,_⟩:=h;exact a.up
theorem LZ(w:World)(B T o m n:Nat)(most:Int)(l:az)(wl:nS)(FT:Nat->Nat->Prop)(g:Value->Option Value)(FR:Nat->Prop)(k:List UInt8)(r:Rw)(v:1<=k.length/\k.length<=16)(Q: ∀V,I6 (r.aL V))(a:mP w B T most o l wl FT m n g FR)
  (H: ∀b q,FT b q->b<w.heap.size) (Z:wl.length<=2305843009213693952):Calls prog 164 #[r7 B,sd k,r.val] w (rQ w B T o most l wl FT m FR k r):=by
 have h:=a.at_;have R:=al a;obtain⟨O,c⟩: ∃O:Nat->Prop,O=fun _=>True:=⟨_,rfl⟩;rw[<-c]at h;clear a c;obtain⟨I,E,F,M⟩:=r;obtain⟨c,p⟩:=rk w (sg I E F M);unfold Rw.val;go_enter func164,ntmps164;go_upto_region 1 with fail;generalize w.alloc (sg I E F M)=t at c p⊢;obtain⟨P,L⟩:=rl (w.heap.size);rw[L]at p⊢;have s:=h.below c;have d:=jY (k:=k) (h.up) h.tab.up;have e:=BY s c p L trivial H Z v Q;have a:=al (pM t B T o most l wl FT O k v s);rw[d]at a;unfold l9 at a;clear c p L H Z v Q s h d;obtain⟨q,z⟩:=rl (ay k (aY wl l));rw[z]at a;obtain⟨⟨ya,yb,yc,yd⟩,c⟩: ∃r,q.getD .zero=r:=⟨_,rfl⟩;rw[c]at a;clear c;have HQ:=al z;clear z;go_wp2_with fail;refine a.o.m ?_;rintro j w2 ⟨rfl,c⟩;unfold Rw.val;have y:=af w2 (sg ya yb yc yd);have f:=AI c y;clear c y a;have i:=R.o.only (ri (e.o.2.1.x ((f.o.1.x (f.o.2.m f.o.1.size)).m e.o.2.1.size))) (fun h=>h) (fun h=>h) (fun _ _ h=>h) (fun _ _ _ h=>h);go_upto_region 2 with fail;generalize w2.alloc (sg ya yb yc yd)=c at f i⊢;have d:Below t.heap.size t c:=f.o.1.x (f.o.2.m f.o.1.size);have a:Below w.heap.size w c:=e.o.2.1.x (d.m e.o.2.1.size);have t:=i.blk;have N:c.cell? ⟨B,0,none⟩=some (r7 T):=by simp[World.cell?,t]
 have C:=AN i trivial d a;clear t a i;have D:=al (show ∀W,Below c.heap.size c W->Calls prog 66 #[r7 B] W fun j w'=>j=.returned (rv ((aY wl l).length:Int))/\Below W.heap.size W w' from fun W a=>Bg W B T o most l wl FT O (e.o.1.below (d.x (a.m d.size))) e.o.q.d.1);have G:=al (show ∀W,Below c.heap.size c W->Calls prog 67 #[r7 T] W fun j w'=>j=.returned (rv most)/\W=w' from fun W a=>xL W T o most l FT (e.o.1.below (d.x (a.m d.size))).tab)
 have u:=al (show ∀W,Below c.heap.size c W->W.cell? ⟨B,1,none⟩=some (.map (some m))/\bW prog W 9 m n g/\n<maxLen/\Below w.heap.size w W/\ ∀w',bW prog w' 9 m (if(g (sd k)).isSome then n else n+1) (nX g (sd k) (some (r7 P)))->Only (fun X=>X=m) W w'->
   J8 w w' B T o most l (cK (k,some ⟨I,E,F,M⟩) wl) FT m FR from by
  intro W a;obtain⟨s,h2,A,t⟩:=C.o;obtain⟨-,-,p,L,-,H,Z,v,Q⟩:=e.o;have i:=s.only (ri a) (fun h=>h) (fun h=>h) (fun _ _ h=>h) (fun _ _ _ h=>h);have y:=t.x (a.m t.size);have S:=i.blk;have J:=qS (A.x (a.m A.size)) p;have l1:=aP R.o.blk;have Y:=R.o.map.lt;refine⟨by simp[World.cell?,S],i.map,by have:=i.cnt;unfold maxLen;omega,y,fun w' U x=>⟨_,_,_,i.put v (x:=some ⟨I,E,F,M⟩) (fun r j V=>by injection j with j;subst j;exact Q V) U x ⟨P,rfl,J⟩ (fun b j=>?_),fun b a=>?_,(oS y _).x x (fun X _ j=>j)⟩⟩
  ·injection j with j;injection j with j;injection j with j;subst j;exact⟨by omega,by omega,aP J,fun q z=>by have:=H _ q z;omega⟩
  ·rcases a with a|a
   ·exact .inl a
   ·injection a with a;injection a with a;injection a with a;exact .inr (by omega))
 clear d
 cases q with
 |none=>
  simp only[oj,my,if_false];refine pw (S:=(fun W=>Below c.heap.size c W/\W.cell? ⟨B,0,none⟩=some (r7 T))) (by kernel_rfl) ⟨(aw _ _).drew,N⟩ (fun a=>?_);refine bq [0,1,2,3,5,6,7,8] ?_
  iterate 8 (refine ek (v:=?_) (fun _ ⟨X,Y⟩=>?_) a ?_;rotate_left;(go_simp;try rfl);try simp only[xT])
  refine bt ?_;refine bC 4 (fun K d=>?_);go_simp;refine(D.o _ a.1).m ?_;rintro j wn ⟨rfl,t⟩
  try go_simp
  refine d.o _ _ (GQ a t) ?_;clear d K a t;intro a
  try simp only[xT]
  refine bC 9 (fun K d=>?_);go_simp;refine(G.o _ a.1).m ?_;rintro j wn ⟨rfl,rfl⟩
  try go_simp
  refine d.o _ _ (a) ?_;clear d K a;intro a
  try simp only[xT]
  refine bq [10,11,12] ?_
  iterate 3 (refine ek (v:=?_) (fun _ ⟨X,Y⟩=>?_) a ?_;rotate_left;(go_simp;try rfl);try simp only[xT])
  refine bt ?_;refine qe (by kernel_rfl) ?_ _;have J:=al a.1;clear a N
  rename World=>W
  have d:=al (u.o W J.o);by_cases hf:most<=((aY wl l).length:Int)
  ·have x:=al (show ay k (aY wl l)=none/\most<=((aY wl l).length:Int)from⟨HQ.o,hf⟩);clear u C f D G;go_wp2_with fail;go_ret
   unfold rQ;rw[fi x.o];exact⟨rfl,d.o.t.1⟩
  ·have x:=al (show ¬(ay k (aY wl l)=none/\most<=((aY wl l).length:Int))from fun h=>hf h.2);have V:=al (GU (k:=k) (by have:=e.o.q.t.1;simp[maxLen];omega));have d1:=d.o.1;clear u C f D G;go_wp2_with (at_mapUpdate;go_loud (refine jG _ rfl _ _ _ 138 rfl yV underlying138 rfl d.o.2.1 d.o.d.1 rfl rfl V.o ?_);intro U A t;have S:=al (d.o.q U A t);clear A t);go_ret
   unfold rQ;rw[ff x.o];exact⟨rfl,S.o⟩
 |some rq=> 
  simp only[oe,if_true];refine pw (S:=(fun W=>Below c.heap.size c W/\W.cell? ⟨B,0,none⟩=some (r7 T))) (by kernel_rfl) ⟨(aw _ _).drew,N⟩ (fun a=>?_);refine bq [0,1,2] ?_
  iterate 3 (refine ek (v:=?_) (fun _ ⟨X,Y⟩=>?_) a ?_;rotate_left;(go_simp;try rfl);try simp only[xT])
  refine bt ?_;refine Em (i:=3) rfl (by kernel_rfl) (by kernel_rfl) (by kernel_rfl) (fun _ _ _ h=>h) (by rfl) a ?_
  try simp only[xT]
  refine Em (i:=4) rfl (by kernel_rfl) (by kernel_rfl) (by kernel_rfl) (fun _ _ _ h=>h) (by rfl) a ?_
  try simp only[xT]
  refine Em (i:=5) rfl (by kernel_rfl) (by kernel_rfl) (by kernel_rfl) (fun _ _ _ h=>h) (by rfl) a ?_
  try simp only[xT]
  refine Em (i:=6) rfl (by kernel_rfl) (by kernel_rfl) (by kernel_rfl) (fun _ _ _ h=>h) (by rfl) a ?_
  try simp only[xT]
  refine Em (i:=7) rfl (by kernel_rfl) (by kernel_rfl) (by kernel_rfl) (fun _ _ _ h=>h) (by rfl) a ?_
  try simp only[xT]
  refine Em (i:=8) rfl (by kernel_rfl) (by kernel_rfl) (by kernel_rfl) (fun _ _ _ h=>h) (by rfl) a ?_
  try simp only[xT]
  refine Em (i:=9) rfl (by kernel_rfl) (by kernel_rfl) (by kernel_rfl) (fun _ _ _ h=>h) (by rfl) a ?_
  try simp only[xT]
  refine Em (i:=10) rfl (by kernel_rfl) (by kernel_rfl) (by kernel_rfl) (fun _ _ _ h=>h) (by rfl) a ?_
  try simp only[xT]
  refine bq [11,12] ?_
  iterate 2 (refine ek (v:=?_) (fun _ ⟨X,Y⟩=>?_) a ?_;rotate_left;(go_simp;try rfl);try simp only[xT])
  refine bt ?_;refine qe (by kernel_rfl) ?_ _;have J:=al a.1;clear a N;generalize c.drew=W at J⊢;have d:=al (u.o W J.o);have x:=al (show ¬(ay k (aY wl l)=none/\most<=((aY wl l).length:Int))from fun h=>by rw[HQ.o]at h;cases h.1);have V:=al (GU (k:=k) (by have:=e.o.q.t.1;simp[maxLen];omega));have d1:=d.o.1;clear u C f D G;go_wp2_with (at_mapUpdate;go_loud (refine jG _ rfl _ _ _ 138 rfl yV underlying138 rfl d.o.2.1 d.o.d.1 rfl rfl V.o ?_);intro U A t;have S:=al (d.o.q U A t);clear A t);go_ret
  unfold rQ;rw[ff x.o];exact⟨rfl,S.o⟩
def vF(w:World)(B T o:Nat)(most:Int)(l:az)(wl:nS)(FT:Nat->Nat->Prop)(m:Nat)(FR:Nat->Prop)(k:List UInt8)(e:Ending)(w':World):Prop:=
 if ay k (aY wl l)=none then e=.returned (rv 14)/\Below w.heap.size w w'
 else e=.returned (rv 0)/\J8 w w' B T o most l (cK (k,none) wl) FT m FR
theorem L1(w:World)(B T o m n:Nat)(most:Int)(l:az)(wl:nS)(FT:Nat->Nat->Prop)(g:Value->Option Value)(FR:Nat->Prop)(k:List UInt8)(d:1<=k.length/\k.length<=16)(a:mP w B T most o l wl FT m n g FR)
  (f:wl.length<=2305843009213693952):Calls prog 165 #[r7 B,sd k] w (vF w B T o most l wl FT m FR k):=by
 have h:=a.at_;have y:=al a;obtain⟨j,c⟩: ∃j:Nat->Prop,j=fun _=>True:=⟨_,rfl⟩;rw[<-c]at h;clear a c;have e:=jY (k:=k) (h.up) h.tab.up;have a:=al (pM w B T o most l wl FT j k d h);rw[e]at a;unfold l9 at a;have c:=AM h f d;clear f d h e;obtain⟨C,d⟩:=rl (ay k (aY wl l));rw[d]at a;obtain⟨⟨s,u,v,r⟩,e⟩: ∃A,C.getD .zero=A:=⟨_,rfl⟩;rw[e]at a;clear e;have q:=al d;clear d;go_enter func165,ntmps165;go_wp2_with fail;refine a.o.m ?_;rintro e t ⟨rfl,d⟩;unfold Rw.val;have i:=af t (sg s u v r);have f:=al (d.x (i.m d.size));clear d i a;have a:=y.o.only (ri f.o) (fun h=>h) (fun h=>h) (fun _ _ h=>h) (fun _ _ _ h=>h);have d:=a.blk;have i:=AI a trivial
 cases C with
 |none=>
  simp only[oj,my,if_false];clear a d i c;go_wp2_with fail;go_ret
  unfold vF;rw[fi q.o];exact⟨rfl,f.o⟩
 |some p=>
  simp only[oe,if_true];have p:=AI a.map (GU (k:=k) (by have:=c.o.d;simp[maxLen];omega));have z:n<maxLen:=by have:=a.cnt;have:=c.o.2.1;unfold maxLen;omega
  clear a;go_upto_region 4 with fail;generalize t.alloc (sg s u v r)=a at f i p d⊢;have D:a.cell? ⟨B,1,none⟩=some (.map (some m)):=by simp[World.cell?,d]
  clear d;go_wp2_with (at_mapUpdate;go_loud (refine jG _ rfl _ _ _ 138 rfl yV underlying138 rfl p.o.1 z rfl rfl p.o.2 ?_);intro E x d;have a:=AI x d;clear x d);go_ret
  unfold vF;rw[ff (by rw[q.o];exact fun h=>by cases h)];exact⟨rfl,_,_,_,i.o.1.put c.o.d (x:=none) (fun A e=>by cases e) a.o.1 a.o.2 rfl (fun b e=>by injection e with e;cases e),fun b d=>d.elim .inl (fun e=>by injection e with e;cases e),(oS f.o _).x a.o.2 (fun a _ e=>e)⟩
end
end Go.Proofs.YtehccbdajiiaaaaGreatDoor
