import Derived.Test.YtehccbdajiiaaaaGreatDoorS03
import Derived.Test.YtehccbdajiiaaaaGreatDoorProg
import Derived.Shelf.Spec.SlicesInsertGrow
import Derived.Deep.RegionLaw
namespace Go.Proofs.YtehccbdajiiaaaaGreatDoor
open Go.Proofs.Tryz
set_option maxRecDepth 100000
set_option maxHeartbeats 16000000
open Go.RowKit
theorem cH{P:Program}(w:World)(h r p c:TypeId)(k b o e l:Nat)(a:Addr)(d f n:Nat)(cs:List Value)
  (q:P.underlying h=some (.slice c)) (g:(P.info? c).map (·.size)=some k) (m:Nat.min d e=n) (t:cs.length=n*k)
  (i: ∀j v,cs[j]?=some v->w.cell? (a.add j)=some v) (u: ∀j,j<cs.length->(w.cell? ⟨b,o+j,none⟩).isSome=true) (s: ∀j,j<cs.length->w.frozen? ⟨b,o+j,none⟩=false) (j: ∀v∈cs,v.oneCell'=true):
  (Builtin.copy_ #[h,r] p #[.slice (some ⟨b,o,none⟩) e l,.slice (some a) d f]).run P w=.ok (goInt n) (w.setCells b o cs):=by
 have e:=run_firstCells_some (P:=P) w k n a d f cs t i;have d:=run_storeCells_cells (P:=P) b o cs 0 w (by simpa using u) (by simpa using s) j
 cases hq:P.info? c with
 |none=>simp[hq]at g
 |some i=>
  have c:i.size=k:=by simpa[hq]using g
  subst c;simp[Builtin.copy_,run_underlying q,Builtin.lenOf,sizeOf,typeInfo,hq,m,e,d]
def Er(k:Nat)(t:TypeId)(w:World)(F:Nat->Nat->Prop)(ys:List (List Value))(e:Ending)(w':World):Prop:=
 ∃a,e=.returned a/\aG k t w' a ys (fun b o=>F b o\/w.heap.size<=b)/\OnlyC F w w'
theorem pM{P:Program}{e:TypeId}{z:Value}{k b:Nat}(h:(P.info? e).map (fun i=>(i.zero,i.size,i.bytes))=some (some z,k,b)):(P.info? e).map (·.size)=some k:=by obtain⟨d,a,_,c,_⟩:=eh h;rw[a];simp[c]
theorem AU{k:Nat}{xs:List (List Value)}(b: ∀x∈xs,x.length=k)(i:Nat)(hi:i<=xs.length):(xs.drop i).flatten=xs.flatten.drop (i*k):=by
 have h:=eE List.flatten (List.take_append_drop i xs);rw[la]at h;have c:(xs.take i).flatten.length=i*k:=by rw[bP (fun x a=>b x (List.mem_of_mem_take a)),im,oe hi]
 rw[<-h,<-c,List.drop_left]
theorem AV{k:Nat}{xs:List (List Value)}(b: ∀x∈xs,x.length=k)(i:Nat)(hi:i<=xs.length):(xs.take i).flatten=xs.flatten.take (i*k):=by
 have h:=eE List.flatten (List.take_append_drop i xs);rw[la]at h;have c:(xs.take i).flatten.length=i*k:=by rw[bP (fun x a=>b x (List.mem_of_mem_take a)),im,oe hi]
 rw[<-h,<-c,List.take_left]
theorem Es{k i:Nat}{xs:List (List Value)}{x:List Value}(b: ∀y∈xs,y.length=k)(c:x.length=k): ∀y∈xs.take i++x::xs.drop i,y.length=k:=by
 intro y a;rcases dr.1 a with a|a
 ·exact b y (List.mem_of_mem_take a)
 ·rcases eS.1 a with rfl|a
  ·exact c
  ·exact b y (List.mem_of_mem_drop a)
theorem spliced{k i:Nat}{xs:List (List Value)}{x:List Value}(b: ∀y∈xs,y.length=k)(e:x.length=k)(hi:i<=xs.length)(a:Nat->Option Value)
  (f: ∀(j:Nat) (u:Value),(xs.flatten.take (i*k))[j]?=some u->a j=some u) (g: ∀(j:Nat) (u:Value),x[j]?=some u->a (i*k+j)=some u) (d: ∀(j:Nat) (u:Value),(xs.flatten.drop (i*k))[j]?=some u->a ((i+1)*k+j)=some u):
  ∀(j:Nat) (u:Value),(xs.take i++x::xs.drop i).flatten[j]?=some u->a j=some u:=by
 intro j u a;rw[la,List.flatten_cons,AU b i hi,AV b i hi]at a;have c:=bP b;have b:i*k<=xs.length*k:=ea k hi;have b:(xs.flatten.take (i*k)).length=i*k:=by rw[im,c];omega
 by_cases c:j<i*k
 ·rw[lk (by omega)]at a;exact f j u a
 ·rw[iv (by omega),b]at a;by_cases b:j-i*k<k
  ·rw[lk (by omega)]at a;have:=g _ u a;rwa[show i*k+(j-i*k)=j by omega]at this
  ·rw[iv (by omega),e]at a;have:=d _ u a;rw[lr]at this;rwa[show i*k+k+(j-i*k-k)=j by omega]at this
theorem jo{w:World}{b:Nat}{cs:Array Value}{t:TypeId}(h:w.heap[b]?=some (.cells cs t (0,0))):w.shape? b=some (t,cs.size):=by simp[World.shape?,h]
theorem uo{k:Nat}{t:TypeId}{w:World}{F:Nat->Nat->Prop}{b a c i:Nat}{cs:Array Value}{xs:List (List Value)}{x:List Value}(d:0<k)(hi:i<xs.length)(h:xs.length+1<=c)(n:c<=maxLen)(d: ∀y∈xs,y.length=k)(f:x.length=k)
  (o:w.heap[b]?=some (.cells cs t (0,0))) (B:a+c*k<=cs.size) (g: ∀j,a<=j->j<a+c*k->F b j) (q: ∀j u,xs.flatten[j]?=some u->cs[a+j]?=some u):
  Er k t w F (xs.take i++x::xs.drop i) (.returned (.slice (some ⟨b,a,none⟩) (xs.length+1) c)) ((w.drew.setCells b (a+(i+1)*k) (xs.flatten.drop (i*k))).setCells b (a+i*k) x):=by
 have m:=bP d;have e:(xs.length+1)*k<=c*k:=ea k h;have l:(i+1)*k<=xs.length*k:=ea k hi;rw[lr]at e l;have l:(xs.flatten.drop (i*k)).length=xs.length*k-i*k:=by rw[my,m]
 obtain⟨A,z,y,r,s⟩:=cy (xs.flatten.drop (i*k)) (a+(i+1)*k) w.drew cs o (by rw[l,lr];omega);obtain⟨e,o,v,m,p⟩:=cy x (a+i*k) _ A z (by rw[f];omega);refine⟨_,rfl,aG.rewritten (n:=xs.length+1) o (v.x y) B (fun j o b=>.inl (g j o b)) (by simp;omega) h n (Es d f) (spliced d f (Nat.le_of_lt hi) (fun j=>e[a+j]?) (fun j u d=>?_) (fun j u d=>?_) (fun j u d=>?_)),?_⟩
 ·have f:=(aw.1 d).1;rw[im]at f;rw[lP]at d;split at d
  ·show e[a+j]?=some u;rw[m _ (by omega),r _ (by rw[lr];omega)];exact q j u d
  ·cases d
 ·show e[a+(i*k+j)]?=some u;rw[<-gC];exact p j u d
 ·have f:=(aw.1 d).1;rw[l]at f;show e[a+((i+1)*k+j)]?=some u;rw[<-gC,m _ (by rw[lr];omega)];exact s j u d
 ·refine OnlyC.dV (w:=w) (OnlyC.trans (F:=F) (G:=F) ((bU b (xs.flatten.drop (i*k)) (a+(i+1)*k) w.drew).m (fun h j _ ⟨d,e,f⟩=>?_)) ((bU b x (a+i*k) _).m (fun h j _ ⟨d,e,f⟩=>?_)) (fun _ _ _ h=>h))
  ·subst d;rw[lr]at e f;exact g j (by omega) (by omega)
  ·subst d;exact g j (by omega) (by omega)
theorem AX{k:Nat}{t:TypeId}{w:World}{F:Nat->Nat->Prop}{G i:Nat}{a:Array Value}{xs:List (List Value)}{x:List Value}(b:0<k)(hi:i<xs.length)(f:xs.length+1<=G)(l:G<=maxLen)(b: ∀y∈xs,y.length=k)(e:x.length=k)
  (c:a.size=G*k) (q: ∀(j:Nat) (v:Value),(xs.flatten.take (i*k))[j]?=some v->a[j]?=some v):
  Er k t w F (xs.take i++x::xs.drop i) (.returned (.slice (some ⟨w.heap.size,0,none⟩) (xs.length+1) G)) ((((w.alloc (.cells a t)).drew.setCells w.heap.size (i*k) x).drew).setCells w.heap.size ((i+1)*k) (xs.flatten.drop (i*k))):=by
 have d:=bP b;have c:(xs.length+1)*k<=G*k:=ea k f;have g:(i+1)*k<=xs.length*k:=ea k hi;rw[lr]at c g;have s:(xs.flatten.drop (i*k)).length=xs.length*k-i*k:=by rw[my,d]
 have c:(w.alloc (.cells a t)).drew.heap[w.heap.size]?=some (.cells a t (0,0)):=an w _;obtain⟨v,u,r,n,p⟩:=cy x (i*k) _ a c (by rw[e];omega);obtain⟨d,h,o,g,m⟩:=cy (xs.flatten.drop (i*k)) ((i+1)*k) (((w.alloc (.cells a t)).drew.setCells w.heap.size (i*k) x).drew) v u (by rw[s,lr];omega);refine⟨_,rfl,aG.rewritten (n:=xs.length+1) (o:=0) h (o.x r) (by omega) (fun j o h=>.inr (b8 _)) (by simp;omega) f l (Es b e) (spliced b e (Nat.le_of_lt hi) (fun j=>d[0+j]?) (fun j u b=>?_) (fun j u b=>?_) (fun j u b=>?_)),?_⟩
 ·have e:=(aw.1 b).1;rw[im]at e;show d[0+j]?=some u;rw[ie,g _ (by rw[lr];omega),n _ (by omega)];exact q j u b
 ·have e:=(aw.1 b).1;show d[0+(i*k+j)]?=some u;rw[ie,g _ (by rw[lr];omega)];exact p j u b
 ·show d[0+((i+1)*k+j)]?=some u;rw[ie];exact m j u b
 ·refine oS ?_ F;have b:OnlyC (fun h _=>w.heap.size<=h) w (w.alloc (.cells a t)).drew:=((OnlyC.refl _ w).alloc _).drew;have a:=b.x (bU w.heap.size x (i*k) _) (fun h j c ⟨e,_⟩=>by omega);have b:=a.drew.x (bU w.heap.size (xs.flatten.drop (i*k)) ((i+1)*k) _) (fun h j c ⟨e,_⟩=>by omega);exact b.below (fun h o c a=>by omega)
theorem Tryz.Hb:(prog.info? 220).map (fun i=>(i.zero,i.size,i.bytes))=some (some (.agg #[.string ⟨#[]⟩,.string ⟨#[]⟩]),2,32):=by kernel_rfl
set_option maxRecDepth 1000000 in
theorem SU(w:World)(F:Nat->Nat->Prop)(v:Value)(xs:List (List Value))(x:List Value)(vb:Nat)(h:aG 2 220 w v xs F)(hlen:xs.length<=1000)(hx:x.length=2)(Et: ∀u∈x,u.oneCell'=true)
  (hb:w.heap[vb]?=some (.cells x.toArray 220 (0,0))):
  Calls prog 220 #[v,rm xs.length,.slice (some ⟨vb,0,none⟩) 1 1] w (Er 2 220 w F (xs++[x])):=by
 obtain⟨i0,hi0,hz0,hz1,hz2⟩:=eh Tryz.Hb;have H:=al h;have HI:=al hi0;obtain⟨A,c,rfl,q2,q3,q4,q5⟩:=h;unfold maxLen at q3;have HX:=AF hx Et hb;have hq:A=none/\c=0\/ ∃b o,A=some ⟨b,o,none⟩:=q5.elim (fun h=>h.2.imp (fun h'=>⟨h',h.1⟩) id) (fun⟨b,o,cs,h,_⟩=>.inr ⟨b,o,h⟩);clear q4 q5 hx Et hb hi0;have e1:(((xs.length:Int))==((xs.length:Int)))=true:=by simp
 rcases hq with⟨rfl,rfl⟩|⟨b,o,rfl⟩
 ·have hx0:xs=[]:=de (by omega);subst hx0;go_enter func220,ntmps220;go_wp2_with (at_builtin;refine dH _ rfl _ _ 170 rfl i0 (.agg #[.string ⟨#[]⟩,.string ⟨#[]⟩]) 32 underlying170 HI.o hz0 hz1 hz2 (by rfl) (by decide) _ [] rfl H.o ⟨vb,0,none⟩ 1 1 [x] rfl rfl (fun y hy=>by rw[gk]at hy;subst hy;exact HX.o.1) (fun j u hj=>by rw[ir,ie];exact pb HX.o.d (by simpa using hj)) (by simpa using HX.o.2.1) (by simp[maxLen]) (by simp) ?_;intro v' w' ho hc;have HO:=AD ho hc;clear ho hc);go_ret
  exact⟨_,rfl,HO.o.1,HO.o.2⟩
 ·by_cases ZO:c=xs.length
  ·subst ZO;go_enter func220,ntmps220;go_wp2_with (at_builtin;refine dH _ rfl _ _ 170 rfl i0 (.agg #[.string ⟨#[]⟩,.string ⟨#[]⟩]) 32 underlying170 HI.o hz0 hz1 hz2 (by rfl) (by decide) _ xs rfl H.o ⟨vb,0,none⟩ 1 1 [x] rfl rfl (fun y hy=>by rw[gk]at hy;subst hy;exact HX.o.1) (fun j u hj=>by rw[ir,ie];exact pb HX.o.d (by simpa using hj)) (by simpa using HX.o.2.1) (by unfold maxLen;omega) (by omega) ?_;intro v' w' ho hc;have HO:=AD ho hc;clear ho hc);go_ret
   exact⟨_,rfl,HO.o.1,HO.o.2⟩
  ·go_enter func220,ntmps220;go_wp2_with (at_builtin;refine dH _ rfl _ _ 170 rfl i0 (.agg #[.string ⟨#[]⟩,.string ⟨#[]⟩]) 32 underlying170 HI.o hz0 hz1 hz2 (by rfl) (by decide) _ xs rfl H.o ⟨vb,0,none⟩ 1 1 [x] rfl rfl (fun y hy=>by rw[gk]at hy;subst hy;exact HX.o.1) (fun j u hj=>by rw[ir,ie];exact pb HX.o.d (by simpa using hj)) (by simpa using HX.o.2.1) (by unfold maxLen;omega) (by omega) ?_;intro v' w' ho hc;have HO:=AD ho hc;clear ho hc);go_ret
   exact⟨_,rfl,HO.o.1,HO.o.2⟩
set_option maxRecDepth 1000000 in
theorem LL(w:World)(b a n c i d:Nat)(cs k:List Value)(hi:i<n)(e:n+1<=c)(e:c<=9223372036854775807)(x:d≠b)(e:n<=1000)
  (s:cs.length=n*2) (u:k.length=2)
  (A: ∀j v,cs[j]?=some v->w.cell? ⟨b,a+j,none⟩=some v) (l: ∀j,j<(n+1)*2->(w.cell? ⟨b,a+j,none⟩).isSome=true) (p: ∀j,j<(n+1)*2->w.frozen? ⟨b,a+j,none⟩=false)
  (z: ∀j v,k[j]?=some v->w.cell? ⟨d,j,none⟩=some v) (t: ∀v∈cs,v.oneCell'=true) (B: ∀v∈k,v.oneCell'=true)
  (m q:TypeId) (g e:Nat) (y:w.shape? d=some (m,g)) (H:w.shape? b=some (q,e)) (C:e≠0) (E:w.frozen? ⟨d,0,none⟩=false) (r:w.frozen? ⟨d,g,none⟩=false):
  Calls prog 220 #[.slice (some ⟨b,a,none⟩) n c,rm i,.slice (some ⟨d,0,none⟩) 1 1] w fun h f=>
   h=.returned (.slice (some ⟨b,a,none⟩) (n+1) c)/\f=(w.drew.setCells b (a+(i+1)*2) (cs.drop (i*2))).setCells b (a+i*2) k:=by
 have o:(prog.info? 220).map (·.size)=some 2:=pM Tryz.Hb;have f: ¬((i:Int)=(n:Int)):=by omega
 have J: ∀f h,(callFunc 247 #[.slice (some ⟨d,0,none⟩) 1 1,.slice (some ⟨b,a+(i+1)*2,none⟩) f h]).run prog w=.ok (.value (.bool false)) w:=fun f h=>by
  rw[run_callFunc_extern func247 (by kernel_rfl) (by kernel_rfl) (by kernel_rfl) (e:=Extern.SlicesOverlaps.overlaps #[170,170] #[4]) (by kernel_rfl),
   Lib.run_overlaps_apart w 170 4 220 underlying170 2 (fun w=>by kernel_rfl) ⟨d,0,none⟩ ⟨b,a+(i+1)*2,none⟩ 1 1 f h x m q g e y H C E r]
  rfl
 have q:(cs.drop (i*2)).length=(n-i)*2:=by rw[my,s];omega
 have e:IntKind.i64.wrap ((i:Int)+1)=(i:Int)+1:=by rw[me];omega
 have e:(0:Int)<=(i:Int)+1:=by omega
 have e:i<=n:=by omega
 have e:((i:Int)+1).toNat=i+1:=by omega
 have e: ¬(c=i+1):=by omega
 have e:(i:Int)<=(n:Int)+1:=by omega
 have e: ¬(c=i):=by omega
 have I: ∀f g e,(Builtin.copy_ #[170,170] f #[.slice (some ⟨b,a+(i+1)*2,none⟩) (n-i) g,.slice (some ⟨b,a+i*2,none⟩) (n+1-i) e]).run prog w.drew=.ok (goInt ((n-i:Nat):Int)) (w.drew.setCells b (a+(i+1)*2) (cs.drop (i*2))):=fun f g e=>
  cH w.drew _ _ f 220 2 b (a+(i+1)*2) (n-i) g ⟨b,a+i*2,none⟩ (n+1-i) e (n-i) (cs.drop (i*2)) underlying170 o (by simp only[Nat.min_def];split<;>omega) (by first|exact q|(rw[q];omega))
   (fun j v e=>by rw[ir,gC];exact A (i*2+j) v (by rwa[mw]at e))
   (fun j e=>by rw[gC];exact l _ (by omega)) (fun j e=>by rw[gC];exact p _ (by omega)) (fun v h=>t v (List.mem_of_mem_drop h))
 obtain⟨m,h⟩:=rl (w.drew.setCells b (a+(i+1)*2) (cs.drop (i*2)))
 have G: ∀F,F<(n+1)*2->(m.cell? ⟨b,a+F,none⟩).isSome=true:=fun F D=>by rw[h];exact isSome_setCells b _ _ _ (fun j e=>by rw[gC];exact l _ (by omega)) _ (l F D)
 have D: ∀(W:World),(∀F,W.cell? F=m.cell? F)->(∀F,W.frozen? F=m.frozen? F)-> ∀f g,(Builtin.copy_ #[170,170] f #[.slice (some ⟨b,a+i*2,none⟩) (n+1-i) g,.slice (some ⟨d,0,none⟩) 1 1]).run prog W=.ok (goInt ((1:Nat):Int)) (W.setCells b (a+i*2) k):=fun W F K f g=>
  cH W _ _ f 220 2 b (a+i*2) (n+1-i) g ⟨d,0,none⟩ 1 1 1 k underlying170 o (by simp only[Nat.min_def];split<;>omega) (by rw[u])
   (fun j v e=>by
    rw[ir,ie,F,h,World.cell?_setCells_out b _ _ _ _ (fun a _=>absurd a x)]
    exact z j v e)
   (fun j e=>by rw[F,gC];exact G _ (by omega)) (fun j e=>by rw[K,h,World.frozen?_setCells,gC];exact p _ (by omega)) B
 rw[<-h]at I⊢;have a:=al D;have d:=al h;clear D h l p A G z y H E r t B s u q o C;go_enter func220,ntmps220;go_wp2_with (simp only[J])
 go_region_law (refine step_copy_runI rfl _ _ 170 170 rfl _ _ (by simp[Act.eval,Act.put]) (by simp[Act.eval,Act.put]) (I _ _ _) ?_)
 have d:=a.o m (fun _=>rfl) (fun _=>rfl);go_wp2;go_ret
 exact⟨rfl,rfl⟩
set_option maxRecDepth 1000000 in
theorem Ox(w:World)(b off n c i vb:Nat)(cs vs:List Value)(hi:i<n)(hnc:n<=c)(hroom:c<n+1)(jW:n<=1000)
  (hcl:cs.length=n*2) (hvl:vs.length=2)
  (hcs: ∀j v,cs[j]?=some v->w.cell? ⟨b,off+j,none⟩=some v)
  (hvs: ∀j v,vs[j]?=some v->w.cell? ⟨vb,j,none⟩=some v) (h1c: ∀v∈cs,v.oneCell'=true) (Ot: ∀v∈vs,v.oneCell'=true):
  Calls prog 220 #[.slice (some ⟨b,off,none⟩) n c,rm i,.slice (some ⟨vb,0,none⟩) 1 1] w fun e w'=>
   ∃(G:Nat) (ROW:Array Value),n+1<=G/\G<=maxLen/\ROW.size=G*2/\(∀(j:Nat) (v:Value),(cs.take (i*2))[j]?=some v->ROW[j]?=some v)/\e=.returned (.slice (some ⟨w.heap.size,0,none⟩) (n+1) G)/\
   w'=(((w.alloc (.cells ROW 220)).drew.setCells w.heap.size (i*2) vs).drew).setCells w.heap.size ((i+1)*2) (cs.drop (i*2)):=by
 obtain⟨i0,hi0,hz0,hzs,hzb⟩:=eh Tryz.Hb;have hsz:(prog.info? 220).map (·.size)=some 2:=pM Tryz.Hb;have hz2: ¬((i:Int)=(n:Int)):=by omega
 have hz3:(c:Int)<(n:Int)+1:=by omega
 have gP:b<w.heap.size:=aq w _ (hcs 0 _ (ao (by omega)));have SV:vb<w.heap.size:=aq w _ (hvs 0 _ (ao (by omega)));have hkk:(n:Int)+1-(i:Int)=((n+1-i:Nat):Int):=by omega
 have hik:i+(n+1-i)=n+1:=by omega
 have hold:(Builtin.firstCells i0.size i (.slice (some ⟨b,off,none⟩) i c)).run prog w.drew=.ok (cs.take (i*2)).toArray w.drew:=by
  rw[hzs]
  exact run_firstCells_some w.drew 2 i ⟨b,off,none⟩ i c (cs.take (i*2)) (by rw[im];omega) (fun j v hj=>by
   rw[ir];rw[lP]at hj;split at hj
   ·exact hcs j v hj
   ·cases hj)
 have SX: ∀ty,(Builtin.append_ #[170,3] ty #[.slice (some ⟨b,off,none⟩) i c,rm ((n:Int)+1-(i:Int))]).run prog w=
   .ok (.slice (some ⟨w.heap.size,0,none⟩) (n+1) (grownCap w (n+1) c 220)) (w.drew.alloc (.cells ((cs.take (i*2)).toArray++Builtin.zeroCells (Value.cells (.agg #[.string ⟨#[]⟩,.string ⟨#[]⟩])) (n+1-i)++Builtin.zeroCells (Value.cells (.agg #[.string ⟨#[]⟩,.string ⟨#[]⟩])) (grownCap w (n+1) c 220-(n+1))) 220)):=fun ty=>by
  have h:=Lib.run_append_grow_zeros w 170 3 ty 220 i0 _ .i64 .i64 underlying170 underlying3 hi0 hz0 (some ⟨b,off,none⟩) i c (cs.take (i*2)) hold (n+1-i) (by omega) (by omega) (by omega) (by omega) (by rw[hzb];omega) (by rw[hzb,hik];exact growslice_fits hroom (by omega));rw[hik]at h;rw[hkk];exact h
 obtain⟨G,hG⟩:=rl (grownCap w (n+1) c 220);obtain⟨ROW,CA⟩: ∃ROW:Array Value,ROW=(cs.take (i*2)).toArray++Builtin.zeroCells (Value.cells (.agg #[.string ⟨#[]⟩,.string ⟨#[]⟩])) (n+1-i)++Builtin.zeroCells (Value.cells (.agg #[.string ⟨#[]⟩,.string ⟨#[]⟩])) (G-(n+1)):=⟨_,rfl⟩;rw[<-hG]at SX;rw[<-CA]at SX;have hGn:n+1<=G:=by rw[hG];exact grownCap_ge w _ _ _
 have hGm:G<=maxLen:=by have:=grownCap_le_maxLen w (n+1) c 220 (by unfold maxLen;omega);rw[<-hG]at this;exact this
 have acj:G<=9223372036854775807:=by unfold maxLen at hGm;omega
 have Oy:ROW.size=G*2:=by rw[CA];simp only[Array.size_append,lz,size_zeroCells,Value.cells,im];simp;omega
 have hRl:(n+1)*2<=ROW.size:=by rw[Oy];omega
 have W6: ∀(j:Nat) (v:Value),(cs.take (i*2))[j]?=some v->ROW[j]?=some v:=by intro j v hj;have hlt:=(aw.1 hj).1;rw[CA,Array.append_assoc,Array.getElem?_append_left (by simpa using hlt)];simpa using hj
 obtain⟨W1,hW1⟩:=rl (w.drew.alloc (.cells ROW 220));rw[<-hW1]at SX
 have hN: ∀j,j<(n+1)*2->(W1.cell? ⟨w.heap.size,j,none⟩).isSome=true:=fun j hj=>by rw[hW1,World.cell?_alloc_at (w:=w.drew) ROW _ w.heap.size j rfl,fl (by omega)];rfl
 have Xa: ∀j,W1.frozen? ⟨w.heap.size,j,none⟩=false:=fun j=>by rw[hW1];exact World.frozen?_alloc_at (w:=w.drew) ROW _ w.heap.size j rfl
 have hOb: ∀j v,w.cell? ⟨b,j,none⟩=some v->W1.cell? ⟨b,j,none⟩=some v:=fun j v h=>by rw[hW1,World.cell?_alloc_past (w:=w.drew) _ b j gP];exact h
 have hOv: ∀j v,w.cell? ⟨vb,j,none⟩=some v->W1.cell? ⟨vb,j,none⟩=some v:=fun j v h=>by rw[hW1,World.cell?_alloc_past (w:=w.drew) _ vb j SV];exact h
 have Oz: ∀(W:World),(∀x,W.cell? x=W1.cell? x)->(∀x,W.frozen? x=W1.frozen? x)-> ∀ty dc,(Builtin.copy_ #[170,170] ty #[.slice (some ⟨w.heap.size,i*2,none⟩) (n+1-i) dc,.slice (some ⟨vb,0,none⟩) 1 1]).run prog W=.ok (goInt ((1:Nat):Int)) (W.setCells w.heap.size (i*2) vs):=fun W Eu Ow ty dc=>
  cH W _ _ ty 220 2 w.heap.size (i*2) (n+1-i) dc ⟨vb,0,none⟩ 1 1 1 vs underlying170 hsz (by simp only[Nat.min_def];split<;>omega) (by rw[hvl])
   (fun j v hj=>by rw[ir,ie,Eu];exact hOv _ v (hvs j v hj))
   (fun j hj=>by rw[Eu];exact hN _ (by omega)) (fun j hj=>by rw[Ow];exact Xa _) Ot
 have hGi: ¬(G=i):=by omega
 have ack: ¬(G=i+1):=by omega
 have hci: ¬(c=i):=by omega
 have hbN:b≠w.heap.size:=by omega
 have om:(cs.drop (i*2)).length=(n-i)*2:=by rw[my,hcl];omega
 have OA: ∀(W:World),(∀x,W.cell? x=(W1.setCells w.heap.size (i*2) vs).cell? x)->(∀x,W.frozen? x=(W1.setCells w.heap.size (i*2) vs).frozen? x)-> ∀ty dc sc,(Builtin.copy_ #[170,170] ty #[.slice (some ⟨w.heap.size,(i+1)*2,none⟩) (n-i) dc,.slice (some ⟨b,off+i*2,none⟩) (n-i) sc]).run prog W=.ok (goInt ((n-i:Nat):Int)) (W.setCells w.heap.size ((i+1)*2) (cs.drop (i*2))):=fun W Eu Ow ty dc sc=>
  cH W _ _ ty 220 2 w.heap.size ((i+1)*2) (n-i) dc ⟨b,off+i*2,none⟩ (n-i) sc (n-i) (cs.drop (i*2)) underlying170 hsz (by simp only[Nat.min_def];split<;>omega) (by first|exact om|(rw[om];omega))
   (fun j v hj=>by
    rw[ir,Eu,World.cell?_setCells_out _ _ _ _ _ (fun h _=>absurd h hbN),gC]
    exact hOb _ v (hcs (i*2+j) v (by rwa[mw]at hj)))
   (fun j hj=>by rw[Eu];exact isSome_setCells _ _ _ _ (fun t ht=>hN _ (by omega)) _ (hN _ (by omega)))
   (fun j hj=>by rw[Ow,World.frozen?_setCells];exact Xa _) (fun v hv=>h1c v (List.mem_of_mem_drop hv))
 subst hW1;have aae:=Oz ((w.alloc (.cells ROW 220)).drew) (fun x=>rfl) (fun x=>rfl);have OB:=OA (((w.alloc (.cells ROW 220)).drew.setCells w.heap.size (i*2) vs).drew) (fun x=>rfl) (fun x=>rfl);have hw1:IntKind.i64.wrap ((i:Int)+1)=(i:Int)+1:=by rw[me];omega
 have hb1:(0:Int)<=(i:Int)+1:=by omega
 have hin:i<=n:=by omega
 have htn:((i:Int)+1).toNat=i+1:=by omega
 have hb3:(i:Int)<=(n:Int):=by omega
 have HF:=al (show ∃(G':Nat) (CB:Array Value),n+1<=G'/\G'<=maxLen/\CB.size=G'*2/\(∀(j:Nat) (v:Value),(cs.take (i*2))[j]?=some v->CB[j]?=some v)/\G'=G/\CB=ROW from⟨G,ROW,hGn,hGm,Oy,W6,rfl,rfl⟩);clear hkk hik hold CA hG hRl Oy W6 hN Xa hOb hOv Oz OA hsz hcs hvs h1c Ot hcl hvl om hzs hzb hz0 hi0;go_enter func220,ntmps220;go_wp2_with (at_builtin;refine Lib.wpList_append_run _ rfl _ _ _ _ rfl _ _ rfl rfl _ _ (SX _) ?_)
 go_region_law (refine step_copy_runI rfl _ _ 170 170 rfl _ _ (by simp[Act.eval,Act.put]) (by simp[Act.eval,Act.put]) (OB _ _ _) ?_)
 go_wp2;go_ret
 obtain⟨G',CB,a1,a2,a3,a4,rfl,rfl⟩:=HF.o;exact⟨_,_,a1,a2,a3,a4,rfl,rfl⟩
theorem SY(w:World)(F:Nat->Nat->Prop)(v:Value)(xs:List (List Value))(i:Nat)(x:List Value)(a:Nat)(f:aG 2 220 w v xs F)(hi:i<=xs.length)(g:xs.length<=1000)(e:x.length=2)(l: ∀u∈x,u.oneCell'=true)(s: ∀u∈xs.flatten,u.oneCell'=true)
  (c:w.heap[a]?=some (.cells x.toArray 220 (0,0))) (y: ∀j,¬F a j):
  Calls prog 220 #[v,rm i,.slice (some ⟨a,0,none⟩) 1 1] w (Er 2 220 w F (xs.take i++x::xs.drop i)):=by
 by_cases b:i=xs.length
 ·subst b;have:=SU w F v xs x a f g e l c;simpa using this
 ·obtain⟨D,b,C,B,rfl,z,r,h,d,A,p,q⟩:=f.lies (by omega);have n:=bP h;have o: ∀j u,xs.flatten[j]?=some u->w.cell? ⟨D,b+j,none⟩=some u:=fun j u f=>pb d (q j u f);have m: ∀j u,x[j]?=some u->w.cell? ⟨a,j,none⟩=some u:=fun j u f=>pb c (by simpa using f);by_cases k:xs.length+1<=C
  ·have t:(xs.length+1)*2<=C*2:=ea _ k;have t:a≠D:=fun E=>y b (by rw[E];exact p b (b8 _) (by omega));have u:=jo c
   have:=LL w D b xs.length C i a xs.flatten x (by omega) k (by unfold maxLen at r;omega) t g n e o
    (fun j f=>by simp[World.cell?,d,fl (show b+j<B.size by omega)]) (fun j _=>frozen_of_heap d _) m s l _ _ _ _ u (jo d) (by omega) (frozen_of_heap c _) (frozen_of_heap c _)
   refine this.m ?_;rintro E f ⟨rfl,rfl⟩;have c:=uo (F:=F) (by decide) (show i<xs.length by omega) k r h e d A p q;simpa using c
  ·have:=Ox w D b xs.length C i a xs.flatten x (by omega) z (by omega) g n e o m s l;refine this.m ?_;rintro E f ⟨G,j,a,b,g,d,rfl,rfl⟩;have c:=AX (F:=F) (t:=220) (w:=w) (k:=2) (by decide) (show i<xs.length by omega) a b h e g (by simpa using d);simpa using c
theorem Tryz.Hc:(prog.info? 169).map (fun i=>(i.zero,i.size,i.bytes))=some (some (.pointer none),1,8):=by kernel_rfl
set_option maxRecDepth 1000000 in
theorem SZ(w:World)(F:Nat->Nat->Prop)(v:Value)(xs:List (List Value))(x:List Value)(vb:Nat)(h:aG 1 169 w v xs F)(hlen:xs.length<=1000)(hx:x.length=1)(Et: ∀u∈x,u.oneCell'=true)
  (hb:w.heap[vb]?=some (.cells x.toArray 169 (0,0))):
  Calls prog 221 #[v,rm xs.length,.slice (some ⟨vb,0,none⟩) 1 1] w (Er 1 169 w F (xs++[x])):=by
 obtain⟨i0,hi0,hz0,hz1,hz2⟩:=eh Tryz.Hc;have H:=al h;have HI:=al hi0;obtain⟨A,c,rfl,q2,q3,q4,q5⟩:=h;unfold maxLen at q3;have HX:=AF hx Et hb;have hq:A=none/\c=0\/ ∃b o,A=some ⟨b,o,none⟩:=q5.elim (fun h=>h.2.imp (fun h'=>⟨h',h.1⟩) id) (fun⟨b,o,cs,h,_⟩=>.inr ⟨b,o,h⟩);clear q4 q5 hx Et hb hi0;have e1:(((xs.length:Int))==((xs.length:Int)))=true:=by simp
 rcases hq with⟨rfl,rfl⟩|⟨b,o,rfl⟩
 ·have hx0:xs=[]:=de (by omega);subst hx0;go_enter func221,ntmps221;go_wp2_with (at_builtin;refine dH _ rfl _ _ 171 rfl i0 (.pointer none) 8 underlying171 HI.o hz0 hz1 hz2 (by rfl) (by decide) _ [] rfl H.o ⟨vb,0,none⟩ 1 1 [x] rfl rfl (fun y hy=>by rw[gk]at hy;subst hy;exact HX.o.1) (fun j u hj=>by rw[ir,ie];exact pb HX.o.d (by simpa using hj)) (by simpa using HX.o.2.1) (by simp[maxLen]) (by simp) ?_;intro v' w' ho hc;have HO:=AD ho hc;clear ho hc);go_ret
  exact⟨_,rfl,HO.o.1,HO.o.2⟩
 ·by_cases ZO:c=xs.length
  ·subst ZO;go_enter func221,ntmps221;go_wp2_with (at_builtin;refine dH _ rfl _ _ 171 rfl i0 (.pointer none) 8 underlying171 HI.o hz0 hz1 hz2 (by rfl) (by decide) _ xs rfl H.o ⟨vb,0,none⟩ 1 1 [x] rfl rfl (fun y hy=>by rw[gk]at hy;subst hy;exact HX.o.1) (fun j u hj=>by rw[ir,ie];exact pb HX.o.d (by simpa using hj)) (by simpa using HX.o.2.1) (by unfold maxLen;omega) (by omega) ?_;intro v' w' ho hc;have HO:=AD ho hc;clear ho hc);go_ret
   exact⟨_,rfl,HO.o.1,HO.o.2⟩
  ·go_enter func221,ntmps221;go_wp2_with (at_builtin;refine dH _ rfl _ _ 171 rfl i0 (.pointer none) 8 underlying171 HI.o hz0 hz1 hz2 (by rfl) (by decide) _ xs rfl H.o ⟨vb,0,none⟩ 1 1 [x] rfl rfl (fun y hy=>by rw[gk]at hy;subst hy;exact HX.o.1) (fun j u hj=>by rw[ir,ie];exact pb HX.o.d (by simpa using hj)) (by simpa using HX.o.2.1) (by unfold maxLen;omega) (by omega) ?_;intro v' w' ho hc;have HO:=AD ho hc;clear ho hc);go_ret
   exact⟨_,rfl,HO.o.1,HO.o.2⟩
set_option maxRecDepth 1000000 in
theorem LN(w:World)(b a n c i d:Nat)(cs k:List Value)(hi:i<n)(e:n+1<=c)(_e:c<=9223372036854775807)(x:d≠b)(e:n<=1000)
  (s:cs.length=n*1) (u:k.length=1)
  (A: ∀j v,cs[j]?=some v->w.cell? ⟨b,a+j,none⟩=some v) (l: ∀j,j<(n+1)*1->(w.cell? ⟨b,a+j,none⟩).isSome=true) (p: ∀j,j<(n+1)*1->w.frozen? ⟨b,a+j,none⟩=false)
  (z: ∀j v,k[j]?=some v->w.cell? ⟨d,j,none⟩=some v) (t: ∀v∈cs,v.oneCell'=true) (B: ∀v∈k,v.oneCell'=true)
  (m q:TypeId) (g e:Nat) (y:w.shape? d=some (m,g)) (H:w.shape? b=some (q,e)) (C:e≠0) (E:w.frozen? ⟨d,0,none⟩=false) (r:w.frozen? ⟨d,g,none⟩=false):
  Calls prog 221 #[.slice (some ⟨b,a,none⟩) n c,rm i,.slice (some ⟨d,0,none⟩) 1 1] w fun h f=>
   h=.returned (.slice (some ⟨b,a,none⟩) (n+1) c)/\f=(w.drew.setCells b (a+(i+1)) (cs.drop (i))).setCells b (a+i) k:=by
 have o:(prog.info? 169).map (·.size)=some 1:=pM Tryz.Hc;have f: ¬((i:Int)=(n:Int)):=by omega
 have J: ∀f h,(callFunc 249 #[.slice (some ⟨d,0,none⟩) 1 1,.slice (some ⟨b,a+(i+1),none⟩) f h]).run prog w=.ok (.value (.bool false)) w:=fun f h=>by
  rw[run_callFunc_extern func249 (by kernel_rfl) (by kernel_rfl) (by kernel_rfl) (e:=Extern.SlicesOverlaps.overlaps #[171,171] #[4]) (by kernel_rfl),
   Lib.run_overlaps_apart w 171 4 169 underlying171 1 (fun w=>by kernel_rfl) ⟨d,0,none⟩ ⟨b,a+(i+1),none⟩ 1 1 f h x m q g e y H C E r]
  rfl
 have q:(cs.drop (i)).length=(n-i):=by rw[my,s];omega
 have e:IntKind.i64.wrap ((i:Int)+1)=(i:Int)+1:=by rw[me];omega
 have e:(0:Int)<=(i:Int)+1:=by omega
 have e:i<=n:=by omega
 have e:((i:Int)+1).toNat=i+1:=by omega
 have e: ¬(c=i+1):=by omega
 have e:(i:Int)<=(n:Int)+1:=by omega
 have e: ¬(c=i):=by omega
 have I: ∀f g e,(Builtin.copy_ #[171,171] f #[.slice (some ⟨b,a+(i+1),none⟩) (n-i) g,.slice (some ⟨b,a+i,none⟩) (n+1-i) e]).run prog w.drew=.ok (goInt ((n-i:Nat):Int)) (w.drew.setCells b (a+(i+1)) (cs.drop (i))):=fun f g e=>
  cH w.drew _ _ f 169 1 b (a+(i+1)) (n-i) g ⟨b,a+i,none⟩ (n+1-i) e (n-i) (cs.drop (i)) underlying171 o (by simp only[Nat.min_def];split<;>omega) (by first|exact q|(rw[q];omega))
   (fun j v e=>by rw[ir,gC];exact A (i+j) v (by rwa[mw]at e))
   (fun j e=>by rw[gC];exact l _ (by omega)) (fun j e=>by rw[gC];exact p _ (by omega)) (fun v h=>t v (List.mem_of_mem_drop h))
 obtain⟨m,h⟩:=rl (w.drew.setCells b (a+(i+1)) (cs.drop (i)))
 have G: ∀F,F<(n+1)*1->(m.cell? ⟨b,a+F,none⟩).isSome=true:=fun F D=>by rw[h];exact isSome_setCells b _ _ _ (fun j e=>by rw[gC];exact l _ (by omega)) _ (l F D)
 have D: ∀(W:World),(∀F,W.cell? F=m.cell? F)->(∀F,W.frozen? F=m.frozen? F)-> ∀f g,(Builtin.copy_ #[171,171] f #[.slice (some ⟨b,a+i,none⟩) (n+1-i) g,.slice (some ⟨d,0,none⟩) 1 1]).run prog W=.ok (goInt ((1:Nat):Int)) (W.setCells b (a+i) k):=fun W F K f g=>
  cH W _ _ f 169 1 b (a+i) (n+1-i) g ⟨d,0,none⟩ 1 1 1 k underlying171 o (by simp only[Nat.min_def];split<;>omega) (by rw[u])
   (fun j v e=>by
    rw[ir,ie,F,h,World.cell?_setCells_out b _ _ _ _ (fun a _=>absurd a x)]
    exact z j v e)
   (fun j e=>by rw[F,gC];exact G _ (by omega)) (fun j e=>by rw[K,h,World.frozen?_setCells,gC];exact p _ (by omega)) B
 rw[<-h]at I⊢;have a:=al D;have d:=al h;clear D h l p A G z y H E r t B s u q o C;go_enter func221,ntmps221;go_wp2_with (simp only[J])
 go_region_law (refine step_copy_runI rfl _ _ 171 171 rfl _ _ (by simp[Act.eval,Act.put]) (by simp[Act.eval,Act.put]) (I _ _ _) ?_)
 have d:=a.o m (fun _=>rfl) (fun _=>rfl);go_wp2;go_ret
 exact⟨rfl,rfl⟩
set_option maxRecDepth 1000000 in
theorem OC(w:World)(b off n c i vb:Nat)(cs vs:List Value)(hi:i<n)(hnc:n<=c)(hroom:c<n+1)(jW:n<=1000)
  (hcl:cs.length=n*1) (hvl:vs.length=1)
  (hcs: ∀j v,cs[j]?=some v->w.cell? ⟨b,off+j,none⟩=some v)
  (hvs: ∀j v,vs[j]?=some v->w.cell? ⟨vb,j,none⟩=some v) (h1c: ∀v∈cs,v.oneCell'=true) (Ot: ∀v∈vs,v.oneCell'=true):
  Calls prog 221 #[.slice (some ⟨b,off,none⟩) n c,rm i,.slice (some ⟨vb,0,none⟩) 1 1] w fun e w'=>
   ∃(G:Nat) (ROW:Array Value),n+1<=G/\G<=maxLen/\ROW.size=G*1/\(∀(j:Nat) (v:Value),(cs.take (i))[j]?=some v->ROW[j]?=some v)/\e=.returned (.slice (some ⟨w.heap.size,0,none⟩) (n+1) G)/\
   w'=(((w.alloc (.cells ROW 169)).drew.setCells w.heap.size (i) vs).drew).setCells w.heap.size ((i+1)) (cs.drop (i)):=by
 obtain⟨i0,hi0,hz0,hzs,hzb⟩:=eh Tryz.Hc;have hsz:(prog.info? 169).map (·.size)=some 1:=pM Tryz.Hc;have hz2: ¬((i:Int)=(n:Int)):=by omega
 have hz3:(c:Int)<(n:Int)+1:=by omega
 have gP:b<w.heap.size:=aq w _ (hcs 0 _ (ao (by omega)));have SV:vb<w.heap.size:=aq w _ (hvs 0 _ (ao (by omega)));have hkk:(n:Int)+1-(i:Int)=((n+1-i:Nat):Int):=by omega
 have hik:i+(n+1-i)=n+1:=by omega
 have hold:(Builtin.firstCells i0.size i (.slice (some ⟨b,off,none⟩) i c)).run prog w.drew=.ok (cs.take (i)).toArray w.drew:=by
  rw[hzs]
  exact run_firstCells_some w.drew 1 i ⟨b,off,none⟩ i c (cs.take (i)) (by rw[im];omega) (fun j v hj=>by
   rw[ir];rw[lP]at hj;split at hj
   ·exact hcs j v hj
   ·cases hj)
 have SX: ∀ty,(Builtin.append_ #[171,3] ty #[.slice (some ⟨b,off,none⟩) i c,rm ((n:Int)+1-(i:Int))]).run prog w=
   .ok (.slice (some ⟨w.heap.size,0,none⟩) (n+1) (grownCap w (n+1) c 169)) (w.drew.alloc (.cells ((cs.take (i)).toArray++Builtin.zeroCells (Value.cells (.pointer none)) (n+1-i)++Builtin.zeroCells (Value.cells (.pointer none)) (grownCap w (n+1) c 169-(n+1))) 169)):=fun ty=>by
  have h:=Lib.run_append_grow_zeros w 171 3 ty 169 i0 _ .i64 .i64 underlying171 underlying3 hi0 hz0 (some ⟨b,off,none⟩) i c (cs.take (i)) hold (n+1-i) (by omega) (by omega) (by omega) (by omega) (by rw[hzb];omega) (by rw[hzb,hik];exact growslice_fits hroom (by omega));rw[hik]at h;rw[hkk];exact h
 obtain⟨G,hG⟩:=rl (grownCap w (n+1) c 169);obtain⟨ROW,CA⟩: ∃ROW:Array Value,ROW=(cs.take (i)).toArray++Builtin.zeroCells (Value.cells (.pointer none)) (n+1-i)++Builtin.zeroCells (Value.cells (.pointer none)) (G-(n+1)):=⟨_,rfl⟩;rw[<-hG]at SX;rw[<-CA]at SX;have hGn:n+1<=G:=by rw[hG];exact grownCap_ge w _ _ _
 have hGm:G<=maxLen:=by have:=grownCap_le_maxLen w (n+1) c 169 (by unfold maxLen;omega);rw[<-hG]at this;exact this
 have acj:G<=9223372036854775807:=by unfold maxLen at hGm;omega
 have Oy:ROW.size=G*1:=by rw[CA];simp only[Array.size_append,lz,size_zeroCells,Value.cells,im];simp;omega
 have hRl:(n+1)*1<=ROW.size:=by rw[Oy];omega
 have W6: ∀(j:Nat) (v:Value),(cs.take (i))[j]?=some v->ROW[j]?=some v:=by intro j v hj;have hlt:=(aw.1 hj).1;rw[CA,Array.append_assoc,Array.getElem?_append_left (by simpa using hlt)];simpa using hj
 obtain⟨W1,hW1⟩:=rl (w.drew.alloc (.cells ROW 169));rw[<-hW1]at SX
 have hN: ∀j,j<(n+1)*1->(W1.cell? ⟨w.heap.size,j,none⟩).isSome=true:=fun j hj=>by rw[hW1,World.cell?_alloc_at (w:=w.drew) ROW _ w.heap.size j rfl,fl (by omega)];rfl
 have Xa: ∀j,W1.frozen? ⟨w.heap.size,j,none⟩=false:=fun j=>by rw[hW1];exact World.frozen?_alloc_at (w:=w.drew) ROW _ w.heap.size j rfl
 have hOb: ∀j v,w.cell? ⟨b,j,none⟩=some v->W1.cell? ⟨b,j,none⟩=some v:=fun j v h=>by rw[hW1,World.cell?_alloc_past (w:=w.drew) _ b j gP];exact h
 have hOv: ∀j v,w.cell? ⟨vb,j,none⟩=some v->W1.cell? ⟨vb,j,none⟩=some v:=fun j v h=>by rw[hW1,World.cell?_alloc_past (w:=w.drew) _ vb j SV];exact h
 have Oz: ∀(W:World),(∀x,W.cell? x=W1.cell? x)->(∀x,W.frozen? x=W1.frozen? x)-> ∀ty dc,(Builtin.copy_ #[171,171] ty #[.slice (some ⟨w.heap.size,i,none⟩) (n+1-i) dc,.slice (some ⟨vb,0,none⟩) 1 1]).run prog W=.ok (goInt ((1:Nat):Int)) (W.setCells w.heap.size (i) vs):=fun W Eu Ow ty dc=>
  cH W _ _ ty 169 1 w.heap.size (i) (n+1-i) dc ⟨vb,0,none⟩ 1 1 1 vs underlying171 hsz (by simp only[Nat.min_def];split<;>omega) (by rw[hvl])
   (fun j v hj=>by rw[ir,ie,Eu];exact hOv _ v (hvs j v hj))
   (fun j hj=>by rw[Eu];exact hN _ (by omega)) (fun j hj=>by rw[Ow];exact Xa _) Ot
 have hGi: ¬(G=i):=by omega
 have ack: ¬(G=i+1):=by omega
 have hci: ¬(c=i):=by omega
 have hbN:b≠w.heap.size:=by omega
 have om:(cs.drop (i)).length=(n-i):=by rw[my,hcl];omega
 have OA: ∀(W:World),(∀x,W.cell? x=(W1.setCells w.heap.size (i) vs).cell? x)->(∀x,W.frozen? x=(W1.setCells w.heap.size (i) vs).frozen? x)-> ∀ty dc sc,(Builtin.copy_ #[171,171] ty #[.slice (some ⟨w.heap.size,(i+1),none⟩) (n-i) dc,.slice (some ⟨b,off+i,none⟩) (n-i) sc]).run prog W=.ok (goInt ((n-i:Nat):Int)) (W.setCells w.heap.size ((i+1)) (cs.drop (i))):=fun W Eu Ow ty dc sc=>
  cH W _ _ ty 169 1 w.heap.size ((i+1)) (n-i) dc ⟨b,off+i,none⟩ (n-i) sc (n-i) (cs.drop (i)) underlying171 hsz (by simp only[Nat.min_def];split<;>omega) (by first|exact om|(rw[om];omega))
   (fun j v hj=>by
    rw[ir,Eu,World.cell?_setCells_out _ _ _ _ _ (fun h _=>absurd h hbN),gC]
    exact hOb _ v (hcs (i+j) v (by rwa[mw]at hj)))
   (fun j hj=>by rw[Eu];exact isSome_setCells _ _ _ _ (fun t ht=>hN _ (by omega)) _ (hN _ (by omega)))
   (fun j hj=>by rw[Ow,World.frozen?_setCells];exact Xa _) (fun v hv=>h1c v (List.mem_of_mem_drop hv))
 subst hW1;have aae:=Oz ((w.alloc (.cells ROW 169)).drew) (fun x=>rfl) (fun x=>rfl);have OB:=OA (((w.alloc (.cells ROW 169)).drew.setCells w.heap.size (i) vs).drew) (fun x=>rfl) (fun x=>rfl);have hw1:IntKind.i64.wrap ((i:Int)+1)=(i:Int)+1:=by rw[me];omega
 have hb1:(0:Int)<=(i:Int)+1:=by omega
 have hin:i<=n:=by omega
 have htn:((i:Int)+1).toNat=i+1:=by omega
 have hb3:(i:Int)<=(n:Int):=by omega
 have HF:=al (show ∃(G':Nat) (CB:Array Value),n+1<=G'/\G'<=maxLen/\CB.size=G'*1/\(∀(j:Nat) (v:Value),(cs.take (i))[j]?=some v->CB[j]?=some v)/\G'=G/\CB=ROW from⟨G,ROW,hGn,hGm,Oy,W6,rfl,rfl⟩);clear hkk hik hold CA hG hRl Oy W6 hN Xa hOb hOv Oz OA hsz hcs hvs h1c Ot hcl hvl om hzs hzb hz0 hi0;go_enter func221,ntmps221;go_wp2_with (at_builtin;refine Lib.wpList_append_run _ rfl _ _ _ _ rfl _ _ rfl rfl _ _ (SX _) ?_)
 go_region_law (refine step_copy_runI rfl _ _ 171 171 rfl _ _ (by simp[Act.eval,Act.put]) (by simp[Act.eval,Act.put]) (OB _ _ _) ?_)
 go_wp2;go_ret
 obtain⟨G',CB,a1,a2,a3,a4,rfl,rfl⟩:=HF.o;exact⟨_,_,a1,a2,a3,a4,rfl,rfl⟩
theorem S3(w:World)(F:Nat->Nat->Prop)(v:Value)(xs:List (List Value))(i:Nat)(x:List Value)(a:Nat)(f:aG 1 169 w v xs F)(hi:i<=xs.length)(g:xs.length<=1000)(e:x.length=1)(l: ∀u∈x,u.oneCell'=true)(s: ∀u∈xs.flatten,u.oneCell'=true)
  (c:w.heap[a]?=some (.cells x.toArray 169 (0,0))) (y: ∀j,¬F a j):
  Calls prog 221 #[v,rm i,.slice (some ⟨a,0,none⟩) 1 1] w (Er 1 169 w F (xs.take i++x::xs.drop i)):=by
 by_cases b:i=xs.length
 ·subst b;have:=SZ w F v xs x a f g e l c;simpa using this
 ·obtain⟨D,b,C,B,rfl,z,r,h,d,A,p,q⟩:=f.lies (by omega);have n:=bP h;have o: ∀j u,xs.flatten[j]?=some u->w.cell? ⟨D,b+j,none⟩=some u:=fun j u f=>pb d (q j u f);have m: ∀j u,x[j]?=some u->w.cell? ⟨a,j,none⟩=some u:=fun j u f=>pb c (by simpa using f);by_cases k:xs.length+1<=C
  ·have t:(xs.length+1)*1<=C*1:=ea _ k;have t:a≠D:=fun E=>y b (by rw[E];exact p b (b8 _) (by omega));have u:=jo c
   have:=LN w D b xs.length C i a xs.flatten x (by omega) k (by unfold maxLen at r;omega) t g n e o
    (fun j f=>by simp[World.cell?,d,fl (show b+j<B.size by omega)]) (fun j _=>frozen_of_heap d _) m s l _ _ _ _ u (jo d) (by omega) (frozen_of_heap c _) (frozen_of_heap c _)
   refine this.m ?_;rintro E f ⟨rfl,rfl⟩;have c:=uo (F:=F) (by decide) (show i<xs.length by omega) k r h e d A p q;simpa using c
  ·have:=OC w D b xs.length C i a xs.flatten x (by omega) z (by omega) g n e o m s l;refine this.m ?_;rintro E f ⟨G,j,a,b,g,d,rfl,rfl⟩;have c:=AX (F:=F) (t:=169) (w:=w) (k:=1) (by decide) (show i<xs.length by omega) a b h e g (by simpa using d);simpa using c
theorem qu{P:Program}(w:World)(t e d:TypeId)(z:Value)(a:List Value)(f:P.underlying t=some (.slice e))(h: ∀w,(zeroValue e).run P w=.ok z w)(g:(Builtin.zeroCells z.cells 1).toList=a)(l: ∀v∈a,v.oneCell'=true)(b o c:Nat)
  (i: ∀j,j<a.length->(w.cell? ⟨b,o+j,none⟩).isSome=true) (k: ∀j,j<a.length->w.frozen? ⟨b,o+j,none⟩=false):
  (Builtin.clear_ #[t] d #[.slice (some ⟨b,o,none⟩) 1 c]).run P w=.ok (.tuple #[]) (w.setCells b o a):=by
 have d:=run_storeCells_cells (P:=P) b o a 0 w (by simpa using i) (by simpa using k) l;simp only[mS]at d;simp[Builtin.clear_,run_underlying f,h,g,d]
def Xc(k:Nat)(t:TypeId)(w:World)(F:Nat->Nat->Prop)(ys:List (List Value))(e:Ending)(w':World):Prop:=
 ∃a,e=.returned a/\aG k t w' a ys F/\OnlyC F w w'
theorem Ev{k:Nat}{t:TypeId}{w:World}{F:Nat->Nat->Prop}{b a c i:Nat}{cs:Array Value}{xs:List (List Value)}{f:List Value}(hi:i<xs.length)(d:xs.length<=c)(o:c<=maxLen)(e: ∀A∈xs,A.length=k)(n:f.length=k)
  (p:w.heap[b]?=some (.cells cs t (0,0))) (y:a+c*k<=cs.size) (g: ∀j,a<=j->j<a+c*k->F b j) (q: ∀j u,xs.flatten[j]?=some u->cs[a+j]?=some u):
  Xc k t w F (xs.take i++xs.drop (i+1)) (.returned (.slice (some ⟨b,a,none⟩) (xs.length-1) c)) ((w.drew.setCells b (a+i*k) (xs.flatten.drop ((i+1)*k))).setCells b (a+(xs.length-1)*k) f):=by
 have m:=bP e;have h:xs.length*k<=c*k:=ea k d;have d:(i+1)*k<=xs.length*k:=ea k hi;have h:(xs.length-1)*k+k=xs.length*k:=by rw[<-lr];congr 1;omega
 have h:(xs.flatten.drop ((i+1)*k)).length=xs.length*k-(i+1)*k:=by rw[my,m]
 rw[lr]at d;obtain⟨l,x,v,r,s⟩:=cy (xs.flatten.drop ((i+1)*k)) (a+i*k) w.drew cs p (by rw[h,lr];omega);obtain⟨C,d,p,z,B⟩:=cy f (a+(xs.length-1)*k) _ l x (by rw[n];omega);refine⟨_,rfl,aG.rewritten (n:=xs.length-1) d (p.x v) y g (by simp;omega) (by omega) o (fun A d=>(dr.1 d).elim (fun o=>e A (List.mem_of_mem_take o)) (fun o=>e A (List.mem_of_mem_drop o))) (fun j u d=>?_),?_⟩
 ·rw[la,AU e (i+1) hi,AV e i (by omega)]at d;have e:(xs.flatten.take (i*k)).length=i*k:=by rw[im,m];omega
  have m:=(aw.1 d).1;rw[gr,e,h,lr]at m;rw[z _ (by rw[n];omega)];by_cases l:j<i*k
  ·rw[lk (by omega),lP,ff l]at d;rw[r _ (by omega)];exact q j u d
  ·rw[iv (by omega),e]at d;have:=s _ u d;rwa[show a+i*k+(j-i*k)=a+j by omega]at this
 ·refine OnlyC.dV (w:=w) (OnlyC.trans (F:=F) (G:=F) ((bU b (xs.flatten.drop ((i+1)*k)) (a+i*k) w.drew).m (fun m j _ ⟨d,l,e⟩=>?_)) ((bU b f (a+(xs.length-1)*k) _).m (fun m j _ ⟨d,l,e⟩=>?_)) (fun _ _ _ o=>o))
  ·subst d;rw[h,lr]at e;exact g j (by omega) (by omega)
  ·subst d;exact g j (by omega) (by omega)
set_option maxRecDepth 1000000 in
theorem OD(w:World)(b a n c i j:Nat)(cs:List Value)(d:Hid (j=i+1))(e:i<j)(hi:i<n)(e:j<=n)(e:n<=c)(_f:c<=maxLen)(e:n<=1000)(r:cs.length=n*2)
  (v: ∀j e,cs[j]?=some e->w.cell? ⟨b,a+j,none⟩=some e) (l: ∀j,j<n*2->(w.cell? ⟨b,a+j,none⟩).isSome=true) (m: ∀j,j<n*2->w.frozen? ⟨b,a+j,none⟩=false) (s: ∀e∈cs,e.oneCell'=true):
  Calls prog 214 #[.slice (some ⟨b,a,none⟩) n c,rm i,rm j] w fun g e=>
   g=.returned (.slice (some ⟨b,a,none⟩) (n-1) c)/\e=(w.drew.setCells b (a+i*2) (cs.drop ((i+1)*2))).setCells b (a+(n-1)*2) [.string ⟨#[]⟩,.string ⟨#[]⟩]:=by
 obtain⟨C,z,g,y,e⟩:=eh Tryz.Hb;unfold maxLen at _f;obtain⟨e,g⟩:=rl (cs.drop (j*2));have h:e.length=(n-j)*2:=by rw[g,my,r];omega
 obtain⟨E,f,x⟩: ∃E:Addr,(if c=j then some (⟨b,a,none⟩:Addr)else some ⟨b,a+j*2,none⟩)=some E/\Hid (∀t u,e[t]?=some u->w.drew.cell? (E.add t)=some u):=by
  by_cases o:c=j
  ·refine⟨⟨b,a,none⟩,by simp[o],fun t u f=>?_⟩;have k:e.length=0:=by rw[h];omega
   rw[List.length_eq_zero_iff.1 k]at f;simp at f
  ·refine⟨⟨b,a+j*2,none⟩,by simp[o],fun t u f=>?_⟩;rw[ir,gC];rw[g,mw]at f;have:=v _ u f
   first|exact this|simpa using this
 have D:Hid (e.length=(n-j)*2):=al h;have A:Hid (∀u∈e,u.oneCell'=true):=al (by rw[g];exact fun u f=>s u (List.mem_of_mem_drop f))
 have B:Hid (∀t,t<e.length->(w.drew.cell? ⟨b,a+i*2+t,none⟩).isSome=true/\w.drew.frozen? ⟨b,a+i*2+t,none⟩=false):=by intro t o;rw[h]at o;rw[gC];exact⟨l _ (by omega),m _ (by omega)⟩
 obtain⟨f,k⟩:=rl (w.drew.setCells b (a+i*2) e)
 have u: ∀j,j<n*2->(f.cell? ⟨b,a+j,none⟩).isSome=true:=fun j d=>by rw[k];exact isSome_setCells b _ _ _ (fun t o=>by rw[h]at o;rw[gC];exact l _ (by omega)) _ (l j d)
 have t: ∀j,j<n*2->f.frozen? ⟨b,a+j,none⟩=false:=fun j d=>by rw[k,World.frozen?_setCells];exact m j d
 have q:n-(i+(n-j))=1:=by have:=d.o;omega
 have o: ∀p o,(Builtin.clear_ #[170] p #[.slice (some ⟨b,a+(i+(n-j))*2,none⟩) (n-(i+(n-j))) o]).run prog f=.ok (.tuple #[]) (f.setCells b (a+(i+(n-j))*2) [.string ⟨#[]⟩,.string ⟨#[]⟩]):=fun p o=>by rw[q];exact qu f 170 220 p (.agg #[.string ⟨#[]⟩,.string ⟨#[]⟩]) [.string ⟨#[]⟩,.string ⟨#[]⟩] underlying170 (fun w=>by kernel_rfl) (by kernel_rfl) (by simp;first|rfl|(constructor<;>rfl)) b (a+(i+(n-j))*2) o (fun j d=>by simp at d;rw[gC];exact u _ (by omega)) (fun j d=>by simp at d;rw[gC];exact t _ (by omega))
 have p:Hid (f=w.drew.setCells b (a+i*2) e):=al k;have o:=al (show i+(n-j)=n-1/\f.setCells b (a+(i+(n-j))*2) [.string ⟨#[]⟩,.string ⟨#[]⟩]=(w.drew.setCells b (a+i*2) (cs.drop ((i+1)*2))).setCells b (a+(n-1)*2) [.string ⟨#[]⟩,.string ⟨#[]⟩]from⟨by omega,by rw[k,g,d.o,show i+(n-(i+1))=n-1 by have:=d.o;omega]<;>simp⟩);have d:i<=c:=by omega
 have d:j<=c:=by omega
 clear k l m v s r h g u t q;go_enter func214,ntmps214;go_wp2
 go_region_law (refine step_append_room rfl (.tmp 22) (.tmp 25) 170 rfl 220 C 2 underlying170 z y b a i c (by simp[Act.eval,Act.put]) E (n-j) (c-j) e (by simp[Act.eval,Act.put]) D.o x.o A.o (by omega) B.o ?_;rw[<-p.o])
 go_wp2;go_ret
 exact⟨by rw[o.o.1];rfl,o.o.2⟩
theorem l8(w:World)(F:Nat->Nat->Prop)(v:Value)(xs:List (List Value))(i:Nat)(a z:Int)(b:a=(i:Int))(c:z=(i:Int)+1)(j:aG 2 220 w v xs F)(hi:i<xs.length)(f:xs.length<=1000)(n: ∀u∈xs.flatten,u.oneCell'=true):
  Calls prog 214 #[v,rm a,rm z] w (Xc 2 220 w F (xs.take i++xs.drop (i+1))):=by
 subst b;obtain rfl:z=((i+1:Nat):Int):=by omega
 obtain⟨q,d,o,m,rfl,c,h,e,b,l,k,g⟩:=j.lies (by omega);have j:=bP e;have p:xs.length*2<=o*2:=ea _ c;have:=OD w q d xs.length o i (i+1) xs.flatten (al rfl) (by omega) hi hi c h f j (fun j u f=>pb b (g j u f)) (fun j f=>by simp[World.cell?,b,fl (show d+j<m.size by omega)]) (fun j _=>frozen_of_heap b _) n;refine this.m ?_;rintro f d ⟨rfl,rfl⟩;exact Ev hi c h e (by rfl) b l k g
theorem jw(w:World)(F:Nat->Nat->Prop)(v:Value)(xs:List (List Value))(i:Nat)(a:Int)(f:a=(i:Int))(x:List Value)(b:Nat)(l:aG 2 220 w v xs F)(hi:i<=xs.length)(c:xs.length<=1000)(e:x.length=2)(h: ∀u∈x,u.oneCell'=true)(j: ∀u∈xs.flatten,u.oneCell'=true)
  (g:w.heap[b]?=some (.cells x.toArray 220 (0,0))) (d: ∀k,¬F b k):
  Calls prog 220 #[v,rm a,.slice (some ⟨b,0,none⟩) 1 1] w (Er 2 220 w F (xs.take i++x::xs.drop i)):=by
 subst f;exact SY w F v xs i x b l hi c e h j g d
set_option maxRecDepth 1000000 in
theorem OG(w:World)(b a n c i j:Nat)(cs:List Value)(d:Hid (j=i+1))(e:i<j)(hi:i<n)(e:j<=n)(e:n<=c)(_f:c<=maxLen)(e:n<=1000)(r:cs.length=n*1)
  (v: ∀j e,cs[j]?=some e->w.cell? ⟨b,a+j,none⟩=some e) (l: ∀j,j<n*1->(w.cell? ⟨b,a+j,none⟩).isSome=true) (m: ∀j,j<n*1->w.frozen? ⟨b,a+j,none⟩=false) (s: ∀e∈cs,e.oneCell'=true):
  Calls prog 270 #[.slice (some ⟨b,a,none⟩) n c,rm i,rm j] w fun g e=>
   g=.returned (.slice (some ⟨b,a,none⟩) (n-1) c)/\e=(w.drew.setCells b (a+i*1) (cs.drop ((i+1)*1))).setCells b (a+(n-1)*1) [.pointer none]:=by
 obtain⟨C,z,g,y,e⟩:=eh Tryz.Hc;unfold maxLen at _f;obtain⟨e,g⟩:=rl (cs.drop (j*1));have h:e.length=(n-j)*1:=by rw[g,my,r];omega
 obtain⟨E,f,x⟩: ∃E:Addr,(if c=j then some (⟨b,a,none⟩:Addr)else some ⟨b,a+j,none⟩)=some E/\Hid (∀t u,e[t]?=some u->w.drew.cell? (E.add t)=some u):=by
  by_cases o:c=j
  ·refine⟨⟨b,a,none⟩,by simp[o],fun t u f=>?_⟩;have k:e.length=0:=by rw[h];omega
   rw[List.length_eq_zero_iff.1 k]at f;simp at f
  ·refine⟨⟨b,a+j,none⟩,by simp[o],fun t u f=>?_⟩;rw[ir,gC];rw[g,mw]at f;have:=v _ u f
   first|exact this|simpa using this
 have D:Hid (e.length=(n-j)*1):=al h;have A:Hid (∀u∈e,u.oneCell'=true):=al (by rw[g];exact fun u f=>s u (List.mem_of_mem_drop f))
 have B:Hid (∀t,t<e.length->(w.drew.cell? ⟨b,a+i*1+t,none⟩).isSome=true/\w.drew.frozen? ⟨b,a+i*1+t,none⟩=false):=by intro t o;rw[h]at o;rw[gC];exact⟨l _ (by omega),m _ (by omega)⟩
 obtain⟨f,k⟩:=rl (w.drew.setCells b (a+i*1) e)
 have u: ∀j,j<n*1->(f.cell? ⟨b,a+j,none⟩).isSome=true:=fun j d=>by rw[k];exact isSome_setCells b _ _ _ (fun t o=>by rw[h]at o;rw[gC];exact l _ (by omega)) _ (l j d)
 have t: ∀j,j<n*1->f.frozen? ⟨b,a+j,none⟩=false:=fun j d=>by rw[k,World.frozen?_setCells];exact m j d
 have q:n-(i+(n-j))=1:=by have:=d.o;omega
 have o: ∀p o,(Builtin.clear_ #[171] p #[.slice (some ⟨b,a+(i+(n-j)),none⟩) (n-(i+(n-j))) o]).run prog f=.ok (.tuple #[]) (f.setCells b (a+(i+(n-j))) [.pointer none]):=fun p o=>by rw[q];exact qu f 171 169 p (.pointer none) [.pointer none] underlying171 (fun w=>by kernel_rfl) (by kernel_rfl) (by simp;first|rfl|(constructor<;>rfl)) b (a+(i+(n-j))) o (fun j d=>by simp at d;rw[gC];exact u _ (by omega)) (fun j d=>by simp at d;rw[gC];exact t _ (by omega))
 have p:Hid (f=w.drew.setCells b (a+i*1) e):=al k;have o:=al (show i+(n-j)=n-1/\f.setCells b (a+(i+(n-j))) [.pointer none]=(w.drew.setCells b (a+i*1) (cs.drop ((i+1)*1))).setCells b (a+(n-1)*1) [.pointer none]from⟨by omega,by rw[k,g,d.o,show i+(n-(i+1))=n-1 by have:=d.o;omega]<;>simp⟩);have d:i<=c:=by omega
 have d:j<=c:=by omega
 clear k l m v s r h g u t q;go_enter func270,ntmps270;go_wp2
 go_region_law (refine step_append_room rfl (.tmp 22) (.tmp 25) 171 rfl 169 C 1 underlying171 z y b a i c (by simp[Act.eval,Act.put]) E (n-j) (c-j) e (by simp[Act.eval,Act.put]) D.o x.o A.o (by omega) B.o ?_;rw[<-p.o])
 go_wp2;go_ret
 exact⟨by rw[o.o.1];rfl,o.o.2⟩
theorem jq(w:World)(F:Nat->Nat->Prop)(v:Value)(xs:List (List Value))(i:Nat)(a z:Int)(b:a=(i:Int))(c:z=(i:Int)+1)(j:aG 1 169 w v xs F)(hi:i<xs.length)(f:xs.length<=1000)(n: ∀u∈xs.flatten,u.oneCell'=true):
  Calls prog 270 #[v,rm a,rm z] w (Xc 1 169 w F (xs.take i++xs.drop (i+1))):=by
 subst b;obtain rfl:z=((i+1:Nat):Int):=by omega
 obtain⟨q,d,o,m,rfl,c,h,e,b,l,k,g⟩:=j.lies (by omega);have j:=bP e;have p:xs.length*1<=o*1:=ea _ c;have:=OG w q d xs.length o i (i+1) xs.flatten (al rfl) (by omega) hi hi c h f j (fun j u f=>pb b (g j u f)) (fun j f=>by simp[World.cell?,b,fl (show d+j<m.size by omega)]) (fun j _=>frozen_of_heap b _) n;refine this.m ?_;rintro f d ⟨rfl,rfl⟩;exact Ev hi c h e (by rfl) b l k g
theorem jx(w:World)(F:Nat->Nat->Prop)(v:Value)(xs:List (List Value))(i:Nat)(a:Int)(f:a=(i:Int))(x:List Value)(b:Nat)(l:aG 1 169 w v xs F)(hi:i<=xs.length)(c:xs.length<=1000)(e:x.length=1)(h: ∀u∈x,u.oneCell'=true)(j: ∀u∈xs.flatten,u.oneCell'=true)
  (g:w.heap[b]?=some (.cells x.toArray 169 (0,0))) (d: ∀k,¬F b k):
  Calls prog 221 #[v,rm a,.slice (some ⟨b,0,none⟩) 1 1] w (Er 1 169 w F (xs.take i++x::xs.drop i)):=by
 subst f;exact S3 w F v xs i x b l hi c e h j g d
end Go.Proofs.YtehccbdajiiaaaaGreatDoor
