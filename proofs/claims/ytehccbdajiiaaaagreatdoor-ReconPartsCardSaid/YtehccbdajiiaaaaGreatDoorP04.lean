import Derived.Test.YtehccbdajiiaaaaGreatDoorP03
import Derived.Test.YtehccbdajiiaaaaGreatDoorProg
import Derived.Shelf.Spec.SlicesInsertGrow
import Derived.Deep.RegionLaw
namespace Go.Proofs.YtehccbdajiiaaaaGreatDoor
open Go.Proofs.Tryz
set_option maxRecDepth 100000
set_option maxHeartbeats 16000000
open Go.RowKit
theorem cD{P:Program}(w:World)(g q s c:TypeId)(k b o e l:Nat)(a:Addr)(d f n:Nat)(cs:List Value)
  (y:P.underlying g=some (.slice c)) (h:(P.info? c).map (·.size)=some k) (p:Nat.min d e=n) (r:cs.length=n*k)
  (i: ∀j m,cs[j]?=some m->w.cell? (a.add j)=some m) (t: ∀j,j<cs.length->(w.cell? ⟨b,o+j,none⟩).isSome=true) (v: ∀j,j<cs.length->w.frozen? ⟨b,o+j,none⟩=false) (x: ∀m∈cs,m.oneCell'=true):
  (Builtin.copy_ #[g,q] s #[.slice (some ⟨b,o,none⟩) e l,.slice (some a) d f]).run P w=.ok (goInt n) (w.setCells b o cs):=by
 have j:=run_firstCells_some (P:=P) w k n a d f cs r i;have m:=run_storeCells_cells (P:=P) b o cs 0 w (by simpa using t) (by simpa using v) x
 cases hq:P.info? c with
 |none=>simp[hq]at h
 |some z=>
  have u:z.size=k:=by simpa[hq]using h
  subst u;simp[Builtin.copy_,run_underlying y,Builtin.lenOf,sizeOf,typeInfo,hq,p,j,m]
def DI(k:Nat)(t:TypeId)(w:World)(F:Nat->Nat->Prop)(ys:List (List Value))(e:Ending)(w':World):Prop:=
 ∃a,e=.returned a/\aH k t w' a ys (fun b o=>F b o\/w.heap.size<=b)/\OnlyC F w w'
theorem pq{P:Program}{e:TypeId}{z:Value}{k b:Nat}(h:(P.info? e).map (fun i=>(i.zero,i.size,i.bytes))=some (some z,k,b)):(P.info? e).map (·.size)=some k:=by obtain⟨d,a,_,c,_⟩:=ef h;rw[a];simp[c]
theorem zT{k:Nat}{xs:List (List Value)}(b: ∀x∈xs,x.length=k)(i:Nat)(hi:i<=xs.length):(xs.drop i).flatten=xs.flatten.drop (i*k):=by
 have h:=ew List.flatten (List.take_append_drop i xs);rw[lE]at h;have c:(xs.take i).flatten.length=i*k:=by rw[bL (fun x a=>b x (List.mem_of_mem_take a)),lk,oB hi]
 rw[<-h,<-c,List.drop_left]
theorem zU{k:Nat}{xs:List (List Value)}(b: ∀x∈xs,x.length=k)(i:Nat)(hi:i<=xs.length):(xs.take i).flatten=xs.flatten.take (i*k):=by
 have h:=ew List.flatten (List.take_append_drop i xs);rw[lE]at h;have c:(xs.take i).flatten.length=i*k:=by rw[bL (fun x a=>b x (List.mem_of_mem_take a)),lk,oB hi]
 rw[<-h,<-c,List.take_left]
theorem DJ{k i:Nat}{xs:List (List Value)}{x:List Value}(b: ∀y∈xs,y.length=k)(c:x.length=k): ∀y∈xs.take i++x::xs.drop i,y.length=k:=by
 intro y a;rcases dr.1 a with a|a
 ·exact b y (List.mem_of_mem_take a)
 ·rcases eR.1 a with rfl|a
  ·exact c
  ·exact b y (List.mem_of_mem_drop a)
theorem spliced{k i:Nat}{xs:List (List Value)}{x:List Value}(c: ∀y∈xs,y.length=k)(f:x.length=k)(hi:i<=xs.length)(b:Nat->Option Value)
  (l: ∀(j:Nat) (u:Value),(xs.flatten.take (i*k))[j]?=some u->b j=some u) (h: ∀(j:Nat) (u:Value),x[j]?=some u->b (i*k+j)=some u) (g: ∀(j:Nat) (u:Value),(xs.flatten.drop (i*k))[j]?=some u->b ((i+1)*k+j)=some u):
  ∀(j:Nat) (u:Value),(xs.take i++x::xs.drop i).flatten[j]?=some u->b j=some u:=by
 intro j u a;rw[lE,List.flatten_cons,zT c i hi,zU c i hi]at a;have d:=bL c;have m:i*k<=xs.length*k:=dy k hi;have e:(xs.flatten.take (i*k)).length=i*k:=by rw[lk,d];omega
 by_cases o:j<i*k
 ·rw[kt (by omega)]at a;exact l j u a
 ·rw[kb (by omega),e]at a;by_cases n:j-i*k<k
  ·rw[kt (by omega)]at a;have:=h _ u a;rwa[show i*k+(j-i*k)=j by omega]at this
  ·rw[kb (by omega),f]at a;have:=g _ u a;rw[lp]at this;rwa[show i*k+k+(j-i*k-k)=j by omega]at this
theorem jh{w:World}{b:Nat}{cs:Array Value}{t:TypeId}(h:w.heap[b]?=some (.cells cs t (0,0))):w.shape? b=some (t,cs.size):=by simp[World.shape?,h]
theorem tJ{k:Nat}{t:TypeId}{w:World}{F:Nat->Nat->Prop}{b a c i:Nat}{cs:Array Value}{xs:List (List Value)}{x:List Value}(K:0<k)(hi:i<xs.length)(m:xs.length+1<=c)(s:c<=maxLen)(g: ∀y∈xs,y.length=k)(h:x.length=k)
  (v:w.heap[b]?=some (.cells cs t (0,0))) (y:a+c*k<=cs.size) (l: ∀j,a<=j->j<a+c*k->F b j) (D: ∀j u,xs.flatten[j]?=some u->cs[a+j]?=some u):
  DI k t w F (xs.take i++x::xs.drop i) (.returned (.slice (some ⟨b,a,none⟩) (xs.length+1) c)) ((w.drew.setCells b (a+(i+1)*k) (xs.flatten.drop (i*k))).setCells b (a+i*k) x):=by
 have r:=bL g;have q:(xs.length+1)*k<=c*k:=dy k m;have z:(i+1)*k<=xs.length*k:=dy k hi;rw[lp]at q z;have n:(xs.flatten.drop (i*k)).length=xs.length*k-i*k:=by rw[nf,r]
 obtain⟨C,E,A,H,J⟩:=ct (xs.flatten.drop (i*k)) (a+(i+1)*k) w.drew cs v (by rw[n,lp];omega);obtain⟨e,G,I,o,B⟩:=ct x (a+i*k) _ C E (by rw[h];omega);refine⟨_,rfl,aH.rewritten (n:=xs.length+1) G (I.x A) y (fun j d b=>.inl (l j d b)) (by simp;omega) m s (DJ g h) (spliced g h (Nat.le_of_lt hi) (fun j=>e[a+j]?) (fun j u d=>?_) (fun j u d=>?_) (fun j u d=>?_)),?_⟩
 ·have f:=(bd.1 d).1;rw[lk]at f;rw[mu]at d;split at d
  ·show e[a+j]?=some u;rw[o _ (by omega),H _ (by rw[lp];omega)];exact D j u d
  ·cases d
 ·show e[a+(i*k+j)]?=some u;rw[<-gO];exact B j u d
 ·have f:=(bd.1 d).1;rw[n]at f;show e[a+((i+1)*k+j)]?=some u;rw[<-gO,o _ (by rw[lp];omega)];exact J j u d
 ·refine OnlyC.fI (w:=w) (OnlyC.trans (F:=F) (G:=F) ((bQ b (xs.flatten.drop (i*k)) (a+(i+1)*k) w.drew).m (fun u j _ ⟨d,p,f⟩=>?_)) ((bQ b x (a+i*k) _).m (fun u j _ ⟨d,p,f⟩=>?_)) (fun _ _ _ u=>u))
  ·subst d;rw[lp]at p f;exact l j (by omega) (by omega)
  ·subst d;exact l j (by omega) (by omega)
theorem zW{k:Nat}{t:TypeId}{w:World}{F:Nat->Nat->Prop}{G i:Nat}{a:Array Value}{xs:List (List Value)}{x:List Value}(H:0<k)(hi:i<xs.length)(l:xs.length+1<=G)(p:G<=maxLen)(e: ∀y∈xs,y.length=k)(f:x.length=k)
  (I:a.size=G*k) (z: ∀(j:Nat) (v:Value),(xs.flatten.take (i*k))[j]?=some v->a[j]?=some v):
  DI k t w F (xs.take i++x::xs.drop i) (.returned (.slice (some ⟨w.heap.size,0,none⟩) (xs.length+1) G)) ((((w.alloc (.cells a t)).drew.setCells w.heap.size (i*k) x).drew).setCells w.heap.size ((i+1)*k) (xs.flatten.drop (i*k))):=by
 have o:=bL e;have n:(xs.length+1)*k<=G*k:=dy k l;have r:(i+1)*k<=xs.length*k:=dy k hi;rw[lp]at n r;have q:(xs.flatten.drop (i*k)).length=xs.length*k-i*k:=by rw[nf,o]
 have c:(w.alloc (.cells a t)).drew.heap[w.heap.size]?=some (.cells a t (0,0)):=an w _;obtain⟨y,A,s,C,E⟩:=ct x (i*k) _ a c (by rw[f];omega);obtain⟨d,B,D,h,v⟩:=ct (xs.flatten.drop (i*k)) ((i+1)*k) (((w.alloc (.cells a t)).drew.setCells w.heap.size (i*k) x).drew) y A (by rw[q,lp];omega);refine⟨_,rfl,aH.rewritten (n:=xs.length+1) (o:=0) B (D.x s) (by omega) (fun j b m=>.inr (b8 _)) (by simp;omega) l p (DJ e f) (spliced e f (Nat.le_of_lt hi) (fun j=>d[0+j]?) (fun j u b=>?_) (fun j u b=>?_) (fun j u b=>?_)),?_⟩
 ·have g:=(bd.1 b).1;rw[lk]at g;show d[0+j]?=some u;rw[gR,h _ (by rw[lp];omega),C _ (by omega)];exact z j u b
 ·have g:=(bd.1 b).1;show d[0+(i*k+j)]?=some u;rw[gR,h _ (by rw[lp];omega)];exact E j u b
 ·show d[0+((i+1)*k+j)]?=some u;rw[gR];exact v j u b
 ·refine o0 ?_ F;have b:OnlyC (fun m _=>w.heap.size<=m) w (w.alloc (.cells a t)).drew:=((OnlyC.refl _ w).alloc _).drew;have u:=b.x (bQ w.heap.size x (i*k) _) (fun m j c ⟨J,_⟩=>by omega);have g:=u.drew.x (bQ w.heap.size (xs.flatten.drop (i*k)) ((i+1)*k) _) (fun m j c ⟨J,_⟩=>by omega);exact g.below (fun m j c J=>by omega)
theorem Tryz.Gc:(prog.info? 220).map (fun i=>(i.zero,i.size,i.bytes))=some (some (.agg #[.string ⟨#[]⟩,.string ⟨#[]⟩]),2,32):=by kernel_rfl
set_option maxRecDepth 1000000 in
theorem RD(w:World)(F:Nat->Nat->Prop)(v:Value)(xs:List (List Value))(x:List Value)(f:Nat)(m:aH 2 220 w v xs F)(C:xs.length<=1000)(e:x.length=2)(g: ∀u∈x,u.oneCell'=true)
  (c:w.heap[f]?=some (.cells x.toArray 220 (0,0))):
  Calls prog 220 #[v,rv xs.length,.slice (some ⟨f,0,none⟩) 1 1] w (DI 2 220 w F (xs++[x])):=by
 obtain⟨l,b,h,i,j⟩:=ef Tryz.Gc;have H:=al m;have k:=al b;obtain⟨A,z,rfl,D,q,n,d⟩:=m;unfold maxLen at q;have a:=AM e g c;have p:A=none/\z=0\/ ∃t s,A=some ⟨t,s,none⟩:=d.elim (fun m=>m.2.imp (fun o=>⟨o,m.1⟩) id) (fun⟨t,s,o,m,_⟩=>.inr ⟨t,s,m⟩);clear n d e g c b;have E:(((xs.length:Int))==((xs.length:Int)))=true:=by simp
 rcases p with⟨rfl,rfl⟩|⟨t,s,rfl⟩
 ·have b:xs=[]:=de (by omega);subst b;go_enter func220,ntmps220;go_wp2_with (at_builtin;refine dD _ rfl _ _ 170 rfl l (.agg #[.string ⟨#[]⟩,.string ⟨#[]⟩]) 32 underlying170 k.o h i j (by rfl) (by decide) _ [] rfl H.o ⟨f,0,none⟩ 1 1 [x] rfl rfl (fun y d=>by rw[fl]at d;subst d;exact a.o.1) (fun B u g=>by rw[ie,gR];exact ph a.o.d (by simpa using g)) (by simpa using a.o.2.1) (by simp[maxLen]) (by simp) ?_;intro n o e b;have c:=AI e b;clear e b);go_ret
  exact⟨_,rfl,c.o.1,c.o.2⟩
 ·by_cases r:z=xs.length
  ·subst r;go_enter func220,ntmps220;go_wp2_with (at_builtin;refine dD _ rfl _ _ 170 rfl l (.agg #[.string ⟨#[]⟩,.string ⟨#[]⟩]) 32 underlying170 k.o h i j (by rfl) (by decide) _ xs rfl H.o ⟨f,0,none⟩ 1 1 [x] rfl rfl (fun y d=>by rw[fl]at d;subst d;exact a.o.1) (fun B u g=>by rw[ie,gR];exact ph a.o.d (by simpa using g)) (by simpa using a.o.2.1) (by unfold maxLen;omega) (by omega) ?_;intro n o e b;have c:=AI e b;clear e b);go_ret
   exact⟨_,rfl,c.o.1,c.o.2⟩
  ·go_enter func220,ntmps220;go_wp2_with (at_builtin;refine dD _ rfl _ _ 170 rfl l (.agg #[.string ⟨#[]⟩,.string ⟨#[]⟩]) 32 underlying170 k.o h i j (by rfl) (by decide) _ xs rfl H.o ⟨f,0,none⟩ 1 1 [x] rfl rfl (fun y d=>by rw[fl]at d;subst d;exact a.o.1) (fun B u g=>by rw[ie,gR];exact ph a.o.d (by simpa using g)) (by simpa using a.o.2.1) (by unfold maxLen;omega) (by omega) ?_;intro n o e b;have c:=AI e b;clear e b);go_ret
   exact⟨_,rfl,c.o.1,c.o.2⟩
set_option maxRecDepth 1000000 in
theorem KE(w:World)(b a n c i d:Nat)(cs k:List Value)(hi:i<n)(P:n+1<=c)(X:c<=9223372036854775807)(z:d≠b)(kF:n<=1000)
  (x:cs.length=n*2) (y:k.length=2)
  (t: ∀j v,cs[j]?=some v->w.cell? ⟨b,a+j,none⟩=some v) (l: ∀j,j<(n+1)*2->(w.cell? ⟨b,a+j,none⟩).isSome=true) (o: ∀j,j<(n+1)*2->w.frozen? ⟨b,a+j,none⟩=false)
  (B: ∀j v,k[j]?=some v->w.cell? ⟨d,j,none⟩=some v) (A: ∀v∈cs,v.oneCell'=true) (E: ∀v∈k,v.oneCell'=true)
  (L J:TypeId) (r s:Nat) (u:w.shape? d=some (L,r)) (H:w.shape? b=some (J,s)) (G:s≠0) (M:w.frozen? ⟨d,0,none⟩=false) (C:w.frozen? ⟨d,r,none⟩=false):
  Calls prog 220 #[.slice (some ⟨b,a,none⟩) n c,rv i,.slice (some ⟨d,0,none⟩) 1 1] w fun f e=>
   f=.returned (.slice (some ⟨b,a,none⟩) (n+1) c)/\e=(w.drew.setCells b (a+(i+1)*2) (cs.drop (i*2))).setCells b (a+i*2) k:=by
 have p:(prog.info? 220).map (·.size)=some 2:=pq Tryz.Gc;have V: ¬((i:Int)=(n:Int)):=by omega
 have N: ∀e f,(callFunc 247 #[.slice (some ⟨d,0,none⟩) 1 1,.slice (some ⟨b,a+(i+1)*2,none⟩) e f]).run prog w=.ok (.value (.bool false)) w:=fun e f=>by
  rw[run_callFunc_extern func247 (by kernel_rfl) (by kernel_rfl) (by kernel_rfl) (e:=Extern.SlicesOverlaps.overlaps #[170,170] #[4]) (by kernel_rfl),
   Lib.run_overlaps_apart w 170 4 220 underlying170 2 (fun w=>by kernel_rfl) ⟨d,0,none⟩ ⟨b,a+(i+1)*2,none⟩ 1 1 e f z L J r s u H G M C]
  rfl
 have q:(cs.drop (i*2)).length=(n-i)*2:=by rw[nf,x];omega
 have Q:IntKind.i64.wrap ((i:Int)+1)=(i:Int)+1:=by rw[lP];omega
 have Z:(0:Int)<=(i:Int)+1:=by omega
 have S:i<=n:=by omega
 have U:((i:Int)+1).toNat=i+1:=by omega
 have R: ¬(c=i+1):=by omega
 have T:(i:Int)<=(n:Int)+1:=by omega
 have Y: ¬(c=i):=by omega
 have F: ∀g f e,(Builtin.copy_ #[170,170] g #[.slice (some ⟨b,a+(i+1)*2,none⟩) (n-i) f,.slice (some ⟨b,a+i*2,none⟩) (n+1-i) e]).run prog w.drew=.ok (goInt ((n-i:Nat):Int)) (w.drew.setCells b (a+(i+1)*2) (cs.drop (i*2))):=fun g f e=>
  cD w.drew _ _ g 220 2 b (a+(i+1)*2) (n-i) f ⟨b,a+i*2,none⟩ (n+1-i) e (n-i) (cs.drop (i*2)) underlying170 p (by simp only[Nat.min_def];split<;>omega) (by first|exact q|(rw[q];omega))
   (fun j v e=>by rw[ie,gO];exact t (i*2+j) v (by rwa[mv]at e))
   (fun j e=>by rw[gO];exact l _ (by omega)) (fun j e=>by rw[gO];exact o _ (by omega)) (fun v h=>A v (List.mem_of_mem_drop h))
 obtain⟨m,h⟩:=rm (w.drew.setCells b (a+(i+1)*2) (cs.drop (i*2)))
 have D: ∀K,K<(n+1)*2->(m.cell? ⟨b,a+K,none⟩).isSome=true:=fun K I=>by rw[h];exact isSome_setCells b _ _ _ (fun j e=>by rw[gO];exact l _ (by omega)) _ (l K I)
 have K: ∀(W:World),(∀I,W.cell? I=m.cell? I)->(∀I,W.frozen? I=m.frozen? I)-> ∀g f,(Builtin.copy_ #[170,170] g #[.slice (some ⟨b,a+i*2,none⟩) (n+1-i) f,.slice (some ⟨d,0,none⟩) 1 1]).run prog W=.ok (goInt ((1:Nat):Int)) (W.setCells b (a+i*2) k):=fun W I O g f=>
  cD W _ _ g 220 2 b (a+i*2) (n+1-i) f ⟨d,0,none⟩ 1 1 1 k underlying170 p (by simp only[Nat.min_def];split<;>omega) (by rw[y])
   (fun j v e=>by
    rw[ie,gR,I,h,World.cell?_setCells_out b _ _ _ _ (fun f _=>absurd f z)]
    exact B j v e)
   (fun j e=>by rw[I,gO];exact D _ (by omega)) (fun j e=>by rw[O,h,World.frozen?_setCells,gO];exact o _ (by omega)) E
 rw[<-h]at F⊢;have e:=al K;have g:=al h;clear K h l o t D B u H M C A E x y q p G;go_enter func220,ntmps220;go_wp2_with (simp only[N])
 go_region_law (refine step_copy_runI rfl _ _ 170 170 rfl _ _ (by simp[Act.eval,Act.put]) (by simp[Act.eval,Act.put]) (F _ _ _) ?_)
 have f:=e.o m (fun _=>rfl) (fun _=>rfl);go_wp2_with fail;go_ret
 exact⟨rfl,rfl⟩
set_option maxRecDepth 1000000 in
theorem Nr(w:World)(b g n c i h:Nat)(cs f:List Value)(hi:i<n)(a7:n<=c)(Z:c<n+1)(kF:n<=1000)
  (J:cs.length=n*2) (K:f.length=2)
  (p: ∀j v,cs[j]?=some v->w.cell? ⟨b,g+j,none⟩=some v)
  (y: ∀j v,f[j]?=some v->w.cell? ⟨h,j,none⟩=some v) (L: ∀v∈cs,v.oneCell'=true) (T: ∀v∈f,v.oneCell'=true):
  Calls prog 220 #[.slice (some ⟨b,g,none⟩) n c,rv i,.slice (some ⟨h,0,none⟩) 1 1] w fun e d=>
   ∃(G:Nat) (a:Array Value),n+1<=G/\G<=maxLen/\a.size=G*2/\(∀(j:Nat) (v:Value),(cs.take (i*2))[j]?=some v->a[j]?=some v)/\e=.returned (.slice (some ⟨w.heap.size,0,none⟩) (n+1) G)/\
   d=(((w.alloc (.cells a 220)).drew.setCells w.heap.size (i*2) f).drew).setCells w.heap.size ((i+1)*2) (cs.drop (i*2)):=by
 obtain⟨Q,O,N,M,u⟩:=ef Tryz.Gc;have z:(prog.info? 220).map (·.size)=some 2:=pq Tryz.Gc;have a0: ¬((i:Int)=(n:Int)):=by omega
 have a6:(c:Int)<(n:Int)+1:=by omega
 have dE:b<w.heap.size:=aq w _ (p 0 _ (ao (by omega)));have RG:h<w.heap.size:=aq w _ (y 0 _ (ao (by omega)));have P:(n:Int)+1-(i:Int)=((n+1-i:Nat):Int):=by omega
 have A:i+(n+1-i)=n+1:=by omega
 have I:(Builtin.firstCells Q.size i (.slice (some ⟨b,g,none⟩) i c)).run prog w.drew=.ok (cs.take (i*2)).toArray w.drew:=by
  rw[M]
  exact run_firstCells_some w.drew 2 i ⟨b,g,none⟩ i c (cs.take (i*2)) (by rw[lk];omega) (fun j v d=>by
   rw[ie];rw[mu]at d;split at d
   ·exact p j v d
   ·cases d)
 have t: ∀e,(Builtin.append_ #[170,3] e #[.slice (some ⟨b,g,none⟩) i c,rv ((n:Int)+1-(i:Int))]).run prog w=
   .ok (.slice (some ⟨w.heap.size,0,none⟩) (n+1) (grownCap w (n+1) c 220)) (w.drew.alloc (.cells ((cs.take (i*2)).toArray++Builtin.zeroCells (Value.cells (.agg #[.string ⟨#[]⟩,.string ⟨#[]⟩])) (n+1-i)++Builtin.zeroCells (Value.cells (.agg #[.string ⟨#[]⟩,.string ⟨#[]⟩])) (grownCap w (n+1) c 220-(n+1))) 220)):=fun e=>by
  have H:=Lib.run_append_grow_zeros w 170 3 e 220 Q _ .i64 .i64 underlying170 underlying3 O N (some ⟨b,g,none⟩) i c (cs.take (i*2)) I (n+1-i) (by omega) (by omega) (by omega) (by omega) (by rw[u];omega) (by rw[u,A];exact growslice_fits Z (by omega));rw[A]at H;rw[P];exact H
 obtain⟨G,r⟩:=rm (grownCap w (n+1) c 220);obtain⟨a,s⟩: ∃a:Array Value,a=(cs.take (i*2)).toArray++Builtin.zeroCells (Value.cells (.agg #[.string ⟨#[]⟩,.string ⟨#[]⟩])) (n+1-i)++Builtin.zeroCells (Value.cells (.agg #[.string ⟨#[]⟩,.string ⟨#[]⟩])) (G-(n+1)):=⟨_,rfl⟩;rw[<-r]at t;rw[<-s]at t;have ac:n+1<=G:=by rw[r];exact grownCap_ge w _ _ _
 have Y:G<=maxLen:=by have:=grownCap_le_maxLen w (n+1) c 220 (by unfold maxLen;omega);rw[<-r]at this;exact this
 have a':G<=9223372036854775807:=by unfold maxLen at Y;omega
 have C:a.size=G*2:=by rw[s];simp only[Array.size_append,nw,size_zeroCells,Value.cells,lk];simp;omega
 have ad:(n+1)*2<=a.size:=by rw[C];omega
 have V: ∀(j:Nat) (v:Value),(cs.take (i*2))[j]?=some v->a[j]?=some v:=by intro j v d;have am:=(bd.1 d).1;rw[s,Array.append_assoc,Array.getElem?_append_left (by simpa using am)];simpa using d
 obtain⟨k,m⟩:=rm (w.drew.alloc (.cells a 220));rw[<-m]at t
 have q: ∀j,j<(n+1)*2->(k.cell? ⟨w.heap.size,j,none⟩).isSome=true:=fun j d=>by rw[m,World.cell?_alloc_at (w:=w.drew) a _ w.heap.size j rfl,gd (by omega)];rfl
 have F: ∀j,k.frozen? ⟨w.heap.size,j,none⟩=false:=fun j=>by rw[m];exact World.frozen?_alloc_at (w:=w.drew) a _ w.heap.size j rfl
 have S: ∀j v,w.cell? ⟨b,j,none⟩=some v->k.cell? ⟨b,j,none⟩=some v:=fun j v H=>by rw[m,World.cell?_alloc_past (w:=w.drew) _ b j dE];exact H
 have X: ∀j v,w.cell? ⟨h,j,none⟩=some v->k.cell? ⟨h,j,none⟩=some v:=fun j v H=>by rw[m,World.cell?_alloc_past (w:=w.drew) _ h j RG];exact H
 have R: ∀(W:World),(∀x,W.cell? x=k.cell? x)->(∀x,W.frozen? x=k.frozen? x)-> ∀e l,(Builtin.copy_ #[170,170] e #[.slice (some ⟨w.heap.size,i*2,none⟩) (n+1-i) l,.slice (some ⟨h,0,none⟩) 1 1]).run prog W=.ok (goInt ((1:Nat):Int)) (W.setCells w.heap.size (i*2) f):=fun W o B e l=>
  cD W _ _ e 220 2 w.heap.size (i*2) (n+1-i) l ⟨h,0,none⟩ 1 1 1 f underlying170 z (by simp only[Nat.min_def];split<;>omega) (by rw[K])
   (fun j v d=>by rw[ie,gR,o];exact X _ v (y j v d))
   (fun j d=>by rw[o];exact q _ (by omega)) (fun j d=>by rw[B];exact F _) T
 have a8: ¬(G=i):=by omega
 have ap: ¬(G=i+1):=by omega
 have a9: ¬(c=i):=by omega
 have aa:b≠w.heap.size:=by omega
 have D:(cs.drop (i*2)).length=(n-i)*2:=by rw[nf,J];omega
 have U: ∀(W:World),(∀x,W.cell? x=(k.setCells w.heap.size (i*2) f).cell? x)->(∀x,W.frozen? x=(k.setCells w.heap.size (i*2) f).frozen? x)-> ∀e l E,(Builtin.copy_ #[170,170] e #[.slice (some ⟨w.heap.size,(i+1)*2,none⟩) (n-i) l,.slice (some ⟨b,g+i*2,none⟩) (n-i) E]).run prog W=.ok (goInt ((n-i:Nat):Int)) (W.setCells w.heap.size ((i+1)*2) (cs.drop (i*2))):=fun W o B e l E=>
  cD W _ _ e 220 2 w.heap.size ((i+1)*2) (n-i) l ⟨b,g+i*2,none⟩ (n-i) E (n-i) (cs.drop (i*2)) underlying170 z (by simp only[Nat.min_def];split<;>omega) (by first|exact D|(rw[D];omega))
   (fun j v d=>by
    rw[ie,o,World.cell?_setCells_out _ _ _ _ _ (fun H _=>absurd H aa),gO]
    exact S _ v (p (i*2+j) v (by rwa[mv]at d)))
   (fun j d=>by rw[o];exact isSome_setCells _ _ _ _ (fun l e=>q _ (by omega)) _ (q _ (by omega)))
   (fun j d=>by rw[B,World.frozen?_setCells];exact F _) (fun v e=>L v (List.mem_of_mem_drop e))
 subst m;have Zv:=R ((w.alloc (.cells a 220)).drew) (fun x=>rfl) (fun x=>rfl);have B:=U (((w.alloc (.cells a 220)).drew.setCells w.heap.size (i*2) f).drew) (fun x=>rfl) (fun x=>rfl);have a5:IntKind.i64.wrap ((i:Int)+1)=(i:Int)+1:=by rw[lP];omega
 have ba:(0:Int)<=(i:Int)+1:=by omega
 have E:i<=n:=by omega
 have W:((i:Int)+1).toNat=i+1:=by omega
 have H:(i:Int)<=(n:Int):=by omega
 have x:=al (show ∃(e:Nat) (l:Array Value),n+1<=e/\e<=maxLen/\l.size=e*2/\(∀(j:Nat) (v:Value),(cs.take (i*2))[j]?=some v->l[j]?=some v)/\e=G/\l=a from⟨G,a,ac,Y,C,V,rfl,rfl⟩);clear P A I s r ad C V q F S X R U z p y L T J K D M u N O;go_enter func220,ntmps220;go_wp2_with (at_builtin;refine Lib.wpList_append_run _ rfl _ _ _ _ rfl _ _ rfl rfl _ _ (t _) ?_)
 go_region_law (refine step_copy_runI rfl _ _ 170 170 rfl _ _ (by simp[Act.eval,Act.put]) (by simp[Act.eval,Act.put]) (B _ _ _) ?_)
 go_wp2_with fail;go_ret
 obtain⟨e,l,m,q,p,o,rfl,rfl⟩:=x.o;exact⟨_,_,m,q,p,o,rfl,rfl⟩
theorem RI(w:World)(F:Nat->Nat->Prop)(v:Value)(xs:List (List Value))(i:Nat)(x:List Value)(a:Nat)(I:aH 2 220 w v xs F)(hi:i<=xs.length)(g:xs.length<=1000)(e:x.length=2)(l: ∀u∈x,u.oneCell'=true)(s: ∀u∈xs.flatten,u.oneCell'=true)
  (c:w.heap[a]?=some (.cells x.toArray 220 (0,0))) (y: ∀j,¬F a j):
  Calls prog 220 #[v,rv i,.slice (some ⟨a,0,none⟩) 1 1] w (DI 2 220 w F (xs.take i++x::xs.drop i)):=by
 by_cases b:i=xs.length
 ·subst b;have:=RD w F v xs x a I g e l c;simpa using this
 ·obtain⟨E,b,G,A,rfl,z,q,h,d,C,r,p⟩:=I.lies (by omega);have o:=bL h;have n: ∀j u,xs.flatten[j]?=some u->w.cell? ⟨E,b+j,none⟩=some u:=fun j u f=>ph d (p j u f);have m: ∀j u,x[j]?=some u->w.cell? ⟨a,j,none⟩=some u:=fun j u f=>ph c (by simpa using f);by_cases k:xs.length+1<=G
  ·have D:(xs.length+1)*2<=G*2:=dy _ k;have t:a≠E:=fun H=>y b (by rw[H];exact r b (b8 _) (by omega));have u:=jh c
   have:=KE w E b xs.length G i a xs.flatten x (by omega) k (by unfold maxLen at q;omega) t g o e n
    (fun j f=>by simp[World.cell?,d,gd (show b+j<A.size by omega)]) (fun j _=>frozen_of_heap d _) m s l _ _ _ _ u (jh d) (by omega) (frozen_of_heap c _) (frozen_of_heap c _)
   refine this.m ?_;rintro H B ⟨rfl,rfl⟩;have f:=tJ (F:=F) (by decide) (show i<xs.length by omega) k q h e d C r p;simpa using f
  ·have:=Nr w E b xs.length G i a xs.flatten x (by omega) z (by omega) g o e n m s l;refine this.m ?_;rintro H B ⟨K,J,u,j,D,t,rfl,rfl⟩;have f:=zW (F:=F) (t:=220) (w:=w) (k:=2) (by decide) (show i<xs.length by omega) u j h e D (by simpa using t);simpa using f
theorem Tryz.Ge:(prog.info? 169).map (fun i=>(i.zero,i.size,i.bytes))=some (some (.pointer none),1,8):=by kernel_rfl
set_option maxRecDepth 1000000 in
theorem RJ(w:World)(F:Nat->Nat->Prop)(v:Value)(xs:List (List Value))(x:List Value)(f:Nat)(m:aH 1 169 w v xs F)(C:xs.length<=1000)(e:x.length=1)(g: ∀u∈x,u.oneCell'=true)
  (c:w.heap[f]?=some (.cells x.toArray 169 (0,0))):
  Calls prog 221 #[v,rv xs.length,.slice (some ⟨f,0,none⟩) 1 1] w (DI 1 169 w F (xs++[x])):=by
 obtain⟨l,b,h,i,j⟩:=ef Tryz.Ge;have H:=al m;have k:=al b;obtain⟨A,z,rfl,D,q,n,d⟩:=m;unfold maxLen at q;have a:=AM e g c;have p:A=none/\z=0\/ ∃t s,A=some ⟨t,s,none⟩:=d.elim (fun m=>m.2.imp (fun o=>⟨o,m.1⟩) id) (fun⟨t,s,o,m,_⟩=>.inr ⟨t,s,m⟩);clear n d e g c b;have E:(((xs.length:Int))==((xs.length:Int)))=true:=by simp
 rcases p with⟨rfl,rfl⟩|⟨t,s,rfl⟩
 ·have b:xs=[]:=de (by omega);subst b;go_enter func221,ntmps221;go_wp2_with (at_builtin;refine dD _ rfl _ _ 171 rfl l (.pointer none) 8 underlying171 k.o h i j (by rfl) (by decide) _ [] rfl H.o ⟨f,0,none⟩ 1 1 [x] rfl rfl (fun y d=>by rw[fl]at d;subst d;exact a.o.1) (fun B u g=>by rw[ie,gR];exact ph a.o.d (by simpa using g)) (by simpa using a.o.2.1) (by simp[maxLen]) (by simp) ?_;intro n o e b;have c:=AI e b;clear e b);go_ret
  exact⟨_,rfl,c.o.1,c.o.2⟩
 ·by_cases r:z=xs.length
  ·subst r;go_enter func221,ntmps221;go_wp2_with (at_builtin;refine dD _ rfl _ _ 171 rfl l (.pointer none) 8 underlying171 k.o h i j (by rfl) (by decide) _ xs rfl H.o ⟨f,0,none⟩ 1 1 [x] rfl rfl (fun y d=>by rw[fl]at d;subst d;exact a.o.1) (fun B u g=>by rw[ie,gR];exact ph a.o.d (by simpa using g)) (by simpa using a.o.2.1) (by unfold maxLen;omega) (by omega) ?_;intro n o e b;have c:=AI e b;clear e b);go_ret
   exact⟨_,rfl,c.o.1,c.o.2⟩
  ·go_enter func221,ntmps221;go_wp2_with (at_builtin;refine dD _ rfl _ _ 171 rfl l (.pointer none) 8 underlying171 k.o h i j (by rfl) (by decide) _ xs rfl H.o ⟨f,0,none⟩ 1 1 [x] rfl rfl (fun y d=>by rw[fl]at d;subst d;exact a.o.1) (fun B u g=>by rw[ie,gR];exact ph a.o.d (by simpa using g)) (by simpa using a.o.2.1) (by unfold maxLen;omega) (by omega) ?_;intro n o e b;have c:=AI e b;clear e b);go_ret
   exact⟨_,rfl,c.o.1,c.o.2⟩
set_option maxRecDepth 1000000 in
theorem KG(w:World)(b a n c i d:Nat)(cs k:List Value)(hi:i<n)(P:n+1<=c)(_V:c<=9223372036854775807)(z:d≠b)(kF:n<=1000)
  (x:cs.length=n*1) (y:k.length=1)
  (t: ∀j v,cs[j]?=some v->w.cell? ⟨b,a+j,none⟩=some v) (l: ∀j,j<(n+1)*1->(w.cell? ⟨b,a+j,none⟩).isSome=true) (o: ∀j,j<(n+1)*1->w.frozen? ⟨b,a+j,none⟩=false)
  (B: ∀j v,k[j]?=some v->w.cell? ⟨d,j,none⟩=some v) (A: ∀v∈cs,v.oneCell'=true) (E: ∀v∈k,v.oneCell'=true)
  (L J:TypeId) (r s:Nat) (u:w.shape? d=some (L,r)) (H:w.shape? b=some (J,s)) (G:s≠0) (M:w.frozen? ⟨d,0,none⟩=false) (C:w.frozen? ⟨d,r,none⟩=false):
  Calls prog 221 #[.slice (some ⟨b,a,none⟩) n c,rv i,.slice (some ⟨d,0,none⟩) 1 1] w fun f e=>
   f=.returned (.slice (some ⟨b,a,none⟩) (n+1) c)/\e=(w.drew.setCells b (a+(i+1)) (cs.drop (i))).setCells b (a+i) k:=by
 have p:(prog.info? 169).map (·.size)=some 1:=pq Tryz.Ge;have X: ¬((i:Int)=(n:Int)):=by omega
 have N: ∀e f,(callFunc 249 #[.slice (some ⟨d,0,none⟩) 1 1,.slice (some ⟨b,a+(i+1),none⟩) e f]).run prog w=.ok (.value (.bool false)) w:=fun e f=>by
  rw[run_callFunc_extern func249 (by kernel_rfl) (by kernel_rfl) (by kernel_rfl) (e:=Extern.SlicesOverlaps.overlaps #[171,171] #[4]) (by kernel_rfl),
   Lib.run_overlaps_apart w 171 4 169 underlying171 1 (fun w=>by kernel_rfl) ⟨d,0,none⟩ ⟨b,a+(i+1),none⟩ 1 1 e f z L J r s u H G M C]
  rfl
 have q:(cs.drop (i)).length=(n-i):=by rw[nf,x];omega
 have Q:IntKind.i64.wrap ((i:Int)+1)=(i:Int)+1:=by rw[lP];omega
 have Z:(0:Int)<=(i:Int)+1:=by omega
 have S:i<=n:=by omega
 have U:((i:Int)+1).toNat=i+1:=by omega
 have R: ¬(c=i+1):=by omega
 have T:(i:Int)<=(n:Int)+1:=by omega
 have Y: ¬(c=i):=by omega
 have F: ∀g f e,(Builtin.copy_ #[171,171] g #[.slice (some ⟨b,a+(i+1),none⟩) (n-i) f,.slice (some ⟨b,a+i,none⟩) (n+1-i) e]).run prog w.drew=.ok (goInt ((n-i:Nat):Int)) (w.drew.setCells b (a+(i+1)) (cs.drop (i))):=fun g f e=>
  cD w.drew _ _ g 169 1 b (a+(i+1)) (n-i) f ⟨b,a+i,none⟩ (n+1-i) e (n-i) (cs.drop (i)) underlying171 p (by simp only[Nat.min_def];split<;>omega) (by first|exact q|(rw[q];omega))
   (fun j v e=>by rw[ie,gO];exact t (i+j) v (by rwa[mv]at e))
   (fun j e=>by rw[gO];exact l _ (by omega)) (fun j e=>by rw[gO];exact o _ (by omega)) (fun v h=>A v (List.mem_of_mem_drop h))
 obtain⟨m,h⟩:=rm (w.drew.setCells b (a+(i+1)) (cs.drop (i)))
 have D: ∀K,K<(n+1)*1->(m.cell? ⟨b,a+K,none⟩).isSome=true:=fun K I=>by rw[h];exact isSome_setCells b _ _ _ (fun j e=>by rw[gO];exact l _ (by omega)) _ (l K I)
 have K: ∀(W:World),(∀I,W.cell? I=m.cell? I)->(∀I,W.frozen? I=m.frozen? I)-> ∀g f,(Builtin.copy_ #[171,171] g #[.slice (some ⟨b,a+i,none⟩) (n+1-i) f,.slice (some ⟨d,0,none⟩) 1 1]).run prog W=.ok (goInt ((1:Nat):Int)) (W.setCells b (a+i) k):=fun W I O g f=>
  cD W _ _ g 169 1 b (a+i) (n+1-i) f ⟨d,0,none⟩ 1 1 1 k underlying171 p (by simp only[Nat.min_def];split<;>omega) (by rw[y])
   (fun j v e=>by
    rw[ie,gR,I,h,World.cell?_setCells_out b _ _ _ _ (fun f _=>absurd f z)]
    exact B j v e)
   (fun j e=>by rw[I,gO];exact D _ (by omega)) (fun j e=>by rw[O,h,World.frozen?_setCells,gO];exact o _ (by omega)) E
 rw[<-h]at F⊢;have e:=al K;have g:=al h;clear K h l o t D B u H M C A E x y q p G;go_enter func221,ntmps221;go_wp2_with (simp only[N])
 go_region_law (refine step_copy_runI rfl _ _ 171 171 rfl _ _ (by simp[Act.eval,Act.put]) (by simp[Act.eval,Act.put]) (F _ _ _) ?_)
 have f:=e.o m (fun _=>rfl) (fun _=>rfl);go_wp2_with fail;go_ret
 exact⟨rfl,rfl⟩
set_option maxRecDepth 1000000 in
theorem Nw(w:World)(b g n c i h:Nat)(cs f:List Value)(hi:i<n)(a7:n<=c)(Z:c<n+1)(kF:n<=1000)
  (J:cs.length=n*1) (K:f.length=1)
  (p: ∀j v,cs[j]?=some v->w.cell? ⟨b,g+j,none⟩=some v)
  (y: ∀j v,f[j]?=some v->w.cell? ⟨h,j,none⟩=some v) (L: ∀v∈cs,v.oneCell'=true) (T: ∀v∈f,v.oneCell'=true):
  Calls prog 221 #[.slice (some ⟨b,g,none⟩) n c,rv i,.slice (some ⟨h,0,none⟩) 1 1] w fun e d=>
   ∃(G:Nat) (a:Array Value),n+1<=G/\G<=maxLen/\a.size=G*1/\(∀(j:Nat) (v:Value),(cs.take (i))[j]?=some v->a[j]?=some v)/\e=.returned (.slice (some ⟨w.heap.size,0,none⟩) (n+1) G)/\
   d=(((w.alloc (.cells a 169)).drew.setCells w.heap.size (i) f).drew).setCells w.heap.size ((i+1)) (cs.drop (i)):=by
 obtain⟨Q,O,N,M,u⟩:=ef Tryz.Ge;have z:(prog.info? 169).map (·.size)=some 1:=pq Tryz.Ge;have a0: ¬((i:Int)=(n:Int)):=by omega
 have a6:(c:Int)<(n:Int)+1:=by omega
 have dE:b<w.heap.size:=aq w _ (p 0 _ (ao (by omega)));have RG:h<w.heap.size:=aq w _ (y 0 _ (ao (by omega)));have P:(n:Int)+1-(i:Int)=((n+1-i:Nat):Int):=by omega
 have A:i+(n+1-i)=n+1:=by omega
 have I:(Builtin.firstCells Q.size i (.slice (some ⟨b,g,none⟩) i c)).run prog w.drew=.ok (cs.take (i)).toArray w.drew:=by
  rw[M]
  exact run_firstCells_some w.drew 1 i ⟨b,g,none⟩ i c (cs.take (i)) (by rw[lk];omega) (fun j v d=>by
   rw[ie];rw[mu]at d;split at d
   ·exact p j v d
   ·cases d)
 have t: ∀e,(Builtin.append_ #[171,3] e #[.slice (some ⟨b,g,none⟩) i c,rv ((n:Int)+1-(i:Int))]).run prog w=
   .ok (.slice (some ⟨w.heap.size,0,none⟩) (n+1) (grownCap w (n+1) c 169)) (w.drew.alloc (.cells ((cs.take (i)).toArray++Builtin.zeroCells (Value.cells (.pointer none)) (n+1-i)++Builtin.zeroCells (Value.cells (.pointer none)) (grownCap w (n+1) c 169-(n+1))) 169)):=fun e=>by
  have H:=Lib.run_append_grow_zeros w 171 3 e 169 Q _ .i64 .i64 underlying171 underlying3 O N (some ⟨b,g,none⟩) i c (cs.take (i)) I (n+1-i) (by omega) (by omega) (by omega) (by omega) (by rw[u];omega) (by rw[u,A];exact growslice_fits Z (by omega));rw[A]at H;rw[P];exact H
 obtain⟨G,r⟩:=rm (grownCap w (n+1) c 169);obtain⟨a,s⟩: ∃a:Array Value,a=(cs.take (i)).toArray++Builtin.zeroCells (Value.cells (.pointer none)) (n+1-i)++Builtin.zeroCells (Value.cells (.pointer none)) (G-(n+1)):=⟨_,rfl⟩;rw[<-r]at t;rw[<-s]at t;have ac:n+1<=G:=by rw[r];exact grownCap_ge w _ _ _
 have Y:G<=maxLen:=by have:=grownCap_le_maxLen w (n+1) c 169 (by unfold maxLen;omega);rw[<-r]at this;exact this
 have a':G<=9223372036854775807:=by unfold maxLen at Y;omega
 have C:a.size=G*1:=by rw[s];simp only[Array.size_append,nw,size_zeroCells,Value.cells,lk];simp;omega
 have ad:(n+1)*1<=a.size:=by rw[C];omega
 have V: ∀(j:Nat) (v:Value),(cs.take (i))[j]?=some v->a[j]?=some v:=by intro j v d;have am:=(bd.1 d).1;rw[s,Array.append_assoc,Array.getElem?_append_left (by simpa using am)];simpa using d
 obtain⟨k,m⟩:=rm (w.drew.alloc (.cells a 169));rw[<-m]at t
 have q: ∀j,j<(n+1)*1->(k.cell? ⟨w.heap.size,j,none⟩).isSome=true:=fun j d=>by rw[m,World.cell?_alloc_at (w:=w.drew) a _ w.heap.size j rfl,gd (by omega)];rfl
 have F: ∀j,k.frozen? ⟨w.heap.size,j,none⟩=false:=fun j=>by rw[m];exact World.frozen?_alloc_at (w:=w.drew) a _ w.heap.size j rfl
 have S: ∀j v,w.cell? ⟨b,j,none⟩=some v->k.cell? ⟨b,j,none⟩=some v:=fun j v H=>by rw[m,World.cell?_alloc_past (w:=w.drew) _ b j dE];exact H
 have X: ∀j v,w.cell? ⟨h,j,none⟩=some v->k.cell? ⟨h,j,none⟩=some v:=fun j v H=>by rw[m,World.cell?_alloc_past (w:=w.drew) _ h j RG];exact H
 have R: ∀(W:World),(∀x,W.cell? x=k.cell? x)->(∀x,W.frozen? x=k.frozen? x)-> ∀e l,(Builtin.copy_ #[171,171] e #[.slice (some ⟨w.heap.size,i,none⟩) (n+1-i) l,.slice (some ⟨h,0,none⟩) 1 1]).run prog W=.ok (goInt ((1:Nat):Int)) (W.setCells w.heap.size (i) f):=fun W o B e l=>
  cD W _ _ e 169 1 w.heap.size (i) (n+1-i) l ⟨h,0,none⟩ 1 1 1 f underlying171 z (by simp only[Nat.min_def];split<;>omega) (by rw[K])
   (fun j v d=>by rw[ie,gR,o];exact X _ v (y j v d))
   (fun j d=>by rw[o];exact q _ (by omega)) (fun j d=>by rw[B];exact F _) T
 have a8: ¬(G=i):=by omega
 have ap: ¬(G=i+1):=by omega
 have a9: ¬(c=i):=by omega
 have aa:b≠w.heap.size:=by omega
 have D:(cs.drop (i)).length=(n-i):=by rw[nf,J];omega
 have U: ∀(W:World),(∀x,W.cell? x=(k.setCells w.heap.size (i) f).cell? x)->(∀x,W.frozen? x=(k.setCells w.heap.size (i) f).frozen? x)-> ∀e l E,(Builtin.copy_ #[171,171] e #[.slice (some ⟨w.heap.size,(i+1),none⟩) (n-i) l,.slice (some ⟨b,g+i,none⟩) (n-i) E]).run prog W=.ok (goInt ((n-i:Nat):Int)) (W.setCells w.heap.size ((i+1)) (cs.drop (i))):=fun W o B e l E=>
  cD W _ _ e 169 1 w.heap.size ((i+1)) (n-i) l ⟨b,g+i,none⟩ (n-i) E (n-i) (cs.drop (i)) underlying171 z (by simp only[Nat.min_def];split<;>omega) (by first|exact D|(rw[D];omega))
   (fun j v d=>by
    rw[ie,o,World.cell?_setCells_out _ _ _ _ _ (fun H _=>absurd H aa),gO]
    exact S _ v (p (i+j) v (by rwa[mv]at d)))
   (fun j d=>by rw[o];exact isSome_setCells _ _ _ _ (fun l e=>q _ (by omega)) _ (q _ (by omega)))
   (fun j d=>by rw[B,World.frozen?_setCells];exact F _) (fun v e=>L v (List.mem_of_mem_drop e))
 subst m;have Zv:=R ((w.alloc (.cells a 169)).drew) (fun x=>rfl) (fun x=>rfl);have B:=U (((w.alloc (.cells a 169)).drew.setCells w.heap.size (i) f).drew) (fun x=>rfl) (fun x=>rfl);have a5:IntKind.i64.wrap ((i:Int)+1)=(i:Int)+1:=by rw[lP];omega
 have ba:(0:Int)<=(i:Int)+1:=by omega
 have E:i<=n:=by omega
 have W:((i:Int)+1).toNat=i+1:=by omega
 have H:(i:Int)<=(n:Int):=by omega
 have x:=al (show ∃(e:Nat) (l:Array Value),n+1<=e/\e<=maxLen/\l.size=e*1/\(∀(j:Nat) (v:Value),(cs.take (i))[j]?=some v->l[j]?=some v)/\e=G/\l=a from⟨G,a,ac,Y,C,V,rfl,rfl⟩);clear P A I s r ad C V q F S X R U z p y L T J K D M u N O;go_enter func221,ntmps221;go_wp2_with (at_builtin;refine Lib.wpList_append_run _ rfl _ _ _ _ rfl _ _ rfl rfl _ _ (t _) ?_)
 go_region_law (refine step_copy_runI rfl _ _ 171 171 rfl _ _ (by simp[Act.eval,Act.put]) (by simp[Act.eval,Act.put]) (B _ _ _) ?_)
 go_wp2_with fail;go_ret
 obtain⟨e,l,m,q,p,o,rfl,rfl⟩:=x.o;exact⟨_,_,m,q,p,o,rfl,rfl⟩
theorem RM(w:World)(F:Nat->Nat->Prop)(v:Value)(xs:List (List Value))(i:Nat)(x:List Value)(a:Nat)(I:aH 1 169 w v xs F)(hi:i<=xs.length)(g:xs.length<=1000)(e:x.length=1)(l: ∀u∈x,u.oneCell'=true)(s: ∀u∈xs.flatten,u.oneCell'=true)
  (c:w.heap[a]?=some (.cells x.toArray 169 (0,0))) (y: ∀j,¬F a j):
  Calls prog 221 #[v,rv i,.slice (some ⟨a,0,none⟩) 1 1] w (DI 1 169 w F (xs.take i++x::xs.drop i)):=by
 by_cases b:i=xs.length
 ·subst b;have:=RJ w F v xs x a I g e l c;simpa using this
 ·obtain⟨E,b,G,A,rfl,z,q,h,d,C,r,p⟩:=I.lies (by omega);have o:=bL h;have n: ∀j u,xs.flatten[j]?=some u->w.cell? ⟨E,b+j,none⟩=some u:=fun j u f=>ph d (p j u f);have m: ∀j u,x[j]?=some u->w.cell? ⟨a,j,none⟩=some u:=fun j u f=>ph c (by simpa using f);by_cases k:xs.length+1<=G
  ·have D:(xs.length+1)*1<=G*1:=dy _ k;have t:a≠E:=fun H=>y b (by rw[H];exact r b (b8 _) (by omega));have u:=jh c
   have:=KG w E b xs.length G i a xs.flatten x (by omega) k (by unfold maxLen at q;omega) t g o e n
    (fun j f=>by simp[World.cell?,d,gd (show b+j<A.size by omega)]) (fun j _=>frozen_of_heap d _) m s l _ _ _ _ u (jh d) (by omega) (frozen_of_heap c _) (frozen_of_heap c _)
   refine this.m ?_;rintro H B ⟨rfl,rfl⟩;have f:=tJ (F:=F) (by decide) (show i<xs.length by omega) k q h e d C r p;simpa using f
  ·have:=Nw w E b xs.length G i a xs.flatten x (by omega) z (by omega) g o e n m s l;refine this.m ?_;rintro H B ⟨K,J,u,j,D,t,rfl,rfl⟩;have f:=zW (F:=F) (t:=169) (w:=w) (k:=1) (by decide) (show i<xs.length by omega) u j h e D (by simpa using t);simpa using f
theorem p7{P:Program}(w:World)(t e m:TypeId)(z:Value)(a:List Value)(h:P.underlying t=some (.slice e))(i: ∀w,(zeroValue e).run P w=.ok z w)(f:(Builtin.zeroCells z.cells 1).toList=a)(l: ∀v∈a,v.oneCell'=true)(b o c:Nat)
  (g: ∀j,j<a.length->(w.cell? ⟨b,o+j,none⟩).isSome=true) (k: ∀j,j<a.length->w.frozen? ⟨b,o+j,none⟩=false):
  (Builtin.clear_ #[t] m #[.slice (some ⟨b,o,none⟩) 1 c]).run P w=.ok (.tuple #[]) (w.setCells b o a):=by
 have d:=run_storeCells_cells (P:=P) b o a 0 w (by simpa using g) (by simpa using k) l;simp only[mT]at d;simp[Builtin.clear_,run_underlying h,i,f,d]
def VS(k:Nat)(t:TypeId)(w:World)(F:Nat->Nat->Prop)(ys:List (List Value))(e:Ending)(w':World):Prop:=
 ∃a,e=.returned a/\aH k t w' a ys F/\OnlyC F w w'
theorem DM{k:Nat}{t:TypeId}{w:World}{F:Nat->Nat->Prop}{b a c i:Nat}{cs:Array Value}{xs:List (List Value)}{f:List Value}(hi:i<xs.length)(r:xs.length<=c)(s:c<=maxLen)(e: ∀n∈xs,n.length=k)(o:f.length=k)
  (v:w.heap[b]?=some (.cells cs t (0,0))) (x:a+c*k<=cs.size) (h: ∀j,a<=j->j<a+c*k->F b j) (B: ∀j u,xs.flatten[j]?=some u->cs[a+j]?=some u):
  VS k t w F (xs.take i++xs.drop (i+1)) (.returned (.slice (some ⟨b,a,none⟩) (xs.length-1) c)) ((w.drew.setCells b (a+i*k) (xs.flatten.drop ((i+1)*k))).setCells b (a+(xs.length-1)*k) f):=by
 have m:=bL e;have I:xs.length*k<=c*k:=dy k r;have z:(i+1)*k<=xs.length*k:=dy k hi;have L:(xs.length-1)*k+k=xs.length*k:=by rw[<-lp];congr 1;omega
 have g:(xs.flatten.drop ((i+1)*k)).length=xs.length*k-(i+1)*k:=by rw[nf,m]
 rw[lp]at z;obtain⟨l,C,A,E,H⟩:=ct (xs.flatten.drop ((i+1)*k)) (a+i*k) w.drew cs v (by rw[g,lp];omega);obtain⟨J,D,G,y,K⟩:=ct f (a+(xs.length-1)*k) _ l C (by rw[o];omega);refine⟨_,rfl,aH.rewritten (n:=xs.length-1) D (G.x A) x h (by simp;omega) (by omega) s (fun n d=>(dr.1 d).elim (fun p=>e n (List.mem_of_mem_take p)) (fun p=>e n (List.mem_of_mem_drop p))) (fun j u d=>?_),?_⟩
 ·rw[lE,zT e (i+1) hi,zU e i (by omega)]at d;have n:(xs.flatten.take (i*k)).length=i*k:=by rw[lk,m];omega
  have q:=(bd.1 d).1;rw[gk,n,g,lp]at q;rw[y _ (by rw[o];omega)];by_cases l:j<i*k
  ·rw[kt (by omega),mu,fi l]at d;rw[E _ (by omega)];exact B j u d
  ·rw[kb (by omega),n]at d;have:=H _ u d;rwa[show a+i*k+(j-i*k)=a+j by omega]at this
 ·refine OnlyC.fI (w:=w) (OnlyC.trans (F:=F) (G:=F) ((bQ b (xs.flatten.drop ((i+1)*k)) (a+i*k) w.drew).m (fun u j _ ⟨d,q,n⟩=>?_)) ((bQ b f (a+(xs.length-1)*k) _).m (fun u j _ ⟨d,q,n⟩=>?_)) (fun _ _ _ p=>p))
  ·subst d;rw[g,lp]at n;exact h j (by omega) (by omega)
  ·subst d;exact h j (by omega) (by omega)
set_option maxRecDepth 1000000 in
theorem Ny(w:World)(b a n c i j:Nat)(cs:List Value)(d:Hid (j=i+1))(O:i<j)(hi:i<n)(P:j<=n)(L:n<=c)(_C:c<=maxLen)(R:n<=1000)(v:cs.length=n*2)
  (s: ∀j e,cs[j]?=some e->w.cell? ⟨b,a+j,none⟩=some e) (l: ∀j,j<n*2->(w.cell? ⟨b,a+j,none⟩).isSome=true) (m: ∀j,j<n*2->w.frozen? ⟨b,a+j,none⟩=false) (x: ∀e∈cs,e.oneCell'=true):
  Calls prog 214 #[.slice (some ⟨b,a,none⟩) n c,rv i,rv j] w fun f e=>
   f=.returned (.slice (some ⟨b,a,none⟩) (n-1) c)/\e=(w.drew.setCells b (a+i*2) (cs.drop ((i+1)*2))).setCells b (a+(n-1)*2) [.string ⟨#[]⟩,.string ⟨#[]⟩]:=by
 obtain⟨E,A,J,B,N⟩:=ef Tryz.Gc;unfold maxLen at _C;obtain⟨e,g⟩:=rm (cs.drop (j*2));have h:e.length=(n-j)*2:=by rw[g,nf,v];omega
 obtain⟨H,Q,z⟩: ∃H:Addr,(if c=j then some (⟨b,a,none⟩:Addr)else some ⟨b,a+j*2,none⟩)=some H/\Hid (∀t u,e[t]?=some u->w.drew.cell? (H.add t)=some u):=by
  by_cases o:c=j
  ·refine⟨⟨b,a,none⟩,by simp[o],fun t u f=>?_⟩;have k:e.length=0:=by rw[h];omega
   rw[List.length_eq_zero_iff.1 k]at f;simp at f
  ·refine⟨⟨b,a+j*2,none⟩,by simp[o],fun t u f=>?_⟩;rw[ie,gO];rw[g,mv]at f;have:=s _ u f
   first|exact this|simpa using this
 have G:Hid (e.length=(n-j)*2):=al h;have F:Hid (∀u∈e,u.oneCell'=true):=al (by rw[g];exact fun u f=>x u (List.mem_of_mem_drop f))
 have D:Hid (∀t,t<e.length->(w.drew.cell? ⟨b,a+i*2+t,none⟩).isSome=true/\w.drew.frozen? ⟨b,a+i*2+t,none⟩=false):=by intro t q;rw[h]at q;rw[gO];exact⟨l _ (by omega),m _ (by omega)⟩
 obtain⟨f,k⟩:=rm (w.drew.setCells b (a+i*2) e)
 have u: ∀j,j<n*2->(f.cell? ⟨b,a+j,none⟩).isSome=true:=fun j d=>by rw[k];exact isSome_setCells b _ _ _ (fun t q=>by rw[h]at q;rw[gO];exact l _ (by omega)) _ (l j d)
 have y: ∀j,j<n*2->f.frozen? ⟨b,a+j,none⟩=false:=fun j d=>by rw[k,World.frozen?_setCells];exact m j d
 have r:n-(i+(n-j))=1:=by have:=d.o;omega
 have I: ∀o p,(Builtin.clear_ #[170] o #[.slice (some ⟨b,a+(i+(n-j))*2,none⟩) (n-(i+(n-j))) p]).run prog f=.ok (.tuple #[]) (f.setCells b (a+(i+(n-j))*2) [.string ⟨#[]⟩,.string ⟨#[]⟩]):=fun o p=>by rw[r];exact p7 f 170 220 o (.agg #[.string ⟨#[]⟩,.string ⟨#[]⟩]) [.string ⟨#[]⟩,.string ⟨#[]⟩] underlying170 (fun w=>by kernel_rfl) (by kernel_rfl) (by simp;first|rfl|(constructor<;>rfl)) b (a+(i+(n-j))*2) p (fun j d=>by simp at d;rw[gO];exact u _ (by omega)) (fun j d=>by simp at d;rw[gO];exact y _ (by omega))
 have p:Hid (f=w.drew.setCells b (a+i*2) e):=al k;have o:=al (show i+(n-j)=n-1/\f.setCells b (a+(i+(n-j))*2) [.string ⟨#[]⟩,.string ⟨#[]⟩]=(w.drew.setCells b (a+i*2) (cs.drop ((i+1)*2))).setCells b (a+(n-1)*2) [.string ⟨#[]⟩,.string ⟨#[]⟩]from⟨by omega,by rw[k,g,d.o,show i+(n-(i+1))=n-1 by have:=d.o;omega]<;>simp⟩);have M:i<=c:=by omega
 have K:j<=c:=by omega
 clear k l m s x v h g u y r;go_enter func214,ntmps214;go_wp2_with fail
 go_region_law (refine step_append_room rfl (.tmp 22) (.tmp 25) 170 rfl 220 E 2 underlying170 A B b a i c (by simp[Act.eval,Act.put]) H (n-j) (c-j) e (by simp[Act.eval,Act.put]) G.o z.o F.o (by omega) D.o ?_;rw[<-p.o])
 go_wp2_with fail;go_ret
 exact⟨by rw[o.o.1];rfl,o.o.2⟩
theorem lT(w:World)(F:Nat->Nat->Prop)(v:Value)(xs:List (List Value))(i:Nat)(a z:Int)(b:a=(i:Int))(s:z=(i:Int)+1)(t:aH 2 220 w v xs F)(hi:i<xs.length)(j:xs.length<=1000)(o: ∀u∈xs.flatten,u.oneCell'=true):
  Calls prog 214 #[v,rv a,rv z] w (VS 2 220 w F (xs.take i++xs.drop (i+1))):=by
 subst b;obtain rfl:z=((i+1:Nat):Int):=by omega
 obtain⟨x,d,q,n,rfl,c,e,g,b,l,m,h⟩:=t.lies (by omega);have k:=bL g;have r:xs.length*2<=q*2:=dy _ c;have:=Ny w x d xs.length q i (i+1) xs.flatten (al rfl) (by omega) hi hi c e j k (fun p u f=>ph b (h p u f)) (fun p f=>by simp[World.cell?,b,gd (show d+p<n.size by omega)]) (fun p _=>frozen_of_heap b _) o;refine this.m ?_;rintro p f ⟨rfl,rfl⟩;exact DM hi c e g (by rfl) b l m h
theorem jn(w:World)(F:Nat->Nat->Prop)(v:Value)(xs:List (List Value))(i:Nat)(a:Int)(h:a=(i:Int))(x:List Value)(b:Nat)(k:aH 2 220 w v xs F)(hi:i<=xs.length)(c:xs.length<=1000)(g:x.length=2)(f: ∀u∈x,u.oneCell'=true)(j: ∀u∈xs.flatten,u.oneCell'=true)
  (e:w.heap[b]?=some (.cells x.toArray 220 (0,0))) (d: ∀l,¬F b l):
  Calls prog 220 #[v,rv a,.slice (some ⟨b,0,none⟩) 1 1] w (DI 2 220 w F (xs.take i++x::xs.drop i)):=by
 subst h;exact RI w F v xs i x b k hi c g f j e d
set_option maxRecDepth 1000000 in
theorem NA(w:World)(b a n c i j:Nat)(cs:List Value)(d:Hid (j=i+1))(O:i<j)(hi:i<n)(P:j<=n)(L:n<=c)(_C:c<=maxLen)(R:n<=1000)(v:cs.length=n*1)
  (s: ∀j e,cs[j]?=some e->w.cell? ⟨b,a+j,none⟩=some e) (l: ∀j,j<n*1->(w.cell? ⟨b,a+j,none⟩).isSome=true) (m: ∀j,j<n*1->w.frozen? ⟨b,a+j,none⟩=false) (x: ∀e∈cs,e.oneCell'=true):
  Calls prog 270 #[.slice (some ⟨b,a,none⟩) n c,rv i,rv j] w fun f e=>
   f=.returned (.slice (some ⟨b,a,none⟩) (n-1) c)/\e=(w.drew.setCells b (a+i*1) (cs.drop ((i+1)*1))).setCells b (a+(n-1)*1) [.pointer none]:=by
 obtain⟨E,A,J,B,N⟩:=ef Tryz.Ge;unfold maxLen at _C;obtain⟨e,g⟩:=rm (cs.drop (j*1));have h:e.length=(n-j)*1:=by rw[g,nf,v];omega
 obtain⟨H,Q,z⟩: ∃H:Addr,(if c=j then some (⟨b,a,none⟩:Addr)else some ⟨b,a+j,none⟩)=some H/\Hid (∀t u,e[t]?=some u->w.drew.cell? (H.add t)=some u):=by
  by_cases o:c=j
  ·refine⟨⟨b,a,none⟩,by simp[o],fun t u f=>?_⟩;have k:e.length=0:=by rw[h];omega
   rw[List.length_eq_zero_iff.1 k]at f;simp at f
  ·refine⟨⟨b,a+j,none⟩,by simp[o],fun t u f=>?_⟩;rw[ie,gO];rw[g,mv]at f;have:=s _ u f
   first|exact this|simpa using this
 have G:Hid (e.length=(n-j)*1):=al h;have F:Hid (∀u∈e,u.oneCell'=true):=al (by rw[g];exact fun u f=>x u (List.mem_of_mem_drop f))
 have D:Hid (∀t,t<e.length->(w.drew.cell? ⟨b,a+i*1+t,none⟩).isSome=true/\w.drew.frozen? ⟨b,a+i*1+t,none⟩=false):=by intro t q;rw[h]at q;rw[gO];exact⟨l _ (by omega),m _ (by omega)⟩
 obtain⟨f,k⟩:=rm (w.drew.setCells b (a+i*1) e)
 have u: ∀j,j<n*1->(f.cell? ⟨b,a+j,none⟩).isSome=true:=fun j d=>by rw[k];exact isSome_setCells b _ _ _ (fun t q=>by rw[h]at q;rw[gO];exact l _ (by omega)) _ (l j d)
 have y: ∀j,j<n*1->f.frozen? ⟨b,a+j,none⟩=false:=fun j d=>by rw[k,World.frozen?_setCells];exact m j d
 have r:n-(i+(n-j))=1:=by have:=d.o;omega
 have I: ∀o p,(Builtin.clear_ #[171] o #[.slice (some ⟨b,a+(i+(n-j)),none⟩) (n-(i+(n-j))) p]).run prog f=.ok (.tuple #[]) (f.setCells b (a+(i+(n-j))) [.pointer none]):=fun o p=>by rw[r];exact p7 f 171 169 o (.pointer none) [.pointer none] underlying171 (fun w=>by kernel_rfl) (by kernel_rfl) (by simp;first|rfl|(constructor<;>rfl)) b (a+(i+(n-j))) p (fun j d=>by simp at d;rw[gO];exact u _ (by omega)) (fun j d=>by simp at d;rw[gO];exact y _ (by omega))
 have p:Hid (f=w.drew.setCells b (a+i*1) e):=al k;have o:=al (show i+(n-j)=n-1/\f.setCells b (a+(i+(n-j))) [.pointer none]=(w.drew.setCells b (a+i*1) (cs.drop ((i+1)*1))).setCells b (a+(n-1)*1) [.pointer none]from⟨by omega,by rw[k,g,d.o,show i+(n-(i+1))=n-1 by have:=d.o;omega]<;>simp⟩);have M:i<=c:=by omega
 have K:j<=c:=by omega
 clear k l m s x v h g u y r;go_enter func270,ntmps270;go_wp2_with fail
 go_region_law (refine step_append_room rfl (.tmp 22) (.tmp 25) 171 rfl 169 E 1 underlying171 A B b a i c (by simp[Act.eval,Act.put]) H (n-j) (c-j) e (by simp[Act.eval,Act.put]) G.o z.o F.o (by omega) D.o ?_;rw[<-p.o])
 go_wp2_with fail;go_ret
 exact⟨by rw[o.o.1];rfl,o.o.2⟩
theorem ji(w:World)(F:Nat->Nat->Prop)(v:Value)(xs:List (List Value))(i:Nat)(a z:Int)(b:a=(i:Int))(s:z=(i:Int)+1)(t:aH 1 169 w v xs F)(hi:i<xs.length)(j:xs.length<=1000)(o: ∀u∈xs.flatten,u.oneCell'=true):
  Calls prog 270 #[v,rv a,rv z] w (VS 1 169 w F (xs.take i++xs.drop (i+1))):=by
 subst b;obtain rfl:z=((i+1:Nat):Int):=by omega
 obtain⟨x,d,q,n,rfl,c,e,g,b,l,m,h⟩:=t.lies (by omega);have k:=bL g;have r:xs.length*1<=q*1:=dy _ c;have:=NA w x d xs.length q i (i+1) xs.flatten (al rfl) (by omega) hi hi c e j k (fun p u f=>ph b (h p u f)) (fun p f=>by simp[World.cell?,b,gd (show d+p<n.size by omega)]) (fun p _=>frozen_of_heap b _) o;refine this.m ?_;rintro p f ⟨rfl,rfl⟩;exact DM hi c e g (by rfl) b l m h
theorem jo(w:World)(F:Nat->Nat->Prop)(v:Value)(xs:List (List Value))(i:Nat)(a:Int)(h:a=(i:Int))(x:List Value)(b:Nat)(k:aH 1 169 w v xs F)(hi:i<=xs.length)(c:xs.length<=1000)(g:x.length=1)(f: ∀u∈x,u.oneCell'=true)(j: ∀u∈xs.flatten,u.oneCell'=true)
  (e:w.heap[b]?=some (.cells x.toArray 169 (0,0))) (d: ∀l,¬F b l):
  Calls prog 221 #[v,rv a,.slice (some ⟨b,0,none⟩) 1 1] w (DI 1 169 w F (xs.take i++x::xs.drop i)):=by
 subst h;exact RM w F v xs i x b k hi c g f j e d
end Go.Proofs.YtehccbdajiiaaaaGreatDoor
