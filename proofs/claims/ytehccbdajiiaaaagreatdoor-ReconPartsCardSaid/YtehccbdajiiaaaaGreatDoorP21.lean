import Derived.Test.YtehccbdajiiaaaaGreatDoorP02
import Derived.Test.YtehccbdajiiaaaaGreatDoorP15
import Derived.Sort.OwnSorted
import Derived.Sort.KeysCollected
import Derived.Deep.LoopGhost
namespace Go.Proofs.YtehccbdajiiaaaaGreatDoor
open Go.Proofs.Tryz
set_option maxRecDepth 100000
set_option maxHeartbeats 16000000
open Go.RowKit
section
open Go.Shelf Go.RowKit Go.Lib Go.Sort
abbrev uf (x y:Int×Int):Int:=Lib.compareInt x.1 y.1
theorem SN(x y:Int×Int):ltOf uf x y=decide (x.1<y.1):=by
 unfold ltOf uf Lib.compareInt;by_cases a:x.1<y.1
 ·simp[a]
 ·by_cases b:y.1<x.1<;>simp[a,b]
theorem aar:SWO (ltOf uf) where
 irrefl x:=by rw[SN];simp
 trans x y z h1 h2:=by rw[SN]at *;simp at *;omega
 ntrans x y z h1 h2:=by rw[SN]at *;simp at *;omega
theorem LK(x y:Int×Int)(W:World):Calls prog 50 #[.agg #[rv x.1,rv x.2],.agg #[rv y.1,rv y.2]] W fun e w'=>e=.returned (rv (uf x y))/\ ∃q a,w'=grow (W.drewN q) a:=by
 have a:=fun b=>AnyG.cmp_Compare_int Tryz.Ni x.1 y.1 b;change ∀b,Calls prog 51 _ _ _ at a;unfold uf;generalize Lib.compareInt x.1 y.1=r at a⊢;go_enter func50,ntmps50;go_wp2_with (go_at_call 51;refine(a _).m ?_;rintro e w' ⟨rfl,rfl⟩);go_ret
 exact⟨rfl,0,_,by rw[alloc_eq_grow,alloc_eq_grow,grow_grow];rfl⟩
theorem SP(b a size:Nat)(w:World):CmpLays prog 50 #[] mh 2 uf b a size w:=
 fun _ _ _ _ x y=>LK x y _
def lv(l:List (Int×Int)):Prop:=l.Pairwise fun a b=>a.1<=b.1
theorem nQ{α:Type}[Inhabited α](enc:α->List Value)(k:Nat)(w:World)(a b n:Nat)(d:Array α)(os:Array Obj):Only (fun f=>f=a) w (sortWorldK enc k w a b n d os):=by
 refine⟨rfl,rfl,rfl,?_,fun f e c=>?_⟩
 ·exact size_sortWorldK_c enc k w a b n d os
 ·unfold sortWorldK grow putRowK putRow mapBlock;simp only;rw[Array.getElem?_append_left (by simpa[Sort.ahead]using e),Array.getElem?_modify,ff (fun h=>c h.symm)];rfl
theorem yZ{w:World}{base g f:Nat}{l:List (Int×Int)}(n:w.ownsRow base 80 2 (.slice (some ⟨g,0,none⟩) l.length f) l.length (l.map mh).flatten):HoldsK mh 2 w g 0 l.toArray:=by
 intro t a;rw[size_flatK]at a;rw[get_flatK _ _ _ _ a];simp at a;have c:t/2<l.length:=(Nat.div_lt_iff_lt_mul (by decide)).2 a;have k:l[t/2]?=some l[t/2]:=ao c;have d:=jP (lU l) (t/2) (mh l[t/2]) (by simp[k]) (t%2);have m:t/2*2+t%2=t:=by omega
 rw[m]at d;have e:=n.cellAt t (by omega);have j:=n.frozenAt t;have h:l.toArray[t/2]! =l[t/2]:=by simp[c]
 rw[h]
 have i:(mh l[t/2])[t%2]?=some (mh l[t/2])[t%2]!:=by rcases Nat.mod_two_eq_zero_or_one t with b|b<;>rw[b]<;>rfl
 rw[d _ i]at e;rw[gR];exact⟨e,j⟩
theorem y8{w:World}{F:Nat->Prop}{g b:Nat}{d:Array (Int×Int)}(o:HoldsK mh 2 w g 0 d)(i:F g)(j:d.size<=b)(h:b<=maxLen):mK w F (.slice (some ⟨g,0,none⟩) d.size b) d.toList:=by
 refine⟨_,_,_,rfl,by simp,j,h,fun _=>⟨g,0,rfl,i,fun k x a l u e=>?_⟩⟩;have c:k<d.size:=by have:=(bd.1 a).1;simpa using this
 have f:l<2:=by have:=(bd.1 e).1;have m:=lU d.toList x (db a);omega
 have:=(o.cell c f).1
 have n:(mh d[k]!)[l]! =u:=by
  simp[c]at a;subst a;have:d[k]! =d[k]:=by simp[c]
  rw[this];simp[e]
 rw[n]at this;rw[<-this];congr 2;omega
def SQ(l:List (Int×Int))(v:Value)(w:World)(e:Ending)(w':World):Prop:=
 ∃s,s.Perm l/\lv s/\ ∃A c,e=.returned (.slice A (cE s).length c)/\w'.ownsRow w.heap.size 80 2 (.slice A (cE s).length c) (cE s).length ((cE s).map mh).flatten/\Only (fun k=>v.ownBlock=some k) w w'
theorem EC{d:Array (Int×Int)}(h:SortedIn (ltOf uf) 0 d.size d):lv d.toList:=by unfold lv;rw[List.pairwise_iff_getElem];intro i j b a c;have:=h i j (dq _) c (by simpa using a);rw[SN]at this;simp at b a;simp[b,a]at this;simpa using this
theorem AQ(w:World)(v:Value)(l:List (Int×Int))(y:w.ownsRow 0 80 2 v l.length (l.map mh).flatten)(M:l.length<=1000)(z:ij l):
  Calls prog 24 #[v] w (SQ l v w):=by
 rcases y.2 with⟨rfl,A⟩|⟨o,s,K,rfl,_,d,L,F,h,i⟩
 ·have:l=[]:=de A;subst this;have b:=fun W=>AnyF.slices_SortFunc_none Tryz.Nj none 0 (.func (.func 50) #[] #[]) W;change ∀W,Calls prog 49 _ _ _ at b;go_enter func24,ntmps24;go_wp2_with fail;refine(b _).m ?_;rintro H f ⟨rfl,rfl⟩;go_wp2_with fail;refine(AG _ (fun _=>False) _ [] (bJ.nil 2 _ _) (by simp) (by intro G c;simp at c)).m ?_;rintro H C ⟨J,I,rfl,g,m⟩;go_wp2_with fail;go_ret
  exact⟨[],List.Perm.refl _,ee,J,I,rfl,g,oS m _⟩
 ·have B: ∀a w,(callFunc 50 a).run prog w=.ok (.enter 50 a) w:=enters_of func50 (by kernel_rfl) rfl;have a:=yZ y;have p:o<w.heap.size:=(cq.1 d).1;have b:=AnyQ.slices_SortFunc Tryz.Nj 2 (by intro w;kernel_rfl) (by intro w;kernel_rfl) mh (fun _=>rfl) (fun G v e=>by simp[mh]at e;rcases e with rfl|rfl<;>rfl) uf aar 50 #[] o 0 s l.toArray w B (SP o 0 l.toArray.size w) a p (by simp;omega);change Calls prog 49 _ _ _ at b;simp only[nw]at b;have D:=al a;clear y d i h a;go_enter func24,ntmps24;go_wp2_with fail;refine b.m ?_;rintro H f ⟨rfl,a,n,u,i,h,k⟩;have d:a.size=l.length:=by simpa using i.1
  have e:Only (fun j=>j=o) w f:=by rw[k];exact nQ mh 2 w o 0 n a u
  have r:HoldsK mh 2 f o 0 a:=by rw[k];exact holdsK_sortWorldK_c mh 2 w o 0 l.toArray a n u D.o p (by simpa using i.1)
  have x:mK f (fun _=>True) (.slice (some ⟨o,0,none⟩) l.length s) a.toList:=by have:=y8 (F:=fun _=>True) r trivial (by omega) F;rw[d]at this;exact this
  have j:a.toList.Perm l:=by
   have q:=i.2.2;have E:a.extract 0 l.length=a:=by simp[<-d]
   have t:l.toArray.extract 0 l.length=l.toArray:=by simp
   rw[E,t]at q;exact q
  have q:lv a.toList:=EC (by rw[d];simpa using h);have t:ij a.toList:=fun G c=>z G (j.mem_iff.1 c);have c:=By x j q t d e;clear k x j q t h i r e d;go_wp2_with fail;refine(AG f (fun _=>True) _ a.toList c.o.1 (by have:=c.o.q.1;simp;omega) c.o.t.1).m ?_;rintro H C ⟨J,I,rfl,g,m⟩;go_wp2_with fail;go_ret
  have e:=c.o.q.2;refine⟨a.toList,c.o.2.1,c.o.d.1,J,I,rfl,?_,?_⟩
  ·exact dF g (fun k d=>by have:=(g.lt k d).1;have:=e.size;omega)
  ·exact e.trans (T:=fun _=>False) (oS m _) (fun _ _ y=>y.elim)|>.mono (fun i _ d=>by subst d;rfl)
end
section
open Go.RowKit Go.Maps Go.WideShapes Go.Sort
def jU(D:DataW Unit)(f:List UInt8->Int):Prop:= ∀k,D.atKey (cQ k) (.lit (.int .i64 0))=.lit (.int .i64 (f k))/\(Maps.has D (cQ k)=true↔f k≠0)
def Hh(D:DataW Unit)(left:Lit->Bool)(a:List (List UInt8)):Prop:=a.Nodup/\ ∀x,x∈a↔(Maps.has D (cQ x)=true/\left (cQ x)=false)
theorem Hh.start(D:DataW Unit):Hh D (Maps.has D) []:=⟨List.nodup_nil,fun x=>by cases Maps.has D (cQ x)<;>simp⟩
theorem ED(x y:List UInt8):(cQ x).sameKey (cQ y)=decide (x=y):=by
 by_cases h:x=y
 ·subst h;simp[cQ,Lit.sameKey]
 ·have:cQ x≠cQ y:=fun e=>h (xo e);unfold cQ at this⊢;simp[Lit.sameKey,h]at this⊢;exact this
theorem Hh.step{D:DataW Unit}{left:Lit->Bool}{a:List (List UInt8)}(h:Hh D left a){x:List UInt8}{y:DataW Unit}(e:left (cQ x)=true)(f: ∀b,D.atKey (cQ x) b=y):
  Hh D (fun z=>left z&&!z.sameKey (cQ x)) (a++[x]):=by
 have c:Maps.has D (cQ x)=true:=has_true_of_atKey f;have d:x∉a:=fun b=>by have:=((h.2 x).1 b).2;rw[e]at this;cases this
 refine⟨List.nodup_append.2 ⟨h.1,by simp,fun i g j b=>by simp at b;subst b;exact fun b=>d (b▸g)⟩,fun y=>?_⟩;simp only[ED];by_cases b:y=x
 ·subst b;simp[c]
 ·simp[h.2 y,b]
theorem Tryz.aas:(prog.info? 9).map (fun i=>(i.zero,i.size,i.bytes))=some (some (.string ⟨#[]⟩),1,16):=by kernel_rfl
def AU(f:List UInt8->Int)(k:List UInt8):Cl:=⟨f k==2,-1,k,0,0⟩
def aat(f:List UInt8->Int)(w:World)(e:Ending)(w':World):Prop:=
 ∃a:List (List UInt8),a.length<=1000/\a.Nodup/\(∀k,k∈a↔f k≠0)/\Cc ((a.mergeSort fun x y=>decide (x<=y)).map (AU f)) w e w'
def WJ(w:World)(b n r:Nat)(D:DataW Unit)(v3:Value)(w':World):Prop:=
 ∃left c a,w'.ranges prog 78 (plainElem prog 3) b r n D left c/\Hh D left a/\a.length+c<=Maps.size D/\(∀x∈a,x.length<=maxLen)/\
  w'.ownsRow w.heap.size 9 1 v3 a.length (a.map encStr)/\v3≠ .slice none 0 0/\Below w.heap.size w w'
def WK(w:World)(b n g m c:Nat)(D:DataW Unit)(f:List UInt8->Int)(a:List (List UInt8))(k:Nat)(v5:Value)(w':World):Prop:=
 w'.ownsRow w.heap.size 68 5 v5 k (((a.take k).map (AU f)).map Cl.cells).flatten/\w'.ownsRow w.heap.size 9 1 (.slice (some ⟨g,0,none⟩) m c) m (a.map encStr)/\
  w'.ownsMap prog 78 (plainElem prog 3) b n D/\RowKit.Below w.heap.size w w'
theorem Tryz.U5(w:World):(zeroValue 3).run prog w=.ok (rv 0) w:=by kernel_rfl
theorem LL(w:World)(b n:Nat)(D:DataW Unit)(f:List UInt8->Int)(N:w.ownsMap prog 78 (plainElem prog 3) b n D)(hf:jU D f)(a7:Maps.size D<=1000):
  Calls prog 23 #[.map (some b)] w (aat f w):=by
 obtain⟨i0,P,ac,Y,W⟩:=ef Tryz.aas;go_enter func23,ntmps23;go_wp2_with (first|(at_len;refine wpList_len_own _ rfl _ 73 rfl 78 3 underlying73 _ b n D rfl N ?_)|(at_make;refine wpList_make_own _ rfl _ _ 122 rfl w.heap.size 9 i0 (.string ⟨#[]⟩) 1 underlying122 P ac Y _ _ _ (Maps.size D) rfl rfl rfl (by rw[W];omega) (by unfold maxLen;omega) (b8 _) ?_;intro a q B)|(at_range;refine wpList_range_own _ rfl _ 73 rfl 78 3 Lu underlying73 _ b n D rfl (N.kept B (by simp)) ?_;intro c j h K))
 go_frame
 have a3:=N.lt
 go_loopw [3] (fun v wr=>WJ w b n a.heap.size D v wr) (fun _ wr=>wr.rangeLeft b a.heap.size)
 case atStart=>
  exact⟨_,_,[],j,Hh.start D,by simp,by simp,q.kept h (Or.inr (by simp[Value.ownBlock])),by simp,
   ((aw _ _).grown B (b8 _) (fun T g=>by cases g)).grown h B.size (fun T g=>by cases g)⟩
 case round=>
  obtain⟨left,a5,d,A,E,a8,F,G,o,J⟩:=hrel;go_wp2_with (at_next;refine wpList_next_ranges _ rfl _ rfl 78 Lu (plainElem prog 3) Ep (Value.int .i64) (fun c kl hk=>by obtain⟨x,k,_⟩:=qi hk;exact⟨x,k⟩) (fun v y R=>by obtain⟨c,rfl,_⟩:=plainElem_int_inv underlying3 R;exact⟨c,rfl⟩) b a.heap.size n _ _ _ rfl A ?_ ?_)
  ·intro a9 m;rcases G.2 with⟨ap,_⟩|⟨S,C,a6,rfl,am,e,r,z,H,u⟩
   ·exact absurd ap o
   have s:Holds encStr wr S 0 d.toArray:=holds_of_block e (by simpa using u);have a0:S<wr.heap.size:=(cq.1 e).1;have p:=Any.slices_Sort_string Tryz.RB S 0 C d wr s a0 (by omega);change Calls prog 48 _ _ _ at p;have I: ∀l,l∈d↔f l≠0:=fun l=>by rw[E.2 l,m];simpa using(hf l).2
   obtain⟨i1,t,ad,aa,V⟩:=ef Tryz.sK;have a:=al (ab e (ab r (ab z (ab H (ab am (ab J (ab A.owns (ab E.1 (ab I F)))))))));clear e r z H u s E m G A J I j h K q B F o;go_wp2_with fail;refine p.m ?_;rintro e K ⟨rfl,nn,os,j⟩;obtain⟨z,m⟩:=rl ((d.mergeSort fun x y=>decide (x<=y)));have q:z.length=d.length:=by rw[<-m];simp
   rw[m]at j
   have s:K.ownsRow w.heap.size 9 1 (.slice (some ⟨S,0,none⟩) d.length C) d.length (z.map encStr):=by rw[j];exact ownsRow_sorted q a.o.q.1 a.o.1 a.o.2.1 a.o.d.1 a.o.t.1
   have o:wr.grownBy K (some S):=by rw[j];exact grownBy_sorted _
   have r:RowKit.Below w.heap.size w K:=a.o.q.2.1.grown o a.o.q.2.1.size (fun T g=>by cases g;exact a.o.q.1);have H:K.ownsMap prog 78 (plainElem prog 3) b n D:=a.o.q.d.1.kept o (by intro h;injection h with h;have:=a.o.q.1;omega);have X:=r.size;have u:=al (ab s (ab r (ab H (ab m q))));have a1:d.length<=1000:=by omega
   have U:=al t;clear s r H m q o j p t P;go_wp2_with (at_make;go_loud (refine wpList_make_own _ rfl _ _ 27 rfl w.heap.size 68 i1 _ 5 underlying27 U.o ad aa _ _ _ d.length rfl rfl rfl (by rw[V];omega) (by unfold maxLen;omega) X ?_);intro o m j)
   go_loopw [5,29] (fun v5 i w6=> ∃l,l<=d.length/\i=.int .i64 (l:Int)/\WK w b n S d.length C D f z l v5 w6) (fun _ i _=>d.length-(intOf i).toNat)
   case atStart=>exact⟨0,dq _,rfl,by simpa using m,u.o.1.kept j (Or.inr (by simp[Value.ownBlock])),u.o.d.1.kept j (by simp),u.o.2.1.grown j X (fun T g=>by cases g)⟩
   case round=>
    obtain⟨l,hk,rfl,j,t,H,r⟩:=hrel
    rename World=>w6
    have q:=u.o.q;by_cases Z:l<d.length
    ·obtain⟨x,k⟩: ∃x,z[l]?=some x:=⟨_,ao (by omega)⟩
     have a2:x∈d:=by have h:=db k;rw[<-u.o.t.1]at h;exact List.mem_mergeSort.1 h
     have a4:w6.cell? ⟨S,l,none⟩=some (.string ⟨x.toArray⟩):=(t.cellAt l (by omega)).x (by simp[k,encStr]);have p:=AK (a.o.q.q.2 x a2);unfold Ep at p;obtain⟨O,Q,rfl⟩:=ar j;have m:=j.alloc (.cells #[.bool (f x==2),.int .i64 (-1),.string ⟨x.toArray⟩,.int .i64 0,.int .i64 0] 68);have o:=eb (an w6 (.cells #[.bool (f x==2),.int .i64 (-1),.string ⟨x.toArray⟩,.int .i64 0,.int .i64 0] 68));have s:=(hf x).1;have L:=al (ab k (ab j (ab t (ab H (ab r (ab m o))))));have HK:=al p;have HF:=al s;have bY:=r.size;clear k j t r p q m o s H;go_wp2_with (first|(at_lookup;go_loud (refine wpList_lookup_own_int _ rfl _ _ 73 rfl 78 3 .i64 Lu underlying73 underlying3 (Tryz.U5 _) b n D rfl L.o.t.1 _ _ rfl HK.o ?_);intro c s m;obtain rfl:c=f x:=(by rw[HF.o]at s;simpa using s.symm);clear s m)|(at_builtin;go_loud (refine ep _ rfl _ _ 27 rfl w.heap.size 68 i1 _ 5 48 underlying27 U.o ad aa V rfl (by decide) (.slice O l Q) l _ rfl L.o.q.2.1 ⟨w6.heap.size,0,none⟩ 1 1 [.bool (f x==2),.int .i64 (-1),.string ⟨x.toArray⟩,.int .i64 0,.int .i64 0] rfl rfl L.o.q.d (by simp[Value.oneCell']) (by decide) (by unfold maxLen;omega) (by omega) (by simp;omega) _ rfl ?_);intro g2 a' w7 M m jA pU));go_roundw
     case rel=>
      obtain⟨k,j,t,H,r,_,_⟩:=L.o;refine⟨l+1,by omega,by go_num,?_,?_,?_,?_⟩
      ·have a':z.take (l+1)=z.take l++[x]:=by rw[ir,k];rfl
       rw[a'];simpa[AU,Cl.cells]using M
      ·exact(t.alloc _).kept m (.inr (fun e=>iX t j (by decide) (rfl:Value.ownBlock (.slice (some ⟨S,0,none⟩) d.length C)=some S) e.symm))
      ·exact(H.alloc _).kept m (fun e=>by have:=(j.lt b e.symm).1;omega)
      ·exact(r.alloc bY _).grown m (by simp;omega) (fun T g=>(j.lt T g).1)
     case measure=>simp[intOf];omega
    ·have h:l=d.length:=by omega
     subst h;go_wp2_with fail;go_ret
     rw[gE (by omega)]at j;obtain⟨O,Q,rfl⟩:=ar j;obtain⟨_,_,_,_,_,_,_,h,I,_⟩:=a.o;refine⟨d,a1,h,I,O,Q,?_,?_,r⟩
     ·simp
     ·rw[u.o.t.1];simpa[q]using j
  ·intro x c kl U S j H p t R s I Z k q K;obtain⟨Q,z,rfl,L⟩:=qi p;obtain rfl:x=Q:=by unfold Ep at z;simpa using z
   have l:=G.kept k (Or.inr (row_ne_iter G A).symm);have h:=(l.alloc (.cells #[encStr x] 78)).alloc (.cells #[encStr x] 9);have o:=eb (an (j.alloc (.cells #[encStr x] 78)) (.cells #[encStr x] 9));rw[show(j.alloc (.cells #[encStr x] 78)).heap.size=j.heap.size+1 by simp]at o;have u:=J.size;have r:=k.size;have a:=al (ab h (ab o (ab l (ab q (ab u r)))));have O:=al P;have e:=al (ab E (ab t (ab s (ab I (ab A (ab F (ab L (ab k J))))))));clear q h o u r E t s F p R;unfold Ep at K⊢;unfold encStr at a;go_wp2_with (at_builtin;go_loud (refine ep _ rfl _ _ 122 rfl w.heap.size 9 i0 _ 1 16 underlying122 O.o ac Y W rfl (by decide) u3 d.length _ rfl a.o.1 ⟨j.heap.size+1,0,none⟩ 1 1 [.string ⟨x.toArray⟩] rfl rfl a.o.2.1 (by simp[Value.oneCell']) (by decide) (by unfold maxLen;omega) (by omega) (by have:=a.o.q;simp;omega) _ rfl ?_);intro g2 C h M m jA pU);have p:=(e.o.t.1.alloc (.cells #[.string ⟨x.toArray⟩] 78)).alloc (.cells #[.string ⟨x.toArray⟩] 9);have o:=p.kept m (row_ne_low a.o.d.1 a3) (row_ne_iter a.o.1 p);refine⟨⟨_,H,d++[x],o,e.o.1.step e.o.2.1 e.o.d.1,by simp;omega,?_,by simpa[encStr]using M,by simp,?_⟩,by rw[o.left_eq,e.o.q.1.left_eq];exact Z⟩
   ·intro y h;rcases dr.1 h with h|h
    ·exact e.o.q.2.1 y h
    ·simp at h;subst h;exact e.o.q.d.1
   ·have q:=a.o.q;have h:=B.size;exact((((e.o.q.q.grown e.o.q.t.1 q.1 (fun T g=>by cases g;exact h)).alloc (by omega) _).alloc (by simp;omega) _).grown m (by simp;omega) (fun T g=>(a.o.d.1.lt T g).1))
end
section
open Go.RowKit Go.Maps Go.WideShapes
theorem xH{w w':World}(h:Below w.heap.size w w'):w.grownBy w' none:=⟨h.os,h.tape,h.output,h.size,fun k a _=>h.block k a⟩
def fN(w:World)(A:Nat)(f:Nat->Value):Prop:=w.heap[A]?=some (.cells #[f 0,f 1,f 2,f 3] 75 (0,0))
def Hj(w:World)(base:Nat)(rs:Nat->Value)(ls:Nat->List (Int×Int)):Prop:=
 (∀j,j<8->w.ownsRow base 80 2 (rs j) (ls j).length ((ls j).map mh).flatten)/\ ∀i j,i<8->j<8->i≠j-> ∀g,(rs i).ownBlock=some g->(rs j).ownBlock≠some g
def lists(l:List Cl)(j:Nat):List (Int×Int):=if j<4 then cM l (j:Int) false else cM l ((j-4:Nat):Int) true
def iQ(w:World)(D:DataW Unit)(n:Nat)(rs:Nat->Value)(ls:Nat->List (Int×Int))(wr:World):Prop:=
 wr.ownsMap prog 78 (plainElem prog 3) (w.heap.size+1) n D/\wr.heap[w.heap.size]?=some sE/\
  fN wr (w.heap.size+1+1) rs/\fN wr (w.heap.size+1+1+1) (fun j=>rs (4+j))/\Hj wr (w.heap.size+1+1+1+1) rs ls/\Below w.heap.size w wr
def O8(w:World)(l:List Cl)(k:Nat)(wr:World):Prop:=
 ∃(D:DataW Unit) (rs:Nat->Value),jU D (fun a=>ej (l.take k) (-1,a,0))/\iQ w D k rs (lists (l.take k)) wr
section
variable{w wr w':World}{D D':DataW Unit}{n n':Nat}{rs:Nat->Value}{ls ls':Nat->List (Int×Int)}
theorem iQ.below(j:iQ w D n rs ls wr)(a:Below wr.heap.size wr w'):iQ w D n rs ls w':=by
 obtain⟨f,h,b,e,d,c⟩:=j;have i:=f.lt;refine⟨f.kept (xH a) (by simp),?_,?_,?_,⟨fun k g=>bD (d.1 k g) a,d.2⟩,c.x (a.m c.size)⟩
 ·rw[a.block _ (by omega)];exact h
 ·unfold fN;rw[a.block _ (Array.getElem?_eq_some_iff.1 b).1];exact b
 ·unfold fN;rw[a.block _ (Array.getElem?_eq_some_iff.1 e).1];exact e
theorem iQ.map(p:iQ w D n rs ls wr)(a:wr.grownBy w' (some (w.heap.size+1)))(k:w'.ownsMap prog 78 (plainElem prog 3) (w.heap.size+1) n' D'):iQ w D' n' rs ls w':=by
 obtain⟨l,h,d,g,c,f⟩:=p;have o:=l.lt;have i:=(cq.1 d).1;have j:=(cq.1 g).1;refine⟨k,?_,?_,?_,⟨fun m b=>(c.1 m b).kept a (.inr ?_),c.2⟩,f.grown a f.size (fun m b=>by cases b;omega)⟩
 ·rw[a.block _ (by omega) (by simp)];exact h
 ·unfold fN;rw[a.block _ i (by intro e;injection e with e;omega)];exact d
 ·unfold fN;rw[a.block _ j (by intro e;injection e with e;omega)];exact g
 ·intro e;have:=(c.1 m b).lt _ e;omega
theorem iQ.lists(i:iQ w D n rs ls wr)(c: ∀j,j<8->ls' j=ls j):iQ w D n rs ls' wr:=by obtain⟨h,d,e,g,b,f⟩:=i;exact⟨h,d,e,g,⟨fun j a=>by rw[c j a];exact b.1 j a,b.2⟩,f⟩
theorem iQ.more(h:iQ w D n rs ls wr)(hn:n<=n'):iQ w D n' rs ls wr:=⟨h.1.mono hn,h.2⟩
end
def upd{α:Type}(f:Nat->α)(i:Nat)(v:α)(j:Nat):α:=if j=i then v else f j
theorem Hj.append{w w1:World}{base:Nat}{rs:Nat->Value}{ls:Nat->List (Int×Int)}(k:Hj w base rs ls){i:Nat}(hi:i<8){v':Value}{x:Int×Int}(p:w.grownBy w1 (rs i).ownBlock)
  (n:w1.ownsRow base 80 2 v' ((ls i).length+1) (((ls i)++[x]).map mh).flatten) (c:v'.ownBlock=(rs i).ownBlock\/v'.ownBlock=some w.heap.size):Hj w1 base (upd rs i v') (upd ls i (ls i++[x])):=by
 refine⟨fun o h=>?_,fun l m g e f j b a=>?_⟩
 ·unfold upd;by_cases q:o=i
  ·subst q;simpa using n
  ·simp only[q,if_false];refine(k.1 o h).kept p ?_
   cases e:(rs o).ownBlock with
   |none=>exact .inl rfl
   |some j=>exact .inr (fun d=>k.2 o i h hi q j e d.symm)
 ·unfold upd at b a;by_cases h:l=i
  ·subst h;have d:m≠l:=Ne.symm f;simp only[if_true,d,if_false]at b a;have o:=((k.1 m e).lt j a).2;rcases c with c|c
   ·rw[c]at b;exact k.2 l m g e f j b a
   ·rw[c]at b;injection b with b;omega
  ·by_cases d:m=i
   ·subst d;simp only[h,if_true,if_false]at b a;have o:=((k.1 l g).lt j b).2;rcases c with c|c
    ·rw[c]at a;exact k.2 l m g e f j b a
    ·rw[c]at a;injection a with a;omega
   ·simp only[h,d,if_false]at b a;exact k.2 l m g e f j b a
theorem Hj.set{w:World}{base:Nat}{rs:Nat->Value}{ls:Nat->List (Int×Int)}(h:Hj w base rs ls){A j:Nat}(c:A<base)(u:Value):Hj (w.setCell ⟨A,j,none⟩ u) base rs ls:=
 ⟨fun i a=>aQ (h.1 i a) (Only.aR w A j u) (fun g b e=>by have:=((h.1 i a).lt g b).1;omega),h.2⟩
theorem fN.set{w:World}{A:Nat}{f:Nat->Value}(h:fN w A f){j:Nat}(b:j<4)(u:Value):fN (w.setCell ⟨A,j,none⟩ u) A (upd f j u):=by
 have a:=dd w A j _ _ u h;unfold fN;have:j=0\/j=1\/j=2\/j=3:=by omega
 rcases this with rfl|rfl|rfl|rfl<;>simpa[upd]using a
theorem fN.other{w w':World}{A:Nat}{f g:Nat->Value}(h:fN w A f)(b:w'.heap[A]?=w.heap[A]?)(a: ∀j,j<4->g j=f j):fN w' A g:=by unfold fN at *;rw[b,h,a 0 (by omega),a 1 (by omega),a 2 (by omega),a 3 (by omega)]
theorem iQ.append{w wr w1:World}{D:DataW Unit}{n:Nat}{rs:Nat->Value}{ls:Nat->List (Int×Int)}(F:iQ w D n rs ls wr){i:Nat}(hi:i<8){v':Value}{x:Int×Int}(a:wr.grownBy w1 (rs i).ownBlock)
  (s:w1.ownsRow (w.heap.size+1+1+1+1) 80 2 v' ((ls i).length+1) (((ls i)++[x]).map mh).flatten) (t:v'.ownBlock=(rs i).ownBlock\/v'.ownBlock=some wr.heap.size)
  {A j:Nat} (l:(i<4/\A=w.heap.size+1+1/\j=i)\/(4<=i/\A=w.heap.size+1+1+1/\i=4+j)):
  iQ w D n (upd rs i v') (upd ls i (ls i++[x])) (w1.setCell ⟨A,j,none⟩ v'):=by
 obtain⟨p,y,g,k,h,o⟩:=F;have E:=p.lt;have r:=(cq.1 g).1;have q:=(cq.1 k).1;have b: ∀e,e<w.heap.size+1+1+1+1->some e≠(rs i).ownBlock:=fun e d B=>by have:=((h.1 i hi).lt e B.symm).1;omega
 have v:A<w.heap.size+1+1+1+1/\w.heap.size+1<A:=by omega
 have f: ∀e,e≠A->(w1.setCell ⟨A,j,none⟩ v').heap[e]?=w1.heap[e]?:=fun e d=>Below.heap_setCell _ _ _ _ d;have z:=(h.append hi a s t).set (A:=A) (j:=j) v.1 v';refine⟨(p.kept a (b _ (by omega))).setCell (by simp;omega) _,?_,?_,?_,z,?_⟩
 ·rw[f _ (by omega),a.block _ (by omega) (b _ (by omega))];exact y
 ·rcases l with⟨c,rfl,rfl⟩|⟨c,rfl,rfl⟩
  ·have m:fN w1 (w.heap.size+1+1) rs:=g.other (a.block _ r (b _ (by omega))) (fun _ _=>rfl);exact m.set c v'
  ·refine g.other ?_ (fun C m=>?_)
   ·rw[f _ (by omega),a.block _ r (b _ (by omega))]
   ·unfold upd;rw[ff (by omega)]
 ·rcases l with⟨c,rfl,rfl⟩|⟨c,rfl,rfl⟩
  ·refine k.other ?_ (fun C m=>?_)
   ·rw[f _ (by omega),a.block _ q (b _ (by omega))]
   ·unfold upd;rw[ff (by omega)]
  ·have u:fN w1 (w.heap.size+1+1+1) (fun j=>rs (4+j)):=k.other (a.block _ q (b _ (by omega))) (fun _ _=>rfl);have:=u.set (j:=j) (by omega) v';refine this.other rfl (fun C m=>?_);unfold upd;by_cases B:C=j
   ·subst B;simp
   ·rw[ff (by omega),ff B]
 ·exact(o.grown a o.size (fun e d=>by have:=((h.1 i hi).lt e d).1;omega)).setCell (by simp;omega) _
theorem jU.put{D:DataW Unit}{f g:List UInt8->Int}{k:List UInt8}{v:Int}(j:jU D f)(c:IsMap D)(e:v≠0)(d:g k=v)(h: ∀a,a≠k->g a=f a):jU (D.put (cQ k) (.lit (.int .i64 v))) g:=by
 intro a;by_cases i:a=k
 ·subst i;have b:WideAt.IsKeyLit (cQ a):=by unfold cQ;exact trivial
  rw[atKey_put_same c b,has_put_same c b,d];simp[e]
 ·have b:cQ a≠cQ k:=fun j=>i (xo j);rw[atKey_put_other b,has_put_other b,h a i];exact j a
theorem jU.same{D:DataW Unit}{f g:List UInt8->Int}(h:jU D f)(e: ∀k,g k=f k):jU D g:=fun k=>by rw[e k];exact h k
def iR(l:List Cl):Int:=match l.find? (fun c=>D9 c !=0)with|some c=>D9 c|none=>0
def cG(l out:List Cl):Prop:=JH out/\ ∀t,ej out t=ej l t
def U8(n:Int):Ending:=.returned (.tuple #[.agg #[.slice none 0 0],rv n])
def Pb(l:List Cl)(w:World)(e:Ending)(w':World):Prop:=
 Below w.heap.size w w'/\((iR l≠0/\e=U8 (iR l))\/(iR l=0/\ ∃out,cG l out/\((64<out.length/\e=U8 23)\/
  (out.length<=64/\ ∃A c,e=.returned (.tuple #[.agg #[.slice A out.length c],rv 0])/\w'.ownsRow w.heap.size 68 5 (.slice A out.length c) out.length (out.map Cl.cells).flatten))))
theorem mO{w:World}{A:Nat}{f:Nat->Value}(h:fN w A f): ∀j,j<4->w.cell? ⟨A,j,none⟩=some (f j)/\w.frozen? ⟨A,j,none⟩=false:=by
 intro j a;have:j=0\/j=1\/j=2\/j=3:=by omega
 rcases this with rfl|rfl|rfl|rfl<;>simp[World.cell?,World.frozen?,(show w.heap[A]?=some (.cells #[f 0,f 1,f 2,f 3] 75 (0,0))from h)]
theorem Hk{w:World}{b:Nat}{v0 v1 v2 v3 v4:Value}{t:TypeId}(h:w.heap[b]?=some (.cells #[v0,v1,v2,v3,v4] t (0,0))):
  w.cell? ⟨b,0,none⟩=some v0/\w.cell? ⟨b,1,none⟩=some v1/\w.cell? ⟨b,2,none⟩=some v2/\w.cell? ⟨b,3,none⟩=some v3/\w.cell? ⟨b,4,none⟩=some v4:=by
 simp[World.cell?,h]
theorem xI{α:Type}{p:α->Bool}: ∀{l:List α} {k:Nat} {x:α},(∀c∈l.take k,p c=false)->l[k]?=some x->p x=true->l.find? p=some x
 |[],_,_,_,h,_=>by simp at h
 |y::l,0,x,_,h,hp=>by simp at h;subst h;simp[hp]
 |y::l,k+1,x,ha,h,hp=>by have a:=ha y (by simp);rw[List.find?_cons,a];exact xI (k:=k) (fun c b=>ha c (by rw[List.take_succ_cons];exact List.mem_cons_of_mem _ b)) (by simpa using h) hp
theorem Pd{l:List Cl}{k:Nat}{x:Cl}(c: ∀e∈l.take k,Ok e)(a:l[k]?=some x)(b:D9 x≠0):iR l=D9 x:=by unfold iR;rw[xI (k:=k) (x:=x) (fun e d=>by have:D9 e=0:=c e d;simp[this]) a (by simpa using b)]
theorem rM{l:List Cl}(a: ∀c∈l,Ok c):iR l=0:=by unfold iR;rw[List.find?_eq_none.2 (fun c b=>by have:D9 c=0:=a c b;simp[this])]
theorem ug{l:List Cl}(h:iR l=0): ∀c∈l,Ok c:=by
 unfold iR at h;split at h
 ·rename_i c a;have:=List.find?_some a;simp at this;exact absurd h this
 ·rename_i a;intro c b;have:=List.find?_eq_none.1 a c b;simpa[Ok]using this
theorem pG{l:List Cl}{k:Nat}{x:Cl}(d: ∀c∈l.take k,Ok c)(b:l[k]?=some x)(h:Ok x): ∀c∈l.take (k+1),Ok c:=by
 rw[cY b];intro c a;rcases dr.1 a with a|a
 ·exact d c a
 ·simp at a;subst a;exact h
theorem AV{l:List Cl}{x:Cl}(b:x.aL= -1): ∀j,j<8->lists (l++[x]) j=lists l j:=by
 intro j _;unfold lists cM;have a: ∀m:Nat,¬x.aL=(m:Int):=fun m=>by omega
 split<;>simp[a]
theorem LM{l:List Cl}{x:Cl}{j:Nat}(b:x.aL=(j:Int))(d:j<4): ∀i,i<8->lists (l++[x]) i=upd (lists l) (if x.wr then 4+j else j) (lists l (if x.wr then 4+j else j)++[(x.lo,x.hi)]) i:=by
 intro i g;unfold lists cM upd
 cases hw:x.wr with
 |true=>
  by_cases a:i<4
  ·have c:i≠4+j:=by omega
   simp[hw,a,c]
  ·by_cases e:i=4+j
   ·subst e;have f:4+j-4=j:=by omega
    simp only[a,if_false,if_true,f];simp[hw,b]
   ·have:((j:Int)==((i-4:Nat):Int))=false:=by simp;omega
    simp[hw,a,e,b,this]
 |false=>
  by_cases a:i<4
  ·by_cases e:i=j
   ·subst e;simp[hw,b,d]
   ·have:((j:Int)==(i:Int))=false:=by simp;omega
    simp[hw,a,e,b,this]
  ·have c:i≠j:=by omega
   simp[hw,a,c]
theorem sX(l:List Cl)(j:Nat):(lists l j).length<=l.length:=by unfold lists cM;split<;>simp[List.length_filter_le]
theorem ag{P:Program}{d:Region.Mode}{l:List Oper}{Q:Exit->Act->World->Prop}{S:World->Prop}{i:Nat}{b:Oper}{v:Value}{fuel:Nat}{c:Array Bool}{a:Act}{w:World}(hi:l[i]?=some b)
  (g:Region.noSelect l.toArray=true) (k:Region.free d l.toArray c i=true) (e:(Region.ready d l.toArray c).contains i=true)
  (m: ∀f a w,Q (.panic f) (a.put b.dst v) w->Q (.panic f) a w) (j:Region.wanted b (yielded l.toArray a.tmps)=true) (h: ∀w,S w->(execOp a.eval b).run P w=.ok (.value v) w) (f:S w)
  (n:wpAnyH P d l.toArray Q S fuel (c.setIfInBounds i true) (a.put b.dst v) w):wpAnyH P d l.toArray Q S (fuel+1) c a w:=
 wpAnyH_take (by simpa using hi) g k e m (.inl ⟨j,h⟩) f n
theorem au{P:Program}{c:Region.Mode}{l:List Oper}{Q:Exit->Act->World->Prop}{S:World->Prop}{fuel:Nat}{b:Array Bool}{a:Act}{w:World}{i:Nat}{o:Oper}{rs:List Nat}(e:l[i]?=some o)
  (h: ∀d:Act->World->Prop,Shut (∀a w,S w->(S w->wpAnyH P c l.toArray Q S fuel (b.setIfInBounds i true) a w)->d a w)->if Region.wanted o (yielded l.toArray a.tmps)=true then Oper.wp P o a w d Q else d (a.put o.dst undef) w)
  (d:AllReadyH P c l.toArray Q S fuel b a w rs):AllReadyH P c l.toArray Q S fuel b a w (i::rs):=AllReadyH.cons (by simpa using e) h d
theorem jV{w2 X a:World}{o:Obj}{b:Option Nat}(h:X.grownBy a b)(e:X.heap=(w2.alloc o).heap){A j:Nat}{v:Value}(f:w2.cell? ⟨A,j,none⟩=some v)(i:w2.frozen? ⟨A,j,none⟩=false)(g:some A≠b):
  a.cell? ⟨A,j,none⟩=some v/\a.frozen? ⟨A,j,none⟩=false:=by
 have c:=aq w2 _ f
 have d:a.heap[A]?=w2.heap[A]?:=by rw[h.block A (by rw[e];simp;exact Nat.lt_succ_of_lt c) g,e];exact Below.heap_alloc _ _ _ c
 exact⟨(World.cell?_of_block d).x f,(World.frozen?_of_block d).x i⟩
theorem vB{l:List Cl}{x:Cl}(h:x.aL= -1)(c:x.lo=0)(b:x.hi=0)(k:List UInt8):ej (l++[x]) (-1,k,0)=if k=x.key then(if x.wr=true then 2 else max (ej l (-1,k,0)) 1)else ej l (-1,k,0):=by
 rw[Ed];by_cases e:k=x.key
 ·have:x.has (-1,k,0):=⟨h,e.symm,by simp only;omega,by simp only;omega⟩;rw[fi this,fi e]
 ·have: ¬x.has (-1,k,0):=fun a=>e a.2.1.symm;rw[ff this,ff e]
theorem Hm{l:List Cl}{x:Cl}(h:0<=x.aL)(k:List UInt8):ej (l++[x]) (-1,k,0)=ej l (-1,k,0):=by rw[Ed,ff (fun a=>by have:=a.1;simp only at this;omega)]
theorem EE{w w':World}{base base':Nat}{e a:TypeId}{size b n n':Nat}{v v':Value}{xs c:List Value}(i:w.ownsRow base e size v n xs)(h:w.ownsRow base' a b v' n' c)(d:e≠a)(f:w.grownBy w' v'.ownBlock):w'.ownsRow base e size v n xs:=by
 refine i.kept f ?_
 cases hb:v.ownBlock with
 |none=>exact .inl rfl
 |some g=>exact .inr (fun g=>iX i h d hb g.symm)
def jD(W R:Int->List (Int×Int)):Nat->List Cl
 |0=>[]
 |n+1=>jD W R n++uH W R (n:Int)
theorem xJ{W R a b:Int->List (Int×Int)}: ∀{k:Nat},(∀i:Nat,i<k->W i=a i/\R i=b i)->jD W R k=jD a b k
 |0,_=>rfl
 |k+1,h=>by unfold jD uH;rw[xJ (fun i c=>h i (by omega)),(h k (by omega)).1,(h k (by omega)).2]
def rN(W:Int->List (Int×Int))(k:Nat)(x:List (Int×Int))(i:Int):List (Int×Int):=if i=(k:Int)then x else W i
theorem pH{W:Int->List (Int×Int)}{k:Nat}{x:List (Int×Int)}:rN W k x (k:Int)=x:=by simp[rN]
theorem nE{W:Int->List (Int×Int)}{k i:Nat}{x:List (Int×Int)}(h:i≠k):rN W k x (i:Int)=W i:=by unfold rN;rw[ff (by omega)]
theorem AX(W R:Int->List (Int×Int))(k:Nat)(x y:List (Int×Int)):jD (rN W k x) (rN R k y) (k+1)=jD W R k++(x.map (sL (k:Int) true)++y.map (sL (k:Int) false)):=by have h:jD (rN W k x) (rN R k y) k=jD W R k:=xJ (fun i a=>⟨nE (by omega),nE (by omega)⟩);show jD (rN W k x) (rN R k y) k++uH _ _ _=_;rw[h];unfold uH;rw[pH,pH]
theorem EF(ks:List (Bool×List UInt8))(W R:Int->List (Int×Int)):fy ks W R=ks.map yS++jD W R 4:=by unfold fy jD jD jD jD jD;simp
def J0(l:List Cl)(i:Int)(W R:List (Int×Int)):Prop:=(cF W/\ ∀n,lI W n↔lI (cM l i true) n)/\cF R/\ ∀n,lI R n↔lI (cM l i false) n/\ ¬lI W n
def Inv(w:World)(rs:Nat->Value)(ls:Nat->List (Int×Int))(out:List Cl)(v10:Value)(P:Nat->Prop)(wr:World):Prop:=
 wr.heap[w.heap.size]?=some sE/\fN wr (w.heap.size+1+1) rs/\fN wr (w.heap.size+1+1+1) (fun j=>rs (4+j))/\
  (∀j,j<8->P j->wr.ownsRow (w.heap.size+1+1+1+1) 80 2 (rs j) (ls j).length ((ls j).map mh).flatten)/\wr.ownsRow w.heap.size 68 5 v10 out.length (out.map Cl.cells).flatten/\Below w.heap.size w wr
def aay(rs:Nat->Value):Prop:= ∀i j,i<8->j<8->i≠j-> ∀g,(rs i).ownBlock=some g->(rs j).ownBlock≠some g
section
variable{w wr w':World}{rs:Nat->Value}{ls:Nat->List (Int×Int)}{out out':List Cl}{v10 v':Value}{P P':Nat->Prop}
theorem Inv.below(j:Inv w rs ls out v10 P wr)(a:Below wr.heap.size wr w'):Inv w rs ls out v10 P w':=by
 obtain⟨e,b,c,i,h,d⟩:=j;refine⟨?_,?_,?_,fun k f g=>bD (i k f g) a,bD h a,d.x (a.m d.size)⟩
 ·rw[a.block _ (Array.getElem?_eq_some_iff.1 e).1];exact e
 ·unfold fN;rw[a.block _ (Array.getElem?_eq_some_iff.1 b).1];exact b
 ·unfold fN;rw[a.block _ (Array.getElem?_eq_some_iff.1 c).1];exact c
theorem Inv.mono(h:Inv w rs ls out v10 P wr)(c: ∀j,P' j->P j):Inv w rs ls out v10 P' wr:=⟨h.1,h.2.1,h.2.2.1,fun j a b=>h.2.2.2.1 j a (c j b),h.2.2.2.2⟩
abbrev Inv.m:=@Inv.mono
theorem Inv.Pe(s:Inv w rs ls out v10 P wr)(m:aay rs){i:Nat}(hi:i<8)(q:P i)(a:Only (fun c=>(rs i).ownBlock=some c) wr w'):Inv w rs ls out v10 (fun l=>P l/\l≠i) w':=by
 obtain⟨o,n,p,j,h,g⟩:=s;have e:=j i hi q;have b: ∀c,c<w.heap.size+1+1+1+1-> ¬(rs i).ownBlock=some c:=fun c d k=>by have:=(e.lt c k).1;omega
 refine⟨a.heap o (b _ (by omega)),a.heap n (b _ (by omega)),a.heap p (b _ (by omega)),fun l f d=>aQ (j l f d.1) a (fun r c k=>m l i f hi d.2 r c k),aQ h a (fun r c k=>iX e h (by decide) k c),?_⟩;exact g.x (a.aI g.size (fun k c=>b k (by omega)))
theorem Inv.append(o:Inv w rs ls out v10 P wr)(d:wr.grownBy w' v10.ownBlock)(m:w'.ownsRow w.heap.size 68 5 v' out'.length (out'.map Cl.cells).flatten):Inv w rs ls out' v' P w':=by
 obtain⟨i,f,j,k,e,h⟩:=o;have c: ∀{n:Nat} {g:Array Value} {t:TypeId} {a:Nat×Nat},wr.heap[n]?=some (.cells g t a)->(68:TypeId)≠t->w'.heap[n]?=wr.heap[n]?:=fun{n g t a} b l=>d.block _ (cq.1 b).1 (fun n=>cw e b l n.symm);refine⟨(c i (by decide)).x i,(c f (by decide)).x f,(c j (by decide)).x j,fun l a g=>?_,m,h.grown d h.size (fun l a=>(e.lt l a).1)⟩;refine(k l a g).kept d ?_
 cases b:(rs l).ownBlock with
 |none=>exact .inl rfl
 |some p=>exact .inr (fun n=>iX (k l a g) e (by decide) b n.symm)
end
theorem AY{s:List (Int×Int)}(h:ij s):ij (cE s):=AA (fun _ h=>by simp at h) h
theorem Ba(s:List (Int×Int)):(cE s).length<=s.length:=by have:=AB (l:=s) (out:=[]);simpa[cE]using this
theorem Bb: ∀(os:List (Int×Int)) (s:Int×Int),(eN s os).length<=os.length+1
 |[],s=>by simp[eN]
 |o::os,s=>by
  unfold eN;split
  ·simp
  ·have:=Bb os (o.2+1,s.2);split<;>split<;>simp<;>omega
theorem EG(lo:Int)(os:List (Int×Int)):(cL lo os).length<=os.length:=by unfold cL;exact List.IsSuffix.length_le (List.dropWhile_suffix _)
theorem rO: ∀(l os:List (Int×Int)),(bU l os).length<=l.length*(os.length+1)
 |[],os=>by simp[bU]
 |s::l,os=>by unfold bU;have b:=Bb (cL s.1 os) s;have c:=EG s.1 os;have d:=rO l (cL s.1 os);have a:l.length*((cL s.1 os).length+1)<=l.length*(os.length+1):=Nat.mul_le_mul_left _ (by omega);rw[gk,jj,lp];omega
theorem LN{l:List Cl}(h: ∀c∈l,c.fits)(j:Nat):ij (lists l j):=by
 intro x a
 have: ∃i d,x∈cM l i d:=by
  unfold lists at a;split at a
  ·exact⟨_,_,a⟩
  ·exact⟨_,_,a⟩
 obtain⟨i,d,a⟩:=this;obtain⟨c,b,_,_,rfl⟩:=lX.1 a;exact⟨(h c b).2.1,(h c b).2.2.1⟩
theorem EH{l:List Cl}(c: ∀a∈l,Ok a){i:Int}{s s':List (Int×Int)}(d:s.Perm (cM l i true))(b:s'.Perm (cM l i false))(k:lv s)(g:lv s'):J0 l i (cE s) (bU (cE s') (cE s)):=by have h:sM s:=fun x a=>oJ c i true x (d.mem_iff.1 a);have o:sM s':=fun x a=>oJ c i false x (b.mem_iff.1 a);obtain⟨a,p⟩:=wV h k;obtain⟨f,j⟩:=wV o g;obtain⟨e,m,_⟩:=qc f a;exact⟨⟨a,fun n=>(p n).x (Ec d n)⟩,e,fun n=>by rw[m n,j n,Ec b n]⟩
theorem za{ks:List (List UInt8)}(d:ks.Nodup):(ks.mergeSort fun x y=>decide (x<=y)).Pairwise (· < ·):=by
 have a:=List.pairwise_mergeSort (le:=fun x y:List UInt8=>decide (x<=y)) (fun e f c h b=>by simp at *;exact List.le_trans h b) (fun e f=>by simp;exact List.le_total e f) ks;have c:(ks.mergeSort fun x y=>decide (x<=y)).Nodup:=(List.mergeSort_perm ks _).nodup_iff.2 d;refine(a.and c).imp ?_;rintro e f ⟨h,b⟩;simp at h;rcases Decidable.em (e<f)with a|a
 ·exact a
 ·exact absurd (List.le_antisymm h (List.not_lt.1 a)) b
theorem Bc{l:List Cl}(g: ∀c∈l,Ok c){ks:List (List UInt8)}(j:ks.Nodup)(c: ∀k,k∈ks↔ej l (-1,k,0)≠0){rows:List Cl}(f:(ks.mergeSort fun x y=>decide (x<=y)).map (AU fun a=>ej l (-1,a,0))=rows)
  {W R:Int->List (Int×Int)} (m: ∀i:Nat,i<4->J0 l i (W i) (R i)):cG l (rows++jD W R 4):=by
 have e:rows++jD W R 4=fy ((ks.mergeSort fun x y=>decide (x<=y)).map fun k=>(ej l (-1,k,0)==2,k)) W R:=by rw[EF,<-f,List.map_map];rfl
 rw[e]
 have d: ∀i:Int,0<=i->i<4->J0 l i (W i) (R i):=fun i a b=>by obtain⟨n,rfl⟩: ∃n:Nat,i=(n:Int):=⟨i.toNat,by omega⟩;exact m n (by omega)
 refine Sm g ?_ ?_ ?_ (fun i a b=>(d i a b).1) (fun i a b=>(d i a b).2)
 ·rw[List.pairwise_map];exact za j
 ·intro k;have h:=fx l (-1,k,0);constructor
  ·rintro⟨o,a⟩;obtain⟨i,b,e⟩:=eh.1 a;injection e with _ e;subst e;have:=(c _).1 (List.mem_mergeSort.1 b);omega
  ·intro o;exact⟨_,eh.2 ⟨k,List.mem_mergeSort.2 ((c k).2 (by omega)),rfl⟩⟩
 ·intro k;constructor
  ·intro a;obtain⟨i,b,e⟩:=eh.1 a;injection e with h e;subst e;simpa using h
  ·intro o;refine eh.2 ⟨k,List.mem_mergeSort.2 ((c k).2 (by omega)),?_⟩;rw[o];rfl
theorem Hn(w:World)(l:List Cl):O8 w l 0 ((((w.alloc (.cells #[.slice none 0 0] 37)).alloc (.map #[] 0)).alloc (.cells #[.slice none 0 0,.slice none 0 0,.slice none 0 0,.slice none 0 0] 75)).alloc (.cells #[.slice none 0 0,.slice none 0 0,.slice none 0 0,.slice none 0 0] 75)):=by
 refine⟨.map [],fun _=>.slice none 0 0,?_,?_,?_,?_,?_,⟨?_,?_⟩,?_⟩
 ·intro k;simp[Sk,DataW.atKey,Maps.has]
 ·have h:=World.ownsMap_made (H:=Unit) (w.alloc (.cells #[.slice none 0 0] 37)) prog 78 (plainElem prog 3);have e:(w.alloc (.cells #[.slice none 0 0] 37)).heap.size=w.heap.size+1:=by simp
  rw[e]at h;exact(h.alloc _).alloc _
 ·rw[Below.heap_alloc _ _ _ (by simp;omega),Below.heap_alloc _ _ _ (by simp;omega),Below.heap_alloc _ _ _ (by simp)];exact an _ _
 ·unfold fN;rw[Below.heap_alloc _ _ _ (by simp)];have e:w.heap.size+1+1=((w.alloc (.cells #[.slice none 0 0] 37)).alloc (.map #[] 0)).heap.size:=by simp
  rw[e];exact an _ _
 ·unfold fN;have e:w.heap.size+1+1+1=(((w.alloc (.cells #[.slice none 0 0] 37)).alloc (.map #[] 0)).alloc (.cells #[.slice none 0 0,.slice none 0 0,.slice none 0 0,.slice none 0 0] 75)).heap.size:=by simp
  rw[e];exact an _ _
 ·intro j a;have:lists (l.take 0) j=[]:=by simp[lists,cM]
  rw[this];exact ea _ _ _ _
 ·intro i j _ _ _ g a;simp[Value.ownBlock]at a
 ·exact((((aw _ _).alloc (b8 _) _).alloc (by simp) _).alloc (by simp;omega) _).alloc (by simp;omega) _
def aaA(w:World)(l:List Cl)(rs:Nat->Value)(rows:List Cl)(k:Nat)(v10:Value)(wr:World):Prop:=
 ∃W R:Int->List (Int×Int),(∀i:Nat,i<k->J0 l i (W i) (R i))/\(rows++jD W R k).length<=1000+k*1002000/\Inv w rs (lists l) (rows++jD W R k) v10 (fun j=>k<=j%4) wr
theorem pI{w w2 f:World}{l:List Cl}{k:Nat}{x:Cl}{D:DataW Unit}{rs:Nat->Value}{i j A d a b g:Nat}{c:Option Addr}(q:iQ w D k rs (lists (l.take k)) w2)(m:l[k]?=some x)(z:jU D (fun e=>ej (l.take k) (-1,e,0)))
  (B:x.aL=(j:Int)) (u:j<4) (hi:i=if x.wr then 4+j else j) (C:rs i=.slice c (lists (l.take k) i).length d) (h:(lists (l.take k) i).length=a)
  (y:f.ownsRow (w.heap.size+1+1+1+1) 80 2 (.slice (some ⟨b,0,none⟩) (a+1) g) (a+1) (((lists (l.take k) i).map mh).flatten++[rv x.lo,rv x.hi]))
  (r:(w2.alloc (sn x.lo x.hi)).drew.grownBy f (Value.slice c a d).ownBlock) (v:(Value.slice c a d).ownBlock=some b\/b=w2.heap.size+1)
  (s:(i<4/\A=w.heap.size+1+1/\j=i)\/(4<=i/\A=w.heap.size+1+1+1/\i=4+j)):O8 w l (k+1) (f.setCell ⟨A,j,none⟩ (.slice (some ⟨b,0,none⟩) (a+1) g)):=by
 have p:i<8:=by omega
 have E:iQ w D k rs (lists (l.take k)) (w2.alloc (sn x.lo x.hi)).drew:=q.below (((aw _ _).alloc (b8 _) _).drew);have n:(rs i).ownBlock=(Value.slice c a d).ownBlock:=by rw[C,h]
 have o:=E.append p (v':=.slice (some ⟨b,0,none⟩) (a+1) g) (x:=(x.lo,x.hi)) (by rw[n];exact r) (by rw[h];simpa[mh]using y) (by
  rw[n];rcases v with o|o
  ·exact .inl o.symm
  ·refine .inr ?_;subst o
   simp[Value.ownBlock]) s
 refine⟨D,_,?_,(o.more (Nat.le_succ k)).lists (fun F t=>?_)⟩
 ·rw[cY m];exact z.same (fun e=>Hm (by omega) e)
 ·rw[cY m,LM B u F t,<-hi]
end
section
open Go.RowKit Go.Maps Go.WideShapes
theorem sY(w:World)(F:Nat->Prop)(v:Value)(l:List Cl)(t:cz w F v l)(hl:l.length<=1000)(bb: ∀c∈l,c.fits):
  Calls prog 9 #[v] w (Pb l w):=by
 obtain⟨i0,hi,a7,a5,a4⟩:=ef Tryz.Gz;obtain⟨i2,bf,bi,bc,bh⟩:=ef Tryz.sK;obtain⟨A,c,rfl,bv,bn⟩:=t.slice;have H:=al t;have yP:=al hi;clear t hi;have bs:= @run_makeMap prog;go_enter func9,ntmps9;go_wp2_with fail
 go_step3
 go_wp2_with fail
 go_step3
 go_wp2_with fail
 go_loopw [7,16] (fun e i wr=>e=.int .i64 0/\ ∃p,p<=l.length/\i=.int .i64 (p:Int)/\(∀c∈l.take p,Ok c)/\O8 w l p wr) (fun _ i _=>l.length-(intOf i).toNat)
 case atStart=>exact⟨rfl,0,dq _,rfl,by simp,Hn w l⟩
 case round=>
  obtain⟨rfl,p,hk,rfl,a',D,rs,hD,hC⟩:=hrel;by_cases am:p<l.length
  ·obtain⟨x,hx⟩: ∃x,l[p]?=some x:=⟨_,ao am⟩;obtain⟨b,o,rfl,tR,d,f,k,g,j⟩:=H.o.at_ hx;have hb:b<w.heap.size:=aq w _ d;have a:=hC.2.2.2.2.2;have m:=(a.cell (p:=⟨b,o+p*5,none⟩) hb).x d;have n:=(a.cell (p:=⟨b,o+p*5+1,none⟩) hb).x f;have s:=(a.cell (p:=⟨b,o+p*5+2,none⟩) hb).x k;have q:=(a.cell (p:=⟨b,o+p*5+3,none⟩) hb).x g;have y:=(a.cell (p:=⟨b,o+p*5+4,none⟩) hb).x j;have ac:=fun W=>NS W x;have yC:=bb x (db hx);have hs:=a.size;have h:=al (ab a' (ab hD (ab hC (ab a hx))));clear a' hD hC a hx d f k g j;unfold Cl.val at ac;by_cases Z:D9 x=0
   ·have Hp:Ok x:=Z;rw[Z]at ac;clear Z;go_wp2_with fail;refine(ac _).m ?_;rintro e r ⟨rfl,R⟩
    have a:r.heap[wr.heap.size]?=some (.cells #[.bool x.wr,.int .i64 x.aL,.string ⟨x.key.toArray⟩,.int .i64 x.lo,.int .i64 x.hi] 68 (0,0)):=by rw[R.block wr.heap.size (by simp)];exact an _ _
    have d:Below wr.heap.size wr r:=((aw _ _).alloc (b8 _) _).x (R.m (by simp));have I:=h.o.d.1.below d;obtain⟨q0,q1,u,q3,q4⟩:=Hk a;have bx:=I.1.lt;have a9:=d.size;have b':wr.heap.size<r.heap.size:=(cq.1 a).1;have j:=al I;have LQ:=al a;clear R ac d I m n s q y a;rcases Hp.parts with⟨U,d,a,e4,e5⟩|⟨U,d,a,e4⟩
    ·have f:=AK (k:=x.key) (by unfold maxLen;omega);unfold Ep at f;have s:=al (ab f (ab d (ab a U)));rw[U]at q1;clear f U d a q3 q4
     cases hw:x.wr with
     |true=>
      rw[hw]at q0;have y:=al hw;clear hw;go_wp2_with (at_mapUpdate;go_loud (refine wpList_mapUpdate_own _ rfl _ _ _ 73 rfl 78 3 Lu underlying73 _ (w.heap.size+1) p D rfl j.o.1 (by unfold maxLen;omega) _ _ _ rfl rfl s.o.1 _ [] (plainElem_int underlying3 (by decide)) ?_);intro L B g);go_roundw
      case rel=>
       refine⟨rfl,p+1,by omega,by go_num,pG h.o.1 h.o.q Hp,_,rs,?_,((j.o.map g B).lists (fun N Q=>?_))⟩
       ·rw[cY h.o.q];refine h.o.2.1.put j.o.1.isMap (by decide) ?_ (fun C f=>?_)
        ·rw[vB s.o.t s.o.2.1 s.o.d.1,fi rfl,fi y.o]
        ·rw[vB s.o.t s.o.2.1 s.o.d.1,ff f]
       ·rw[cY h.o.q];exact AV s.o.t N Q
      case measure=>simp[intOf];omega
     |false=>
      rw[hw]at q0;have y:=al hw;clear hw;obtain⟨G,q,k,m⟩:=j.o.1.drew.lookup_int Lu underlying73 underlying3 (Tryz.U5 _) s.o.1
      have ad:G=ej (l.take p) (-1,x.key,0):=by have t:=(h.o.2.1 x.key).1;rw[k]at t;simpa using t
      have z:=fx (l.take p) (-1,x.key,0);rw[<-ad]at z;have E:=al ad;clear k ad m;go_upto_region 13 with fail
      go_still_tail 10,(by kernel_rfl)
      change wpList _ _ _ _ _ r.drew;generalize k:(max G 1:Int)=mx
      have n:(Lit.int .i64 mx).wf=true:=by
       have:mx=1\/mx=2:=by omega
       rcases this with rfl|rfl<;>decide
      have m:=al k;clear k q;go_wp2_with (at_mapUpdate;go_loud (refine wpList_mapUpdate_own _ rfl _ _ _ 73 rfl 78 3 Lu underlying73 _ (w.heap.size+1) p D rfl j.o.1.drew (by unfold maxLen;omega) _ _ _ rfl rfl s.o.1 _ [] (plainElem_int underlying3 n) ?_);intro L B g);go_roundw
      case rel=>
       have q:mx≠0:=by have:=m.o;omega
       have k:r.grownBy L (some (w.heap.size+1)):=⟨g.os,g.tape,g.output,g.size,g.block⟩;refine⟨rfl,p+1,by omega,by go_num,pG h.o.1 h.o.q Hp,_,rs,?_,((j.o.map k B).lists (fun N Q=>?_))⟩
       ·rw[cY h.o.q];refine h.o.2.1.put j.o.1.isMap q ?_ (fun C f=>?_)
        ·rw[vB s.o.t s.o.2.1 s.o.d.1,fi rfl,ff (by rw[y.o];decide),<-E.o];exact m.o
        ·rw[vB s.o.t s.o.2.1 s.o.d.1,ff f]
       ·rw[cY h.o.q];exact AV s.o.t N Q
      case measure=>simp[intOf];omega
    ·obtain⟨N,Q⟩: ∃N:Nat,x.aL=(N:Int):=⟨x.aL.toNat,by omega⟩;have Y:N<4:=by omega
     have br:(0:Int)<=(N:Int):=by omega
     have bo:(N:Int)<4:=by omega
     rw[Q]at q1;have J:=al (ab Q (ab U a));clear Q U d a u
     cases hw:x.wr with
     |true=>
      rw[hw]at q0;have ba:4+N<8:=by omega
      obtain⟨C,T⟩:=mO j.o.t.1 N Y;have O:=j.o.q.1.1 (4+N) ba;obtain⟨X,V,K⟩:=ar O
      have a8:(lists (l.take p) (4+N)).length<=1000:=by have:=sX (l.take p) (4+N);simp at this;omega
      simp only[K]at C;obtain⟨G,E⟩:=rl ((lists (l.take p) (4+N)).length);rw[E]at C a8;have aa:=O.alloc (.cells #[.int .i64 x.lo,.int .i64 x.hi] 80);rw[K,E]at aa;have ap:=eb (an r (.cells #[.int .i64 x.lo,.int .i64 x.hi] 80));have bl:=(cq.1 j.o.d.1).1;have bm:=(cq.1 h.o.d.1.2.2.2.1).1;have kF:w.heap.size+1+1≠wr.heap.size:=by omega
      have oL:w.heap.size+1+1+1≠wr.heap.size:=by omega
      have bk:=(cq.1 j.o.t.1).1
      have a3: ∀S,Value.ownBlock (.slice X G V)=some S->w.heap.size+1+1+1+1<=S/\S<r.heap.size:=fun S u=>by rw[<-E,<-K]at u;exact O.lt S u
      have dm: ∀S,Value.ownBlock (.slice X G V)=some S->S≠wr.heap.size:=fun S u e=>by rw[<-E,<-K]at u;subst e;exact cw O LQ.o (by decide) u
      have y:=al (ab hw (ab K E));have q:=al (ab aa (ab ap (ab a3 dm)));clear hw K E O aa ap a3 dm;go_upto_region 15 with fail;refine pw (S:=(fun w'=>w'.cell? ⟨wr.heap.size,1,none⟩=some (.int .i64 (N:Int))/\w'.cell? ⟨wr.heap.size,3,none⟩=some (.int .i64 x.lo)/\w'.cell? ⟨wr.heap.size,4,none⟩=some (.int .i64 x.hi))) (by kernel_rfl) ⟨q1,q3,q4⟩ (fun a=>?_);refine ag (i:=0) (v:=?_) rfl (by kernel_rfl) (by kernel_rfl) (by kernel_rfl) (fun _ _ _ t=>t) (by rfl) (fun w d=>?_) a ?_;rotate_left
      ·obtain⟨m,n,k⟩:=d;go_simp;try with_reducible rfl
      try simp only[ah,ai,aj,ak]
      refine ag (i:=1) (v:=?_) rfl (by kernel_rfl) (by kernel_rfl) (by kernel_rfl) (fun _ _ _ t=>t) (by rfl) (fun w d=>?_) a ?_;rotate_left
      ·obtain⟨m,n,k⟩:=d;go_simp;try with_reducible rfl
      try simp only[ah,ai,aj,ak]
      refine ag (i:=2) (v:=?_) rfl (by kernel_rfl) (by kernel_rfl) (by kernel_rfl) (fun _ _ _ t=>t) (by rfl) (fun w d=>?_) a ?_;rotate_left
      ·obtain⟨m,n,k⟩:=d;go_simp;try with_reducible rfl
      try simp only[ah,ai,aj,ak]
      refine ag (i:=3) (v:=?_) rfl (by kernel_rfl) (by kernel_rfl) (by kernel_rfl) (fun _ _ _ t=>t) (by rfl) (fun w d=>?_) a ?_;rotate_left
      ·obtain⟨m,n,k⟩:=d;go_simp;try with_reducible rfl
      try simp only[ah,ai,aj,ak]
      refine ag (i:=4) (v:=?_) rfl (by kernel_rfl) (by kernel_rfl) (by kernel_rfl) (fun _ _ _ t=>t) (by rfl) (fun w d=>?_) a ?_;rotate_left
      ·obtain⟨m,n,k⟩:=d;go_simp;try with_reducible rfl
      try simp only[ah,ai,aj,ak]
      refine ag (i:=6) (v:=?_) rfl (by kernel_rfl) (by kernel_rfl) (by kernel_rfl) (fun _ _ _ t=>t) (by rfl) (fun w d=>?_) a ?_;rotate_left
      ·obtain⟨m,n,k⟩:=d;go_simp;try with_reducible rfl
      try simp only[ah,ai,aj,ak]
      refine ag (i:=7) (v:=?_) rfl (by kernel_rfl) (by kernel_rfl) (by kernel_rfl) (fun _ _ _ t=>t) (by rfl) (fun w d=>?_) a ?_;rotate_left
      ·obtain⟨m,n,k⟩:=d;go_simp;try with_reducible rfl
      try simp only[ah,ai,aj,ak]
      refine ag (i:=8) (v:=?_) rfl (by kernel_rfl) (by kernel_rfl) (by kernel_rfl) (fun _ _ _ t=>t) (by rfl) (fun w d=>?_) a ?_;rotate_left
      ·obtain⟨m,n,k⟩:=d;go_simp;try with_reducible rfl
      try simp only[ah,ai,aj,ak]
      refine ag (i:=9) (v:=?_) rfl (by kernel_rfl) (by kernel_rfl) (by kernel_rfl) (fun _ _ _ t=>t) (by rfl) (fun w d=>?_) a ?_;rotate_left
      ·obtain⟨m,n,k⟩:=d;go_simp;try with_reducible rfl
      try simp only[ah,ai,aj,ak]
      refine ag (i:=10) (v:=?_) rfl (by kernel_rfl) (by kernel_rfl) (by kernel_rfl) (fun _ _ _ t=>t) (by rfl) (fun w d=>?_) a ?_;rotate_left
      ·obtain⟨m,n,k⟩:=d;go_simp;try with_reducible rfl
      try simp only[ah,ai,aj,ak]
      refine qn (rs:=[5,11]) (by kernel_rfl) (by simp) ?_;refine au (i:=5) rfl (fun M f=>?_) (au (i:=11) rfl (fun M f=>?_) pt)
      ·go_simp;refine f.o _ _ a (fun a=>?_);clear f M
       try simp only[ah,ai,aj,ak]
       refine qn (rs:=[11]) (by kernel_rfl) (by simp) (au (i:=11) rfl (fun M f=>?_) pt);go_simp;refine f.o _ _ (by obtain⟨m,n,k⟩:=a;refine⟨?_,?_,?_⟩<;>simp[*,World.cell?_alloc_some]) (fun a=>?_);clear f M
       try simp only[ah,ai,aj,ak]
       refine qn (rs:=[12]) (by kernel_rfl) (by simp) (au (i:=12) rfl (fun M f=>?_) pt)
       (refine step_append_lies _ (by rfl) _ _ 74 (by rfl) (w.heap.size+1+1+1+1) 80 i0 _ 2 16 underlying74 yP.o a7 a5 a4 (by rfl) (by decide) (.slice X G V) G _ (by rfl) q.o.1 ⟨r.heap.size,0,none⟩ 1 1 [.int .i64 x.lo,.int .i64 x.hi] (by rfl) (by rfl) q.o.2.1 (by simp[Value.oneCell']) (by decide) (by unfold maxLen;omega) (by omega) (by simp;omega) (r.heap.size+1) (by simp) ?_)
       intro g3 Ho L B g P WL;obtain⟨b0,b1⟩:=jV (o:=.cells #[.int .i64 x.lo,.int .i64 x.hi] 80) (w2:=r) g rfl C T (fun e=>by have:=(q.o.d.1 _ e.symm).1;omega);refine f.o _ _ ⟨(g.cell_far _ (by simp;omega) (fun e=>(q.o.t _ e.symm) rfl)).x a.1,(g.cell_far _ (by simp;omega) (fun e=>(q.o.t _ e.symm) rfl)).x a.2.1,(g.cell_far _ (by simp;omega) (fun e=>(q.o.t _ e.symm) rfl)).x a.2.2⟩ (fun a=>?_);clear f M
       try simp only[ah,ai,aj,ak]
       refine ag (i:=13) (v:=?_) rfl (by kernel_rfl) (by kernel_rfl) (by kernel_rfl) (fun _ _ _ t=>t) (by rfl) (fun w d=>?_) a ?_;rotate_left
       ·obtain⟨m,n,k⟩:=d;go_simp;try with_reducible rfl
       try simp only[ah,ai,aj,ak]
       refine qn (rs:=[14]) (by kernel_rfl) (by simp) (au (i:=14) rfl (fun M f=>?_) pt);go_simp;refine f.o _ _ (by obtain⟨m,n,k⟩:=a;refine⟨?_,?_,?_⟩<;>simp[*,World.cell?_setCell_far]) (fun a=>?_);clear f M
       try simp only[ah,ai,aj,ak]
       refine qe (by kernel_rfl) ?_ _;have z:=al (ab B (ab g P));clear a B g P b0 b1 C T;go_wp2_with fail;go_roundw
       case rel=>exact⟨rfl,p+1,by omega,by go_num,pG h.o.1 h.o.q Hp,pI j.o h.o.q h.o.2.1 J.o.1 Y (by rw[y.o.1];rfl) y.o.2.1 y.o.d z.o.1 z.o.2.1 z.o.d (.inr ⟨by omega,rfl,rfl⟩)⟩
       case measure=>simp[intOf];omega
      ·go_simp;refine f.o _ _ (by obtain⟨m,n,k⟩:=a;refine⟨?_,?_,?_⟩<;>simp[*,World.cell?_alloc_some]) (fun a=>?_);clear f M
       try simp only[ah,ai,aj,ak]
       refine qn (rs:=[5]) (by kernel_rfl) (by simp) (au (i:=5) rfl (fun M f=>?_) pt);go_simp;refine f.o _ _ a (fun a=>?_);clear f M
       try simp only[ah,ai,aj,ak]
       refine qn (rs:=[12]) (by kernel_rfl) (by simp) (au (i:=12) rfl (fun M f=>?_) pt)
       (refine step_append_lies _ (by rfl) _ _ 74 (by rfl) (w.heap.size+1+1+1+1) 80 i0 _ 2 16 underlying74 yP.o a7 a5 a4 (by rfl) (by decide) (.slice X G V) G _ (by rfl) q.o.1 ⟨r.heap.size,0,none⟩ 1 1 [.int .i64 x.lo,.int .i64 x.hi] (by rfl) (by rfl) q.o.2.1 (by simp[Value.oneCell']) (by decide) (by unfold maxLen;omega) (by omega) (by simp;omega) (r.heap.size+1) (by simp) ?_)
       intro g3 Ho L B g P WL;obtain⟨b0,b1⟩:=jV (o:=.cells #[.int .i64 x.lo,.int .i64 x.hi] 80) (w2:=r) g rfl C T (fun e=>by have:=(q.o.d.1 _ e.symm).1;omega);refine f.o _ _ ⟨(g.cell_far _ (by simp;omega) (fun e=>(q.o.t _ e.symm) rfl)).x a.1,(g.cell_far _ (by simp;omega) (fun e=>(q.o.t _ e.symm) rfl)).x a.2.1,(g.cell_far _ (by simp;omega) (fun e=>(q.o.t _ e.symm) rfl)).x a.2.2⟩ (fun a=>?_);clear f M
       try simp only[ah,ai,aj,ak]
       refine ag (i:=13) (v:=?_) rfl (by kernel_rfl) (by kernel_rfl) (by kernel_rfl) (fun _ _ _ t=>t) (by rfl) (fun w d=>?_) a ?_;rotate_left
       ·obtain⟨m,n,k⟩:=d;go_simp;try with_reducible rfl
       try simp only[ah,ai,aj,ak]
       refine qn (rs:=[14]) (by kernel_rfl) (by simp) (au (i:=14) rfl (fun M f=>?_) pt);go_simp;refine f.o _ _ (by obtain⟨m,n,k⟩:=a;refine⟨?_,?_,?_⟩<;>simp[*,World.cell?_setCell_far]) (fun a=>?_);clear f M
       try simp only[ah,ai,aj,ak]
       refine qe (by kernel_rfl) ?_ _;have z:=al (ab B (ab g P));clear a B g P b0 b1 C T;go_wp2_with fail;go_roundw
       case rel=>exact⟨rfl,p+1,by omega,by go_num,pG h.o.1 h.o.q Hp,pI j.o h.o.q h.o.2.1 J.o.1 Y (by rw[y.o.1];rfl) y.o.2.1 y.o.d z.o.1 z.o.2.1 z.o.d (.inr ⟨by omega,rfl,rfl⟩)⟩
       case measure=>simp[intOf];omega
     |false=>
      rw[hw]at q0;have ba:N<8:=by omega
      obtain⟨C,T⟩:=mO j.o.d.1 N Y;have O:=j.o.q.1.1 (N) ba;obtain⟨X,V,K⟩:=ar O
      have a8:(lists (l.take p) (N)).length<=1000:=by have:=sX (l.take p) (N);simp at this;omega
      simp only[K]at C;obtain⟨G,E⟩:=rl ((lists (l.take p) (N)).length);rw[E]at C a8;have aa:=O.alloc (.cells #[.int .i64 x.lo,.int .i64 x.hi] 80);rw[K,E]at aa;have ap:=eb (an r (.cells #[.int .i64 x.lo,.int .i64 x.hi] 80));have bl:=(cq.1 j.o.d.1).1;have bm:=(cq.1 h.o.d.1.2.2.2.1).1;have kF:w.heap.size+1+1≠wr.heap.size:=by omega
      have oL:w.heap.size+1+1+1≠wr.heap.size:=by omega
      have bk:=(cq.1 j.o.t.1).1
      have a3: ∀S,Value.ownBlock (.slice X G V)=some S->w.heap.size+1+1+1+1<=S/\S<r.heap.size:=fun S u=>by rw[<-E,<-K]at u;exact O.lt S u
      have dm: ∀S,Value.ownBlock (.slice X G V)=some S->S≠wr.heap.size:=fun S u e=>by rw[<-E,<-K]at u;subst e;exact cw O LQ.o (by decide) u
      have y:=al (ab hw (ab K E));have q:=al (ab aa (ab ap (ab a3 dm)));clear hw K E O aa ap a3 dm;go_upto_region 9 with fail;refine pw (S:=(fun w'=>w'.cell? ⟨wr.heap.size,1,none⟩=some (.int .i64 (N:Int))/\w'.cell? ⟨wr.heap.size,3,none⟩=some (.int .i64 x.lo)/\w'.cell? ⟨wr.heap.size,4,none⟩=some (.int .i64 x.hi))) (by kernel_rfl) ⟨q1,q3,q4⟩ (fun a=>?_);refine ag (i:=0) (v:=?_) rfl (by kernel_rfl) (by kernel_rfl) (by kernel_rfl) (fun _ _ _ t=>t) (by rfl) (fun w d=>?_) a ?_;rotate_left
      ·obtain⟨m,n,k⟩:=d;go_simp;try with_reducible rfl
      try simp only[ah,ai,aj,ak]
      refine ag (i:=1) (v:=?_) rfl (by kernel_rfl) (by kernel_rfl) (by kernel_rfl) (fun _ _ _ t=>t) (by rfl) (fun w d=>?_) a ?_;rotate_left
      ·obtain⟨m,n,k⟩:=d;go_simp;try with_reducible rfl
      try simp only[ah,ai,aj,ak]
      refine ag (i:=2) (v:=?_) rfl (by kernel_rfl) (by kernel_rfl) (by kernel_rfl) (fun _ _ _ t=>t) (by rfl) (fun w d=>?_) a ?_;rotate_left
      ·obtain⟨m,n,k⟩:=d;go_simp;try with_reducible rfl
      try simp only[ah,ai,aj,ak]
      refine ag (i:=3) (v:=?_) rfl (by kernel_rfl) (by kernel_rfl) (by kernel_rfl) (fun _ _ _ t=>t) (by rfl) (fun w d=>?_) a ?_;rotate_left
      ·obtain⟨m,n,k⟩:=d;go_simp;try with_reducible rfl
      try simp only[ah,ai,aj,ak]
      refine ag (i:=4) (v:=?_) rfl (by kernel_rfl) (by kernel_rfl) (by kernel_rfl) (fun _ _ _ t=>t) (by rfl) (fun w d=>?_) a ?_;rotate_left
      ·obtain⟨m,n,k⟩:=d;go_simp;try with_reducible rfl
      try simp only[ah,ai,aj,ak]
      refine ag (i:=6) (v:=?_) rfl (by kernel_rfl) (by kernel_rfl) (by kernel_rfl) (fun _ _ _ t=>t) (by rfl) (fun w d=>?_) a ?_;rotate_left
      ·obtain⟨m,n,k⟩:=d;go_simp;try with_reducible rfl
      try simp only[ah,ai,aj,ak]
      refine ag (i:=7) (v:=?_) rfl (by kernel_rfl) (by kernel_rfl) (by kernel_rfl) (fun _ _ _ t=>t) (by rfl) (fun w d=>?_) a ?_;rotate_left
      ·obtain⟨m,n,k⟩:=d;go_simp;try with_reducible rfl
      try simp only[ah,ai,aj,ak]
      refine ag (i:=8) (v:=?_) rfl (by kernel_rfl) (by kernel_rfl) (by kernel_rfl) (fun _ _ _ t=>t) (by rfl) (fun w d=>?_) a ?_;rotate_left
      ·obtain⟨m,n,k⟩:=d;go_simp;try with_reducible rfl
      try simp only[ah,ai,aj,ak]
      refine ag (i:=9) (v:=?_) rfl (by kernel_rfl) (by kernel_rfl) (by kernel_rfl) (fun _ _ _ t=>t) (by rfl) (fun w d=>?_) a ?_;rotate_left
      ·obtain⟨m,n,k⟩:=d;go_simp;try with_reducible rfl
      try simp only[ah,ai,aj,ak]
      refine ag (i:=10) (v:=?_) rfl (by kernel_rfl) (by kernel_rfl) (by kernel_rfl) (fun _ _ _ t=>t) (by rfl) (fun w d=>?_) a ?_;rotate_left
      ·obtain⟨m,n,k⟩:=d;go_simp;try with_reducible rfl
      try simp only[ah,ai,aj,ak]
      refine qn (rs:=[5,11]) (by kernel_rfl) (by simp) ?_;refine au (i:=5) rfl (fun M f=>?_) (au (i:=11) rfl (fun M f=>?_) pt)
      ·go_simp;refine f.o _ _ a (fun a=>?_);clear f M
       try simp only[ah,ai,aj,ak]
       refine qn (rs:=[11]) (by kernel_rfl) (by simp) (au (i:=11) rfl (fun M f=>?_) pt);go_simp;refine f.o _ _ (by obtain⟨m,n,k⟩:=a;refine⟨?_,?_,?_⟩<;>simp[*,World.cell?_alloc_some]) (fun a=>?_);clear f M
       try simp only[ah,ai,aj,ak]
       refine qn (rs:=[12]) (by kernel_rfl) (by simp) (au (i:=12) rfl (fun M f=>?_) pt)
       (refine step_append_lies _ (by rfl) _ _ 74 (by rfl) (w.heap.size+1+1+1+1) 80 i0 _ 2 16 underlying74 yP.o a7 a5 a4 (by rfl) (by decide) (.slice X G V) G _ (by rfl) q.o.1 ⟨r.heap.size,0,none⟩ 1 1 [.int .i64 x.lo,.int .i64 x.hi] (by rfl) (by rfl) q.o.2.1 (by simp[Value.oneCell']) (by decide) (by unfold maxLen;omega) (by omega) (by simp;omega) (r.heap.size+1) (by simp) ?_)
       intro g3 Ho L B g P WL;obtain⟨b0,b1⟩:=jV (o:=.cells #[.int .i64 x.lo,.int .i64 x.hi] 80) (w2:=r) g rfl C T (fun e=>by have:=(q.o.d.1 _ e.symm).1;omega);refine f.o _ _ ⟨(g.cell_far _ (by simp;omega) (fun e=>(q.o.t _ e.symm) rfl)).x a.1,(g.cell_far _ (by simp;omega) (fun e=>(q.o.t _ e.symm) rfl)).x a.2.1,(g.cell_far _ (by simp;omega) (fun e=>(q.o.t _ e.symm) rfl)).x a.2.2⟩ (fun a=>?_);clear f M
       try simp only[ah,ai,aj,ak]
       refine ag (i:=13) (v:=?_) rfl (by kernel_rfl) (by kernel_rfl) (by kernel_rfl) (fun _ _ _ t=>t) (by rfl) (fun w d=>?_) a ?_;rotate_left
       ·obtain⟨m,n,k⟩:=d;go_simp;try with_reducible rfl
       try simp only[ah,ai,aj,ak]
       refine qn (rs:=[14]) (by kernel_rfl) (by simp) (au (i:=14) rfl (fun M f=>?_) pt);go_simp;refine f.o _ _ (by obtain⟨m,n,k⟩:=a;refine⟨?_,?_,?_⟩<;>simp[*,World.cell?_setCell_far]) (fun a=>?_);clear f M
       try simp only[ah,ai,aj,ak]
       refine qe (by kernel_rfl) ?_ _;have z:=al (ab B (ab g P));clear a B g P b0 b1 C T;go_wp2_with fail;go_roundw
       case rel=>exact⟨rfl,p+1,by omega,by go_num,pG h.o.1 h.o.q Hp,pI j.o h.o.q h.o.2.1 J.o.1 Y (by rw[y.o.1];rfl) y.o.2.1 y.o.d z.o.1 z.o.2.1 z.o.d (.inl ⟨Y,rfl,rfl⟩)⟩
       case measure=>simp[intOf];omega
      ·go_simp;refine f.o _ _ (by obtain⟨m,n,k⟩:=a;refine⟨?_,?_,?_⟩<;>simp[*,World.cell?_alloc_some]) (fun a=>?_);clear f M
       try simp only[ah,ai,aj,ak]
       refine qn (rs:=[5]) (by kernel_rfl) (by simp) (au (i:=5) rfl (fun M f=>?_) pt);go_simp;refine f.o _ _ a (fun a=>?_);clear f M
       try simp only[ah,ai,aj,ak]
       refine qn (rs:=[12]) (by kernel_rfl) (by simp) (au (i:=12) rfl (fun M f=>?_) pt)
       (refine step_append_lies _ (by rfl) _ _ 74 (by rfl) (w.heap.size+1+1+1+1) 80 i0 _ 2 16 underlying74 yP.o a7 a5 a4 (by rfl) (by decide) (.slice X G V) G _ (by rfl) q.o.1 ⟨r.heap.size,0,none⟩ 1 1 [.int .i64 x.lo,.int .i64 x.hi] (by rfl) (by rfl) q.o.2.1 (by simp[Value.oneCell']) (by decide) (by unfold maxLen;omega) (by omega) (by simp;omega) (r.heap.size+1) (by simp) ?_)
       intro g3 Ho L B g P WL;obtain⟨b0,b1⟩:=jV (o:=.cells #[.int .i64 x.lo,.int .i64 x.hi] 80) (w2:=r) g rfl C T (fun e=>by have:=(q.o.d.1 _ e.symm).1;omega);refine f.o _ _ ⟨(g.cell_far _ (by simp;omega) (fun e=>(q.o.t _ e.symm) rfl)).x a.1,(g.cell_far _ (by simp;omega) (fun e=>(q.o.t _ e.symm) rfl)).x a.2.1,(g.cell_far _ (by simp;omega) (fun e=>(q.o.t _ e.symm) rfl)).x a.2.2⟩ (fun a=>?_);clear f M
       try simp only[ah,ai,aj,ak]
       refine ag (i:=13) (v:=?_) rfl (by kernel_rfl) (by kernel_rfl) (by kernel_rfl) (fun _ _ _ t=>t) (by rfl) (fun w d=>?_) a ?_;rotate_left
       ·obtain⟨m,n,k⟩:=d;go_simp;try with_reducible rfl
       try simp only[ah,ai,aj,ak]
       refine qn (rs:=[14]) (by kernel_rfl) (by simp) (au (i:=14) rfl (fun M f=>?_) pt);go_simp;refine f.o _ _ (by obtain⟨m,n,k⟩:=a;refine⟨?_,?_,?_⟩<;>simp[*,World.cell?_setCell_far]) (fun a=>?_);clear f M
       try simp only[ah,ai,aj,ak]
       refine qe (by kernel_rfl) ?_ _;have z:=al (ab B (ab g P));clear a B g P b0 b1 C T;go_wp2_with fail;go_roundw
       case rel=>exact⟨rfl,p+1,by omega,by go_num,pG h.o.1 h.o.q Hp,pI j.o h.o.q h.o.2.1 J.o.1 Y (by rw[y.o.1];rfl) y.o.2.1 y.o.d z.o.1 z.o.2.1 z.o.d (.inl ⟨Y,rfl,rfl⟩)⟩
       case measure=>simp[intOf];omega
   ·obtain⟨f,d⟩:=rl (D9 x);rw[d]at ac Z;have g:(f==0)=false:=by simpa using Z
    have k:(f !=0)=true:=by simpa using Z
    have a:=al (ab d Z);clear d Z;go_wp2_with fail;refine(ac _).m ?_;rintro e r ⟨rfl,R⟩;have I:=h.o.d.1.below (((aw _ _).alloc (b8 _) _).x (R.m (by simp)));have ap:=aB I.2.1;have a3:=bj I.2.1;have j:=al I;clear R ac I;go_wp2_with fail;rw[fs];have B:=dd r w.heap.size 0 _ _ (.slice none 0 0) j.o.2.1;refine dj (ax rfl _ _ _ _ _ _ _ rfl B underlying37 rfl (by kernel_rfl)) rfl ⟨j.o.q.2.setCell (b8 _) _,.inl ?_⟩;have U:=Pd h.o.1 h.o.q (by rw[a.o.1];exact a.o.2);rw[a.o.1]at U;rw[U];exact⟨a.o.2,rfl⟩
  ·have z:p=l.length:=by omega
   subst z;rw[gn]at a' hD hC;have a:Maps.size D<=1000:=dp hC.1.size_le hl;have j:=al (ab a' (ab hD (ab hC a)));have SS:=al bf;clear a' hD hC a bf;go_wp2_with fail;refine(LL wr _ _ D _ j.o.d.1.1 j.o.2.1 j.o.t).m ?_;rintro e r ⟨ks,z,g,f,M,O,rfl,d,R⟩;obtain⟨m,b⟩:=rl ((ks.mergeSort fun x y=>decide (x<=y)).map (AU fun a=>ej l (-1,a,0)));have ad:m.length=ks.length:=by rw[<-b];simp
   rw[b]at d
   have a:Inv w rs (lists l) m (.slice M m.length O) (fun _=>True) r:=by obtain⟨h1,h2,h3,h4,h5,h6⟩:=j.o.d.1.below R;exact⟨h2,h3,h4,fun N Q _=>h5.1 N Q,dF d (fun S u=>by have:=(d.lt S u).1;have:=j.o.d.1.2.2.2.2.2.size;omega),h6⟩
   have h:aay rs:=j.o.d.1.2.2.2.2.1.2;rw[b];have s:=al (ab g (ab f (ab b (ab ad (ab a (ab h z))))));clear g f b ad a h d R z;go_wp2_with fail
   go_loopw [10,88] (fun v i wr=> ∃p:Nat,p<=4/\i=.int .i64 (p:Int)/\aaA w l rs m p v wr) (fun _ i _=>4-(intOf i).toNat)
   case atStart=>obtain⟨_,_,_,ad,a,_,z⟩:=s.o;exact⟨0,by omega,rfl,fun _=>[],fun _=>[],fun i hi=>absurd hi (by omega),by simp[jD];omega,by simpa[jD]using a.m (fun _ _=>trivial)⟩
   case round=>
    obtain⟨p,hk,rfl,W,R,E,G,a⟩:=hrel
    rename World=>L
    by_cases am:p<4
    ·obtain⟨C,_⟩:=mO a.2.2.1 p am;obtain⟨a2,_⟩:=mO a.2.1 p am;have ed:(0:Int)<=(p:Int):=by omega
     have bf:(p:Int)<4:=by omega
     have bl:w.heap.size+1+1+1<L.heap.size:=(cq.1 a.2.2.1).1;obtain⟨vW,d⟩:=rl (rs (4+p));simp only[d]at C;have o:(4+p)%4=p:=by omega
     have h:=a.2.2.2.1 (4+p) (by omega) (by omega);have k:lists l (4+p)=cM l (p:Int) true:=by unfold lists;rw[ff (by omega)];congr 1;omega
     have n:lists l p=cM l (p:Int) false:=by unfold lists;rw[fi am]
     have g:=fun N=>sX l N;have f:=fun N=>LN bb N;obtain⟨M,O,rfl⟩:=ar a.2.2.2.2.1;have q:=AQ L vW (lists l (4+p)) (dF (by rw[<-d];exact h) (fun _ _=>dq _)) (dp (g _) hl) (f _);have b:=al (ab E (ab G (ab a (ab d (ab k (ab n (ab g (ab f h))))))));clear E G a d k n g f h o;go_wp2_with fail;refine q.m ?_;rintro e w4 ⟨y,d,a9,AW,cW,rfl,g,h⟩;have k:=b.o.d.1.Pe s.o.q.2.1 (i:=4+p) (by omega) (by omega) (by rw[b.o.t.1];exact h);have a8:y.length<=1000:=by rw[d.length_eq];exact dp (b.o.q.d.1 _) hl
     have Y:(cE y).length<=1000:=dp (Ba y) a8;have o:ij (cE y):=AY (fun x hx=>b.o.q.t.1 _ x (d.mem_iff.1 hx));have n:mK w4 (fun _=>True) (.slice AW (cE y).length cW) (cE y):=bJ.bO g (lU _) (by decide) (fun _ _=>trivial);obtain⟨out,f⟩:=rl (m++jD W R p);rw[f];rw[f]at k;have ba:out.length<=1000+p*1002000:=by rw[<-f];exact b.o.2.1
     have J:=al (ab d (ab a9 (ab g (ab h (ab k (ab o (ab n f)))))));clear d a9 g h k o n f q;go_wp2_with fail;refine(wP w4 (fun _=>True) _ true _ _ J.o.q.d.1 (by omega)).m ?_;rintro e w5 ⟨A5,c5,rfl,n,g⟩;obtain⟨k,d⟩:=rl ((cE y).map (sL (p:Int) true));rw[d]at n⊢;have a9:k.length<=1000:=by rw[<-d];simpa using Y
     have q:cz w5 (fun _=>True) (.slice A5 k.length c5) k:=bJ.bO n (df _) (by decide) (fun _ _=>trivial);have h:=J.o.q.1.below g;have K:=bD J.o.d.1 g;have a':=h.2.2.2.2.2.size;have o:=al (ab d (ab q (ab h K)));clear d q h K n g;go_wp2_with (at_builtin;go_loud (refine dS _ rfl _ _ 27 rfl w.heap.size 68 i2 _ 5 48 underlying27 SS.o bi bc bh rfl (by decide) (.slice M out.length O) out.length _ rfl o.o.d.1.2.2.2.2.1 (fun _=>True) (.slice A5 k.length c5) (k.map Cl.cells) rfl o.o.2.1 (df _) (qD _) (by simp;omega) (by simp;unfold maxLen;omega) a' ?_);intro X U T n V;have K:U.ownsRow w.heap.size 68 5 X (out++k).length ((out++k).map Cl.cells).flatten:=(by simpa using T);obtain⟨g,d⟩: ∃g,out++k=g:=⟨_,rfl⟩;rw[d]at K;have q:=o.o.d.1.append n K;have P:=EE o.o.t o.o.d.1.2.2.2.2.1 (by decide) n;obtain⟨a6,_⟩:=mO q.2.1 p am;have aa:=n.size;have Z:g.length<=2000+p*1002000:=(by rw[<-d];simp;omega);have Df:=al d;have h:=al (ab q P);clear T K q P n V d);have lW:=h.o.1.2.2.2.1 p (by omega) (by omega);obtain⟨A6,c6,rfl⟩:=ar h.o.1.2.2.2.2.1;refine(AQ U (rs p) (lists l p) (dF lW (fun _ _=>dq _)) (dp (b.o.q.d.1 _) hl) (b.o.q.t.1 _)).m ?_;rintro e P ⟨d,n,X,AR,cR,rfl,aa,K⟩;have Vb:=h.o.1.Pe s.o.q.2.1 (i:=p) (by omega) (by omega) K;have Y2:d.length<=1000:=by rw[n.length_eq];exact dp (b.o.q.d.1 _) hl
     have U:(cE d).length<=1000:=dp (Ba d) Y2;have Z:ij (cE d):=AY (fun x hx=>b.o.q.t.1 _ x (n.mem_iff.1 hx));have V:mK P (fun _=>True) (.slice AR (cE d).length cR) (cE d):=bJ.bO aa (lU _) (by decide) (fun _ _=>trivial);have x:=b.o.d.1.2.2.2.1 p (by omega) (by omega);have ac:=aQ h.o.2 K (fun S u e=>by have h1:=(h.o.2.lt S u).1;have h2:=(x.lt S e).2;omega);have h:mK P (fun _=>True) (.slice AW (cE y).length cW) (cE y):=bJ.bO ac (lU _) (by decide) (fun _ _=>trivial);have T:=rO (cE d) (cE y);have bk:(cE d).length*((cE y).length+1)<=1000*1001:=Nat.mul_le_mul U (by omega);have q:=al (ab n (ab X (ab Vb (ab Z (ab V h)))));clear n X Vb Z V h aa K lW x ac;go_wp2_with fail;refine(GK P (fun _=>True) _ _ _ _ q.o.q.1 q.o.q.2 U Y q.o.t.1 J.o.q.2.1).m ?_;rintro e w8 ⟨A8,c8,rfl,x,Z⟩;have n:mK w8 (fun _=>True) (.slice A8 (bU (cE d) (cE y)).length c8) (bU (cE d) (cE y)):=bJ.bO x (lU _) (by decide) (fun _ _=>trivial);have V:=q.o.d.1.below Z;obtain⟨X,h⟩:=rl (bU (cE d) (cE y));rw[h]at n T⊢;have aa:X.length<=1001000:=by omega
     have K:=al (ab h (ab n V));clear h n V x Z T;go_wp2_with fail;refine(wP w8 (fun _=>True) _ false _ _ K.o.2.1 (by omega)).m ?_;rintro e w9 ⟨A9,c9,rfl,T,Z⟩;obtain⟨h,I⟩:=rl (X.map (sL (p:Int) false));rw[I]at T⊢;have ac:h.length<=1001000:=by rw[<-I];simpa using aa
     have V:cz w9 (fun _=>True) (.slice A9 h.length c9) h:=bJ.bO T (df _) (by decide) (fun _ _=>trivial);have x:=K.o.d.below Z;have cJ:=x.2.2.2.2.2.size;have n:=al (ab I (ab V (ab x Df.o)));clear I V x T Z;go_wp2_with (at_builtin;go_loud (refine dS _ rfl _ _ 27 rfl w.heap.size 68 i2 _ 5 48 underlying27 SS.o bi bc bh rfl (by decide) (.slice A6 g.length c6) g.length _ rfl n.o.d.1.2.2.2.2.1 (fun _=>True) (.slice A9 h.length c9) (h.map Cl.cells) rfl n.o.2.1 (df _) (qD _) (by simp;omega) (by simp;unfold maxLen;omega) cJ ?_);intro V Z x T I);go_roundw
     case rel=>
      have I:Z.ownsRow w.heap.size 68 5 V (g++h).length ((g++h).map Cl.cells).flatten:=by simpa using x
      have x:=n.o.d.1.append T I;refine⟨p+1,by omega,by go_num,rN W p (cE y),rN R p X,?_,?_,?_⟩
      ·intro i hi;by_cases e:i=p
       ·subst e;rw[pH,pH,<-K.o.1];exact EH j.o.1 (by rw[<-b.o.q.1];exact J.o.1) (by rw[<-b.o.q.2.1];exact q.o.1) J.o.2.1 q.o.2.1
       ·rw[nE e,nE e];exact b.o.1 i (by omega)
      ·rw[AX,<-lz,J.o.q.t,o.o.1,n.o.1];have:=n.o.t;rw[<-lz,this];simp;omega
      ·have e:m++jD (rN W p (cE y)) (rN R p X) (p+1)=g++h:=by
        rw[AX,<-lz,J.o.q.t,o.o.1,n.o.1,<-lz,n.o.t]
       rw[e];exact x.m (fun N Q=>⟨⟨by omega,by omega⟩,by omega⟩)
     case measure=>simp[intOf];omega
    ·obtain rfl:p=4:=by omega
     have d:=Bc j.o.1 s.o.1 s.o.2.1 s.o.d.1 E;obtain⟨out,f⟩:=rl (m++jD W R 4);rw[f]at d a G;obtain⟨g,h,rfl⟩:=ar a.2.2.2.2.1;have ap:=aB a.1;have a3:=bj a.1;have b:=al (ab d (ab a f));clear d a f E;by_cases a:64<out.length
     ·go_wp2_with fail;rw[fs];have B:=dd L w.heap.size 0 _ _ (.slice none 0 0) b.o.2.1.1;exact dj (ax rfl _ _ _ _ _ _ _ rfl B underlying37 rfl (by kernel_rfl)) rfl ⟨b.o.2.1.2.2.2.2.2.setCell (b8 _) _,.inr ⟨rM j.o.1,out,b.o.1,.inl ⟨a,rfl⟩⟩⟩
     ·go_wp2_with fail;rw[fs];have B:=dd L w.heap.size 0 _ _ (.slice g out.length h) b.o.2.1.1;refine dj (ax rfl _ _ _ _ _ _ _ rfl B underlying37 rfl (by kernel_rfl)) rfl ⟨b.o.2.1.2.2.2.2.2.setCell (b8 _) _,.inr ⟨rM j.o.1,out,b.o.1,.inr ⟨by omega,g,h,rfl,?_⟩⟩⟩;exact aQ b.o.2.1.2.2.2.2.1 (Only.aR L w.heap.size 0 _) (fun S u e=>by subst e;exact cw b.o.2.1.2.2.2.2.1 b.o.2.1.1 (by decide) u)
end
end Go.Proofs.YtehccbdajiiaaaaGreatDoor
