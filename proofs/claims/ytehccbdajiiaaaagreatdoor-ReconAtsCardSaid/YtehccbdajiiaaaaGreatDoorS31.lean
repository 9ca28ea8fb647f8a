import Derived.Test.YtehccbdajiiaaaaGreatDoorS18
import Derived.Test.YtehccbdajiiaaaaGreatDoorS27
import Derived.Test.YtehccbdajiiaaaaGreatDoorS29
theorem List.Perm.x{α:Type}{a b c:List α}(h:a.Perm b)(k:b.Perm c):a.Perm c:=.trans h k
namespace Go.Proofs.YtehccbdajiiaaaaGreatDoor
open Go.Proofs.Tryz
set_option maxRecDepth 100000
set_option maxHeartbeats 16000000
open Go.RowKit
section
open Go.Shelf Go.RowKit Go.Lib Go.Sort
def Am(a b:List UInt8):Int:=if a<b then -1 else if b<a then 1 else 0
abbrev vv (x y:Int×List UInt8):Int:=if Lib.compareInt x.1 y.1=0 then Am x.2 y.2 else Lib.compareInt x.1 y.1
instance (x y:Int×List UInt8):Decidable (zK x y):=by unfold zK;exact inferInstance
theorem p7(a b:List UInt8):a<b\/a=b\/b<a:=by
 by_cases c:a<b
 ·exact .inl c
 ·by_cases d:b<a
  ·exact .inr (.inr d)
  ·exact .inr (.inl (List.le_antisymm (List.not_lt.1 d) (List.not_lt.1 c)))
theorem ltF(x y:Int×List UInt8):ltOf vv x y=decide (zK x y):=by
 unfold ltOf vv zK Lib.compareInt Am;by_cases b:x.1<y.1
 ·simp[b]
 ·by_cases c:y.1<x.1
  ·have: ¬x.1=y.1:=by omega
   simp[b,c,this]
  ·have:x.1=y.1:=by omega
   by_cases a:x.2<y.2
   ·simp[this,a]
   ·by_cases d:y.2<x.2<;>simp[this,a,d]
theorem zK.trans{x y z:Int×List UInt8}(b:zK x y)(a:zK y z):zK x z:=by
 unfold zK at *;rcases b with b|⟨b,d⟩
 ·rcases a with a|⟨a,_⟩<;>exact .inl (by omega)
 ·rcases a with a|⟨a,c⟩
  ·exact .inl (by omega)
  ·exact .inr ⟨by omega,List.lt_trans d c⟩
abbrev zK.x:=@zK.trans
theorem zK.total(x y:Int×List UInt8):zK x y\/x=y\/zK y x:=by
 unfold zK;rcases Int.lt_trichotomy x.1 y.1 with h|h|h
 ·exact .inl (.inl h)
 ·rcases p7 x.2 y.2 with a|a|a
  ·exact .inl (.inr ⟨h,a⟩)
  ·exact .inr (.inl (Prod.ext h a))
  ·exact .inr (.inr (.inr ⟨h.symm,a⟩))
 ·exact .inr (.inr (.inl h))
theorem zK.irrefl(x:Int×List UInt8): ¬zK x x:=by
 rintro(h|⟨_,h⟩)
 ·omega
 ·exact aN _ h
theorem ac5:SWO (ltOf vv) where
 irrefl x:=by rw[ltF];simp[zK.irrefl]
 trans x y z h1 h2:=by rw[ltF]at *;simp at *;exact h1.x h2
 ntrans x y z h1 h2:=by
  rw[ltF]at *;simp only[decide_eq_false_iff_not]at *;intro h;rcases zK.total y x with a|a|a
  ·exact h2 (by first|exact a.x h|exact h)
  ·subst a;exact h2 h
  ·exact h1 a
theorem UC(a b:List UInt8):Am a b=if Op.bytesLess a b then -1 else if(!a==b)&&!Op.bytesLess a b then 1 else 0:=by
 unfold Am;rw[bytesLess_eq];by_cases c:a<b
 ·simp[c]
 ·rcases p7 a b with h|h|h
  ·exact absurd h c
  ·subst h;simp[c]
  ·have: ¬a=b:=fun e=>by subst e;exact c h
   simp[c,h,this]
def Gr(w w':World):Prop:= ∃q a,w'=grow (w.drewN q) a
section
variable{w w':World}
theorem Gr.refl(w:World):Gr w w:=⟨0,#[],by simp[grow];rfl⟩
theorem Gr.alloc(h:Gr w w')(o:Obj):Gr w (w'.alloc o):=by obtain⟨q,a,rfl⟩:=h;exact⟨q,a++ #[o],by rw[alloc_eq_grow,grow_grow]⟩
theorem Gr.drew(h:Gr w w'):Gr w w'.drew:=by obtain⟨q,a,rfl⟩:=h;exact⟨q+1,a,rfl⟩
theorem Gr.trans{w2:World}(h:Gr w w')(c:Gr w' w2):Gr w w2:=by obtain⟨q,d,rfl⟩:=h;obtain⟨b,a,rfl⟩:=c;exact⟨q+b,d++a,by rw[<-grow_grow,<-World.drewN_drewN];rfl⟩
abbrev Gr.x:=@Gr.trans
end
theorem BV(k:List UInt8)(w:World):Calls prog 188 #[r7 k] w fun e w'=>e=.returned (.bool false)/\w'=w:=by
 go_enter func188,ntmps188;go_wp2_with fail;go_ret
 simp
theorem BW(a b:List UInt8)(w:World):Calls prog 170 #[r7 a,r7 b] w fun e w'=>e=.returned (rm (Am a b))/\w'=w:=by
 have d:=fun W=>BV a W;have c:=fun W=>BV b W;go_enter func170,ntmps170;go_wp2_with fail;refine(d _).m ?_;rintro e w' ⟨rfl,rfl⟩;go_wp2_with fail;refine(c _).m ?_;rintro e w' ⟨rfl,rfl⟩;go_wp2_with fail
 all_goals go_ret
 all_goals rw[UC]
 all_goals clear d c
 all_goals refine⟨eE Ending.returned (eE (Value.int IntKind.i64) ?_),rfl⟩
 all_goals simp[*]
def ac6(w:World)(a b:Int)(i:Value)(w':World):Prop:= ∃k:Nat,k<=2/\i=rm (k:Int)/\(1<=k->a=0)/\(2<=k->b=0)/\w'=w
theorem FY(w:World)(g:Nat)(a b:Int)(t:TypeId)(h:w.heap[g]?=some (.cells #[rm a,rm b] t (0,0))):Calls prog 263 #[.slice (some ⟨g,0,none⟩) 2 2] w fun e w'=>e=.returned (rm (if a=0 then b else a))/\w'=w:=by
 have l:w.cell? ⟨g,0,none⟩=some (rm a):=by simp[World.cell?,h]
 have m:w.cell? ⟨g,1,none⟩=some (rm b):=by simp[World.cell?,h]
 clear h;go_enter func263,ntmps263;go_wp2_with fail
 go_loopw [7] (fun i w'=>ac6 w a b i w') (fun i _=>2-(intOf i).toNat)
 case atStart=>exact⟨0,by omega,rfl,fun h=>by omega,fun h=>by omega,rfl⟩
 case round=>
  obtain⟨k,n,rfl,c,d,rfl⟩:=hrel;by_cases e:k=2
  ·subst e;obtain rfl:=c (by omega);obtain rfl:=d (by omega);clear c d;go_wp2_with fail;go_ret
   exact⟨rfl,rfl⟩
  ·by_cases f:k=0
   ·subst f;clear c d e;by_cases c:a=0
    ·subst c;go_wp2_with fail;go_roundw
     case rel=>exact⟨1,by omega,rfl,fun _=>rfl,fun h=>by omega,rfl⟩
     case measure=>simp[intOf]
    ·have j:=al c;go_wp2_with fail;go_ret
     exact⟨rfl,rfl⟩
   ·have:k=1:=by omega
    subst this;obtain rfl:=c (by omega);clear c d e f;by_cases c:b=0
    ·subst c;go_wp2_with fail;go_roundw
     case rel=>exact⟨2,by omega,rfl,fun _=>rfl,fun _=>rfl,rfl⟩
     case measure=>simp[intOf]
    ·have j:=al c;go_wp2_with fail;go_ret
     exact⟨rfl,rfl⟩
def Wn(x:Int×List UInt8):List Value:=[rm x.1,r7 x.2]
theorem QG{w W:World}{d c e b:Addr}{v1 v2 v3 v4:Value}(h:Gr w W/\W.cell? d=some v1/\W.cell? c=some v2/\W.cell? e=some v3/\W.cell? b=some v4)(o:Obj):Gr w (W.alloc o)/\(W.alloc o).cell? d=some v1/\(W.alloc o).cell? c=some v2/\(W.alloc o).cell? e=some v3/\(W.alloc o).cell? b=some v4:=
 have a:=ae W o
 ⟨h.1.alloc o,(a.cell (aq _ _ h.2.1)).x h.2.1,(a.cell (aq _ _ h.2.2.1)).x h.2.2.1,(a.cell (aq _ _ h.2.2.2.1)).x h.2.2.2.1,(a.cell (aq _ _ h.2.2.2.2)).x h.2.2.2.2⟩
theorem Nb(x y:Int×List UInt8)(w:World):Calls prog 235 #[.agg #[rm x.1,r7 x.2],.agg #[rm y.1,r7 y.2]] w fun C w'=>C=.returned (rm (vv x y))/\Gr w w':=by
 obtain⟨e,k⟩:=x;obtain⟨o,j⟩:=y;have m:=((Gr.refl w).alloc (sr e k.toArray)).alloc (sr o j.toArray);have c:=an w (sr e k.toArray);obtain⟨a,b⟩:=rj (w.alloc (sr e k.toArray)) (sr o j.toArray);have d:=qt a c;rw[show(w.alloc (sr e k.toArray)).heap.size=w.heap.size+1 by simp]at b;clear c a;have l:((w.alloc (sr e k.toArray)).alloc (sr o j.toArray)).cell? ⟨w.heap.size,0,none⟩=some (rm e):=by unfold World.cell?;rw[d];rfl
 have h:((w.alloc (sr e k.toArray)).alloc (sr o j.toArray)).cell? ⟨w.heap.size,1,none⟩=some (r7 k):=by unfold World.cell?;rw[d];rfl
 have i:((w.alloc (sr e k.toArray)).alloc (sr o j.toArray)).cell? ⟨w.heap.size+1,0,none⟩=some (rm o):=by unfold World.cell?;rw[b];rfl
 have g:((w.alloc (sr e k.toArray)).alloc (sr o j.toArray)).cell? ⟨w.heap.size+1,1,none⟩=some (r7 j):=by unfold World.cell?;rw[b];rfl
 have n:=AM m l h i g;have c:=fun a=>AnyG.cmp_Compare_int Tryz.Om e o a;change ∀a,Calls prog 51 _ _ _ at c;have s:=al c;have f:=fun a=>BW k j a;have v:=al f;clear m l h i g d b c f;by_cases p:e=o/\k=j
 ·obtain⟨rfl,rfl⟩:=p;have h:=al (show vv (e,k) (e,k)=0 by simp[vv,Lib.compareInt,Am,aN]);go_enter func235,ntmps235;go_wp2_with fail;go_ret
  rw[h.o];exact⟨rfl,n.o.1⟩
 ·skip
  obtain⟨c,b⟩:=rk (Lib.compareInt e o);obtain⟨g,a⟩:=rk (Am k j);rw[b]at s;rw[a]at v;have h:=al (show vv (e,k) (o,j)=if c=0 then g else c by unfold vv;simp only[b,a]);clear b a;rcases Classical.em (e=o)with a|a
  ·subst a;have E: ¬k=j:=fun C=>p ⟨rfl,C⟩;clear p;go_enter func235,ntmps235;go_upto_region 3 with fail;have d:=n.o;generalize ((w.alloc (sr e k.toArray)).alloc (sr e j.toArray))=f at d⊢;obtain⟨P,i⟩:=rk (w.heap.size);rw[i]at d⊢;clear i n;refine pt (S:=(fun W=>Gr w W/\W.cell? ⟨P,0,none⟩=some (rm e)/\W.cell? ⟨P,1,none⟩=some (r7 k)/\W.cell? ⟨P+1,0,none⟩=some (rm e)/\W.cell? ⟨P+1,1,none⟩=some (r7 j))) (by kernel_rfl) ⟨d.1.drew,d.2⟩ (fun a=>?_);refine bj [0,1,2,3,5,6,7,8] ?_
   iterate 8 (refine dZ (v:=?_) (fun _ ⟨u,z,t,B,r⟩=>?_) a ?_;rotate_left;(go_simp;try rfl);try simp only[xr])
   refine bq ?_;refine bA 4 (fun K b=>?_);go_simp;refine(s.o _).m ?_;rintro C m ⟨rfl,rfl⟩
   try go_simp
   refine b.o _ _ (a) ?_;clear b K a;intro a
   try simp only[xr]
   refine bA 9 (fun K b=>?_);go_simp;refine(v.o _).m ?_;rintro C m ⟨rfl,rfl⟩
   try go_simp
   refine b.o _ _ (a) ?_;clear b K a;intro a
   try simp only[xr]
   refine bA 10 (fun K b=>?_);go_simp;refine b.o _ _ (QG a _) ?_;clear b K a;intro a
   try simp only[xr]
   refine bA 11 (fun K b=>?_);go_simp;refine(FY (f.alloc (.cells #[rm c,rm g] 3)).drew f.heap.size c g 3 (an f _)).m ?_;rintro C m ⟨rfl,rfl⟩
   try go_simp
   refine b.o _ _ (a) ?_;clear b K a;intro a
   try simp only[xr]
   refine lA 12 (v:=?_) (fun D q=>?_) a ?_;rotate_left
   ·obtain⟨u,z,t,B,r⟩:=q;go_simp;try rfl
   try simp only[xr]
   refine pw (by kernel_rfl) ?_ _;have A:=al a.1;clear a;obtain⟨R,l⟩: ∃R,(if c=0 then g else c)=R:=⟨_,rfl⟩;rw[l]at h⊢;clear l;go_wp2_with fail;go_ret
   rw[h.o];exact⟨rfl,A.o⟩
  ·clear p;go_enter func235,ntmps235;go_upto_region 3 with fail;have d:=n.o;generalize ((w.alloc (sr e k.toArray)).alloc (sr o j.toArray))=f at d⊢;obtain⟨P,i⟩:=rk (w.heap.size);rw[i]at d⊢;clear i n;refine pt (S:=(fun W=>Gr w W/\W.cell? ⟨P,0,none⟩=some (rm e)/\W.cell? ⟨P,1,none⟩=some (r7 k)/\W.cell? ⟨P+1,0,none⟩=some (rm o)/\W.cell? ⟨P+1,1,none⟩=some (r7 j))) (by kernel_rfl) ⟨d.1.drew,d.2⟩ (fun a=>?_);refine bj [0,1,2,3,5,6,7,8] ?_
   iterate 8 (refine dZ (v:=?_) (fun _ ⟨u,z,t,B,r⟩=>?_) a ?_;rotate_left;(go_simp;try rfl);try simp only[xr])
   refine bq ?_;refine bA 4 (fun K b=>?_);go_simp;refine(s.o _).m ?_;rintro C m ⟨rfl,rfl⟩
   try go_simp
   refine b.o _ _ (a) ?_;clear b K a;intro a
   try simp only[xr]
   refine bA 9 (fun K b=>?_);go_simp;refine(v.o _).m ?_;rintro C m ⟨rfl,rfl⟩
   try go_simp
   refine b.o _ _ (a) ?_;clear b K a;intro a
   try simp only[xr]
   refine bA 10 (fun K b=>?_);go_simp;refine b.o _ _ (QG a _) ?_;clear b K a;intro a
   try simp only[xr]
   refine bA 11 (fun K b=>?_);go_simp;refine(FY (f.alloc (.cells #[rm c,rm g] 3)).drew f.heap.size c g 3 (an f _)).m ?_;rintro C m ⟨rfl,rfl⟩
   try go_simp
   refine b.o _ _ (a) ?_;clear b K a;intro a
   try simp only[xr]
   refine lA 12 (v:=?_) (fun D q=>?_) a ?_;rotate_left
   ·obtain⟨u,z,t,B,r⟩:=q;go_simp;try rfl
   try simp only[xr]
   refine pw (by kernel_rfl) ?_ _;have A:=al a.1;clear a;obtain⟨R,l⟩: ∃R,(if c=0 then g else c)=R:=⟨_,rfl⟩;rw[l]at h⊢;clear l;go_wp2_with fail;go_ret
   rw[h.o];exact⟨rfl,A.o⟩
theorem Ji(x y:Int×List UInt8)(w:World):Calls prog 203 #[.agg #[rm x.1,r7 x.2],.agg #[rm y.1,r7 y.2]] w fun g w'=>g=.returned (rm (vv x y))/\Gr w w':=by
 obtain⟨e,k⟩:=x;obtain⟨f,j⟩:=y;have a:=al (fun W=>Nb (e,k) (f,j) W);obtain⟨R,d⟩:=rk (vv (e,k) (f,j));rw[d]at a⊢;have b:=((Gr.refl w).alloc (ti e k.toArray)).alloc (ti f j.toArray);have c:=al b;clear d b;go_enter func203,ntmps203;go_wp2_with fail;refine(a.o _).m ?_;rintro g w' ⟨rfl,b⟩;have d:=al (c.o.x b);clear b c;go_wp2_with fail;go_ret
 exact⟨rfl,d.o⟩
theorem Yw(a b size:Nat)(w:World):CmpLays prog 203 #[] Wn 2 vv a b size w:=
 fun _ _ _ _ x y=>Ji x y _
end
section
open Go.Shelf Go.RowKit Go.Lib Go.Sort
section
variable{α:Type}[Inhabited α]{enc:α->List Value}
omit [Inhabited α] in
theorem UD(b: ∀x,(enc x).length=2)(l:List α): ∀x∈l.map enc,x.length=2:=by intro x a;obtain⟨y,_,rfl⟩:=ep.1 a;exact b y
theorem Aq(e: ∀x,(enc x).length=2){t:TypeId}{w:World}{base g f:Nat}{l:List α}(n:w.ownsRow base t 2 (.slice (some ⟨g,0,none⟩) l.length f) l.length (l.map enc).flatten):HoldsK enc 2 w g 0 l.toArray:=by
 intro t a;rw[size_flatK]at a;rw[get_flatK _ _ _ _ a];simp at a;have c:t/2<l.length:=(Nat.div_lt_iff_lt_mul (by decide)).2 a;have i:l[t/2]?=some l[t/2]:=ao c;have d:=jX (UD e l) (t/2) (enc l[t/2]) (by simp[i]) (t%2);have h:t/2*2+t%2=t:=by omega
 rw[h]at d;have b:=n.cellAt t (by omega);have j:=n.frozenAt t;have k:l.toArray[t/2]! =l[t/2]:=by simp[c]
 rw[k]
 have m:(enc l[t/2])[t%2]?=some (enc l[t/2])[t%2]!:=by
  have:t%2<(enc l[t/2]).length:=by rw[e];omega
  simp[this]
 rw[d _ m]at b;rw[ie];exact⟨b,j⟩
def At2(enc:α->List Value)(w:World)(v:Value)(s:List α):Prop:=
 ∃A c,v=.slice A s.length c/\s.length<=c/\c<=maxLen/\ ∀i x,s[i]?=some x-> ∃g,A=some ⟨g,0,none⟩/\ ∀j u,(enc x)[j]?=some u->w.cell? ⟨g,i*2+j,none⟩=some u
theorem Dn(k: ∀x,(enc x).length=2){w:World}{g a:Nat}{d:Array α}(p:HoldsK enc 2 w g 0 d)(h:d.size<=a)(j:a<=maxLen):At2 enc w (.slice (some ⟨g,0,none⟩) d.size a) d.toList:=by
 refine⟨_,_,by simp,by simpa using h,j,fun m x b=>⟨g,rfl,fun n u e=>?_⟩⟩;have c:m<d.size:=by have:=(aw.1 b).1;simpa using this
 have f:n<2:=by have:=(aw.1 e).1;rwa[k]at this
 have o:d[m]! =x:=by simp[c]at b;subst b;simp[c]
 have b:=(p.cell c f).1;rw[o]at b;have i:(enc x)[n]! =u:=by obtain⟨l,o⟩:=aw.1 e;simp[l,o]
 rw[i]at b;rw[show(⟨g,m*2+n,none⟩:Addr)=⟨g,0+m*2+n,none⟩ by congr 1;omega];exact b
def Yx(enc:α->List Value)(a:α->α->Int)(w:World)(v:Value)(l:List α)(e:Ending)(w':World):Prop:=e=.returned (.tuple #[])/\ ∃s,s.Perm l/\s.Pairwise (fun x y=>ltOf a y x=false)/\At2 enc w' v s/\Only (fun k=>v.ownBlock=some k) w w'
theorem FZ{ρ:Ren}(P:SlLaysF0.n6 prog ρ)(C: ∀w,(isAgg (ρ.t 24)).run prog w=.ok true w)(B: ∀w,(Go.sizeOf (ρ.t 24)).run prog w=.ok 2 w)(i: ∀f,(enc f).length=2)(D: ∀f,∀v∈enc f,v.oneCell'=true)(b:α->α->Int)(E:SWO (ltOf b))(g:Nat)
  (K: ∀a w,(callFunc g a).run prog w=.ok (.enter g a) w) (x: ∀c d a w,CmpLays prog g #[] enc 2 b c d a w) (w:World) (t:TypeId) (base:Nat) (v:Value) (l:List α) (N:w.ownsRow base t 2 v l.length (l.map enc).flatten) (G:l.length<4611686018427387904):
  Calls prog (ρ.f 6) #[v,.func (.func g) #[] #[]] w (Yx enc b w v l):=by
 rcases N.2 with⟨rfl,F⟩|⟨j,y,Q,rfl,_,H,h,J,q,R⟩
 ·have:l=[]:=de F;subst this;refine(AnyF.slices_SortFunc_none P none 0 (.func (.func g) #[] #[]) w).m ?_;rintro L e ⟨rfl,rfl⟩;exact⟨rfl,[],List.Perm.refl _,ee,⟨_,_,rfl,b8 _,by unfold maxLen;omega,fun M f a=>by simp at a⟩,oE _ _⟩
 ·have o:=Aq i N;have m:j<w.heap.size:=(cq.1 H).1;have k:=AnyQ.slices_SortFunc P 2 C B enc i D b E g #[] j 0 y l.toArray w K (x j 0 l.toArray.size w) o m (by simpa using G);simp only[lz]at k;refine k.m ?_;rintro L e ⟨rfl,a,O,s,d,q,n⟩;have c:a.size=l.length:=by simpa using d.1
  have I:Only (fun f=>f=j) w e:=by rw[n];exact oq enc 2 w j 0 O a s
  have A:HoldsK enc 2 e j 0 a:=by rw[n];exact holdsK_sortWorldK_c enc 2 w j 0 l.toArray a O s o m (by simpa using d.1)
  have u:a.toList.Perm l:=by
   have h:=d.2.2;have f:a.extract 0 l.length=a:=by simp[<-c]
   have p:l.toArray.extract 0 l.length=l.toArray:=by simp
   rw[f,p]at h;exact h
  have r:=Dn i A (by omega) J;rw[c]at r;refine⟨rfl,a.toList,u,List.pairwise_iff_getElem.2 fun M S p f z=>?_,r,I.m (fun M _ L=>by rw[L];rfl)⟩;have:=q M S (dq _) z (by rw[<-c];simpa using f);simp at p f;simpa[p,f]using this
end
def ac8(w:World)(v:Value)(s:List (Int×List UInt8)):Prop:=
 ∃A c,v=.slice A s.length c/\s.length<=c/\c<=maxLen/\ ∀i x,s[i]?=some x-> ∃g,A=some ⟨g,0,none⟩/\w.cell? ⟨g,i*2,none⟩=some (rm x.1)/\w.cell? ⟨g,i*2+1,none⟩=some (r7 x.2)
def Yy(w:World)(v:Value)(l:List (Int×List UInt8))(e:Ending)(w':World):Prop:=e=.returned (.tuple #[])/\ ∃s,s.Perm l/\s.Pairwise zK/\ac8 w' v s/\Only (fun k=>v.ownBlock=some k) w w'
theorem Nc(w:World)(base:Nat)(v:Value)(l:List (Int×List UInt8))(h:w.ownsRow base 304 2 v l.length (l.map Wn).flatten)(m:l.Nodup)(q:l.length<=1000000):
  Calls prog 202 #[v,.func (.func 203) #[] #[]] w (Yy w v l):=by
 have b:=FZ Tryz.WX (by intro w;kernel_rfl) (by intro w;kernel_rfl) (enc:=Wn) (fun _=>rfl) (fun x v a=>by simp[Wn]at a;rcases a with rfl|rfl<;>rfl) vv ac5 203 (enters_of func203 (by kernel_rfl) rfl) Yw w _ base v l h (by omega);change Calls prog 202 _ _ _ at b;refine b.m ?_;rintro o p ⟨rfl,s,c,n,⟨A,t,d,i,f,e⟩,g⟩;refine⟨rfl,s,c,(n.and (c.nodup_iff.2 m)).imp ?_,⟨A,t,d,i,f,fun r x k=>?_⟩,g⟩
 ·rintro x y ⟨a,j⟩;rw[ltF]at a;rcases zK.total x y with h|h|h
  ·exact h
  ·exact absurd h j
  ·simp at a;exact absurd h a
 ·obtain⟨j,o,a⟩:=e r x k;exact⟨j,o,a 0 _ rfl,a 1 _ rfl⟩
end
section
open Go.RowKit Go.Maps Go.WideShapes
theorem Tryz.Yz:(prog.info? 304).map (fun i=>(i.zero,i.size,i.bytes))=some (some (.agg #[rm 0,.string ⟨#[]⟩]),2,24):=by kernel_rfl
theorem QH{w:World}{base n c:Nat}{A:Option Addr}{ks:List (List UInt8)}(h:w.ownsRow base 9 1 (.slice A n c) n (ks.map FW)){j:Nat}{k:List UInt8}(a:ks[j]?=some k): ∃g,A=some ⟨g,0,none⟩/\w.cell? ⟨g,j,none⟩=some (r7 k):=by
 have f:=(aw.1 a).1;have l:ks.length=n:=by have:=h.1;simpa using this
 rcases h.2 with⟨e,i⟩|⟨g,b,d,e,_⟩
 ·omega
 ·injection e with e _ _;subst e;exact⟨g,rfl,(h.cellAt j (by omega)).x (by simp[a,FW])⟩
def YA(w:World)(e f r:Nat)(g:Value->Option Value)(c:Nat)(lo hi:Int)(wl:ot)(xs:List (Int×List UInt8))(v:Value)(a:World):Prop:=
 ∃d b,oH a e r f g d/\(b++d).Perm (wl.map Prod.fst)/\a.ownsRow w.heap.size 304 2 v (xs++b.filterMap (bF wl c lo hi)).length ((xs++b.filterMap (bF wl c lo hi)).map Wn).flatten/\Below w.heap.size w a
theorem oH.own_ne{w:World}{b r n base:Nat}{g:Value->Option Value}{ks:List (List UInt8)}{e:TypeId}{size m:Nat}{v:Value}{xs:List Value}(h:oH w b r n g ks)(c:w.ownsRow base e size v m xs):v.ownBlock≠some r:=by obtain⟨D,left,d,a,-⟩:=h;exact fun e=>(row_ne_iter c a) e.symm
theorem YB{wl:ot}{l:az}{c:Nat}{lo hi:Int}{dn d:List (List UInt8)}(e:dR wl)(h:dR l)(f:RowsFit l)(b:(dn++d).Perm (wl.map Prod.fst)):((cU c lo hi l).filterMap (aF wl l c)++dn.filterMap (bF wl c lo hi)).length<=(aW wl l).length:=by have a:=(EF (c:=c) (lo:=lo) (hi:=hi) e h f b).length_eq;rw[List.filterMap_append]at a;simp only[gr,fa]at a⊢;have g:=List.length_filter_le (Eo c lo hi) (aW wl l);omega
theorem Jj{l:az}{c:Nat}{lo hi:Int}(h:dR l):((l.filter (Eo c lo hi)).map fun q=>(q.2.aO c,q.1)).Nodup:=by unfold List.Nodup;rw[List.pairwise_map];exact List.Pairwise.imp (R:=fun a b:List UInt8×Rw=>a.1<b.1) (fun{a b} h e=>by injection e with _ e;rw[e]at h;exact aN _ h) (h.filter _)
def ac9(w:World)(M:Nat)(s:List (Int×List UInt8))(v i:Value)(a:World):Prop:=
 ∃j,j<=M/\i=rm (j:Int)/\a.ownsRow w.heap.size 9 1 v j ((s.take j).map fun x=>FW x.2)/\Below w.heap.size w a
theorem UE{j n:Nat}(h:j<n)(a:n<=1024):wrap64 ((j:Int)+1)=((j+1:Nat):Int):=by unfold wrap64;omega
theorem YC{j n:Nat}(h:j<n)(a:n<=1024):n-(intOf (Value.int IntKind.i64 (wrap64 ((j:Int)+1)))).toNat<n-(intOf (Value.int IntKind.i64 (j:Int))).toNat:=by rw[UE h a];simp only[intOf,iS];omega
def LtN(a b:Nat):Prop:=a<b
def ada(w:World)(c n:Nat)(A:Option Addr)(b:Nat)(ks:List (List UInt8))(wl:ot)(l:az)(v i:Value)(a:World):Prop:=
 ∃j,j<=n/\i=rm (j:Int)/\a.ownsRow w.heap.size 304 2 v ((ks.take j).filterMap (aF wl l c)).length (((ks.take j).filterMap (aF wl l c)).map Wn).flatten/\a.ownsRow w.heap.size 9 1 (.slice A n b) n (ks.map FW)/\Below w.heap.size w a
theorem Jk(w:World)(B T o:Nat)(most:Int)(l:az)(wl:ot)(FT:Nat->Nat->Prop)(FB:Nat->Prop)(c m:Nat)(lo hi:Int)(u:iI w B T most o l wl FT FB)(k: ∀b q,FT b q->b<w.heap.size)(n:c<4)(h:I6 lo)(j:I6 hi)(e:lo<=hi)(x:m<=1000)
  (y:(aW wl l).length<=1024):Calls prog 166 #[rv B,rm (c:Int),rm lo,rm hi,rm (m:Int)] w (BU ((cU c lo hi (aW wl l)).take m) w):=by
 obtain⟨i0,s,g,r,f⟩:=eh Tryz.Yz;have HI:=AI s g r f;obtain⟨i1,d,p,t,a⟩:=eh Tryz.QF;have HJ:=AI d p t a;clear s g r f d p t a;obtain⟨mb,nb,g,FR,d,-,-,-⟩:=u;have f:=d.blk;have s:w.cell? ⟨B,0,none⟩=some (rv T):=by simp[World.cell?,f]
 have r:l.length<=1024:=by have:=d.tab.len;have:=d.tab.KW;omega
 have p:=al (yH w T o most l FT c m lo hi d.tab k n h j e (by omega));have a:=BT d k n h j e x y r f;clear d k n h j e x y r f;go_enter func166,ntmps166;go_wp2_with fail
 go_step3
 go_wp2_with fail;refine p.o.m ?_;rintro e w1 ⟨A0,c0,rfl,-,h⟩;clear p;go_upto_region 6 with fail;have f:=qt h a.o.q.q.2;have z0:w1.cell? ⟨B,0,none⟩=some (rv T):=by simp[World.cell?,f]
 have x:=al (show ∀W,Below w1.heap.size w1 W->Calls prog 39 #[rv T] W fun e w'=>e=.returned (rm (l.length:Int))/\W=w' from fun W j=>mX W T o most l FT ((a.o.1.tab.below h).below j))
 have HF:=al (show ∀W,Below w1.heap.size w1 W->Calls prog 201 #[rv T,rm (c:Int),rm lo,rm hi,rm (l.length:Int)] W (BU (cU c lo hi l) W)from fun W j=>by
  obtain⟨-,-,-,E,G,-⟩:=a.o.1.tab;rw[<-fm (AO (c:=c) (lo:=lo) (hi:=hi) E G)]
  exact yH W T o most l FT c l.length lo hi ((a.o.1.tab.below h).below j) (fun b q d=>by have:=a.o.2.1 b q d;have:=h.size;have:=j.size;omega) a.o.d.1 a.o.t.1 a.o.q.1 a.o.q.2.1 (by have:=a.o.q.q.1;omega))
 have H1:=AD h f;clear h f s;refine pt (S:=(fun W=>Below w1.heap.size w1 W/\W.cell? ⟨B,0,none⟩=some (rv T))) (by kernel_rfl) ⟨(bd _ _).drew,z0⟩ (fun h=>?_);refine bj [0,1,2,3,4,5,6,7,8,9,10] ?_
 iterate 11 (refine dZ (v:=?_) (fun _ ⟨k,p⟩=>?_) h ?_;rotate_left;(go_simp;try rfl);try simp only[xr])
 refine bq ?_;refine bA 11 (fun K j=>?_);go_simp;refine(x.o _ h.1).m ?_;rintro e wn ⟨rfl,rfl⟩
 try go_simp
 refine j.o _ _ (h) ?_;clear j K h;intro h
 try simp only[xr]
 refine bA 12 (fun K j=>?_);go_simp;refine(HF.o _ h.1).m ?_;rintro e wn ⟨A,cp,rfl,f,y⟩;have HO:=al (dI (base':=w.heap.size) f (fun g n=>by have:=(f.lt g n).1;have:=H1.o.1.size;have:=h.1.size;omega));clear f
 try go_simp
 refine j.o _ _ (Ie h y) ?_;clear j K h y;intro h
 try simp only[xr]
 refine bj [13,14,15,16,17] ?_
 iterate 5 (refine dZ (v:=?_) (fun _ ⟨k,p⟩=>?_) h ?_;rotate_left;(go_simp;try rfl);try simp only[xr])
 refine bq ?_;refine pw (by kernel_rfl) ?_ _;have C:=al h.1;clear h z0
 rename World=>w2
 have ad:Below w.heap.size w w2:=H1.o.1.x (C.o.m H1.o.1.size);obtain⟨H,j⟩:=rk (cU c lo hi l);rw[j]at HO⊢;obtain⟨n,k⟩:=rk (H.length);rw[k]at HO⊢
 have s: ∀p∈H,∃r,aA p l=some r:=by obtain⟨-,-,-,E,G,-⟩:=a.o.1.tab;intro p J;rw[<-j]at J;obtain⟨r,h,_⟩:=(kI E G).1 J;exact⟨r,(aD E).2 h⟩
 have t: ∀p∈H,1<=p.length/\p.length<=16:=by obtain⟨-,-,-,E,G,sD,-⟩:=a.o.1.tab;intro p J;rw[<-j]at J;obtain⟨r,h,_⟩:=(kI E G).1 J;exact sD _ h
 have z:n<=1024:=by obtain⟨-,-,-,E,G,-⟩:=a.o.1.tab;have:=AO (c:=c) (lo:=lo) (hi:=hi) E G;rw[j,k]at this;have:=a.o.q.q.1;omega
 have K:=AN j k s t z ad;clear j k s t z ad C x HF;go_wp2_with fail
 go_step3
 go_wp2_with fail
 go_loopw [16,66] (fun v i wr=>ada w c n A cp H wl l v i wr) (fun _ i _=>n-(intOf i).toNat)
 case atStart=>exact⟨0,dq _,rfl,dy _ _ _ _,HO.o,K.o.q.2⟩
 case round=>
  obtain⟨j,hj,rfl,f,UF,k⟩:=hrel
  rename World=>wr
  by_cases Q:j<n
  ·have HN:=al (show LtN j n from Q);obtain⟨p,J⟩: ∃p,H[j]?=some p:=⟨_,ao (by rw[K.o.2.1];exact Q)⟩;obtain⟨g0,rfl,zk⟩:=QH UF J;have t:=db J;obtain⟨⟨ra,rb,rc,rd⟩,h⟩:=K.o.d.1 p t;have x:=K.o.t.1 p t;have W:=qt k a.o.q.q.2;have z0:wr.cell? ⟨B,0,none⟩=some (rv T):=by simp[World.cell?,W]
   have z1:wr.cell? ⟨B,1,none⟩=some (.map (some mb)):=by simp[World.cell?,W]
   have N:=a.o.1.only (qS k) (fun u=>u) (fun u=>u) (fun _ _ u=>u) (fun _ _ _ u=>u);have S:=AD N.map (Ig (k:=p) (by simp[maxLen];omega));have s:=al (mY wr T o most l FT p N.tab x);unfold mz at s;rw[h]at s;have D:=N.wr p
   have ac:(H.take (j+1)).filterMap (aF wl l c)=(H.take j).filterMap (aF wl l c)++(aF wl l c p).toList:=by rw[gO,J,List.filterMap_append];cases hz:aF wl l c p<;>simp[hz]
   have M:=AM ac f UF k h;clear t x W N ac f UF k h J;obtain⟨gv,Z⟩:=rk (g (r7 p));rw[Z]at D
   cases d:aA p wl with
   |some x=>
    rw[d]at D
    cases gv with
    |none=>exact D.elim
    |some h=>
     have HA:=al (show aF wl l c p=none by unfold aF;rw[d];rfl);clear D d;go_wp2_with (first|(at_lookup;go_loud (refine fS (key:=r7 p) _ rfl _ _ 138 rfl zT underlying138 (Tryz.pq _) rfl S.o.1 rfl S.o.2 h true (by rw[Z];rfl) (by rw[Z];rfl) ?_))|fail);go_roundw
     case rel=>exact⟨j+1,HN.o,eE _ (UE HN.o K.o.q.1),by rw[M.o.1,HA.o];simpa using M.o.2.1,M.o.d.1,M.o.t.1⟩
     case measure=>exact YC HN.o K.o.q.1
   |none=>
    rw[d]at D
    cases gv with
    |some v=>exact D.elim
    |none=>
     have HA:=al (show aF wl l c p=some ((Rw.mk ra rb rc rd).aO c,p) by unfold aF;rw[d,M.o.q];rfl);clear D d;unfold Rw.val at s;go_wp2_with (first|(at_lookup;go_loud (refine fS (key:=r7 p) _ rfl _ _ 138 rfl zT underlying138 (Tryz.pq _) rfl S.o.1 rfl S.o.2 (.pointer none) false (by rw[Z];rfl) (by rw[Z];rfl) ?_))|fail);refine s.o.m ?_;rintro e w3 ⟨rfl,z⟩;clear s;go_upto_region 17 with fail;obtain⟨gP,kw⟩:=rj w3 (r8 ra rb rc rd);generalize w3.alloc (r8 ra rb rc rd)=C at gP kw⊢
     have a':C.cell? ⟨w3.heap.size,c,none⟩=some (rm ((Rw.mk ra rb rc rd).aO c)):=by have:=a.o.d.1;rcases(show c=0\/c=1\/c=2\/c=3 by omega)with rfl|rfl|rfl|rfl<;>(unfold World.cell?;rw[kw];rfl)
     obtain⟨t,ap⟩:=rk ((Rw.mk ra rb rc rd).aO c);rw[ap]at a' HA;have i1:(0:Int)<=(c:Int):=by omega
     have i2:(c:Int)<4:=by have:=a.o.d.1;omega
     have h:Below wr.heap.size wr C:=z.x (gP.m z.size);obtain⟨V,hV⟩:=rk (w3.heap.size);rw[hV]at a'⊢;have Y:=AD h (M.o.t.1.x (h.m M.o.t.1.size));clear kw gP z ap hV h;obtain⟨xs,s⟩:=rk ((H.take j).filterMap (aF wl l c))
     have P:xs.length<=1024:=by have I:=List.length_filterMap_le (aF wl l c) (H.take j);rw[s,im]at I;have:=K.o.q.1;omega
     have y:=ae C (ti t p.toArray);have F:=Y.o.1.x (y.m Y.o.1.size);have h:=aJ M.o.2.1 (qS F) (fun _ _ u=>u);have U:=aJ M.o.d.1 (qS F) (fun _ _ u=>u);rw[s]at h;obtain⟨X,O⟩:=rk (xs.length);rw[O]at h P;obtain⟨A1,c1,rfl⟩:=ai h;have z:=AS h U (Y.o.2.x (y.m Y.o.2.size)) (eb (an C (ti t p.toArray))) s O P;have a5:=Y.o.2.size;clear h U y F s O P;go_wp2_with (at_builtin;go_loud (refine et _ rfl _ _ 302 rfl w.heap.size 304 i0 _ 2 24 underlying302 HI.o.1 HI.o.2.1 HI.o.d.1 HI.o.t rfl (by decide) (.slice A1 X c1) X _ rfl z.o.1 ⟨C.heap.size,0,none⟩ 1 1 [rm t,r7 p] rfl rfl z.o.t.1 (by simp[Value.oneCell']) (by decide) (by have:=z.o.q.d;unfold maxLen;omega) (by have:=z.o.q.d;omega) (by simp;omega) _ rfl ?_);intro g2 a2 w7 F C L qh;have HP:=AF F C L;clear F C L qh);have R:=HN.o;have gq:=K.o.q.1;unfold LtN at R;obtain⟨h,U,Dp,-,s,O,P⟩:=z.o;obtain⟨F,C,L⟩:=HP.o;refine⟨⟨j+1,R,eE _ (UE R gq),?_,?_,?_⟩,YC R gq⟩
     ·rw[M.o.1,HA.o,s];have:(xs++(some (t,p)).toList).length=X+1:=by simp[O]
      rw[this];simpa[Wn]using F
     ·exact U.kept C (.inr (fun e=>iZ U h (by decide) (rfl:Value.ownBlock (.slice (some ⟨g0,0,none⟩) n cp)=some g0) e.symm))
     ·exact Dp.grown C Dp.size (fun q d=>(h.lt q d).1)
  ·have R:j=n:=by omega
   subst R;have ac:H.take j=H:=fm (by rw[K.o.2.1];exact b8 _);rw[ac]at f;obtain⟨xs,s⟩:=rk (H.filterMap (aF wl l c));rw[s]at f;have W:=qt k a.o.q.q.2;have z1:wr.cell? ⟨B,1,none⟩=some (.map (some mb)):=by simp[World.cell?,W]
   have N:=a.o.1.only (qS k) (fun u=>u) (fun u=>u) (fun _ _ u=>u) (fun _ _ _ u=>u);have U:=AI f k s N;clear f UF k ac s W N Q;go_wp2_with (at_range;go_loud (refine lC _ rfl _ 138 rfl underlying138 rfl U.o.t.map (wl.map Prod.fst) (fun p _=>U.o.t.Qy p) (gW U.o.t.up) (fun p J=>by have:=(U.o.t.Uw p J).2;unfold maxLen;omega) ?_);intro N aa M;have s:=AD aa M;clear aa M)
   go_frame
   go_loopw [16] (fun v wy=>YA w mb nb wr.heap.size g c lo hi wl xs v wy) (fun _ wy=>wy.rangeLeft mb wr.heap.size)
   case atStart=>exact⟨wl.map Prod.fst,[],s.o.1,by simp,by simpa using aJ U.o.1 (qS s.o.2) (fun _ _ u=>u),U.o.2.1.x (s.o.2.m U.o.2.1.size)⟩
   case round=>
    obtain⟨kl,Z,aa,M,f,k⟩:=hrel
    rename World=>wy
    have R:=AI M f k aa;clear M f k;go_wp2_with (at_next;refine qC _ rfl _ rfl rfl aa ?_ ?_)
    ·intro s;subst s;have M:=R.o.1;rw[fs]at M;obtain⟨zs,W⟩:=rk (xs++Z.filterMap (bF wl c lo hi));have E:=a.o.1.tab.up;have G:=a.o.1.tab.fit;have N:=EF (c:=c) (lo:=lo) (hi:=hi) a.o.1.up E G M;rw[K.o.1,U.o.d.1,W]at N;have Y:=cE (wl:=wl) E
     have am:zs.length<=1024:=by have I:=N.length_eq;rw[fa]at I;have h2:=List.length_filter_le (Eo c lo hi) (aW wl l);have:=a.o.q.t.1;omega
     have f:=R.o.2.1;rw[W]at f;have HS:=al (Nc wy w.heap.size u16 zs f (N.nodup_iff.2 (Jj Y)) (by omega));have a0: ∀s:List (Int×List UInt8),s.Perm zs->s.Pairwise zK->s.map Prod.snd=cU c lo hi (aW wl l):=fun s I h2=>OO Y (LZ a.o.1.up E G a.o.1.fit) h2 (I.x N);have HF:=AF a0 am f;clear M W E G N Y am f a0 aa;go_wp2_with fail;refine HS.o.m ?_;rintro e w6 ⟨rfl,s,M,hs,⟨A5,c5,rfl,a3,a4,am⟩,zA⟩;have a0:s.length<=1024:=by rw[M.length_eq];exact HF.o.2.1
     have fW:Below w.heap.size w w6:=R.o.d.1.x (zA.aH R.o.d.1.size (fun q d e=>by have:=(HF.o.d.lt q e).1;omega));obtain⟨N,Y⟩:=rk (s.length);have a1:=HF.o.1 s M hs;rw[Y]at a3 a0⊢;have H6:=AS a1 am fW Y a0 a3 a4;have kg:=a.o.q.d.1;clear M hs a1 am fW Y zA HS;go_wp2_with fail;obtain⟨M,hM⟩:=rk (min m N);have e1:min (m:Int) (N:Int)=(M:Int):=by omega
     have e2:max (M:Int) 0=(M:Int):=by omega
     have Y:((M:Int)).toNat=M:=by omega
     rw[e1,e2,Y];have S:=AD hM (show M<=1000 from by omega);clear hM e1 e2 Y
     go_loopw [25,149] (fun v i wy=>ac9 w6 M s v i wy) (fun _ i _=>M-(intOf i).toNat)
     case atStart=>exact⟨0,dq _,rfl,dy _ _ _ _,bd _ _⟩
     case round=>
      obtain⟨i,a1,rfl,f,k⟩:=hrel
      rename World=>wz
      by_cases Q:i<M
      ·have HN:=al (show LtN i M from Q);obtain⟨⟨t,p⟩,hx⟩: ∃x,s[i]?=some x:=⟨_,ao (by rw[H6.o.t.1];have:=S.o.1;omega)⟩;obtain⟨g5,rfl,y0,y1⟩:=H6.o.2.1 i _ hx;have t0:wz.cell? ⟨g5,i*2,none⟩=some (rm t):=(k.cell (aq _ _ y0)).x y0;have t1:wz.cell? ⟨g5,i*2+1,none⟩=some (r7 p):=(k.cell (aq _ _ y1)).x y1;have Y:=AF hx f k;clear hx f k y0 y1;go_upto_region 29 with fail;obtain⟨gP,kw⟩:=rj wz (ti t p.toArray);generalize wz.alloc (ti t p.toArray)=w8 at gP kw⊢;obtain⟨V,hV⟩:=rk (wz.heap.size);rw[hV]at kw⊢;have t2:w8.cell? ⟨V,1,none⟩=some (r7 p):=by simp[World.cell?,kw]
       have y:=ae w8 (tx p.toArray);have zU:=gP.x (y.m gP.size);have h:=aJ Y.o.2.1 (qS zU) (fun _ _ u=>u);obtain⟨A7,c7,rfl⟩:=ai h;have QJ:=Y.o.d.x (zU.m Y.o.d.size);have z:=AM h (eb (an w8 (tx p.toArray))) QJ Q S.o.2;have a6:w6.heap.size<=w8.heap.size:=dd Y.o.d.size gP.size;clear h y zU QJ gP kw hV;go_wp2_with (at_builtin;go_loud (refine et _ rfl _ _ 122 rfl w6.heap.size 9 i1 _ 1 16 underlying122 HJ.o.1 HJ.o.2.1 HJ.o.d.1 HJ.o.t rfl (by decide) (.slice A7 i c7) i _ rfl z.o.1 ⟨w8.heap.size,0,none⟩ 1 1 [r7 p] rfl rfl z.o.2.1 (by simp[Value.oneCell']) (by decide) (by have:=z.o.q;unfold maxLen;omega) (by have:=z.o.q;omega) (by simp;omega) _ rfl ?_);intro g2 a2 w7 F C L qh;have HP:=AF F C L;clear F C L qh);have gq:=S.o.2;have am:=HN.o;unfold LtN at am;obtain⟨h,-,QJ,-⟩:=z.o;obtain⟨F,C,L⟩:=HP.o;refine⟨⟨i+1,am,eE _ (UE am (by omega)),?_,QJ.grown C QJ.size (fun q d=>(h.lt q d).1)⟩,YC am (by omega)⟩;rw[gO,Y.o.1,gR];simpa[FW]using F
      ·have am:i=M:=by omega
       subst am;obtain⟨A7,c7,rfl⟩:=ai f;have Y:=AD f k;clear f k;go_wp2_with fail;rw[gx]
       go_ret2
       have ac:(cU c lo hi (aW wl l)).take m=(s.take i).map Prod.snd:=by
        rw[<-H6.o.1,<-mc];congr 1;have I:=S.o.1;have h2:=H6.o.t.1;by_cases f:m<=N
        ·rw[show m=i by omega]
        ·rw[fm (by omega),fm (by omega)]
       have f:((s.take i).map Prod.snd).length=i:=by rw[fa,im];have I:=S.o.1;have h2:=H6.o.t.1;omega
       refine⟨A7,c7,?_,?_,H6.o.d.1.x (Y.o.2.m H6.o.d.1.size)⟩
       ·rw[ac,f];rfl
       ·rw[ac,f,List.map_map];exact dI Y.o.1 (fun q d=>dd H6.o.d.1.size (Y.o.1.lt q d).1)
    ·intro N M p v w2 uf DR Y Q S Ah a6;have k:=R.o.d.1;have a3:=U.o.2.1.size;have ad:Below w.heap.size w w2:=k.x (S.aH k.size (fun j hj e=>by omega));have a0:=a.o.1.only (qS ad) (fun u=>u) (fun u=>u) (fun _ _ u=>u) (fun _ _ _ u=>u);have D:=a0.wr p;rw[DR]at D;have V:=aJ R.o.2.1 S (fun q d e=>(R.o.t.own_ne R.o.2.1) (by rw[d,e]))
     have YE:((Z++[p])++(N++M)).Perm (wl.map Prod.fst):=by have I:=R.o.1;rw[uf]at I;refine List.Perm.x ?_ I;simpa using List.Perm.append_left Z (List.perm_middle (a:=p) (l₁:=N) (l₂:=M)).symm
     have a1:(xs++Z.filterMap (bF wl c lo hi)).length<=1024:=by obtain⟨-,-,-,E,G,-⟩:=a.o.1.tab;have I:=YB (c:=c) (lo:=lo) (hi:=hi) a.o.1.up E G R.o.1;rw[K.o.1,U.o.d.1]at I;have:=a.o.q.t.1;omega
     have am: ¬mb=wr.heap.size:=fun e=>by have:=a.o.1.map.lt;omega
     cases d:aA p wl with
     |none=>rw[d]at D;exact D.elim
     |some x=>
      rw[d]at D;have f:=AS Y Q ad V YE a1 am
      cases x with
      |none=>obtain rfl:=D.1;have x:=al (show bF wl c lo hi p=none by unfold bF;rw[d]);clear d D a0 k a3 ad V YE a1 am uf aa Y Q S Ah DR;go_wp2_with fail;exact⟨⟨N++M,Z++[p],f.o.1,f.o.q.1,by rw[List.filterMap_append];simpa[x.o]using f.o.t.1,f.o.d.1⟩,f.o.2.1⟩
      |some r=>
       obtain⟨⟨b,rfl,qG⟩,SD⟩:=D;obtain⟨ra,rb,rc,rd⟩:=r;have a4:=a.o.d.1
       have a':w2.cell? ⟨b,c,none⟩=some (rm ((Rw.mk ra rb rc rd).aO c)):=by rcases(show c=0\/c=1\/c=2\/c=3 by omega)with rfl|rfl|rfl|rfl<;>(unfold World.cell?;rw[qG];rfl)
       obtain⟨t,ap⟩:=rk ((Rw.mk ra rb rc rd).aO c);have s:bF wl c lo hi p=if lo<=t/\t<=hi then some (t,p)else none:=by unfold bF;rw[d];simp only[ap]
       rw[ap]at a';have i1:(0:Int)<=(c:Int):=by omega
       have i2:(c:Int)<4:=by omega
       clear d a0 k a3 ad V YE a1 am uf aa Y Q S Ah DR ap qG SD a4;by_cases q1:lo<=t
       ·by_cases q2:t<=hi
        ·rw[ff ⟨q1,q2⟩]at s;have x:=al s;clear s;obtain⟨zs,W⟩:=rk (xs++Z.filterMap (bF wl c lo hi));have y:=ae w2 (ti t p.toArray);have h:=aJ f.o.t.1 (qS y) (fun _ _ u=>u);have P:=f.o.q.2.1;rw[W]at h P;obtain⟨X,O⟩:=rk (zs.length);rw[O]at h P;obtain⟨A1,c1,rfl⟩:=ai h;have k:=f.o.d.1.x (y.m f.o.d.1.size);have z:=AS h (eb (an w2 (ti t p.toArray))) W O P y k;have a5:=f.o.d.1.size;clear h y W O P k;go_wp2_with (at_builtin;go_loud (refine et _ rfl _ _ 302 rfl w.heap.size 304 i0 _ 2 24 underlying302 HI.o.1 HI.o.2.1 HI.o.d.1 HI.o.t rfl (by decide) (.slice A1 X c1) X _ rfl z.o.1 ⟨w2.heap.size,0,none⟩ 1 1 [rm t,r7 p] rfl rfl z.o.2.1 (by simp[Value.oneCell']) (by decide) (by have:=z.o.q.1;unfold maxLen;omega) (by have:=z.o.q.1;omega) (by simp;omega) _ rfl ?_);intro g2 a2 w7 F C L qh;have HP:=AF F C L;clear F C L qh);obtain⟨h,-,W,O,P,y,k⟩:=z.o;obtain⟨F,C,L⟩:=HP.o;have Q:=f.o.1.only (qS y) (fun u=>u) (fun u=>u);have Y:=Only.of_grownBy C;have V: ¬(Value.slice A1 X c1).ownBlock=some mb:=fun e=>by have:=(h.lt mb e).1;have:=a.o.1.map.lt;omega
         have S: ¬(Value.slice A1 X c1).ownBlock=some wr.heap.size:=Q.own_ne h;refine⟨⟨N++M,Z++[p],Q.only Y V S,f.o.q.1,?_,k.grown C k.size (fun q d=>(h.lt q d).1)⟩,?_⟩
         ·rw[List.filterMap_append,<-kh,W,show[p].filterMap (bF wl c lo hi)=[(t,p)] by simp[x.o],show(zs++[(t,p)]).length=X+1 by simp[O]];simpa[Wn]using F
         ·rw[Q.left Y V S,f.o.1.left (qS y) (fun u=>u) (fun u=>u)];exact f.o.2.1
        ·rw[fb (fun u=>q2 u.2)]at s;have x:=al s;clear s;go_wp2_with fail;exact⟨⟨N++M,Z++[p],f.o.1,f.o.q.1,by rw[List.filterMap_append];simpa[x.o]using f.o.t.1,f.o.d.1⟩,f.o.2.1⟩
       ·rw[fb (fun u=>q1 u.1)]at s;have x:=al s;clear s;go_wp2_with fail;exact⟨⟨N++M,Z++[p],f.o.1,f.o.q.1,by rw[List.filterMap_append];simpa[x.o]using f.o.t.1,f.o.d.1⟩,f.o.2.1⟩
end
end Go.Proofs.YtehccbdajiiaaaaGreatDoor
