import Derived.Test.YtehccbdajiiaaaaGreatDoorP21
import Derived.Test.YtehccbdajiiaaaaGreatDoorP27
import Derived.Test.YtehccbdajiiaaaaGreatDoorP40
theorem List.Perm.x{α:Type}{a b c:List α}(h:a.Perm b)(k:b.Perm c):a.Perm c:=.trans h k
namespace Go.Proofs.YtehccbdajiiaaaaGreatDoor
open Go.Proofs.Tryz
set_option maxRecDepth 100000
set_option maxHeartbeats 16000000
open Go.RowKit
section
open Go.Shelf Go.RowKit Go.Lib Go.Sort
def zy(a b:List UInt8):Int:=if a<b then -1 else if b<a then 1 else 0
abbrev uP (x y:Int×List UInt8):Int:=if Lib.compareInt x.1 y.1=0 then zy x.2 y.2 else Lib.compareInt x.1 y.1
instance (x y:Int×List UInt8):Decidable (yN x y):=by unfold yN;exact inferInstance
theorem pR(a b:List UInt8):a<b\/a=b\/b<a:=by
 by_cases c:a<b
 ·exact .inl c
 ·by_cases d:b<a
  ·exact .inr (.inr d)
  ·exact .inr (.inl (List.le_antisymm (List.not_lt.1 d) (List.not_lt.1 c)))
theorem ltF(x y:Int×List UInt8):ltOf uP x y=decide (yN x y):=by
 unfold ltOf uP yN Lib.compareInt zy;by_cases a:x.1<y.1
 ·simp[a]
 ·by_cases c:y.1<x.1
  ·have: ¬x.1=y.1:=by omega
   simp[a,c,this]
  ·have:x.1=y.1:=by omega
   by_cases b:x.2<y.2
   ·simp[this,b]
   ·by_cases d:y.2<x.2<;>simp[this,b,d]
theorem yN.trans{x y z:Int×List UInt8}(b:yN x y)(a:yN y z):yN x z:=by
 unfold yN at *;rcases b with b|⟨b,c⟩
 ·rcases a with a|⟨a,_⟩<;>exact .inl (by omega)
 ·rcases a with a|⟨a,d⟩
  ·exact .inl (by omega)
  ·exact .inr ⟨by omega,List.lt_trans c d⟩
abbrev yN.x:=@yN.trans
theorem yN.total(x y:Int×List UInt8):yN x y\/x=y\/yN y x:=by
 unfold yN;rcases Int.lt_trichotomy x.1 y.1 with h|h|h
 ·exact .inl (.inl h)
 ·rcases pR x.2 y.2 with a|a|a
  ·exact .inl (.inr ⟨h,a⟩)
  ·exact .inr (.inl (Prod.ext h a))
  ·exact .inr (.inr (.inr ⟨h.symm,a⟩))
 ·exact .inr (.inr (.inl h))
theorem yN.irrefl(x:Int×List UInt8): ¬yN x x:=by
 rintro(h|⟨_,h⟩)
 ·omega
 ·exact aM _ h
theorem ac8:SWO (ltOf uP) where
 irrefl x:=by rw[ltF];simp[yN.irrefl]
 trans x y z h1 h2:=by rw[ltF]at *;simp at *;exact h1.x h2
 ntrans x y z h1 h2:=by
  rw[ltF]at *;simp only[decide_eq_false_iff_not]at *;intro h;rcases yN.total y x with a|a|a
  ·exact h2 (by first|exact a.x h|exact h)
  ·subst a;exact h2 h
  ·exact h1 a
theorem TX(a b:List UInt8):zy a b=if Op.bytesLess a b then -1 else if(!a==b)&&!Op.bytesLess a b then 1 else 0:=by
 unfold zy;rw[bytesLess_eq];by_cases c:a<b
 ·simp[c]
 ·rcases pR a b with h|h|h
  ·exact absurd h c
  ·subst h;simp[c]
  ·have: ¬a=b:=fun e=>by subst e;exact c h
   simp[c,h,this]
def Gr(w w':World):Prop:= ∃q a,w'=grow (w.drewN q) a
section
variable{w w':World}
theorem Gr.refl(w:World):Gr w w:=⟨0,#[],by simp[grow];rfl⟩
theorem Gr.alloc(h:Gr w w')(o:Obj):Gr w (w'.alloc o):=by obtain⟨q,a,rfl⟩:=h;exact⟨q,a++ #[o],by rw[alloc_eq_grow,grow_grow]⟩
theorem Gr.drew(h:Gr w w'):Gr w w'.drew:=by obtain⟨q,a,rfl⟩:=h;exact⟨q+1,a,rfl⟩
theorem Gr.trans{w2:World}(h:Gr w w')(b:Gr w' w2):Gr w w2:=by obtain⟨q,d,rfl⟩:=h;obtain⟨c,a,rfl⟩:=b;exact⟨q+c,d++a,by rw[<-grow_grow,<-World.drewN_drewN];rfl⟩
abbrev Gr.x:=@Gr.trans
end
theorem Bp(k:List UInt8)(w:World):Calls prog 188 #[sd k] w fun e w'=>e=.returned (.bool false)/\w'=w:=by
 go_enter func188,ntmps188;go_wp2_with fail;go_ret
 simp
theorem Bq(a b:List UInt8)(w:World):Calls prog 170 #[sd a,sd b] w fun e w'=>e=.returned (rv (zy a b))/\w'=w:=by
 have c:=fun W=>Bp a W;have d:=fun W=>Bp b W;go_enter func170,ntmps170;go_wp2_with fail;refine(c _).m ?_;rintro e w' ⟨rfl,rfl⟩;go_wp2_with fail;refine(d _).m ?_;rintro e w' ⟨rfl,rfl⟩;go_wp2_with fail
 all_goals go_ret
 all_goals rw[TX]
 all_goals clear c d
 all_goals refine⟨ew Ending.returned (ew (Value.int IntKind.i64) ?_),rfl⟩
 all_goals simp[*]
def ac9(w:World)(a b:Int)(i:Value)(w':World):Prop:= ∃k:Nat,k<=2/\i=rv (k:Int)/\(1<=k->a=0)/\(2<=k->b=0)/\w'=w
theorem Fz(w:World)(g:Nat)(a b:Int)(t:TypeId)(h:w.heap[g]?=some (.cells #[rv a,rv b] t (0,0))):Calls prog 263 #[.slice (some ⟨g,0,none⟩) 2 2] w fun e w'=>e=.returned (rv (if a=0 then b else a))/\w'=w:=by
 have n:w.cell? ⟨g,0,none⟩=some (rv a):=by simp[World.cell?,h]
 have l:w.cell? ⟨g,1,none⟩=some (rv b):=by simp[World.cell?,h]
 clear h;go_enter func263,ntmps263;go_wp2_with fail
 go_loopw [7] (fun i w'=>ac9 w a b i w') (fun i _=>2-(intOf i).toNat)
 case atStart=>exact⟨0,by omega,rfl,fun h=>by omega,fun h=>by omega,rfl⟩
 case round=>
  obtain⟨k,m,rfl,c,d,rfl⟩:=hrel;by_cases e:k=2
  ·subst e;obtain rfl:=c (by omega);obtain rfl:=d (by omega);clear c d;go_wp2_with fail;go_ret
   exact⟨rfl,rfl⟩
  ·by_cases f:k=0
   ·subst f;clear c d e;by_cases c:a=0
    ·subst c;go_wp2_with fail;go_roundw
     case rel=>exact⟨1,by omega,rfl,fun _=>rfl,fun h=>by omega,rfl⟩
     case measure=>simp[intOf]
    ·have j:=al c;go_wp2_with fail;go_ret
     exact⟨rfl,rfl⟩
   ·have:k=1:=by omega
    subst this;obtain rfl:=c (by omega);clear c d e f;by_cases c:b=0
    ·subst c;go_wp2_with fail;go_roundw
     case rel=>exact⟨2,by omega,rfl,fun _=>rfl,fun _=>rfl,rfl⟩
     case measure=>simp[intOf]
    ·have j:=al c;go_wp2_with fail;go_ret
     exact⟨rfl,rfl⟩
def Vy(x:Int×List UInt8):List Value:=[rv x.1,sd x.2]
theorem Qo{w W:World}{d b e c:Addr}{v1 v2 v3 v4:Value}(h:Gr w W/\W.cell? d=some v1/\W.cell? b=some v2/\W.cell? e=some v3/\W.cell? c=some v4)(o:Obj):Gr w (W.alloc o)/\(W.alloc o).cell? d=some v1/\(W.alloc o).cell? b=some v2/\(W.alloc o).cell? e=some v3/\(W.alloc o).cell? c=some v4:=
 have a:=af W o
 ⟨h.1.alloc o,(a.cell (aq _ _ h.2.1)).x h.2.1,(a.cell (aq _ _ h.2.2.1)).x h.2.2.1,(a.cell (aq _ _ h.2.2.2.1)).x h.2.2.2.1,(a.cell (aq _ _ h.2.2.2.2)).x h.2.2.2.2⟩
theorem Mt(x y:Int×List UInt8)(w:World):Calls prog 235 #[.agg #[rv x.1,sd x.2],.agg #[rv y.1,sd y.2]] w fun C w'=>C=.returned (rv (uP x y))/\Gr w w':=by
 obtain⟨e,k⟩:=x;obtain⟨o,j⟩:=y;have g:=((Gr.refl w).alloc (sr e k.toArray)).alloc (sr o j.toArray);have d:=an w (sr e k.toArray);obtain⟨b,a⟩:=rk (w.alloc (sr e k.toArray)) (sr o j.toArray);have c:=qS b d;rw[show(w.alloc (sr e k.toArray)).heap.size=w.heap.size+1 by simp]at a;clear d b;have n:((w.alloc (sr e k.toArray)).alloc (sr o j.toArray)).cell? ⟨w.heap.size,0,none⟩=some (rv e):=by unfold World.cell?;rw[c];rfl
 have i:((w.alloc (sr e k.toArray)).alloc (sr o j.toArray)).cell? ⟨w.heap.size,1,none⟩=some (sd k):=by unfold World.cell?;rw[c];rfl
 have h:((w.alloc (sr e k.toArray)).alloc (sr o j.toArray)).cell? ⟨w.heap.size+1,0,none⟩=some (rv o):=by unfold World.cell?;rw[a];rfl
 have l:((w.alloc (sr e k.toArray)).alloc (sr o j.toArray)).cell? ⟨w.heap.size+1,1,none⟩=some (sd j):=by unfold World.cell?;rw[a];rfl
 have m:=AS g n i h l;have d:=fun b=>AnyG.cmp_Compare_int Tryz.Ni e o b;change ∀b,Calls prog 51 _ _ _ at d;have u:=al d;have f:=fun b=>Bq k j b;have r:=al f;clear g n i h l c a d f;by_cases p:e=o/\k=j
 ·obtain⟨rfl,rfl⟩:=p;have h:=al (show uP (e,k) (e,k)=0 by simp[uP,Lib.compareInt,zy,aM]);go_enter func235,ntmps235;go_wp2_with fail;go_ret
  rw[h.o];exact⟨rfl,m.o.1⟩
 ·skip
  obtain⟨c,b⟩:=rl (Lib.compareInt e o);obtain⟨g,a⟩:=rl (zy k j);rw[b]at u;rw[a]at r;have h:=al (show uP (e,k) (o,j)=if c=0 then g else c by unfold uP;simp only[b,a]);clear b a;rcases Classical.em (e=o)with a|a
  ·subst a;have E: ¬k=j:=fun C=>p ⟨rfl,C⟩;clear p;go_enter func235,ntmps235;go_upto_region 3 with fail;have d:=m.o;generalize ((w.alloc (sr e k.toArray)).alloc (sr e j.toArray))=f at d⊢;obtain⟨P,i⟩:=rl (w.heap.size);rw[i]at d⊢;clear i m;refine pw (S:=(fun W=>Gr w W/\W.cell? ⟨P,0,none⟩=some (rv e)/\W.cell? ⟨P,1,none⟩=some (sd k)/\W.cell? ⟨P+1,0,none⟩=some (rv e)/\W.cell? ⟨P+1,1,none⟩=some (sd j))) (by kernel_rfl) ⟨d.1.drew,d.2⟩ (fun a=>?_);refine bq [0,1,2,3,5,6,7,8] ?_
   iterate 8 (refine ek (v:=?_) (fun _ ⟨z,t,B,s,A⟩=>?_) a ?_;rotate_left;(go_simp;try rfl);try simp only[xT])
   refine bt ?_;refine bC 4 (fun K b=>?_);go_simp;refine(u.o _).m ?_;rintro C l ⟨rfl,rfl⟩
   try go_simp
   refine b.o _ _ (a) ?_;clear b K a;intro a
   try simp only[xT]
   refine bC 9 (fun K b=>?_);go_simp;refine(r.o _).m ?_;rintro C l ⟨rfl,rfl⟩
   try go_simp
   refine b.o _ _ (a) ?_;clear b K a;intro a
   try simp only[xT]
   refine bC 10 (fun K b=>?_);go_simp;refine b.o _ _ (Qo a _) ?_;clear b K a;intro a
   try simp only[xT]
   refine bC 11 (fun K b=>?_);go_simp;refine(Fz (f.alloc (.cells #[rv c,rv g] 3)).drew f.heap.size c g 3 (an f _)).m ?_;rintro C l ⟨rfl,rfl⟩
   try go_simp
   refine b.o _ _ (a) ?_;clear b K a;intro a
   try simp only[xT]
   refine ml 12 (v:=?_) (fun D q=>?_) a ?_;rotate_left
   ·obtain⟨z,t,B,s,A⟩:=q;go_simp;try rfl
   try simp only[xT]
   refine qe (by kernel_rfl) ?_ _;have v:=al a.1;clear a;obtain⟨R,n⟩: ∃R,(if c=0 then g else c)=R:=⟨_,rfl⟩;rw[n]at h⊢;clear n;go_wp2_with fail;go_ret
   rw[h.o];exact⟨rfl,v.o⟩
  ·clear p;go_enter func235,ntmps235;go_upto_region 3 with fail;have d:=m.o;generalize ((w.alloc (sr e k.toArray)).alloc (sr o j.toArray))=f at d⊢;obtain⟨P,i⟩:=rl (w.heap.size);rw[i]at d⊢;clear i m;refine pw (S:=(fun W=>Gr w W/\W.cell? ⟨P,0,none⟩=some (rv e)/\W.cell? ⟨P,1,none⟩=some (sd k)/\W.cell? ⟨P+1,0,none⟩=some (rv o)/\W.cell? ⟨P+1,1,none⟩=some (sd j))) (by kernel_rfl) ⟨d.1.drew,d.2⟩ (fun a=>?_);refine bq [0,1,2,3,5,6,7,8] ?_
   iterate 8 (refine ek (v:=?_) (fun _ ⟨z,t,B,s,A⟩=>?_) a ?_;rotate_left;(go_simp;try rfl);try simp only[xT])
   refine bt ?_;refine bC 4 (fun K b=>?_);go_simp;refine(u.o _).m ?_;rintro C l ⟨rfl,rfl⟩
   try go_simp
   refine b.o _ _ (a) ?_;clear b K a;intro a
   try simp only[xT]
   refine bC 9 (fun K b=>?_);go_simp;refine(r.o _).m ?_;rintro C l ⟨rfl,rfl⟩
   try go_simp
   refine b.o _ _ (a) ?_;clear b K a;intro a
   try simp only[xT]
   refine bC 10 (fun K b=>?_);go_simp;refine b.o _ _ (Qo a _) ?_;clear b K a;intro a
   try simp only[xT]
   refine bC 11 (fun K b=>?_);go_simp;refine(Fz (f.alloc (.cells #[rv c,rv g] 3)).drew f.heap.size c g 3 (an f _)).m ?_;rintro C l ⟨rfl,rfl⟩
   try go_simp
   refine b.o _ _ (a) ?_;clear b K a;intro a
   try simp only[xT]
   refine ml 12 (v:=?_) (fun D q=>?_) a ?_;rotate_left
   ·obtain⟨z,t,B,s,A⟩:=q;go_simp;try rfl
   try simp only[xT]
   refine qe (by kernel_rfl) ?_ _;have v:=al a.1;clear a;obtain⟨R,n⟩: ∃R,(if c=0 then g else c)=R:=⟨_,rfl⟩;rw[n]at h⊢;clear n;go_wp2_with fail;go_ret
   rw[h.o];exact⟨rfl,v.o⟩
theorem IK(x y:Int×List UInt8)(w:World):Calls prog 203 #[.agg #[rv x.1,sd x.2],.agg #[rv y.1,sd y.2]] w fun g w'=>g=.returned (rv (uP x y))/\Gr w w':=by
 obtain⟨e,k⟩:=x;obtain⟨f,j⟩:=y;have c:=al (fun W=>Mt (e,k) (f,j) W);obtain⟨R,d⟩:=rl (uP (e,k) (f,j));rw[d]at c⊢;have b:=((Gr.refl w).alloc (tm e k.toArray)).alloc (tm f j.toArray);have a:=al b;clear d b;go_enter func203,ntmps203;go_wp2_with fail;refine(c.o _).m ?_;rintro g w' ⟨rfl,b⟩;have d:=al (a.o.x b);clear b a;go_wp2_with fail;go_ret
 exact⟨rfl,d.o⟩
theorem X9(b a size:Nat)(w:World):CmpLays prog 203 #[] Vy 2 uP b a size w:=
 fun _ _ _ _ x y=>IK x y _
end
section
open Go.Shelf Go.RowKit Go.Lib Go.Sort
section
variable{α:Type}[Inhabited α]{enc:α->List Value}
omit [Inhabited α] in
theorem TY(a: ∀x,(enc x).length=2)(l:List α): ∀x∈l.map enc,x.length=2:=by intro x b;obtain⟨y,_,rfl⟩:=eh.1 b;exact a y
theorem zA(e: ∀x,(enc x).length=2){t:TypeId}{w:World}{base g f:Nat}{l:List α}(n:w.ownsRow base t 2 (.slice (some ⟨g,0,none⟩) l.length f) l.length (l.map enc).flatten):HoldsK enc 2 w g 0 l.toArray:=by
 intro t a;rw[size_flatK]at a;rw[get_flatK _ _ _ _ a];simp at a;have d:t/2<l.length:=(Nat.div_lt_iff_lt_mul (by decide)).2 a;have h:l[t/2]?=some l[t/2]:=ao d;have c:=jP (TY e l) (t/2) (enc l[t/2]) (by simp[h]) (t%2);have m:t/2*2+t%2=t:=by omega
 rw[m]at c;have b:=n.cellAt t (by omega);have k:=n.frozenAt t;have i:l.toArray[t/2]! =l[t/2]:=by simp[d]
 rw[i]
 have j:(enc l[t/2])[t%2]?=some (enc l[t/2])[t%2]!:=by
  have:t%2<(enc l[t/2]).length:=by rw[e];omega
  simp[this]
 rw[c _ j]at b;rw[gR];exact⟨b,k⟩
def Zc(enc:α->List Value)(w:World)(v:Value)(s:List α):Prop:=
 ∃A c,v=.slice A s.length c/\s.length<=c/\c<=maxLen/\ ∀i x,s[i]?=some x-> ∃g,A=some ⟨g,0,none⟩/\ ∀j u,(enc x)[j]?=some u->w.cell? ⟨g,i*2+j,none⟩=some u
theorem CY(j: ∀x,(enc x).length=2){w:World}{g a:Nat}{d:Array α}(p:HoldsK enc 2 w g 0 d)(h:d.size<=a)(i:a<=maxLen):Zc enc w (.slice (some ⟨g,0,none⟩) d.size a) d.toList:=by
 refine⟨_,_,by simp,by simpa using h,i,fun m x c=>⟨g,rfl,fun n u e=>?_⟩⟩;have b:m<d.size:=by have:=(bd.1 c).1;simpa using this
 have f:n<2:=by have:=(bd.1 e).1;rwa[j]at this
 have o:d[m]! =x:=by simp[b]at c;subst c;simp[b]
 have c:=(p.cell b f).1;rw[o]at c;have l:(enc x)[n]! =u:=by obtain⟨k,o⟩:=bd.1 e;simp[k,o]
 rw[l]at c;rw[show(⟨g,m*2+n,none⟩:Addr)=⟨g,0+m*2+n,none⟩ by congr 1;omega];exact c
def Ya(enc:α->List Value)(a:α->α->Int)(w:World)(v:Value)(l:List α)(e:Ending)(w':World):Prop:=e=.returned (.tuple #[])/\ ∃s,s.Perm l/\s.Pairwise (fun x y=>ltOf a y x=false)/\Zc enc w' v s/\Only (fun k=>v.ownBlock=some k) w w'
theorem FA{ρ:Ren}(N:SlLaysF0.n6 prog ρ)(C: ∀w,(isAgg (ρ.t 24)).run prog w=.ok true w)(E: ∀w,(Go.sizeOf (ρ.t 24)).run prog w=.ok 2 w)(f: ∀x,(enc x).length=2)(D: ∀x,∀v∈enc x,v.oneCell'=true)(b:α->α->Int)(G:SWO (ltOf b))(g:Nat)
  (F: ∀a w,(callFunc g a).run prog w=.ok (.enter g a) w) (z: ∀d c a w,CmpLays prog g #[] enc 2 b d c a w) (w:World) (t:TypeId) (base:Nat) (v:Value) (l:List α) (P:w.ownsRow base t 2 v l.length (l.map enc).flatten) (J:l.length<4611686018427387904):
  Calls prog (ρ.f 6) #[v,.func (.func g) #[] #[]] w (Ya enc b w v l):=by
 rcases P.2 with⟨rfl,H⟩|⟨j,y,Q,rfl,_,K,e,I,p,R⟩
 ·have:l=[]:=de H;subst this;refine(AnyF.slices_SortFunc_none N none 0 (.func (.func g) #[] #[]) w).m ?_;rintro M i ⟨rfl,rfl⟩;exact⟨rfl,[],List.Perm.refl _,ee,⟨_,_,rfl,b8 _,by unfold maxLen;omega,fun L x a=>by simp at a⟩,oT _ _⟩
 ·have o:=zA f P;have m:j<w.heap.size:=(cq.1 K).1;have k:=AnyQ.slices_SortFunc N 2 C E enc f D b G g #[] j 0 y l.toArray w F (z j 0 l.toArray.size w) o m (by simpa using J);simp only[nw]at k;refine k.m ?_;rintro M i ⟨rfl,a,O,r,h,p,n⟩;have c:a.size=l.length:=by simpa using h.1
  have B:Only (fun d=>d=j) w i:=by rw[n];exact nQ enc 2 w j 0 O a r
  have x:HoldsK enc 2 i j 0 a:=by rw[n];exact holdsK_sortWorldK_c enc 2 w j 0 l.toArray a O r o m (by simpa using h.1)
  have u:a.toList.Perm l:=by
   have e:=h.2.2;have d:a.extract 0 l.length=a:=by simp[<-c]
   have q:l.toArray.extract 0 l.length=l.toArray:=by simp
   rw[d,q]at e;exact e
  have s:=CY f x (by omega) I;rw[c]at s;refine⟨rfl,a.toList,u,List.pairwise_iff_getElem.2 fun L S q d A=>?_,s,B.m (fun L _ M=>by rw[M];rfl)⟩;have:=p L S (dq _) A (by rw[<-c];simpa using d);simp at q d;simpa[q,d]using this
end
def adb(w:World)(v:Value)(s:List (Int×List UInt8)):Prop:=
 ∃A c,v=.slice A s.length c/\s.length<=c/\c<=maxLen/\ ∀i x,s[i]?=some x-> ∃g,A=some ⟨g,0,none⟩/\w.cell? ⟨g,i*2,none⟩=some (rv x.1)/\w.cell? ⟨g,i*2+1,none⟩=some (sd x.2)
def Yb(w:World)(v:Value)(l:List (Int×List UInt8))(e:Ending)(w':World):Prop:=e=.returned (.tuple #[])/\ ∃s,s.Perm l/\s.Pairwise yN/\adb w' v s/\Only (fun k=>v.ownBlock=some k) w w'
theorem Mu(w:World)(base:Nat)(v:Value)(l:List (Int×List UInt8))(h:w.ownsRow base 304 2 v l.length (l.map Vy).flatten)(d:l.Nodup)(p:l.length<=1000000):
  Calls prog 202 #[v,.func (.func 203) #[] #[]] w (Yb w v l):=by
 have b:=FA Tryz.VO (by intro w;kernel_rfl) (by intro w;kernel_rfl) (enc:=Vy) (fun _=>rfl) (fun x v a=>by simp[Vy]at a;rcases a with rfl|rfl<;>rfl) uP ac8 203 (enters_of func203 (by kernel_rfl) rfl) X9 w _ base v l h (by omega);change Calls prog 202 _ _ _ at b;refine b.m ?_;rintro o q ⟨rfl,s,c,f,⟨A,t,i,m,n,e⟩,k⟩;refine⟨rfl,s,c,(f.and (c.nodup_iff.2 d)).imp ?_,⟨A,t,i,m,n,fun r x j=>?_⟩,k⟩
 ·rintro x y ⟨a,g⟩;rw[ltF]at a;rcases yN.total x y with h|h|h
  ·exact h
  ·exact absurd h g
  ·simp at a;exact absurd h a
 ·obtain⟨g,o,a⟩:=e r x j;exact⟨g,o,a 0 _ rfl,a 1 _ rfl⟩
end
section
open Go.RowKit Go.Maps Go.WideShapes
theorem Tryz.Yc:(prog.info? 304).map (fun i=>(i.zero,i.size,i.bytes))=some (some (.agg #[rv 0,.string ⟨#[]⟩]),2,24):=by kernel_rfl
theorem Qp{w:World}{base n c:Nat}{A:Option Addr}{ks:List (List UInt8)}(h:w.ownsRow base 9 1 (.slice A n c) n (ks.map Fy)){j:Nat}{k:List UInt8}(a:ks[j]?=some k): ∃g,A=some ⟨g,0,none⟩/\w.cell? ⟨g,j,none⟩=some (sd k):=by
 have f:=(bd.1 a).1;have i:ks.length=n:=by have:=h.1;simpa using this
 rcases h.2 with⟨e,l⟩|⟨g,b,d,e,_⟩
 ·omega
 ·injection e with e _ _;subst e;exact⟨g,rfl,(h.cellAt j (by omega)).x (by simp[a,Fy])⟩
def Yd(w:World)(e f r:Nat)(g:Value->Option Value)(c:Nat)(lo hi:Int)(wl:nS)(xs:List (Int×List UInt8))(v:Value)(b:World):Prop:=
 ∃d a,nY b e r f g d/\(a++d).Perm (wl.map Prod.fst)/\b.ownsRow w.heap.size 304 2 v (xs++a.filterMap (bF wl c lo hi)).length ((xs++a.filterMap (bF wl c lo hi)).map Vy).flatten/\Below w.heap.size w b
theorem nY.own_ne{w:World}{b r n base:Nat}{g:Value->Option Value}{ks:List (List UInt8)}{e:TypeId}{size m:Nat}{v:Value}{xs:List Value}(h:nY w b r n g ks)(c:w.ownsRow base e size v m xs):v.ownBlock≠some r:=by obtain⟨D,left,d,a,-⟩:=h;exact fun e=>(row_ne_iter c a) e.symm
theorem Ye{wl:nS}{l:az}{c:Nat}{lo hi:Int}{dn e:List (List UInt8)}(d:dK wl)(h:dK l)(b:RowsFit l)(f:(dn++e).Perm (wl.map Prod.fst)):((cO c lo hi l).filterMap (aF wl l c)++dn.filterMap (bF wl c lo hi)).length<=(aY wl l).length:=by have a:=(D3 (c:=c) (lo:=lo) (hi:=hi) d h b f).length_eq;rw[List.filterMap_append]at a;simp only[gk,eS]at a⊢;have g:=List.length_filter_le (DF c lo hi) (aY wl l);omega
theorem IL{l:az}{c:Nat}{lo hi:Int}(h:dK l):((l.filter (DF c lo hi)).map fun q=>(q.2.aL c,q.1)).Nodup:=by unfold List.Nodup;rw[List.pairwise_map];exact List.Pairwise.imp (R:=fun a b:List UInt8×Rw=>a.1<b.1) (fun{a b} h e=>by injection e with _ e;rw[e]at h;exact aM _ h) (h.filter _)
def ade(w:World)(M:Nat)(s:List (Int×List UInt8))(v i:Value)(a:World):Prop:=
 ∃j,j<=M/\i=rv (j:Int)/\a.ownsRow w.heap.size 9 1 v j ((s.take j).map fun x=>Fy x.2)/\Below w.heap.size w a
theorem TZ{j n:Nat}(h:j<n)(a:n<=1024):wrap64 ((j:Int)+1)=((j+1:Nat):Int):=by unfold wrap64;omega
theorem Yf{j n:Nat}(h:j<n)(a:n<=1024):n-(intOf (Value.int IntKind.i64 (wrap64 ((j:Int)+1)))).toNat<n-(intOf (Value.int IntKind.i64 (j:Int))).toNat:=by rw[TZ h a];simp only[intOf,iv];omega
def LtN(a b:Nat):Prop:=a<b
def adf(w:World)(c n:Nat)(A:Option Addr)(b:Nat)(ks:List (List UInt8))(wl:nS)(l:az)(v i:Value)(a:World):Prop:=
 ∃j,j<=n/\i=rv (j:Int)/\a.ownsRow w.heap.size 304 2 v ((ks.take j).filterMap (aF wl l c)).length (((ks.take j).filterMap (aF wl l c)).map Vy).flatten/\a.ownsRow w.heap.size 9 1 (.slice A n b) n (ks.map Fy)/\Below w.heap.size w a
theorem IM(w:World)(B T o:Nat)(most:Int)(l:az)(wl:nS)(FT:Nat->Nat->Prop)(FB:Nat->Prop)(c m:Nat)(lo hi:Int)(u:iC w B T most o l wl FT FB)(k: ∀b q,FT b q->b<w.heap.size)(n:c<4)(j:I6 lo)(e:I6 hi)(h:lo<=hi)(x:m<=1000)
  (y:(aY wl l).length<=1024):Calls prog 166 #[r7 B,rv (c:Int),rv lo,rv hi,rv (m:Int)] w (Bo ((cO c lo hi (aY wl l)).take m) w):=by
 obtain⟨i0,a,d,s,t⟩:=ef Tryz.Yc;have HI:=AN a d s t;obtain⟨i1,g,r,f,p⟩:=ef Tryz.Qn;have HJ:=AN g r f p;clear a d s t g r f p;obtain⟨mb,nb,g,FR,d,-,-,-⟩:=u;have f:=d.blk;have s:w.cell? ⟨B,0,none⟩=some (r7 T):=by simp[World.cell?,f]
 have p:l.length<=1024:=by have:=d.tab.len;have:=d.tab.J3;omega
 have r:=al (yj w T o most l FT c m lo hi d.tab k n j e h (by omega));have a:=B7 d k n j e h x y p f;clear d k n j e h x y p f;go_enter func166,ntmps166;go_wp2_with fail
 go_step3
 go_wp2_with fail;refine r.o.m ?_;rintro e w1 ⟨A0,c0,rfl,-,h⟩;clear r;go_upto_region 6 with fail;have f:=qS h a.o.q.q.2;have z0:w1.cell? ⟨B,0,none⟩=some (r7 T):=by simp[World.cell?,f]
 have C:=al (show ∀W,Below w1.heap.size w1 W->Calls prog 39 #[r7 T] W fun e w'=>e=.returned (rv (l.length:Int))/\W=w' from fun W j=>sZ W T o most l FT ((a.o.1.tab.below h).below j))
 have HF:=al (show ∀W,Below w1.heap.size w1 W->Calls prog 201 #[r7 T,rv (c:Int),rv lo,rv hi,rv (l.length:Int)] W (Bo (cO c lo hi l) W)from fun W j=>by
  obtain⟨-,-,-,E,G,-⟩:=a.o.1.tab;rw[<-gE (zQ (c:=c) (lo:=lo) (hi:=hi) E G)]
  exact yj W T o most l FT c l.length lo hi ((a.o.1.tab.below h).below j) (fun b q d=>by have:=a.o.2.1 b q d;have:=h.size;have:=j.size;omega) a.o.d.1 a.o.t.1 a.o.q.1 a.o.q.2.1 (by have:=a.o.q.q.1;omega))
 have H1:=AI h f;clear h f s;refine pw (S:=(fun W=>Below w1.heap.size w1 W/\W.cell? ⟨B,0,none⟩=some (r7 T))) (by kernel_rfl) ⟨(aw _ _).drew,z0⟩ (fun h=>?_);refine bq [0,1,2,3,4,5,6,7,8,9,10] ?_
 iterate 11 (refine ek (v:=?_) (fun _ ⟨k,p⟩=>?_) h ?_;rotate_left;(go_simp;try rfl);try simp only[xT])
 refine bt ?_;refine bC 11 (fun K j=>?_);go_simp;refine(C.o _ h.1).m ?_;rintro e wn ⟨rfl,rfl⟩
 try go_simp
 refine j.o _ _ (h) ?_;clear j K h;intro h
 try simp only[xT]
 refine bC 12 (fun K j=>?_);go_simp;refine(HF.o _ h.1).m ?_;rintro e wn ⟨A,cp,rfl,f,z⟩;have HO:=al (dF (base':=w.heap.size) f (fun g n=>by have:=(f.lt g n).1;have:=H1.o.1.size;have:=h.1.size;omega));clear f
 try go_simp
 refine j.o _ _ (GQ h z) ?_;clear j K h z;intro h
 try simp only[xT]
 refine bq [13,14,15,16,17] ?_
 iterate 5 (refine ek (v:=?_) (fun _ ⟨k,p⟩=>?_) h ?_;rotate_left;(go_simp;try rfl);try simp only[xT])
 refine bt ?_;refine qe (by kernel_rfl) ?_ _;have x:=al h.1;clear h z0
 rename World=>w2
 have ad:Below w.heap.size w w2:=H1.o.1.x (x.o.m H1.o.1.size);obtain⟨I,j⟩:=rl (cO c lo hi l);rw[j]at HO⊢;obtain⟨n,k⟩:=rl (I.length);rw[k]at HO⊢
 have s: ∀p∈I,∃r,ay p l=some r:=by obtain⟨-,-,-,E,G,-⟩:=a.o.1.tab;intro p J;rw[<-j]at J;obtain⟨r,h,_⟩:=(kg E G).1 J;exact⟨r,(aD E).2 h⟩
 have t: ∀p∈I,1<=p.length/\p.length<=16:=by obtain⟨-,-,-,E,G,rX,-⟩:=a.o.1.tab;intro p J;rw[<-j]at J;obtain⟨r,h,_⟩:=(kg E G).1 J;exact rX _ h
 have y:n<=1024:=by obtain⟨-,-,-,E,G,-⟩:=a.o.1.tab;have:=zQ (c:=c) (lo:=lo) (hi:=hi) E G;rw[j,k]at this;have:=a.o.q.q.1;omega
 have L:=By j k s t y ad;clear j k s t y ad x C HF;go_wp2_with fail
 go_step3
 go_wp2_with fail
 go_loopw [16,66] (fun v i wr=>adf w c n A cp I wl l v i wr) (fun _ i _=>n-(intOf i).toNat)
 case atStart=>exact⟨0,dq _,rfl,ea _ _ _ _,HO.o,L.o.q.2⟩
 case round=>
  obtain⟨j,hj,rfl,f,T3,k⟩:=hrel
  rename World=>wr
  by_cases Q:j<n
  ·have HN:=al (show LtN j n from Q);obtain⟨p,J⟩: ∃p,I[j]?=some p:=⟨_,ao (by rw[L.o.2.1];exact Q)⟩;obtain⟨g0,rfl,zk⟩:=Qp T3 J;have t:=db J;obtain⟨⟨ra,rb,rc,rd⟩,h⟩:=L.o.d.1 p t;have x:=L.o.t.1 p t;have W:=qS k a.o.q.q.2;have z0:wr.cell? ⟨B,0,none⟩=some (r7 T):=by simp[World.cell?,W]
   have z1:wr.cell? ⟨B,1,none⟩=some (.map (some mb)):=by simp[World.cell?,W]
   have N:=a.o.1.only (ri k) (fun u=>u) (fun u=>u) (fun _ _ u=>u) (fun _ _ _ u=>u);have S:=AI N.map (GU (k:=p) (by simp[maxLen];omega));have s:=al (pJ wr T o most l FT p N.tab x);unfold l9 at s;rw[h]at s;have D:=N.wr p
   have aa:(I.take (j+1)).filterMap (aF wl l c)=(I.take j).filterMap (aF wl l c)++(aF wl l c p).toList:=by rw[ir,J,List.filterMap_append];cases hz:aF wl l c p<;>simp[hz]
   have M:=AS aa f T3 k h;clear t x W N aa f T3 k h J;obtain⟨gv,U⟩:=rl (g (sd p));rw[U]at D
   cases d:ay p wl with
   |some x=>
    rw[d]at D
    cases gv with
    |none=>exact D.elim
    |some h=>
     have HA:=al (show aF wl l c p=none by unfold aF;rw[d];rfl);clear D d;go_wp2_with (first|(at_lookup;go_loud (refine fL (key:=sd p) _ rfl _ _ 138 rfl yV underlying138 (Tryz.oM _) rfl S.o.1 rfl S.o.2 h true (by rw[U];rfl) (by rw[U];rfl) ?_))|fail);go_roundw
     case rel=>exact⟨j+1,HN.o,ew _ (TZ HN.o L.o.q.1),by rw[M.o.1,HA.o];simpa using M.o.2.1,M.o.d.1,M.o.t.1⟩
     case measure=>exact Yf HN.o L.o.q.1
   |none=>
    rw[d]at D
    cases gv with
    |some v=>exact D.elim
    |none=>
     have HA:=al (show aF wl l c p=some ((Rw.mk ra rb rc rd).aL c,p) by unfold aF;rw[d,M.o.q];rfl);clear D d;unfold Rw.val at s;go_wp2_with (first|(at_lookup;go_loud (refine fL (key:=sd p) _ rfl _ _ 138 rfl yV underlying138 (Tryz.oM _) rfl S.o.1 rfl S.o.2 (.pointer none) false (by rw[U];rfl) (by rw[U];rfl) ?_))|fail);refine s.o.m ?_;rintro e w3 ⟨rfl,y⟩;clear s;go_upto_region 17 with fail;obtain⟨Z,kw⟩:=rk w3 (sg ra rb rc rd);generalize w3.alloc (sg ra rb rc rd)=C at Z kw⊢
     have ap:C.cell? ⟨w3.heap.size,c,none⟩=some (rv ((Rw.mk ra rb rc rd).aL c)):=by have:=a.o.d.1;rcases(show c=0\/c=1\/c=2\/c=3 by omega)with rfl|rfl|rfl|rfl<;>(unfold World.cell?;rw[kw];rfl)
     obtain⟨t,am⟩:=rl ((Rw.mk ra rb rc rd).aL c);rw[am]at ap HA;have i1:(0:Int)<=(c:Int):=by omega
     have i2:(c:Int)<4:=by have:=a.o.d.1;omega
     have h:Below wr.heap.size wr C:=y.x (Z.m y.size);obtain⟨V,hV⟩:=rl (w3.heap.size);rw[hV]at ap⊢;have Y:=AI h (M.o.t.1.x (h.m M.o.t.1.size));clear kw Z y am hV h;obtain⟨xs,s⟩:=rl ((I.take j).filterMap (aF wl l c))
     have P:xs.length<=1024:=by have H:=List.length_filterMap_le (aF wl l c) (I.take j);rw[s,lk]at H;have:=L.o.q.1;omega
     have z:=af C (tm t p.toArray);have F:=Y.o.1.x (z.m Y.o.1.size);have h:=aQ M.o.2.1 (ri F) (fun _ _ u=>u);have X:=aQ M.o.d.1 (ri F) (fun _ _ u=>u);rw[s]at h;obtain⟨La,O⟩:=rl (xs.length);rw[O]at h P;obtain⟨A1,c1,rfl⟩:=ar h;have y:=BE h X (Y.o.2.x (z.m Y.o.2.size)) (eb (an C (tm t p.toArray))) s O P;have a5:=Y.o.2.size;clear h X z F s O P;go_wp2_with (at_builtin;go_loud (refine ep _ rfl _ _ 302 rfl w.heap.size 304 i0 _ 2 24 underlying302 HI.o.1 HI.o.2.1 HI.o.d.1 HI.o.t rfl (by decide) (.slice A1 La c1) La _ rfl y.o.1 ⟨C.heap.size,0,none⟩ 1 1 [rv t,sd p] rfl rfl y.o.t.1 (by simp[Value.oneCell']) (by decide) (by have:=y.o.q.d;unfold maxLen;omega) (by have:=y.o.q.d;omega) (by simp;omega) _ rfl ?_);intro g2 a1 w7 F C K pU;have HP:=AM F C K;clear F C K pU);have R:=HN.o;have fY:=L.o.q.1;unfold LtN at R;obtain⟨h,X,Mv,-,s,O,P⟩:=y.o;obtain⟨F,C,K⟩:=HP.o;refine⟨⟨j+1,R,ew _ (TZ R fY),?_,?_,?_⟩,Yf R fY⟩
     ·rw[M.o.1,HA.o,s];have:(xs++(some (t,p)).toList).length=La+1:=by simp[O]
      rw[this];simpa[Vy]using F
     ·exact X.kept C (.inr (fun e=>iX X h (by decide) (rfl:Value.ownBlock (.slice (some ⟨g0,0,none⟩) n cp)=some g0) e.symm))
     ·exact Mv.grown C Mv.size (fun q d=>(h.lt q d).1)
  ·have R:j=n:=by omega
   subst R;have aa:I.take j=I:=gE (by rw[L.o.2.1];exact b8 _);rw[aa]at f;obtain⟨xs,s⟩:=rl (I.filterMap (aF wl l c));rw[s]at f;have W:=qS k a.o.q.q.2;have z1:wr.cell? ⟨B,1,none⟩=some (.map (some mb)):=by simp[World.cell?,W]
   have N:=a.o.1.only (ri k) (fun u=>u) (fun u=>u) (fun _ _ u=>u) (fun _ _ _ u=>u);have U:=AN f k s N;clear f T3 k aa s W N Q;go_wp2_with (at_range;go_loud (refine lj _ rfl _ 138 rfl underlying138 rfl U.o.t.map (wl.map Prod.fst) (fun p _=>U.o.t.PC p) (gS U.o.t.up) (fun p J=>by have:=(U.o.t.Tk p J).2;unfold maxLen;omega) ?_);intro N ac M;have s:=AI ac M;clear ac M)
   go_frame
   go_loopw [16] (fun v wy=>Yd w mb nb wr.heap.size g c lo hi wl xs v wy) (fun _ wy=>wy.rangeLeft mb wr.heap.size)
   case atStart=>exact⟨wl.map Prod.fst,[],s.o.1,by simp,by simpa using aQ U.o.1 (ri s.o.2) (fun _ _ u=>u),U.o.2.1.x (s.o.2.m U.o.2.1.size)⟩
   case round=>
    obtain⟨kl,Y,ac,M,f,k⟩:=hrel
    rename World=>wy
    have R:=AN M f k ac;clear M f k;go_wp2_with (at_next;refine qh _ rfl _ rfl rfl ac ?_ ?_)
    ·intro s;subst s;have M:=R.o.1;rw[gr]at M;obtain⟨zs,W⟩:=rl (xs++Y.filterMap (bF wl c lo hi));have E:=a.o.1.tab.up;have G:=a.o.1.tab.fit;have N:=D3 (c:=c) (lo:=lo) (hi:=hi) a.o.1.up E G M;rw[L.o.1,U.o.d.1,W]at N;have X:=cy (wl:=wl) E
     have a0:zs.length<=1024:=by have H:=N.length_eq;rw[eS]at H;have h2:=List.length_filter_le (DF c lo hi) (aY wl l);have:=a.o.q.t.1;omega
     have f:=R.o.2.1;rw[W]at f;have HS:=al (Mu wy w.heap.size u16 zs f (N.nodup_iff.2 (IL X)) (by omega));have a': ∀s:List (Int×List UInt8),s.Perm zs->s.Pairwise yN->s.map Prod.snd=cO c lo hi (aY wl l):=fun s H h2=>NK X (KW a.o.1.up E G a.o.1.fit) h2 (H.x N);have HF:=AM a' a0 f;clear M W E G N X a0 f a' ac;go_wp2_with fail;refine HS.o.m ?_;rintro e w6 ⟨rfl,s,X,hs,⟨A5,c5,rfl,a2,a4,a3⟩,yD⟩;have a0:s.length<=1024:=by rw[X.length_eq];exact HF.o.2.1
     have gW:Below w.heap.size w w6:=R.o.d.1.x (yD.aI R.o.d.1.size (fun q d e=>by have:=(HF.o.d.lt q e).1;omega));obtain⟨N,M⟩:=rl (s.length);have a':=HF.o.1 s X hs;rw[M]at a2 a0⊢;have H6:=BE a' a3 gW M a0 a2 a4;have jT:=a.o.q.d.1;clear X hs a' a3 gW M yD HS;go_wp2_with fail;obtain⟨M,hM⟩:=rl (min m N);have X:min (m:Int) (N:Int)=(M:Int):=by omega
     have e2:max (M:Int) 0=(M:Int):=by omega
     have e3:((M:Int)).toNat=M:=by omega
     rw[X,e2,e3];have S:=AI hM (show M<=1000 from by omega);clear hM X e2 e3
     go_loopw [25,149] (fun v i wy=>ade w6 M s v i wy) (fun _ i _=>M-(intOf i).toNat)
     case atStart=>exact⟨0,dq _,rfl,ea _ _ _ _,aw _ _⟩
     case round=>
      obtain⟨i,a',rfl,f,k⟩:=hrel
      rename World=>wz
      by_cases Q:i<M
      ·have HN:=al (show LtN i M from Q);obtain⟨⟨t,p⟩,hx⟩: ∃x,s[i]?=some x:=⟨_,ao (by rw[H6.o.t.1];have:=S.o.1;omega)⟩;obtain⟨g5,rfl,y0,y1⟩:=H6.o.2.1 i _ hx;have t0:wz.cell? ⟨g5,i*2,none⟩=some (rv t):=(k.cell (aq _ _ y0)).x y0;have t1:wz.cell? ⟨g5,i*2+1,none⟩=some (sd p):=(k.cell (aq _ _ y1)).x y1;have X:=AM hx f k;clear hx f k y0 y1;go_upto_region 29 with fail;obtain⟨Z,kw⟩:=rk wz (tm t p.toArray);generalize wz.alloc (tm t p.toArray)=w8 at Z kw⊢;obtain⟨V,hV⟩:=rl (wz.heap.size);rw[hV]at kw⊢;have t2:w8.cell? ⟨V,1,none⟩=some (sd p):=by simp[World.cell?,kw]
       have z:=af w8 (uc p.toArray);have G3:=Z.x (z.m Z.size);have h:=aQ X.o.2.1 (ri G3) (fun _ _ u=>u);obtain⟨A7,c7,rfl⟩:=ar h;have Qr:=X.o.d.x (G3.m X.o.d.size);have y:=AS h (eb (an w8 (uc p.toArray))) Qr Q S.o.2;have a3:w6.heap.size<=w8.heap.size:=dp X.o.d.size Z.size;clear h z G3 Qr Z kw hV;go_wp2_with (at_builtin;go_loud (refine ep _ rfl _ _ 122 rfl w6.heap.size 9 i1 _ 1 16 underlying122 HJ.o.1 HJ.o.2.1 HJ.o.d.1 HJ.o.t rfl (by decide) (.slice A7 i c7) i _ rfl y.o.1 ⟨w8.heap.size,0,none⟩ 1 1 [sd p] rfl rfl y.o.2.1 (by simp[Value.oneCell']) (by decide) (by have:=y.o.q;unfold maxLen;omega) (by have:=y.o.q;omega) (by simp;omega) _ rfl ?_);intro g2 a1 w7 F C K pU;have HP:=AM F C K;clear F C K pU);have fY:=S.o.2;have Z:=HN.o;unfold LtN at Z;obtain⟨h,-,Qr,-⟩:=y.o;obtain⟨F,C,K⟩:=HP.o;refine⟨⟨i+1,Z,ew _ (TZ Z (by omega)),?_,Qr.grown C Qr.size (fun q d=>(h.lt q d).1)⟩,Yf Z (by omega)⟩;rw[ir,X.o.1,ix];simpa[Fy]using F
      ·have Z:i=M:=by omega
       subst Z;obtain⟨A7,c7,rfl⟩:=ar f;have X:=AI f k;clear f k;go_wp2_with fail;rw[fs]
       go_ret2
       have aa:(cO c lo hi (aY wl l)).take m=(s.take i).map Prod.snd:=by
        rw[<-H6.o.1,<-mc];congr 1;have H:=S.o.1;have h2:=H6.o.t.1;by_cases f:m<=N
        ·rw[show m=i by omega]
        ·rw[gE (by omega),gE (by omega)]
       have f:((s.take i).map Prod.snd).length=i:=by rw[eS,lk];have H:=S.o.1;have h2:=H6.o.t.1;omega
       refine⟨A7,c7,?_,?_,H6.o.d.1.x (X.o.2.m H6.o.d.1.size)⟩
       ·rw[aa,f];rfl
       ·rw[aa,f,List.map_map];exact dF X.o.1 (fun q d=>dp H6.o.d.1.size (X.o.1.lt q d).1)
    ·intro M N p v w2 tC C9 X Q S zb a4;have k:=R.o.d.1;have a2:=U.o.2.1.size;have ad:Below w.heap.size w w2:=k.x (S.aI k.size (fun j hj e=>by omega));have a0:=a.o.1.only (ri ad) (fun u=>u) (fun u=>u) (fun _ _ u=>u) (fun _ _ _ u=>u);have D:=a0.wr p;rw[C9]at D;have V:=aQ R.o.2.1 S (fun q d e=>(R.o.t.own_ne R.o.2.1) (by rw[d,e]))
     have Yi:((Y++[p])++(M++N)).Perm (wl.map Prod.fst):=by have H:=R.o.1;rw[tC]at H;refine List.Perm.x ?_ H;simpa using List.Perm.append_left Y (List.perm_middle (a:=p) (l₁:=M) (l₂:=N)).symm
     have Z:(xs++Y.filterMap (bF wl c lo hi)).length<=1024:=by obtain⟨-,-,-,E,G,-⟩:=a.o.1.tab;have H:=Ye (c:=c) (lo:=lo) (hi:=hi) a.o.1.up E G R.o.1;rw[L.o.1,U.o.d.1]at H;have:=a.o.q.t.1;omega
     have a': ¬mb=wr.heap.size:=fun e=>by have:=a.o.1.map.lt;omega
     cases d:ay p wl with
     |none=>rw[d]at D;exact D.elim
     |some x=>
      rw[d]at D;have f:=BE X Q ad V Yi Z a'
      cases x with
      |none=>obtain rfl:=D.1;have x:=al (show bF wl c lo hi p=none by unfold bF;rw[d]);clear d D a0 k a2 ad V Yi Z a' tC ac X Q S zb C9;go_wp2_with fail;exact⟨⟨M++N,Y++[p],f.o.1,f.o.q.1,by rw[List.filterMap_append];simpa[x.o]using f.o.t.1,f.o.d.1⟩,f.o.2.1⟩
      |some r=>
       obtain⟨⟨b,rfl,p9⟩,Ri⟩:=D;obtain⟨ra,rb,rc,rd⟩:=r;have a3:=a.o.d.1
       have ap:w2.cell? ⟨b,c,none⟩=some (rv ((Rw.mk ra rb rc rd).aL c)):=by rcases(show c=0\/c=1\/c=2\/c=3 by omega)with rfl|rfl|rfl|rfl<;>(unfold World.cell?;rw[p9];rfl)
       obtain⟨t,am⟩:=rl ((Rw.mk ra rb rc rd).aL c);have s:bF wl c lo hi p=if lo<=t/\t<=hi then some (t,p)else none:=by unfold bF;rw[d];simp only[am]
       rw[am]at ap;have i1:(0:Int)<=(c:Int):=by omega
       have i2:(c:Int)<4:=by omega
       clear d a0 k a2 ad V Yi Z a' tC ac X Q S zb C9 am p9 Ri a3;by_cases Z:lo<=t
       ·by_cases q2:t<=hi
        ·rw[fi ⟨Z,q2⟩]at s;have x:=al s;clear s;obtain⟨zs,W⟩:=rl (xs++Y.filterMap (bF wl c lo hi));have z:=af w2 (tm t p.toArray);have h:=aQ f.o.t.1 (ri z) (fun _ _ u=>u);have P:=f.o.q.2.1;rw[W]at h P;obtain⟨La,O⟩:=rl (zs.length);rw[O]at h P;obtain⟨A1,c1,rfl⟩:=ar h;have k:=f.o.d.1.x (z.m f.o.d.1.size);have y:=BE h (eb (an w2 (tm t p.toArray))) W O P z k;have a5:=f.o.d.1.size;clear h z W O P k;go_wp2_with (at_builtin;go_loud (refine ep _ rfl _ _ 302 rfl w.heap.size 304 i0 _ 2 24 underlying302 HI.o.1 HI.o.2.1 HI.o.d.1 HI.o.t rfl (by decide) (.slice A1 La c1) La _ rfl y.o.1 ⟨w2.heap.size,0,none⟩ 1 1 [rv t,sd p] rfl rfl y.o.2.1 (by simp[Value.oneCell']) (by decide) (by have:=y.o.q.1;unfold maxLen;omega) (by have:=y.o.q.1;omega) (by simp;omega) _ rfl ?_);intro g2 a1 w7 F C K pU;have HP:=AM F C K;clear F C K pU);obtain⟨h,-,W,O,P,z,k⟩:=y.o;obtain⟨F,C,K⟩:=HP.o;have Q:=f.o.1.only (ri z) (fun u=>u) (fun u=>u);have S:=Only.of_grownBy C;have V: ¬(Value.slice A1 La c1).ownBlock=some mb:=fun e=>by have:=(h.lt mb e).1;have:=a.o.1.map.lt;omega
         have X: ¬(Value.slice A1 La c1).ownBlock=some wr.heap.size:=Q.own_ne h;refine⟨⟨M++N,Y++[p],Q.only S V X,f.o.q.1,?_,k.grown C k.size (fun q d=>(h.lt q d).1)⟩,?_⟩
         ·rw[List.filterMap_append,<-lz,W,show[p].filterMap (bF wl c lo hi)=[(t,p)] by simp[x.o],show(zs++[(t,p)]).length=La+1 by simp[O]];simpa[Vy]using F
         ·rw[Q.left S V X,f.o.1.left (ri z) (fun u=>u) (fun u=>u)];exact f.o.2.1
        ·rw[ff (fun u=>q2 u.2)]at s;have x:=al s;clear s;go_wp2_with fail;exact⟨⟨M++N,Y++[p],f.o.1,f.o.q.1,by rw[List.filterMap_append];simpa[x.o]using f.o.t.1,f.o.d.1⟩,f.o.2.1⟩
       ·rw[ff (fun u=>Z u.1)]at s;have x:=al s;clear s;go_wp2_with fail;exact⟨⟨M++N,Y++[p],f.o.1,f.o.q.1,by rw[List.filterMap_append];simpa[x.o]using f.o.t.1,f.o.d.1⟩,f.o.2.1⟩
end
end Go.Proofs.YtehccbdajiiaaaaGreatDoor
