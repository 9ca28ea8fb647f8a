import Derived.Test.YtehccbdajiiaaaaGreatDoorS01
import Derived.Test.YtehccbdajiiaaaaGreatDoorS03
import Derived.Test.YtehccbdajiiaaaaGreatDoorProg
import Derived.Deep.CutRange
import Derived.Deep.SlicePairs
namespace Go.Proofs.YtehccbdajiiaaaaGreatDoor
open Go.Proofs.Tryz
set_option maxRecDepth 100000
set_option maxHeartbeats 16000000
open Go.RowKit
def ll(w:World)(T:Nat)(n:Int):Prop:=
 ∃N,w.heap[T]?=some (sv n 0 N)/\w.heap[N]?=some ta
theorem ae(w:World)(o:Obj):Below w.heap.size w (w.alloc o):=(bd _ _).alloc (b8 _) _
theorem ll.only{w w':World}{S:Nat->Prop}{T:Nat}{n:Int}(h:ll w T n)(d:Only S w w')(c: ∀k a t,S k->w.heap[k]?=some (.cells a t (0,0))->t≠175/\t≠173):ll w' T n:=by obtain⟨N,e,b⟩:=h;exact⟨N,d.heap e (fun a=>(c _ _ _ a e).1 rfl),d.heap b (fun a=>(c _ _ _ a b).2 rfl)⟩
theorem ll.below{w w':World}{T:Nat}{n:Int}(h:ll w T n)(a:Below w.heap.size w w'):ll w' T n:=by obtain⟨N,b,c⟩:=h;exact⟨N,qt a b,qt a c⟩
theorem Hu(w:World)(n:Int)(i:2<=n)(h:n<=16):Calls prog 43 #[rm n] w fun e w'=>
  ∃T,e=.returned (.tuple #[rv T,rm 0])/\w.heap.size<=T/\ll w' T n/\Below w.heap.size w w':=by
 obtain⟨d,b⟩:=rj w ta;obtain⟨a,c⟩:=rj (w.alloc ta) (sv n 0 w.heap.size)
 have H:=al (show ∃T,T=w.heap.size+1/\w.heap.size<=T/\ll ((w.alloc ta).alloc (sv n 0 w.heap.size)) T n/\Below w.heap.size w ((w.alloc ta).alloc (sv n 0 w.heap.size))from
  ⟨_,rfl,by omega,⟨w.heap.size,by simpa using c,qt a b⟩,d.x (a.m (by simp))⟩)
 have g: ¬n<2:=by omega
 have f: ¬16<n:=by omega
 clear d b a c;go_enter func43,ntmps43;go_wp2
 go_ret2
 obtain⟨T,e,c,a,b⟩:=H.o;subst e;exact⟨_,rfl,c,a,b⟩
def tG(w:World)(T:Nat)(most n:Int)(L:Nat):Prop:=
 ∃d b e c a:Nat,w.heap[T]?=some (.cells #[rm most,rv d,rv b,rv e,rv c,rv a] 116 (0,0))/\
  (L<=d/\ll w d n)/\(L<=b/\ll w b n)/\(L<=e/\ll w e n)/\(L<=c/\ll w c n)/\(L<=a/\ll w a n)
def Trees(w a:World)(T:Nat)(most n:Int)(k:Nat):Prop:=
 ∃b:Array Value,a.heap[T]?=some (.cells b 116 (0,0))/\b.size=6/\b[0]?=some (rm most)/\T<a.heap.size/\Below w.heap.size w a/\w.heap.size<=T/\
  ∀j,j<k-> ∃t,b[j+1]?=some (rv t)/\w.heap.size<=t/\ll a t n
theorem Trees.more{w a w':World}{T t:Nat}{most n:Int}{k:Nat}(e:Trees w a T most n k)(b:k<5)(c:Below a.heap.size a w')(m:a.heap.size<=t)(p:ll w' t n):Trees w (w'.setCell ⟨T,k+1,none⟩ (rv t)) T most n (k+1):=by
 obtain⟨o,a,j,q,l,d,h,r⟩:=e;have g:=qt c a;have e:=Only.aR w' T (k+1) (rv t)
 have i: ∀s f a,s=T->w'.heap[s]?=some (.cells f a (0,0))->a≠175/\a≠173:=by rintro s f a rfl b;rw[g]at b;injection b with b;injection b with _ b;subst b;exact⟨by decide,by decide⟩
 refine⟨o.setIfInBounds (k+1) (rv t),by simp[World.setCell,Array.getElem?_modify,g],by simpa using j,?_,da l (dd c.size e.size),(d.x (c.m d.size)).setCell (p:=⟨T,k+1,none⟩) h _,h,fun j b=>?_⟩
 ·rw[gd,fb (by omega)];exact q
 ·by_cases b:j=k
  ·subst b;refine⟨t,?_,dd d.size m,p.only e i⟩;rw[gd,ff rfl,ff (by omega)]
  ·obtain⟨a,d,b,f⟩:=r j (by omega);refine⟨a,?_,b,(f.below c).only e i⟩;rw[gd,fb (by omega)];exact d
theorem Trees.all{w a:World}{T:Nat}{most n:Int}(h:Trees w a T most n 5):tG a T most n w.heap.size:=by
 obtain⟨⟨l⟩,p,b,g,c,d,e,a⟩:=h
 match l,b with
 |[c0,c1,c2,c3,c4,c5],_=>obtain⟨v,c,x,k⟩:=a 0 (by decide);obtain⟨j,e,m,h⟩:=a 1 (by decide);obtain⟨s,b,q,i⟩:=a 2 (by decide);obtain⟨r,f,y,o⟩:=a 3 (by decide);obtain⟨t,d,l,u⟩:=a 4 (by decide);simp at g c e b f d;subst g c e b f d;exact⟨v,j,s,r,t,p,⟨x,k⟩,⟨m,h⟩,⟨q,i⟩,⟨y,o⟩,⟨l,u⟩⟩
theorem EK(w:World)(most n:Int)(h1:1<=most)(h2:most<=1024)(h3:2<=n)(h4:n<=16):Calls prog 18 #[rm most,rm n] w fun e w'=>
  ∃T,e=.returned (.tuple #[rv T,rm 0])/\w.heap.size<=T/\tG w' T most n w.heap.size/\Below w.heap.size w w':=by
 obtain⟨hb0,k0⟩:=rj w (sz most);have m1: ¬most<1:=by omega
 have m2: ¬1024<most:=by omega
 have HN:=AD h3 h4;go_enter func18,ntmps18;go_upto_region 4 with fail;generalize w.alloc (sz most)=w1 at hb0 k0⊢;obtain⟨T,hT⟩:=rk (w.heap.size);rw[hT]at k0⊢;have HS:=al (show Trees w w1 T most n 0 from⟨_,k0,rfl,rfl,(cq.1 k0).1,hb0,by omega,fun j hj=>by omega⟩);clear hb0 k0 hT;go_wp2_with fail
 go_loopw [19] (fun i wr=> ∃k:Nat,k<=5/\i=rm (k:Int)/\Trees w wr T most n k) (fun i _=>5-(intOf i).toNat)
 case atStart=>exact⟨0,by decide,rfl,HS.o⟩
 case round=>
  obtain⟨k,hk,rfl,hR⟩:=hrel;by_cases hlt:k<5
  ·have HR:=al hR;have HC:=al (Hu wr n HN.o.1 HN.o.2);clear hR;go_wp2_with fail;refine HC.o.m ?_;rintro e w2 ⟨t,rfl,ht,hE,hb⟩;have hM:=HR.o.more hlt hb ht hE;obtain⟨cs,q1,q2,_⟩:=HR.o;have q1':=qt hb q1;obtain⟨cv,hcv⟩: ∃v,cs[k+1]?=some v:=⟨_,fl (by omega)⟩;have z0:w2.cell? ⟨T,1+k,none⟩=some cv:=by rw[Nat.add_comm 1 k];simp[World.cell?,q1',hcv]
   have z1:w2.frozen? ⟨T,1+k,none⟩=false:=by simp[World.frozen?,q1']
   have i1:(0:Int)<=(k:Int):=by omega
   have i2:(k:Int)<5:=by omega
   have HM:=al hM;clear hM q1 q1' q2 hcv ht hE hb HC;go_wp2_with fail;go_roundw
   case rel=>exact⟨k+1,by omega,by go_num,by rw[Nat.add_comm 1 k];exact HM.o⟩
   case measure=>simp[intOf];omega
  ·obtain rfl:k=5:=by omega
   have HR:=al hR;clear hR;go_wp2_with fail
   go_ret2
   obtain⟨cs,q1,q2,q3,q4,q5,q6,q7⟩:=id HR.o;exact⟨T,rfl,q6,HR.o.all,q5⟩
theorem nD(w:World)(T:Nat)(s:ByteArray)(d:1<=s.size)(c:s.size<=64):Calls prog 171 #[rv T,.string s] w fun e w'=>e=.returned (rm 0)/\w'=w:=by
 have a: ¬(s.size:Int)<1:=by omega
 have b: ¬(64:Int)<(s.size:Int):=by omega
 go_enter func171,ntmps171;go_wp2;go_ret
 exact⟨rfl,rfl⟩
def Ki(e:TypeId)(xs:List Value)(w:World)(a:Ending)(w':World):Prop:=
 ∃A c,a=.returned (.slice A xs.length c)/\w'.ownsRow w.heap.size e 1 (.slice A xs.length c) xs.length xs/\Below w.heap.size w w'
theorem Tryz.OT:(prog.info? 5).map (fun i=>(i.zero,i.size,i.bytes))=some (some (.int .u8 0),1,1):=by kernel_rfl
theorem Tryz.OU:(prog.info? 53).map (fun i=>(i.zero,i.size,i.bytes))=some (some (.slice none 0 0),1,24):=by kernel_rfl
theorem jz(v:Value)(xs:List Value)(F:Nat->Prop)(w:World)(b:Rd w F v xs)(m: ∀u∈xs,u.oneCell'=true)(z:xs.length<=140737488355328):
  Calls prog 46 #[v] w (Ki 5 xs w):=by
 obtain⟨q,l,h,i,j⟩:=eh Tryz.OT;have f:=b;obtain⟨A,s,t,rfl,c,y,x,a⟩:=f;have u:=fun w=>Lib.run_eql_slice_nil (P:=prog) w 53 5 A s t 0 0 underlying53;have r:=al a;have n:=al c;clear a c;rcases A with _|B
 ·go_enter func46,ntmps46
  go_wp2
  go_ret
  have:xs=[]:=by
   rcases Nat.eq_zero_or_pos s with a|a
   ·exact de (by rw[n.o,a])
   ·obtain⟨_,_,c,_⟩:=r.o a;cases c
  subst this;exact⟨none,0,rfl,dy _ _ _ _,bd _ _⟩
 ·have g:Rd (w.alloc (.cells #[] 5)) F (.slice (some B) s t) xs:=b.below ((bd _ _).alloc (b8 _) _);have e:=World.ownsRow_made (e:=5) (base:=w.heap.size) (size:=1) w #[] 0 (b8 _) (by simp[maxLen]) rfl;have d:(0+xs.length)*1<=140737488355328:=by omega
  have a:0+xs.length<=maxLen:=by simp only[maxLen];omega
  have c:w.heap.size<=(w.alloc (.cells #[] 5)).heap.size:=by simp
  have C:=AF d a c;clear d a c;go_enter func46,ntmps46;go_wp2_with (at_builtin;go_loud (refine ja _ rfl _ _ 53 rfl w.heap.size 5 q (.int .u8 0) 1 underlying53 l h i j rfl _ 0 [] rfl e F _ xs rfl g m C.o.1 C.o.2.1 C.o.d ?_);intro o d a c _);go_ret
  simp only[ie,fj]at a;obtain⟨d,p,o⟩:=ai a;rw[o]at a⊢;exact⟨d,p,rfl,a,((bd _ _).alloc (b8 _) _).grown c (by simp) (fun k c=>by have a:some w.heap.size=some k:=c;injection a with a;omega)⟩
theorem Hv(v:Value)(xs:List Value)(F:Nat->Prop)(w:World)(b:Rd w F v xs)(m: ∀u∈xs,u.oneCell'=true)(z:xs.length*24<=140737488355328):
  Calls prog 54 #[v] w (Ki 53 xs w):=by
 obtain⟨q,l,h,i,j⟩:=eh Tryz.OU;have f:=b;obtain⟨A,s,t,rfl,c,y,x,a⟩:=f;have u:=fun w=>Lib.run_eql_slice_nil (P:=prog) w 22 53 A s t 0 0 underlying22;have r:=al a;have n:=al c;clear a c;rcases A with _|B
 ·go_enter func54,ntmps54
  go_wp2
  go_ret
  have:xs=[]:=by
   rcases Nat.eq_zero_or_pos s with a|a
   ·exact de (by rw[n.o,a])
   ·obtain⟨_,_,c,_⟩:=r.o a;cases c
  subst this;exact⟨none,0,rfl,dy _ _ _ _,bd _ _⟩
 ·have g:Rd (w.alloc (.cells #[] 53)) F (.slice (some B) s t) xs:=b.below ((bd _ _).alloc (b8 _) _);have e:=World.ownsRow_made (e:=53) (base:=w.heap.size) (size:=1) w #[] 0 (b8 _) (by simp[maxLen]) rfl;have d:(0+xs.length)*24<=140737488355328:=by omega
  have a:0+xs.length<=maxLen:=by simp only[maxLen];omega
  have c:w.heap.size<=(w.alloc (.cells #[] 53)).heap.size:=by simp
  have C:=AF d a c;clear d a c;go_enter func54,ntmps54;go_wp2_with (at_builtin;go_loud (refine ja _ rfl _ _ 22 rfl w.heap.size 53 q (.slice none 0 0) 24 underlying22 l h i j rfl _ 0 [] rfl e F _ xs rfl g m C.o.1 C.o.2.1 C.o.d ?_);intro o d a c _);go_ret
  simp only[ie,fj]at a;obtain⟨d,p,o⟩:=ai a;rw[o]at a⊢;exact⟨d,p,rfl,a,((bd _ _).alloc (b8 _) _).grown c (by simp) (fun k c=>by have a:some w.heap.size=some k:=c;injection a with a;omega)⟩
def bI(k:Nat)(w:World)(F:Nat->Prop)(v:Value)(xs:List (List Value)):Prop:=
 ∃(A:Option Addr) (n c:Nat),v=.slice A n c/\xs.length=n/\n<=c/\c<=maxLen/\
  (0<n-> ∃b o,A=some ⟨b,o,none⟩/\F b/\ ∀i x,xs[i]?=some x-> ∀j u,x[j]?=some u->w.cell? ⟨b,o+(i*k+j),none⟩=some u)
section
variable{k:Nat}{F G S:Nat->Prop}{w w':World}{v:Value}{xs:List (List Value)}
theorem bI.mono(i:bI k w F v xs)(a: ∀k,F k->G k):bI k w G v xs:=by obtain⟨A,n,j,f,g,c,d,h⟩:=i;exact⟨A,n,j,f,g,c,d,fun c=>let⟨b,o,e,hb,hu⟩:=h c;⟨b,o,e,a b hb,hu⟩⟩
abbrev bI.m:=@bI.mono
theorem bI.only(j:bI k w F v xs)(g:Only S w w')(d: ∀k,F k-> ¬S k):bI k w' F v xs:=by obtain⟨A,n,l,h,i,c,f,a⟩:=j;exact⟨A,n,l,h,i,c,f,fun c=>let⟨b,o,e,hb,hu⟩:=a c;⟨b,o,e,hb,fun i x a j u c=>g.cell (hu i x a j u c) (d b hb)⟩⟩
theorem bI.below(h:bI k w F v xs)(a:Below w.heap.size w w'):bI k w' F v xs:=h.only (oB a fun _=>False) (fun _ _=>id)
theorem bI.nil(k:Nat)(w:World)(F:Nat->Prop):bI k w F (.slice none 0 0) []:=⟨none,0,0,rfl,rfl,b8 _,by simp[maxLen],fun h=>absurd h (by omega)⟩
theorem jX(c: ∀x∈xs,x.length=k): ∀(i:Nat) (x:List Value),xs[i]?=some x-> ∀(j:Nat) (u:Value),x[j]?=some u->xs.flatten[i*k+j]?=some u:=by
 induction xs with
 |nil=>intro i x a;simp at a
 |cons y b e=>
  intro i x a j u b;have d:=c y (by simp)
  cases i with
  |zero=>simp at a;subst a;rw[List.flatten_cons,lk (by have:=(List.getElem?_eq_some_iff.1 b).1;omega)];simpa using b
  |succ i=>have f:=e (fun z e=>c z (by simp[e])) i x (by simpa using a) j u b;rw[List.flatten_cons,iv (by rw[d,lr];omega)];rw[<-f];congr 1;rw[d,lr];omega
theorem rR(a: ∀x∈xs,x.length=k):xs.flatten.length=xs.length*k:=by
 induction xs with
 |nil=>simp
 |cons y c b=>rw[List.flatten_cons,gr,b (fun z b=>a z (by simp[b])),a y (by simp),gn,lr];omega
theorem bI.bO{base:Nat}{e:TypeId}{n:Nat}(p:w.ownsRow base e k v n xs.flatten)(a: ∀x∈xs,x.length=k)(i:0<k)(l: ∀g,v.ownBlock=some g->F g):bI k w F v xs:=by
 have c:xs.length=n:=by have b:=p.1;rw[rR a]at b;exact Nat.eq_of_mul_eq_mul_right i b
 rcases p.2 with⟨rfl,rfl⟩|⟨g,r,q,rfl,_,t,m,o,y,s⟩
 ·have:xs=[]:=de c;subst this;exact bI.nil k w F
 ·refine⟨_,_,_,rfl,c,m,o,fun _=>⟨g,0,rfl,l g rfl,fun A x h z u j=>?_⟩⟩;have f:=jX a A x h z u j;have:=p.cells (g:=g) rfl _ u f;unfold Addr.add at this;split at this
  ·rename_i d;rw[d];simpa using this
  ·simpa using this
theorem bI.flat(N:bI k w F v xs)(e: ∀M∈xs,M.length=k)(o:0<k): ∀C D E,v=.slice C D E-> ∀B,C=some B-> ∀j A,xs.flatten[j]?=some A->w.cell? (B.add j)=some A:=by
 obtain⟨I,n,K,q,y,L,J,r⟩:=N;intro C D E l B t j A m;rw[q]at l;injection l with s u a;subst s;subst u;subst a;have d:=(aw.1 m).1;rw[rR e]at d
 have p:0<n:=by
  rcases Nat.eq_zero_or_pos n with b|b
  ·rw[y,b]at d;omega
  ·exact b
 obtain⟨O,P,z,_,x⟩:=r p;rw[t]at z;injection z with z;subst z;have i:j/k<xs.length:=(Nat.div_lt_iff_lt_mul o).2 d;have g:xs[j/k]?=some xs[j/k]:=ao i;have G:=e _ (List.getElem_mem i);have H:j%k<k:=Nat.mod_lt _ o;have f:(xs[j/k])[j%k]?=some ((xs[j/k])[j%k]'(by omega)):=ao (by omega);have a:=jX e _ _ g _ _ f;have h:j/k*k+j%k=j:=by rw[Nat.mul_comm];exact Nat.div_add_mod j k
 rw[h,m]at a;injection a with a;have c:=x _ _ g _ _ f;rw[h,<-a]at c;unfold Addr.add;split
 ·rename_i b;rw[b]at c;simpa using c
 ·simpa using c
end
section
variable{P:Program}(w:World)
theorem ln(base:Nat)(t d e:TypeId)(i:TypeInfo)(D:Value)(k b:Nat)(j:P.underlying t=some (.slice e))(hi:P.info? e=some i)(B:i.zero=some D)
  (p:i.size=k) (y:i.bytes=b) (u:D.cells.size=k) (l:0<k)
  (v:Value) (n:Nat) (xs:List Value) (c:w.ownsRow base e k v n xs) (F:Nat->Prop) (x:Value) (news:List (List Value)) (f:bI k w F x news) (h: ∀a∈news,a.length=k) (z: ∀a∈news.flatten,a.oneCell'=true)
  (m:(n+news.length)*b<=140737488355328) (s:n+news.length<=maxLen) (o:base<=w.heap.size):
  ∃a w',(Builtin.append_ #[t,t] d #[v,x]).run P w=.ok a w'/\w'.ownsRow base e k a (n+news.length) (xs++news.flatten)/\w.grownBy w' v.ownBlock/\
   (a.ownBlock=v.ownBlock\/a.ownBlock=some w.heap.size):=by
 have r:=f.flat h l;obtain⟨G,H,E,rfl,g,C,q,A⟩:=f;subst g;rcases G with _|g
 ·have q:news.length=0:=by
   rcases Nat.eq_zero_or_pos news.length with f|f
   ·exact f
   ·obtain⟨G,H,C,_⟩:=A f;cases C
  have f:news=[]:=de q;subst f;exact⟨v,w,l7 w base t d e i k j hi v n xs c E,by simpa using c,World.grownBy.refl w _,.inl rfl⟩
 ·obtain⟨a,w',f,A,C,_,q⟩:=run_append_own_at (P:=P) w base t d e i D k b j hi B p y u l v n xs c g news.length E news.flatten (rR h) (r _ _ _ rfl g rfl) z s m o;exact⟨a,w',f,A,C,q⟩
theorem eA{ops:Array Oper}{f:List Oper}{o:Oper}{a:Act}{Q:Exit->Act->World->Prop}(m:o.guard=none)(s x:Operand)(t:TypeId)
  (C:o.op=.call {callee:=.builtin .append,args:= #[s,x],argTypes:= #[t,t]})
  (base:Nat) (e:TypeId) (i:TypeInfo) (K:Value) (k c:Nat) (H:P.underlying t=some (.slice e)) (hi:P.info? e=some i) (D:i.zero=some K)
  (j:i.size=k) (r:i.bytes=c) (q:K.cells.size=k) (I:0<k)
  (v:Value) (n:Nat) (xs:List Value) (u:a.eval s=v) (l:w.ownsRow base e k v n xs) (F:Nat->Prop) (d:Value) (news:List (List Value)) (z:a.eval x=d) (A:bI k w F d news) (G: ∀y∈news,y.length=k) (y: ∀b∈news.flatten,b.oneCell'=true)
  (g:(n+news.length)*c<=140737488355328) (p:n+news.length<=maxLen) (h:base<=w.heap.size)
  (L: ∀b w',w'.ownsRow base e k b (n+news.length) (xs++news.flatten)->w.grownBy w' v.ownBlock->(b.ownBlock=v.ownBlock\/b.ownBlock=some w.heap.size)->wpList P ops Q f (a.put o.dst b) w'):wpList P ops Q (o::f) a w:=
 wpList_plain m fun f B=>by obtain⟨b,w',f,E,J,m⟩:=ln (P:=P) w base t o.type e i K k c H hi D j r q I v n xs l F d news A G y g p h;unfold Oper.wp execOp;simp only[C,resolve,invoke,builtin,Sem.run_bind,Sem.run_pure,Result.andThen_ok,List.map_toArray,kt,kb,u,z,f];exact B _ _ (L b w' E J m)
end
structure Cl where
 wr:Bool
 aO:Int
 key:List UInt8
 lo:Int
 hi:Int
deriving DecidableEq
def Cl.cells(c:Cl):List Value:=[.bool c.wr,rm c.aO,r7 c.key,rm c.lo,rm c.hi]
def Cl.val(c:Cl):Value:=.agg #[.bool c.wr,rm c.aO,r7 c.key,rm c.lo,rm c.hi]
def lq(n:Int):Prop:= -9223372036854775808<=n/\n<=9223372036854775807
def Cl.fits(c:Cl):Prop:=lq c.aO/\lq c.lo/\lq c.hi/\c.key.length<=maxLen
def mC(x:Int×Int):List Value:=[rm x.1,rm x.2]
def mQ(w:World)(F:Nat->Prop)(v:Value)(l:List (Int×Int)):Prop:=bI 2 w F v (l.map mC)
def eI(w:World)(F:Nat->Prop)(v:Value)(l:List Cl):Prop:=bI 5 w F v (l.map Cl.cells)
theorem l9(l:List (Int×Int)): ∀x∈l.map mC,x.length=2:=by intro x a;obtain⟨y,_,rfl⟩:=ep.1 a;rfl
theorem dK(l:List Cl): ∀x∈l.map Cl.cells,x.length=5:=by intro x a;obtain⟨y,_,rfl⟩:=ep.1 a;rfl
theorem mQ.at_{w:World}{F:Nat->Prop}{A:Option Addr}{n c:Nat}{l:List (Int×Int)}(j:mQ w F (.slice A n c) l){k:Nat}{x:Int×Int}(a:l[k]?=some x):
  ∃d o,A=some ⟨d,o,none⟩/\F d/\w.cell? ⟨d,o+k*2,none⟩=some (rm x.1)/\w.cell? ⟨d,o+k*2+1,none⟩=some (rm x.2):=by
 obtain⟨f,i,g,b,h,_,_,e⟩:=j;injection b with f b g;subst f b g;have b:=(aw.1 a).1;obtain⟨d,o,rfl,f,b⟩:=e (by simp at h;omega);exact⟨d,o,rfl,f,b k (mC x) (by simp[a]) 0 _ rfl,b k (mC x) (by simp[a]) 1 _ rfl⟩
theorem eI.at_{w:World}{F:Nat->Prop}{A:Option Addr}{n c:Nat}{l:List Cl}(j:eI w F (.slice A n c) l){k:Nat}{x:Cl}(e:l[k]?=some x):
  ∃d o,A=some ⟨d,o,none⟩/\F d/\w.cell? ⟨d,o+k*5,none⟩=some (.bool x.wr)/\w.cell? ⟨d,o+k*5+1,none⟩=some (rm x.aO)/\w.cell? ⟨d,o+k*5+2,none⟩=some (r7 x.key)/\
   w.cell? ⟨d,o+k*5+3,none⟩=some (rm x.lo)/\w.cell? ⟨d,o+k*5+4,none⟩=some (rm x.hi):=by
 obtain⟨b,i,g,a,h,_,_,f⟩:=j;injection a with b a g;subst b a g;have a:=(aw.1 e).1;obtain⟨d,o,rfl,g,b⟩:=f (by simp at h;omega);have a:(l.map Cl.cells)[k]?=some x.cells:=by simp[e]
 exact⟨d,o,rfl,g,b k _ a 0 _ rfl,b k _ a 1 _ rfl,b k _ a 2 _ rfl,b k _ a 3 _ rfl,b k _ a 4 _ rfl⟩
theorem mQ.slice{w:World}{F:Nat->Prop}{v:Value}{l:List (Int×Int)}(h:mQ w F v l): ∃A c,v=.slice A l.length c/\l.length<=c/\c<=maxLen:=by obtain⟨c,g,e,d,a,f,b,_⟩:=h;simp at a;subst a;exact⟨c,e,d,f,b⟩
theorem eI.slice{w:World}{F:Nat->Prop}{v:Value}{l:List Cl}(h:eI w F v l): ∃A c,v=.slice A l.length c/\l.length<=c/\c<=maxLen:=by obtain⟨c,g,e,d,a,f,b,_⟩:=h;simp at a;subst a;exact⟨c,e,d,f,b⟩
theorem qT(l:List Cl): ∀u∈(l.map Cl.cells).flatten,u.oneCell'=true:=by intro u a;obtain⟨x,b,a⟩:=List.mem_flatten.1 a;obtain⟨c,_,rfl⟩:=ep.1 b;simp[Cl.cells]at a;rcases a with rfl|rfl|rfl|rfl|rfl<;>rfl
def dY(k:List UInt8):Int:=if k.length<1\/16<k.length then 13 else 0
def EL(c:Cl):Int:=
 if c.aO< -1\/4<=c.aO then 10
 else if 0<=c.aO then(if c.key≠[]\/c.hi<c.lo then 10 else 0)
 else if c.lo≠0\/c.hi≠0 then 10
 else dY c.key
theorem eB(w:World)(k:List UInt8):
  Calls prog 47 #[r7 k] w fun e w'=>e=.returned (rm (dY k))/\w=w':=by
 unfold dY;by_cases a:k.length<1
 ·rw[ff (.inl a)];go_enter func47,ntmps47;go_wp2;go_ret
  exact⟨rfl,rfl⟩
 ·by_cases b:16<k.length
  ·rw[ff (.inr b)];go_enter func47,ntmps47;go_wp2;go_ret
   exact⟨rfl,rfl⟩
  ·rw[fb (by omega)];go_enter func47,ntmps47;go_wp2;go_ret
   exact⟨rfl,rfl⟩
theorem OV(w:World)(c:Cl):
  Calls prog 22 #[c.val] w fun n w'=>n=.returned (rm (EL c))/\Below w.heap.size w w':=by
 obtain⟨o,d,i,g,f⟩:=c;unfold Cl.val EL;simp only;by_cases a:d< -1\/4<=d
 ·rw[ff a];rcases a with a|a
  ·go_enter func22,ntmps22;go_wp2_with fail;go_ret
   exact⟨rfl,(bd _ _).alloc (b8 _) _⟩
  ·go_enter func22,ntmps22;go_wp2_with fail;go_ret
   exact⟨rfl,(bd _ _).alloc (b8 _) _⟩
 ·rw[fb a];by_cases j:0<=d
  ·rw[ff j];have m: ¬d< -1:=fun h=>a (.inl h);have l: ¬4<=d:=fun h=>a (.inr h);clear a;by_cases b:i≠[]
   ·rw[ff (.inl b)];go_enter func22,ntmps22;go_wp2_with fail;go_ret
    exact⟨rfl,(bd _ _).alloc (b8 _) _⟩
   ·have e:i=[]:=by simpa using b
    subst e;clear b;by_cases k:f<g
    ·rw[ff (.inr k)];go_enter func22,ntmps22;go_wp2_with fail;go_ret
     exact⟨rfl,(bd _ _).alloc (b8 _) _⟩
    ·rw[fb (by simpa using k)];go_enter func22,ntmps22;go_wp2_with fail;go_ret
     exact⟨rfl,(bd _ _).alloc (b8 _) _⟩
  ·rw[fb j];have m: ¬d< -1:=fun h=>a (.inl h);have l: ¬4<=d:=fun h=>a (.inr h);clear a;by_cases b:g≠0
   ·rw[ff (.inl b)];go_enter func22,ntmps22;go_wp2_with fail;go_ret
    exact⟨rfl,(bd _ _).alloc (b8 _) _⟩
   ·by_cases e:f≠0
    ·rw[ff (.inr e)];go_enter func22,ntmps22;go_wp2_with fail;go_ret
     exact⟨rfl,(bd _ _).alloc (b8 _) _⟩
    ·rw[fb (by simp at b e;simp[b,e])];have h:g=0:=by simpa using b
     have a:f=0:=by simpa using e
     subst h a;clear b e;go_enter func22,ntmps22;go_wp2_with fail;refine(eB _ _).m ?_;rintro n w' ⟨rfl,rfl⟩;go_wp2_with fail;go_ret
     exact⟨rfl,(bd _ _).alloc (b8 _) _⟩
def xC(a b:Int×Int):Option (Int×Int):=if a.2<b.1/\a.2+1<b.1 then none else some (a.1,max a.2 b.2)
def VJ(a b:Int×Int)(w:World)(e:Ending)(w':World):Prop:=
 Below w.heap.size w w'/\match xC a b with
  |none=>e=.returned (.tuple #[.agg #[rm 0,rm 0],.bool false])
  |some x=>e=.returned (.tuple #[.agg #[rm x.1,rm x.2],.bool true])
theorem ax{P:Program}{b:Func}{p u:Tmp}{a:TypeId}(i:b.results= #[.cell p a,.tmp u])(tmps:Array Value)(w:World)(g:Nat)(t:TypeId)(cs:Array Value)(fr:Nat×Nat)(d:TypeDesc)
  (e:tmps.getD p undef=rv g) (f:w.heap[g]?=some (.cells cs t fr))
  (h:P.underlying a=some d) (c:(match d with| .struct _| .array _ _=>true|_=>false)=true) (hi:(P.info? a).map (·.size)=some cs.size):
  (results b tmps).run P w=.ok (.tuple #[.agg cs,tmps.getD u undef]) w:=by
 have b:tmps[p]?.getD undef=rv g:=by simpa using e
 rw[results_cell_tmp i];simp[b,asAddr,run_loadVar_row w g t a cs fr d f h c hi]
theorem tH(w:World)(a b c:Obj):Below w.heap.size w (((w.alloc a).alloc b).alloc c):=
 (((bd _ _).alloc (b8 _) _).alloc (by simp) _).alloc (by simp;omega) _
theorem Hw(w:World)(a b c:Obj):(((w.alloc a).alloc b).alloc c).heap[w.heap.size+1+1]?=some c:=by
 have:w.heap.size+1+1=((w.alloc a).alloc b).heap.size:=by simp
 rw[this];exact an _ _
theorem Kj(w:World)(a b:Int×Int)(e:lq a.2)(d:lq b.1):
  Calls prog 53 #[.agg #[rm a.1,rm a.2],.agg #[rm b.1,rm b.2]] w (VJ a b w):=by
 obtain⟨o,c⟩:=a;obtain⟨i,f⟩:=b;unfold VJ xC;unfold lq at e d;simp only at e d⊢;obtain⟨m,k⟩:=e;obtain⟨l,n⟩:=d;by_cases j:c<i
 ·by_cases g:c+1<i
  ·rw[ff ⟨j,g⟩];go_enter func53,ntmps53;go_wp2;refine dj (ax rfl _ _ _ _ _ _ _ rfl (Hw _ _ _ _) underlying80 rfl (by kernel_rfl)) rfl ⟨tH _ _ _ _,rfl⟩
  ·rw[fb (fun h=>g h.2)];rcases Int.lt_or_le c f with h|h
   ·rw[Int.max_eq_right (by omega)];go_enter func53,ntmps53;go_wp2;refine dj (ax rfl _ _ _ _ _ _ _ rfl (Hw _ _ _ _) underlying80 rfl (by kernel_rfl)) rfl ⟨tH _ _ _ _,rfl⟩
   ·rw[Int.max_eq_left (by omega)];go_enter func53,ntmps53;go_wp2;refine dj (ax rfl _ _ _ _ _ _ _ rfl (Hw _ _ _ _) underlying80 rfl (by kernel_rfl)) rfl ⟨tH _ _ _ _,rfl⟩
 ·rw[fb (fun h=>j h.1)];rcases Int.lt_or_le c f with h|h
  ·rw[Int.max_eq_right (by omega)];go_enter func53,ntmps53;go_wp2;refine dj (ax rfl _ _ _ _ _ _ _ rfl (Hw _ _ _ _) underlying80 rfl (by kernel_rfl)) rfl ⟨tH _ _ _ _,rfl⟩
  ·rw[Int.max_eq_left (by omega)];go_enter func53,ntmps53;go_wp2;refine dj (ax rfl _ _ _ _ _ _ _ rfl (Hw _ _ _ _) underlying80 rfl (by kernel_rfl)) rfl ⟨tH _ _ _ _,rfl⟩
theorem Tryz.tI:(prog.info? 68).map (fun i=>(i.zero,i.size,i.bytes))=some (some (.agg #[.bool false,rm 0,.string ⟨#[]⟩,rm 0,rm 0]),5,48):=by kernel_rfl
theorem Tryz.Hy:(prog.info? 80).map (fun i=>(i.zero,i.size,i.bytes))=some (some (.agg #[rm 0,rm 0]),2,16):=by kernel_rfl
def tJ(a:Int)(b:Bool)(x:Int×Int):Cl:=⟨b,a,[],x.1,x.2⟩
def CJ(l:List Cl)(w:World)(e:Ending)(w':World):Prop:=
 ∃A c,e=.returned (.slice A l.length c)/\w'.ownsRow w.heap.size 68 5 (.slice A l.length c) l.length (l.map Cl.cells).flatten/\Below w.heap.size w w'
def OW(w:World)(a:Int)(b:Bool)(l:List (Int×Int))(k:Nat)(v:Value)(w':World):Prop:=
 w'.ownsRow w.heap.size 68 5 v k (((l.take k).map (tJ a b)).map Cl.cells).flatten/\Below w.heap.size w w'
theorem xD(w:World)(F:Nat->Prop)(aO:Int)(ZR:Bool)(v:Value)(l:List (Int×Int))(h:mQ w F v l)(hl:l.length<=10000000):
  Calls prog 25 #[rm aO,.bool ZR,v] w (CJ (l.map (tJ aO ZR)) w):=by
 obtain⟨i0,hi,hz0,hz1,hz2⟩:=eh Tryz.tI;obtain⟨A,c,rfl,hnc,hcm⟩:=h.slice;have H:=al h;clear h;go_enter func25,ntmps25;go_wp2
 go_loopw [7,12] (fun v i wr=> ∃k,k<=l.length/\i=rm (k:Int)/\OW w aO ZR l k v wr) (fun _ i _=>l.length-(intOf i).toNat)
 case atStart=>exact⟨0,dq _,rfl,dy _ _ _ _,bd _ _⟩
 case round=>
  obtain⟨k,hk,rfl,hown,hbl⟩:=hrel;by_cases hlt:k<l.length
  ·obtain⟨x,hx⟩: ∃x,l[k]?=some x:=⟨_,ao hlt⟩;obtain⟨b,o,rfl,hF,c0,c1⟩:=H.o.at_ hx;have hb:b<w.heap.size:=aq w _ c0;have c0':=(hbl.cell (p:=⟨b,o+k*2,none⟩) hb).x c0;have c1':=(hbl.cell (p:=⟨b,o+k*2+1,none⟩) hb).x c1;have HB:=al hx;have hb2:Below wr.heap.size wr ((wr.alloc (sg x.1 x.2)).alloc (sd ZR aO (#[]) x.1 x.2)):=((bd _ _).alloc (b8 _) _).alloc (by simp) _;have hown':=bE hown hb2;have hnews:=eb (an (wr.alloc (sg x.1 x.2)) (sd ZR aO (#[]) x.1 x.2));rw[show(wr.alloc (sg x.1 x.2)).heap.size=wr.heap.size+1 by simp]at hnews;have HOWN:=AI hown' hnews hown hb2;have Tt:=al hbl;have zN:=al hi;clear hx c0 c1 hown hown' hnews hb2 hbl;go_wp2_with (at_builtin;go_loud (refine et _ rfl _ _ 27 rfl w.heap.size 68 i0 _ 5 48 underlying27 zN.o hz0 hz1 hz2 rfl (by decide) u7 k _ rfl HOWN.o.1 ⟨wr.heap.size+1,0,none⟩ 1 1 [.bool ZR,rm aO,.string ⟨#[]⟩,rm x.1,rm x.2] rfl rfl HOWN.o.2.1 (by simp[Value.oneCell']) (by decide) (by unfold maxLen;omega) (by omega) (by have:=Tt.o.size;simp;omega) _ rfl ?_);intro g cap w1 hown1 hgrow1 jH qh);go_roundw
   case rel=>
    refine⟨k+1,by omega,by go_num,?_,?_⟩
    ·have htk:l.take (k+1)=l.take k++[x]:=by rw[gO,HB.o];rfl
     rw[htk];simpa[tJ,Cl.cells]using hown1
    ·have hs:=Tt.o.size;exact((Tt.o.alloc (by omega) _).alloc (by simp;omega) _).grown hgrow1 (by simp;omega) (fun j hj=>(HOWN.o.d.1.lt j hj).1)
   case measure=>simp[intOf];omega
  ·have hkl:k=l.length:=by omega
   subst hkl;go_wp2;go_ret
   rw[gE]at hown;obtain⟨A',c',rfl⟩:=ai hown;exact⟨A',c',by simp,by simpa using hown,hbl⟩
theorem Bj{w:World}{B:Nat}{b c a d v0 v1 v2 v3:Value}{t:TypeId}(h:w.heap[B]?=some (.cells #[b,c,a,d] t (0,0))):
  ((((w.setCell ⟨B,0,none⟩ v0).setCell ⟨B,1,none⟩ v1).setCell ⟨B,2,none⟩ v2).setCell ⟨B,3,none⟩ v3).heap[B]?=some (.cells #[v0,v1,v2,v3] t (0,0)):=by
 have a:=dp w B 0 _ t v0 h;have b:=dp _ B 1 _ t v1 a;have a:=dp _ B 2 _ t v2 b;have b:=dp _ B 3 _ t v3 a;simpa using b
theorem pR(w:World)(o:Obj):Below w.heap.size w (w.alloc o):=(bd _ _).alloc (b8 _) _
theorem ma(w:World)(n M i:Nat)(v:Value):Only (fun k=>k=M) w ((w.drewN n).setCell ⟨M,i,none⟩ v):=((oE (fun k=>k=M) w).drewN n).setCell (p:=⟨M,i,none⟩) (fun _=>rfl) v
theorem bg(w:World)(M i:Nat)(v:Value):Only (fun k=>k=M) w (w.setCell ⟨M,i,none⟩ v):=(oE (fun k=>k=M) w).setCell (p:=⟨M,i,none⟩) (fun _=>rfl) v
theorem aM{w:World}{k:Nat}{o:Obj}(h:w.heap[k]?=some o):k<w.heap.size:=(cq.1 h).1
def Rw.val(r:Rw):Value:=.agg #[rm r.a,rm r.b,rm r.c,rm r.d]
theorem dt{P:Program}{b:Func}{p u x:Tmp}{a:TypeId}(i:b.results= #[.cell p a,.tmp u,.tmp x])(tmps:Array Value)(w:World)(g:Nat)(t:TypeId)(cs:Array Value)(fr:Nat×Nat)(d:TypeDesc)
  (e:tmps.getD p undef=rv g) (f:w.heap[g]?=some (.cells cs t fr))
  (h:P.underlying a=some d) (c:(match d with| .struct _| .array _ _=>true|_=>false)=true) (hi:(P.info? a).map (·.size)=some cs.size):
  (results b tmps).run P w=.ok (.tuple #[.agg cs,tmps.getD u undef,tmps.getD x undef]) w:=by
 have b:tmps[p]?.getD undef=rv g:=by simpa using e
 simp only[results,i];simp[Result.andThen,b,asAddr,run_loadVar_row w g t a cs fr d f h c hi]
theorem cP{w:World}{R:Nat}{a b c d:Value}{t:TypeId}(e:w.heap[R]?=some (.cells #[a,b,c,d] t (0,0))):
  (w.cell? ⟨R,0,none⟩=some a/\w.cell? ⟨R,1,none⟩=some b/\w.cell? ⟨R,2,none⟩=some c/\w.cell? ⟨R,3,none⟩=some d)/\w.frozen? ⟨R,0,none⟩=false/\w.frozen? ⟨R,1,none⟩=false/\w.frozen? ⟨R,2,none⟩=false/\w.frozen? ⟨R,3,none⟩=false:=by
 simp[World.cell?,World.frozen?,e]
def xE(n:Int):Int:=if n<2\/16<n then 23 else 0
def iy(most n:Int):Int:=if most<1\/1024<most then 23 else xE n
def dv(f:Int):Int:=if f<0\/10000<f then 10 else 0
def fQ(most n f:Int):Int:=if dv f=0 then iy most n else dv f
theorem EM(w:World)(n:Int)(h:n<2\/16<n):Calls prog 43 #[rm n] w fun e w'=>
  e=.returned (.tuple #[.pointer none,rm 23])/\w'=w:=by
 by_cases a:n<2
 ·clear h;go_enter func43,ntmps43;go_wp2
  go_ret2
  exact⟨rfl,rfl⟩
 ·have b:16<n:=by omega
  clear h;go_enter func43,ntmps43;go_wp2
  go_ret2
  exact⟨rfl,rfl⟩
def xG(w:World)(e most n:Int)(x:Ending)(w':World):Prop:=
 Below w.heap.size w w'/\(e=0-> ∃T,x=.returned (.tuple #[rv T,rm 0])/\w.heap.size<=T/\tG w' T most n w.heap.size)/\
  (e≠0->x=.returned (.tuple #[.pointer none,rm e]))
theorem CK(w:World)(most n:Int):Calls prog 18 #[rm most,rm n] w (xG w (iy most n) most n):=by
 by_cases f:most<1
 ·have H:=al (show iy most n=23 by unfold iy;rw[ff (.inl f)]);go_enter func18,ntmps18;go_wp2_with fail
  go_ret2
  exact⟨bd _ _,fun h=>absurd (H.o.symm.x h) (by decide),fun _=>by rw[H.o];rfl⟩
 by_cases d:1024<most
 ·have H:=al (show iy most n=23 by unfold iy;rw[ff (.inr d)]);go_enter func18,ntmps18;go_wp2_with fail
  go_ret2
  exact⟨bd _ _,fun h=>absurd (H.o.symm.x h) (by decide),fun _=>by rw[H.o];rfl⟩
 by_cases a:n<2\/16<n
 ·have H:=al (show iy most n=23 by unfold iy xE;rw[fb (by omega),ff a]);have b:=ae w (sz most);go_enter func18,ntmps18;go_upto_region 4 with fail;generalize w.alloc (sz most)=c at b⊢;have e:=al b;generalize w.heap.size=T;have g:=al (EM c n a);clear b a;go_wp2_with fail
  go_loopw [19] (fun i b=>i=rm 0/\b=c) (fun i _=>5-(intOf i).toNat)
  case atStart=>exact⟨rfl,rfl⟩
  case round=>
   obtain⟨rfl,rfl⟩:=hrel;go_wp2_with fail;refine g.o.m ?_;rintro i b ⟨rfl,rfl⟩;go_wp2_with fail
   go_ret2
   exact⟨e.o,fun h=>absurd (H.o.symm.x h) (by decide),fun _=>by rw[H.o];rfl⟩
 ·have H:iy most n=0:=by unfold iy xE;rw[fb (by omega),fb a]
  refine(EK w most n (by omega) (by omega) (by omega) (by omega)).m ?_;rintro i w' ⟨T,rfl,c,b,a⟩;exact⟨a,fun _=>⟨T,rfl,c,b⟩,fun h=>absurd H h⟩
theorem tK(w:World)(f:Int):Calls prog 33 #[rm f] w fun e w'=>e=.returned (rm (dv f))/\w'=w:=by
 by_cases b:f<0
 ·have H:=al (show dv f=10 by unfold dv;rw[ff (.inl b)]);go_enter func33,ntmps33;go_wp2;go_ret
  exact⟨by rw[H.o];rfl,rfl⟩
 by_cases a:10000<f
 ·have H:=al (show dv f=10 by unfold dv;rw[ff (.inr a)]);go_enter func33,ntmps33;go_wp2;go_ret
  exact⟨by rw[H.o];rfl,rfl⟩
 ·have H:=al (show dv f=0 by unfold dv;rw[fb (by omega)]);go_enter func33,ntmps33;go_wp2;go_ret
  exact⟨by rw[H.o];rfl,rfl⟩
def gX(most n f:Int):Value:=.agg #[rm most,rm n,rm f]
theorem tG.le{w:World}{T L b:Nat}{most n:Int}(s:tG w T most n L)(a:b<=L):tG w T most n b:=by obtain⟨p,c,l,k,o,d,⟨e,q⟩,⟨i,h⟩,⟨b,j⟩,⟨m,r⟩,⟨g,f⟩⟩:=s;exact⟨p,c,l,k,o,d,⟨dd a e,q⟩,⟨dd a i,h⟩,⟨dd a b,j⟩,⟨dd a m,r⟩,⟨dd a g,f⟩⟩
theorem xG.of{w w1:World}{e most n:Int}{x:Ending}{w':World}(h:xG w1 e most n x w')(a:Below w.heap.size w w1):xG w e most n x w':=by refine⟨a.x (h.1.m a.size),fun d=>?_,h.2.2⟩;obtain⟨T,f,c,b⟩:=h.2.1 d;exact⟨T,f,dd a.size c,b.le a.size⟩
theorem EN(w:World)(most n f:Int):Calls prog 28 #[gX most n f] w (xG w (fQ most n f) most n):=by
 unfold gX;have e:=al (ae w (sn most n f));have b:=al (fun w=>tK w f);have j:=al (fun w=>CK w most n);by_cases h:dv f=0
 ·have H:=al (show fQ most n f=iy most n by unfold fQ;rw[ff h]);rw[h]at b;clear h;go_enter func28,ntmps28;go_wp2_with fail;refine(b.o _).m ?_;rintro m i ⟨rfl,rfl⟩;go_wp2_with fail;refine(j.o _).m ?_;rintro m i h
  replace h:=h.of e.o
  by_cases a:iy most n=0
  ·obtain⟨T,rfl,l,g⟩:=h.2.1 a;have c:=al h.1;have k:=al g;have d:=al a;clear h a g;go_wp2_with fail
   go_ret2
   rw[H.o];exact⟨c.o,fun _=>⟨T,rfl,l,k.o⟩,fun h=>absurd d.o h⟩
  ·obtain rfl:=h.2.2 a;have c:=al h.1;have d:=al a;clear h a;go_wp2_with fail
   go_ret2
   rw[H.o];exact⟨c.o,fun h=>absurd h d.o,fun _=>rfl⟩
 ·have H:=al (show fQ most n f=dv f by unfold fQ;rw[fb h]);generalize dv f=x at h H b;go_enter func28,ntmps28;go_wp2_with fail;refine(b.o _).m ?_;rintro m i ⟨rfl,rfl⟩;go_wp2_with fail
  go_ret2
  rw[H.o];exact⟨e.o,fun a=>absurd a h,fun _=>rfl⟩
def vg(c:Nat):Option Rw->Option Rw->List Cl
 |some o,some n=>if o.aO c=n.aO c then[]else[⟨true,c,[],o.aO c,o.aO c⟩,⟨true,c,[],n.aO c,n.aO c⟩]
 |some o,none=>[⟨true,c,[],o.aO c,o.aO c⟩]
 |none,some n=>[⟨true,c,[],n.aO c,n.aO c⟩]
 |none,none=>[]
def iz(k:List UInt8)(old now:Option Rw):List Cl:=
 ⟨true,-1,k,0,0⟩::((if old.isSome=now.isSome then[]else[⟨true,-1,[35],0,0⟩])++(vg 0 old now++(vg 1 old now++(vg 2 old now++vg 3 old now))))
def lu(k:List UInt8)(old now:Option Rw):Nat->List Cl
 |0=>[⟨true,-1,k,0,0⟩]++(if old.isSome=now.isSome then[]else[⟨true,-1,[35],0,0⟩])
 |c+1=>lu k old now c++vg c old now
theorem xH(k:List UInt8)(old now:Option Rw):lu k old now 4=iz k old now:=by simp[lu,iz]
theorem OX(c:Nat)(old now:Option Rw):(vg c old now).length<=2:=by unfold vg;cases old<;>cases now<;>simp;split<;>simp
theorem qU(k:List UInt8)(old now:Option Rw): ∀c,(lu k old now c).length<=2+2*c
 |0=>by simp only[lu];split<;>simp
 |c+1=>by have a:=qU k old now c;have a:=OX c old now;simp only[lu,gr];omega
end Go.Proofs.YtehccbdajiiaaaaGreatDoor
