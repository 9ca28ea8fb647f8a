import Derived.Test.YtehccbdajiiaaaaGreatDoorP01
import Derived.Test.YtehccbdajiiaaaaGreatDoorP03
import Derived.Test.YtehccbdajiiaaaaGreatDoorProg
import Derived.Deep.SlicePairs
namespace Go.Proofs.YtehccbdajiiaaaaGreatDoor
open Go.Proofs.Tryz
set_option maxRecDepth 100000
open Go.RowKit
def bJ(k:Nat)(w:World)(F:Nat->Prop)(v:Value)(xs:List (List Value)):Prop:=
 ∃(A:Option Addr) (n c:Nat),v=.slice A n c/\xs.length=n/\n<=c/\c<=maxLen/\
  (0<n-> ∃b o,A=some ⟨b,o,none⟩/\F b/\ ∀i x,xs[i]?=some x-> ∀j u,x[j]?=some u->w.cell? ⟨b,o+(i*k+j),none⟩=some u)
section
variable{k:Nat}{F G S:Nat->Prop}{w w':World}{v:Value}{xs:List (List Value)}
theorem bJ.mono(j:bJ k w F v xs)(a: ∀k,F k->G k):bJ k w G v xs:=by obtain⟨A,n,l,g,i,f,h,c⟩:=j;exact⟨A,n,l,g,i,f,h,fun d=>let⟨b,o,e,hb,hu⟩:=c d;⟨b,o,e,a b hb,hu⟩⟩
abbrev bJ.m:=@bJ.mono
theorem bJ.only(m:bJ k w F v xs)(g:Only S w w')(a: ∀k,F k-> ¬S k):bJ k w' F v xs:=by obtain⟨A,q,n,d,h,j,f,i⟩:=m;exact⟨A,q,n,d,h,j,f,fun c=>let⟨b,o,e,hb,hu⟩:=i c;⟨b,o,e,hb,fun p x l r u c=>g.cell (hu p x l r u c) (a b hb)⟩⟩
theorem bJ.below(h:bJ k w F v xs)(a:Below w.heap.size w w'):bJ k w' F v xs:=h.only (oS a fun _=>False) (fun _ _=>id)
theorem bJ.nil(k:Nat)(w:World)(F:Nat->Prop):bJ k w F (.slice none 0 0) []:=⟨none,0,0,rfl,rfl,b8 _,by simp[maxLen],fun h=>absurd h (by omega)⟩
theorem jP(c: ∀x∈xs,x.length=k): ∀(i:Nat) (x:List Value),xs[i]?=some x-> ∀(j:Nat) (u:Value),x[j]?=some u->xs.flatten[i*k+j]?=some u:=by
 induction xs with
 |nil=>intro i x a;simp at a
 |cons y b e=>
  intro i x a j u b;have d:=c y (by simp)
  cases i with
  |zero=>simp at a;subst a;rw[List.flatten_cons,kt (by have:=(List.getElem?_eq_some_iff.1 b).1;omega)];simpa using b
  |succ i=>have f:=e (fun z e=>c z (by simp[e])) i x (by simpa using a) j u b;rw[List.flatten_cons,kb (by rw[d,lp];omega)];rw[<-f];congr 1;rw[d,lp];omega
theorem rB(a: ∀x∈xs,x.length=k):xs.flatten.length=xs.length*k:=by
 induction xs with
 |nil=>simp
 |cons y c b=>rw[List.flatten_cons,gk,b (fun z b=>a z (by simp[b])),a y (by simp),jj,lp];omega
theorem bJ.bO{base:Nat}{e:TypeId}{n:Nat}(p:w.ownsRow base e k v n xs.flatten)(a: ∀x∈xs,x.length=k)(h:0<k)(d: ∀g,v.ownBlock=some g->F g):bJ k w F v xs:=by
 have b:xs.length=n:=by have c:=p.1;rw[rB a]at c;exact Nat.eq_of_mul_eq_mul_right h c
 rcases p.2 with⟨rfl,rfl⟩|⟨g,q,r,rfl,_,y,f,j,t,s⟩
 ·have:xs=[]:=de b;subst this;exact bJ.nil k w F
 ·refine⟨_,_,_,rfl,b,f,j,fun _=>⟨g,0,rfl,d g rfl,fun z x i A u o=>?_⟩⟩;have m:=jP a z x i A u o;have:=p.cells (g:=g) rfl _ u m;unfold Addr.add at this;split at this
  ·rename_i l;rw[l];simpa using this
  ·simpa using this
theorem bJ.flat(N:bJ k w F v xs)(e: ∀M∈xs,M.length=k)(l:0<k): ∀B D E,v=.slice B D E-> ∀C,B=some C-> ∀j A,xs.flatten[j]?=some A->w.cell? (C.add j)=some A:=by
 obtain⟨J,m,L,q,u,I,K,s⟩:=N;intro B D E i C x j A n;rw[q]at i;injection i with y r a;subst y;subst r;subst a;have d:=(bd.1 n).1;rw[rB e]at d
 have p:0<m:=by
  rcases Nat.eq_zero_or_pos m with b|b
  ·rw[u,b]at d;omega
  ·exact b
 obtain⟨P,O,z,_,t⟩:=s p;rw[x]at z;injection z with z;subst z;have o:j/k<xs.length:=(Nat.div_lt_iff_lt_mul l).2 d;have f:xs[j/k]?=some xs[j/k]:=ao o;have G:=e _ (List.getElem_mem o);have H:j%k<k:=Nat.mod_lt _ l;have h:(xs[j/k])[j%k]?=some ((xs[j/k])[j%k]'(by omega)):=ao (by omega);have a:=jP e _ _ f _ _ h;have g:j/k*k+j%k=j:=by rw[Nat.mul_comm];exact Nat.div_add_mod j k
 rw[g,n]at a;injection a with a;have c:=t _ _ f _ _ h;rw[g,<-a]at c;unfold Addr.add;split
 ·rename_i b;rw[b]at c;simpa using c
 ·simpa using c
end
section
variable{P:Program}(w:World)
theorem kJ(base:Nat)(t d e:TypeId)(i:TypeInfo)(G:Value)(k b:Nat)(j:P.underlying t=some (.slice e))(hi:P.info? e=some i)(A:i.zero=some G)
  (p:i.size=k) (y:i.bytes=b) (z:G.cells.size=k) (g:0<k)
  (v:Value) (n:Nat) (xs:List Value) (c:w.ownsRow base e k v n xs) (F:Nat->Prop) (x:Value) (news:List (List Value)) (l:bJ k w F x news) (h: ∀a∈news,a.length=k) (E: ∀u∈news.flatten,u.oneCell'=true)
  (o:(n+news.length)*b<=140737488355328) (r:n+news.length<=maxLen) (q:base<=w.heap.size):
  ∃a w',(Builtin.append_ #[t,t] d #[v,x]).run P w=.ok a w'/\w'.ownsRow base e k a (n+news.length) (xs++news.flatten)/\w.grownBy w' v.ownBlock/\
   (a.ownBlock=v.ownBlock\/a.ownBlock=some w.heap.size):=by
 have s:=l.flat h g;obtain⟨K,L,H,rfl,f,I,J,B⟩:=l;subst f;rcases K with _|m
 ·have u:news.length=0:=by
   rcases Nat.eq_zero_or_pos news.length with f|f
   ·exact f
   ·obtain⟨M,D,C,_⟩:=B f;cases C
  have f:news=[]:=de u;subst f;exact⟨v,w,lS w base t d e i k j hi v n xs c H,by simpa using c,World.grownBy.refl w _,.inl rfl⟩
 ·obtain⟨a,w',f,u,C,_,D⟩:=run_append_own_at (P:=P) w base t d e i G k b j hi A p y z g v n xs c m news.length H news.flatten (rB h) (s _ _ _ rfl m rfl) E r o q;exact⟨a,w',f,u,C,D⟩
theorem dS{ops:Array Oper}{f:List Oper}{o:Oper}{a:Act}{Q:Exit->Act->World->Prop}(r:o.guard=none)(s x:Operand)(t:TypeId)
  (I:o.op=.call {callee:=.builtin .append,args:= #[s,x],argTypes:= #[t,t]})
  (base:Nat) (e:TypeId) (i:TypeInfo) (M:Value) (k c:Nat) (H:P.underlying t=some (.slice e)) (hi:P.info? e=some i) (B:i.zero=some M)
  (h:i.size=k) (u:i.bytes=c) (q:M.cells.size=k) (z:0<k)
  (v:Value) (n:Nat) (xs:List Value) (K:a.eval s=v) (m:w.ownsRow base e k v n xs) (F:Nat->Prop) (d:Value) (news:List (List Value)) (C:a.eval x=d) (J:bJ k w F d news) (A: ∀y∈news,y.length=k) (L: ∀b∈news.flatten,b.oneCell'=true)
  (g:(n+news.length)*c<=140737488355328) (p:n+news.length<=maxLen) (j:base<=w.heap.size)
  (N: ∀b w',w'.ownsRow base e k b (n+news.length) (xs++news.flatten)->w.grownBy w' v.ownBlock->(b.ownBlock=v.ownBlock\/b.ownBlock=some w.heap.size)->wpList P ops Q f (a.put o.dst b) w'):wpList P ops Q (o::f) a w:=
 wpList_plain r fun l E=>by obtain⟨b,w',l,y,D,G⟩:=kJ (P:=P) w base t o.type e i M k c H hi B h u q z v n xs m F d news J A L g p j;unfold Oper.wp execOp;simp only[I,resolve,invoke,builtin,Sem.run_bind,Sem.run_pure,Result.andThen_ok,List.map_toArray,lx,kh,K,C,l];exact E _ _ (N b w' y D G)
end
structure Cl where
 wr:Bool
 aL:Int
 key:List UInt8
 lo:Int
 hi:Int
deriving DecidableEq
def Cl.cells(c:Cl):List Value:=[.bool c.wr,rv c.aL,sd c.key,rv c.lo,rv c.hi]
def Cl.val(c:Cl):Value:=.agg #[.bool c.wr,rv c.aL,sd c.key,rv c.lo,rv c.hi]
def kK(n:Int):Prop:= -9223372036854775808<=n/\n<=9223372036854775807
def Cl.fits(c:Cl):Prop:=kK c.aL/\kK c.lo/\kK c.hi/\c.key.length<=maxLen
def mh(x:Int×Int):List Value:=[rv x.1,rv x.2]
def mK(w:World)(F:Nat->Prop)(v:Value)(l:List (Int×Int)):Prop:=bJ 2 w F v (l.map mh)
def cz(w:World)(F:Nat->Prop)(v:Value)(l:List Cl):Prop:=bJ 5 w F v (l.map Cl.cells)
theorem lU(l:List (Int×Int)): ∀x∈l.map mh,x.length=2:=by intro x a;obtain⟨y,_,rfl⟩:=eh.1 a;rfl
theorem df(l:List Cl): ∀x∈l.map Cl.cells,x.length=5:=by intro x a;obtain⟨y,_,rfl⟩:=eh.1 a;rfl
theorem mK.at_{w:World}{F:Nat->Prop}{A:Option Addr}{n c:Nat}{l:List (Int×Int)}(q:mK w F (.slice A n c) l){k:Nat}{x:Int×Int}(a:l[k]?=some x):
  ∃d o,A=some ⟨d,o,none⟩/\F d/\w.cell? ⟨d,o+k*2,none⟩=some (rv x.1)/\w.cell? ⟨d,o+k*2+1,none⟩=some (rv x.2):=by
 obtain⟨m,p,j,f,g,_,_,h⟩:=q;injection f with i b e;subst i b e;have i:=(bd.1 a).1;obtain⟨d,o,rfl,e,b⟩:=h (by simp at g;omega);exact⟨d,o,rfl,e,b k (mh x) (by simp[a]) 0 _ rfl,b k (mh x) (by simp[a]) 1 _ rfl⟩
theorem cz.at_{w:World}{F:Nat->Prop}{A:Option Addr}{n c:Nat}{l:List Cl}(r:cz w F (.slice A n c) l){k:Nat}{x:Cl}(e:l[k]?=some x):
  ∃d o,A=some ⟨d,o,none⟩/\F d/\w.cell? ⟨d,o+k*5,none⟩=some (.bool x.wr)/\w.cell? ⟨d,o+k*5+1,none⟩=some (rv x.aL)/\w.cell? ⟨d,o+k*5+2,none⟩=some (sd x.key)/\
   w.cell? ⟨d,o+k*5+3,none⟩=some (rv x.lo)/\w.cell? ⟨d,o+k*5+4,none⟩=some (rv x.hi):=by
 obtain⟨p,q,m,g,h,_,_,i⟩:=r;injection g with f a b;subst f a b;have j:=(bd.1 e).1;obtain⟨d,o,rfl,f,b⟩:=i (by simp at h;omega);have a:(l.map Cl.cells)[k]?=some x.cells:=by simp[e]
 exact⟨d,o,rfl,f,b k _ a 0 _ rfl,b k _ a 1 _ rfl,b k _ a 2 _ rfl,b k _ a 3 _ rfl,b k _ a 4 _ rfl⟩
theorem mK.slice{w:World}{F:Nat->Prop}{v:Value}{l:List (Int×Int)}(h:mK w F v l): ∃A c,v=.slice A l.length c/\l.length<=c/\c<=maxLen:=by obtain⟨c,g,f,d,a,e,b,_⟩:=h;simp at a;subst a;exact⟨c,f,d,e,b⟩
theorem cz.slice{w:World}{F:Nat->Prop}{v:Value}{l:List Cl}(h:cz w F v l): ∃A c,v=.slice A l.length c/\l.length<=c/\c<=maxLen:=by obtain⟨c,g,f,d,a,e,b,_⟩:=h;simp at a;subst a;exact⟨c,f,d,e,b⟩
theorem qD(l:List Cl): ∀u∈(l.map Cl.cells).flatten,u.oneCell'=true:=by intro u a;obtain⟨x,b,a⟩:=List.mem_flatten.1 a;obtain⟨c,_,rfl⟩:=eh.1 b;simp[Cl.cells]at a;rcases a with rfl|rfl|rfl|rfl|rfl<;>rfl
def dN(k:List UInt8):Int:=if k.length<1\/16<k.length then 13 else 0
def D9(c:Cl):Int:=
 if c.aL< -1\/4<=c.aL then 10
 else if 0<=c.aL then(if c.key≠[]\/c.hi<c.lo then 10 else 0)
 else if c.lo≠0\/c.hi≠0 then 10
 else dN c.key
theorem dU(w:World)(k:List UInt8):
  Calls prog 47 #[sd k] w fun e w'=>e=.returned (rv (dN k))/\w=w':=by
 unfold dN;by_cases a:k.length<1
 ·rw[fi (.inl a)];go_enter func47,ntmps47;go_wp2_with fail;go_ret
  exact⟨rfl,rfl⟩
 ·by_cases b:16<k.length
  ·rw[fi (.inr b)];go_enter func47,ntmps47;go_wp2_with fail;go_ret
   exact⟨rfl,rfl⟩
  ·rw[ff (by omega)];go_enter func47,ntmps47;go_wp2_with fail;go_ret
   exact⟨rfl,rfl⟩
theorem NS(w:World)(c:Cl):
  Calls prog 22 #[c.val] w fun n w'=>n=.returned (rv (D9 c))/\Below w.heap.size w w':=by
 obtain⟨o,d,i,f,g⟩:=c;unfold Cl.val D9;simp only;by_cases a:d< -1\/4<=d
 ·rw[fi a];rcases a with a|a
  ·go_enter func22,ntmps22;go_wp2_with fail;go_ret
   exact⟨rfl,(aw _ _).alloc (b8 _) _⟩
  ·go_enter func22,ntmps22;go_wp2_with fail;go_ret
   exact⟨rfl,(aw _ _).alloc (b8 _) _⟩
 ·rw[ff a];by_cases k:0<=d
  ·rw[fi k];have l: ¬d< -1:=fun h=>a (.inl h);have m: ¬4<=d:=fun h=>a (.inr h);clear a;by_cases b:i≠[]
   ·rw[fi (.inl b)];go_enter func22,ntmps22;go_wp2_with fail;go_ret
    exact⟨rfl,(aw _ _).alloc (b8 _) _⟩
   ·have e:i=[]:=by simpa using b
    subst e;clear b;by_cases j:g<f
    ·rw[fi (.inr j)];go_enter func22,ntmps22;go_wp2_with fail;go_ret
     exact⟨rfl,(aw _ _).alloc (b8 _) _⟩
    ·rw[ff (by simpa using j)];go_enter func22,ntmps22;go_wp2_with fail;go_ret
     exact⟨rfl,(aw _ _).alloc (b8 _) _⟩
  ·rw[ff k];have l: ¬d< -1:=fun h=>a (.inl h);have m: ¬4<=d:=fun h=>a (.inr h);clear a;by_cases b:f≠0
   ·rw[fi (.inl b)];go_enter func22,ntmps22;go_wp2_with fail;go_ret
    exact⟨rfl,(aw _ _).alloc (b8 _) _⟩
   ·by_cases e:g≠0
    ·rw[fi (.inr e)];go_enter func22,ntmps22;go_wp2_with fail;go_ret
     exact⟨rfl,(aw _ _).alloc (b8 _) _⟩
    ·rw[ff (by simp at b e;simp[b,e])];have a:f=0:=by simpa using b
     have h:g=0:=by simpa using e
     subst a h;clear b e;go_enter func22,ntmps22;go_wp2_with fail;refine(dU _ _).m ?_;rintro n w' ⟨rfl,rfl⟩;go_wp2_with fail;go_ret
     exact⟨rfl,(aw _ _).alloc (b8 _) _⟩
def wO(a b:Int×Int):Option (Int×Int):=if a.2<b.1/\a.2+1<b.1 then none else some (a.1,max a.2 b.2)
def UD(a b:Int×Int)(w:World)(e:Ending)(w':World):Prop:=
 Below w.heap.size w w'/\match wO a b with
  |none=>e=.returned (.tuple #[.agg #[rv 0,rv 0],.bool false])
  |some x=>e=.returned (.tuple #[.agg #[rv x.1,rv x.2],.bool true])
theorem ax{P:Program}{b:Func}{p u:Tmp}{a:TypeId}(j:b.results= #[.cell p a,.tmp u])(tmps:Array Value)(w:World)(g:Nat)(t:TypeId)(cs:Array Value)(fr:Nat×Nat)(d:TypeDesc)
  (e:tmps.getD p undef=r7 g) (i:w.heap[g]?=some (.cells cs t fr))
  (h:P.underlying a=some d) (f:(match d with| .struct _| .array _ _=>true|_=>false)=true) (hi:(P.info? a).map (·.size)=some cs.size):
  (results b tmps).run P w=.ok (.tuple #[.agg cs,tmps.getD u undef]) w:=by
 have c:tmps[p]?.getD undef=r7 g:=by simpa using e
 rw[results_cell_tmp j];simp[c,asAddr,run_loadVar_row w g t a cs fr d i h f hi]
theorem sJ(w:World)(a b c:Obj):Below w.heap.size w (((w.alloc a).alloc b).alloc c):=
 (((aw _ _).alloc (b8 _) _).alloc (by simp) _).alloc (by simp;omega) _
theorem Gy(w:World)(a b c:Obj):(((w.alloc a).alloc b).alloc c).heap[w.heap.size+1+1]?=some c:=by
 have:w.heap.size+1+1=((w.alloc a).alloc b).heap.size:=by simp
 rw[this];exact an _ _
theorem Jz(w:World)(a b:Int×Int)(e:kK a.2)(d:kK b.1):
  Calls prog 53 #[.agg #[rv a.1,rv a.2],.agg #[rv b.1,rv b.2]] w (UD a b w):=by
 obtain⟨o,c⟩:=a;obtain⟨g,i⟩:=b;unfold UD wO;unfold kK at e d;simp only at e d⊢;obtain⟨m,l⟩:=e;obtain⟨n,k⟩:=d;by_cases j:c<g
 ·by_cases f:c+1<g
  ·rw[fi ⟨j,f⟩];go_enter func53,ntmps53;go_wp2_with fail;refine dj (ax rfl _ _ _ _ _ _ _ rfl (Gy _ _ _ _) underlying80 rfl (by kernel_rfl)) rfl ⟨sJ _ _ _ _,rfl⟩
  ·rw[ff (fun h=>f h.2)];rcases Int.lt_or_le c i with h|h
   ·rw[Int.max_eq_right (by omega)];go_enter func53,ntmps53;go_wp2_with fail;refine dj (ax rfl _ _ _ _ _ _ _ rfl (Gy _ _ _ _) underlying80 rfl (by kernel_rfl)) rfl ⟨sJ _ _ _ _,rfl⟩
   ·rw[Int.max_eq_left (by omega)];go_enter func53,ntmps53;go_wp2_with fail;refine dj (ax rfl _ _ _ _ _ _ _ rfl (Gy _ _ _ _) underlying80 rfl (by kernel_rfl)) rfl ⟨sJ _ _ _ _,rfl⟩
 ·rw[ff (fun h=>j h.1)];rcases Int.lt_or_le c i with h|h
  ·rw[Int.max_eq_right (by omega)];go_enter func53,ntmps53;go_wp2_with fail;refine dj (ax rfl _ _ _ _ _ _ _ rfl (Gy _ _ _ _) underlying80 rfl (by kernel_rfl)) rfl ⟨sJ _ _ _ _,rfl⟩
  ·rw[Int.max_eq_left (by omega)];go_enter func53,ntmps53;go_wp2_with fail;refine dj (ax rfl _ _ _ _ _ _ _ rfl (Gy _ _ _ _) underlying80 rfl (by kernel_rfl)) rfl ⟨sJ _ _ _ _,rfl⟩
theorem Tryz.sK:(prog.info? 68).map (fun i=>(i.zero,i.size,i.bytes))=some (some (.agg #[.bool false,rv 0,.string ⟨#[]⟩,rv 0,rv 0]),5,48):=by kernel_rfl
theorem Tryz.Gz:(prog.info? 80).map (fun i=>(i.zero,i.size,i.bytes))=some (some (.agg #[rv 0,rv 0]),2,16):=by kernel_rfl
def sL(a:Int)(b:Bool)(x:Int×Int):Cl:=⟨b,a,[],x.1,x.2⟩
def Cc(l:List Cl)(w:World)(e:Ending)(w':World):Prop:=
 ∃A c,e=.returned (.slice A l.length c)/\w'.ownsRow w.heap.size 68 5 (.slice A l.length c) l.length (l.map Cl.cells).flatten/\Below w.heap.size w w'
def NT(w:World)(a:Int)(b:Bool)(l:List (Int×Int))(k:Nat)(v:Value)(w':World):Prop:=
 w'.ownsRow w.heap.size 68 5 v k (((l.take k).map (sL a b)).map Cl.cells).flatten/\Below w.heap.size w w'
theorem wP(w:World)(F:Nat->Prop)(aL:Int)(YN:Bool)(v:Value)(l:List (Int×Int))(h:mK w F v l)(hl:l.length<=10000000):
  Calls prog 25 #[rv aL,.bool YN,v] w (Cc (l.map (sL aL YN)) w):=by
 obtain⟨i0,hi,hz0,hz1,hz2⟩:=ef Tryz.sK;obtain⟨A,c,rfl,hnc,hcm⟩:=h.slice;have H:=al h;clear h;go_enter func25,ntmps25;go_wp2
 go_loopw [7,12] (fun v i wr=> ∃k,k<=l.length/\i=rv (k:Int)/\NT w aL YN l k v wr) (fun _ i _=>l.length-(intOf i).toNat)
 case atStart=>exact⟨0,dq _,rfl,ea _ _ _ _,aw _ _⟩
 case round=>
  obtain⟨k,hk,rfl,hown,hbl⟩:=hrel;by_cases hlt:k<l.length
  ·obtain⟨x,hx⟩: ∃x,l[k]?=some x:=⟨_,ao hlt⟩;obtain⟨b,o,rfl,hF,c0,c1⟩:=H.o.at_ hx;have hb:b<w.heap.size:=aq w _ c0;have c0':=(hbl.cell (p:=⟨b,o+k*2,none⟩) hb).x c0;have c1':=(hbl.cell (p:=⟨b,o+k*2+1,none⟩) hb).x c1;have HB:=al hx;have hb2:Below wr.heap.size wr ((wr.alloc (sn x.1 x.2)).alloc (sl YN aL (#[]) x.1 x.2)):=((aw _ _).alloc (b8 _) _).alloc (by simp) _;have hown':=bD hown hb2;have hnews:=eb (an (wr.alloc (sn x.1 x.2)) (sl YN aL (#[]) x.1 x.2));rw[show(wr.alloc (sn x.1 x.2)).heap.size=wr.heap.size+1 by simp]at hnews;have HOWN:=AN hown' hnews hown hb2;have Sb:=al hbl;have yP:=al hi;clear hx c0 c1 hown hown' hnews hb2 hbl;go_wp2_with (at_builtin;go_loud (refine ep _ rfl _ _ 27 rfl w.heap.size 68 i0 _ 5 48 underlying27 yP.o hz0 hz1 hz2 rfl (by decide) u7 k _ rfl HOWN.o.1 ⟨wr.heap.size+1,0,none⟩ 1 1 [.bool YN,rv aL,.string ⟨#[]⟩,rv x.1,rv x.2] rfl rfl HOWN.o.2.1 (by simp[Value.oneCell']) (by decide) (by unfold maxLen;omega) (by omega) (by have:=Sb.o.size;simp;omega) _ rfl ?_);intro g cap w1 hown1 hgrow1 jA pU);go_roundw
   case rel=>
    refine⟨k+1,by omega,by go_num,?_,?_⟩
    ·have htk:l.take (k+1)=l.take k++[x]:=by rw[ir,HB.o];rfl
     rw[htk];simpa[sL,Cl.cells]using hown1
    ·have hs:=Sb.o.size;exact((Sb.o.alloc (by omega) _).alloc (by simp;omega) _).grown hgrow1 (by simp;omega) (fun j hj=>(HOWN.o.d.1.lt j hj).1)
   case measure=>simp[intOf];omega
  ·have hkl:k=l.length:=by omega
   subst hkl;go_wp2;go_ret
   rw[gn]at hown;obtain⟨A',c',rfl⟩:=ar hown;exact⟨A',c',by simp,by simpa using hown,hbl⟩
theorem Au{w:World}{B:Nat}{e h f a v0 v1 v2 v3:Value}{t:TypeId}(i:w.heap[B]?=some (.cells #[e,h,f,a] t (0,0))):
  ((((w.setCell ⟨B,0,none⟩ v0).setCell ⟨B,1,none⟩ v1).setCell ⟨B,2,none⟩ v2).setCell ⟨B,3,none⟩ v3).heap[B]?=some (.cells #[v0,v1,v2,v3] t (0,0)):=by
 have d:=dd w B 0 _ t v0 i;have g:=dd _ B 1 _ t v1 d;have c:=dd _ B 2 _ t v2 g;have b:=dd _ B 3 _ t v3 c;simpa using b
theorem pA(w:World)(o:Obj):Below w.heap.size w (w.alloc o):=(aw _ _).alloc (b8 _) _
theorem lV(w:World)(n M i:Nat)(v:Value):Only (fun k=>k=M) w ((w.drewN n).setCell ⟨M,i,none⟩ v):=((oT (fun k=>k=M) w).drewN n).setCell (p:=⟨M,i,none⟩) (fun _=>rfl) v
theorem bg(w:World)(M i:Nat)(v:Value):Only (fun k=>k=M) w (w.setCell ⟨M,i,none⟩ v):=(oT (fun k=>k=M) w).setCell (p:=⟨M,i,none⟩) (fun _=>rfl) v
theorem aP{w:World}{k:Nat}{o:Obj}(h:w.heap[k]?=some o):k<w.heap.size:=(cq.1 h).1
def Rw.val(r:Rw):Value:=.agg #[rv r.a,rv r.b,rv r.c,rv r.d]
theorem cV{P:Program}{b:Func}{p u x:Tmp}{a:TypeId}(j:b.results= #[.cell p a,.tmp u,.tmp x])(tmps:Array Value)(w:World)(g:Nat)(t:TypeId)(cs:Array Value)(fr:Nat×Nat)(d:TypeDesc)
  (e:tmps.getD p undef=r7 g) (i:w.heap[g]?=some (.cells cs t fr))
  (h:P.underlying a=some d) (f:(match d with| .struct _| .array _ _=>true|_=>false)=true) (hi:(P.info? a).map (·.size)=some cs.size):
  (results b tmps).run P w=.ok (.tuple #[.agg cs,tmps.getD u undef,tmps.getD x undef]) w:=by
 have c:tmps[p]?.getD undef=r7 g:=by simpa using e
 simp only[results,j];simp[Result.andThen,c,asAddr,run_loadVar_row w g t a cs fr d i h f hi]
theorem cX{w:World}{R:Nat}{a b c d:Value}{t:TypeId}(e:w.heap[R]?=some (.cells #[a,b,c,d] t (0,0))):
  (w.cell? ⟨R,0,none⟩=some a/\w.cell? ⟨R,1,none⟩=some b/\w.cell? ⟨R,2,none⟩=some c/\w.cell? ⟨R,3,none⟩=some d)/\w.frozen? ⟨R,0,none⟩=false/\w.frozen? ⟨R,1,none⟩=false/\w.frozen? ⟨R,2,none⟩=false/\w.frozen? ⟨R,3,none⟩=false:=by
 simp[World.cell?,World.frozen?,e]
def uG(c:Nat):Option Rw->Option Rw->List Cl
 |some o,some n=>if o.aL c=n.aL c then[]else[⟨true,c,[],o.aL c,o.aL c⟩,⟨true,c,[],n.aL c,n.aL c⟩]
 |some o,none=>[⟨true,c,[],o.aL c,o.aL c⟩]
 |none,some n=>[⟨true,c,[],n.aL c,n.aL c⟩]
 |none,none=>[]
def ig(k:List UInt8)(old now:Option Rw):List Cl:=
 ⟨true,-1,k,0,0⟩::((if old.isSome=now.isSome then[]else[⟨true,-1,[35],0,0⟩])++(uG 0 old now++(uG 1 old now++(uG 2 old now++uG 3 old now))))
def kM(k:List UInt8)(old now:Option Rw):Nat->List Cl
 |0=>[⟨true,-1,k,0,0⟩]++(if old.isSome=now.isSome then[]else[⟨true,-1,[35],0,0⟩])
 |c+1=>kM k old now c++uG c old now
theorem wQ(k:List UInt8)(old now:Option Rw):kM k old now 4=ig k old now:=by simp[kM,ig]
theorem NU(c:Nat)(old now:Option Rw):(uG c old now).length<=2:=by unfold uG;cases old<;>cases now<;>simp;split<;>simp
theorem qE(k:List UInt8)(old now:Option Rw): ∀c,(kM k old now c).length<=2+2*c
 |0=>by simp only[kM];split<;>simp
 |c+1=>by have a:=qE k old now c;have b:=NU c old now;simp only[kM,gk];omega
end Go.Proofs.YtehccbdajiiaaaaGreatDoor
