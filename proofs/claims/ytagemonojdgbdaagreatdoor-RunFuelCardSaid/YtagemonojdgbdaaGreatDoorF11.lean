import Derived.Test.YtagemonojdgbdaaGreatDoorF01
import Derived.Test.YtagemonojdgbdaaGreatDoorF03
import Derived.Test.YtagemonojdgbdaaGreatDoorProg
import Derived.Deep.SlicePairs
import Derived.Deep.CutRange
namespace Go.Proofs.YtagemonojdgbdaaGreatDoor
set_option maxRecDepth 100000
set_option maxHeartbeats 16000000
open Go.RowKit
def cd(k:Nat)(w:World)(F:Nat->Prop)(v:Value)(xs:List (List Value)):Prop:=
 ∃(A:Option Addr) (n c:Nat),v=.slice A n c/\xs.length=n/\n<=c/\c<=maxLen/\
  (0<n-> ∃b o,A=some ⟨b,o,none⟩/\F b/\ ∀i x,xs[i]?=some x-> ∀j u,x[j]?=some u->w.cell? ⟨b,o+(i*k+j),none⟩=some u)
section
variable{k:Nat}{F G S:Nat->Prop}{w w':World}{v:Value}{xs:List (List Value)}
theorem cd.mono(h:cd k w F v xs)(hF: ∀k,F k->G k):cd k w G v xs:=by obtain⟨A,n,c,hv,hl,hc,hm,hx⟩:=h;exact⟨A,n,c,hv,hl,hc,hm,fun hn=>let⟨b,o,e,hb,hu⟩:=hx hn;⟨b,o,e,hF b hb,hu⟩⟩
theorem cd.only(h:cd k w F v xs)(ho:Only S w w')(hd: ∀k,F k-> ¬S k):cd k w' F v xs:=by obtain⟨A,n,c,hv,hl,hc,hm,hx⟩:=h;exact⟨A,n,c,hv,hl,hc,hm,fun hn=>let⟨b,o,e,hb,hu⟩:=hx hn;⟨b,o,e,hb,fun i x hi j u hj=>ho.cell (hu i x hi j u hj) (hd b hb)⟩⟩
theorem cd.below(h:cd k w F v xs)(hb:Below w.heap.size w w'):cd k w' F v xs:=h.only (oy hb fun _=>False) (fun _ _=>id)
theorem cd.nil(k:Nat)(w:World)(F:Nat->Prop):cd k w F (.slice none 0 0) []:=⟨none,0,0,rfl,rfl,aq _,by simp[maxLen],fun h=>absurd h (by omega)⟩
theorem jl(hk: ∀x∈xs,x.length=k): ∀(i:Nat) (x:List Value),xs[i]?=some x-> ∀(j:Nat) (u:Value),x[j]?=some u->xs.flatten[i*k+j]?=some u:=by
 induction xs with
 |nil=>intro i x hi;simp at hi
 |cons y ys ih=>
  intro i x hi j u hj;have hy:=hk y (by simp)
  cases i with
  |zero=>simp at hi;subst hi;rw[List.flatten_cons,lr (by have:=(List.getElem?_eq_some_iff.1 hj).1;omega)];simpa using hj
  |succ i=>have h1:=ih (fun z hz=>hk z (by simp[hz])) i x (by simpa using hi) j u hj;rw[List.flatten_cons,kd (by rw[hy,kh];omega)];rw[<-h1];congr 1;rw[hy,kh];omega
theorem p8(hk: ∀x∈xs,x.length=k):xs.flatten.length=xs.length*k:=by
 induction xs with
 |nil=>simp
 |cons y ys ih=>rw[List.flatten_cons,gk,ih (fun z hz=>hk z (by simp[hz])),hk y (by simp),iS,kh];omega
theorem cd.cP{base:Nat}{e:TypeId}{n:Nat}(h:w.ownsRow base e k v n xs.flatten)(hk: ∀x∈xs,x.length=k)(dX:0<k)(hF: ∀g,v.ownBlock=some g->F g):cd k w F v xs:=by
 have hl:xs.length=n:=by have h1:=h.1;rw[p8 hk]at h1;exact Nat.eq_of_mul_eq_mul_right dX h1
 rcases h.2 with⟨rfl,rfl⟩|⟨g,cap,cur,rfl,_,hg,hn,hc,hs,ht⟩
 ·have:xs=[]:=db hl;subst this;exact cd.nil k w F
 ·refine⟨_,_,_,rfl,hl,hn,hc,fun _=>⟨g,0,rfl,hF g rfl,fun i x hx j u hu=>?_⟩⟩;have hf:=jl hk i x hx j u hu;have:=h.cells (g:=g) rfl _ u hf;unfold Addr.add at this;split at this
  ·rename_i h0;rw[h0];simpa using this
  ·simpa using this
theorem cd.flat(h:cd k w F v xs)(hk: ∀x∈xs,x.length=k)(dX:0<k): ∀A n c,v=.slice A n c-> ∀a,A=some a-> ∀j u,xs.flatten[j]?=some u->w.cell? (a.add j)=some u:=by
 obtain⟨A',n',c',hv',hl,hc,hm,hx⟩:=h;intro A n c hv a ha j u hj;rw[hv']at hv;injection hv with h1 h2 h3;subst h1;subst h2;subst h3;have hlt:=(b8.1 hj).1;rw[p8 hk]at hlt
 have hpos:0<n':=by
  rcases Nat.eq_zero_or_pos n' with h0|h0
  ·rw[hl,h0]at hlt;omega
  ·exact h0
 obtain⟨b,o,e,_,hu⟩:=hx hpos;rw[ha]at e;injection e with e;subst e;have hi:j/k<xs.length:=(Nat.div_lt_iff_lt_mul dX).2 hlt;have hx1:xs[j/k]?=some xs[j/k]:=ao hi;have hlen:=hk _ (List.getElem_mem hi);have hm2:j%k<k:=Nat.mod_lt _ dX;have hx2:(xs[j/k])[j%k]?=some ((xs[j/k])[j%k]'(by omega)):=ao (by omega);have h3:=jl hk _ _ hx1 _ _ hx2;have hjm:j/k*k+j%k=j:=by rw[Nat.mul_comm];exact Nat.div_add_mod j k
 rw[hjm,hj]at h3;injection h3 with h3;have h4:=hu _ _ hx1 _ _ hx2;rw[hjm,<-h3]at h4;unfold Addr.add;split
 ·rename_i h0;rw[h0]at h4;simpa using h4
 ·simpa using h4
end
section
variable{P:Program}(w:World)
theorem jM(base:Nat)(t ty e:TypeId)(i:TypeInfo)(z:Value)(k bytes:Nat)(ht:P.underlying t=some (.slice e))(hi:P.info? e=some i)(hz:i.zero=some z)
  (hsize:i.size=k) (hby:i.bytes=bytes) (hzs:z.cells.size=k) (dX:0<k)
  (v:Value) (n:Nat) (xs:List Value) (hown:w.ownsRow base e k v n xs) (F:Nat->Prop) (x:Value) (news:List (List Value)) (hr:cd k w F x news) (hk: ∀y∈news,y.length=k) (h1: ∀u∈news.flatten,u.oneCell'=true)
  (hbytes:(n+news.length)*bytes<=140737488355328) (h63:n+news.length<=maxLen) (hbase:base<=w.heap.size):
  ∃v' w',(Builtin.append_ #[t,t] ty #[v,x]).run P w=.ok v' w'/\w'.ownsRow base e k v' (n+news.length) (xs++news.flatten)/\w.grownBy w' v.ownBlock/\
   (v'.ownBlock=v.ownBlock\/v'.ownBlock=some w.heap.size):=by
 have hfl:=hr.flat hk dX;obtain⟨A,m,c,rfl,hl,hc,hm,hx⟩:=hr;subst hl;rcases A with _|ad
 ·have hm0:news.length=0:=by
   rcases Nat.eq_zero_or_pos news.length with h0|h0
   ·exact h0
   ·obtain⟨b,o,h,_⟩:=hx h0;cases h
  have hn:news=[]:=db hm0;subst hn;exact⟨v,w,kC w base t ty e i k ht hi v n xs hown c,by simpa using hown,World.grownBy.refl w _,.inl rfl⟩
 ·obtain⟨v',w',hrun,h2,h3,_,h5⟩:=run_append_own_at (P:=P) w base t ty e i z k bytes ht hi hz hsize hby hzs dX v n xs hown ad news.length c news.flatten (p8 hk) (hfl _ _ _ rfl ad rfl) h1 h63 hbytes hbase;exact⟨v',w',hrun,h2,h3,h5⟩
theorem cO{ops:Array Oper}{rest:List Oper}{o:Oper}{a:Act}{Q:Exit->Act->World->Prop}(hgd:o.guard=none)(s x:Operand)(t:TypeId)
  (ho:o.op=.call {callee:=.builtin .append,args:= #[s,x],argTypes:= #[t,t]})
  (base:Nat) (e:TypeId) (i:TypeInfo) (z:Value) (k bytes:Nat) (ht:P.underlying t=some (.slice e)) (hi:P.info? e=some i) (hz:i.zero=some z)
  (hsize:i.size=k) (hby:i.bytes=bytes) (hzs:z.cells.size=k) (dX:0<k)
  (v:Value) (n:Nat) (xs:List Value) (hs:a.eval s=v) (hown:w.ownsRow base e k v n xs) (F:Nat->Prop) (vx:Value) (news:List (List Value)) (hx:a.eval x=vx) (hr:cd k w F vx news) (hk: ∀y∈news,y.length=k) (h1: ∀u∈news.flatten,u.oneCell'=true)
  (hbytes:(n+news.length)*bytes<=140737488355328) (h63:n+news.length<=maxLen) (hbase:base<=w.heap.size)
  (h: ∀v' w',w'.ownsRow base e k v' (n+news.length) (xs++news.flatten)->w.grownBy w' v.ownBlock->(v'.ownBlock=v.ownBlock\/v'.ownBlock=some w.heap.size)->wpList P ops Q rest (a.put o.dst v') w'):wpList P ops Q (o::rest) a w:=
 wpList_plain hgd fun K hK=>by obtain⟨v',w',hrun,h2,h3,h4⟩:=jM (P:=P) w base t o.type e i z k bytes ht hi hz hsize hby hzs dX v n xs hown F vx news hr hk h1 hbytes h63 hbase;unfold Oper.wp execOp;simp only[ho,resolve,invoke,builtin,Sem.run_bind,Sem.run_pure,Result.andThen_ok,List.map_toArray,lx,kb,hs,hx,hrun];exact hK _ _ (h v' w' h2 h3 h4)
end
structure Cl where
 wr:Bool
 aK:Int
 key:List UInt8
 lo:Int
 hi:Int
deriving DecidableEq
def Cl.cells(c:Cl):List Value:=[.bool c.wr,.int .i64 c.aK,.string ⟨c.key.toArray⟩,.int .i64 c.lo,.int .i64 c.hi]
def Cl.val(c:Cl):Value:=.agg #[.bool c.wr,.int .i64 c.aK,.string ⟨c.key.toArray⟩,.int .i64 c.lo,.int .i64 c.hi]
def jN(n:Int):Prop:= -9223372036854775808<=n/\n<=9223372036854775807
def Cl.fits(c:Cl):Prop:=jN c.aK/\jN c.lo/\jN c.hi/\c.key.length<=maxLen
def kX(x:Int×Int):List Value:=[.int .i64 x.1,.int .i64 x.2]
def lD(w:World)(F:Nat->Prop)(v:Value)(l:List (Int×Int)):Prop:=cd 2 w F v (l.map kX)
def dJ(w:World)(F:Nat->Prop)(v:Value)(l:List Cl):Prop:=cd 5 w F v (l.map Cl.cells)
theorem kG(l:List (Int×Int)): ∀x∈l.map kX,x.length=2:=by intro x hx;obtain⟨y,_,rfl⟩:=ep.1 hx;rfl
theorem di(l:List Cl): ∀x∈l.map Cl.cells,x.length=5:=by intro x hx;obtain⟨y,_,rfl⟩:=ep.1 hx;rfl
theorem lD.at_{w:World}{F:Nat->Prop}{A:Option Addr}{n c:Nat}{l:List (Int×Int)}(h:lD w F (.slice A n c) l){k:Nat}{x:Int×Int}(hk:l[k]?=some x):
  ∃b o,A=some ⟨b,o,none⟩/\F b/\w.cell? ⟨b,o+k*2,none⟩=some (.int .i64 x.1)/\w.cell? ⟨b,o+k*2+1,none⟩=some (.int .i64 x.2):=by
 obtain⟨A',n',c',hv,hl,_,_,hx⟩:=h;injection hv with h1 h2 h3;subst h1 h2 h3;have hlt:=(b8.1 hk).1;obtain⟨b,o,rfl,hF,hc⟩:=hx (by simp at hl;omega);exact⟨b,o,rfl,hF,hc k (kX x) (by simp[hk]) 0 _ rfl,hc k (kX x) (by simp[hk]) 1 _ rfl⟩
theorem dJ.at_{w:World}{F:Nat->Prop}{A:Option Addr}{n c:Nat}{l:List Cl}(h:dJ w F (.slice A n c) l){k:Nat}{x:Cl}(hk:l[k]?=some x):
  ∃b o,A=some ⟨b,o,none⟩/\F b/\w.cell? ⟨b,o+k*5,none⟩=some (.bool x.wr)/\w.cell? ⟨b,o+k*5+1,none⟩=some (.int .i64 x.aK)/\w.cell? ⟨b,o+k*5+2,none⟩=some (.string ⟨x.key.toArray⟩)/\
   w.cell? ⟨b,o+k*5+3,none⟩=some (.int .i64 x.lo)/\w.cell? ⟨b,o+k*5+4,none⟩=some (.int .i64 x.hi):=by
 obtain⟨A',n',c',hv,hl,_,_,hx⟩:=h;injection hv with h1 h2 h3;subst h1 h2 h3;have hlt:=(b8.1 hk).1;obtain⟨b,o,rfl,hF,hc⟩:=hx (by simp at hl;omega);have hx':(l.map Cl.cells)[k]?=some x.cells:=by simp[hk]
 exact⟨b,o,rfl,hF,hc k _ hx' 0 _ rfl,hc k _ hx' 1 _ rfl,hc k _ hx' 2 _ rfl,hc k _ hx' 3 _ rfl,hc k _ hx' 4 _ rfl⟩
theorem lD.slice{w:World}{F:Nat->Prop}{v:Value}{l:List (Int×Int)}(h:lD w F v l): ∃A c,v=.slice A l.length c/\l.length<=c/\c<=maxLen:=by obtain⟨A',n',c',hv,hl,h1,h2,_⟩:=h;simp at hl;subst hl;exact⟨A',c',hv,h1,h2⟩
theorem dJ.slice{w:World}{F:Nat->Prop}{v:Value}{l:List Cl}(h:dJ w F v l): ∃A c,v=.slice A l.length c/\l.length<=c/\c<=maxLen:=by obtain⟨A',n',c',hv,hl,h1,h2,_⟩:=h;simp at hl;subst hl;exact⟨A',c',hv,h1,h2⟩
theorem kY(l:List Cl): ∀u∈(l.map Cl.cells).flatten,u.oneCell'=true:=by intro u hu;obtain⟨x,hx,hu⟩:=List.mem_flatten.1 hu;obtain⟨c,_,rfl⟩:=ep.1 hx;simp[Cl.cells]at hu;rcases hu with rfl|rfl|rfl|rfl|rfl<;>rfl
def cQ(k:List UInt8):Int:=if k.length<1\/16<k.length then 13 else 0
def BS(c:Cl):Int:=
 if c.aK< -1\/4<=c.aK then 10
 else if 0<=c.aK then(if c.key≠[]\/c.hi<c.lo then 10 else 0)
 else if c.lo≠0\/c.hi≠0 then 10
 else cQ c.key
theorem dm(w:World)(k:List UInt8):
  Calls Tryz.prog 72 #[.string ⟨k.toArray⟩] w fun e w'=>e=.returned (.int .i64 (cQ k))/\w=w':=by
 unfold cQ;by_cases h1:k.length<1
 ·rw[fi (.inl h1)];go_enter Tryz.func72,Tryz.ntmps72;go_wp2_with fail;go_ret
  exact⟨rfl,rfl⟩
 ·by_cases h2:16<k.length
  ·rw[fi (.inr h2)];go_enter Tryz.func72,Tryz.ntmps72;go_wp2_with fail;go_ret
   exact⟨rfl,rfl⟩
  ·rw[ff (by omega)];go_enter Tryz.func72,Tryz.ntmps72;go_wp2_with fail;go_ret
   exact⟨rfl,rfl⟩
theorem KC(w:World)(c:Cl):
  Calls Tryz.prog 67 #[c.val] w fun e w'=>e=.returned (.int .i64 (BS c))/\Below w.heap.size w w':=by
 obtain⟨wr,aK,key,lo,hi⟩:=c;unfold Cl.val BS;simp only;by_cases h1:aK< -1\/4<=aK
 ·rw[fi h1];rcases h1 with h1|h1
  ·go_enter Tryz.func67,Tryz.ntmps67;go_wp2_with fail;go_ret
   exact⟨rfl,(aw _ _).alloc (aq _) _⟩
  ·go_enter Tryz.func67,Tryz.ntmps67;go_wp2_with fail;go_ret
   exact⟨rfl,(aw _ _).alloc (aq _) _⟩
 ·rw[ff h1];by_cases h2:0<=aK
  ·rw[fi h2];have h3: ¬aK< -1:=fun h=>h1 (.inl h);have h4: ¬4<=aK:=fun h=>h1 (.inr h);clear h1;by_cases h5:key≠[]
   ·rw[fi (.inl h5)];go_enter Tryz.func67,Tryz.ntmps67;go_wp2_with fail;go_ret
    exact⟨rfl,(aw _ _).alloc (aq _) _⟩
   ·have h6:key=[]:=by simpa using h5
    subst h6;clear h5;by_cases h7:hi<lo
    ·rw[fi (.inr h7)];go_enter Tryz.func67,Tryz.ntmps67;go_wp2_with fail;go_ret
     exact⟨rfl,(aw _ _).alloc (aq _) _⟩
    ·rw[ff (by simpa using h7)];go_enter Tryz.func67,Tryz.ntmps67;go_wp2_with fail;go_ret
     exact⟨rfl,(aw _ _).alloc (aq _) _⟩
  ·rw[ff h2];have h3: ¬aK< -1:=fun h=>h1 (.inl h);have h4: ¬4<=aK:=fun h=>h1 (.inr h);clear h1;by_cases h5:lo≠0
   ·rw[fi (.inl h5)];go_enter Tryz.func67,Tryz.ntmps67;go_wp2_with fail;go_ret
    exact⟨rfl,(aw _ _).alloc (aq _) _⟩
   ·by_cases h6:hi≠0
    ·rw[fi (.inr h6)];go_enter Tryz.func67,Tryz.ntmps67;go_wp2_with fail;go_ret
     exact⟨rfl,(aw _ _).alloc (aq _) _⟩
    ·rw[ff (by simp at h5 h6;simp[h5,h6])];have hlo:lo=0:=by simpa using h5
     have hhi:hi=0:=by simpa using h6
     subst hlo hhi;clear h5 h6;go_enter Tryz.func67,Tryz.ntmps67;go_wp2_with fail;refine(dm _ _).mono ?_;rintro e w' ⟨rfl,rfl⟩;go_wp2_with fail;go_ret
     exact⟨rfl,(aw _ _).alloc (aq _) _⟩
def ui(a b:Int×Int):Option (Int×Int):=if a.2<b.1/\a.2+1<b.1 then none else some (a.1,max a.2 b.2)
def Qo(a b:Int×Int)(w:World)(e:Ending)(w':World):Prop:=
 Below w.heap.size w w'/\match ui a b with
  |none=>e=.returned (.tuple #[.agg #[.int .i64 0,.int .i64 0],.bool false])
  |some x=>e=.returned (.tuple #[.agg #[.int .i64 x.1,.int .i64 x.2],.bool true])
theorem aC{P:Program}{fn:Func}{p u:Tmp}{ty:TypeId}(h:fn.results= #[.cell p ty,.tmp u])(tmps:Array Value)(w:World)(g:Nat)(t:TypeId)(cs:Array Value)(fr:Nat×Nat)(d:TypeDesc)
  (hp:tmps.getD p undef=.pointer (some ⟨g,0,none⟩)) (hg:w.heap[g]?=some (.cells cs t fr))
  (hu:P.underlying ty=some d) (hd:(match d with| .struct _| .array _ _=>true|_=>false)=true) (hi:(P.info? ty).map (·.size)=some cs.size):
  (results fn tmps).run P w=.ok (.tuple #[.agg cs,tmps.getD u undef]) w:=by
 have hp':tmps[p]?.getD undef=.pointer (some ⟨g,0,none⟩):=by simpa using hp
 rw[results_cell_tmp h];simp[hp',asAddr,run_loadVar_row w g t ty cs fr d hg hu hd hi]
theorem uj(w:World)(a b c:Obj):Below w.heap.size w (((w.alloc a).alloc b).alloc c):=
 (((aw _ _).alloc (aq _) _).alloc (by simp) _).alloc (by simp;omega) _
theorem Ij(w:World)(a b c:Obj):(((w.alloc a).alloc b).alloc c).heap[w.heap.size+1+1]?=some c:=by
 have:w.heap.size+1+1=((w.alloc a).alloc b).heap.size:=by simp
 rw[this];exact an _ _
theorem F8(w:World)(a b:Int×Int)(ha:jN a.2)(hb:jN b.1):
  Calls Tryz.prog 120 #[.agg #[.int .i64 a.1,.int .i64 a.2],.agg #[.int .i64 b.1,.int .i64 b.2]] w (Qo a b w):=by
 obtain⟨a1,a2⟩:=a;obtain⟨b1,b2⟩:=b;unfold Qo ui;unfold jN at ha hb;simp only at ha hb⊢;obtain⟨ha1,ha2⟩:=ha;obtain⟨hb1,hb2⟩:=hb;by_cases h1:a2<b1
 ·by_cases h2:a2+1<b1
  ·rw[fi ⟨h1,h2⟩];go_enter Tryz.func120,Tryz.ntmps120;go_wp2_with fail;refine dq (aC rfl _ _ _ _ _ _ _ rfl (Ij _ _ _ _) Tryz.underlying178 rfl (by kernel_rfl)) rfl ⟨uj _ _ _ _,rfl⟩
  ·rw[ff (fun h=>h2 h.2)];rcases Int.lt_or_le a2 b2 with h|h
   ·rw[Int.max_eq_right (by omega)];go_enter Tryz.func120,Tryz.ntmps120;go_wp2_with fail;refine dq (aC rfl _ _ _ _ _ _ _ rfl (Ij _ _ _ _) Tryz.underlying178 rfl (by kernel_rfl)) rfl ⟨uj _ _ _ _,rfl⟩
   ·rw[Int.max_eq_left (by omega)];go_enter Tryz.func120,Tryz.ntmps120;go_wp2_with fail;refine dq (aC rfl _ _ _ _ _ _ _ rfl (Ij _ _ _ _) Tryz.underlying178 rfl (by kernel_rfl)) rfl ⟨uj _ _ _ _,rfl⟩
 ·rw[ff (fun h=>h1 h.1)];rcases Int.lt_or_le a2 b2 with h|h
  ·rw[Int.max_eq_right (by omega)];go_enter Tryz.func120,Tryz.ntmps120;go_wp2_with fail;refine dq (aC rfl _ _ _ _ _ _ _ rfl (Ij _ _ _ _) Tryz.underlying178 rfl (by kernel_rfl)) rfl ⟨uj _ _ _ _,rfl⟩
  ·rw[Int.max_eq_left (by omega)];go_enter Tryz.func120,Tryz.ntmps120;go_wp2_with fail;refine dq (aC rfl _ _ _ _ _ _ _ rfl (Ij _ _ _ _) Tryz.underlying178 rfl (by kernel_rfl)) rfl ⟨uj _ _ _ _,rfl⟩
theorem Tryz.l7:(Tryz.prog.info? 48).map (fun i=>(i.zero,i.size,i.bytes))=some (some (.agg #[.bool false,.int .i64 0,.string ⟨#[]⟩,.int .i64 0,.int .i64 0]),5,48):=by kernel_rfl
theorem Tryz.DX:(Tryz.prog.info? 178).map (fun i=>(i.zero,i.size,i.bytes))=some (some (.agg #[.int .i64 0,.int .i64 0]),2,16):=by kernel_rfl
def qZ(aK:Int)(wr:Bool)(x:Int×Int):Cl:=⟨wr,aK,[],x.1,x.2⟩
def zl(l:List Cl)(w:World)(e:Ending)(w':World):Prop:=
 ∃A c,e=.returned (.slice A l.length c)/\w'.ownsRow w.heap.size 48 5 (.slice A l.length c) l.length (l.map Cl.cells).flatten/\Below w.heap.size w w'
def KD(w:World)(aK:Int)(wr:Bool)(l:List (Int×Int))(k:Nat)(v:Value)(w':World):Prop:=
 w'.ownsRow w.heap.size 48 5 v k (((l.take k).map (qZ aK wr)).map Cl.cells).flatten/\Below w.heap.size w w'
theorem uk(w:World)(F:Nat->Prop)(aK:Int)(TF:Bool)(v:Value)(l:List (Int×Int))(h:lD w F v l)(hl:l.length<=10000000):
  Calls Tryz.prog 70 #[.int .i64 aK,.bool TF,v] w (zl (l.map (qZ aK TF)) w):=by
 obtain⟨i0,hi,hz0,hz1,hz2⟩:=eC Tryz.l7;obtain⟨A,c,rfl,hnc,hcm⟩:=h.slice;have H:=al h;clear h;go_enter Tryz.func70,Tryz.ntmps70;go_wp2_with fail
 go_loopw [7,12] (fun v i wr=> ∃k,k<=l.length/\i=.int .i64 (k:Int)/\KD w aK TF l k v wr) (fun _ i _=>l.length-(intOf i).toNat)
 case atStart=>exact⟨0,dj _,rfl,ee _ _ _ _,aw _ _⟩
 case round=>
  obtain⟨k,hk,rfl,hown,hbl⟩:=hrel;by_cases hlt:k<l.length
  ·obtain⟨x,hx⟩: ∃x,l[k]?=some x:=⟨_,ao hlt⟩;obtain⟨b,o,rfl,hF,c0,c1⟩:=H.out.at_ hx;have hb:b<w.heap.size:=aE w _ c0;have c0':=(hbl.cell (p:=⟨b,o+k*2,none⟩) hb).trans c0;have c1':=(hbl.cell (p:=⟨b,o+k*2+1,none⟩) hb).trans c1;have HB:=al hx;have hb2:Below wr.heap.size wr ((wr.alloc (.cells #[.int .i64 x.1,.int .i64 x.2] 178)).alloc (.cells #[.bool TF,.int .i64 aK,.string ⟨#[]⟩,.int .i64 x.1,.int .i64 x.2] 48)):=((aw _ _).alloc (aq _) _).alloc (by simp) _;have hown':=aX hown hb2;have hnews:=ef (an (wr.alloc (.cells #[.int .i64 x.1,.int .i64 x.2] 178)) (.cells #[.bool TF,.int .i64 aK,.string ⟨#[]⟩,.int .i64 x.1,.int .i64 x.2] 48));rw[show(wr.alloc (.cells #[.int .i64 x.1,.int .i64 x.2] 178)).heap.size=wr.heap.size+1 by simp]at hnews;have HOWN:=al (ab hown' (ab hnews (ab hown hb2)));have Oy:=al hbl;have wC:=al hi;clear hx c0 c1 hown hown' hnews hb2 hbl;go_wp2_with (at_builtin;go_loud (refine ew _ rfl _ _ 37 rfl w.heap.size 48 i0 _ 5 48 Tryz.underlying37 wC.out hz0 hz1 hz2 rfl (by decide) u7 k _ rfl HOWN.out.1 ⟨wr.heap.size+1,0,none⟩ 1 1 [.bool TF,.int .i64 aK,.string ⟨#[]⟩,.int .i64 x.1,.int .i64 x.2] rfl rfl HOWN.out.2.1 (by simp[Value.oneCell']) (by decide) (by unfold maxLen;omega) (by omega) (by have:=Oy.out.size;simp;omega) _ rfl ?_);intro g cap w1 hown1 hgrow1 iV p9);go_roundw
   case rel=>
    refine⟨k+1,by omega,by go_num,?_,?_⟩
    ·have htk:l.take (k+1)=l.take k++[x]:=by rw[kt,HB.out];rfl
     rw[htk];simpa[qZ,Cl.cells]using hown1
    ·have hs:=Oy.out.size;exact((Oy.out.alloc (by omega) _).alloc (by simp;omega) _).grown hgrow1 (by simp;omega) (fun j hj=>(HOWN.out.2.2.1.lt j hj).1)
   case measure=>simp[intOf];omega
  ·have hkl:k=l.length:=by omega
   subst hkl;go_wp2_with fail;go_ret
   rw[ie]at hown;obtain⟨A',c',rfl⟩:=ah hown;exact⟨A',c',by simp,by simpa using hown,hbl⟩
def KE(e:TypeId)(xs:List Value)(w:World)(en:Ending)(w':World):Prop:=
 ∃A c,en=.returned (.slice A xs.length c)/\w'.ownsRow w.heap.size e 1 (.slice A xs.length c) xs.length xs/\Below w.heap.size w w'
theorem Tryz.Qp:(Tryz.prog.info? 5).map (fun i=>(i.zero,i.size,i.bytes))=some (some (.int .u8 0),1,1):=by kernel_rfl
theorem rT(v:Value)(xs:List Value)(F:Nat->Prop)(w:World)(hr:Rd w F v xs)(h1: ∀u∈xs,u.oneCell'=true)(hb:xs.length<=140737488355328):
  Calls Tryz.prog 75 #[v] w (KE 5 xs w):=by
 obtain⟨i0,hi,hz0,hz1,hz2⟩:=eC Tryz.Qp;have hr':=hr;obtain⟨A,n,c,rfl,hl,hnc,hcm,hx⟩:=hr';have hnil:=fun w=>Lib.run_eql_slice_nil (P:=Tryz.prog) w 118 5 A n c 0 0 Tryz.underlying118;have HX:=al hx;have HL:=al hl;clear hx hl;rcases A with _|a
 ·go_enter Tryz.func75,Tryz.ntmps75
  go_wp2
  go_ret
  have:xs=[]:=by
   rcases Nat.eq_zero_or_pos n with h0|h0
   ·exact db (by rw[HL.out,h0])
   ·obtain⟨_,_,h,_⟩:=HX.out h0;cases h
  subst this;exact⟨none,0,rfl,ee _ _ _ _,aw _ _⟩
 ·have hr2:Rd (w.alloc (.cells #[] 5)) F (.slice (some a) n c) xs:=hr.below ((aw _ _).alloc (aq _) _);have hown0:=World.ownsRow_made (e:=5) (base:=w.heap.size) (size:=1) w #[] 0 (aq _) (by simp[maxLen]) rfl;have c1:(0+xs.length)*1<=140737488355328:=by omega
  have c2:0+xs.length<=maxLen:=by simp only[maxLen];omega
  have c3:w.heap.size<=(w.alloc (.cells #[] 5)).heap.size:=by simp
  have C:=al (ab c1 (ab c2 c3));clear c1 c2 c3;go_enter Tryz.func75,Tryz.ntmps75;go_wp2_with (at_builtin;go_loud (refine qN _ rfl _ _ 118 rfl w.heap.size 5 i0 (.int .u8 0) 1 Tryz.underlying118 hi hz0 hz1 hz2 rfl _ 0 [] rfl hown0 F _ xs rfl hr2 h1 C.out.1 C.out.2.1 C.out.2.2 ?_);intro v' w1 hown1 hgrow1 _);go_ret
  simp only[gn,fs]at hown1;obtain⟨A',c',hv⟩:=ah hown1;rw[hv]at hown1⊢;exact⟨A',c',rfl,hown1,((aw _ _).alloc (aq _) _).grown hgrow1 (by simp) (fun k hk=>by have h2:some w.heap.size=some k:=hk;injection h2 with h2;omega)⟩
def iK(w:World)(T:Nat)(n:Int):Prop:=
 ∃N,w.heap[T]?=some (.cells #[.int .i64 n,.int .i64 0,.pointer (some ⟨N,0,none⟩)] 203 (0,0))/\w.heap[N]?=some (.cells #[.slice none 0 0,.slice none 0 0] 201 (0,0))
theorem af(w:World)(o:Obj):Below w.heap.size w (w.alloc o):=(aw _ _).alloc (aq _) _
theorem iK.only{w w':World}{S:Nat->Prop}{T:Nat}{n:Int}(h:iK w T n)(ho:Only S w w')(hS: ∀k cs t,S k->w.heap[k]?=some (.cells cs t (0,0))->t≠203/\t≠201):iK w' T n:=by obtain⟨N,h1,h2⟩:=h;exact⟨N,ho.heap h1 (fun hs=>(hS _ _ _ hs h1).1 rfl),ho.heap h2 (fun hs=>(hS _ _ _ hs h2).2 rfl)⟩
theorem iK.below{w w':World}{T:Nat}{n:Int}(h:iK w T n)(hb:Below w.heap.size w w'):iK w' T n:=by obtain⟨N,h1,h2⟩:=h;exact⟨N,pw hb h1,pw hb h2⟩
theorem DY(w:World)(n:Int)(h1:2<=n)(h2:n<=16):Calls Tryz.prog 57 #[.int .i64 n] w fun e w'=>
  ∃T,e=.returned (.tuple #[.pointer (some ⟨T,0,none⟩),.int .i64 0])/\w.heap.size<=T/\iK w' T n/\Below w.heap.size w w':=by
 have hb:=af w (.cells #[.slice none 0 0,.slice none 0 0] 201);have k1:=an w (.cells #[.slice none 0 0,.slice none 0 0] 201);have hb2:=af (w.alloc (.cells #[.slice none 0 0,.slice none 0 0] 201)) (.cells #[.int .i64 n,.int .i64 0,.pointer (some ⟨w.heap.size,0,none⟩)] 203);have k2:=an (w.alloc (.cells #[.slice none 0 0,.slice none 0 0] 201)) (.cells #[.int .i64 n,.int .i64 0,.pointer (some ⟨w.heap.size,0,none⟩)] 203)
 have H:=al (show ∃T,T=w.heap.size+1/\w.heap.size<=T/\iK ((w.alloc (.cells #[.slice none 0 0,.slice none 0 0] 201)).alloc (.cells #[.int .i64 n,.int .i64 0,.pointer (some ⟨w.heap.size,0,none⟩)] 203)) T n/\Below w.heap.size w ((w.alloc (.cells #[.slice none 0 0,.slice none 0 0] 201)).alloc (.cells #[.int .i64 n,.int .i64 0,.pointer (some ⟨w.heap.size,0,none⟩)] 203))from
  ⟨_,rfl,by omega,⟨w.heap.size,by simpa using k2,pw hb2 k1⟩,hb.trans (hb2.mono (by simp))⟩)
 have h1': ¬n<2:=by omega
 have h2': ¬16<n:=by omega
 clear hb k1 hb2 k2;go_enter Tryz.func57,Tryz.ntmps57;go_wp2_with fail
 go_ret2
 obtain⟨T,e,h3,h4,h5⟩:=H.out;subst e;exact⟨_,rfl,h3,h4,h5⟩
def l8(w:World)(T:Nat)(most n:Int)(L:Nat):Prop:=
 ∃t0 t1 t2 t3 t4:Nat,w.heap[T]?=some (.cells #[.int .i64 most,.pointer (some ⟨t0,0,none⟩),.pointer (some ⟨t1,0,none⟩),.pointer (some ⟨t2,0,none⟩),.pointer (some ⟨t3,0,none⟩),.pointer (some ⟨t4,0,none⟩)] 151 (0,0))/\
  (L<=t0/\iK w t0 n)/\(L<=t1/\iK w t1 n)/\(L<=t2/\iK w t2 n)/\(L<=t3/\iK w t3 n)/\(L<=t4/\iK w t4 n)
theorem l8.below{w w':World}{T L:Nat}{most n:Int}(h:l8 w T most n L)(hb:Below w.heap.size w w'):l8 w' T most n L:=by obtain⟨t0,t1,t2,t3,t4,h0,⟨a0,b0⟩,⟨a1,b1⟩,⟨a2,b2⟩,⟨a3,b3⟩,⟨a4,b4⟩⟩:=h;exact⟨t0,t1,t2,t3,t4,pw hb h0,⟨a0,b0.below hb⟩,⟨a1,b1.below hb⟩,⟨a2,b2.below hb⟩,⟨a3,b3.below hb⟩,⟨a4,b4.below hb⟩⟩
def Trees(w wr:World)(T:Nat)(most n:Int)(k:Nat):Prop:=
 ∃cs:Array Value,wr.heap[T]?=some (.cells cs 151 (0,0))/\cs.size=6/\cs[0]?=some (.int .i64 most)/\T<wr.heap.size/\Below w.heap.size w wr/\w.heap.size<=T/\
  ∀j,j<k-> ∃t,cs[j+1]?=some (.pointer (some ⟨t,0,none⟩))/\w.heap.size<=t/\iK wr t n
theorem Trees.more{w wr w':World}{T t:Nat}{most n:Int}{k:Nat}(h:Trees w wr T most n k)(hk:k<5)(hb:Below wr.heap.size wr w')(ht:wr.heap.size<=t)(hE:iK w' t n):Trees w (w'.setCell ⟨T,k+1,none⟩ (.pointer (some ⟨t,0,none⟩))) T most n (k+1):=by
 obtain⟨cs,h1,h2,h3,h4,h5,h6,h7⟩:=h;have h1':=pw hb h1;have ho:=Only.bp w' T (k+1) (.pointer (some ⟨t,0,none⟩))
 have hS: ∀q cs' t',q=T->w'.heap[q]?=some (.cells cs' t' (0,0))->t'≠203/\t'≠201:=by rintro q cs' t' rfl hq;rw[h1']at hq;injection hq with hq;injection hq with _ e;subst e;exact⟨by decide,by decide⟩
 refine⟨cs.setIfInBounds (k+1) (.pointer (some ⟨t,0,none⟩)),by simp[World.setCell,Array.getElem?_modify,h1'],by simpa using h2,?_,cq h4 (de hb.size ho.size),(h5.trans (hb.mono h5.size)).setCell (p:=⟨T,k+1,none⟩) h6 _,h6,fun j hj=>?_⟩
 ·rw[ix,ff (by omega)];exact h3
 ·by_cases hjk:j=k
  ·subst hjk;refine⟨t,?_,de h5.size ht,hE.only ho hS⟩;rw[ix,fi rfl,fi (by omega)]
  ·obtain⟨t',a1,a2,a3⟩:=h7 j (by omega);refine⟨t',?_,a2,(a3.below hb).only ho hS⟩;rw[ix,ff (by omega)];exact a1
theorem Trees.all{w wr:World}{T:Nat}{most n:Int}(h:Trees w wr T most n 5):l8 wr T most n w.heap.size:=by
 obtain⟨⟨l⟩,h1,h2,h3,h4,h5,h6,h7⟩:=h
 match l,h2 with
 |[c0,c1,c2,c3,c4,c5],_=>obtain⟨t0,a0,b0,d0⟩:=h7 0 (by decide);obtain⟨t1,a1,b1,d1⟩:=h7 1 (by decide);obtain⟨t2,a2,b2,d2⟩:=h7 2 (by decide);obtain⟨t3,a3,b3,d3⟩:=h7 3 (by decide);obtain⟨t4,a4,b4,d4⟩:=h7 4 (by decide);simp at h3 a0 a1 a2 a3 a4;subst h3 a0 a1 a2 a3 a4;exact⟨t0,t1,t2,t3,t4,h1,⟨b0,d0⟩,⟨b1,d1⟩,⟨b2,d2⟩,⟨b3,d3⟩,⟨b4,d4⟩⟩
theorem BU(w:World)(most n:Int)(h1:1<=most)(h2:most<=1024)(h3:2<=n)(h4:n<=16):Calls Tryz.prog 33 #[.int .i64 most,.int .i64 n] w fun e w'=>
  ∃T,e=.returned (.tuple #[.pointer (some ⟨T,0,none⟩),.int .i64 0])/\w.heap.size<=T/\l8 w' T most n w.heap.size/\Below w.heap.size w w':=by
 have hb0:=af w (.cells #[.int .i64 most,.pointer none,.pointer none,.pointer none,.pointer none,.pointer none] 151);have k0:=an w (.cells #[.int .i64 most,.pointer none,.pointer none,.pointer none,.pointer none,.pointer none] 151);have m1: ¬most<1:=by omega
 have m2: ¬1024<most:=by omega
 have HN:=al (ab h3 h4);go_enter Tryz.func33,Tryz.ntmps33;go_upto_region 4 with fail;generalize w.alloc (.cells #[.int .i64 most,.pointer none,.pointer none,.pointer none,.pointer none,.pointer none] 151)=w1 at hb0 k0⊢;obtain⟨T,hT⟩: ∃x,w.heap.size=x:=⟨_,rfl⟩;rw[hT]at k0⊢;have HS:=al (show Trees w w1 T most n 0 from⟨_,k0,rfl,rfl,(da.1 k0).1,hb0,by omega,fun j hj=>by omega⟩);clear hb0 k0 hT;go_wp2_with fail
 go_loopw [19] (fun i wr=> ∃k:Nat,k<=5/\i=.int .i64 (k:Int)/\Trees w wr T most n k) (fun i _=>5-(intOf i).toNat)
 case atStart=>exact⟨0,by decide,rfl,HS.out⟩
 case round=>
  obtain⟨k,hk,rfl,hR⟩:=hrel;by_cases hlt:k<5
  ·have HR:=al hR;have HC:=al (DY wr n HN.out.1 HN.out.2);clear hR;go_wp2_with fail;refine HC.out.mono ?_;rintro e w2 ⟨t,rfl,ht,hE,hb⟩;have hM:=HR.out.more hlt hb ht hE;obtain⟨cs,q1,q2,_⟩:=HR.out;have q1':=pw hb q1;obtain⟨cv,hcv⟩: ∃v,cs[k+1]?=some v:=⟨_,ir (by omega)⟩;have z0:w2.cell? ⟨T,1+k,none⟩=some cv:=by rw[Nat.add_comm 1 k];simp[World.cell?,q1',hcv]
   have z1:w2.frozen? ⟨T,1+k,none⟩=false:=by simp[World.frozen?,q1']
   have i1:(0:Int)<=(k:Int):=by omega
   have i2:(k:Int)<5:=by omega
   have HM:=al hM;clear hM q1 q1' q2 hcv ht hE hb HC;go_wp2_with fail;go_roundw
   case rel=>exact⟨k+1,by omega,by go_num,by rw[Nat.add_comm 1 k];exact HM.out⟩
   case measure=>simp[intOf];omega
  ·obtain rfl:k=5:=by omega
   have HR:=al hR;clear hR;go_wp2_with fail
   go_ret2
   obtain⟨cs,q1,q2,q3,q4,q5,q6,q7⟩:=id HR.out;exact⟨T,rfl,q6,HR.out.all,q5⟩
theorem DZ(w:World)(f:Value):Calls Tryz.prog 164 #[.int .i64 0,f] w fun e w'=>e=.returned (.int .i64 0)/\w'=w:=by
 go_enter Tryz.func164,Tryz.ntmps164;go_wp2_with fail
 go_loopw [5,6] (fun i j wr=>i=.int .i64 0/\j=.int .i64 0/\wr=w) (fun _ _ _=>0)
 case atStart=>exact⟨rfl,rfl,rfl⟩
 case round=>
  obtain⟨rfl,rfl,rfl⟩:=hrel;go_wp2_with fail;go_ret
  exact⟨rfl,rfl⟩
theorem KF(w:World)(N:Nat)(h:w.heap[N]?=some (.cells #[.slice none 0 0,.slice none 0 0] 201 (0,0))):Calls Tryz.prog 137 #[.pointer (some ⟨N,0,none⟩)] w fun e w'=>e=.returned (.bool true)/\w'=w:=by
 have c0:w.cell? ⟨N,0,none⟩=some (.slice none 0 0):=by simp[World.cell?,h]
 have c1:w.cell? ⟨N,1,none⟩=some (.slice none 0 0):=by simp[World.cell?,h]
 clear h;go_enter Tryz.func137,Tryz.ntmps137;go_wp2_with fail;go_ret
 exact⟨rfl,rfl⟩
theorem jm(w:World)(T:Nat)(s:ByteArray)(h1:1<=s.size)(h2:s.size<=64):Calls Tryz.prog 92 #[.pointer (some ⟨T,0,none⟩),.string s] w fun e w'=>e=.returned (.int .i64 0)/\w'=w:=by
 have m1: ¬(s.size:Int)<1:=by omega
 have m2: ¬(64:Int)<(s.size:Int):=by omega
 go_enter Tryz.func92,Tryz.ntmps92;go_wp2_with fail;go_ret
 exact⟨rfl,rfl⟩
theorem KG(w:World)(N:Nat)(s:ByteArray)(h:w.heap[N]?=some (.cells #[.slice none 0 0,.slice none 0 0] 201 (0,0))):Calls Tryz.prog 136 #[.pointer (some ⟨N,0,none⟩),.string s] w fun e w'=>e=.returned (.tuple #[.int .i64 0,.bool false])/\Below w.heap.size w w':=by
 have hb1:=af w (.cells #[.pointer (some ⟨N,0,none⟩)] 197);have k1:=an w (.cells #[.pointer (some ⟨N,0,none⟩)] 197);have hN:=pw hb1 h;have hb2:=af (w.alloc (.cells #[.pointer (some ⟨N,0,none⟩)] 197)) (.cells #[.string s] 9);have k2:=an (w.alloc (.cells #[.pointer (some ⟨N,0,none⟩)] 197)) (.cells #[.string s] 9);have Xw:=pw hb2 k1;have hN':=pw hb2 hN;have hbb:=hb1.trans (hb2.mono (by simp));rw[show(w.alloc (.cells #[.pointer (some ⟨N,0,none⟩)] 197)).heap.size=w.heap.size+1 by simp]at k2;go_enter Tryz.func136,Tryz.ntmps136;go_upto_region 1 with fail;generalize (w.alloc (.cells #[.pointer (some ⟨N,0,none⟩)] 197)).alloc (.cells #[.string s] 9)=w2 at Xw k2 hN' hbb⊢;obtain⟨B,hB⟩: ∃x,w.heap.size=x:=⟨_,rfl⟩;rw[hB]at Xw k2⊢;have b0:w2.cell? ⟨B,0,none⟩=some (.pointer (some ⟨N,0,none⟩)):=by simp[World.cell?,Xw]
 have b1:w2.cell? ⟨B+1,0,none⟩=some (.string s):=by simp[World.cell?,k2]
 have c0:w2.cell? ⟨N,0,none⟩=some (.slice none 0 0):=by simp[World.cell?,hN']
 have Xr:=al hbb;clear hb1 k1 hN hb2 k2 Xw hN' hbb hB h;go_wp2_with fail;refine(DZ w2 _).mono ?_;rintro e w3 ⟨rfl,rfl⟩;go_upto_region 2 with fail
 go_region
 go_wp2_with fail
 go_ret2
 exact⟨rfl,Xr.out.drew⟩
theorem KH(w:World)(T:Nat)(n:Int)(s:ByteArray)(h:iK w T n):Calls Tryz.prog 132 #[.pointer (some ⟨T,0,none⟩),.string s] w fun e w'=>e=.returned (.tuple #[.string ⟨#[]⟩,.string ⟨#[]⟩,.int .i64 14])/\Below w.heap.size w w':=by
 obtain⟨N,h1,h2⟩:=h;have c2:w.cell? ⟨T,2,none⟩=some (.pointer (some ⟨N,0,none⟩)):=by simp[World.cell?,h1]
 have HN:=al h2;clear h1 h2;go_enter Tryz.func132,Tryz.ntmps132;go_wp2_with fail
 go_step3
 go_wp2_with fail
 go_step3
 go_wp2_with fail
 go_loopw [4,5,6,7] (fun k v e q wr=>k=.string ⟨#[]⟩/\v=.string ⟨#[]⟩/\e=.int .i64 14/\q=.pointer (some ⟨N,0,none⟩)/\wr=w) (fun _ _ _ _ _=>0)
 case atStart=>exact⟨rfl,rfl,rfl,rfl,rfl⟩
 case round=>
  obtain⟨rfl,rfl,rfl,rfl,rfl⟩:=hrel;have HF:=al (KG wr N s HN.out);go_wp2_with fail;refine HF.out.mono ?_;rintro e w2 ⟨rfl,hb⟩;have hN:=pw hb HN.out;have c0:w2.cell? ⟨N,0,none⟩=some (.slice none 0 0):=by simp[World.cell?,hN]
  have HL:=al (ab (KF w2 N hN) hb);clear hN hb HF;go_wp2_with fail;refine HL.out.1.mono ?_;rintro e w3 ⟨rfl,rfl⟩;go_wp2_with fail;rw[lp]
  go_ret3
  exact⟨rfl,HL.out.2⟩
theorem BV(w:World)(T:Nat)(n:Int)(s:ByteArray)(hs1:1<=s.size)(hs2:s.size<=64)(h:iK w T n):Calls Tryz.prog 89 #[.pointer (some ⟨T,0,none⟩),.string s] w fun e w'=>e=.returned (.tuple #[.string ⟨#[]⟩,.int .i64 14])/\Below w.heap.size w w':=by
 have HC:=al (ab (jm w T s hs1 hs2) (KH w T n s h));clear h hs1 hs2;go_enter Tryz.func89,Tryz.ntmps89;go_wp2_with fail;refine HC.out.1.mono ?_;rintro e w1 ⟨rfl,rfl⟩;go_wp2_with fail;refine HC.out.2.mono ?_;rintro e w2 ⟨rfl,hb⟩;have HB:=al hb;clear hb;go_wp2_with fail
 go_ret2
 exact⟨rfl,HB.out⟩
theorem KI(w:World)(s:ByteArray)(h1:1<=s.size)(h2:s.size<=16):Calls Tryz.prog 72 #[.string s] w fun e w'=>e=.returned (.int .i64 0)/\w'=w:=by
 have m1: ¬(s.size:Int)<1:=by omega
 have m2: ¬(16:Int)<(s.size:Int):=by omega
 go_enter Tryz.func72,Tryz.ntmps72;go_wp2_with fail;go_ret
 exact⟨rfl,rfl⟩
theorem wD(w:World)(T:Nat)(s:ByteArray)(h1:1<=s.size)(h2:s.size<=16):Calls Tryz.prog 58 #[.pointer (some ⟨T,0,none⟩),.string s] w fun e w'=>e=.returned (.int .i64 0)/\w'=w:=by
 have HC:=al (KI w s h1 h2);go_enter Tryz.func58,Tryz.ntmps58;go_wp2_with fail;refine HC.out.mono ?_;rintro e w1 ⟨rfl,rfl⟩;go_wp2_with fail;go_ret
 exact⟨rfl,rfl⟩
theorem KJ(w:World)(T L:Nat)(most n:Int)(s:ByteArray)(hs1:1<=s.size)(hs2:s.size<=64)(h:l8 w T most n L):Calls Tryz.prog 59 #[.pointer (some ⟨T,0,none⟩),.string s] w fun e w'=>e=.returned (.pointer none)/\Below w.heap.size w w':=by
 obtain⟨t0,t1,t2,t3,t4,h0,⟨_,e0⟩,_⟩:=h;have c1:w.cell? ⟨T,1,none⟩=some (.pointer (some ⟨t0,0,none⟩)):=by simp[World.cell?,h0]
 have HC:=al (BV w t0 n s hs1 hs2 e0);clear h0 e0 hs1 hs2;go_enter Tryz.func59,Tryz.ntmps59;go_wp2_with (first|(go_at_call 61;go_in)|fail);refine HC.out.mono ?_;rintro e w2 ⟨rfl,hb⟩;have HB:=al hb;clear hb;go_wp2_with fail;go_ret
 exact⟨rfl,HB.out⟩
theorem rU{w:World}{B:Nat}{a0 a1 a2 a3 v0 v1 v2 v3:Value}{t:TypeId}(h:w.heap[B]?=some (.cells #[a0,a1,a2,a3] t (0,0))):
  ((((w.setCell ⟨B,0,none⟩ v0).setCell ⟨B,1,none⟩ v1).setCell ⟨B,2,none⟩ v2).setCell ⟨B,3,none⟩ v3).heap[B]?=some (.cells #[v0,v1,v2,v3] t (0,0)):=by
 have h0:=dr w B 0 _ t v0 h;have h1:=dr _ B 1 _ t v1 h0;have h2:=dr _ B 2 _ t v2 h1;have h3:=dr _ B 3 _ t v3 h2;simpa using h3
theorem iD(w:World)(o:Obj):Below w.heap.size w (w.alloc o):=(aw _ _).alloc (aq _) _
theorem kH(w:World)(n M i:Nat)(v:Value):Only (fun k=>k=M) w ((w.drewN n).setCell ⟨M,i,none⟩ v):=((oB (fun k=>k=M) w).drewN n).setCell (p:=⟨M,i,none⟩) (fun _=>rfl) v
theorem aT(w:World)(M i:Nat)(v:Value):Only (fun k=>k=M) w (w.setCell ⟨M,i,none⟩ v):=(oB (fun k=>k=M) w).setCell (p:=⟨M,i,none⟩) (fun _=>rfl) v
theorem aO{w:World}{k:Nat}{o:Obj}(h:w.heap[k]?=some o):k<w.heap.size:=(da.1 h).1
def Rw.val(r:Rw):Value:=.agg #[.int .i64 r.a,.int .i64 r.b,.int .i64 r.c,.int .i64 r.d]
theorem b6{P:Program}{fn:Func}{p u x:Tmp}{ty:TypeId}(h:fn.results= #[.cell p ty,.tmp u,.tmp x])(tmps:Array Value)(w:World)(g:Nat)(t:TypeId)(cs:Array Value)(fr:Nat×Nat)(d:TypeDesc)
  (hp:tmps.getD p undef=.pointer (some ⟨g,0,none⟩)) (hg:w.heap[g]?=some (.cells cs t fr))
  (hu:P.underlying ty=some d) (hd:(match d with| .struct _| .array _ _=>true|_=>false)=true) (hi:(P.info? ty).map (·.size)=some cs.size):
  (results fn tmps).run P w=.ok (.tuple #[.agg cs,tmps.getD u undef,tmps.getD x undef]) w:=by
 have hp':tmps[p]?.getD undef=.pointer (some ⟨g,0,none⟩):=by simpa using hp
 simp only[results,h];simp[Result.andThen,hp',asAddr,run_loadVar_row w g t ty cs fr d hg hu hd hi]
theorem ct{w:World}{R:Nat}{a b c d:Value}{t:TypeId}(k3:w.heap[R]?=some (.cells #[a,b,c,d] t (0,0))):
  (w.cell? ⟨R,0,none⟩=some a/\w.cell? ⟨R,1,none⟩=some b/\w.cell? ⟨R,2,none⟩=some c/\w.cell? ⟨R,3,none⟩=some d)/\w.frozen? ⟨R,0,none⟩=false/\w.frozen? ⟨R,1,none⟩=false/\w.frozen? ⟨R,2,none⟩=false/\w.frozen? ⟨R,3,none⟩=false:=by
 simp[World.cell?,World.frozen?,k3]
def rh(c:Nat):Option Rw->Option Rw->List Cl
 |some o,some n=>if o.aK c=n.aK c then[]else[⟨true,c,[],o.aK c,o.aK c⟩,⟨true,c,[],n.aK c,n.aK c⟩]
 |some o,none=>[⟨true,c,[],o.aK c,o.aK c⟩]
 |none,some n=>[⟨true,c,[],n.aK c,n.aK c⟩]
 |none,none=>[]
def fx(k:List UInt8)(old now:Option Rw):List Cl:=
 ⟨true,-1,k,0,0⟩::((if old.isSome=now.isSome then[]else[⟨true,-1,[35],0,0⟩])++(rh 0 old now++(rh 1 old now++(rh 2 old now++rh 3 old now))))
def b7(k:List UInt8)(old now:Option Rw):Nat->List Cl
 |0=>[⟨true,-1,k,0,0⟩]++(if old.isSome=now.isSome then[]else[⟨true,-1,[35],0,0⟩])
 |c+1=>b7 k old now c++rh c old now
theorem jO(k:List UInt8)(old now:Option Rw):b7 k old now 4=fx k old now:=by simp[b7,fx]
theorem KL(c:Nat)(old now:Option Rw):(rh c old now).length<=2:=by unfold rh;cases old<;>cases now<;>simp;split<;>simp
theorem ig(k:List UInt8)(old now:Option Rw): ∀c,(b7 k old now c).length<=2+2*c
 |0=>by simp only[b7];split<;>simp
 |c+1=>by have h1:=ig k old now c;have h2:=KL c old now;simp only[b7,gk];omega

end Go.Proofs.YtagemonojdgbdaaGreatDoor
