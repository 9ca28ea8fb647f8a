import Derived.Test.YtmkofmeojbcakaaGreatDoorC01
import Derived.Test.YtmkofmeojbcakaaGreatDoorC03
import Derived.Test.YtmkofmeojbcakaaGreatDoorProg
import Derived.Deep.SlicePairs
import Derived.Deep.CutRange
namespace Go.Proofs.YtmkofmeojbcakaaGreatDoor
open Go.Proofs.Tryz
set_option maxRecDepth 100000
set_option maxHeartbeats 16000000
open Go.RowKit
def aS(k:Nat)(w:World)(F:Nat->Prop)(v:Value)(xs:List (List Value)):Prop:=
 ∃(A:Option Addr) (n c:Nat),v=.slice A n c/\xs.length=n/\n<=c/\c<=maxLen/\
  (0<n-> ∃b o,A=some ⟨b,o,none⟩/\F b/\ ∀i x,xs[i]?=some x-> ∀j u,x[j]?=some u->w.cell? ⟨b,o+(i*k+j),none⟩=some u)
section
variable{k:Nat}{F G S:Nat->Prop}{w w':World}{v:Value}{xs:List (List Value)}
theorem aS.mono(h:aS k w F v xs)(hF: ∀k,F k->G k):aS k w G v xs:=by obtain⟨A,n,c,hv,hl,hc,hm,hx⟩:=h;exact⟨A,n,c,hv,hl,hc,hm,fun hn=>let⟨b,o,e,hb,hu⟩:=hx hn;⟨b,o,e,hF b hb,hu⟩⟩
abbrev aS.m:=@aS.mono
theorem aS.only(h:aS k w F v xs)(ho:Only S w w')(hd: ∀k,F k-> ¬S k):aS k w' F v xs:=by obtain⟨A,n,c,hv,hl,hc,hm,hx⟩:=h;exact⟨A,n,c,hv,hl,hc,hm,fun hn=>let⟨b,o,e,hb,hu⟩:=hx hn;⟨b,o,e,hb,fun i x hi j u hj=>ho.cell (hu i x hi j u hj) (hd b hb)⟩⟩
theorem aS.below(h:aS k w F v xs)(hb:Below w.heap.size w w'):aS k w' F v xs:=h.only (oj hb fun _=>False) (fun _ _=>id)
theorem aS.nil(k:Nat)(w:World)(F:Nat->Prop):aS k w F (.slice none 0 0) []:=⟨none,0,0,rfl,rfl,aE _,by simp[maxLen],fun h=>absurd h (by omega)⟩
theorem lI(hk: ∀x∈xs,x.length=k): ∀(i:Nat) (x:List Value),xs[i]?=some x-> ∀(j:Nat) (u:Value),x[j]?=some u->xs.flatten[i*k+j]?=some u:=by
 induction xs with
 |nil=>intro i x hi;simp at hi
 |cons y ys ih=>
  intro i x hi j u hj;have hy:=hk y (by simp)
  cases i with
  |zero=>simp at hi;subst hi;rw[List.flatten_cons,lr (by have:=(List.getElem?_eq_some_iff.1 hj).1;omega)];simpa using hj
  |succ i=>have h1:=ih (fun z hz=>hk z (by simp[hz])) i x (by simpa using hi) j u hj;rw[List.flatten_cons,ke (by rw[hy,la];omega)];rw[<-h1];congr 1;rw[hy,la];omega
theorem rJ(hk: ∀x∈xs,x.length=k):xs.flatten.length=xs.length*k:=by
 induction xs with
 |nil=>simp
 |cons y ys ih=>rw[List.flatten_cons,fb,ih (fun z hz=>hk z (by simp[hz])),hk y (by simp),fm,la];omega
theorem aS.aU{base:Nat}{e:TypeId}{n:Nat}(h:w.ownsRow base e k v n xs.flatten)(hk: ∀x∈xs,x.length=k)(eQ:0<k)(hF: ∀g,v.ownBlock=some g->F g):aS k w F v xs:=by
 have hl:xs.length=n:=by have h1:=h.1;rw[rJ hk]at h1;exact Nat.eq_of_mul_eq_mul_right eQ h1
 rcases h.2 with⟨rfl,rfl⟩|⟨g,cap,cur,rfl,_,hg,hn,hc,hs,ht⟩
 ·have:xs=[]:=dj hl;subst this;exact aS.nil k w F
 ·refine⟨_,_,_,rfl,hl,hn,hc,fun _=>⟨g,0,rfl,hF g rfl,fun i x hx j u hu=>?_⟩⟩;have hf:=lI hk i x hx j u hu;have:=h.cells (g:=g) rfl _ u hf;unfold Addr.add at this;split at this
  ·rename_i h0;rw[h0];simpa using this
  ·simpa using this
theorem aS.flat(h:aS k w F v xs)(hk: ∀x∈xs,x.length=k)(eQ:0<k): ∀A n c,v=.slice A n c-> ∀a,A=some a-> ∀j u,xs.flatten[j]?=some u->w.cell? (a.add j)=some u:=by
 obtain⟨A',n',c',hv',hl,hc,hm,hx⟩:=h;intro A n c hv a ha j u hj;rw[hv']at hv;injection hv with h1 h2 h3;subst h1;subst h2;subst h3;have hlt:=(b8.1 hj).1;rw[rJ hk]at hlt
 have hpos:0<n':=by
  rcases Nat.eq_zero_or_pos n' with h0|h0
  ·rw[hl,h0]at hlt;omega
  ·exact h0
 obtain⟨b,o,e,_,hu⟩:=hx hpos;rw[ha]at e;injection e with e;subst e;have hi:j/k<xs.length:=(Nat.div_lt_iff_lt_mul eQ).2 hlt;have hx1:xs[j/k]?=some xs[j/k]:=ao hi;have hlen:=hk _ (List.getElem_mem hi);have hm2:j%k<k:=Nat.mod_lt _ eQ;have hx2:(xs[j/k])[j%k]?=some ((xs[j/k])[j%k]'(by omega)):=ao (by omega);have h3:=lI hk _ _ hx1 _ _ hx2;have hjm:j/k*k+j%k=j:=by rw[Nat.mul_comm];exact Nat.div_add_mod j k
 rw[hjm,hj]at h3;injection h3 with h3;have h4:=hu _ _ hx1 _ _ hx2;rw[hjm,<-h3]at h4;unfold Addr.add;split
 ·rename_i h0;rw[h0]at h4;simpa using h4
 ·simpa using h4
end
section
variable{P:Program}(w:World)
theorem kj(base:Nat)(t ty e:TypeId)(i:TypeInfo)(z:Value)(k bytes:Nat)(ht:P.underlying t=some (.slice e))(hi:P.info? e=some i)(hz:i.zero=some z)
  (hsize:i.size=k) (hby:i.bytes=bytes) (hzs:z.cells.size=k) (eQ:0<k)
  (v:Value) (n:Nat) (xs:List Value) (hown:w.ownsRow base e k v n xs) (F:Nat->Prop) (x:Value) (news:List (List Value)) (hr:aS k w F x news) (hk: ∀y∈news,y.length=k) (h1: ∀u∈news.flatten,u.oneCell'=true)
  (hbytes:(n+news.length)*bytes<=140737488355328) (h63:n+news.length<=maxLen) (hbase:base<=w.heap.size):
  ∃v' w',(Builtin.append_ #[t,t] ty #[v,x]).run P w=.ok v' w'/\w'.ownsRow base e k v' (n+news.length) (xs++news.flatten)/\w.grownBy w' v.ownBlock/\
   (v'.ownBlock=v.ownBlock\/v'.ownBlock=some w.heap.size):=by
 have hfl:=hr.flat hk eQ;obtain⟨A,m,c,rfl,hl,hc,hm,hx⟩:=hr;subst hl;rcases A with _|ad
 ·have hm0:news.length=0:=by
   rcases Nat.eq_zero_or_pos news.length with h0|h0
   ·exact h0
   ·obtain⟨b,o,h,_⟩:=hx h0;cases h
  have hn:news=[]:=dj hm0;subst hn;exact⟨v,w,lF w base t ty e i k ht hi v n xs hown c,by simpa using hown,World.grownBy.refl w _,.inl rfl⟩
 ·obtain⟨v',w',hrun,h2,h3,_,h5⟩:=run_append_own_at (P:=P) w base t ty e i z k bytes ht hi hz hsize hby hzs eQ v n xs hown ad news.length c news.flatten (rJ hk) (hfl _ _ _ rfl ad rfl) h1 h63 hbytes hbase;exact⟨v',w',hrun,h2,h3,h5⟩
theorem di{ops:Array Oper}{rest:List Oper}{o:Oper}{a:Act}{Q:Exit->Act->World->Prop}(hgd:o.guard=none)(s x:Operand)(t:TypeId)
  (ho:o.op=.call {callee:=.builtin .append,args:= #[s,x],argTypes:= #[t,t]})
  (base:Nat) (e:TypeId) (i:TypeInfo) (z:Value) (k bytes:Nat) (ht:P.underlying t=some (.slice e)) (hi:P.info? e=some i) (hz:i.zero=some z)
  (hsize:i.size=k) (hby:i.bytes=bytes) (hzs:z.cells.size=k) (eQ:0<k)
  (v:Value) (n:Nat) (xs:List Value) (hs:a.eval s=v) (hown:w.ownsRow base e k v n xs) (F:Nat->Prop) (vx:Value) (news:List (List Value)) (hx:a.eval x=vx) (hr:aS k w F vx news) (hk: ∀y∈news,y.length=k) (h1: ∀u∈news.flatten,u.oneCell'=true)
  (hbytes:(n+news.length)*bytes<=140737488355328) (h63:n+news.length<=maxLen) (hbase:base<=w.heap.size)
  (h: ∀v' w',w'.ownsRow base e k v' (n+news.length) (xs++news.flatten)->w.grownBy w' v.ownBlock->(v'.ownBlock=v.ownBlock\/v'.ownBlock=some w.heap.size)->wpList P ops Q rest (a.put o.dst v') w'):wpList P ops Q (o::rest) a w:=
 wpList_plain hgd fun K hK=>by obtain⟨v',w',hrun,h2,h3,h4⟩:=kj (P:=P) w base t o.type e i z k bytes ht hi hz hsize hby hzs eQ v n xs hown F vx news hr hk h1 hbytes h63 hbase;unfold Oper.wp execOp;simp only[ho,resolve,invoke,builtin,Sem.run_bind,Sem.run_pure,Result.andThen_ok,List.map_toArray,lp,kc,hs,hx,hrun];exact hK _ _ (h v' w' h2 h3 h4)
end
structure Cl where
 wr:Bool
 aM:Int
 key:List UInt8
 lo:Int
 hi:Int
deriving DecidableEq
def Cl.cells(c:Cl):List Value:=[.bool c.wr,.int .i64 c.aM,.string ⟨c.key.toArray⟩,.int .i64 c.lo,.int .i64 c.hi]
def Cl.val(c:Cl):Value:=.agg #[.bool c.wr,.int .i64 c.aM,.string ⟨c.key.toArray⟩,.int .i64 c.lo,.int .i64 c.hi]
def km(n:Int):Prop:= -9223372036854775808<=n/\n<=9223372036854775807
def Cl.fits(c:Cl):Prop:=km c.aM/\km c.lo/\km c.hi/\c.key.length<=maxLen
def mg(x:Int×Int):List Value:=[.int .i64 x.1,.int .i64 x.2]
def mG(w:World)(F:Nat->Prop)(v:Value)(l:List (Int×Int)):Prop:=aS 2 w F v (l.map mg)
def eG(w:World)(F:Nat->Prop)(v:Value)(l:List Cl):Prop:=aS 5 w F v (l.map Cl.cells)
theorem lJ(l:List (Int×Int)): ∀x∈l.map mg,x.length=2:=by intro x hx;obtain⟨y,_,rfl⟩:=ew.1 hx;rfl
theorem cO(l:List Cl): ∀x∈l.map Cl.cells,x.length=5:=by intro x hx;obtain⟨y,_,rfl⟩:=ew.1 hx;rfl
theorem mG.at_{w:World}{F:Nat->Prop}{A:Option Addr}{n c:Nat}{l:List (Int×Int)}(h:mG w F (.slice A n c) l){k:Nat}{x:Int×Int}(hk:l[k]?=some x):
  ∃b o,A=some ⟨b,o,none⟩/\F b/\w.cell? ⟨b,o+k*2,none⟩=some (.int .i64 x.1)/\w.cell? ⟨b,o+k*2+1,none⟩=some (.int .i64 x.2):=by
 obtain⟨A',n',c',hv,hl,_,_,hx⟩:=h;injection hv with h1 h2 h3;subst h1 h2 h3;have hlt:=(b8.1 hk).1;obtain⟨b,o,rfl,hF,hc⟩:=hx (by simp at hl;omega);exact⟨b,o,rfl,hF,hc k (mg x) (by simp[hk]) 0 _ rfl,hc k (mg x) (by simp[hk]) 1 _ rfl⟩
theorem eG.at_{w:World}{F:Nat->Prop}{A:Option Addr}{n c:Nat}{l:List Cl}(h:eG w F (.slice A n c) l){k:Nat}{x:Cl}(hk:l[k]?=some x):
  ∃b o,A=some ⟨b,o,none⟩/\F b/\w.cell? ⟨b,o+k*5,none⟩=some (.bool x.wr)/\w.cell? ⟨b,o+k*5+1,none⟩=some (.int .i64 x.aM)/\w.cell? ⟨b,o+k*5+2,none⟩=some (.string ⟨x.key.toArray⟩)/\
   w.cell? ⟨b,o+k*5+3,none⟩=some (.int .i64 x.lo)/\w.cell? ⟨b,o+k*5+4,none⟩=some (.int .i64 x.hi):=by
 obtain⟨A',n',c',hv,hl,_,_,hx⟩:=h;injection hv with h1 h2 h3;subst h1 h2 h3;have hlt:=(b8.1 hk).1;obtain⟨b,o,rfl,hF,hc⟩:=hx (by simp at hl;omega);have hx':(l.map Cl.cells)[k]?=some x.cells:=by simp[hk]
 exact⟨b,o,rfl,hF,hc k _ hx' 0 _ rfl,hc k _ hx' 1 _ rfl,hc k _ hx' 2 _ rfl,hc k _ hx' 3 _ rfl,hc k _ hx' 4 _ rfl⟩
theorem mG.slice{w:World}{F:Nat->Prop}{v:Value}{l:List (Int×Int)}(h:mG w F v l): ∃A c,v=.slice A l.length c/\l.length<=c/\c<=maxLen:=by obtain⟨A',n',c',hv,hl,h1,h2,_⟩:=h;simp at hl;subst hl;exact⟨A',c',hv,h1,h2⟩
theorem eG.slice{w:World}{F:Nat->Prop}{v:Value}{l:List Cl}(h:eG w F v l): ∃A c,v=.slice A l.length c/\l.length<=c/\c<=maxLen:=by obtain⟨A',n',c',hv,hl,h1,h2,_⟩:=h;simp at hl;subst hl;exact⟨A',c',hv,h1,h2⟩
theorem qN(l:List Cl): ∀u∈(l.map Cl.cells).flatten,u.oneCell'=true:=by intro u hu;obtain⟨x,hx,hu⟩:=List.mem_flatten.1 hu;obtain⟨c,_,rfl⟩:=ew.1 hx;simp[Cl.cells]at hu;rcases hu with rfl|rfl|rfl|rfl|rfl<;>rfl
def dU(k:List UInt8):Int:=if k.length<1\/16<k.length then 13 else 0
def Dw(c:Cl):Int:=
 if c.aM< -1\/4<=c.aM then 10
 else if 0<=c.aM then(if c.key≠[]\/c.hi<c.lo then 10 else 0)
 else if c.lo≠0\/c.hi≠0 then 10
 else dU c.key
theorem ej(w:World)(k:List UInt8):
  Calls prog 74 #[.string ⟨k.toArray⟩] w fun e w'=>e=.returned (.int .i64 (dU k))/\w=w':=by
 unfold dU;by_cases h1:k.length<1
 ·rw[fi (.inl h1)];go_enter func74,ntmps74;go_wp2;go_ret
  exact⟨rfl,rfl⟩
 ·by_cases h2:16<k.length
  ·rw[fi (.inr h2)];go_enter func74,ntmps74;go_wp2;go_ret
   exact⟨rfl,rfl⟩
  ·rw[ff (by omega)];go_enter func74,ntmps74;go_wp2;go_ret
   exact⟨rfl,rfl⟩
theorem M0(w:World)(c:Cl):
  Calls prog 66 #[c.val] w fun e w'=>e=.returned (.int .i64 (Dw c))/\Below w.heap.size w w':=by
 obtain⟨wr,aM,key,lo,hi⟩:=c;unfold Cl.val Dw;simp only;by_cases h1:aM< -1\/4<=aM
 ·rw[fi h1];rcases h1 with h1|h1
  ·go_enter func66,ntmps66;go_wp2_with fail;go_ret
   exact⟨rfl,(aw _ _).alloc (aE _) _⟩
  ·go_enter func66,ntmps66;go_wp2_with fail;go_ret
   exact⟨rfl,(aw _ _).alloc (aE _) _⟩
 ·rw[ff h1];by_cases h2:0<=aM
  ·rw[fi h2];have h3: ¬aM< -1:=fun h=>h1 (.inl h);have h4: ¬4<=aM:=fun h=>h1 (.inr h);clear h1;by_cases h5:key≠[]
   ·rw[fi (.inl h5)];go_enter func66,ntmps66;go_wp2_with fail;go_ret
    exact⟨rfl,(aw _ _).alloc (aE _) _⟩
   ·have h6:key=[]:=by simpa using h5
    subst h6;clear h5;by_cases h7:hi<lo
    ·rw[fi (.inr h7)];go_enter func66,ntmps66;go_wp2_with fail;go_ret
     exact⟨rfl,(aw _ _).alloc (aE _) _⟩
    ·rw[ff (by simpa using h7)];go_enter func66,ntmps66;go_wp2_with fail;go_ret
     exact⟨rfl,(aw _ _).alloc (aE _) _⟩
  ·rw[ff h2];have h3: ¬aM< -1:=fun h=>h1 (.inl h);have h4: ¬4<=aM:=fun h=>h1 (.inr h);clear h1;by_cases h5:lo≠0
   ·rw[fi (.inl h5)];go_enter func66,ntmps66;go_wp2_with fail;go_ret
    exact⟨rfl,(aw _ _).alloc (aE _) _⟩
   ·by_cases h6:hi≠0
    ·rw[fi (.inr h6)];go_enter func66,ntmps66;go_wp2_with fail;go_ret
     exact⟨rfl,(aw _ _).alloc (aE _) _⟩
    ·rw[ff (by simp at h5 h6;simp[h5,h6])];have hlo:lo=0:=by simpa using h5
     have hhi:hi=0:=by simpa using h6
     subst hlo hhi;clear h5 h6;go_enter func66,ntmps66;go_wp2_with fail;refine(ej _ _).m ?_;rintro e w' ⟨rfl,rfl⟩;go_wp2_with fail;go_ret
     exact⟨rfl,(aw _ _).alloc (aE _) _⟩
def wV(a b:Int×Int):Option (Int×Int):=if a.2<b.1/\a.2+1<b.1 then none else some (a.1,max a.2 b.2)
def TV(a b:Int×Int)(w:World)(e:Ending)(w':World):Prop:=
 Below w.heap.size w w'/\match wV a b with
  |none=>e=.returned (.tuple #[.agg #[.int .i64 0,.int .i64 0],.bool false])
  |some x=>e=.returned (.tuple #[.agg #[.int .i64 x.1,.int .i64 x.2],.bool true])
theorem aB{P:Program}{fn:Func}{p u:Tmp}{ty:TypeId}(h:fn.results= #[.cell p ty,.tmp u])(tmps:Array Value)(w:World)(g:Nat)(t:TypeId)(cs:Array Value)(fr:Nat×Nat)(d:TypeDesc)
  (hp:tmps.getD p undef=.pointer (some ⟨g,0,none⟩)) (hg:w.heap[g]?=some (.cells cs t fr))
  (hu:P.underlying ty=some d) (hd:(match d with| .struct _| .array _ _=>true|_=>false)=true) (hi:(P.info? ty).map (·.size)=some cs.size):
  (results fn tmps).run P w=.ok (.tuple #[.agg cs,tmps.getD u undef]) w:=by
 have hp':tmps[p]?.getD undef=.pointer (some ⟨g,0,none⟩):=by simpa using hp
 rw[results_cell_tmp h];simp[hp',asAddr,run_loadVar_row w g t ty cs fr d hg hu hd hi]
theorem wW(w:World)(a b c:Obj):Below w.heap.size w (((w.alloc a).alloc b).alloc c):=
 (((aw _ _).alloc (aE _) _).alloc (by simp) _).alloc (by simp;omega) _
theorem Kl(w:World)(a b c:Obj):(((w.alloc a).alloc b).alloc c).heap[w.heap.size+1+1]?=some c:=by
 have:w.heap.size+1+1=((w.alloc a).alloc b).heap.size:=by simp
 rw[this];exact an _ _
theorem I2(w:World)(a b:Int×Int)(ha:km a.2)(hb:km b.1):
  Calls prog 97 #[.agg #[.int .i64 a.1,.int .i64 a.2],.agg #[.int .i64 b.1,.int .i64 b.2]] w (TV a b w):=by
 obtain⟨a1,a2⟩:=a;obtain⟨b1,b2⟩:=b;unfold TV wV;unfold km at ha hb;simp only at ha hb⊢;obtain⟨ha1,ha2⟩:=ha;obtain⟨hb1,hb2⟩:=hb;by_cases h1:a2<b1
 ·by_cases h2:a2+1<b1
  ·rw[fi ⟨h1,h2⟩];go_enter func97,ntmps97;go_wp2;refine dr (aB rfl _ _ _ _ _ _ _ rfl (Kl _ _ _ _) underlying161 rfl (by kernel_rfl)) rfl ⟨wW _ _ _ _,rfl⟩
  ·rw[ff (fun h=>h2 h.2)];rcases Int.lt_or_le a2 b2 with h|h
   ·rw[Int.max_eq_right (by omega)];go_enter func97,ntmps97;go_wp2;refine dr (aB rfl _ _ _ _ _ _ _ rfl (Kl _ _ _ _) underlying161 rfl (by kernel_rfl)) rfl ⟨wW _ _ _ _,rfl⟩
   ·rw[Int.max_eq_left (by omega)];go_enter func97,ntmps97;go_wp2;refine dr (aB rfl _ _ _ _ _ _ _ rfl (Kl _ _ _ _) underlying161 rfl (by kernel_rfl)) rfl ⟨wW _ _ _ _,rfl⟩
 ·rw[ff (fun h=>h1 h.1)];rcases Int.lt_or_le a2 b2 with h|h
  ·rw[Int.max_eq_right (by omega)];go_enter func97,ntmps97;go_wp2;refine dr (aB rfl _ _ _ _ _ _ _ rfl (Kl _ _ _ _) underlying161 rfl (by kernel_rfl)) rfl ⟨wW _ _ _ _,rfl⟩
  ·rw[Int.max_eq_left (by omega)];go_enter func97,ntmps97;go_wp2;refine dr (aB rfl _ _ _ _ _ _ _ rfl (Kl _ _ _ _) underlying161 rfl (by kernel_rfl)) rfl ⟨wW _ _ _ _,rfl⟩
theorem Tryz.sZ:(prog.info? 107).map (fun i=>(i.zero,i.size,i.bytes))=some (some (.agg #[.bool false,.int .i64 0,.string ⟨#[]⟩,.int .i64 0,.int .i64 0]),5,48):=by kernel_rfl
theorem Tryz.FJ:(prog.info? 161).map (fun i=>(i.zero,i.size,i.bytes))=some (some (.agg #[.int .i64 0,.int .i64 0]),2,16):=by kernel_rfl
def s8(aM:Int)(wr:Bool)(x:Int×Int):Cl:=⟨wr,aM,[],x.1,x.2⟩
def BH(l:List Cl)(w:World)(e:Ending)(w':World):Prop:=
 ∃A c,e=.returned (.slice A l.length c)/\w'.ownsRow w.heap.size 107 5 (.slice A l.length c) l.length (l.map Cl.cells).flatten/\Below w.heap.size w w'
def M3(w:World)(aM:Int)(wr:Bool)(l:List (Int×Int))(k:Nat)(v:Value)(w':World):Prop:=
 w'.ownsRow w.heap.size 107 5 v k (((l.take k).map (s8 aM wr)).map Cl.cells).flatten/\Below w.heap.size w w'
theorem wX(w:World)(F:Nat->Prop)(aM:Int)(Xo:Bool)(v:Value)(l:List (Int×Int))(h:mG w F v l)(hl:l.length<=10000000):
  Calls prog 69 #[.int .i64 aM,.bool Xo,v] w (BH (l.map (s8 aM Xo)) w):=by
 obtain⟨i0,hi,hz0,hz1,hz2⟩:=ep Tryz.sZ;obtain⟨A,c,rfl,hnc,hcm⟩:=h.slice;have H:=al h;clear h;go_enter func69,ntmps69;go_wp2
 go_loopw [7,12] (fun v i wr=> ∃k,k<=l.length/\i=.int .i64 (k:Int)/\M3 w aM Xo l k v wr) (fun _ i _=>l.length-(intOf i).toNat)
 case atStart=>exact⟨0,dq _,rfl,ea _ _ _ _,aw _ _⟩
 case round=>
  obtain⟨k,hk,rfl,hown,hbl⟩:=hrel;by_cases hlt:k<l.length
  ·obtain⟨x,hx⟩: ∃x,l[k]?=some x:=⟨_,ao hlt⟩;obtain⟨b,o,rfl,hF,c0,c1⟩:=H.o.at_ hx;have hb:b<w.heap.size:=aq w _ c0;have c0':=(hbl.cell (p:=⟨b,o+k*2,none⟩) hb).x c0;have c1':=(hbl.cell (p:=⟨b,o+k*2+1,none⟩) hb).x c1;have HB:=al hx;have hb2:Below wr.heap.size wr ((wr.alloc (.cells #[.int .i64 x.1,.int .i64 x.2] 161)).alloc (.cells #[.bool Xo,.int .i64 aM,.string ⟨#[]⟩,.int .i64 x.1,.int .i64 x.2] 107)):=((aw _ _).alloc (aE _) _).alloc (by simp) _;have hown':=aY hown hb2;have hnews:=eb (an (wr.alloc (.cells #[.int .i64 x.1,.int .i64 x.2] 161)) (.cells #[.bool Xo,.int .i64 aM,.string ⟨#[]⟩,.int .i64 x.1,.int .i64 x.2] 107));rw[show(wr.alloc (.cells #[.int .i64 x.1,.int .i64 x.2] 161)).heap.size=wr.heap.size+1 by simp]at hnews;have HOWN:=al (ab hown' (ab hnews (ab hown hb2)));have Rh:=al hbl;have jh:=al hi;clear hx c0 c1 hown hown' hnews hb2 hbl;go_wp2_with (at_builtin;go_loud (refine eh _ rfl _ _ 44 rfl w.heap.size 107 i0 _ 5 48 underlying44 jh.o hz0 hz1 hz2 rfl (by decide) u7 k _ rfl HOWN.o.1 ⟨wr.heap.size+1,0,none⟩ 1 1 [.bool Xo,.int .i64 aM,.string ⟨#[]⟩,.int .i64 x.1,.int .i64 x.2] rfl rfl HOWN.o.2.1 (by simp[Value.oneCell']) (by decide) (by unfold maxLen;omega) (by omega) (by have:=Rh.o.size;simp;omega) _ rfl ?_);intro g cap w1 hown1 hgrow1 jt qg);go_roundw
   case rel=>
    refine⟨k+1,by omega,by go_num,?_,?_⟩
    ·have htk:l.take (k+1)=l.take k++[x]:=by rw[iv,HB.o];rfl
     rw[htk];simpa[s8,Cl.cells]using hown1
    ·have hs:=Rh.o.size;exact((Rh.o.alloc (by omega) _).alloc (by simp;omega) _).grown hgrow1 (by simp;omega) (fun j hj=>(HOWN.o.d.1.lt j hj).1)
   case measure=>simp[intOf];omega
  ·have hkl:k=l.length:=by omega
   subst hkl;go_wp2;go_ret
   rw[gd]at hown;obtain⟨A',c',rfl⟩:=ag hown;exact⟨A',c',by simp,by simpa using hown,hbl⟩
def I3(e:TypeId)(xs:List Value)(w:World)(en:Ending)(w':World):Prop:=
 ∃A c,en=.returned (.slice A xs.length c)/\w'.ownsRow w.heap.size e 1 (.slice A xs.length c) xs.length xs/\Below w.heap.size w w'
theorem Tryz.I4:(prog.info? 5).map (fun i=>(i.zero,i.size,i.bytes))=some (some (.int .u8 0),1,1):=by kernel_rfl
theorem Tryz.Va:(prog.info? 41).map (fun i=>(i.zero,i.size,i.bytes))=some (some (.slice none 0 0),1,24):=by kernel_rfl
theorem lK(v:Value)(xs:List Value)(F:Nat->Prop)(w:World)(hr:Rd w F v xs)(h1: ∀u∈xs,u.oneCell'=true)(hb:xs.length<=140737488355328):
  Calls prog 22 #[v] w (I3 5 xs w):=by
 obtain⟨i0,hi,hz0,hz1,hz2⟩:=ep Tryz.I4;have hr':=hr;obtain⟨A,n,c,rfl,hl,hnc,hcm,hx⟩:=hr';have hnil:=fun w=>Lib.run_eql_slice_nil (P:=prog) w 41 5 A n c 0 0 underlying41;have HX:=al hx;have HL:=al hl;clear hx hl;rcases A with _|a
 ·go_enter func22,ntmps22
  go_wp2
  go_ret
  have:xs=[]:=by
   rcases Nat.eq_zero_or_pos n with h0|h0
   ·exact dj (by rw[HL.o,h0])
   ·obtain⟨_,_,h,_⟩:=HX.o h0;cases h
  subst this;exact⟨none,0,rfl,ea _ _ _ _,aw _ _⟩
 ·have hr2:Rd (w.alloc (.cells #[] 5)) F (.slice (some a) n c) xs:=hr.below ((aw _ _).alloc (aE _) _);have hown0:=World.ownsRow_made (e:=5) (base:=w.heap.size) (size:=1) w #[] 0 (aE _) (by simp[maxLen]) rfl;have c1:(0+xs.length)*1<=140737488355328:=by omega
  have c2:0+xs.length<=maxLen:=by simp only[maxLen];omega
  have c3:w.heap.size<=(w.alloc (.cells #[] 5)).heap.size:=by simp
  have C:=al (ab c1 (ab c2 c3));clear c1 c2 c3;go_enter func22,ntmps22;go_wp2_with (at_builtin;go_loud (refine iJ _ rfl _ _ 41 rfl w.heap.size 5 i0 (.int .u8 0) 1 underlying41 hi hz0 hz1 hz2 rfl _ 0 [] rfl hown0 F _ xs rfl hr2 h1 C.o.1 C.o.2.1 C.o.d ?_);intro v' w1 hown1 hgrow1 _);go_ret
  simp only[gx,fs]at hown1;obtain⟨A',c',hv⟩:=ag hown1;rw[hv]at hown1⊢;exact⟨A',c',rfl,hown1,((aw _ _).alloc (aE _) _).grown hgrow1 (by simp) (fun k hk=>by have h2:some w.heap.size=some k:=hk;injection h2 with h2;omega)⟩
def ko(w:World)(T:Nat)(n:Int):Prop:=
 ∃N,w.heap[T]?=some (.cells #[.int .i64 n,.int .i64 0,.pointer (some ⟨N,0,none⟩)] 187 (0,0))/\w.heap[N]?=some (.cells #[.slice none 0 0,.slice none 0 0] 185 (0,0))
theorem ae(w:World)(o:Obj):Below w.heap.size w (w.alloc o):=(aw _ _).alloc (aE _) _
theorem ko.only{w w':World}{S:Nat->Prop}{T:Nat}{n:Int}(h:ko w T n)(ho:Only S w w')(hS: ∀k cs t,S k->w.heap[k]?=some (.cells cs t (0,0))->t≠187/\t≠185):ko w' T n:=by obtain⟨N,h1,h2⟩:=h;exact⟨N,ho.heap h1 (fun hs=>(hS _ _ _ hs h1).1 rfl),ho.heap h2 (fun hs=>(hS _ _ _ hs h2).2 rfl)⟩
theorem ko.below{w w':World}{T:Nat}{n:Int}(h:ko w T n)(hb:Below w.heap.size w w'):ko w' T n:=by obtain⟨N,h1,h2⟩:=h;exact⟨N,pt hb h1,pt hb h2⟩
theorem FK(w:World)(n:Int)(h1:2<=n)(h2:n<=16):Calls prog 53 #[.int .i64 n] w fun e w'=>
  ∃T,e=.returned (.tuple #[.pointer (some ⟨T,0,none⟩),.int .i64 0])/\w.heap.size<=T/\ko w' T n/\Below w.heap.size w w':=by
 obtain⟨hb,k1⟩:=qn w (.cells #[.slice none 0 0,.slice none 0 0] 185);obtain⟨hb2,k2⟩:=qn (w.alloc (.cells #[.slice none 0 0,.slice none 0 0] 185)) (.cells #[.int .i64 n,.int .i64 0,.pointer (some ⟨w.heap.size,0,none⟩)] 187)
 have H:=al (show ∃T,T=w.heap.size+1/\w.heap.size<=T/\ko ((w.alloc (.cells #[.slice none 0 0,.slice none 0 0] 185)).alloc (.cells #[.int .i64 n,.int .i64 0,.pointer (some ⟨w.heap.size,0,none⟩)] 187)) T n/\Below w.heap.size w ((w.alloc (.cells #[.slice none 0 0,.slice none 0 0] 185)).alloc (.cells #[.int .i64 n,.int .i64 0,.pointer (some ⟨w.heap.size,0,none⟩)] 187))from
  ⟨_,rfl,by omega,⟨w.heap.size,by simpa using k2,pt hb2 k1⟩,hb.x (hb2.m (by simp))⟩)
 have h1': ¬n<2:=by omega
 have h2': ¬16<n:=by omega
 clear hb k1 hb2 k2;go_enter func53,ntmps53;go_wp2
 go_ret2
 obtain⟨T,e,h3,h4,h5⟩:=H.o;subst e;exact⟨_,rfl,h3,h4,h5⟩
def tj(w:World)(T:Nat)(most n:Int)(L:Nat):Prop:=
 ∃t0 t1 t2 t3 t4:Nat,w.heap[T]?=some (.cells #[.int .i64 most,.pointer (some ⟨t0,0,none⟩),.pointer (some ⟨t1,0,none⟩),.pointer (some ⟨t2,0,none⟩),.pointer (some ⟨t3,0,none⟩),.pointer (some ⟨t4,0,none⟩)] 140 (0,0))/\
  (L<=t0/\ko w t0 n)/\(L<=t1/\ko w t1 n)/\(L<=t2/\ko w t2 n)/\(L<=t3/\ko w t3 n)/\(L<=t4/\ko w t4 n)
def Trees(w wr:World)(T:Nat)(most n:Int)(k:Nat):Prop:=
 ∃cs:Array Value,wr.heap[T]?=some (.cells cs 140 (0,0))/\cs.size=6/\cs[0]?=some (.int .i64 most)/\T<wr.heap.size/\Below w.heap.size w wr/\w.heap.size<=T/\
  ∀j,j<k-> ∃t,cs[j+1]?=some (.pointer (some ⟨t,0,none⟩))/\w.heap.size<=t/\ko wr t n
theorem Trees.more{w wr w':World}{T t:Nat}{most n:Int}{k:Nat}(h:Trees w wr T most n k)(hk:k<5)(hb:Below wr.heap.size wr w')(ht:wr.heap.size<=t)(hE:ko w' t n):Trees w (w'.setCell ⟨T,k+1,none⟩ (.pointer (some ⟨t,0,none⟩))) T most n (k+1):=by
 obtain⟨cs,h1,h2,h3,h4,h5,h6,h7⟩:=h;have h1':=pt hb h1;have ho:=Only.aN w' T (k+1) (.pointer (some ⟨t,0,none⟩))
 have hS: ∀q cs' t',q=T->w'.heap[q]?=some (.cells cs' t' (0,0))->t'≠187/\t'≠185:=by rintro q cs' t' rfl hq;rw[h1']at hq;injection hq with hq;injection hq with _ e;subst e;exact⟨by decide,by decide⟩
 refine⟨cs.setIfInBounds (k+1) (.pointer (some ⟨t,0,none⟩)),by simp[World.setCell,Array.getElem?_modify,h1'],by simpa using h2,?_,cq h4 (da hb.size ho.size),(h5.x (hb.m h5.size)).setCell (p:=⟨T,k+1,none⟩) h6 _,h6,fun j hj=>?_⟩
 ·rw[ir,ff (by omega)];exact h3
 ·by_cases hjk:j=k
  ·subst hjk;refine⟨t,?_,da h5.size ht,hE.only ho hS⟩;rw[ir,fi rfl,fi (by omega)]
  ·obtain⟨t',a1,a2,a3⟩:=h7 j (by omega);refine⟨t',?_,a2,(a3.below hb).only ho hS⟩;rw[ir,ff (by omega)];exact a1
theorem Trees.all{w wr:World}{T:Nat}{most n:Int}(h:Trees w wr T most n 5):tj wr T most n w.heap.size:=by
 obtain⟨⟨l⟩,h1,h2,h3,h4,h5,h6,h7⟩:=h
 match l,h2 with
 |[c0,c1,c2,c3,c4,c5],_=>obtain⟨t0,a0,b0,d0⟩:=h7 0 (by decide);obtain⟨t1,a1,b1,d1⟩:=h7 1 (by decide);obtain⟨t2,a2,b2,d2⟩:=h7 2 (by decide);obtain⟨t3,a3,b3,d3⟩:=h7 3 (by decide);obtain⟨t4,a4,b4,d4⟩:=h7 4 (by decide);simp at h3 a0 a1 a2 a3 a4;subst h3 a0 a1 a2 a3 a4;exact⟨t0,t1,t2,t3,t4,h1,⟨b0,d0⟩,⟨b1,d1⟩,⟨b2,d2⟩,⟨b3,d3⟩,⟨b4,d4⟩⟩
theorem Dx(w:World)(most n:Int)(h1:1<=most)(h2:most<=1024)(h3:2<=n)(h4:n<=16):Calls prog 35 #[.int .i64 most,.int .i64 n] w fun e w'=>
  ∃T,e=.returned (.tuple #[.pointer (some ⟨T,0,none⟩),.int .i64 0])/\w.heap.size<=T/\tj w' T most n w.heap.size/\Below w.heap.size w w':=by
 obtain⟨hb0,k0⟩:=qn w (.cells #[.int .i64 most,.pointer none,.pointer none,.pointer none,.pointer none,.pointer none] 140);have m1: ¬most<1:=by omega
 have m2: ¬1024<most:=by omega
 have HN:=al (ab h3 h4);go_enter func35,ntmps35;go_upto_region 4 with fail;generalize w.alloc (.cells #[.int .i64 most,.pointer none,.pointer none,.pointer none,.pointer none,.pointer none] 140)=w1 at hb0 k0⊢;obtain⟨T,hT⟩:=qt (w.heap.size);rw[hT]at k0⊢;have HS:=al (show Trees w w1 T most n 0 from⟨_,k0,rfl,rfl,(bd.1 k0).1,hb0,by omega,fun j hj=>by omega⟩);clear hb0 k0 hT;go_wp2_with fail
 go_loopw [19] (fun i wr=> ∃k:Nat,k<=5/\i=.int .i64 (k:Int)/\Trees w wr T most n k) (fun i _=>5-(intOf i).toNat)
 case atStart=>exact⟨0,by decide,rfl,HS.o⟩
 case round=>
  obtain⟨k,hk,rfl,hR⟩:=hrel;by_cases hlt:k<5
  ·have HR:=al hR;have HC:=al (FK wr n HN.o.1 HN.o.2);clear hR;go_wp2_with fail;refine HC.o.m ?_;rintro e w2 ⟨t,rfl,ht,hE,hb⟩;have hM:=HR.o.more hlt hb ht hE;obtain⟨cs,q1,q2,_⟩:=HR.o;have q1':=pt hb q1;obtain⟨cv,hcv⟩: ∃v,cs[k+1]?=some v:=⟨_,gC (by omega)⟩;have z0:w2.cell? ⟨T,1+k,none⟩=some cv:=by rw[Nat.add_comm 1 k];simp[World.cell?,q1',hcv]
   have z1:w2.frozen? ⟨T,1+k,none⟩=false:=by simp[World.frozen?,q1']
   have i1:(0:Int)<=(k:Int):=by omega
   have i2:(k:Int)<5:=by omega
   have HM:=al hM;clear hM q1 q1' q2 hcv ht hE hb HC;go_wp2_with fail;go_roundw
   case rel=>exact⟨k+1,by omega,by go_num,by rw[Nat.add_comm 1 k];exact HM.o⟩
   case measure=>simp[intOf];omega
  ·obtain rfl:k=5:=by omega
   have HR:=al hR;clear hR;go_wp2_with fail
   go_ret2
   obtain⟨cs,q1,q2,q3,q4,q5,q6,q7⟩:=id HR.o;exact⟨T,rfl,q6,HR.o.all,q5⟩
theorem nB(w:World)(T:Nat)(s:ByteArray)(h1:1<=s.size)(h2:s.size<=64):Calls prog 78 #[.pointer (some ⟨T,0,none⟩),.string s] w fun e w'=>e=.returned (.int .i64 0)/\w'=w:=by
 have m1: ¬(s.size:Int)<1:=by omega
 have m2: ¬(64:Int)<(s.size:Int):=by omega
 go_enter func78,ntmps78;go_wp2;go_ret
 exact⟨rfl,rfl⟩
theorem zS{w:World}{B:Nat}{a0 a1 a2 a3 v0 v1 v2 v3:Value}{t:TypeId}(h:w.heap[B]?=some (.cells #[a0,a1,a2,a3] t (0,0))):
  ((((w.setCell ⟨B,0,none⟩ v0).setCell ⟨B,1,none⟩ v1).setCell ⟨B,2,none⟩ v2).setCell ⟨B,3,none⟩ v3).heap[B]?=some (.cells #[v0,v1,v2,v3] t (0,0)):=by
 have h0:=db w B 0 _ t v0 h;have h1:=db _ B 1 _ t v1 h0;have h2:=db _ B 2 _ t v2 h1;have h3:=db _ B 3 _ t v3 h2;simpa using h3
theorem pR(w:World)(o:Obj):Below w.heap.size w (w.alloc o):=(aw _ _).alloc (aE _) _
theorem lL(w:World)(n M i:Nat)(v:Value):Only (fun k=>k=M) w ((w.drewN n).setCell ⟨M,i,none⟩ v):=((ox (fun k=>k=M) w).drewN n).setCell (p:=⟨M,i,none⟩) (fun _=>rfl) v
theorem bj(w:World)(M i:Nat)(v:Value):Only (fun k=>k=M) w (w.setCell ⟨M,i,none⟩ v):=(ox (fun k=>k=M) w).setCell (p:=⟨M,i,none⟩) (fun _=>rfl) v
theorem aQ{w:World}{k:Nat}{o:Obj}(h:w.heap[k]?=some o):k<w.heap.size:=(bd.1 h).1
def Rw.val(r:Rw):Value:=.agg #[.int .i64 r.a,.int .i64 r.b,.int .i64 r.c,.int .i64 r.d]
theorem dm{P:Program}{fn:Func}{p u x:Tmp}{ty:TypeId}(h:fn.results= #[.cell p ty,.tmp u,.tmp x])(tmps:Array Value)(w:World)(g:Nat)(t:TypeId)(cs:Array Value)(fr:Nat×Nat)(d:TypeDesc)
  (hp:tmps.getD p undef=.pointer (some ⟨g,0,none⟩)) (hg:w.heap[g]?=some (.cells cs t fr))
  (hu:P.underlying ty=some d) (hd:(match d with| .struct _| .array _ _=>true|_=>false)=true) (hi:(P.info? ty).map (·.size)=some cs.size):
  (results fn tmps).run P w=.ok (.tuple #[.agg cs,tmps.getD u undef,tmps.getD x undef]) w:=by
 have hp':tmps[p]?.getD undef=.pointer (some ⟨g,0,none⟩):=by simpa using hp
 simp only[results,h];simp[Result.andThen,hp',asAddr,run_loadVar_row w g t ty cs fr d hg hu hd hi]
theorem cL{w:World}{R:Nat}{a b c d:Value}{t:TypeId}(k3:w.heap[R]?=some (.cells #[a,b,c,d] t (0,0))):
  (w.cell? ⟨R,0,none⟩=some a/\w.cell? ⟨R,1,none⟩=some b/\w.cell? ⟨R,2,none⟩=some c/\w.cell? ⟨R,3,none⟩=some d)/\w.frozen? ⟨R,0,none⟩=false/\w.frozen? ⟨R,1,none⟩=false/\w.frozen? ⟨R,2,none⟩=false/\w.frozen? ⟨R,3,none⟩=false:=by
 simp[World.cell?,World.frozen?,k3]
def uW(c:Nat):Option Rw->Option Rw->List Cl
 |some o,some n=>if o.aM c=n.aM c then[]else[⟨true,c,[],o.aM c,o.aM c⟩,⟨true,c,[],n.aM c,n.aM c⟩]
 |some o,none=>[⟨true,c,[],o.aM c,o.aM c⟩]
 |none,some n=>[⟨true,c,[],n.aM c,n.aM c⟩]
 |none,none=>[]
def gY(k:List UInt8)(old now:Option Rw):List Cl:=
 ⟨true,-1,k,0,0⟩::((if old.isSome=now.isSome then[]else[⟨true,-1,[35],0,0⟩])++(uW 0 old now++(uW 1 old now++(uW 2 old now++uW 3 old now))))
def ku(k:List UInt8)(old now:Option Rw):Nat->List Cl
 |0=>[⟨true,-1,k,0,0⟩]++(if old.isSome=now.isSome then[]else[⟨true,-1,[35],0,0⟩])
 |c+1=>ku k old now c++uW c old now
theorem xe(k:List UInt8)(old now:Option Rw):ku k old now 4=gY k old now:=by simp[ku,gY]
theorem M4(c:Nat)(old now:Option Rw):(uW c old now).length<=2:=by unfold uW;cases old<;>cases now<;>simp;split<;>simp
theorem qO(k:List UInt8)(old now:Option Rw): ∀c,(ku k old now c).length<=2+2*c
 |0=>by simp only[ku];split<;>simp
 |c+1=>by have h1:=qO k old now c;have h2:=M4 c old now;simp only[ku,fb];omega
def FM(n:Int):Int:=if n<2\/16<n then 23 else 0
def ju(most n:Int):Int:=if most<1\/1024<most then 23 else FM n
def fS(f:Int):Int:=if f<0\/10000<f then 10 else 0
def iR(most n f:Int):Int:=if fS f=0 then ju most n else fS f
theorem Dy(w:World)(n:Int)(h:n<2\/16<n):Calls prog 53 #[.int .i64 n] w fun e w'=>
  e=.returned (.tuple #[.pointer none,.int .i64 23])/\w'=w:=by
 by_cases h1:n<2
 ·clear h;go_enter func53,ntmps53;go_wp2
  go_ret2
  exact⟨rfl,rfl⟩
 ·have h2:16<n:=by omega
  clear h;go_enter func53,ntmps53;go_wp2
  go_ret2
  exact⟨rfl,rfl⟩
def xf(w:World)(e most n:Int)(x:Ending)(w':World):Prop:=
 Below w.heap.size w w'/\(e=0-> ∃T,x=.returned (.tuple #[.pointer (some ⟨T,0,none⟩),.int .i64 0])/\w.heap.size<=T/\tj w' T most n w.heap.size)/\
  (e≠0->x=.returned (.tuple #[.pointer none,.int .i64 e]))
theorem BI(w:World)(most n:Int):Calls prog 35 #[.int .i64 most,.int .i64 n] w (xf w (ju most n) most n):=by
 by_cases h1:most<1
 ·have H:=al (show ju most n=23 by unfold ju;rw[fi (.inl h1)]);go_enter func35,ntmps35;go_wp2_with fail
  go_ret2
  exact⟨aw _ _,fun h=>absurd (H.o.symm.x h) (by decide),fun _=>by rw[H.o];rfl⟩
 by_cases h2:1024<most
 ·have H:=al (show ju most n=23 by unfold ju;rw[fi (.inr h2)]);go_enter func35,ntmps35;go_wp2_with fail
  go_ret2
  exact⟨aw _ _,fun h=>absurd (H.o.symm.x h) (by decide),fun _=>by rw[H.o];rfl⟩
 by_cases h3:n<2\/16<n
 ·have H:=al (show ju most n=23 by unfold ju FM;rw[ff (by omega),fi h3]);have hb0:=ae w (.cells #[.int .i64 most,.pointer none,.pointer none,.pointer none,.pointer none,.pointer none] 140);go_enter func35,ntmps35;go_upto_region 4 with fail;generalize w.alloc (.cells #[.int .i64 most,.pointer none,.pointer none,.pointer none,.pointer none,.pointer none] 140)=w1 at hb0⊢;have HB:=al hb0;generalize w.heap.size=T;have HC:=al (Dy w1 n h3);clear hb0 h3;go_wp2_with fail
  go_loopw [19] (fun i wr=>i=.int .i64 0/\wr=w1) (fun i _=>5-(intOf i).toNat)
  case atStart=>exact⟨rfl,rfl⟩
  case round=>
   obtain⟨rfl,rfl⟩:=hrel;go_wp2_with fail;refine HC.o.m ?_;rintro e w2 ⟨rfl,rfl⟩;go_wp2_with fail
   go_ret2
   exact⟨HB.o,fun h=>absurd (H.o.symm.x h) (by decide),fun _=>by rw[H.o];rfl⟩
 ·have H:ju most n=0:=by unfold ju FM;rw[ff (by omega),ff h3]
  refine(Dx w most n (by omega) (by omega) (by omega) (by omega)).m ?_;rintro e w' ⟨T,rfl,hT,hE,hb⟩;exact⟨hb,fun _=>⟨T,rfl,hT,hE⟩,fun h=>absurd H h⟩
theorem zT(w:World)(f:Int):Calls prog 41 #[.int .i64 f] w fun e w'=>e=.returned (.int .i64 (fS f))/\w'=w:=by
 by_cases h1:f<0
 ·have H:=al (show fS f=10 by unfold fS;rw[fi (.inl h1)]);go_enter func41,ntmps41;go_wp2;go_ret
  exact⟨by rw[H.o];rfl,rfl⟩
 by_cases h2:10000<f
 ·have H:=al (show fS f=10 by unfold fS;rw[fi (.inr h2)]);go_enter func41,ntmps41;go_wp2;go_ret
  exact⟨by rw[H.o];rfl,rfl⟩
 ·have H:=al (show fS f=0 by unfold fS;rw[ff (by omega)]);go_enter func41,ntmps41;go_wp2;go_ret
  exact⟨by rw[H.o];rfl,rfl⟩
def rK(most n f:Int):Value:=.agg #[.int .i64 most,.int .i64 n,.int .i64 f]
theorem tj.le{w:World}{T L L':Nat}{most n:Int}(h:tj w T most n L)(hl:L'<=L):tj w T most n L':=by obtain⟨t0,t1,t2,t3,t4,h0,⟨a0,b0⟩,⟨a1,b1⟩,⟨a2,b2⟩,⟨a3,b3⟩,⟨a4,b4⟩⟩:=h;exact⟨t0,t1,t2,t3,t4,h0,⟨da hl a0,b0⟩,⟨da hl a1,b1⟩,⟨da hl a2,b2⟩,⟨da hl a3,b3⟩,⟨da hl a4,b4⟩⟩
theorem xf.of{w w1:World}{e most n:Int}{x:Ending}{w':World}(h:xf w1 e most n x w')(hb:Below w.heap.size w w1):xf w e most n x w':=by refine⟨hb.x (h.1.m hb.size),fun h0=>?_,h.2.2⟩;obtain⟨T,e1,hT,hE⟩:=h.2.1 h0;exact⟨T,e1,da hb.size hT,hE.le hb.size⟩
theorem Dz(w:World)(most n f:Int):Calls prog 19 #[rK most n f] w (xf w (iR most n f) most n):=by
 unfold rK;have hb:=al (ae w (.cells #[.int .i64 most,.int .i64 n,.int .i64 f] 56));have HF:=al (fun w=>zT w f);have HT:=al (fun w=>BI w most n);by_cases h:fS f=0
 ·have H:=al (show iR most n f=ju most n by unfold iR;rw[fi h]);rw[h]at HF;clear h;go_enter func19,ntmps19;go_wp2_with fail;refine(HF.o _).m ?_;rintro e w2 ⟨rfl,rfl⟩;go_wp2_with fail;refine(HT.o _).m ?_;rintro e w2 h
  replace h:=h.of hb.o
  by_cases h0:ju most n=0
  ·obtain⟨T,rfl,hT,hE⟩:=h.2.1 h0;have HB:=al h.1;have HE:=al hE;have H0:=al h0;clear h h0 hE;go_wp2_with fail
   go_ret2
   rw[H.o];exact⟨HB.o,fun _=>⟨T,rfl,hT,HE.o⟩,fun h=>absurd H0.o h⟩
  ·obtain rfl:=h.2.2 h0;have HB:=al h.1;have H0:=al h0;clear h h0;go_wp2_with fail
   go_ret2
   rw[H.o];exact⟨HB.o,fun h=>absurd h H0.o,fun _=>rfl⟩
 ·have H:=al (show iR most n f=fS f by unfold iR;rw[ff h]);generalize fS f=x at h H HF;go_enter func19,ntmps19;go_wp2_with fail;refine(HF.o _).m ?_;rintro e w2 ⟨rfl,rfl⟩;go_wp2_with fail
  go_ret2
  rw[H.o];exact⟨hb.o,fun h'=>absurd h' h,fun _=>rfl⟩
end Go.Proofs.YtmkofmeojbcakaaGreatDoor
