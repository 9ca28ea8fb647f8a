import Derived.WalkKit
import Derived.WalkSpells
import Derived.WalkLawsBesides
import Derived.Lib.Hide
import Derived.Maps.AppendAt
import Derived.Deep.AppendLies
import Derived.Deep.QuietTactic
import Derived.BigQuiet
import Derived.ArgAppend
import Derived.Laws.IdiomCopy
abbrev Go.RowKit.Below.x:=@Go.RowKit.Below.trans
abbrev Go.RowKit.Below.m:=@Go.RowKit.Below.mono
abbrev Eq.x:=@Eq.trans
abbrev Iff.x:=@Iff.trans
abbrev Go.Calls.m:=@Go.Calls.mono
abbrev Go.CallsIn.m:=@Go.CallsIn.mono
abbrev Go.RoundIn.m:=@Go.RoundIn.mono
theorem Go.RowKit.Hid.o{p:Prop}(h:Go.RowKit.Hid p):p:=h
theorem And.d{a b c:Prop}(h:a/\b/\c):c:=h.2.2
theorem And.t{a b c d:Prop}(h:a/\b/\c/\d):d:=h.2.2.2
theorem And.q{a b c d e:Prop}(h:a/\b/\c/\d/\e):e:=h.2.2.2.2
namespace Go.Proofs.YtmkofmeojbcakaaGreatDoor
set_option maxRecDepth 100000
open Go.RowKit
theorem ab {a b:Prop} (h:a) (k:b):a/\b:=⟨h,k⟩
theorem al {p:Prop} (h:p):Go.RowKit.Hid p:=h
abbrev an:=@heap_alloc_new
abbrev ao:=@List.getElem?_eq_getElem
abbrev aq:=@World.block_lt_of_cell?
abbrev aw:=@Below.refl
abbrev aE:=@Nat.le_refl
abbrev bd:=@Array.getElem?_eq_some_iff
abbrev b8:=@List.getElem?_eq_some_iff
abbrev cq:=@Nat.lt_of_lt_of_le
abbrev da:=@Nat.le_trans
abbrev db:=@heap_setCell_same
abbrev de:=@List.mem_of_getElem?
abbrev dj:=@List.eq_nil_of_length_eq_zero
abbrev dq:=@Nat.zero_le
abbrev dr:=@bodyPost_ret
abbrev du:=@results_none
abbrev dy:=@List.mem_append
abbrev ea:=@World.ownsRow_nil
abbrev eb:=@World.news_of_block
abbrev ee:=@Bool.eq_false_iff
abbrev ef:=@Nat.mul_le_mul_right
abbrev eh:=@wpList_append_lies
abbrev ep:=@info_parts
abbrev et:=@List.Pairwise.nil
abbrev ew:=@List.mem_map
abbrev eC:=@bodyPost_end
abbrev eE:=@Option.some.inj
abbrev eL:=@Int.le_refl
abbrev eM:=@congrArg
abbrev eR:=@List.pairwise_cons
abbrev eS:=@List.drop_eq_nil_of_le
abbrev e7:=@List.mem_cons
abbrev fa:=@List.length_map
abbrev fb:=@List.length_append
abbrev ff:=@if_neg
abbrev fi:=@if_pos
abbrev fj:=@List.mem_singleton
abbrev fl:=@Option.some.injEq
abbrev fm:=@List.length_cons
abbrev fs:=@List.nil_append
abbrev gd:=@List.take_length
abbrev gk:=@List.map_append
abbrev gn:=@List.append_nil
abbrev gr:=@IntKind.wrap_i64
abbrev gx:=@Nat.zero_add
abbrev gC:=@Array.getElem?_eq_getElem
abbrev gE:=@List.take_of_length_le
abbrev gO:=@Addr.add_lit
abbrev gR:=@Nat.add_assoc
abbrev ie:=@Value.slice.injEq
abbrev im:=@List.getElem?_cons_zero
abbrev ir:=@Array.getElem?_setIfInBounds
abbrev iv:=@List.take_add_one
abbrev ix:=@List.length_nil
abbrev iS:=@World.drewN_zero
abbrev jj:=@Int.toNat_natCast
abbrev kc:=@List.map_nil
abbrev kd:=@List.take_zero
abbrev ke:=@List.getElem?_append_right
abbrev kh:=@List.length_take
abbrev kn:=@Exit.noGoto_ret
abbrev kt:=@List.append_assoc
abbrev la:=@Nat.succ_mul
abbrev lk:=@List.map_drop
abbrev lp:=@List.map_cons
abbrev lr:=@List.getElem?_append_left
abbrev lx:=@Bool.and_eq_true
abbrev lz:=@Option.isSome_some
abbrev lE:=@List.flatten_append
abbrev lP:=@Option.isSome_none
abbrev mc:=@Prod.mk.injEq
abbrev me:=@List.map_take
abbrev mu:=@List.getElem?_take
abbrev mv:=@List.getElem?_drop
abbrev mw:=@List.filter_append
abbrev my:=@Nat.add_zero
abbrev mT:=@List.length_drop
abbrev nf:=@Addr.mk.injEq
abbrev nh:=@Bool.false_eq_true
abbrev nw:=@Nat.min_eq_left
abbrev nx:=@Nat.add_sub_cancel
abbrev nF:=@List.size_toArray
abbrev oe:=@List.cons_append
structure Only (S:Nat->Prop) (w w':World):Prop where
 os:w'.os=w.os
 tape:w'.tape=w.tape
 output:w'.output=w.output
 size:w.heap.size<=w'.heap.size
 block: ∀k,k<w.heap.size-> ¬S k->w'.heap[k]?=w.heap[k]?
section
variable{S T:Nat->Prop}{w w' w'':World}
theorem Only.refl(S:Nat->Prop)(w:World):Only S w w:=⟨rfl,rfl,rfl,aE _,fun _ _ _=>rfl⟩
theorem Only.trans(h:Only S w w')(k:Only T w' w'')(hT: ∀i,i<w.heap.size->T i->S i):Only S w w'':=
 ⟨k.os.x h.os,k.tape.x h.tape,k.output.x h.output,da h.size k.size,
  fun i hi hS=>(k.block i (cq hi h.size) (fun ht=>hS (hT i hi ht))).x (h.block i hi hS)⟩
abbrev Only.x:=@Only.trans
theorem Only.mono(h:Only S w w')(hS: ∀i,i<w.heap.size->S i->T i):Only T w w':=
 ⟨h.os,h.tape,h.output,h.size,fun i hi hT=>h.block i hi (fun hs=>hT (hS i hi hs))⟩
abbrev Only.m:=@Only.mono
theorem Only.drew(h:Only S w w'):Only S w w'.drew:=⟨h.os,h.tape,h.output,h.size,h.block⟩
theorem Only.drewN(h:Only S w w')(n:Nat):Only S w (w'.drewN n):=⟨h.os,h.tape,h.output,h.size,h.block⟩
theorem Only.alloc(h:Only S w w')(o:Obj):Only S w (w'.alloc o):=
 h.trans (T:=S) ⟨rfl,rfl,rfl,by simp,fun k hk _=>Below.heap_alloc _ _ _ hk⟩ (fun _ _ hh=>hh)
theorem Only.setCell(h:Only S w w'){p:Addr}(hp:p.block<w.heap.size->S p.block)(u:Value):Only S w (w'.setCell p u):=
 h.trans (T:=fun k=>k=p.block) ⟨rfl,rfl,rfl,by simp[World.setCell],fun k _ hk=>Below.heap_setCell _ _ _ _ hk⟩ (fun i hi e=>by subst e;exact hp hi)
theorem Only.grown(h:Only S w w'){row:Option Nat}(hg:w'.grownBy w'' row)(hr: ∀k,row=some k->k<w.heap.size->S k):Only S w w'':=
 h.trans (T:=fun k=>row=some k) ⟨hg.os,hg.tape,hg.output,hg.size,fun k hk hn=>hg.block k hk (fun e=>hn e.symm)⟩ (fun i hi e=>hr i e hi)
theorem Only.of_grownBy{row:Option Nat}(hg:w.grownBy w' row):Only (fun k=>row=some k) w w':=
 ⟨hg.os,hg.tape,hg.output,hg.size,fun k hk hn=>hg.block k hk (fun e=>hn e.symm)⟩
theorem Only.of_below(h:Below w.heap.size w w')(S:Nat->Prop):Only S w w':=⟨h.os,h.tape,h.output,h.size,fun k hk _=>h.block k hk⟩
theorem Only.below(h:Only S w w')(hS: ∀k,k<w.heap.size-> ¬S k):Below w.heap.size w w':=⟨h.os,h.tape,h.output,h.size,fun k hk=>h.block k hk (hS k hk)⟩
theorem Only.aG{N:Nat}(h:Only S w w')(hN:N<=w.heap.size)(hS: ∀k,k<N-> ¬S k):Below N w w':=⟨h.os,h.tape,h.output,h.size,fun k hk=>h.block k (by omega) (hS k hk)⟩
theorem Only.cell(h:Only S w w'){p:Addr}{v:Value}(hc:w.cell? p=some v)(hp: ¬S p.block):w'.cell? p=some v:=
 (World.cell?_of_block (h.block p.block (aq w p hc) hp)).x hc
theorem Only.heap(h:Only S w w'){k:Nat}{o:Obj}(hc:w.heap[k]?=some o)(hp: ¬S k):w'.heap[k]?=some o:=
 (h.block k (bd.1 hc).1 hp).x hc
end
theorem nt{B:Nat}{w w':World}(h:Below B w.drew w'):Below B w w':=⟨h.os,h.tape,h.output,h.size,h.block⟩
theorem Only.aN(w:World)(b o:Nat)(u:Value):Only (fun k=>k=b) w (w.setCell ⟨b,o,none⟩ u):=
 (Only.refl (fun k=>k=b) w).setCell (p:=⟨b,o,none⟩) (fun _=>rfl) u
def Rd(w:World)(F:Nat->Prop)(v:Value)(xs:List Value):Prop:=
 ∃(A:Option Addr) (n c:Nat),v=.slice A n c/\xs.length=n/\n<=c/\c<=maxLen/\
  (0<n-> ∃b o,A=some ⟨b,o,none⟩/\F b/\ ∀j u,xs[j]?=some u->w.cell? ⟨b,o+j,none⟩=some u)
section
variable{F G S:Nat->Prop}{w w':World}{v:Value}{xs:List Value}
theorem Rd.mono(h:Rd w F v xs)(hF: ∀k,F k->G k):Rd w G v xs:=by obtain⟨A,n,c,hv,hl,hc,hm,hx⟩:=h;exact⟨A,n,c,hv,hl,hc,hm,fun hn=>let⟨b,o,e,hb,hu⟩:=hx hn;⟨b,o,e,hF b hb,hu⟩⟩
abbrev Rd.m:=@Rd.mono
theorem Rd.only(h:Rd w F v xs)(ho:Only S w w')(hd: ∀k,F k-> ¬S k):Rd w' F v xs:=by obtain⟨A,n,c,hv,hl,hc,hm,hx⟩:=h;exact⟨A,n,c,hv,hl,hc,hm,fun hn=>let⟨b,o,e,hb,hu⟩:=hx hn;⟨b,o,e,hb,fun j u hj=>ho.cell (hu j u hj) (hd b hb)⟩⟩
theorem Rd.below(h:Rd w F v xs)(hb:Below w.heap.size w w'):Rd w' F v xs:=h.only (Only.of_below hb fun _=>False) (fun _ _=>id)
theorem Rd.nil(w:World)(F:Nat->Prop):Rd w F (.slice none 0 0) []:=⟨none,0,0,rfl,rfl,aE _,by simp[maxLen],fun h=>absurd h (by omega)⟩
theorem Rd.aU{base:Nat}{e:TypeId}{n:Nat}(h:w.ownsRow base e 1 v n xs)(hF: ∀g,v.ownBlock=some g->F g):Rd w F v xs:=by
 rcases h.2 with⟨rfl,rfl⟩|⟨g,cap,cur,rfl,_,hg,hn,hc,hs,ht⟩
 ·have:xs=[]:=dj (by simpa using h.1);subst this;exact Rd.nil w F
 ·refine⟨_,_,_,rfl,by simpa using h.1,hn,hc,fun _=>⟨g,0,rfl,hF g rfl,fun j u hu=>?_⟩⟩;have:=h.cells (g:=g) rfl j u hu;unfold Addr.add at this;split at this
  ·subst_vars;simpa using this
  ·simpa using this
theorem Fu{p:Addr}(hag: ∀k o,F k->w.heap[k]?=some o->w'.heap[k]?=some o)(hp:F p.block)(h:w.cell? p=some v):w'.cell? p=some v:=by have hlt:=aq w p h;exact(World.cell?_of_block (by rw[hag p.block _ hp (gC hlt),gC hlt])).x h
theorem Rd.bound(h:Rd w F v xs):Rd w (fun k=>F k/\k<w.heap.size) v xs:=by obtain⟨A,n,c,hv,hl,hc,hm,hx⟩:=h;refine⟨A,n,c,hv,hl,hc,hm,fun hn=>?_⟩;obtain⟨b,o,e,hb,hu⟩:=hx hn;exact⟨b,o,e,⟨hb,aq w _ (hu 0 _ (ao (by omega)))⟩,hu⟩
theorem Rd.cells(h:Rd w F v xs){A:Option Addr}{n c:Nat}(hv:v=.slice A n c): ∀a,A=some a-> ∀j u,xs[j]?=some u->w.cell? (a.add j)=some u:=by
 obtain⟨A',n',c',hv',hl,hc,hm,hx⟩:=h;rw[hv']at hv;injection hv with h1 h2 h3;subst h1;subst h2;subst h3;intro a ha j u hj;have hlt:j<xs.length:=(b8.1 hj).1;obtain⟨b,o,e,_,hu⟩:=hx (by omega);rw[ha]at e;injection e with e;subst e;have:=hu j u hj;unfold Addr.add;split
 ·subst_vars;simpa using this
 ·simpa using this
end
theorem cN{w:World}{base:Nat}{e t:TypeId}{size n g:Nat}{v:Value}{xs:List Value}{cs:Array Value}{fr:Nat×Nat}(h:w.ownsRow base e size v n xs)(hg:w.heap[g]?=some (.cells cs t fr))(hne:e≠t):v.ownBlock≠some g:=by
 rcases h.2 with⟨rfl,_⟩|⟨g',cap,cur,rfl,_,hh,_⟩
 ·simp[Value.ownBlock]
 ·intro he;have:g'=g:=by simpa[Value.ownBlock]using he
  subst this;rw[hg]at hh;injection hh with hh;injection hh with _ ht;exact hne ht.symm
theorem QI{w:World}{base:Nat}{e:TypeId}{size n g:Nat}{v:Value}{xs:List Value}(h:w.ownsRow base e size v n xs)(hg:v.ownBlock=some g): ∃cs fr,w.heap[g]?=some (.cells cs e fr):=by
 rcases h.2 with⟨rfl,_⟩|⟨g',cap,cur,rfl,_,hh,_⟩
 ·simp[Value.ownBlock]at hg
 ·have:g'=g:=by simpa[Value.ownBlock]using hg
  subst this;exact⟨_,_,hh⟩
theorem iI{w:World}{base base':Nat}{e e':TypeId}{size size' n n' g:Nat}{v v':Value}{xs xs':List Value}(h:w.ownsRow base e size v n xs)(h':w.ownsRow base' e' size' v' n' xs')(hne:e≠e')(hg:v.ownBlock=some g):v'.ownBlock≠some g:=by obtain⟨cs,fr,hb⟩:=QI h hg;exact cN h' hb (Ne.symm hne)
theorem aY{w w':World}{base:Nat}{e:TypeId}{size n:Nat}{v:Value}{xs:List Value}(h:w.ownsRow base e size v n xs)(hb:Below w.heap.size w w'):w'.ownsRow base e size v n xs:=by
 refine⟨h.1,?_⟩;rcases h.2 with hn|⟨g,cap,cur,rfl,hg0,hgg,rest⟩
 ·exact .inl hn
 ·exact .inr ⟨g,cap,cur,rfl,hg0,by rw[hb.block g (Array.getElem?_eq_some_iff.1 hgg).1];exact hgg,rest⟩
theorem aT{w w':World}{S:Nat->Prop}{base:Nat}{e:TypeId}{size n:Nat}{v:Value}{xs:List Value}(h:w.ownsRow base e size v n xs)(hb:Only S w w')(hS: ∀g,v.ownBlock=some g-> ¬S g):w'.ownsRow base e size v n xs:=by
 refine⟨h.1,?_⟩;rcases h.2 with hn|⟨g,cap,cur,rfl,hg0,hgg,rest⟩
 ·exact .inl hn
 ·exact .inr ⟨g,cap,cur,rfl,hg0,hb.heap hgg (hS g rfl),rest⟩
theorem dM{w:World}{base base':Nat}{e:TypeId}{size n:Nat}{v:Value}{xs:List Value}(h:w.ownsRow base e size v n xs)(hb: ∀g,v.ownBlock=some g->base'<=g):w.ownsRow base' e size v n xs:=by
 refine⟨h.1,?_⟩;rcases h.2 with hn|⟨g,cap,cur,rfl,hg0,hgg,rest⟩
 ·exact .inl hn
 ·exact .inr ⟨g,cap,cur,rfl,hb g rfl,hgg,rest⟩
theorem TQ{W w1:World}(hb:Below W.heap.size W w1):(∀b o,b<W.heap.size->w1.cell? ⟨b,o,none⟩=W.cell? ⟨b,o,none⟩)/\(∀b o,b<W.heap.size->w1.frozen? ⟨b,o,none⟩=W.frozen? ⟨b,o,none⟩):=
 ⟨fun b o h=>hb.cell (p:=⟨b,o,none⟩) h,fun b o h=>hb.frozen (p:=⟨b,o,none⟩) h⟩
theorem nu{P:Program}{f:FuncId}{args:Array Value}{w:World}{n:Nat}{v:Value}
  (h:Calls P f args (w.drewN n) fun e w'=>e=.returned v/\w.drewN n=w'):Calls P f args (w.drewN n) fun e w''=>e=.returned v/\ ∃m,w''=w.drewN m:=
 h.m fun _ _ ⟨he,hm⟩=>⟨he,n,hm.symm⟩
def B8(x:UInt8):Value:=.int .u8 (x.toNat:Int)
theorem vX(xs:List UInt8): ∀u∈xs.map B8,u.oneCell'=true:=by intro u hu;obtain⟨x,_,rfl⟩:=ew.1 hu;rfl
section
variable{P:Program}(w:World)
theorem lF(base:Nat)(t ty e:TypeId)(i:TypeInfo)(size:Nat)(ht:P.underlying t=some (.slice e))(hi:P.info? e=some i)
  (v:Value) (n:Nat) (xs:List Value) (hown:w.ownsRow base e size v n xs) (c:Nat):(Builtin.append_ #[t,t] ty #[v,.slice none 0 c]).run P w=.ok v w:=by
 rcases hown.2 with⟨rfl,rfl⟩|⟨g,cap,cur,rfl,_,_,hnc,_⟩
 ·simp[Builtin.append_,run_underlying ht,sizeOf,typeInfo,hi,Builtin.lenOf,Builtin.firstCells]
 ·simp[Builtin.append_,run_underlying ht,sizeOf,typeInfo,hi,Builtin.lenOf,Builtin.firstCells,hnc,storeCells]
theorem yN(base:Nat)(t ty e:TypeId)(i:TypeInfo)(z:Value)(bytes:Nat)(ht:P.underlying t=some (.slice e))(hi:P.info? e=some i)(hz:i.zero=some z)
  (hsize:i.size=1) (hby:i.bytes=bytes) (hzs:z.cells.size=1)
  (v:Value) (n:Nat) (xs:List Value) (hown:w.ownsRow base e 1 v n xs) (F:Nat->Prop) (x:Value) (news:List Value) (hr:Rd w F x news) (h1: ∀u∈news,u.oneCell'=true)
  (hbytes:(n+news.length)*bytes<=140737488355328) (h63:n+news.length<=maxLen) (hbase:base<=w.heap.size):
  ∃v' w',(Builtin.append_ #[t,t] ty #[v,x]).run P w=.ok v' w'/\w'.ownsRow base e 1 v' (n+news.length) (xs++news)/\w.grownBy w' v.ownBlock/\
   (v'.ownBlock=v.ownBlock\/v'.ownBlock=some w.heap.size):=by
 obtain⟨A,m,c,rfl,hl,hc,hm,hx⟩:=hr;subst hl;rcases A with _|ad
 ·have hm0:news.length=0:=by
   rcases Nat.eq_zero_or_pos news.length with h0|h0
   ·exact h0
   ·obtain⟨b,o,h,_⟩:=hx h0;cases h
  have hn:news=[]:=dj hm0;subst hn;exact⟨v,w,lF w base t ty e i 1 ht hi v n xs hown c,by simpa using hown,World.grownBy.refl w _,.inl rfl⟩
 ·have hcells: ∀j u,news[j]?=some u->w.cell? (ad.add j)=some u:=by
   intro j u hu;have hlt:j<news.length:=(b8.1 hu).1;obtain⟨b,o,h,_,hcc⟩:=hx (by omega);injection h with h;subst h;have:=hcc j u hu;unfold Addr.add;split
   ·subst_vars;simpa using this
   ·simpa using this
  obtain⟨v',w',hrun,h2,h3,_,h5⟩:=run_append_own_at (P:=P) w base t ty e i z 1 bytes ht hi hz hsize hby hzs (by decide) v n xs hown ad news.length c news (by simp) hcells h1 h63 hbytes hbase;exact⟨v',w',hrun,h2,h3,h5⟩
theorem Bp{o:Oper}{a:Act}{K:Act->World->Prop}{Q:Exit->Act->World->Prop}(s x:Operand)(t:TypeId)
  (ho:o.op=.call {callee:=.builtin .append,args:= #[s,x],argTypes:= #[t,t]})
  (base:Nat) (e:TypeId) (i:TypeInfo) (z:Value) (bytes:Nat) (ht:P.underlying t=some (.slice e)) (hi:P.info? e=some i) (hz:i.zero=some z)
  (hsize:i.size=1) (hby:i.bytes=bytes) (hzs:z.cells.size=1)
  (v:Value) (n:Nat) (xs:List Value) (hs:a.eval s=v) (hown:w.ownsRow base e 1 v n xs) (F:Nat->Prop) (vx:Value) (news:List Value) (hx:a.eval x=vx) (hr:Rd w F vx news) (h1: ∀u∈news,u.oneCell'=true)
  (hbytes:(n+news.length)*bytes<=140737488355328) (h63:n+news.length<=maxLen) (hbase:base<=w.heap.size)
  (h: ∀v' w',w'.ownsRow base e 1 v' (n+news.length) (xs++news)->w.grownBy w' v.ownBlock->(v'.ownBlock=v.ownBlock\/v'.ownBlock=some w.heap.size)->K (a.put o.dst v') w'):o.wp P a w K Q:=by
 obtain⟨v',w',hrun,h2,h3,h4⟩:=yN (P:=P) w base t o.type e i z bytes ht hi hz hsize hby hzs v n xs hown F vx news hr h1 hbytes h63 hbase;unfold Oper.wp execOp;simp only[ho,resolve,invoke,builtin,Sem.run_bind,Sem.run_pure,Result.andThen_ok,List.map_toArray,lp,kc,hs,hx,hrun];exact h v' w' h2 h3 h4
theorem iJ{ops:Array Oper}{rest:List Oper}{o:Oper}{a:Act}{Q:Exit->Act->World->Prop}(hgd:o.guard=none)(s x:Operand)(t:TypeId)
  (ho:o.op=.call {callee:=.builtin .append,args:= #[s,x],argTypes:= #[t,t]})
  (base:Nat) (e:TypeId) (i:TypeInfo) (z:Value) (bytes:Nat) (ht:P.underlying t=some (.slice e)) (hi:P.info? e=some i) (hz:i.zero=some z)
  (hsize:i.size=1) (hby:i.bytes=bytes) (hzs:z.cells.size=1)
  (v:Value) (n:Nat) (xs:List Value) (hs:a.eval s=v) (hown:w.ownsRow base e 1 v n xs) (F:Nat->Prop) (vx:Value) (news:List Value) (hx:a.eval x=vx) (hr:Rd w F vx news) (h1: ∀u∈news,u.oneCell'=true)
  (hbytes:(n+news.length)*bytes<=140737488355328) (h63:n+news.length<=maxLen) (hbase:base<=w.heap.size)
  (h: ∀v' w',w'.ownsRow base e 1 v' (n+news.length) (xs++news)->w.grownBy w' v.ownBlock->(v'.ownBlock=v.ownBlock\/v'.ownBlock=some w.heap.size)->wpList P ops Q rest (a.put o.dst v') w'):wpList P ops Q (o::rest) a w:=
 wpList_plain hgd fun _ hK=>Bp w s x t ho base e i z bytes ht hi hz hsize hby hzs v n xs hs hown F vx news hx hr h1 hbytes h63 hbase fun v' w' h2 h3 h4=>hK _ _ (h v' w' h2 h3 h4)
end
theorem aC{w:World}{p:Addr}{v:Value}(h:w.cell? p=some v)(o:Obj):(w.alloc o).cell? p=some v:=
 (World.cell?_alloc_lt w o p (aq w p h)).x h
theorem bK{w:World}{b:Nat}{v:Value}{t:TypeId}(h:w.heap[b]?=some (.cells #[v] t (0,0))):w.cell? ⟨b,0,none⟩=some v:=by simp[World.cell?,h]
theorem dN{w:World}{b:Nat}{v:Value}{t:TypeId}(h:w.heap[b]?=some (.cells #[v] t (0,0))):w.frozen? ⟨b,0,none⟩=false:=by simp[World.frozen?,h]
theorem ag{w:World}{base:Nat}{e:TypeId}{size:Nat}{v:Value}{n:Nat}{xs:List Value}(h:w.ownsRow base e size v n xs): ∃A c,v=.slice A n c:=by
 rcases h.2 with⟨rfl,rfl⟩|⟨g,cap,cur,rfl,_⟩
 ·exact⟨_,_,rfl⟩
 ·exact⟨_,_,rfl⟩
theorem below_drewN{B:Nat}{w w':World}(h:Below B w w')(n:Nat):Below B w (w'.drewN n):=⟨h.os,h.tape,h.output,h.size,h.block⟩
def gP(p:Prop)(w:World)(e:Ending)(w':World):Prop:= ∃b:Bool,(b=true↔p)/\e=.returned (.bool b)/\Below w.heap.size w w'
theorem gP.yes{p:Prop}{w w':World}(h:p)(hb:Below w.heap.size w w'):gP p w (.returned (.bool true)) w':=⟨true,by simp[h],rfl,hb⟩
theorem gP.no{p:Prop}{w w':World}(h: ¬p)(hb:Below w.heap.size w w'):gP p w (.returned (.bool false)) w':=⟨false,by simp[h],rfl,hb⟩
structure OnlyC (F:Nat->Nat->Prop) (w w':World):Prop where
 os:w'.os=w.os
 tape:w'.tape=w.tape
 output:w'.output=w.output
 size:w.heap.size<=w'.heap.size
 shape: ∀k cs t fr,w.heap[k]?=some (.cells cs t fr)-> ∃cs',w'.heap[k]?=some (.cells cs' t fr)/\cs'.size=cs.size/\ ∀j,¬F k j->cs'[j]?=cs[j]?
 block: ∀k,k<w.heap.size->(∀j,¬F k j)->w'.heap[k]?=w.heap[k]?
section
variable{F G:Nat->Nat->Prop}{w w' w'':World}
theorem OnlyC.refl(F:Nat->Nat->Prop)(w:World):OnlyC F w w:=⟨rfl,rfl,rfl,aE _,fun _ cs _ _ h=>⟨cs,h,rfl,fun _ _=>rfl⟩,fun _ _ _=>rfl⟩
theorem lt_of_heap{w:World}{k:Nat}{o:Obj}(h:w.heap[k]?=some o):k<w.heap.size:=(bd.1 h).1
theorem OnlyC.trans(h:OnlyC F w w')(k:OnlyC G w' w'')(hG: ∀b o,b<w.heap.size->G b o->F b o):OnlyC F w w'':=by
 refine⟨k.os.x h.os,k.tape.x h.tape,k.output.x h.output,da h.size k.size,?_,?_⟩
 ·intro b cs t fr hb;obtain⟨cs',h1,h2,h3⟩:=h.shape b cs t fr hb;obtain⟨cs'',k1,k2,k3⟩:=k.shape b cs' t fr h1;exact⟨cs'',k1,k2.x h2,fun j hj=>(k3 j (fun hg=>hj (hG b j (lt_of_heap hb) hg))).x (h3 j hj)⟩
 ·intro b hb hF;exact(k.block b (cq hb h.size) (fun j hg=>hF j (hG b j hb hg))).x (h.block b hb hF)
abbrev OnlyC.x:=@OnlyC.trans
theorem OnlyC.mono(h:OnlyC F w w')(hG: ∀b o,b<w.heap.size->F b o->G b o):OnlyC G w w':=
 ⟨h.os,h.tape,h.output,h.size,fun b cs t fr hb=>let⟨cs',h1,h2,h3⟩:=h.shape b cs t fr hb;⟨cs',h1,h2,fun j hj=>h3 j (fun hf=>hj (hG b j (lt_of_heap hb) hf))⟩,
  fun b hb hF=>h.block b hb (fun j hf=>hF j (hG b j hb hf))⟩
abbrev OnlyC.m:=@OnlyC.mono
theorem OnlyC.of_below(h:Below w.heap.size w w')(F:Nat->Nat->Prop):OnlyC F w w':=
 ⟨h.os,h.tape,h.output,h.size,fun b cs t fr hb=>⟨cs,by rw[h.block b (lt_of_heap hb)];exact hb,rfl,fun _ _=>rfl⟩,fun b hb _=>h.block b hb⟩
theorem OnlyC.drew(h:OnlyC F w w'):OnlyC F w w'.drew:=⟨h.os,h.tape,h.output,h.size,h.shape,h.block⟩
theorem OnlyC.drewN(h:OnlyC F w w')(n:Nat):OnlyC F w (w'.drewN n):=⟨h.os,h.tape,h.output,h.size,h.shape,h.block⟩
theorem OnlyC.nt(h:OnlyC F w.drew w'):OnlyC F w w':=⟨h.os,h.tape,h.output,h.size,h.shape,h.block⟩
theorem OnlyC.below(h:OnlyC F w w')(hF: ∀b o,b<w.heap.size-> ¬F b o):Below w.heap.size w w':=⟨h.os,h.tape,h.output,h.size,fun k hk=>h.block k hk (fun j=>hF k j hk)⟩
theorem OnlyC.only(h:OnlyC F w w'):Only (fun k=> ∃j,F k j) w w':=⟨h.os,h.tape,h.output,h.size,fun k hk hn=>h.block k hk (fun j hj=>hn ⟨j,hj⟩)⟩
theorem OnlyC.aN(w:World)(b o:Nat)(u:Value):OnlyC (fun k j=>k=b/\j=o) w (w.setCell ⟨b,o,none⟩ u):=by
 refine⟨rfl,rfl,rfl,by simp[World.setCell],?_,?_⟩
 ·intro k cs t fr hk;by_cases hkb:k=b
  ·subst hkb;refine⟨cs.setIfInBounds o u,?_,by simp,fun j hj=>?_⟩
   ·simp[World.setCell,Array.getElem?_modify,hk]
   ·rw[ir,ff (fun e=>hj ⟨rfl,e.symm⟩)]
  ·exact⟨cs,by rw[Below.heap_setCell _ _ _ _ hkb];exact hk,rfl,fun _ _=>rfl⟩
 ·intro k _ hF;by_cases hkb:k=b
  ·subst hkb;exact absurd ⟨rfl,rfl⟩ (hF o)
  ·exact Below.heap_setCell _ _ _ _ hkb
theorem OnlyC.setCell(h:OnlyC F w w'){b o:Nat}(hp:b<w.heap.size->F b o)(u:Value):OnlyC F w (w'.setCell ⟨b,o,none⟩ u):=
 h.x (OnlyC.aN w' b o u) (fun k j hk ⟨e1,e2⟩=>by subst e1;subst e2;exact hp hk)
theorem OnlyC.alloc(h:OnlyC F w w')(o:Obj):OnlyC F w (w'.alloc o):=
 h.x (OnlyC.of_below ((aw _ _).alloc (aE _) o) (fun _ _=>False)) (fun _ _ _ h=>h.elim)
theorem OnlyC.heap(h:OnlyC F w w'){k:Nat}{o:Obj}(hk:w.heap[k]?=some o)(hF: ∀j,¬F k j):w'.heap[k]?=some o:=(h.block k (lt_of_heap hk) hF).x hk
theorem OnlyC.cell(h:OnlyC F w w'){b o:Nat}{v:Value}(hc:w.cell? ⟨b,o,none⟩=some v)(hF: ¬F b o):w'.cell? ⟨b,o,none⟩=some v:=by
 unfold World.cell? at hc;split at hc
 ·rename_i cs t fr hb;obtain⟨cs',h1,h2,h3⟩:=h.shape b cs t fr hb;simp only[World.cell?,h1];rw[h3 o hF];exact hc
 ·cases hc
end
def az(k:Nat)(t:TypeId)(w:World)(v:Value)(xs:List (List Value))(F:Nat->Nat->Prop):Prop:=
 ∃(A:Option Addr) (c:Nat),v=.slice A xs.length c/\xs.length<=c/\c<=maxLen/\(∀x∈xs,x.length=k)/\
  ((c=0/\(A=none\/ ∃b o,A=some ⟨b,o,none⟩))\/ ∃b o cs,A=some ⟨b,o,none⟩/\w.heap[b]?=some (.cells cs t (0,0))/\o+c*k<=cs.size/\(∀j,o<=j->j<o+c*k->F b j)/\ ∀j u,xs.flatten[j]?=some u->cs[o+j]?=some u)
section
variable{k:Nat}{t:TypeId}{F G:Nat->Nat->Prop}{w w':World}{v:Value}{xs:List (List Value)}
theorem bL{k:Nat}{xs:List (List Value)}(hk: ∀x∈xs,x.length=k):xs.flatten.length=xs.length*k:=by
 induction xs with
 |nil=>simp
 |cons y ys ih=>rw[List.flatten_cons,fb,ih (fun z hz=>hk z (by simp[hz])),hk y (by simp),fm,la];omega
theorem az.nil(k:Nat)(t:TypeId)(w:World)(F:Nat->Nat->Prop):az k t w (.slice none 0 0) [] F:=⟨none,0,rfl,aE _,by simp[maxLen],fun x hx=>by simp at hx,.inl ⟨rfl,.inl rfl⟩⟩
theorem az.mono(h:az k t w v xs F)(hF: ∀b o,F b o->G b o):az k t w v xs G:=by
 obtain⟨A,c,h1,h2,h3,h4,h5|⟨b,o,cs,h5,h6,h7,h8,h9⟩⟩:=h
 ·exact⟨A,c,h1,h2,h3,h4,.inl h5⟩
 ·exact⟨A,c,h1,h2,h3,h4,.inr ⟨b,o,cs,h5,h6,h7,fun j a b=>hF _ _ (h8 j a b),h9⟩⟩
abbrev az.m:=@az.mono
theorem az.only(h:az k t w v xs F)(ho:OnlyC G w w')(hd: ∀b o,F b o-> ¬G b o):az k t w' v xs F:=by
 obtain⟨A,c,h1,h2,h3,h4,h5|⟨b,o,cs,h5,h6,h7,h8,h9⟩⟩:=h
 ·exact⟨A,c,h1,h2,h3,h4,.inl h5⟩
 ·obtain⟨cs',q1,q2,q3⟩:=ho.shape b cs t _ h6;refine⟨A,c,h1,h2,h3,h4,.inr ⟨b,o,cs',h5,q1,by rw[q2];exact h7,h8,fun j u hj=>?_⟩⟩;have hlt:=(b8.1 hj).1;rw[bL h4]at hlt;have:xs.length*k<=c*k:=ef k h2;rw[q3 (o+j) (hd _ _ (h8 (o+j) (by omega) (by omega)))];exact h9 j u hj
theorem az.eJ{S:Nat->Prop}(h:az k t w v xs F)(eQ:0<k)(ho:Only S w w')(hd: ∀b o,F b o-> ¬S b):az k t w' v xs F:=by
 obtain⟨A,c,h1,h2,h3,h4,h5|⟨b,o,cs,h5,h6,h7,h8,h9⟩⟩:=h
 ·exact⟨A,c,h1,h2,h3,h4,.inl h5⟩
 ·by_cases hc:c=0
  ·exact⟨A,c,h1,h2,h3,h4,.inl ⟨hc,.inr ⟨b,o,h5⟩⟩⟩
  ·have hck:0<c*k:=Nat.mul_pos (Nat.pos_of_ne_zero hc) eQ;exact⟨A,c,h1,h2,h3,h4,.inr ⟨b,o,cs,h5,ho.heap h6 (hd b o (h8 o (aE _) (by omega))),h7,h8,h9⟩⟩
theorem az.bound(h:az k t w v xs F):az k t w v xs (fun b o=>F b o/\b<w.heap.size):=by
 obtain⟨A,c,h1,h2,h3,h4,h5|⟨b,o,cs,h5,h6,h7,h8,h9⟩⟩:=h
 ·exact⟨A,c,h1,h2,h3,h4,.inl h5⟩
 ·exact⟨A,c,h1,h2,h3,h4,.inr ⟨b,o,cs,h5,h6,h7,fun j a b'=>⟨h8 j a b',lt_of_heap h6⟩,h9⟩⟩
theorem az.aU{base n:Nat}(h:w.ownsRow base t k v n xs.flatten)(hk: ∀x∈xs,x.length=k)(eQ:0<k)(hF: ∀g j,v.ownBlock=some g->F g j):az k t w v xs F:=by
 have hl:xs.length=n:=by have h1:=h.1;rw[bL hk]at h1;exact Nat.eq_of_mul_eq_mul_right eQ h1
 subst hl;rcases h.2 with⟨rfl,h0⟩|⟨g,cap,cur,rfl,_,hg,hn,hc,hs,ht⟩
 ·have:xs=[]:=dj h0;subst this;exact az.nil _ _ _ _
 ·refine⟨_,_,rfl,hn,hc,hk,.inr ⟨g,0,cur,rfl,hg,by omega,fun j _ _=>hF g j rfl,fun j u hj=>?_⟩⟩;have hj':j<xs.flatten.length:=(b8.1 hj).1;rw[<-ht]at hj;rw[mu]at hj;split at hj
  ·rw[gx];simpa using hj
  ·cases hj
end
theorem cE{b:Nat}{t:TypeId}: ∀(vs:List Value) (o:Nat) (w:World) (cs:Array Value),w.heap[b]?=some (.cells cs t (0,0))->o+vs.length<=cs.size->
  ∃cs',(w.setCells b o vs).heap[b]?=some (.cells cs' t (0,0))/\cs'.size=cs.size/\(∀j,¬(o<=j/\j<o+vs.length)->cs'[j]?=cs[j]?)/\ ∀j u,vs[j]?=some u->cs'[o+j]?=some u
 |[],o,w,cs,h,_=>⟨cs,h,rfl,fun _ _=>rfl,fun j u hj=>by simp at hj⟩
 |v::vs,o,w,cs,h,hl=>by
  have h1:=db w b o cs t v h;obtain⟨cs',k1,k2,k3,k4⟩:=cE vs (o+1) (w.setCell ⟨b,o,none⟩ v) (cs.setIfInBounds o v) h1 (by simp at hl⊢;omega);refine⟨cs',k1,by simpa using k2,fun j hj=>?_,fun j u hj=>?_⟩
  ·rw[k3 j (by simp at hj⊢;omega),ir,ff (by simp at hj;omega)]
  ·cases j with
   |zero=>
    have e:v=u:=by simpa using hj
    subst e;rw[my,k3 o (by omega),ir,fi rfl,fi (by simp at hl;omega)]
   |succ j=>have:=k4 j u (by simpa using hj);rw[show o+(j+1)=o+1+j by omega];exact this
theorem bU(b:Nat): ∀(vs:List Value) (o:Nat) (w:World),OnlyC (fun k j=>k=b/\o<=j/\j<o+vs.length) w (w.setCells b o vs)
 |[],o,w=>OnlyC.refl _ w
 |v::vs,o,w=>by have h1:=OnlyC.aN w b o v;have h2:=bU b vs (o+1) (w.setCell ⟨b,o,none⟩ v);have h1':OnlyC (fun k j=>k=b/\o<=j/\j<o+(v::vs).length) w (w.setCell ⟨b,o,none⟩ v):=h1.m (fun k j _ ⟨e1,e2⟩=>⟨e1,by omega,by simp;omega⟩);exact h1'.x h2 (fun k j _ ⟨e1,e2,e3⟩=>⟨e1,by omega,by simp;omega⟩)
section
variable{k:Nat}{t:TypeId}{F G:Nat->Nat->Prop}{w w':World}{v:Value}{xs:List (List Value)}
theorem vY(hk: ∀x∈xs,x.length=k): ∀(i:Nat) (x:List Value),xs[i]?=some x-> ∀(j:Nat) (u:Value),x[j]?=some u->xs.flatten[i*k+j]?=some u:=by
 induction xs with
 |nil=>intro i x hi;simp at hi
 |cons y ys ih=>
  intro i x hi j u hj;have hy:=hk y (by simp)
  cases i with
  |zero=>simp at hi;subst hi;rw[List.flatten_cons,lr (by have:=(List.getElem?_eq_some_iff.1 hj).1;omega)];simpa using hj
  |succ i=>have h1:=ih (fun z hz=>hk z (by simp[hz])) i x (by simpa using hi) j u hj;rw[List.flatten_cons,ke (by rw[hy,la];omega)];rw[<-h1];congr 1;rw[hy,la];omega
theorem az.lies(h:az k t w v xs F)(h0:0<xs.length): ∃b o c cs,v=.slice (some ⟨b,o,none⟩) xs.length c/\xs.length<=c/\c<=maxLen/\(∀x∈xs,x.length=k)/\w.heap[b]?=some (.cells cs t (0,0))/\o+c*k<=cs.size/\(∀j,o<=j->j<o+c*k->F b j)/\ ∀j u,xs.flatten[j]?=some u->cs[o+j]?=some u:=by
 obtain⟨A,c,h1,h2,h3,h4,⟨h5,_⟩|⟨b,o,cs,h5,h6,h7,h8,h9⟩⟩:=h
 ·omega
 ·subst h5;exact⟨b,o,c,cs,h1,h2,h3,h4,h6,h7,h8,h9⟩
theorem cell_of_heap{w:World}{b j:Nat}{cs:Array Value}{t:TypeId}{u:Value}(h:w.heap[b]?=some (.cells cs t (0,0)))(hc:cs[j]?=some u):w.cell? ⟨b,j,none⟩=some u:=by simp[World.cell?,h,hc]
theorem frozen_of_heap{w:World}{b:Nat}{cs:Array Value}{t:TypeId}(h:w.heap[b]?=some (.cells cs t (0,0)))(j:Nat):w.frozen? ⟨b,j,none⟩=false:=by simp[World.frozen?,h]
theorem az.rewritten{b o n c:Nat}{cs cs':Array Value}{ys:List (List Value)}(hb:w'.heap[b]?=some (.cells cs' t (0,0)))(hsz:cs'.size=cs.size)(h7:o+c*k<=cs.size)(h8: ∀j,o<=j->j<o+c*k->F b j)
  (hn:ys.length=n) (hnc:n<=c) (hcm:c<=maxLen) (hk: ∀x∈ys,x.length=k) (hy: ∀j u,ys.flatten[j]?=some u->cs'[o+j]?=some u):az k t w' (.slice (some ⟨b,o,none⟩) n c) ys F:=by
 subst hn;exact⟨_,c,rfl,hnc,hcm,hk,.inr ⟨b,o,cs',rfl,hb,by omega,h8,hy⟩⟩
end
section
variable{P:Program}{k:Nat}{e:TypeId}{F G:Nat->Nat->Prop}
theorem dL(w:World){ops:Array Oper}{rest:List Oper}{o:Oper}{a:Act}{Q:Exit->Act->World->Prop}
  (hg:o.guard=none) (s x:Operand) (t:TypeId) (hop:o.op=Op.call {callee:=Callee.builtin Builtin.append,args:= #[s,x],argTypes:= #[t,t]})
  (i:TypeInfo) (z:Value) (bytes:Nat) (h1:P.underlying t=some (.slice e)) (h2:P.info? e=some i) (h3:i.zero=some z) (h4:i.size=k) (h5:i.bytes=bytes) (h6:z.cells.size=k) (h7:0<k)
  (v:Value) (xs:List (List Value)) (hs:a.eval s=v) (hv:az k e w v xs F)
  (ad:Addr) (m c:Nat) (ys:List (List Value)) (hx:a.eval x=.slice (some ad) m c) (hm:ys.length=m) (hyk: ∀y∈ys,y.length=k) (hc: ∀j u,ys.flatten[j]?=some u->w.cell? (ad.add j)=some u) (h1c: ∀u∈ys.flatten,u.oneCell'=true)
  (b1:xs.length+m<=maxLen) (b2:(xs.length+m)*bytes<=140737488355328)
  (h: ∀v' w',az k e w' v' (xs++ys) (fun b o=>F b o\/w.heap.size<=b)->OnlyC F w w'->wpList P ops Q rest (a.put o.dst v') w'):
  wpList P ops Q (o::rest) a w:=by
 have hv0:=hv;obtain⟨A,cp,rfl,q2,q3,q4,q5⟩:=hv;have J2:ys.flatten.length=m*k:=by rw[bL hyk,hm]
 have hxl:xs.flatten.length=xs.length*k:=bL q4;have hall: ∀y∈xs++ys,y.length=k:=fun y hy=>(dy.1 hy).elim (q4 y) (hyk y)
 have grown: ∀v' w',w'.ownsRow w.heap.size e k v' (xs.length+m) (xs.flatten++ys.flatten)->w.grownBy w' none->wpList P ops Q rest (a.put o.dst v') w':=by intro v' w' r1 r2;refine h v' w' (az.aU (n:=xs.length+m) (base:=w.heap.size) (by rw[lE];exact r1) hall h7 (fun g j hg=>.inr (r1.lt g hg).1)) (OnlyC.of_below ⟨r2.os,r2.tape,r2.output,r2.size,fun q hq=>r2.block q hq (by simp)⟩ F)
 by_cases hr:xs.length+m<=cp
 ·by_cases Mv:cp=0
  · --nothing at all
   subst Mv;have hx0:xs=[]:=dj (by omega);have hy0:ys=[]:=dj (by omega);subst hx0 hy0;subst hm;refine wpList_plain hg fun K hK=>?_
   have hrun:(Builtin.append_ #[t,t] o.type #[.slice A ([]:List (List Value)).length 0,.slice (some ad) ([]:List (List Value)).length c]).run P w=.ok (.slice A 0 0) w:=by
    have hfc:=run_firstCells_some (P:=P) w i.size 0 ad 0 c [] (by simp) (fun j u hj=>by simp at hj)
    cases A with
    |none=>simp[Builtin.append_,run_underlying h1,sizeOf,typeInfo,h2,Builtin.lenOf,hfc]
    |some A0=>simp[Builtin.append_,run_underlying h1,sizeOf,typeInfo,h2,Builtin.lenOf,hfc,storeCells]
   unfold Oper.wp;simp only[execOp,hop,resolve,invoke,builtin,Sem.run_bind,Sem.run_pure,Result.andThen_ok,List.map_toArray,lp,kc,hs,hx,hrun];exact hK _ _ (h _ w (hv0.m (fun _ _ h=>.inl h)) (OnlyC.refl F w))
  ·obtain⟨h0,_⟩|⟨b,off,cs,rfl,q6,q7,q8,q9⟩:=q5
   ·exact absurd h0 Mv
   ·have hmul:(xs.length+m)*k<=cp*k:=ef k hr;rw[Nat.add_mul]at hmul;have hfit:off+xs.length*k+ys.flatten.length<=cs.size:=by rw[J2];omega
    subst h4;refine wpList_plain hg fun K hK=>?_
    have hrun:=run_append_room_cells (P:=P) w t o.type e i h1 h2 b off xs.length cp ad m c ys.flatten J2 hc h1c hr
     (fun j hj=>by
      have hlt:off+xs.length*i.size+j<cs.size:=by omega
      simp[World.cell?,q6,gC hlt]) (fun j _=>frozen_of_heap q6 _)
    unfold Oper.wp;simp only[execOp,hop,resolve,invoke,builtin,Sem.run_bind,Sem.run_pure,Result.andThen_ok,List.map_toArray,lp,kc,hs,hx,hrun];obtain⟨cs',k1,k2,k3,k4⟩:=cE ys.flatten (off+xs.length*i.size) w cs q6 hfit;refine hK _ _ (h _ _ (az.rewritten (ys:=xs++ys) k1 k2 q7 (fun j a b=>.inl (q8 j a b)) (by simp[hm]) hr q3 hall (fun j u hj=>?_)) ((bU b ys.flatten (off+xs.length*i.size) w).m (fun b' j _ ⟨e1,e2,e3⟩=>?_)))
    ·rw[lE]at hj;by_cases hjl:j<xs.flatten.length
     ·rw[lr hjl]at hj;rw[k3 _ (by omega)];exact q9 j u hj
     ·rw[ke (by omega)]at hj;have:=k4 _ u hj;rw[hxl]at this;rw[show off+j=off+xs.length*i.size+(j-xs.length*i.size) by omega];exact this
    ·subst e1;exact q8 j (by omega) (by omega)
 ·rcases q5 with⟨rfl,_⟩|⟨b,off,cs,rfl,q6,q7,q8,q9⟩
  ·have hx0:xs=[]:=dj (by omega);subst hx0
   cases A with
   |some A0=>exact wpList_append_grows w hg s x t hop e i z k bytes h1 h2 h3 h4 h5 h6 h7 (some A0) 0 0 [] hs (fun hh=>by cases hh) (by simp) (fun b' hb' j u hj=>by simp at hj) ad m c ys.flatten hx J2 hc h1c (by omega) b1 b2 (fun v' w' r1 r2=>grown v' w' r1 r2)
   |none=>exact wpList_append_grows w hg s x t hop e i z k bytes h1 h2 h3 h4 h5 h6 h7 none 0 0 [] hs (fun _=>⟨rfl,rfl⟩) (by simp) (fun b hb=>by cases hb) ad m c ys.flatten hx J2 hc h1c (by omega) b1 b2 (fun v' w' r1 r2=>grown v' w' r1 r2)
  ·refine wpList_append_grows w hg s x t hop e i z k bytes h1 h2 h3 h4 h5 h6 h7 (some ⟨b,off,none⟩) xs.length cp xs.flatten hs (fun hh=>by cases hh) hxl (fun b' hb' j u hj=>?_) ad m c ys.flatten hx J2 hc h1c (by omega) b1 b2 (fun v' w' r1 r2=>grown v' w' r1 r2);injection hb' with hb';subst hb';rw[gO];exact cell_of_heap q6 (q9 j u hj)
end
section
variable{P:Program}{k:Nat}{e:TypeId}{F:Nat->Nat->Prop}
theorem ql(w:World)(t ty:TypeId)(i:TypeInfo)(z:Value)(bytes:Nat)(h1:P.underlying t=some (.slice e))(h2:P.info? e=some i)(h3:i.zero=some z)(h4:i.size=k)(h5:i.bytes=bytes)(h6:z.cells.size=k)(h7:0<k)
  (v:Value) (xs:List (List Value)) (hv:az k e w v xs F) (ad:Addr) (m c:Nat) (ys:List (List Value)) (hm:ys.length=m) (hyk: ∀y∈ys,y.length=k) (hc: ∀j u,ys.flatten[j]?=some u->w.cell? (ad.add j)=some u) (h1c: ∀u∈ys.flatten,u.oneCell'=true)
  (b1:xs.length+m<=maxLen) (b2:(xs.length+m)*bytes<=140737488355328):
  ∃v' w',(Builtin.append_ #[t,t] ty #[v,.slice (some ad) m c]).run P w=.ok v' w'/\az k e w' v' (xs++ys) (fun b o=>F b o\/w.heap.size<=b)/\OnlyC F w w':=by
 have hv0:=hv;obtain⟨A,cp,rfl,q2,q3,q4,q5⟩:=hv;have J2:ys.flatten.length=m*k:=by rw[bL hyk,hm]
 have hxl:xs.flatten.length=xs.length*k:=bL q4;have hall: ∀y∈xs++ys,y.length=k:=fun y hy=>(dy.1 hy).elim (q4 y) (hyk y)
 have grown: ∀v' w',w'.ownsRow w.heap.size e k v' (xs.length+m) (xs.flatten++ys.flatten)->w.grownBy w' none->az k e w' v' (xs++ys) (fun b o=>F b o\/w.heap.size<=b)/\OnlyC F w w':=fun v' w' r1 r2=>
  ⟨az.aU (n:=xs.length+m) (base:=w.heap.size) (by rw[lE];exact r1) hall h7 (fun g j hg=>.inr (r1.lt g hg).1),OnlyC.of_below ⟨r2.os,r2.tape,r2.output,r2.size,fun q hq=>r2.block q hq (by simp)⟩ F⟩
 by_cases hr:xs.length+m<=cp
 ·by_cases Mv:cp=0
  ·subst Mv;have hx0:xs=[]:=dj (by omega);have hy0:ys=[]:=dj (by omega);subst hx0 hy0;subst hm
   have hrun:(Builtin.append_ #[t,t] ty #[.slice A ([]:List (List Value)).length 0,.slice (some ad) ([]:List (List Value)).length c]).run P w=.ok (.slice A 0 0) w:=by
    have hfc:=run_firstCells_some (P:=P) w i.size 0 ad 0 c [] (by simp) (fun j u hj=>by simp at hj)
    cases A with
    |none=>simp[Builtin.append_,run_underlying h1,sizeOf,typeInfo,h2,Builtin.lenOf,hfc]
    |some A0=>simp[Builtin.append_,run_underlying h1,sizeOf,typeInfo,h2,Builtin.lenOf,hfc,storeCells]
   exact⟨_,w,hrun,hv0.m (fun _ _ h=>.inl h),OnlyC.refl F w⟩
  ·obtain⟨h0,_⟩|⟨b,off,cs,rfl,q6,q7,q8,q9⟩:=q5
   ·exact absurd h0 Mv
   ·have hmul:(xs.length+m)*k<=cp*k:=ef k hr;rw[Nat.add_mul]at hmul;have hfit:off+xs.length*k+ys.flatten.length<=cs.size:=by rw[J2];omega
    subst h4
    have hrun:=run_append_room_cells (P:=P) w t ty e i h1 h2 b off xs.length cp ad m c ys.flatten J2 hc h1c hr
     (fun j hj=>by
      have hlt:off+xs.length*i.size+j<cs.size:=by omega
      simp[World.cell?,q6,gC hlt]) (fun j _=>frozen_of_heap q6 _)
    obtain⟨cs',k1,k2,k3,k4⟩:=cE ys.flatten (off+xs.length*i.size) w cs q6 hfit;refine⟨_,_,hrun,az.rewritten (ys:=xs++ys) k1 k2 q7 (fun j a b=>.inl (q8 j a b)) (by simp[hm]) hr q3 hall (fun j u hj=>?_),(bU b ys.flatten (off+xs.length*i.size) w).m (fun b' j _ ⟨e1,e2,e3⟩=>?_)⟩
    ·rw[lE]at hj;by_cases hjl:j<xs.flatten.length
     ·rw[lr hjl]at hj;rw[k3 _ (by omega)];exact q9 j u hj
     ·rw[ke (by omega)]at hj;have:=k4 _ u hj;rw[hxl]at this;rw[show off+j=off+xs.length*i.size+(j-xs.length*i.size) by omega];exact this
    ·subst e1;exact q8 j (by omega) (by omega)
 ·rcases q5 with⟨rfl,q6⟩|⟨b,off,cs,rfl,q6,q7,q8,q9⟩
  ·have hx0:xs=[]:=dj (by omega);subst hx0
   cases A with
   |none=>obtain⟨v',w',hrun,r1,r2,_⟩:=run_append_own (P:=P) w w.heap.size t ty e i z k bytes h1 h2 h3 h4 h5 h6 h7 (.slice none 0 0) 0 [] (ea w _ e k) ad m c ys.flatten J2 hc h1c b1 b2 (aE _);exact⟨v',w',hrun,grown v' w' r1 r2⟩
   |some A0=>obtain⟨v',w',hrun,r1,r2⟩:=run_append_arg_grows (P:=P) w t ty e i z k bytes h1 h2 h3 h4 h5 h6 h7 A0 0 0 [] (by simp) (fun j u hj=>by simp at hj) ad m c ys.flatten J2 hc (by have:=hr;simp only[ix]at this;omega) b1 b2;exact⟨v',w',hrun,grown v' w' r1 r2⟩
  ·obtain⟨v',w',hrun,r1,r2⟩:=run_append_arg_grows (P:=P) w t ty e i z k bytes h1 h2 h3 h4 h5 h6 h7 ⟨b,off,none⟩ xs.length cp xs.flatten hxl (fun j u hj=>by rw[gO];exact cell_of_heap q6 (q9 j u hj)) ad m c ys.flatten J2 hc (by omega) b1 b2;exact⟨v',w',hrun,grown v' w' r1 r2⟩
theorem wh{G:Nat->Nat->Prop}(w:World)(t ty:TypeId)(i:TypeInfo)(z:Value)(bytes:Nat)(h1:P.underlying t=some (.slice e))(h2:P.info? e=some i)(h3:i.zero=some z)(h4:i.size=k)(h5:i.bytes=bytes)(h6:z.cells.size=k)(h7:0<k)
  (v:Value) (xs:List (List Value)) (hv:az k e w v xs F) (vx:Value) (ys:List (List Value)) (hx:az k e w vx ys G) (h1c: ∀u∈ys.flatten,u.oneCell'=true) (b1:xs.length+ys.length<=maxLen) (b2:(xs.length+ys.length)*bytes<=140737488355328):
  ∃v' w',(Builtin.append_ #[t,t] ty #[v,vx]).run P w=.ok v' w'/\az k e w' v' (xs++ys) (fun b o=>F b o\/w.heap.size<=b)/\OnlyC F w w':=by
 obtain⟨A2,c2,rfl,p2,p3,p4,p5⟩:=hx
 cases A2 with
 |none=>
  have hc0:c2=0:=by
   rcases p5 with⟨h,_⟩|⟨b,o,cs,h,_⟩
   ·exact h
   ·cases h
  have hy0:ys=[]:=dj (by omega);subst hy0;obtain⟨A,cp,rfl,q2,q3,q4,q5⟩:=id hv;refine⟨_,w,?_,by simpa using hv.m (fun _ _ h=>.inl h),OnlyC.refl F w⟩
  cases A with
  |none=>
   have hcp:cp=0:=by
    rcases q5 with⟨h,_⟩|⟨b,o,cs,h,_⟩
    ·exact h
    ·cases h
   have hx0:xs=[]:=dj (by omega);subst hx0 hcp;simp[Builtin.append_,run_underlying h1,sizeOf,typeInfo,h2,Builtin.lenOf,Builtin.firstCells]
  |some A0=>simp[Builtin.append_,run_underlying h1,sizeOf,typeInfo,h2,Builtin.lenOf,Builtin.firstCells,q2,storeCells]
 |some ad=>
  refine ql w t ty i z bytes h1 h2 h3 h4 h5 h6 h7 v xs hv ad ys.length c2 ys rfl p4 (fun j u hj=>?_) h1c b1 b2;rcases p5 with⟨h,_⟩|⟨b,o,cs,h,g6,g7,g8,g9⟩
  ·have hy0:ys=[]:=dj (by omega);subst hy0;simp at hj
  ·injection h with h;subst h;rw[gO];exact cell_of_heap g6 (g9 j u hj)
theorem gF{G:Nat->Nat->Prop}{ops:Array Oper}{o:Oper}{a:Act}{K:Act->World->Prop}{Q:Exit->Act->World->Prop}{E:Prop}(w:World)(hgd:o.guard=none)(s x:Operand)(t:TypeId)
  (ho:o.op=.call {callee:=.builtin .append,args:= #[s,x],argTypes:= #[t,t]})
  (i:TypeInfo) (z:Value) (bytes:Nat) (h1:P.underlying t=some (.slice e)) (h2:P.info? e=some i) (h3:i.zero=some z) (h4:i.size=k) (h5:i.bytes=bytes) (h6:z.cells.size=k) (h7:0<k)
  (v:Value) (xs:List (List Value)) (hs:a.eval s=v) (hv:az k e w v xs F) (vx:Value) (ys:List (List Value)) (hx:a.eval x=vx) (X3:az k e w vx ys G) (h1c: ∀u∈ys.flatten,u.oneCell'=true)
  (b1:xs.length+ys.length<=maxLen) (b2:(xs.length+ys.length)*bytes<=140737488355328)
  (h: ∀v' w',az k e w' v' (xs++ys) (fun b o=>F b o\/w.heap.size<=b)->OnlyC F w w'->K (a.put o.dst v') w'):
  if Region.wanted o (yielded ops a.tmps)=true then Oper.wp P o a w K Q else E:=by
 have hw:Region.wanted o (yielded ops a.tmps)=true:=by simp[Region.wanted,hgd]
 rw[fi hw];obtain⟨v',w',hrun,r1,r2⟩:=wh w t o.type i z bytes h1 h2 h3 h4 h5 h6 h7 v xs hv vx ys X3 h1c b1 b2;unfold Oper.wp execOp;simp only[ho,resolve,invoke,builtin,Sem.run_bind,Sem.run_pure,Result.andThen_ok,List.map_toArray,lp,kc,hs,hx,hrun];exact h v' w' r1 r2
theorem cU{ops:Array Oper}{o:Oper}{a:Act}{K:Act->World->Prop}{Q:Exit->Act->World->Prop}{E:Prop}(w:World)(hgd:o.guard=none)(s x:Operand)(t:TypeId)
  (ho:o.op=.call {callee:=.builtin .append,args:= #[s,x],argTypes:= #[t,t]})
  (i:TypeInfo) (z:Value) (bytes:Nat) (h1:P.underlying t=some (.slice e)) (h2:P.info? e=some i) (h3:i.zero=some z) (h4:i.size=k) (h5:i.bytes=bytes) (h6:z.cells.size=k) (h7:0<k)
  (v:Value) (xs:List (List Value)) (hs:a.eval s=v) (hv:az k e w v xs F) (ad:Addr) (m c:Nat) (ys:List (List Value)) (hx:a.eval x=.slice (some ad) m c) (hm:ys.length=m) (hyk: ∀y∈ys,y.length=k) (hc: ∀j u,ys.flatten[j]?=some u->w.cell? (ad.add j)=some u) (h1c: ∀u∈ys.flatten,u.oneCell'=true)
  (b1:xs.length+m<=maxLen) (b2:(xs.length+m)*bytes<=140737488355328)
  (h: ∀v' w',az k e w' v' (xs++ys) (fun b o=>F b o\/w.heap.size<=b)->OnlyC F w w'->K (a.put o.dst v') w'):
  if Region.wanted o (yielded ops a.tmps)=true then Oper.wp P o a w K Q else E:=by
 have hw:Region.wanted o (yielded ops a.tmps)=true:=by simp[Region.wanted,hgd]
 rw[fi hw];obtain⟨v',w',hrun,r1,r2⟩:=ql w t o.type i z bytes h1 h2 h3 h4 h5 h6 h7 v xs hv ad m c ys hm hyk hc h1c b1 b2;unfold Oper.wp execOp;simp only[ho,resolve,invoke,builtin,Sem.run_bind,Sem.run_pure,Result.andThen_ok,List.map_toArray,lp,kc,hs,hx,hrun];exact h v' w' r1 r2
end
abbrev oj:=@Only.of_below
abbrev ox:=@Only.refl
abbrev oy:=@OnlyC.of_below
abbrev oE:=@lt_of_heap
abbrev oS:=@cell_of_heap
theorem pt{w w':World}{k:Nat}{o:Obj}(h:Below w.heap.size w w')(c:w.heap[k]? =some o):w'.heap[k]? =some o:=(Only.of_below h (fun _=>False)).heap c (fun h=>h)
theorem pw{w w':World}(h:Below w.heap.size w w'):Only (fun _=>False) w w':=Only.of_below h _
theorem qn(w:World)(o:Obj):Below w.heap.size w (w.alloc o)/\(w.alloc o).heap[w.heap.size]? =some o:=⟨(Below.refl _ _).alloc (Nat.le_refl _) _,heap_alloc_new w o⟩
theorem qt{α:Type}(a:α): ∃b,a=b:=⟨a,rfl⟩
theorem qS{α:Type}(a:α): ∃b,b=a:=⟨a,rfl⟩
theorem qe{w w':World}(h:Below w.heap.size w w'):OnlyC (fun _ _=>False) w w':=OnlyC.of_below h _
end Go.Proofs.YtmkofmeojbcakaaGreatDoor
