import Derived.Test.YtehccbdajiiaaaaGreatDoorP14
import Derived.Deep.RegionHeld3
import Derived.StillTailTactics
import Derived.Lib.ConvBytes
import Derived.Laws.AppendOwn
import Derived.Maps.OwnSet
import Derived.Maps.OwnOps
import Derived.DeepKeys4
import Derived.StringKeys
import Derived.Maps.RangeWalk
import Derived.Sort.MapsRangeIn
import Derived.OwnWalkIn
abbrev Go.Shut.o:=@Go.Shut.out
namespace Go.Proofs.YtehccbdajiiaaaaGreatDoor
open Go.Proofs.Tryz
set_option maxRecDepth 100000
open Go.RowKit
abbrev pt:=@AllReadyH.nil
abbrev pw:=@wp_region_held_drew
abbrev qe:=@wpAnyH_done
abbrev qn:=@wpAnyH_ready
theorem UN{P:Program}{md:Region.Mode}{l:List Oper}{Q:Exit->Act->World->Prop}{S:World->Prop}{i:Nat}{oi:Oper}{v:Value}{fuel:Nat}{listed:Array Bool}{a:Act}{w:World}(hi:l[i]?=some oi)
  (d:Region.noSelect l.toArray=true) (g:Region.free md l.toArray listed i=true) (b:(Region.ready md l.toArray listed).contains i=true)
  (h: ∀c a w,Q (.panic c) (a.put oi.dst v) w->Q (.panic c) a w) (f:Region.wanted oi (yielded l.toArray a.tmps)=true) (e: ∀w,S w->(execOp a.eval oi).run P w=.ok (.value v) w) (c:S w)
  (j:wpAnyH P md l.toArray Q S fuel (listed.setIfInBounds i true) (a.put oi.dst v) w):wpAnyH P md l.toArray Q S (fuel+1) listed a w:=
 wpAnyH_take (by simpa using hi) d g b h (.inl ⟨f,e⟩) c j
theorem dw{P:Program}{md:Region.Mode}{l:List Oper}{Q:Exit->Act->World->Prop}{S:World->Prop}{fuel:Nat}{listed:Array Bool}{a:Act}{w:World}{i:Nat}{o:Oper}{rs:List Nat}(c:l[i]?=some o)
  (h: ∀b:Act->World->Prop,Shut (∀a w,S w->(S w->wpAnyH P md l.toArray Q S fuel (listed.setIfInBounds i true) a w)->b a w)->if Region.wanted o (yielded l.toArray a.tmps)=true then Oper.wp P o a w b Q else b (a.put o.dst undef) w)
  (b:AllReadyH P md l.toArray Q S fuel listed a w rs):AllReadyH P md l.toArray Q S fuel listed a w (i::rs):=AllReadyH.cons (by simpa using c) h b
theorem Em{P:Program}{md:Region.Mode}{l:List Oper}{Q:Exit->Act->World->Prop}{S:World->Prop}{i:Nat}{oi:Oper}{fuel:Nat}{listed:Array Bool}{a:Act}{w:World}(hi:l[i]?=some oi)
  (d:Region.noSelect l.toArray=true) (f:Region.free md l.toArray listed i=true) (b:(Region.ready md l.toArray listed).contains i=true)
  (g: ∀c a w,Q (.panic c) (a.put oi.dst undef) w->Q (.panic c) a w) (e:Region.wanted oi (yielded l.toArray a.tmps)=false) (c:S w)
  (h:wpAnyH P md l.toArray Q S fuel (listed.setIfInBounds i true) (a.put oi.dst undef) w):wpAnyH P md l.toArray Q S (fuel+1) listed a w:=
 wpAnyH_take (by simpa using hi) d f b g (.inr ⟨e,rfl⟩) c h
theorem GQ{a W b:World}{d:Addr}{v1:Value}(h:Below a.heap.size a W/\W.cell? d=some v1)(c:Below W.heap.size W b):Below a.heap.size a b/\b.cell? d=some v1:=
 ⟨h.1.x (c.m h.1.size),(c.cell (aq _ _ h.2)).x h.2⟩
theorem sQ{b W a:World}{e d:Addr}{v1 v2:Value}(h:Below b.heap.size b W/\W.cell? e=some v1/\W.cell? d=some v2)(c:Below W.heap.size W a):Below b.heap.size b a/\a.cell? e=some v1/\a.cell? d=some v2:=
 ⟨h.1.x (c.m h.1.size),(c.cell (aq _ _ h.2.1)).x h.2.1,(c.cell (aq _ _ h.2.2)).x h.2.2⟩
def GoL(_:List Nat)(p:Prop):Prop:=p
theorem bq(a:List Nat){p:Prop}(h:GoL a p):p:=h
theorem bt{p:Prop}(h:p):GoL [] p:=h
section
variable{P:Program}{md:Region.Mode}{l:List Oper}{Q:Exit->Act->World->Prop}{S:World->Prop}{oi:Oper}{v:Value}{fuel:Nat}{listed:Array Bool}{a:Act}{w:World}
theorem ml(i:Nat)(f: ∀w,S w->(execOp a.eval oi).run P w=.ok (.value v) w)(d:S w)(j:wpAnyH P md l.toArray Q S fuel (listed.setIfInBounds i true) (a.put oi.dst v) w)(hi:l[i]?=some oi:=by rfl)
  (e:Region.noSelect l.toArray=true:=by kernel_rfl) (c:Region.free md l.toArray listed i=true:=by kernel_rfl) (b:(Region.ready md l.toArray listed).contains i=true:=by kernel_rfl)
  (h: ∀g a w,Q (.panic g) (a.put oi.dst v) w->Q (.panic g) a w:=by exact fun _ _ _ j=>j) (g:Region.wanted oi (yielded l.toArray a.tmps)=true:=by rfl):wpAnyH P md l.toArray Q S (fuel+1) listed a w:=
 UN hi e c b h g f d j
theorem ek{i:Nat}{b:List Nat}(g: ∀w,S w->(execOp a.eval oi).run P w=.ok (.value v) w)(e:S w)(k:GoL b (wpAnyH P md l.toArray Q S fuel (listed.setIfInBounds i true) (a.put oi.dst v) w))(hi:l[i]?=some oi:=by rfl)
  (f:Region.noSelect l.toArray=true:=by kernel_rfl) (d:Region.free md l.toArray listed i=true:=by kernel_rfl) (c:(Region.ready md l.toArray listed).contains i=true:=by kernel_rfl)
  (j: ∀h a w,Q (.panic h) (a.put oi.dst v) w->Q (.panic h) a w:=by exact fun _ _ _ k=>k) (h:Region.wanted oi (yielded l.toArray a.tmps)=true:=by rfl):GoL (i::b) (wpAnyH P md l.toArray Q S (fuel+1) listed a w):=
 UN hi f d c j h g e k
end
section
variable{P:Program}{md:Region.Mode}{l:List Oper}{Q:Exit->Act->World->Prop}{S:World->Prop}{o:Oper}{fuel:Nat}{listed:Array Bool}{a:Act}{w:World}
theorem bC(i:Nat)(h: ∀b:Act->World->Prop,Shut (∀a w,S w->(S w->wpAnyH P md l.toArray Q S fuel (listed.setIfInBounds i true) a w)->b a w)->if Region.wanted o (yielded l.toArray a.tmps)=true then Oper.wp P o a w b Q else b (a.put o.dst undef) w)
  (c:l[i]?=some o:=by rfl) (b:Region.ready md l.toArray listed=[i]:=by kernel_rfl):wpAnyH P md l.toArray Q S (fuel+1) listed a w:=
 qn b (by simp) (dw c h pt)
end
theorem ah(a:Act)(d:Option Tmp)(v:Value):a.put d v=match d with|some t=>{a with tmps:=a.tmps.setIfInBounds t v}|none=>a:=rfl
theorem ai{α:Type}(l:List α)(i:Nat)(a:α):l.toArray.setIfInBounds i a=(l.set i a).toArray:=List.setIfInBounds_toArray ..
theorem aj{α:Type}(x:α)(xs:List α)(y:α):(x::xs).set 0 y=y::xs:=rfl
theorem ak{α:Type}(x:α)(xs:List α)(n:Nat)(y:α):(x::xs).set (n+1) y=x::xs.set n y:=rfl
theorem xT:(∀(a:Act)(d:Option Tmp)(v:Value),a.put d v=match d with|some t=>{a with tmps:=a.tmps.setIfInBounds t v}|none=>a)/\(∀(α:Type)(l:List α)(i:Nat)(a:α),l.toArray.setIfInBounds i a=(l.set i a).toArray)/\(∀(α:Type)(x:α)(xs:List α)(y:α),(x::xs).set 0 y=y::xs)/\ ∀(α:Type)(x:α)(xs:List α)(n:Nat)(y:α),(x::xs).set (n+1) y=x::xs.set n y:=⟨ah,fun _=>ai,fun _=>aj,fun _=>ak⟩
theorem En(w:World)(e:TypeId)(s:ByteArray):Below w.heap.size w (Lib.bytesWorld w e s):=
 ⟨rfl,rfl,rfl,by rw[Lib.bytesWorld_size];omega,fun k a=>Lib.bytesWorld_at_old w e s k a⟩
theorem Ow(w:World)(e:TypeId)(l:List UInt8)(c:l.length<=maxLen):Rd (Lib.bytesWorld w e ⟨l.toArray⟩) (fun k=>w.heap.size<=k) (.slice (some ⟨w.heap.size,0,none⟩) l.length (grownCap w l.length 0 e)) (l.map B8):=by
 refine⟨_,_,_,rfl,by simp,grownCap_ge _ _ _ _,grownCap_le_maxLen _ _ _ _ c,fun _=>⟨_,0,rfl,b8 _,fun j u a=>?_⟩⟩;have b:j<l.length:=by have:=(bd.1 a).1;simpa using this
 have:=Lib.bytesWorld_cell w e ⟨l.toArray⟩ j (by simpa[ByteArray.size]using b);rw[gR,this];rw[oy]at a;simp only[List.getD,List.getElem?_eq_getElem b,Option.map_some,fj]at a⊢;rw[<-a];rfl
theorem GR(w:World)(l:List UInt8):(convert 9 53 (sd l)).run prog w=.ok (.slice (some ⟨w.heap.size,0,none⟩) l.length (grownCap w l.length 0 5)) (Lib.bytesWorld w 5 ⟨l.toArray⟩):=by have:=Lib.run_convert_string_bytes (P:=prog) w 9 53 5 ⟨l.toArray⟩ underlying9 underlying53 underlying5;simpa[ByteArray.size]using this
section
open Go.RowKit Go.Maps Go.WideShapes
def qg(v:Value):Option (DataW Value×List MemPlace):=some (.held v,[])
noncomputable def nX(g:Value->Option Value)(k:Value)(d:Option Value):Value->Option Value:=fun x=> @ite _ (x=k) (Classical.propDecidable _) d (g x)
theorem pC(g:Value->Option Value)(k:Value)(d:Option Value):nX g k d k=d:=by unfold nX;exact @if_pos _ (Classical.propDecidable _) rfl _ _ _
theorem nB(g:Value->Option Value){k x:Value}(d:Option Value)(h:x≠k):nX g k d x=g x:=by unfold nX;exact @if_neg _ (Classical.propDecidable _) h _ _ _
def bW(P:Program)(w:World)(K:TypeId)(b n:Nat)(g:Value->Option Value):Prop:=
 ∃D:DataW Value,w.ownsMap P K qg b n D/\ ∀v a,keyOf P K v=some a->Maps.has D a=(g v).isSome/\ ∀z,D.atKey a (.held z)=.held ((g v).getD z)
section
variable{P:Program}{w w':World}{K:TypeId}{b n:Nat}{g:Value->Option Value}
theorem bW.lt(h:bW P w K b n g):b<w.heap.size:=by obtain⟨D,h,_⟩:=h;exact h.lt
theorem bW.made(P:Program)(w:World)(K:TypeId):bW P (w.alloc (.map #[] 0)) K w.heap.size 0 (fun _=>none):=
 ⟨_,World.ownsMap_made _ _ _ _,fun _ _ _=>⟨rfl,fun _=>rfl⟩⟩
theorem bW.same(h:bW P w K b n g)(f:w'.heap[b]?=w.heap[b]?):bW P w' K b n g:=by obtain⟨D,⟨c,a,e,d⟩,r⟩:=h;exact⟨D,⟨c,a,f.x e,d⟩,r⟩
theorem bW.only{S:Nat->Prop}(h:bW P w K b n g)(c:Only S w w')(a: ¬S b):bW P w' K b n g:=h.same (c.block b h.lt a)
theorem bW.below(h:bW P w K b n g)(a:Below w.heap.size w w'):bW P w' K b n g:=h.same (a.block b h.lt)
theorem bW.look(j:bW P w K b n g)(L:Keyed P K){t e:TypeId}(i:P.underlying t=some (.map K e)){z:Value}(h:(zeroValue e).run P w=.ok z w){key:Value}{d:Lit}(c:keyOf P K key=some d):
  (Instr.lookup t (.map (some b)) key false).run P w=.ok ((g key).getD z) w:=by
 obtain⟨D,j,r⟩:=j;obtain⟨v,k,f,a⟩:=j.lookup L i h (show qg z=some (.held z,[])from rfl) c;rw[(r key d c).2 z]at a;unfold qg at a;injection a with a;injection a with a;injection a with a;rw[f,a]
theorem bW.look_ok(j:bW P w K b n g)(L:Keyed P K){t e:TypeId}(i:P.underlying t=some (.map K e)){z:Value}(h:(zeroValue e).run P w=.ok z w){key:Value}{d:Lit}(c:keyOf P K key=some d):
  (Instr.lookup t (.map (some b)) key true).run P w=.ok (.tuple #[(g key).getD z,.bool (g key).isSome]) w:=by
 obtain⟨D,j,r⟩:=j;obtain⟨v,k,f,a⟩:=j.look_ok L i h (show qg z=some (.held z,[])from rfl) c;rw[(r key d c).2 z]at a;unfold qg at a;injection a with a;injection a with a;injection a with a;rw[f,a,(r key d c).1]
theorem bW.store(h:bW P w K b n g)(L:Keyed P K){t e:TypeId}(p:P.underlying t=some (.map K e))(o:n<maxLen){key val:Value}{d:Lit}(a:keyOf P K key=some d):
  ∃w',(Instr.mapUpdate t (.map (some b)) key val).run P w=.ok () w'/\bW P w' K b (n+1) (nX g key (some val))/\Only (fun k=>k=b) w w':=by
 obtain⟨D,h,r⟩:=h;obtain⟨w',i,m,k⟩:=h.store L p o a (show qg val=some (.held val,[])from rfl);refine⟨w',i,⟨_,m,fun v l c=>?_⟩,?_⟩
 ·by_cases e:v=key
  ·subst e;have:l=d:=eC (c.symm.x a);subst this;rw[pC];exact⟨has_put_same h.isMap (L.key a) _,fun z=>atKey_put_same h.isMap (L.key a) _ _⟩
  ·have f:l≠d:=fun j=>e (L.inj (by rw[<-j];exact c) a);rw[nB _ _ e,has_put_other f];exact⟨(r v l c).1,fun z=>by rw[atKey_put_other f];exact(r v l c).2 z⟩
 ·exact(Only.of_grownBy k.grown).m (fun c _ e=>by injection e with e;exact e.symm)
end
section
variable{P:Program}(w:World){ops:Array Oper}{rest:List Oper}{o:Oper}{a:Act}{Q:Exit->Act->World->Prop}
theorem fL(l:o.guard=none)(m x:Operand)(t:TypeId)(i:o.op=Op.lookup t m x true){K e:TypeId}(L:Keyed P K)(u:P.underlying t=some (.map K e)){z:Value}(j:(zeroValue e).run P w=.ok z w){b n:Nat}{g:Value->Option Value}
  (r:a.eval m=.map (some b)) (f:bW P w K b n g) {key:Value} {p:Lit} (k:a.eval x=key) (c:keyOf P K key=some p) (v:Value) (q:Bool) (h:(g key).getD z=v) (d:(g key).isSome=q)
  (s:wpList P ops Q rest (a.put o.dst (.tuple #[v,.bool q])) w):wpList P ops Q (o::rest) a w:=by
 subst h d;refine wpList_plain l fun d h=>?_;have d:=f.look_ok L u j c;unfold Oper.wp;simp[execOp,i,r,k,d,Result.andThen];exact h _ _ s
end
end
section
open Go.RowKit Go.Maps Go.WideShapes
theorem yV:Keyed prog 9:=string_keyed underlying9
theorem GU{k:List UInt8}(h:k.length<=maxLen):keyOf prog 9 (sd k)=some (.string k):=by
 have a:(⟨k.toArray⟩:ByteArray).size<=maxLen:=by simpa[ByteArray.size]using h
 simpa using WideMaps.keyOf_string_mk (P:=prog) underlying9 a
theorem Tryz.oM(w:World):(zeroValue 157).run prog w=.ok (.pointer none) w:=by kernel_rfl
end
section
open Go.RowKit Go.Maps Go.WideShapes
theorem Eo(x y:List UInt8):(Lit.string x).sameKey (.string y)=decide (x=y):=by
 by_cases h:x=y
 ·subst h;simp[Lit.sameKey]
 ·simp[Lit.sameKey,h]
def nY(w:World)(b r n:Nat)(g:Value->Option Value)(ks:List (List UInt8)):Prop:=
 ∃(D:DataW Value) (left:Lit->Bool) (a:Nat),w.ranges prog 9 qg b r n D left a/\(∀v a,keyOf prog 9 v=some a->Maps.has D a=(g v).isSome/\ ∀z,D.atKey a (.held z)=.held ((g v).getD z))/\
  (∀k:List UInt8,k.length<=maxLen->(left (.string k)=true↔k∈ks))/\ks.Nodup/\ ∀k∈ks,k.length<=maxLen
theorem nY.only{w w':World}{S:Nat->Prop}{b r n:Nat}{g:Value->Option Value}{ks:List (List UInt8)}(u:nY w b r n g ks)(a:Only S w w')(t: ¬S b)(h: ¬S r):nY w' b r n g ks:=by obtain⟨D,left,f,⟨o,d,c,e,m,l,j,p,s,q,k⟩,i⟩:=u;exact⟨D,left,f,⟨o,d,c,e,m,a.heap l t,j,p,s,a.heap q h,k⟩,i⟩
theorem nY.left{w w':World}{S:Nat->Prop}{b r n:Nat}{g:Value->Option Value}{ks:List (List UInt8)}(u:nY w b r n g ks)(c:Only S w w')(f: ¬S b)(e: ¬S r):w'.rangeLeft b r=w.rangeLeft b r:=by obtain⟨D,left,k,⟨q,i,h,j,p,a,m,s,t,d,o⟩,l⟩:=u;simp only[World.rangeLeft,a,d,c.heap a f,c.heap d e]
theorem nY.next{w:World}{b r n:Nat}{g:Value->Option Value}{ks:List (List UInt8)}(S:nY w b r n g ks)(q:TypeId):(ks=[]/\(Instr.next (r7 r) false q).run prog w=.ok (.tuple #[.bool false]) w)\/
  ∃(i j:List (List UInt8)) (k:List UInt8) (v:Value) (w':World),ks=i++k::j/\g (sd k)=some v/\nY w' b r n g (i++j)/\w'.rangeLeft b r<w.rangeLeft b r/\Only (fun U=>U=r) w w'/\w'.heap.size=w.heap.size/\
   (Instr.entry (r7 r)).run prog w'=.ok (.tuple #[sd k,v]) w'/\(Instr.next (r7 r) false q).run prog w=.ok (.tuple #[.bool true,sd k,v]) w':=by
 obtain⟨T,left,O,A,z,s,e,y⟩:=S;rcases A.next yV q with⟨Q,L,p⟩|⟨P,v,R,X,w',C,l,E,m,u,p,x,J,H,I,F⟩
 ·refine .inl ⟨?_,p⟩
  cases ks with
  |nil=>rfl
  |cons k ks=>have:=(s k (y k (by simp))).2 (by simp);rw[L]at this;cases this
 ·obtain⟨⟨N⟩,rfl,_⟩:=Maps.keyOf_string_inv underlying9 l;obtain⟨k,rfl⟩: ∃k:List UInt8,N=k.toArray:=⟨N.toList,rfl⟩
  have t:k.length<=maxLen:=by obtain⟨N,o,-,K⟩:=WideMaps.string_of_keyOf underlying9 l;injection o with o;subst o;have:k.toArray.size<=maxLen:=K;simpa using this
  obtain rfl:=eC ((GU t).symm.x l);have D:=(s k t).1 E;obtain⟨i,j,f⟩:=List.append_of_mem D
  have G:g (sd k)=some v:=by
   unfold qg at m;injection m with m;have a:=u (.held (.bool true));have c:=u (.held (.bool false));rw[(z _ _ l).2,<-m]at a c;injection a with a;injection c with c
   cases C9:g (sd k)with
   |none=>rw[C9]at a c;simp at a c;rw[<-a]at c;cases c
   |some W=>rw[C9]at a;simpa using a
  have B:k∉i++j:=by
   rw[f]at e;intro h;rw[List.nodup_append]at e;rcases dr.1 h with h|h
   ·exact e.2.2 k h k (by simp) rfl
   ·exact(List.nodup_cons.1 e.2.1).1 h
  refine .inr ⟨i,j,k,v,w',f,G,⟨T,_,C,x,z,fun M d=>?_,?_,fun M d=>y M (by rw[f];rcases dr.1 d with d|d<;>simp[d])⟩,by rw[x.left_eq,A.left_eq];exact J,(Only.of_grownBy H).m (fun V _ o=>by injection o with o;exact o.symm),I,F,p⟩
  ·rw[mw,s M d,f,Eo];by_cases o:M=k
   ·subst o;simp at B⊢;exact B
   ·simp[o]
  ·rw[f]at e;exact e.sublist (by simp)
section
variable(w:World){ops:Array Oper}{rest:List Oper}{o:Oper}{a:Act}{Q:Exit->Act->World->Prop}
theorem lj(p:o.guard=none)(m:Operand)(t:TypeId)(j:o.op=Op.range t m){e:TypeId}(s:prog.underlying t=some (.map 9 e)){b n:Nat}{g:Value->Option Value}(q:a.eval m=.map (some b))
  (d:bW prog w 9 b n g) (ks:List (List UInt8)) (i: ∀k:List UInt8,k.length<=maxLen->((g (sd k)).isSome=true↔k∈ks)) (h:ks.Nodup) (f: ∀k∈ks,k.length<=maxLen)
  (r: ∀w',nY w' b w.heap.size n g ks->Below w.heap.size w w'->wpList prog ops Q rest (a.put o.dst (r7 w.heap.size)) w'):wpList prog ops Q (o::rest) a w:=by
 obtain⟨D,x,u⟩:=d;refine wpList_range_own w p m t j 9 e yV s qg b n D q x (fun w' c l v=>r w' ⟨D,_,_,c,u,fun k c=>?_,h,f⟩ ((aw _ _).grown l (b8 _) (fun k c=>by cases c)));rw[(u _ _ (GU c)).1,i k c]
theorem qh(x:o.guard=none)(j:Operand)(h:o.op=Op.next j false){b r n:Nat}{g:Value->Option Value}{ks:List (List UInt8)}(i:a.eval j=r7 r)(C:nY w b r n g ks)
  (l:ks=[]->wpList prog ops Q rest (a.put o.dst (.tuple #[.bool false])) w)
  (m: ∀(c d:List (List UInt8)) (k:List UInt8) (v:Value) (w':World),ks=c++k::d->g (sd k)=some v->nY w' b r n g (c++d)->w'.rangeLeft b r<w.rangeLeft b r->Only (fun D=>D=r) w w'->w'.heap.size=w.heap.size->
   (Instr.entry (r7 r)).run prog w'=.ok (.tuple #[sd k,v]) w'->wpList prog ops Q rest (a.put o.dst (.tuple #[.bool true,sd k,v])) w'):wpList prog ops Q (o::rest) a w:=by
 refine wpList_plain x fun B f=>?_;unfold Oper.wp;rcases C.next o.type with⟨q,e⟩|⟨c,d,k,v,w',u,s,y,A,z,t,p,e⟩
 ·simp[execOp,h,i,e,Result.andThen];exact f _ _ (l q)
 ·simp[execOp,h,i,e,Result.andThen];exact f _ _ (m c d k v w' u s y A z t p)
theorem uJ{F:Fence}{m:Nat}(z:o.guard=none)(j:Operand)(c:o.op=Op.next j false){b r n:Nat}{g:Value->Option Value}{ks:List (List UInt8)}(i:a.eval j=r7 r)(E:nY w b r n g ks)
  (l:ks=[]->wpListIn F m prog ops Q rest (a.put o.dst (.tuple #[.bool false])) w)
  (p: ∀(d e:List (List UInt8)) (k:List UInt8) (v:Value) (w':World),ks=d++k::e->g (sd k)=some v->nY w' b r n g (d++e)->w'.rangeLeft b r<w.rangeLeft b r->Only (fun G=>G=r) w w'->w'.heap.size=w.heap.size->
   (Instr.entry (r7 r)).run prog w'=.ok (.tuple #[sd k,v]) w'->wpListIn F m prog ops Q rest (a.put o.dst (.tuple #[.bool true,sd k,v])) w'):wpListIn F m prog ops Q (o::rest) a w:=by
 refine wpListIn_plain z fun D h=>?_;unfold Oper.wpIn;refine⟨by simp[Oper.about,c],?_⟩;rw[Oper.semAt_plain F _ _ (by rw[c];intro H q;cases q)];rcases E.next o.type with⟨t,f⟩|⟨d,e,k,v,w',y,u,A,C,B,x,s,f⟩
 ·simp[execOp,c,i,f,Result.andThen];exact h _ _ (l t)
 ·simp[execOp,c,i,f,Result.andThen];exact h _ _ (p d e k v w' y u A C B x s)
end
end
section
open Go.RowKit Go.Maps Go.WideShapes
theorem Tryz.Ox:laidOutB prog=true:=by kernel_rfl
theorem Tryz.Wk:(78:TypeId)<prog.types.size:=of_decide_eq_true (by kernel_rfl)
theorem Tryz.aab:(match prog.underlying 78 with|some (.array _ _)|some (.struct _)=>true|_=>false)=true:=by rw[underlying78]
theorem Lu:Keyed prog 78:=Keyed.of_law (deep_law_laid Tryz.Ox (m:=2) (by omega) Tryz.Wk (by kernel_rfl) Tryz.aab)
theorem Tryz.Co:prog.cellsOf 78=1:=by kernel_rfl
theorem Tryz.Oy:prog.cellsOf 9=1:=by kernel_rfl
theorem Tryz.acm:prog.keyType 78=true:=by kernel_rfl
def Ep(k:List UInt8):Value:=.agg #[sd k]
def cQ(k:List UInt8):Lit:=.string (keyBytes [.string k])
theorem Er(w n:Nat):(bytesLE w n).length=w:=by
 induction w generalizing n with
 |zero=>rfl
 |succ w a=>simp[bytesLE,a]
theorem xo{a b:List UInt8}(h:cQ a=cQ b):a=b:=by
 unfold cQ keyBytes at h;simp[Lit.keyBytes]at h;have c:(bytesBE 8 a.length).length=(bytesBE 8 b.length).length:=by simp[bytesBE,Er]
 exact(List.append_inj h c).2
theorem AK{k:List UInt8}(h:k.length<=maxLen):keyOf prog 78 (Ep k)=some (cQ k):=by
 unfold keyOf Ep;rw[underlying78];simp only;have b:(Value.agg #[sd k]).formed prog 78=true:=by simp[Value.formed,underlying78,Tryz.Co]
 have a:(⟨k.toArray⟩:ByteArray).size<=maxLen:=by simpa[ByteArray.size]using h
 rw[Tryz.acm,b];obtain⟨d,c⟩: ∃d,prog.types.size+1=d+1+1:=⟨prog.types.size-1,by have e:(0:Nat)<prog.types.size:=Nat.lt_of_le_of_lt (dq _) Tryz.Wk;omega⟩;rw[c];simp[Program.keyLits,underlying78,underlying9,Tryz.Co,Tryz.Oy,Value.cells,cQ,a]
theorem qi{v:Value}{e:Lit}(h:keyOf prog 78 v=some e): ∃k:List UInt8,v=Ep k/\e=cQ k/\k.length<=maxLen:=by
 unfold keyOf at h;rw[underlying78]at h;simp only at h;split at h
 ·rename_i a;simp only[mw]at a;obtain⟨j,i⟩: ∃j,prog.types.size+1=j+1+1:=⟨prog.types.size-1,by have l:(0:Nat)<prog.types.size:=Nat.lt_of_le_of_lt (dq _) Tryz.Wk;omega⟩;rw[i]at h
  obtain⟨b,rfl⟩: ∃b,v=.agg b:=by
   have:=a.2;unfold Value.formed at this;split at this
   ·exact⟨_,rfl⟩
   ·cases this
   ·rw[underlying78]at this;cases this
  have d:b.size=1:=by have:=a.2;simpa[Value.formed,underlying78,Tryz.Co]using this
  obtain⟨g⟩:=b
  match g,d with
  |[c0],hs1=>
   simp[Program.keyLits,underlying78,underlying9,Tryz.Co,Tryz.Oy,Value.cells]at h;clear hs1 a d;cases c0<;>simp at h;rename_i f;by_cases c:f.size<=maxLen
   ·rw[fi c]at h;simp at h;exact⟨f.data.toList,rfl,h.symm,by rw[Array.length_toList];exact c⟩
   ·rw[ff c]at h;simp at h
 ·cases h
end
end Go.Proofs.YtehccbdajiiaaaaGreatDoor
