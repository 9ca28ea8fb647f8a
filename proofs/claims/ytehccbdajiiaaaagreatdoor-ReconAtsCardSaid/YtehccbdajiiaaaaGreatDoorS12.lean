import Derived.Test.YtehccbdajiiaaaaGreatDoorS11
import Derived.Deep.RegionHeld3
import Derived.StillTailTactics
import Derived.Lib.ConvBytes
import Derived.Laws.AppendOwn
import Derived.Maps.OwnSet
import Derived.Maps.OwnOps
import Derived.DeepKeys4
import Derived.StringKeys
import Derived.Maps.RangeWalk
import Derived.Sort.MapsRangeIn
import Derived.OwnWalkIn
abbrev Go.Shut.o:=@Go.Shut.out
namespace Go.Proofs.YtehccbdajiiaaaaGreatDoor
open Go.Proofs.Tryz
set_option maxRecDepth 100000
open Go.RowKit
abbrev ph:=@AllReadyH.nil
abbrev pt:=@wp_region_held_drew
abbrev pw:=@wpAnyH_done
abbrev qe:=@wpAnyH_ready
theorem VQ{P:Program}{md:Region.Mode}{l:List Oper}{Q:Exit->Act->World->Prop}{S:World->Prop}{i:Nat}{oi:Oper}{v:Value}{fuel:Nat}{listed:Array Bool}{a:Act}{w:World}(hi:l[i]?=some oi)
  (c:Region.noSelect l.toArray=true) (h:Region.free md l.toArray listed i=true) (f:(Region.ready md l.toArray listed).contains i=true)
  (e: ∀b a w,Q (.panic b) (a.put oi.dst v) w->Q (.panic b) a w) (g:Region.wanted oi (yielded l.toArray a.tmps)=true) (d: ∀w,S w->(execOp a.eval oi).run P w=.ok (.value v) w) (b:S w)
  (j:wpAnyH P md l.toArray Q S fuel (listed.setIfInBounds i true) (a.put oi.dst v) w):wpAnyH P md l.toArray Q S (fuel+1) listed a w:=
 wpAnyH_take (by simpa using hi) c h f e (.inl ⟨g,d⟩) b j
theorem cX{P:Program}{md:Region.Mode}{l:List Oper}{Q:Exit->Act->World->Prop}{S:World->Prop}{fuel:Nat}{listed:Array Bool}{a:Act}{w:World}{i:Nat}{o:Oper}{rs:List Nat}(c:l[i]?=some o)
  (h: ∀b:Act->World->Prop,Shut (∀a w,S w->(S w->wpAnyH P md l.toArray Q S fuel (listed.setIfInBounds i true) a w)->b a w)->if Region.wanted o (yielded l.toArray a.tmps)=true then Oper.wp P o a w b Q else b (a.put o.dst undef) w)
  (b:AllReadyH P md l.toArray Q S fuel listed a w rs):AllReadyH P md l.toArray Q S fuel listed a w (i::rs):=AllReadyH.cons (by simpa using c) h b
theorem EZ{P:Program}{md:Region.Mode}{l:List Oper}{Q:Exit->Act->World->Prop}{S:World->Prop}{i:Nat}{oi:Oper}{fuel:Nat}{listed:Array Bool}{a:Act}{w:World}(hi:l[i]?=some oi)
  (c:Region.noSelect l.toArray=true) (g:Region.free md l.toArray listed i=true) (e:(Region.ready md l.toArray listed).contains i=true)
  (d: ∀b a w,Q (.panic b) (a.put oi.dst undef) w->Q (.panic b) a w) (f:Region.wanted oi (yielded l.toArray a.tmps)=false) (b:S w)
  (h:wpAnyH P md l.toArray Q S fuel (listed.setIfInBounds i true) (a.put oi.dst undef) w):wpAnyH P md l.toArray Q S (fuel+1) listed a w:=
 wpAnyH_take (by simpa using hi) c g e d (.inr ⟨f,rfl⟩) b h
theorem Ie{a W b:World}{c:Addr}{v1:Value}(h:Below a.heap.size a W/\W.cell? c=some v1)(d:Below W.heap.size W b):Below a.heap.size a b/\b.cell? c=some v1:=
 ⟨h.1.x (d.m h.1.size),(d.cell (aq _ _ h.2)).x h.2⟩
theorem tQ{b W a:World}{d e:Addr}{v1 v2:Value}(h:Below b.heap.size b W/\W.cell? d=some v1/\W.cell? e=some v2)(c:Below W.heap.size W a):Below b.heap.size b a/\a.cell? d=some v1/\a.cell? e=some v2:=
 ⟨h.1.x (c.m h.1.size),(c.cell (aq _ _ h.2.1)).x h.2.1,(c.cell (aq _ _ h.2.2)).x h.2.2⟩
def GoL(_:List Nat)(p:Prop):Prop:=p
theorem bj(a:List Nat){p:Prop}(h:GoL a p):p:=h
theorem bq{p:Prop}(h:p):GoL [] p:=h
section
variable{P:Program}{md:Region.Mode}{l:List Oper}{Q:Exit->Act->World->Prop}{S:World->Prop}{oi:Oper}{v:Value}{fuel:Nat}{listed:Array Bool}{a:Act}{w:World}
theorem lA(i:Nat)(d: ∀w,S w->(execOp a.eval oi).run P w=.ok (.value v) w)(b:S w)(j:wpAnyH P md l.toArray Q S fuel (listed.setIfInBounds i true) (a.put oi.dst v) w)(hi:l[i]?=some oi:=by rfl)
  (c:Region.noSelect l.toArray=true:=by kernel_rfl) (h:Region.free md l.toArray listed i=true:=by kernel_rfl) (f:(Region.ready md l.toArray listed).contains i=true:=by kernel_rfl)
  (e: ∀g a w,Q (.panic g) (a.put oi.dst v) w->Q (.panic g) a w:=by exact fun _ _ _ j=>j) (g:Region.wanted oi (yielded l.toArray a.tmps)=true:=by rfl):wpAnyH P md l.toArray Q S (fuel+1) listed a w:=
 VQ hi c h f e g d b j
theorem dZ{i:Nat}{b:List Nat}(e: ∀w,S w->(execOp a.eval oi).run P w=.ok (.value v) w)(c:S w)(k:GoL b (wpAnyH P md l.toArray Q S fuel (listed.setIfInBounds i true) (a.put oi.dst v) w))(hi:l[i]?=some oi:=by rfl)
  (d:Region.noSelect l.toArray=true:=by kernel_rfl) (j:Region.free md l.toArray listed i=true:=by kernel_rfl) (g:(Region.ready md l.toArray listed).contains i=true:=by kernel_rfl)
  (f: ∀h a w,Q (.panic h) (a.put oi.dst v) w->Q (.panic h) a w:=by exact fun _ _ _ k=>k) (h:Region.wanted oi (yielded l.toArray a.tmps)=true:=by rfl):GoL (i::b) (wpAnyH P md l.toArray Q S (fuel+1) listed a w):=
 VQ hi d j g f h e c k
end
section
variable{P:Program}{md:Region.Mode}{l:List Oper}{Q:Exit->Act->World->Prop}{S:World->Prop}{o:Oper}{fuel:Nat}{listed:Array Bool}{a:Act}{w:World}
theorem bA(i:Nat)(h: ∀b:Act->World->Prop,Shut (∀a w,S w->(S w->wpAnyH P md l.toArray Q S fuel (listed.setIfInBounds i true) a w)->b a w)->if Region.wanted o (yielded l.toArray a.tmps)=true then Oper.wp P o a w b Q else b (a.put o.dst undef) w)
  (c:l[i]?=some o:=by rfl) (b:Region.ready md l.toArray listed=[i]:=by kernel_rfl):wpAnyH P md l.toArray Q S (fuel+1) listed a w:=
 qe b (by simp) (cX c h ph)
end
theorem aj(a:Act)(d:Option Tmp)(v:Value):a.put d v=match d with|some t=>{a with tmps:=a.tmps.setIfInBounds t v}|none=>a:=rfl
theorem ak{α:Type}(l:List α)(i:Nat)(a:α):l.toArray.setIfInBounds i a=(l.set i a).toArray:=List.setIfInBounds_toArray ..
theorem ar{α:Type}(x:α)(xs:List α)(y:α):(x::xs).set 0 y=y::xs:=rfl
theorem au{α:Type}(x:α)(xs:List α)(n:Nat)(y:α):(x::xs).set (n+1) y=x::xs.set n y:=rfl
theorem xr:(∀(a:Act)(d:Option Tmp)(v:Value),a.put d v=match d with|some t=>{a with tmps:=a.tmps.setIfInBounds t v}|none=>a)/\(∀(α:Type)(l:List α)(i:Nat)(a:α),l.toArray.setIfInBounds i a=(l.set i a).toArray)/\(∀(α:Type)(x:α)(xs:List α)(y:α),(x::xs).set 0 y=y::xs)/\ ∀(α:Type)(x:α)(xs:List α)(n:Nat)(y:α),(x::xs).set (n+1) y=x::xs.set n y:=⟨aj,fun _=>ak,fun _=>ar,fun _=>au⟩
theorem uE(w:World)(e:TypeId)(s:ByteArray):Below w.heap.size w (Lib.bytesWorld w e s):=
 ⟨rfl,rfl,rfl,by rw[Lib.bytesWorld_size];omega,fun k a=>Lib.bytesWorld_at_old w e s k a⟩
theorem E0(w:World)(e:TypeId)(l:List UInt8)(c:l.length<=maxLen):Rd (Lib.bytesWorld w e ⟨l.toArray⟩) (fun k=>w.heap.size<=k) (.slice (some ⟨w.heap.size,0,none⟩) l.length (grownCap w l.length 0 e)) (l.map B8):=by
 refine⟨_,_,_,rfl,by simp,grownCap_ge _ _ _ _,grownCap_le_maxLen _ _ _ _ c,fun _=>⟨_,0,rfl,b8 _,fun j u a=>?_⟩⟩;have b:j<l.length:=by have:=(aw.1 a).1;simpa using this
 have:=Lib.bytesWorld_cell w e ⟨l.toArray⟩ j (by simpa[ByteArray.size]using b);rw[ie,this];rw[nh]at a;simp only[List.getD,List.getElem?_eq_getElem b,Option.map_some,fi]at a⊢;rw[<-a];rfl
theorem xR(w:World)(l:List UInt8):(convert 9 53 (r7 l)).run prog w=.ok (.slice (some ⟨w.heap.size,0,none⟩) l.length (grownCap w l.length 0 5)) (Lib.bytesWorld w 5 ⟨l.toArray⟩):=by have:=Lib.run_convert_string_bytes (P:=prog) w 9 53 5 ⟨l.toArray⟩ underlying9 underlying53 underlying5;simpa[ByteArray.size]using this
section
open Go.RowKit Go.Maps Go.WideShapes
def qB(v:Value):Option (DataW Value×List MemPlace):=some (.held v,[])
noncomputable def oF(g:Value->Option Value)(k:Value)(d:Option Value):Value->Option Value:=fun x=> @ite _ (x=k) (Classical.propDecidable _) d (g x)
theorem pS(g:Value->Option Value)(k:Value)(d:Option Value):oF g k d k=d:=by unfold oF;exact @if_pos _ (Classical.propDecidable _) rfl _ _ _
theorem nN(g:Value->Option Value){k x:Value}(d:Option Value)(h:x≠k):oF g k d x=g x:=by unfold oF;exact @if_neg _ (Classical.propDecidable _) h _ _ _
def bX(P:Program)(w:World)(K:TypeId)(b n:Nat)(g:Value->Option Value):Prop:=
 ∃D:DataW Value,w.ownsMap P K qB b n D/\ ∀v a,keyOf P K v=some a->Maps.has D a=(g v).isSome/\ ∀z,D.atKey a (.held z)=.held ((g v).getD z)
section
variable{P:Program}{w w':World}{K:TypeId}{b n:Nat}{g:Value->Option Value}
theorem bX.lt(h:bX P w K b n g):b<w.heap.size:=by obtain⟨D,h,_⟩:=h;exact h.lt
theorem bX.made(P:Program)(w:World)(K:TypeId):bX P (w.alloc (.map #[] 0)) K w.heap.size 0 (fun _=>none):=
 ⟨_,World.ownsMap_made _ _ _ _,fun _ _ _=>⟨rfl,fun _=>rfl⟩⟩
theorem bX.same(h:bX P w K b n g)(f:w'.heap[b]?=w.heap[b]?):bX P w' K b n g:=by obtain⟨D,⟨d,a,e,c⟩,r⟩:=h;exact⟨D,⟨d,a,f.x e,c⟩,r⟩
theorem bX.only{S:Nat->Prop}(h:bX P w K b n g)(c:Only S w w')(a: ¬S b):bX P w' K b n g:=h.same (c.block b h.lt a)
theorem bX.below(h:bX P w K b n g)(a:Below w.heap.size w w'):bX P w' K b n g:=h.same (a.block b h.lt)
theorem bX.look(j:bX P w K b n g)(L:Keyed P K){t e:TypeId}(i:P.underlying t=some (.map K e)){z:Value}(h:(zeroValue e).run P w=.ok z w){key:Value}{d:Lit}(c:keyOf P K key=some d):
  (Instr.lookup t (.map (some b)) key false).run P w=.ok ((g key).getD z) w:=by
 obtain⟨D,j,r⟩:=j;obtain⟨v,k,f,a⟩:=j.lookup L i h (show qB z=some (.held z,[])from rfl) c;rw[(r key d c).2 z]at a;unfold qB at a;injection a with a;injection a with a;injection a with a;rw[f,a]
theorem bX.look_ok(j:bX P w K b n g)(L:Keyed P K){t e:TypeId}(i:P.underlying t=some (.map K e)){z:Value}(h:(zeroValue e).run P w=.ok z w){key:Value}{d:Lit}(c:keyOf P K key=some d):
  (Instr.lookup t (.map (some b)) key true).run P w=.ok (.tuple #[(g key).getD z,.bool (g key).isSome]) w:=by
 obtain⟨D,j,r⟩:=j;obtain⟨v,k,f,a⟩:=j.look_ok L i h (show qB z=some (.held z,[])from rfl) c;rw[(r key d c).2 z]at a;unfold qB at a;injection a with a;injection a with a;injection a with a;rw[f,a,(r key d c).1]
theorem bX.store(h:bX P w K b n g)(L:Keyed P K){t e:TypeId}(k:P.underlying t=some (.map K e))(o:n<maxLen){key val:Value}{d:Lit}(a:keyOf P K key=some d):
  ∃w',(Instr.mapUpdate t (.map (some b)) key val).run P w=.ok () w'/\bX P w' K b (n+1) (oF g key (some val))/\Only (fun c=>c=b) w w':=by
 obtain⟨D,h,r⟩:=h;obtain⟨w',i,j,m⟩:=h.store L k o a (show qB val=some (.held val,[])from rfl);refine⟨w',i,⟨_,j,fun v l c=>?_⟩,?_⟩
 ·by_cases e:v=key
  ·subst e;have:l=d:=eC (c.symm.x a);subst this;rw[pS];exact⟨has_put_same h.isMap (L.key a) _,fun z=>atKey_put_same h.isMap (L.key a) _ _⟩
  ·have f:l≠d:=fun p=>e (L.inj (by rw[<-p];exact c) a);rw[nN _ _ e,has_put_other f];exact⟨(r v l c).1,fun z=>by rw[atKey_put_other f];exact(r v l c).2 z⟩
 ·exact(Only.of_grownBy m.grown).m (fun c _ e=>by injection e with e;exact e.symm)
end
section
variable{P:Program}(w:World){ops:Array Oper}{rest:List Oper}{o:Oper}{a:Act}{Q:Exit->Act->World->Prop}
theorem fS(k:o.guard=none)(m x:Operand)(t:TypeId)(h:o.op=Op.lookup t m x true){K e:TypeId}(L:Keyed P K)(r:P.underlying t=some (.map K e)){z:Value}(u:(zeroValue e).run P w=.ok z w){b n:Nat}{g:Value->Option Value}
  (s:a.eval m=.map (some b)) (d:bX P w K b n g) {key:Value} {l:Lit} (p:a.eval x=key) (c:keyOf P K key=some l) (v:Value) (q:Bool) (i:(g key).getD z=v) (f:(g key).isSome=q)
  (j:wpList P ops Q rest (a.put o.dst (.tuple #[v,.bool q])) w):wpList P ops Q (o::rest) a w:=by
 subst i f;refine wpList_plain k fun f i=>?_;have f:=d.look_ok L r u c;unfold Oper.wp;simp[execOp,h,s,p,f,Result.andThen];exact i _ _ j
end
end
section
open Go.RowKit Go.Maps Go.WideShapes
theorem zT:Keyed prog 9:=string_keyed underlying9
theorem Ig{k:List UInt8}(h:k.length<=maxLen):keyOf prog 9 (r7 k)=some (.string k):=by
 have a:(⟨k.toArray⟩:ByteArray).size<=maxLen:=by simpa[ByteArray.size]using h
 simpa using WideMaps.keyOf_string_mk (P:=prog) underlying9 a
theorem Tryz.pq(w:World):(zeroValue 157).run prog w=.ok (.pointer none) w:=by kernel_rfl
end
section
open Go.RowKit Go.Maps Go.WideShapes
theorem E2(x y:List UInt8):(Lit.string x).sameKey (.string y)=decide (x=y):=by
 by_cases h:x=y
 ·subst h;simp[Lit.sameKey]
 ·simp[Lit.sameKey,h]
def oH(w:World)(b r n:Nat)(g:Value->Option Value)(ks:List (List UInt8)):Prop:=
 ∃(D:DataW Value) (left:Lit->Bool) (a:Nat),w.ranges prog 9 qB b r n D left a/\(∀v a,keyOf prog 9 v=some a->Maps.has D a=(g v).isSome/\ ∀z,D.atKey a (.held z)=.held ((g v).getD z))/\
  (∀k:List UInt8,k.length<=maxLen->(left (.string k)=true↔k∈ks))/\ks.Nodup/\ ∀k∈ks,k.length<=maxLen
theorem oH.only{w w':World}{S:Nat->Prop}{b r n:Nat}{g:Value->Option Value}{ks:List (List UInt8)}(u:oH w b r n g ks)(a:Only S w w')(l: ¬S b)(o: ¬S r):oH w' b r n g ks:=by obtain⟨D,left,f,⟨j,d,c,e,t,k,m,p,h,q,s⟩,i⟩:=u;exact⟨D,left,f,⟨j,d,c,e,t,a.heap k l,m,p,h,a.heap q o,s⟩,i⟩
theorem oH.left{w w':World}{S:Nat->Prop}{b r n:Nat}{g:Value->Option Value}{ks:List (List UInt8)}(u:oH w b r n g ks)(c:Only S w w')(e: ¬S b)(f: ¬S r):w'.rangeLeft b r=w.rangeLeft b r:=by obtain⟨D,left,k,⟨o,i,h,j,t,a,p,q,l,d,s⟩,m⟩:=u;simp only[World.rangeLeft,a,d,c.heap a e,c.heap d f]
theorem oH.next{w:World}{b r n:Nat}{g:Value->Option Value}{ks:List (List UInt8)}(T:oH w b r n g ks)(s:TypeId):(ks=[]/\(Instr.next (rv r) false s).run prog w=.ok (.tuple #[.bool false]) w)\/
  ∃(j h:List (List UInt8)) (k:List UInt8) (v:Value) (w':World),ks=j++k::h/\g (r7 k)=some v/\oH w' b r n g (j++h)/\w'.rangeLeft b r<w.rangeLeft b r/\Only (fun U=>U=r) w w'/\w'.heap.size=w.heap.size/\
   (Instr.entry (rv r)).run prog w'=.ok (.tuple #[r7 k,v]) w'/\(Instr.next (rv r) false s).run prog w=.ok (.tuple #[.bool true,r7 k,v]) w':=by
 obtain⟨S,left,P,y,z,q,e,A⟩:=T;rcases y.next zT s with⟨R,L,p⟩|⟨O,v,Q,V,w',C,l,J,m,x,p,t,H,I,F,E⟩
 ·refine .inl ⟨?_,p⟩
  cases ks with
  |nil=>rfl
  |cons k ks=>have:=(q k (A k (by simp))).2 (by simp);rw[L]at this;cases this
 ·obtain⟨⟨N⟩,rfl,_⟩:=Maps.keyOf_string_inv underlying9 l;obtain⟨k,rfl⟩: ∃k:List UInt8,N=k.toArray:=⟨N.toList,rfl⟩
  have u:k.length<=maxLen:=by obtain⟨N,o,-,K⟩:=WideMaps.string_of_keyOf underlying9 l;injection o with o;subst o;have:k.toArray.size<=maxLen:=K;simpa using this
  obtain rfl:=eC ((Ig u).symm.x l);have D:=(q k u).1 J;obtain⟨j,h,f⟩:=List.append_of_mem D
  have G:g (r7 k)=some v:=by
   unfold qB at m;injection m with m;have a:=x (.held (.bool true));have c:=x (.held (.bool false));rw[(z _ _ l).2,<-m]at a c;injection a with a;injection c with c
   cases DR:g (r7 k)with
   |none=>rw[DR]at a c;simp at a c;rw[<-a]at c;cases c
   |some X=>rw[DR]at a;simpa using a
  have B:k∉j++h:=by
   rw[f]at e;intro i;rw[List.nodup_append]at e;rcases dr.1 i with i|i
   ·exact e.2.2 k i k (by simp) rfl
   ·exact(List.nodup_cons.1 e.2.1).1 i
  refine .inr ⟨j,h,k,v,w',f,G,⟨S,_,C,t,z,fun M d=>?_,?_,fun M d=>A M (by rw[f];rcases dr.1 d with d|d<;>simp[d])⟩,by rw[t.left_eq,y.left_eq];exact H,(Only.of_grownBy I).m (fun W _ o=>by injection o with o;exact o.symm),F,E,p⟩
  ·rw[mu,q M d,f,E2];by_cases o:M=k
   ·subst o;simp at B⊢;exact B
   ·simp[o]
  ·rw[f]at e;exact e.sublist (by simp)
section
variable(w:World){ops:Array Oper}{rest:List Oper}{o:Oper}{a:Act}{Q:Exit->Act->World->Prop}
theorem lC(p:o.guard=none)(m:Operand)(t:TypeId)(h:o.op=Op.range t m){e:TypeId}(q:prog.underlying t=some (.map 9 e)){b n:Nat}{g:Value->Option Value}(s:a.eval m=.map (some b))
  (f:bX prog w 9 b n g) (ks:List (List UInt8)) (j: ∀k:List UInt8,k.length<=maxLen->((g (r7 k)).isSome=true↔k∈ks)) (i:ks.Nodup) (d: ∀k∈ks,k.length<=maxLen)
  (l: ∀w',oH w' b w.heap.size n g ks->Below w.heap.size w w'->wpList prog ops Q rest (a.put o.dst (rv w.heap.size)) w'):wpList prog ops Q (o::rest) a w:=by
 obtain⟨D,x,u⟩:=f;refine wpList_range_own w p m t h 9 e zT q qB b n D s x (fun w' c r v=>l w' ⟨D,_,_,c,u,fun k c=>?_,i,d⟩ ((bd _ _).grown r (b8 _) (fun k c=>by cases c)));rw[(u _ _ (Ig c)).1,j k c]
theorem qC(s:o.guard=none)(j:Operand)(h:o.op=Op.next j false){b r n:Nat}{g:Value->Option Value}{ks:List (List UInt8)}(i:a.eval j=rv r)(D:oH w b r n g ks)
  (l:ks=[]->wpList prog ops Q rest (a.put o.dst (.tuple #[.bool false])) w)
  (m: ∀(d c:List (List UInt8)) (k:List UInt8) (v:Value) (w':World),ks=d++k::c->g (r7 k)=some v->oH w' b r n g (d++c)->w'.rangeLeft b r<w.rangeLeft b r->Only (fun C=>C=r) w w'->w'.heap.size=w.heap.size->
   (Instr.entry (rv r)).run prog w'=.ok (.tuple #[r7 k,v]) w'->wpList prog ops Q rest (a.put o.dst (.tuple #[.bool true,r7 k,v])) w'):wpList prog ops Q (o::rest) a w:=by
 refine wpList_plain s fun B f=>?_;unfold Oper.wp;rcases D.next o.type with⟨u,e⟩|⟨d,c,k,v,w',t,x,y,p,z,A,q,e⟩
 ·simp[execOp,h,i,e,Result.andThen];exact f _ _ (l u)
 ·simp[execOp,h,i,e,Result.andThen];exact f _ _ (m d c k v w' t x y p z A q)
theorem vt{F:Fence}{m:Nat}(u:o.guard=none)(j:Operand)(c:o.op=Op.next j false){b r n:Nat}{g:Value->Option Value}{ks:List (List UInt8)}(i:a.eval j=rv r)(G:oH w b r n g ks)
  (l:ks=[]->wpListIn F m prog ops Q rest (a.put o.dst (.tuple #[.bool false])) w)
  (p: ∀(e d:List (List UInt8)) (k:List UInt8) (v:Value) (w':World),ks=e++k::d->g (r7 k)=some v->oH w' b r n g (e++d)->w'.rangeLeft b r<w.rangeLeft b r->Only (fun E=>E=r) w w'->w'.heap.size=w.heap.size->
   (Instr.entry (rv r)).run prog w'=.ok (.tuple #[r7 k,v]) w'->wpListIn F m prog ops Q rest (a.put o.dst (.tuple #[.bool true,r7 k,v])) w'):wpListIn F m prog ops Q (o::rest) a w:=by
 refine wpListIn_plain u fun D h=>?_;unfold Oper.wpIn;refine⟨by simp[Oper.about,c],?_⟩;rw[Oper.semAt_plain F _ _ (by rw[c];intro H q;cases q)];rcases G.next o.type with⟨y,f⟩|⟨e,d,k,v,w',x,z,A,s,B,C,t,f⟩
 ·simp[execOp,c,i,f,Result.andThen];exact h _ _ (l y)
 ·simp[execOp,c,i,f,Result.andThen];exact h _ _ (p e d k v w' x z A s B C t)
end
end
section
open Go.RowKit Go.Maps Go.WideShapes
theorem Tryz.Pn:laidOutB prog=true:=by kernel_rfl
theorem Tryz.Xz:(78:TypeId)<prog.types.size:=of_decide_eq_true (by kernel_rfl)
theorem Tryz.aaF:(match prog.underlying 78 with|some (.array _ _)|some (.struct _)=>true|_=>false)=true:=by rw[underlying78]
theorem Mh:Keyed prog 78:=Keyed.of_law (deep_law_laid Tryz.Pn (m:=2) (by omega) Tryz.Xz (by kernel_rfl) Tryz.aaF)
theorem Tryz.CQ:prog.cellsOf 78=1:=by kernel_rfl
theorem Tryz.Po:prog.cellsOf 9=1:=by kernel_rfl
theorem Tryz.acE:prog.keyType 78=true:=by kernel_rfl
def E3(k:List UInt8):Value:=.agg #[r7 k]
def cY(k:List UInt8):Lit:=.string (keyBytes [.string k])
theorem E5(w n:Nat):(bytesLE w n).length=w:=by
 induction w generalizing n with
 |zero=>rfl
 |succ w a=>simp[bytesLE,a]
theorem xS{a b:List UInt8}(h:cY a=cY b):a=b:=by
 unfold cY keyBytes at h;simp[Lit.keyBytes]at h;have c:(bytesBE 8 a.length).length=(bytesBE 8 b.length).length:=by simp[bytesBE,E5]
 exact(List.append_inj h c).2
theorem Bq{k:List UInt8}(h:k.length<=maxLen):keyOf prog 78 (E3 k)=some (cY k):=by
 unfold keyOf E3;rw[underlying78];simp only;have c:(Value.agg #[r7 k]).formed prog 78=true:=by simp[Value.formed,underlying78,Tryz.CQ]
 have a:(⟨k.toArray⟩:ByteArray).size<=maxLen:=by simpa[ByteArray.size]using h
 rw[Tryz.acE,c];obtain⟨d,b⟩: ∃d,prog.types.size+1=d+1+1:=⟨prog.types.size-1,by have e:(0:Nat)<prog.types.size:=Nat.lt_of_le_of_lt (dq _) Tryz.Xz;omega⟩;rw[b];simp[Program.keyLits,underlying78,underlying9,Tryz.CQ,Tryz.Po,Value.cells,cY,a]
theorem qD{v:Value}{e:Lit}(h:keyOf prog 78 v=some e): ∃k:List UInt8,v=E3 k/\e=cY k/\k.length<=maxLen:=by
 unfold keyOf at h;rw[underlying78]at h;simp only at h;split at h
 ·rename_i b;simp only[mu]at b;obtain⟨j,g⟩: ∃j,prog.types.size+1=j+1+1:=⟨prog.types.size-1,by have l:(0:Nat)<prog.types.size:=Nat.lt_of_le_of_lt (dq _) Tryz.Xz;omega⟩;rw[g]at h
  obtain⟨a,rfl⟩: ∃a,v=.agg a:=by
   have:=b.2;unfold Value.formed at this;split at this
   ·exact⟨_,rfl⟩
   ·cases this
   ·rw[underlying78]at this;cases this
  have d:a.size=1:=by have:=b.2;simpa[Value.formed,underlying78,Tryz.CQ]using this
  obtain⟨i⟩:=a
  match i,d with
  |[c0],hs1=>
   simp[Program.keyLits,underlying78,underlying9,Tryz.CQ,Tryz.Po,Value.cells]at h;clear hs1 b d;cases c0<;>simp at h;rename_i f;by_cases c:f.size<=maxLen
   ·rw[ff c]at h;simp at h;exact⟨f.data.toList,rfl,h.symm,by rw[Array.length_toList];exact c⟩
   ·rw[fb c]at h;simp at h
 ·cases h
end
end Go.Proofs.YtehccbdajiiaaaaGreatDoor
