import Derived.Test.YtmkofmeojbcakaaGreatDoorC15
import Derived.StillTailTactics
import Derived.Maps.OwnSet
import Derived.Maps.OwnOps
import Derived.DeepKeys4
import Derived.StringKeys
import Derived.Maps.RangeWalk
import Derived.Sort.MapsRangeIn
namespace Go.Proofs.YtmkofmeojbcakaaGreatDoor
open Go.Proofs.Tryz
set_option maxRecDepth 100000
open Go.RowKit
theorem uE{P:Program}{md:Region.Mode}{l:List Oper}{Q:Exit->Act->World->Prop}{S:World->Prop}{i:Nat}{oi:Oper}{v:Value}{fuel:Nat}{listed:Array Bool}{a:Act}{w:World}(hi:l[i]?=some oi)
  (hs:Region.noSelect l.toArray=true) (hf:Region.free md l.toArray listed i=true) (hr:(Region.ready md l.toArray listed).contains i=true)
  (hQ: ∀c a w,Q (.panic c) (a.put oi.dst v) w->Q (.panic c) a w) (hw:Region.wanted oi (yielded l.toArray a.tmps)=true) (hy: ∀w,S w->(execOp a.eval oi).run P w=.ok (.value v) w) (hS:S w)
  (h:wpAnyH P md l.toArray Q S fuel (listed.setIfInBounds i true) (a.put oi.dst v) w):wpAnyH P md l.toArray Q S (fuel+1) listed a w:=
 wpAnyH_take (by simpa using hi) hs hf hr hQ (.inl ⟨hw,hy⟩) hS h
theorem bE{P:Program}{md:Region.Mode}{l:List Oper}{Q:Exit->Act->World->Prop}{S:World->Prop}{fuel:Nat}{listed:Array Bool}{a:Act}{w:World}{i:Nat}{o:Oper}{rs:List Nat}(ho:l[i]?=some o)
  (h: ∀K':Act->World->Prop,Shut (∀a w,S w->(S w->wpAnyH P md l.toArray Q S fuel (listed.setIfInBounds i true) a w)->K' a w)->if Region.wanted o (yielded l.toArray a.tmps)=true then Oper.wp P o a w K' Q else K' (a.put o.dst undef) w)
  (hs:AllReadyH P md l.toArray Q S fuel listed a w rs):AllReadyH P md l.toArray Q S fuel listed a w (i::rs):=AllReadyH.cons (by simpa using ho) h hs
theorem DX{P:Program}{md:Region.Mode}{l:List Oper}{Q:Exit->Act->World->Prop}{S:World->Prop}{i:Nat}{oi:Oper}{fuel:Nat}{listed:Array Bool}{a:Act}{w:World}(hi:l[i]?=some oi)
  (hs:Region.noSelect l.toArray=true) (hf:Region.free md l.toArray listed i=true) (hr:(Region.ready md l.toArray listed).contains i=true)
  (hQ: ∀c a w,Q (.panic c) (a.put oi.dst undef) w->Q (.panic c) a w) (hw:Region.wanted oi (yielded l.toArray a.tmps)=false) (hS:S w)
  (h:wpAnyH P md l.toArray Q S fuel (listed.setIfInBounds i true) (a.put oi.dst undef) w):wpAnyH P md l.toArray Q S (fuel+1) listed a w:=
 wpAnyH_take (by simpa using hi) hs hf hr hQ (.inr ⟨hw,rfl⟩) hS h
theorem gN{wk W W':World}{p1:Addr}{v1:Value}(h:Below wk.heap.size wk W/\W.cell? p1=some v1)(hb:Below W.heap.size W W'):Below wk.heap.size wk W'/\W'.cell? p1=some v1:=
 ⟨h.1.x (hb.m h.1.size),(hb.cell (aq _ _ h.2)).x h.2⟩
theorem tF{wk W W':World}{p1 p2:Addr}{v1 v2:Value}(h:Below wk.heap.size wk W/\W.cell? p1=some v1/\W.cell? p2=some v2)(hb:Below W.heap.size W W'):Below wk.heap.size wk W'/\W'.cell? p1=some v1/\W'.cell? p2=some v2:=
 ⟨h.1.x (hb.m h.1.size),(hb.cell (aq _ _ h.2.1)).x h.2.1,(hb.cell (aq _ _ h.2.2)).x h.2.2⟩
def GoL(_:List Nat)(p:Prop):Prop:=p
theorem aI(is:List Nat){p:Prop}(h:GoL is p):p:=h
theorem aJ{p:Prop}(h:p):GoL [] p:=h
section
variable{P:Program}{md:Region.Mode}{l:List Oper}{Q:Exit->Act->World->Prop}{S:World->Prop}{oi:Oper}{v:Value}{fuel:Nat}{listed:Array Bool}{a:Act}{w:World}
theorem dR(i:Nat)(hy: ∀w,S w->(execOp a.eval oi).run P w=.ok (.value v) w)(hS:S w)(h:wpAnyH P md l.toArray Q S fuel (listed.setIfInBounds i true) (a.put oi.dst v) w)(hi:l[i]?=some oi:=by rfl)
  (hs:Region.noSelect l.toArray=true:=by kernel_rfl) (hf:Region.free md l.toArray listed i=true:=by kernel_rfl) (hr:(Region.ready md l.toArray listed).contains i=true:=by kernel_rfl)
  (hQ: ∀c a w,Q (.panic c) (a.put oi.dst v) w->Q (.panic c) a w:=by exact fun _ _ _ h=>h) (hw:Region.wanted oi (yielded l.toArray a.tmps)=true:=by rfl):wpAnyH P md l.toArray Q S (fuel+1) listed a w:=
 uE hi hs hf hr hQ hw hy hS h
theorem bO{i:Nat}{is:List Nat}(hy: ∀w,S w->(execOp a.eval oi).run P w=.ok (.value v) w)(hS:S w)(h:GoL is (wpAnyH P md l.toArray Q S fuel (listed.setIfInBounds i true) (a.put oi.dst v) w))(hi:l[i]?=some oi:=by rfl)
  (hs:Region.noSelect l.toArray=true:=by kernel_rfl) (hf:Region.free md l.toArray listed i=true:=by kernel_rfl) (hr:(Region.ready md l.toArray listed).contains i=true:=by kernel_rfl)
  (hQ: ∀c a w,Q (.panic c) (a.put oi.dst v) w->Q (.panic c) a w:=by exact fun _ _ _ h=>h) (hw:Region.wanted oi (yielded l.toArray a.tmps)=true:=by rfl):GoL (i::is) (wpAnyH P md l.toArray Q S (fuel+1) listed a w):=
 uE hi hs hf hr hQ hw hy hS h
end
section
variable{P:Program}{md:Region.Mode}{l:List Oper}{Q:Exit->Act->World->Prop}{S:World->Prop}{o:Oper}{fuel:Nat}{listed:Array Bool}{a:Act}{w:World}
theorem aW(i:Nat)(h: ∀K':Act->World->Prop,Shut (∀a w,S w->(S w->wpAnyH P md l.toArray Q S fuel (listed.setIfInBounds i true) a w)->K' a w)->if Region.wanted o (yielded l.toArray a.tmps)=true then Oper.wp P o a w K' Q else K' (a.put o.dst undef) w)
  (ho:l[i]?=some o:=by rfl) (hr:Region.ready md l.toArray listed=[i]:=by kernel_rfl):wpAnyH P md l.toArray Q S (fuel+1) listed a w:=
 pf hr (by simp) (bE ho h oT)
end
theorem ai(a:Act)(d:Option Tmp)(v:Value):a.put d v=match d with|some t=>{a with tmps:=a.tmps.setIfInBounds t v}|none=>a:=rfl
theorem aj{α:Type}(l:List α)(i:Nat)(a:α):l.toArray.setIfInBounds i a=(l.set i a).toArray:=List.setIfInBounds_toArray ..
theorem ak{α:Type}(x:α)(xs:List α)(y:α):(x::xs).set 0 y=y::xs:=rfl
theorem ar{α:Type}(x:α)(xs:List α)(n:Nat)(y:α):(x::xs).set (n+1) y=x::xs.set n y:=rfl
section
open Go.RowKit Go.Maps Go.WideShapes
def rR(v:Value):Option (DataW Value×List MemPlace):=some (.held v,[])
noncomputable def rS(g:Value->Option Value)(k:Value)(d:Option Value):Value->Option Value:=fun x=> @ite _ (x=k) (Classical.propDecidable _) d (g x)
theorem mI(g:Value->Option Value)(k:Value)(d:Option Value):rS g k d k=d:=by unfold rS;exact @if_pos _ (Classical.propDecidable _) rfl _ _ _
theorem nQ(g:Value->Option Value){k x:Value}(d:Option Value)(h:x≠k):rS g k d x=g x:=by unfold rS;exact @if_neg _ (Classical.propDecidable _) h _ _ _
def bQ(P:Program)(w:World)(K:TypeId)(b n:Nat)(g:Value->Option Value):Prop:=
 ∃D:DataW Value,w.ownsMap P K rR b n D/\ ∀v kl,keyOf P K v=some kl->Maps.has D kl=(g v).isSome/\ ∀z,D.atKey kl (.held z)=.held ((g v).getD z)
section
variable{P:Program}{w w':World}{K:TypeId}{b n:Nat}{g:Value->Option Value}
theorem bQ.lt(h:bQ P w K b n g):b<w.heap.size:=by obtain⟨D,h,_⟩:=h;exact h.lt
theorem bQ.made(P:Program)(w:World)(K:TypeId):bQ P (w.alloc (.map #[] 0)) K w.heap.size 0 (fun _=>none):=
 ⟨_,World.ownsMap_made _ _ _ _,fun _ _ _=>⟨rfl,fun _=>rfl⟩⟩
theorem bQ.same(h:bQ P w K b n g)(hb:w'.heap[b]?=w.heap[b]?):bQ P w' K b n g:=by obtain⟨D,⟨es,clock,h1,r1⟩,r⟩:=h;exact⟨D,⟨es,clock,hb.x h1,r1⟩,r⟩
theorem bQ.only{S:Nat->Prop}(h:bQ P w K b n g)(ho:Only S w w')(hS: ¬S b):bQ P w' K b n g:=h.same (ho.block b h.lt hS)
theorem bQ.below(h:bQ P w K b n g)(ho:Below w.heap.size w w'):bQ P w' K b n g:=h.same (ho.block b h.lt)
theorem bQ.look_ok(h:bQ P w K b n g)(L:Keyed P K){t e:TypeId}(ht:P.underlying t=some (.map K e)){z:Value}(hz:(zeroValue e).run P w=.ok z w){key:Value}{kl:Lit}(hkey:keyOf P K key=some kl):
  (Instr.lookup t (.map (some b)) key true).run P w=.ok (.tuple #[(g key).getD z,.bool (g key).isSome]) w:=by
 obtain⟨D,h,r⟩:=h;obtain⟨v,ps,hrun,hv⟩:=h.look_ok L ht hz (show rR z=some (.held z,[])from rfl) hkey;rw[(r key kl hkey).2 z]at hv;unfold rR at hv;injection hv with hv;injection hv with hv;injection hv with hv;rw[hrun,hv,(r key kl hkey).1]
theorem bQ.store(h:bQ P w K b n g)(L:Keyed P K){t e:TypeId}(ht:P.underlying t=some (.map K e))(hn:n<maxLen){key val:Value}{kl:Lit}(hkey:keyOf P K key=some kl):
  ∃w',(Instr.mapUpdate t (.map (some b)) key val).run P w=.ok () w'/\bQ P w' K b (n+1) (rS g key (some val))/\Only (fun k=>k=b) w w':=by
 obtain⟨D,h,r⟩:=h;obtain⟨w',hrun,h1,h2⟩:=h.store L ht hn hkey (show rR val=some (.held val,[])from rfl);refine⟨w',hrun,⟨_,h1,fun v l hl=>?_⟩,?_⟩
 ·by_cases e:v=key
  ·subst e;have:l=kl:=eE (hl.symm.x hkey);subst this;rw[mI];exact⟨has_put_same h.isMap (L.key hkey) _,fun z=>atKey_put_same h.isMap (L.key hkey) _ _⟩
  ·have hne:l≠kl:=fun e1=>e (L.inj (by rw[<-e1];exact hl) hkey);rw[nQ _ _ e,has_put_other hne];exact⟨(r v l hl).1,fun z=>by rw[atKey_put_other hne];exact(r v l hl).2 z⟩
 ·exact(Only.of_grownBy h2.grown).m (fun i _ e=>by injection e with e;exact e.symm)
theorem bQ.drop(h:bQ P w K b n g)(L:Keyed P K){t e:TypeId}(ht:P.underlying t=some (.map K e)){key:Value}{kl:Lit}(hkey:keyOf P K key=some kl)(ty:TypeId):
  ∃w',(Builtin.delete_ #[t,K] ty #[.map (some b),key]).run P w=.ok (.tuple #[]) w'/\bQ P w' K b n (rS g key none)/\Only (fun k=>k=b) w w':=by
 obtain⟨D,h,r⟩:=h;obtain⟨w',hrun,h1,h2⟩:=h.drop L ht hkey ty;refine⟨w',hrun,⟨_,h1,fun v l hl=>?_⟩,?_⟩
 ·by_cases e:v=key
  ·subst e;have:l=kl:=eE (hl.symm.x hkey);subst this;rw[mI];exact⟨has_del_same,fun z=>atKey_del_same _⟩
  ·have hne:l≠kl:=fun e1=>e (L.inj (by rw[<-e1];exact hl) hkey);rw[nQ _ _ e,has_del_other hne];exact⟨(r v l hl).1,fun z=>by rw[atKey_del_other hne];exact(r v l hl).2 z⟩
 ·exact(Only.of_grownBy h2.grown).m (fun i _ e=>by injection e with e;exact e.symm)
end
section
variable{P:Program}(w:World){ops:Array Oper}{rest:List Oper}{o:Oper}{a:Act}{Q:Exit->Act->World->Prop}
theorem eX(hg:o.guard=none)(m x:Operand)(t:TypeId)(hop:o.op=Op.lookup t m x true){K e:TypeId}(L:Keyed P K)(ht:P.underlying t=some (.map K e)){z:Value}(hz:(zeroValue e).run P w=.ok z w){b n:Nat}{g:Value->Option Value}
  (hm:a.eval m=.map (some b)) (hown:bQ P w K b n g) {key:Value} {kl:Lit} (hx:a.eval x=key) (hkey:keyOf P K key=some kl) (u:Value) (q:Bool) (hu:(g key).getD z=u) (hq:(g key).isSome=q)
  (hK:wpList P ops Q rest (a.put o.dst (.tuple #[u,.bool q])) w):wpList P ops Q (o::rest) a w:=by
 subst hu hq;refine wpList_plain hg fun K' hK'=>?_;have hrun:=hown.look_ok L ht hz hkey;unfold Oper.wp;simp[execOp,hop,hm,hx,hrun,Result.andThen];exact hK' _ _ hK
theorem rT(hg:o.guard=none)(m x v:Operand)(t:TypeId)(hop:o.op=Op.mapUpdate t m x v){K e:TypeId}(L:Keyed P K)(ht:P.underlying t=some (.map K e)){b n:Nat}{g:Value->Option Value}
  (hm:a.eval m=.map (some b)) (hown:bQ P w K b n g) (hn:n<maxLen) {key val:Value} {kl:Lit} (hx:a.eval x=key) (hv:a.eval v=val) (hkey:keyOf P K key=some kl)
  (hK: ∀w',bQ P w' K b (n+1) (rS g key (some val))->Only (fun k=>k=b) w w'->wpList P ops Q rest (a.put o.dst undef) w'):wpList P ops Q (o::rest) a w:=by
 refine wpList_plain hg fun K' hK'=>?_;obtain⟨w',hrun,r1,r2⟩:=hown.store L ht hn (val:=val) hkey;unfold Oper.wp;simp[execOp,hop,hm,hx,hv,hrun,Result.andThen];exact hK' _ _ (hK w' r1 r2)
end
theorem RU:Keyed prog 3:=int_keyed underlying3
theorem T7:keyOf prog 3 (.int .i64 0)=some (.int .i64 0):=keyOf_int_mk underlying3 (by decide)
end
section
open Go.RowKit Go.Maps Go.WideShapes
theorem yZ:Keyed prog 9:=string_keyed underlying9
theorem Gg{k:List UInt8}(h:k.length<=maxLen):keyOf prog 9 (.string ⟨k.toArray⟩)=some (.string k):=by
 have hsz:(⟨k.toArray⟩:ByteArray).size<=maxLen:=by simpa[ByteArray.size]using h
 simpa using WideMaps.keyOf_string_mk (P:=prog) underlying9 hsz
theorem Tryz.pd(w:World):(zeroValue 143).run prog w=.ok (.pointer none) w:=by kernel_rfl
end
section
open Go.RowKit Go.Maps Go.WideShapes
theorem Tryz.NH:laidOutB prog=true:=by kernel_rfl
theorem Tryz.Vu:(159:TypeId)<prog.types.size:=of_decide_eq_true (by kernel_rfl)
theorem Tryz.YO:(match prog.underlying 159 with|some (.array _ _)|some (.struct _)=>true|_=>false)=true:=by rw[underlying159]
theorem KV:Keyed prog 159:=Keyed.of_law (deep_law_laid Tryz.NH (m:=2) (by omega) Tryz.Vu (by kernel_rfl) Tryz.YO)
theorem Tryz.BU:prog.cellsOf 159=1:=by kernel_rfl
theorem Tryz.NI:prog.cellsOf 9=1:=by kernel_rfl
theorem Tryz.abd:prog.keyType 159=true:=by kernel_rfl
def DY(k:List UInt8):Value:=.agg #[.string ⟨k.toArray⟩]
def cX(k:List UInt8):Lit:=.string (keyBytes [.string k])
theorem DZ(w n:Nat):(bytesLE w n).length=w:=by
 induction w generalizing n with
 |zero=>rfl
 |succ w ih=>simp[bytesLE,ih]
theorem xJ{a b:List UInt8}(h:cX a=cX b):a=b:=by
 unfold cX keyBytes at h;simp[Lit.keyBytes]at h;have hl:(bytesBE 8 a.length).length=(bytesBE 8 b.length).length:=by simp[bytesBE,DZ]
 exact(List.append_inj h hl).2
theorem Ap{k:List UInt8}(h:k.length<=maxLen):keyOf prog 159 (DY k)=some (cX k):=by
 unfold keyOf DY;rw[underlying159];simp only;have hf:(Value.agg #[.string ⟨k.toArray⟩]).formed prog 159=true:=by simp[Value.formed,underlying159,Tryz.BU]
 have hsz:(⟨k.toArray⟩:ByteArray).size<=maxLen:=by simpa[ByteArray.size]using h
 rw[Tryz.abd,hf];obtain⟨d,hd⟩: ∃d,prog.types.size+1=d+1+1:=⟨prog.types.size-1,by have h1:(0:Nat)<prog.types.size:=Nat.lt_of_le_of_lt (dq _) Tryz.Vu;omega⟩;rw[hd];simp[Program.keyLits,underlying159,underlying9,Tryz.BU,Tryz.NI,Value.cells,cX,hsz]
theorem qw{v:Value}{kl:Lit}(h:keyOf prog 159 v=some kl): ∃k:List UInt8,v=DY k/\kl=cX k/\k.length<=maxLen:=by
 unfold keyOf at h;rw[underlying159]at h;simp only at h;split at h
 ·rename_i hc;simp only[lx]at hc;obtain⟨d,hd⟩: ∃d,prog.types.size+1=d+1+1:=⟨prog.types.size-1,by have h1:(0:Nat)<prog.types.size:=Nat.lt_of_le_of_lt (dq _) Tryz.Vu;omega⟩;rw[hd]at h
  obtain⟨cs,rfl⟩: ∃cs,v=.agg cs:=by
   have:=hc.2;unfold Value.formed at this;split at this
   ·exact⟨_,rfl⟩
   ·cases this
   ·rw[underlying159]at this;cases this
  have hs:cs.size=1:=by have:=hc.2;simpa[Value.formed,underlying159,Tryz.BU]using this
  obtain⟨cl⟩:=cs
  match cl,hs with
  |[c0],hs1=>
   simp[Program.keyLits,underlying159,underlying9,Tryz.BU,Tryz.NI,Value.cells]at h;clear hs1 hc hs;cases c0<;>simp at h;rename_i sb;by_cases hle:sb.size<=maxLen
   ·rw[fi hle]at h;simp at h;exact⟨sb.data.toList,rfl,h.symm,by rw[Array.length_toList];exact hle⟩
   ·rw[ff hle]at h;simp at h
 ·cases h
end
section
open Go.RowKit Go.Maps Go.WideShapes
theorem D2(x y:List UInt8):(Lit.string x).sameKey (.string y)=decide (x=y):=by
 by_cases h:x=y
 ·subst h;simp[Lit.sameKey]
 ·simp[Lit.sameKey,h]
def uZ(w:World)(b r n:Nat)(g:Value->Option Value)(ks:List (List UInt8)):Prop:=
 ∃(D:DataW Value) (left:Lit->Bool) (cnt:Nat),w.ranges prog 9 rR b r n D left cnt/\(∀v kl,keyOf prog 9 v=some kl->Maps.has D kl=(g v).isSome/\ ∀z,D.atKey kl (.held z)=.held ((g v).getD z))/\
  (∀k:List UInt8,k.length<=maxLen->(left (.string k)=true↔k∈ks))/\ks.Nodup/\ ∀k∈ks,k.length<=maxLen
theorem uZ.only{w w':World}{S:Nat->Prop}{b r n:Nat}{g:Value->Option Value}{ks:List (List UInt8)}(h:uZ w b r n g ks)(ho:Only S w w')(hb: ¬S b)(hr: ¬S r):uZ w' b r n g ks:=by obtain⟨D,left,cnt,⟨es,clock,since,seen,c0,h1,h2,h3,h4,h5,h6⟩,h7⟩:=h;exact⟨D,left,cnt,⟨es,clock,since,seen,c0,ho.heap h1 hb,h2,h3,h4,ho.heap h5 hr,h6⟩,h7⟩
theorem uZ.left{w w':World}{S:Nat->Prop}{b r n:Nat}{g:Value->Option Value}{ks:List (List UInt8)}(h:uZ w b r n g ks)(ho:Only S w w')(hb: ¬S b)(hr: ¬S r):w'.rangeLeft b r=w.rangeLeft b r:=by obtain⟨D,left,cnt,⟨es,clock,since,seen,c0,h1,h2,h3,h4,h5,h6⟩,h7⟩:=h;simp only[World.rangeLeft,h1,h5,ho.heap h1 hb,ho.heap h5 hr]
section
variable(w:World){ops:Array Oper}{rest:List Oper}{o:Oper}{a:Act}{Q:Exit->Act->World->Prop}
theorem pg(hg:o.guard=none)(m:Operand)(t:TypeId)(hop:o.op=Op.range t m){e:TypeId}(ht:prog.underlying t=some (.map 9 e)){b n:Nat}{g:Value->Option Value}(hm:a.eval m=.map (some b))
  (hown:bQ prog w 9 b n g) (ks:List (List UInt8)) (hks: ∀k:List UInt8,k.length<=maxLen->((g (.string ⟨k.toArray⟩)).isSome=true↔k∈ks)) (hnd:ks.Nodup) (hlen: ∀k∈ks,k.length<=maxLen)
  (hK: ∀w',uZ w' b w.heap.size n g ks->Below w.heap.size w w'->wpList prog ops Q rest (a.put o.dst (.pointer (some ⟨w.heap.size,0,none⟩))) w'):wpList prog ops Q (o::rest) a w:=by
 obtain⟨D,h,r⟩:=hown;refine wpList_range_own w hg m t hop 9 e yZ ht rR b n D hm h (fun w' h1 h2 h3=>hK w' ⟨D,_,_,h1,r,fun k hk=>?_,hnd,hlen⟩ ((aw _ _).grown h2 (aE _) (fun k hk=>by cases hk)));rw[(r _ _ (Gg hk)).1,hks k hk]
theorem qz(hg:o.guard=none)(it:Operand)(hop:o.op=Op.next it false){b r n:Nat}{g:Value->Option Value}{ks:List (List UInt8)}(hit:a.eval it=.pointer (some ⟨r,0,none⟩))(h:uZ w b r n g ks)
  (hDone:ks=[]->wpList prog ops Q rest (a.put o.dst (.tuple #[.bool false])) w)
  (hMore: ∀(l1 l2:List (List UInt8)) (k:List UInt8) (v:Value) (w':World),ks=l1++k::l2->g (.string ⟨k.toArray⟩)=some v->uZ w' b r n g (l1++l2)->w'.rangeLeft b r<w.rangeLeft b r->Only (fun j=>j=r) w w'->w'.heap.size=w.heap.size->
   (Instr.entry (.pointer (some ⟨r,0,none⟩))).run prog w'=.ok (.tuple #[.string ⟨k.toArray⟩,v]) w'->wpList prog ops Q rest (a.put o.dst (.tuple #[.bool true,.string ⟨k.toArray⟩,v])) w'):wpList prog ops Q (o::rest) a w:=by
 obtain⟨D,left,cnt,h1,h2,h3,h4,h5⟩:=h;refine wpList_next_ranges w hg it hop 9 yZ rR (fun x:List UInt8=>.string ⟨x.toArray⟩) (fun v:Value=>v) (fun key kl hk=>?_) (fun v y _=>⟨v,rfl⟩) b r n D left cnt hit h1 (fun _ hl=>hDone ?_) ?_
 ·obtain⟨s,rfl,_⟩:=Maps.keyOf_string_inv underlying9 hk;exact⟨s.data.toList,by simp⟩
 ·cases ks with
  |nil=>rfl
  |cons k ks=>have:=(h3 k (h5 k (by simp))).2 (by simp);rw[hl]at this;cases this
 ·intro k v kl y w' cnt' hkey hlk hv hat hrg hlt hgr hsz hen
  have hkl:k.length<=maxLen:=by obtain⟨s,e,-,hs⟩:=WideMaps.string_of_keyOf underlying9 hkey;injection e with e;subst e;have:k.toArray.size<=maxLen:=hs;simpa using this
  obtain rfl:=eE ((Gg hkl).symm.x hkey);have hmem:=(h3 k hkl).1 hlk;obtain⟨l1,l2,hks⟩:=List.append_of_mem hmem
  have hg1:g (.string ⟨k.toArray⟩)=some v:=by
   unfold rR at hv;injection hv with hv;have e0:=hat (.held (.bool true));have e1:=hat (.held (.bool false));rw[(h2 _ _ hkey).2,<-hv]at e0 e1;injection e0 with e0;injection e1 with e1
   cases Me:g (.string ⟨k.toArray⟩)with
   |none=>rw[Me]at e0 e1;simp at e0 e1;rw[<-e0]at e1;cases e1
   |some u=>rw[Me]at e0;simpa using e0
  have kJ:k∉l1++l2:=by
   rw[hks]at h4;intro hk;rw[List.nodup_append]at h4;rcases dy.1 hk with hk|hk
   ·exact h4.2.2 k hk k (by simp) rfl
   ·exact(List.nodup_cons.1 h4.2.1).1 hk
  refine hMore l1 l2 k v w' hks hg1 ⟨D,_,cnt',hrg,h2,fun x hx=>?_,?_,fun x hx=>h5 x (by rw[hks];rcases dy.1 hx with hx|hx<;>simp[hx])⟩ (by rw[hrg.left_eq,h1.left_eq];exact hlt) ((Only.of_grownBy hgr).m (fun i _ e=>by injection e with e;exact e.symm)) hsz hen
  ·rw[lx,h3 x hx,hks,D2];by_cases e:x=k
   ·subst e;simp at kJ⊢;exact kJ
   ·simp[e]
  ·rw[hks]at h4;exact h4.sublist (by simp)
end
end
end Go.Proofs.YtmkofmeojbcakaaGreatDoor
