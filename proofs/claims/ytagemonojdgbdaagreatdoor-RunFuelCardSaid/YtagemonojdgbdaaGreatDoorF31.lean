import Derived.Test.YtagemonojdgbdaaGreatDoorF21
import Derived.Maps.OwnSet
import Derived.Maps.OwnOps
import Derived.DeepKeys4
import Derived.Deep.RegionHeld3
import Derived.StillTailTactics
import Derived.StringKeys
import Derived.Maps.RangeWalk
import Derived.Sort.MapsRangeIn
namespace Go.Proofs.YtagemonojdgbdaaGreatDoor
set_option maxRecDepth 100000
set_option maxHeartbeats 16000000
open Go.RowKit
section
open Go.RowKit Go.Maps Go.WideShapes
def sw(v:Value):Option (DataW Value×List MemPlace):=some (.held v,[])
noncomputable def zR(g:Value->Option Value)(k:Value)(d:Option Value):Value->Option Value:=fun x=> @ite _ (x=k) (Classical.propDecidable _) d (g x)
theorem yz(g:Value->Option Value)(k:Value)(d:Option Value):zR g k d k=d:=by unfold zR;exact @if_pos _ (Classical.propDecidable _) rfl _ _ _
theorem uX(g:Value->Option Value){k x:Value}(d:Option Value)(h:x≠k):zR g k d x=g x:=by unfold zR;exact @if_neg _ (Classical.propDecidable _) h _ _ _
def dM(P:Program)(w:World)(K:TypeId)(b n:Nat)(g:Value->Option Value):Prop:=
 ∃D:DataW Value,w.ownsMap P K sw b n D/\ ∀v kl,keyOf P K v=some kl->Maps.has D kl=(g v).isSome/\ ∀z,D.atKey kl (.held z)=.held ((g v).getD z)
section
variable{P:Program}{w w':World}{K:TypeId}{b n:Nat}{g:Value->Option Value}
theorem dM.lt(h:dM P w K b n g):b<w.heap.size:=by obtain⟨D,h,_⟩:=h;exact h.lt
theorem dM.made(P:Program)(w:World)(K:TypeId):dM P (w.alloc (.map #[] 0)) K w.heap.size 0 (fun _=>none):=
 ⟨_,World.ownsMap_made _ _ _ _,fun _ _ _=>⟨rfl,fun _=>rfl⟩⟩
theorem dM.same(h:dM P w K b n g)(hb:w'.heap[b]?=w.heap[b]?):dM P w' K b n g:=by obtain⟨D,⟨es,clock,h1,r1⟩,r⟩:=h;exact⟨D,⟨es,clock,hb.trans h1,r1⟩,r⟩
theorem dM.only{S:Nat->Prop}(h:dM P w K b n g)(ho:Only S w w')(hS: ¬S b):dM P w' K b n g:=h.same (ho.block b h.lt hS)
theorem dM.below(h:dM P w K b n g)(ho:Below w.heap.size w w'):dM P w' K b n g:=h.same (ho.block b h.lt)
theorem dM.look_ok(h:dM P w K b n g)(L:Keyed P K){t e:TypeId}(ht:P.underlying t=some (.map K e)){z:Value}(hz:(zeroValue e).run P w=.ok z w){key:Value}{kl:Lit}(hkey:keyOf P K key=some kl):
  (Instr.lookup t (.map (some b)) key true).run P w=.ok (.tuple #[(g key).getD z,.bool (g key).isSome]) w:=by
 obtain⟨D,h,r⟩:=h;obtain⟨v,ps,hrun,hv⟩:=h.look_ok L ht hz (show sw z=some (.held z,[])from rfl) hkey;rw[(r key kl hkey).2 z]at hv;unfold sw at hv;injection hv with hv;injection hv with hv;injection hv with hv;rw[hrun,hv,(r key kl hkey).1]
end
section
variable{P:Program}(w:World){ops:Array Oper}{rest:List Oper}{o:Oper}{a:Act}{Q:Exit->Act->World->Prop}
theorem ek(hg:o.guard=none)(m x:Operand)(t:TypeId)(hop:o.op=Op.lookup t m x true){K e:TypeId}(L:Keyed P K)(ht:P.underlying t=some (.map K e)){z:Value}(hz:(zeroValue e).run P w=.ok z w){b n:Nat}{g:Value->Option Value}
  (hm:a.eval m=.map (some b)) (hown:dM P w K b n g) {key:Value} {kl:Lit} (hx:a.eval x=key) (hkey:keyOf P K key=some kl) (u:Value) (q:Bool) (hu:(g key).getD z=u) (hq:(g key).isSome=q)
  (hK:wpList P ops Q rest (a.put o.dst (.tuple #[u,.bool q])) w):wpList P ops Q (o::rest) a w:=by
 subst hu hq;refine wpList_plain hg fun K' hK'=>?_;have hrun:=hown.look_ok L ht hz hkey;unfold Oper.wp;simp[execOp,hop,hm,hx,hrun,Result.andThen];exact hK' _ _ hK
end
end
section
open Go.RowKit Go.Maps Go.WideShapes
theorem uY:Keyed Tryz.prog 9:=string_keyed Tryz.underlying9
theorem CL{k:List UInt8}(h:k.length<=maxLen):keyOf Tryz.prog 9 (.string ⟨k.toArray⟩)=some (.string k):=by
 have hsz:(⟨k.toArray⟩:ByteArray).size<=maxLen:=by simpa[ByteArray.size]using h
 simpa using WideMaps.keyOf_string_mk (P:=Tryz.prog) Tryz.underlying9 hsz
theorem Tryz.lL(w:World):(zeroValue 155).run Tryz.prog w=.ok (.pointer none) w:=by kernel_rfl
def CM(w:World)(B T:Nat)(most n:Int)(L:Nat):Prop:=
 ∃m,w.heap[B]?=some (.cells #[.pointer (some ⟨T,0,none⟩),.map (some m)] 109 (0,0))/\dM Tryz.prog w 9 m 0 (fun _=>none)/\l8 w T most n L
theorem CM.below{w w':World}{B T L:Nat}{most n:Int}(h:CM w B T most n L)(hb:Below w.heap.size w w'):CM w' B T most n L:=by obtain⟨m,h1,h2,h3⟩:=h;exact⟨m,pw hb h1,h2.below hb,h3.below hb⟩
theorem Ja(w:World)(T L:Nat)(most n:Int)(h:l8 w T most n L):Calls Tryz.prog 8 #[.pointer (some ⟨T,0,none⟩)] w fun e w'=>
  ∃B,e=.returned (.tuple #[.pointer (some ⟨B,0,none⟩),.int .i64 0])/\w.heap.size<=B/\CM w' B T most n L/\Below w.heap.size w w':=by
 have hmm:= @run_makeMap Tryz.prog;have hm:=dM.made Tryz.prog w 9;have hb:=af w (.map #[] 0);have hb2:=af (w.alloc (.map #[] 0)) (.cells #[.pointer (some ⟨T,0,none⟩),.map (some w.heap.size)] 109);have k2:=an (w.alloc (.map #[] 0)) (.cells #[.pointer (some ⟨T,0,none⟩),.map (some w.heap.size)] 109)
 have H:=al (show ∃B,B=w.heap.size+1/\w.heap.size<=B/\CM ((w.alloc (.map #[] 0)).alloc (.cells #[.pointer (some ⟨T,0,none⟩),.map (some w.heap.size)] 109)) B T most n L/\Below w.heap.size w ((w.alloc (.map #[] 0)).alloc (.cells #[.pointer (some ⟨T,0,none⟩),.map (some w.heap.size)] 109))from
  ⟨_,rfl,by omega,⟨w.heap.size,by simpa using k2,hm.below hb2,(h.below hb).below hb2⟩,hb.trans (hb2.mono (by simp))⟩)
 clear h hm hb hb2 k2;go_enter Tryz.func8,Tryz.ntmps8;go_wp2_with fail
 go_ret2
 obtain⟨B,e,h3,h4,h5⟩:=H.out;subst e;exact⟨_,rfl,h3,h4,h5⟩
theorem ES(w:World)(B T L:Nat)(most n:Int)(k:List UInt8)(hs1:1<=k.length)(hs2:k.length<=16)(h:CM w B T most n L):Calls Tryz.prog 38 #[.pointer (some ⟨B,0,none⟩),.string ⟨k.toArray⟩] w fun e w'=>e=.returned (.tuple #[zE,.int .i64 14])/\Below w.heap.size w w':=by
 have hb0:=af w (.cells #[.int .i64 0,.int .i64 0,.int .i64 0,.int .i64 0] 26);have k0:=an w (.cells #[.int .i64 0,.int .i64 0,.int .i64 0,.int .i64 0] 26);have h1:=h.below hb0;go_enter Tryz.func38,Tryz.ntmps38;go_upto_region 1 with fail;generalize w.alloc (.cells #[.int .i64 0,.int .i64 0,.int .i64 0,.int .i64 0] 26)=w1 at hb0 k0 h1⊢;obtain⟨R,hR⟩: ∃x,w.heap.size=x:=⟨_,rfl⟩;rw[hR]at k0⊢;have HR:=al (ab hR (ab hb0 k0));obtain⟨m,g1,g2,g3⟩:=h1;have d0:w1.cell? ⟨B,0,none⟩=some (.pointer (some ⟨T,0,none⟩)):=by simp[World.cell?,g1]
 have d1:w1.cell? ⟨B,1,none⟩=some (.map (some m)):=by simp[World.cell?,g1]
 have EI:cQ k=0:=by unfold cQ;rw[ff (by omega)]
 have HC:=al (dm w1 k);have HT:=al (ab (zF w1 T L most n ⟨k.toArray⟩ (by simpa[ByteArray.size]using hs1) (by simpa[ByteArray.size]using hs2) g3) (ab g2 (CL (k:=k) (by simp[maxLen];omega))));rw[EI]at HC;clear h hb0 k0 hR hs1 hs2 g1 g2 g3 EI;go_wp2_with fail;refine HC.out.mono ?_;rintro e w2 ⟨rfl,rfl⟩;go_wp2_with (first|(at_lookup;go_loud (refine ek _ rfl _ _ 107 rfl uY Tryz.underlying107 (Tryz.lL _) rfl HT.out.2.1 rfl HT.out.2.2 _ false rfl rfl ?_))|fail);refine HT.out.1.mono ?_;rintro e w3 ⟨rfl,hb⟩;have k3:=pw hb HR.out.2.2;have HB:=al (ab hb k3);have z0:w3.cell? ⟨R,0,none⟩=some (.int .i64 0):=by simp[World.cell?,k3]
 have z1:w3.cell? ⟨R,1,none⟩=some (.int .i64 0):=by simp[World.cell?,k3]
 have z2:w3.cell? ⟨R,2,none⟩=some (.int .i64 0):=by simp[World.cell?,k3]
 have z3:w3.cell? ⟨R,3,none⟩=some (.int .i64 0):=by simp[World.cell?,k3]
 have y0:w3.frozen? ⟨R,0,none⟩=false:=by simp[World.frozen?,k3]
 have y1:w3.frozen? ⟨R,1,none⟩=false:=by simp[World.frozen?,k3]
 have y2:w3.frozen? ⟨R,2,none⟩=false:=by simp[World.frozen?,k3]
 have y3:w3.frozen? ⟨R,3,none⟩=false:=by simp[World.frozen?,k3]
 clear hb k3;unfold zE;go_wp2_with fail;have hp:=rU (v0:=.int .i64 0) (v1:=.int .i64 0) (v2:=.int .i64 0) (v3:=.int .i64 0) HB.out.2;have dU:Below w.heap.size w w3:=HR.out.2.1.trans (HB.out.1.mono HR.out.2.1.size);have vV:w.heap.size<=R:=Nat.le_of_eq HR.out.1;exact dq (aC rfl _ _ _ _ _ _ _ rfl hp Tryz.underlying26 rfl (by kernel_rfl)) rfl ⟨rfl,(((dU.setCell (p:=⟨R,0,none⟩) vV _).setCell (p:=⟨R,1,none⟩) vV _).setCell (p:=⟨R,2,none⟩) vV _).setCell (p:=⟨R,3,none⟩) vV _⟩
end
section
open Go.RowKit Go.Maps Go.WideShapes
theorem CN(x y:List UInt8):(Lit.string x).sameKey (.string y)=decide (x=y):=by
 by_cases h:x=y
 ·subst h;simp[Lit.sameKey]
 ·simp[Lit.sameKey,h]
def sK(w:World)(b r n:Nat)(g:Value->Option Value)(ks:List (List UInt8)):Prop:=
 ∃(D:DataW Value) (left:Lit->Bool) (cnt:Nat),w.ranges Tryz.prog 9 sw b r n D left cnt/\(∀v kl,keyOf Tryz.prog 9 v=some kl->Maps.has D kl=(g v).isSome/\ ∀z,D.atKey kl (.held z)=.held ((g v).getD z))/\
  (∀k:List UInt8,k.length<=maxLen->(left (.string k)=true↔k∈ks))/\ks.Nodup/\ ∀k∈ks,k.length<=maxLen
theorem sK.only{w w':World}{S:Nat->Prop}{b r n:Nat}{g:Value->Option Value}{ks:List (List UInt8)}(h:sK w b r n g ks)(ho:Only S w w')(hb: ¬S b)(hr: ¬S r):sK w' b r n g ks:=by obtain⟨D,left,cnt,⟨es,clock,since,seen,c0,h1,h2,h3,h4,h5,h6⟩,h7⟩:=h;exact⟨D,left,cnt,⟨es,clock,since,seen,c0,ho.heap h1 hb,h2,h3,h4,ho.heap h5 hr,h6⟩,h7⟩
theorem sK.left{w w':World}{S:Nat->Prop}{b r n:Nat}{g:Value->Option Value}{ks:List (List UInt8)}(h:sK w b r n g ks)(ho:Only S w w')(hb: ¬S b)(hr: ¬S r):w'.rangeLeft b r=w.rangeLeft b r:=by obtain⟨D,left,cnt,⟨es,clock,since,seen,c0,h1,h2,h3,h4,h5,h6⟩,h7⟩:=h;simp only[World.rangeLeft,h1,h5,ho.heap h1 hb,ho.heap h5 hr]
section
variable(w:World){ops:Array Oper}{rest:List Oper}{o:Oper}{a:Act}{Q:Exit->Act->World->Prop}
theorem nz(hg:o.guard=none)(m:Operand)(t:TypeId)(hop:o.op=Op.range t m){e:TypeId}(ht:Tryz.prog.underlying t=some (.map 9 e)){b n:Nat}{g:Value->Option Value}(hm:a.eval m=.map (some b))
  (hown:dM Tryz.prog w 9 b n g) (ks:List (List UInt8)) (hks: ∀k:List UInt8,k.length<=maxLen->((g (.string ⟨k.toArray⟩)).isSome=true↔k∈ks)) (hnd:ks.Nodup) (hlen: ∀k∈ks,k.length<=maxLen)
  (hK: ∀w',sK w' b w.heap.size n g ks->Below w.heap.size w w'->wpList Tryz.prog ops Q rest (a.put o.dst (.pointer (some ⟨w.heap.size,0,none⟩))) w'):wpList Tryz.prog ops Q (o::rest) a w:=by
 obtain⟨D,h,r⟩:=hown;refine wpList_range_own w hg m t hop 9 e uY ht sw b n D hm h (fun w' h1 h2 h3=>hK w' ⟨D,_,_,h1,r,fun k hk=>?_,hnd,hlen⟩ ((aw _ _).grown h2 (aq _) (fun k hk=>by cases hk)));rw[(r _ _ (CL hk)).1,hks k hk]
theorem pj(hg:o.guard=none)(it:Operand)(hop:o.op=Op.next it false){b r n:Nat}{g:Value->Option Value}{ks:List (List UInt8)}(hit:a.eval it=.pointer (some ⟨r,0,none⟩))(h:sK w b r n g ks)
  (hDone:ks=[]->wpList Tryz.prog ops Q rest (a.put o.dst (.tuple #[.bool false])) w)
  (hMore: ∀(l1 l2:List (List UInt8)) (k:List UInt8) (v:Value) (w':World),ks=l1++k::l2->g (.string ⟨k.toArray⟩)=some v->sK w' b r n g (l1++l2)->w'.rangeLeft b r<w.rangeLeft b r->Only (fun j=>j=r) w w'->w'.heap.size=w.heap.size->
   (Instr.entry (.pointer (some ⟨r,0,none⟩))).run Tryz.prog w'=.ok (.tuple #[.string ⟨k.toArray⟩,v]) w'->wpList Tryz.prog ops Q rest (a.put o.dst (.tuple #[.bool true,.string ⟨k.toArray⟩,v])) w'):wpList Tryz.prog ops Q (o::rest) a w:=by
 obtain⟨D,left,cnt,h1,h2,h3,h4,h5⟩:=h;refine wpList_next_ranges w hg it hop 9 uY sw (fun x:List UInt8=>.string ⟨x.toArray⟩) (fun v:Value=>v) (fun key kl hk=>?_) (fun v y _=>⟨v,rfl⟩) b r n D left cnt hit h1 (fun _ hl=>hDone ?_) ?_
 ·obtain⟨s,rfl,_⟩:=Maps.keyOf_string_inv Tryz.underlying9 hk;exact⟨s.data.toList,by simp⟩
 ·cases ks with
  |nil=>rfl
  |cons k ks=>have:=(h3 k (h5 k (by simp))).2 (by simp);rw[hl]at this;cases this
 ·intro k v kl y w' cnt' hkey hlk hv hat hrg hlt hgr hsz hen
  have hkl:k.length<=maxLen:=by obtain⟨s,e,-,hs⟩:=WideMaps.string_of_keyOf Tryz.underlying9 hkey;injection e with e;subst e;have:k.toArray.size<=maxLen:=hs;simpa using this
  obtain rfl:=e7 ((CL hkl).symm.trans hkey);have hmem:=(h3 k hkl).1 hlk;obtain⟨l1,l2,hks⟩:=List.append_of_mem hmem
  have hg1:g (.string ⟨k.toArray⟩)=some v:=by
   unfold sw at hv;injection hv with hv;have e0:=hat (.held (.bool true));have e1:=hat (.held (.bool false));rw[(h2 _ _ hkey).2,<-hv]at e0 e1;injection e0 with e0;injection e1 with e1
   cases JL:g (.string ⟨k.toArray⟩)with
   |none=>rw[JL]at e0 e1;simp at e0 e1;rw[<-e0]at e1;cases e1
   |some u=>rw[JL]at e0;simpa using e0
  have jP:k∉l1++l2:=by
   rw[hks]at h4;intro hk;rw[List.nodup_append]at h4;rcases dy.1 hk with hk|hk
   ·exact h4.2.2 k hk k (by simp) rfl
   ·exact(List.nodup_cons.1 h4.2.1).1 hk
  refine hMore l1 l2 k v w' hks hg1 ⟨D,_,cnt',hrg,h2,fun x hx=>?_,?_,fun x hx=>h5 x (by rw[hks];rcases dy.1 hx with hx|hx<;>simp[hx])⟩ (by rw[hrg.left_eq,h1.left_eq];exact hlt) ((Only.of_grownBy hgr).mono (fun i _ e=>by injection e with e;exact e.symm)) hsz hen
  ·rw[mT,h3 x hx,hks,CN];by_cases e:x=k
   ·subst e;simp at jP⊢;exact jP
   ·simp[e]
  ·rw[hks]at h4;exact h4.sublist (by simp)
end
end
end Go.Proofs.YtagemonojdgbdaaGreatDoor
