import Derived.Test.YtehccbdajiiaaaaGreatDoorS24
import Derived.Test.YtehccbdajiiaaaaGreatDoorRows
import Derived.ProofKit
import Derived.Deep.Matrix
import Derived.ChangeSame
import Derived.OpenShut
import Derived.Deep.Slices
import Derived.Deep.Fields
namespace Go.Proofs.YtehccbdajiiaaaaGreatDoor
open Go.Proofs.Tryz
set_option maxRecDepth 100000
open Go.RowKit
section
open Go.ChangeShapes Go.WideShapes Go.ChangeAt Go.RowKit Go.Deep
section
variable{H:Type}{enc:TypeId×Value->H}{P:Program}
theorem Av{h:Func}{s:ChangeSpec}{i q o r:Bool}{W c:World}{args:Array Value}{v:Value}{e d:List (DataW H)}{b pa pv:List MemPlace}
  (g:DataW.Whole enc P h.params.toList s.vars i W args.toList e d b)
  (l: ∀(n:Nat) (a:Nat->Bool) (f:Bool),DataW.TrodAll enc P c n a f h.resultTypes.toList (v.resultList h.resultTypes.size) (s.fn H (e++d)).results [])
  (k: ∀a:Nat->Bool,(∀p∈b,a p.block=true)->DataW.TrodAll enc P c 0 a true h.params.toList args.toList (s.fn H (e++d)).args pa)
  (j: ∀a:Nat->Bool,(∀p∈b,a p.block=true)->DataW.TrodVars enc P c a s.vars (s.fn H (e++d)).vars pv)
  (f:b=pa++pv) (m:Below W.heap.size W c)
  (t: ∀(a:Nat) (u:TypeId) (w:Value),h.resultTypes[a]?=some u->(v.resultList h.resultTypes.size)[a]?=some w->Value.okWide P c .any 0 u w):
  s.post enc P h i q o r W args v c:=by
 have h: ∀p∈b,p.block<W.heap.size:=fun p a=>g.lt p a;have c: ∀p∈b,(fun n=>decide (n<W.heap.size)) p.block=true:=fun p a=>by simpa using h p a
 refine⟨e,d,b,[],pa,pv,g,l _ _ _,k _ c,j _ c,World.keptBut_mono (fun p a=>⟨a,?_⟩) (m.frame (· ∈b)),fun _=>?_⟩
 ·rw[f,List.mem_append]at a;exact Or.inr a
 ·obtain⟨_,_,_,_,_,i,e⟩:=g;refine⟨t,_,_,([]++pa)++pv,⟨[]++pa,pv,trodAll_append (k _ (fun _ _=>rfl)) (l _ _ _),j _ (fun _ _=>rfl),rfl,?_,?_⟩,?_⟩
  ·intro n c a;have d:MemPlace.cell n c∈b:=by rw[f];simpa using a
   rw[m.frozen (h _ d)];exact i n c d
  ·intro b;have:=e b;rw[f]at this;simpa using this
  ·intro p a _;rw[f];simpa using a
end
theorem qI{H:Type}{enc:TypeId×Value->H}{P:Program}(e:laidOutB P=true){W d:World}{c:Nat->Bool}:
  ∀{b:List TypeId} {g:List Value} {f:List (DataW H)} {a:List MemPlace},(∀t∈b,P.readableRec t=true/\t<P.types.size)->
   DataW.TrodAll enc P W 0 (fun _=>true) true b g f a->(∀p∈a,W.sameAt d p)->(∀p∈a,c p.block=true)->DataW.TrodAll enc P d 0 c true b g f a
 |[],_,_,_,_,h,_,_=>by obtain⟨rfl,rfl,rfl⟩:=trodAll_nil h;exact rfl
 |t::b,_,_,_,hr,h,hsame,hs=>by obtain⟨v,c,i,d,g,f,rfl,rfl,rfl,a,b⟩:=trodAll_cons h;refine⟨g,f,WideElems.Trod_stays e (hr t (by simp)).1 (hr t (by simp)).2 a (fun p a=>hsame p (by simp[a])) (fun p a=>hs p (by simp[a])),?_,rfl⟩;exact qI e (fun u c=>hr u (by simp[c])) b (fun p a=>hsame p (by simp[a])) (fun p a=>hs p (by simp[a]))
theorem Tryz.own:ownKnob prog.godebug=none:=by kernel_rfl
theorem Tryz.laidOut:laidOutB prog=true:=by kernel_rfl
theorem sG{a:Addr}{w:World}{v:Value}(h:w.cell? a=some v):a=⟨a.block,a.off,none⟩:=by
 obtain⟨c,o,s⟩:=a;unfold World.cell? at h;split at h
 ·split at h
  ·cases h
  ·rename_i b;simp at b;simp[b]
 ·cases h
end
section
open Go.ChangeShapes Go.WideShapes Go.ChangeAt Go.RowKit Go.Deep
theorem Jq{n:Int}(h:(Lit.int .u8 n).wf=true):Value.int .u8 n=B8 (UInt8.ofNat n.toNat):=by have a:=bounds_u8 h;simp[B8];omega
theorem sH{H:Type}{enc:TypeId×Value->H}{W:World}{v:Value}{d:DataW H}{p:List MemPlace}{base:Nat}(a:Value.okWide prog W .any base 22 v)
  (h:DataW.Trod enc prog W 0 (fun _=>true) true 22 v d p): ∃b,cg W (fun _=>True) v b:=by
 obtain⟨b,c,e,rfl⟩:=okWide_slice underlying22 a;obtain⟨b,a⟩:=h;rcases open_int_rows underlying22 underlying53 underlying5 (by kernel_rfl) (by kernel_rfl) a with⟨a,f⟩|⟨b,j,k,A,L,C,Z,a,l,i,h,f,g⟩
 ·simp[Value.cells]at a;obtain⟨rfl,rfl,rfl⟩:=a;exact⟨[],cg.nil _ _⟩
 ·simp[Value.cells]at a;obtain⟨rfl,rfl,rfl⟩:=a;refine⟨(List.range c).map fun r=>((Z r).map fun s=>UInt8.ofNat s.toNat).take (L r),(List.range c).map fun r=>.slice (A r) (L r) (C r),⟨some b,c,e,rfl,by simp,i,h,fun q=>?_⟩,by simp,fun i e a=>?_⟩
  ·have e:=(g 0 (by omega)).1
   have f:b=⟨b.block,b.off,none⟩:=by
    have:b.add 0=b:=by simp[Addr.add]
    rw[this]at e;exact sG e
   refine⟨b.block,b.off,by rw[<-f],trivial,fun j u b=>?_⟩;have h:j<c:=by have:=(aw.1 b).1;simpa using this
   simp[h]at b;subst b;have:=(g j (by omega)).1;rw[f]at this;unfold Addr.add at this;split at this
   ·subst_vars;simpa using this
   ·simpa using this
  ·have k:i<c:=by have:=(aw.1 a).1;simpa using this
   simp[k]at a;subst a;obtain⟨_,o,l,a,n,c,m⟩:=g i (by omega);have a:(((Z i).map fun s=>UInt8.ofNat s.toNat).take (L i)).length=L i:=by simp;omega
   refine⟨A i,C i,by rw[a];simp[k],?_⟩;rw[a];refine⟨A i,L i,C i,rfl,by simp;omega,o,l,fun q=>?_⟩
   cases hA:A i with
   |none=>have:=c hA;omega
   |some a=>
    obtain⟨_,g⟩:=m a hA
    have f:a=⟨a.block,a.off,none⟩:=by
     have e:=g 0 (by omega);have:a.add 0=a:=by simp[Addr.add]
     rw[this]at e;exact sG e
    refine⟨a.block,a.off,by rw[<-f],trivial,fun j u b=>?_⟩;have h:j<L i:=by have:=(aw.1 b).1;simp at this;omega
    have c:j<(Z i).length:=by omega
    simp[h,c]at b;subst b;have a:=g j (by omega);have b:=n ((Z i)[j]) (List.getElem_mem c);rw[<-Jq b];rw[f]at a;unfold Addr.add at a;split at a
    ·subst_vars;simpa[c]using a
    ·simpa[c]using a
end
section
open Go.ChangeShapes Go.WideShapes Go.ChangeAt Go.RowKit Go.Deep
theorem Tryz.Du:prog.cellsOf 3=1:=by kernel_rfl
theorem Tryz.QX:prog.cellsOf 24=3:=by kernel_rfl
def Nh(n:Int):Prop:= -9223372036854775808<=n/\n<=9223372036854775807
theorem F8{H:Type}{enc:TypeId×Value->H}{W:World}{base:Nat}{sp:Nat->Bool}{hd:Bool}{fuel:Nat}{cs:List Value}{x:DataW H×List MemPlace}(h:DataW.trod enc prog W base sp hd fuel 24 cs=some x):
  ∃a b c:Int,cs=[rm a,rm b,rm c]/\Nh a/\Nh b/\Nh c:=by
 obtain⟨xs,n,_,_,hlen,hxl,hf⟩:=DataW.trod_struct underlying24 h;rw[Tryz.QX]at hlen
 match cs,hlen with
 |[v0,v1,v2],_=>have hx: ∀i,i<3-> ∃y,xs[i]?=some y:=fun i hi=>⟨_,ao (by rw[hxl];exact hi)⟩;obtain⟨y0,e0⟩:=hx 0 (by decide);obtain⟨y1,e1⟩:=hx 1 (by decide);obtain⟨y2,e2⟩:=hx 2 (by decide);have f0:=hf 0 _ rfl;rw[e0]at f0;change DataW.trod enc prog W base sp hd n 3 (List.take (prog.cellsOf 3) (List.drop 0 [v0,v1,v2]))=_ at f0;rw[Tryz.Du]at f0;have f1:=hf 1 _ rfl;rw[e1]at f1;change DataW.trod enc prog W base sp hd n 3 (List.take (prog.cellsOf 3) (List.drop 1 [v0,v1,v2]))=_ at f1;rw[Tryz.Du]at f1;have f2:=hf 2 _ rfl;rw[e2]at f2;change DataW.trod enc prog W base sp hd n 3 (List.take (prog.cellsOf 3) (List.drop 2 [v0,v1,v2]))=_ at f2;rw[Tryz.Du]at f2;obtain⟨n0,h0,_,w0⟩:=DataW.trod_int underlying3 f0;obtain⟨n1,h1,_,w1⟩:=DataW.trod_int underlying3 f1;obtain⟨n2,h2,_,w2⟩:=DataW.trod_int underlying3 f2;simp at h0 h1 h2;subst h0 h1 h2;exact⟨n0,n1,n2,rfl,bounds_i64 w0,bounds_i64 w1,bounds_i64 w2⟩
theorem F9{H:Type}{enc:TypeId×Value->H}{W:World}{v:Value}{d:DataW H}{p:List MemPlace}{base:Nat}(hval:Value.okWide prog W .any base 24 v)
  (h:DataW.Trod enc prog W 0 (fun _=>true) true 24 v d p): ∃a b c,v=gX a b c/\Nh a/\Nh b/\Nh c:=by
 obtain⟨cs,rfl,hs⟩:=okWide_struct underlying24 hval;obtain⟨fuel,hf⟩:=h;obtain⟨a,b,c,h2,h3⟩:=F8 hf;refine⟨a,b,c,?_,h3⟩;obtain⟨cl⟩:=cs;have:cl=[rm a,rm b,rm c]:=by simpa[Value.cells]using h2
 rw[this];rfl
end
end Go.Proofs.YtehccbdajiiaaaaGreatDoor
