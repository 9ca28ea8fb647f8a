import Derived.Test.YtehccbdajiiaaaaGreatDoorP28
import Derived.Test.YtehccbdajiiaaaaGreatDoorRows
import Derived.ProofKit
import Derived.Deep.Matrix
import Derived.ChangeSame
import Derived.OpenShut
import Derived.LaidMore
import Derived.MakeChecks
import Derived.Stop.Joined
import Derived.SevenTiedAt
namespace Go.Proofs.YtehccbdajiiaaaaGreatDoor
open Go.Proofs.Tryz
set_option maxRecDepth 100000
open Go.RowKit
section
open Go.ChangeShapes Go.WideShapes Go.ChangeAt Go.RowKit Go.Deep
section
variable{H:Type}{enc:TypeId×Value->H}{P:Program}
theorem ze{f:Func}{s:ChangeSpec}{k x u w:Bool}{W c:World}{args:Array Value}{v:Value}{d e:List (DataW H)}{b pa pv:List MemPlace}
  (h:DataW.Whole enc P f.params.toList s.vars k W args.toList d e b)
  (m: ∀(t:Nat) (a:Nat->Bool) (g:Bool),DataW.TrodAll enc P c t a g f.resultTypes.toList (v.resultList f.resultTypes.size) (s.fn H (d++e)).results [])
  (i: ∀a:Nat->Bool,(∀p∈b,a p.block=true)->DataW.TrodAll enc P c 0 a true f.params.toList args.toList (s.fn H (d++e)).args pa)
  (j: ∀a:Nat->Bool,(∀p∈b,a p.block=true)->DataW.TrodVars enc P c a s.vars (s.fn H (d++e)).vars pv)
  (g:b=pa++pv) (r:Below W.heap.size W c)
  (y: ∀(n:Nat) (a:TypeId) (l:Value),f.resultTypes[n]?=some a->(v.resultList f.resultTypes.size)[n]?=some l->Value.okWide P c .any 0 a l):
  s.post enc P f k x u w W args v c:=by
 have q: ∀p∈b,p.block<W.heap.size:=fun p a=>h.lt p a;have l: ∀p∈b,(fun t=>decide (t<W.heap.size)) p.block=true:=fun p a=>by simpa using q p a
 refine⟨d,e,b,[],pa,pv,h,m _ _ _,i _ l,j _ l,World.keptBut_mono (fun p a=>⟨a,?_⟩) (r.frame (· ∈b)),fun _=>?_⟩
 ·rw[g,List.mem_append]at a;exact Or.inr a
 ·obtain⟨_,_,_,_,_,z,A⟩:=h;refine⟨y,_,_,([]++pa)++pv,⟨[]++pa,pv,trodAll_append (i _ (fun _ _=>rfl)) (m _ _ _),j _ (fun _ _=>rfl),rfl,?_,?_⟩,?_⟩
  ·intro t o a;have n:MemPlace.cell t o∈b:=by rw[g];simpa using a
   rw[r.frozen (q _ n)];exact z t o n
  ·intro n;have:=A n;rw[g]at this;simpa using this
  ·intro p a _;rw[g];simpa using a
end
theorem qo{H:Type}{enc:TypeId×Value->H}{P:Program}(c:laidOutB P=true){W d:World}{b:Nat->Bool}:
  ∀{a:List TypeId} {e:List Value} {f:List (DataW H)} {ps:List MemPlace},(∀t∈a,P.readableRec t=true/\t<P.types.size)->
   DataW.TrodAll enc P W 0 (fun _=>true) true a e f ps->(∀p∈ps,W.sameAt d p)->(∀p∈ps,b p.block=true)->DataW.TrodAll enc P d 0 b true a e f ps
 |[],_,_,_,_,h,_,_=>by obtain⟨rfl,rfl,rfl⟩:=trodAll_nil h;exact rfl
 |t::a,_,_,_,hr,h,hsame,hs=>by obtain⟨v,i,m,j,k,l,rfl,rfl,rfl,f,e⟩:=trodAll_cons h;refine⟨k,l,WideElems.Trod_stays c (hr t (by simp)).1 (hr t (by simp)).2 f (fun p a=>hsame p (by simp[a])) (fun p a=>hs p (by simp[a])),?_,rfl⟩;exact qo c (fun u g=>hr u (by simp[g])) e (fun p a=>hsame p (by simp[a])) (fun p a=>hs p (by simp[a]))
theorem Tryz.own:ownKnob prog.godebug=none:=by kernel_rfl
theorem Tryz.laidOut:laidOutB prog=true:=by kernel_rfl
theorem nK{a:Addr}{w:World}{v:Value}(h:w.cell? a=some v):a=⟨a.block,a.off,none⟩:=by
 obtain⟨c,o,s⟩:=a;unfold World.cell? at h;split at h
 ·split at h
  ·cases h
  ·rename_i b;simp at b;simp[b]
 ·cases h
end
section
open Go.ChangeShapes Go.WideShapes Go.ChangeAt Go.RowKit Go.Deep
theorem Il{n:Int}(h:(Lit.int .u8 n).wf=true):Value.int .u8 n=B8 (UInt8.ofNat n.toNat):=by have a:=bounds_u8 h;simp[B8];omega
theorem CK{H:Type}{enc:TypeId×Value->H}{W:World}{v:Value}{d:DataW H}{p:List MemPlace}{base:Nat}(q:Value.okWide prog W .any base 22 v)
  (O:DataW.Trod enc prog W 0 (fun _=>true) true 22 v d p): ∃a,dt W (fun _=>True) v a:=by
 obtain⟨K,e,x,rfl⟩:=okWide_slice underlying22 q;obtain⟨F,B⟩:=O;rcases open_int_rows underlying22 underlying53 underlying5 (by kernel_rfl) (by kernel_rfl) B with⟨f,y⟩|⟨k,G,I,C,L,D,Z,f,M,A,z,y,h⟩
 ·simp[Value.cells]at f;obtain⟨rfl,rfl,rfl⟩:=f;exact⟨[],dt.nil _ _⟩
 ·simp[Value.cells]at f;obtain⟨rfl,rfl,rfl⟩:=f;refine⟨(List.range e).map fun r=>((Z r).map fun E=>UInt8.ofNat E.toNat).take (L r),(List.range e).map fun r=>.slice (C r) (L r) (D r),⟨some k,e,x,rfl,by simp,A,z,fun o=>?_⟩,by simp,fun i b a=>?_⟩
  ·have c:=(h 0 (by omega)).1
   have g:k=⟨k.block,k.off,none⟩:=by
    have:k.add 0=k:=by simp[Addr.add]
    rw[this]at c;exact nK c
   refine⟨k.block,k.off,by rw[<-g],trivial,fun l N b=>?_⟩;have j:l<e:=by have:=(bd.1 b).1;simpa using this
   simp[j]at b;subst b;have:=(h l (by omega)).1;rw[g]at this;unfold Addr.add at this;split at this
   ·subst_vars;simpa using this
   ·simpa using this
  ·have n:i<e:=by have:=(bd.1 a).1;simpa using this
   simp[n]at a;subst a;obtain⟨_,w,s,J,t,r,u⟩:=h i (by omega);have m:(((Z i).map fun E=>UInt8.ofNat E.toNat).take (L i)).length=L i:=by simp;omega
   refine⟨C i,D i,by rw[m];simp[n],?_⟩;rw[m];refine⟨C i,L i,D i,rfl,by simp;omega,w,s,fun o=>?_⟩
   cases hA:C i with
   |none=>have:=r hA;omega
   |some a=>
    obtain⟨_,o⟩:=u a hA
    have g:a=⟨a.block,a.off,none⟩:=by
     have c:=o 0 (by omega);have:a.add 0=a:=by simp[Addr.add]
     rw[this]at c;exact nK c
    refine⟨a.block,a.off,by rw[<-g],trivial,fun l N b=>?_⟩;have j:l<L i:=by have:=(bd.1 b).1;simp at this;omega
    have c:l<(Z i).length:=by omega
    simp[j,c]at b;subst b;have a:=o l (by omega);have b:=t ((Z i)[l]) (List.getElem_mem c);rw[<-Il b];rw[g]at a;unfold Addr.add at a;split at a
    ·subst_vars;simpa[c]using a
    ·simpa[c]using a
end
section
open Go.ChangeShapes Go.WideShapes Go.ChangeAt Go.RowKit Go.Deep
theorem rS{P:Program}{w:World}: ∀{l:List (String×DataW Unit)} {ps:List MemPlace},DataW.LaidVars P w l ps-> ∀x∈l,∃i t b a p,P.globalNamed x.1=some i/\(P.globals[i]?).map (·.type)=some t/\w.var? P x.1=some b/\
  DataW.trod (fun _=>()) P w 0 (fun _=>true) false a t b.toList=some (x.2,p)
 |[],_,_,_,a=>by simp at a
 |y::l,ps,h,x,a=>by
  obtain⟨i,t,b,j,p,q,e,g,f,d,c,_⟩:=h;rcases eR.1 a with rfl|a
  ·exact⟨i,t,b,j,p,e,g,f,d⟩
  ·exact rS c x a
theorem oP{P:Program}{w:World}{l:List (String×DataW Unit)}(h:laidMetH P l w)(c:(l.all fun x=>x.2.handleName?.isNone)=true): ∀x∈l,∃g t a b p,P.globalNamed x.1=some g/\(P.globals[g]?).map (·.type)=some t/\w.var? P x.1=some a/\
  DataW.trod (fun _=>()) P w 0 (fun _=>true) false b t a.toList=some (x.2,p):=by
 rw[MakeChecks.laidMetH_plain _ _ _ c]at h;obtain⟨a,h,_⟩:=h;exact rS h
theorem uL(os:Os)(u:os.Started)(H:Type)(enc:TypeId×Value->H)(f:FuncId)(b:Func)(s:ChangeSpec)(e:List (String×DataW Unit))(y:prog.inits.idxOf? f=none)(E:prog.funcs[f]?=some b)
  (p:s.vars=[]) (m:b.resultTypes= #[4]) (z: ∀t∈b.params.toList,prog.readableRec t=true/\t<prog.types.size)
  (D: ∀a:List (DataW H),a.length=b.params.toList.length->(s.fn H a).results=[.lit (.bool true)]/\(s.fn H a).args=a/\(s.fn H a).vars=[])
  (v: ∃(w:World) (c:Tape) (i:Input),w.os=os/\(w.forCall c i).Shaped Tryz.checked.prog/\i.vars=[]/\Input.okWide Tryz.checked.prog (w.forCall c i) .any w.heap.size f i/\
   ((s.pre enc Tryz.checked.prog b [] false (w.forCall c i).memory i.args/\laidMetH prog e (w.forCall c i).memory)/\sizedMet enc Tryz.checked.prog b (OpenSpec.ofChange s) false (w.forCall c i).memory i.args)/\({}:Assume).holds Tryz.checked.prog (lone (Frame.enter Tryz.checked.prog f i.args .normal) [] (w.forCall c i)))
  (B: ∀(W:World) (g:Nat) (c:Array Value) (a:List (DataW H)) (J:List MemPlace),laidMetH prog e W->(∀(j:Nat) t G,b.params[j]?=some t->c[j]?=some G->Value.okWide prog W .any g t G)->
   DataW.TrodAll enc prog W 0 (fun _=>true) true b.params.toList c.toList a J->Calls prog f c W fun i d=>i=.returned (.bool true)/\Below W.heap.size W d):
  ReturnsInHanded {} Tryz.checked os f .any (fun w c=>(s.pre enc prog b [] false w c/\laidMetH prog e w)/\sizedMet enc prog b (OpenSpec.ofChange s) false w c) (s.post enc prog b false true false false):=by
 refine returnsInHanded_of_change_and (C:=Tryz.checked) (X:=fun w _=>laidMetH prog e w) (fun _ _ _ h r=>r.of_heap h) Tryz.own u y E v ?_;intro W g c a O w A n _ _ F _;have l:=n;obtain⟨J,Q,k,o,j,M,K⟩:=n;rw[p]at o;obtain⟨rfl,rfl⟩:=trodVars_none o;refine(B W g c a J F A k).m fun i d ⟨h,q⟩=>?_;subst h
 have C:a.length=b.params.toList.length:=by
  have: ∀(d:List TypeId) (i:List Value) (a:List (DataW H)) (h:List MemPlace),DataW.TrodAll enc prog W 0 (fun _=>true) true d i a h->a.length=d.length:=by
   intro d
   induction d with
   |nil=>intro i a h r;obtain⟨rfl,rfl,rfl⟩:=trodAll_nil r;rfl
   |cons t d x=>intro i a h r;obtain⟨G,I,R,L,S,P,rfl,rfl,rfl,N,t⟩:=trodAll_cons r;simp[x _ _ _ t]
  exact this _ _ _ _ k
 obtain⟨G,I,t⟩:=D (a++[]) (by simpa using C);have r: ∀x∈w,x.block<W.heap.size:=fun x d=>l.lt x d;refine⟨_,rfl,ze (pa:=J) (pv:=[]) l ?_ ?_ ?_ j q ?_⟩
 ·intro P i h;rw[G,m];exact trodAll_mk1 (shut_bool underlying4 true)
 ·intro i h;rw[I,gr];exact qo Tryz.laidOut z k (fun x d=>q.same (r x (by rw[j];simp[d]))) (fun x d=>h x (by rw[j];simp[d]))
 ·intro i h;rw[t,p];rfl
 ·exact ok_one m rfl (okWide_bool_mk underlying4 true)
end
end Go.Proofs.YtehccbdajiiaaaaGreatDoor
