import Derived.Test.YtmkofmeojbcakaaGreatDoorC07
import Derived.Test.YtmkofmeojbcakaaGreatDoorRows
import Derived.ProofKit
import Derived.Deep.Matrix
import Derived.ChangeSame
import Derived.OpenShut
import Derived.Deep.Slices
import Derived.Deep.Fields
import Derived.LaidMore
import Derived.MakeChecks
import Derived.Stop.Joined
import Derived.SevenTiedAt
namespace Go.Proofs.YtmkofmeojbcakaaGreatDoor
open Go.Proofs.Tryz
set_option maxRecDepth 100000
open Go.RowKit
section
open Go.ChangeShapes Go.WideShapes Go.ChangeAt Go.RowKit Go.Deep
section
variable{H:Type}{enc:TypeId×Value->H}{P:Program}
theorem zo{f:Func}{s:ChangeSpec}{apart fresh handsOn again:Bool}{W W':World}{args:Array Value}{v:Value}{ds gs:List (DataW H)}{before pa pv:List MemPlace}
  (hW:DataW.Whole enc P f.params.toList s.vars apart W args.toList ds gs before)
  (hres: ∀(b:Nat) (sp:Nat->Bool) (hd:Bool),DataW.TrodAll enc P W' b sp hd f.resultTypes.toList (v.resultList f.resultTypes.size) (s.fn H (ds++gs)).results [])
  (hargs: ∀sp:Nat->Bool,(∀p∈before,sp p.block=true)->DataW.TrodAll enc P W' 0 sp true f.params.toList args.toList (s.fn H (ds++gs)).args pa)
  (hvars: ∀sp:Nat->Bool,(∀p∈before,sp p.block=true)->DataW.TrodVars enc P W' sp s.vars (s.fn H (ds++gs)).vars pv)
  (hps:before=pa++pv) (hb:Below W.heap.size W W')
  (hok: ∀(j:Nat) (t:TypeId) (r:Value),f.resultTypes[j]?=some t->(v.resultList f.resultTypes.size)[j]?=some r->Value.okWide P W' .any 0 t r):
  s.post enc P f apart fresh handsOn again W args v W':=by
 have hlt: ∀p∈before,p.block<W.heap.size:=fun p hp=>hW.lt p hp;have hold: ∀p∈before,(fun b=>decide (b<W.heap.size)) p.block=true:=fun p hp=>by simpa using hlt p hp
 refine⟨ds,gs,before,[],pa,pv,hW,hres _ _ _,hargs _ hold,hvars _ hold,World.keptBut_mono (fun p hp=>⟨hp,?_⟩) (hb.frame (· ∈before)),fun _=>?_⟩
 ·rw[hps,List.mem_append]at hp;exact Or.inr hp
 ·obtain⟨_,_,_,_,_,hz,hn⟩:=hW;refine⟨hok,_,_,([]++pa)++pv,⟨[]++pa,pv,trodAll_append (hargs _ (fun _ _=>rfl)) (hres _ _ _),hvars _ (fun _ _=>rfl),rfl,?_,?_⟩,?_⟩
  ·intro b off hp;have hin:MemPlace.cell b off∈before:=by rw[hps];simpa using hp
   rw[hb.frozen (hlt _ hin)];exact hz b off hin
  ·intro ha;have:=hn ha;rw[hps]at this;simpa using this
  ·intro p hp _;rw[hps];simpa using hp
end
theorem qC{H:Type}{enc:TypeId×Value->H}{P:Program}(hl:laidOutB P=true){W W':World}{sp':Nat->Bool}:
  ∀{ts:List TypeId} {vs:List Value} {ds:List (DataW H)} {ps:List MemPlace},(∀t∈ts,P.readableRec t=true/\t<P.types.size)->
   DataW.TrodAll enc P W 0 (fun _=>true) true ts vs ds ps->(∀p∈ps,W.sameAt W' p)->(∀p∈ps,sp' p.block=true)->DataW.TrodAll enc P W' 0 sp' true ts vs ds ps
 |[],_,_,_,_,h,_,_=>by obtain⟨rfl,rfl,rfl⟩:=trodAll_nil h;exact rfl
 |t::ts,_,_,_,hr,h,hsame,hs=>by obtain⟨v,vs1,d,ds1,a,b,rfl,rfl,rfl,h1,h2⟩:=trodAll_cons h;refine⟨a,b,WideElems.Trod_stays hl (hr t (by simp)).1 (hr t (by simp)).2 h1 (fun p hp=>hsame p (by simp[hp])) (fun p hp=>hs p (by simp[hp])),?_,rfl⟩;exact qC hl (fun u hu=>hr u (by simp[hu])) h2 (fun p hp=>hsame p (by simp[hp])) (fun p hp=>hs p (by simp[hp]))
theorem Tryz.own:ownKnob prog.godebug=none:=by kernel_rfl
theorem Tryz.laidOut:laidOutB prog=true:=by kernel_rfl
theorem Cs{a:Addr}{w:World}{v:Value}(h:w.cell? a=some v):a=⟨a.block,a.off,none⟩:=by
 obtain⟨b,o,s⟩:=a;unfold World.cell? at h;split at h
 ·split at h
  ·cases h
  ·rename_i hs;simp at hs;simp[hs]
 ·cases h
end
section
open Go.ChangeShapes Go.WideShapes Go.ChangeAt Go.RowKit Go.Deep
end
section
open Go.ChangeShapes Go.WideShapes Go.ChangeAt Go.RowKit Go.Deep
theorem mr{H:Type}{enc:TypeId×Value->H}{W:World}{α:Type}(S E:TypeId)(hS:prog.underlying S=some (.slice E))(k:Nat)(hk:0<k)(hE:prog.cellsOf E=k)(cel:α->List Value)(aab: ∀y,(cel y).length=k)(P:α->Prop)(dflt:α)
  (hone: ∀(fuel:Nat) (cs:List Value) (x:DataW H×List MemPlace),DataW.trod enc prog W 0 (fun _=>true) true fuel E cs=some x-> ∃y,cs=cel y/\P y)
  {fuel:Nat} {cs:List Value} {x:DataW H×List MemPlace} (hf:DataW.trod enc prog W 0 (fun _=>true) true fuel S cs=some x):
  ∃(v:Value) (l:List α),cs=[v]/\aS k W (fun _=>True) v (l.map cel)/\ ∀y∈l,P y:=by
 rcases open_slice hS hf with⟨rfl,hx⟩|⟨a,len,cap,m,n,D,Pl,rfl,hb,hl,hm,hmm,hx,hi⟩
 ·exact⟨_,[],rfl,aS.nil _ _ _,by simp⟩
 ·simp at hmm;subst hmm
  have key: ∀i,i<m-> ∃y:α,P y/\ ∀j u,(cel y)[j]?=some u->W.cell? (a.add (i*k+j))=some u:=by
   intro i him;obtain⟨cs',hc,ht'⟩:=hi i him;obtain⟨y,rfl,hP⟩:=hone _ _ _ ht';rw[hE]at hc;obtain⟨_,hcl,hat⟩:=World.cells?_some hc;refine⟨y,hP,fun j u hj=>?_⟩;have hjl:j<k:=by have:=(b8.1 hj).1;rw[aab]at this;exact this
   rw[<-Go.Deep.add_add,hat j hjl,hj]
  let g:Nat->α:=fun i=>if h:i<m then(key i h).choose else dflt
  have hg: ∀i,i<m->P (g i)/\ ∀j u,(cel (g i))[j]?=some u->W.cell? (a.add (i*k+j))=some u:=by intro i him;have:=(key i him).choose_spec;simp only[g,him,dif_pos];exact this
  refine⟨_,(List.range len).map g,rfl,⟨some a,len,m,rfl,by simp,hl,hm,fun h0=>?_⟩,?_⟩
  ·have h00:=(hg 0 (by omega)).2 0 _ (ao (by rw[aab];exact hk))
   have ha:a=⟨a.block,a.off,none⟩:=by
    have:a.add (0*k+0)=a:=by simp[Addr.add]
    rw[this]at h00;exact Cs h00
   refine⟨a.block,a.off,by rw[<-ha],trivial,fun i x hi j u hj=>?_⟩;have hil:i<len:=by have:=(b8.1 hi).1;simpa using this
   simp[hil]at hi;subst hi;have:=(hg i (by omega)).2 j u hj;rw[ha]at this;unfold Addr.add at this;split at this
   ·rename_i hz;rw[hz];simpa using this
   ·simpa using this
  ·intro y hy;obtain⟨i,hi,rfl⟩:=ew.1 hy;exact(hg i (by have:=List.mem_range.1 hi;omega)).1
end
section
open Go.ChangeShapes Go.WideShapes Go.ChangeAt Go.RowKit Go.Deep
theorem zq{P:Program}{w:World}{r:Reach}{base:Nat}{t e:TypeId}{n:Nat}{v:Value}(ht:P.underlying t=some (.array n e))(h:Value.okWide P w r base t v): ∃cs,v=.agg cs/\cs.size=P.cellsOf t:=by unfold Value.okWide at h;simp only[ht]at h;exact let⟨cs,a,b,_⟩:=h;⟨cs,a,b⟩
theorem Tryz.Ct:prog.cellsOf 3=1:=by kernel_rfl
end
section
open Go.ChangeShapes Go.WideShapes Go.ChangeAt Go.RowKit Go.Deep
theorem sk{P:Program}{w:World}: ∀{l:List (String×DataW Unit)} {ps:List MemPlace},DataW.LaidVars P w l ps-> ∀x∈l,∃g t cs fuel p,P.globalNamed x.1=some g/\(P.globals[g]?).map (·.type)=some t/\w.var? P x.1=some cs/\
  DataW.trod (fun _=>()) P w 0 (fun _=>true) false fuel t cs.toList=some (x.2,p)
 |[],_,_,_,hx=>by simp at hx
 |y::l,ps,h,x,hx=>by
  obtain⟨g,t,cs,f,p,q,hg,ht,hv,hd,hrest,_⟩:=h;rcases e7.1 hx with rfl|hx
  ·exact⟨g,t,cs,f,p,hg,ht,hv,hd⟩
  ·exact sk hrest x hx
theorem py{P:Program}{w:World}{l:List (String×DataW Unit)}(h:laidMetH P l w)(hp:(l.all fun x=>x.2.handleName?.isNone)=true): ∀x∈l,∃g t cs fuel p,P.globalNamed x.1=some g/\(P.globals[g]?).map (·.type)=some t/\w.var? P x.1=some cs/\
  DataW.trod (fun _=>()) P w 0 (fun _=>true) false fuel t cs.toList=some (x.2,p):=by
 rw[MakeChecks.laidMetH_plain _ _ _ hp]at h;obtain⟨ps,h,_⟩:=h;exact sk h
theorem vv(os:Os)(started:os.Started)(H:Type)(enc:TypeId×Value->H)(f:FuncId)(fn:Func)(s:ChangeSpec)(laid:List (String×DataW Unit))(noInit:prog.inits.idxOf? f=none)(hfn:prog.funcs[f]?=some fn)
  (hv:s.vars=[]) (hrt:fn.resultTypes= #[4]) (hread: ∀t∈fn.params.toList,prog.readableRec t=true/\t<prog.types.size)
  (aac: ∀ds:List (DataW H),ds.length=fn.params.toList.length->(s.fn H ds).results=[.lit (.bool true)]/\(s.fn H ds).args=ds/\(s.fn H ds).vars=[])
  (witness: ∃(w:World) (tape:Tape) (i:Input),w.os=os/\(w.forCall tape i).Shaped Tryz.checked.prog/\i.vars=[]/\Input.okWide Tryz.checked.prog (w.forCall tape i) .any w.heap.size f i/\
   ((s.pre enc Tryz.checked.prog fn [] false (w.forCall tape i).memory i.args/\laidMetH prog laid (w.forCall tape i).memory)/\sizedMet enc Tryz.checked.prog fn (OpenSpec.ofChange s) false (w.forCall tape i).memory i.args)/\({}:Assume).holds Tryz.checked.prog (lone (Frame.enter Tryz.checked.prog f i.args .normal) [] (w.forCall tape i)))
  (walk: ∀(W:World) (base:Nat) (args:Array Value) (ds:List (DataW H)) (p:List MemPlace),laidMetH prog laid W->(∀(j:Nat) t v,fn.params[j]?=some t->args[j]?=some v->Value.okWide prog W .any base t v)->
   DataW.TrodAll enc prog W 0 (fun _=>true) true fn.params.toList args.toList ds p->Calls prog f args W fun e W'=>e=.returned (.bool true)/\Below W.heap.size W W'):
  ReturnsInHanded {} Tryz.checked os f .any (fun w args=>(s.pre enc prog fn [] false w args/\laidMetH prog laid w)/\sizedMet enc prog fn (OpenSpec.ofChange s) false w args) (s.post enc prog fn false true false false):=by
 refine returnsInHanded_of_change_and (C:=Tryz.checked) (X:=fun w _=>laidMetH prog laid w) (fun _ _ _ hh h=>h.of_heap hh) Tryz.own started noInit hfn witness ?_;intro W base args ds gs before hval hW _ _ hL _;have hW':=hW;obtain⟨p,q,hA,hV,vF,hfz,hnd⟩:=hW;rw[hv]at hV;obtain⟨rfl,rfl⟩:=trodVars_none hV;refine(walk W base args ds p hL hval hA).m fun e W' ⟨he,hb⟩=>?_;subst he
 have hlen:ds.length=fn.params.toList.length:=by
  have: ∀(ts:List TypeId) (vs:List Value) (ds:List (DataW H)) (ps:List MemPlace),DataW.TrodAll enc prog W 0 (fun _=>true) true ts vs ds ps->ds.length=ts.length:=by
   intro ts
   induction ts with
   |nil=>intro vs ds ps h;obtain⟨rfl,rfl,rfl⟩:=trodAll_nil h;rfl
   |cons t ts ih=>intro vs ds ps h;obtain⟨v,vs1,d,ds1,a,b,rfl,rfl,rfl,h1,h2⟩:=trodAll_cons h;simp[ih _ _ _ h2]
  exact this _ _ _ _ hA
 obtain⟨s1,s2,s3⟩:=aac (ds++[]) (by simpa using hlen);have hlt: ∀x∈before,x.block<W.heap.size:=fun x hx=>hW'.lt x hx;refine⟨_,rfl,zo (pa:=p) (pv:=[]) hW' ?_ ?_ ?_ vF hb ?_⟩
 ·intro b sp hd;rw[s1,hrt];exact trodAll_mk1 (shut_bool underlying4 true)
 ·intro sp hsp;rw[s2,gn];exact qC Tryz.laidOut hread hA (fun x hx=>hb.same (hlt x (by rw[vF];simp[hx]))) (fun x hx=>hsp x (by rw[vF];simp[hx]))
 ·intro sp hsp;rw[s3,hv];rfl
 ·exact ok_one hrt rfl (okWide_bool_mk underlying4 true)
end
end Go.Proofs.YtmkofmeojbcakaaGreatDoor
