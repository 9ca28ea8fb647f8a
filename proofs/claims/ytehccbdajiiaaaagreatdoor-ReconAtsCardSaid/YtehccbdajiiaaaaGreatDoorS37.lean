import Derived.Test.YtehccbdajiiaaaaGreatDoorS19
import Derived.Test.YtehccbdajiiaaaaGreatDoorS22
import Derived.Test.YtehccbdajiiaaaaGreatDoorS36
import Derived.LaidMore
import Derived.MakeChecks
import Derived.Stop.Joined
import Derived.SevenTiedAt
namespace Go.Proofs.YtehccbdajiiaaaaGreatDoor
open Go.Proofs.Tryz
set_option maxRecDepth 100000
open Go.RowKit
section
open Go.ChangeShapes Go.WideShapes Go.ChangeAt Go.RowKit Go.Deep
theorem sI{P:Program}{w:World}: ∀{l:List (String×DataW Unit)} {c:List MemPlace},DataW.LaidVars P w l c-> ∀x∈l,∃i t b a p,P.globalNamed x.1=some i/\(P.globals[i]?).map (·.type)=some t/\w.var? P x.1=some b/\
  DataW.trod (fun _=>()) P w 0 (fun _=>true) false a t b.toList=some (x.2,p)
 |[],_,_,_,a=>by simp at a
 |y::l,c,h,x,a=>by
  obtain⟨i,t,b,j,p,q,e,d,g,f,c,_⟩:=h;rcases eS.1 a with rfl|a
  ·exact⟨i,t,b,j,p,e,d,g,f⟩
  ·exact sI c x a
theorem pB{P:Program}{w:World}{l:List (String×DataW Unit)}(h:laidMetH P l w)(c:(l.all fun x=>x.2.handleName?.isNone)=true): ∀x∈l,∃g t a b p,P.globalNamed x.1=some g/\(P.globals[g]?).map (·.type)=some t/\w.var? P x.1=some a/\
  DataW.trod (fun _=>()) P w 0 (fun _=>true) false b t a.toList=some (x.2,p):=by
 rw[MakeChecks.laidMetH_plain _ _ _ c]at h;obtain⟨a,h,_⟩:=h;exact sI h
theorem ov(os:Os)(k:os.Started)(H:Type)(enc:TypeId×Value->H)(f:FuncId)(b:Func)(s:ChangeSpec)(d:List (String×DataW Unit))(n:prog.inits.idxOf? f=none)(q:prog.funcs[f]?=some b)
  (j:s.vars=[]) (h:b.resultTypes= #[4]) (o: ∀t∈b.params.toList,prog.readableRec t=true/\t<prog.types.size)
  (r: ∀a:List (DataW H),a.length=b.params.toList.length->(s.fn H a).results=[.lit (.bool true)]/\(s.fn H a).args=a/\(s.fn H a).vars=[])
  (g: ∃(w:World) (c:Tape) (i:Input),w.os=os/\(w.forCall c i).Shaped Tryz.checked.prog/\i.vars=[]/\Input.okWide Tryz.checked.prog (w.forCall c i) .any w.heap.size f i/\
   ((s.pre enc Tryz.checked.prog b [] false (w.forCall c i).memory i.args/\laidMetH prog d (w.forCall c i).memory)/\sizedMet enc Tryz.checked.prog b (OpenSpec.ofChange s) false (w.forCall c i).memory i.args)/\({}:Assume).holds Tryz.checked.prog (lone (Frame.enter Tryz.checked.prog f i.args .normal) [] (w.forCall c i)))
  (p: ∀(W:World) (e:Nat) (c:Array Value) (a:List (DataW H)) (v:List MemPlace),laidMetH prog d W->(∀(i:Nat) t x,b.params[i]?=some t->c[i]?=some x->Value.okWide prog W .any e t x)->
   DataW.TrodAll enc prog W 0 (fun _=>true) true b.params.toList c.toList a v->Calls prog f c W fun y l=>y=.returned (.bool true)/\Below W.heap.size W l):
  ReturnsInHanded {} Tryz.checked os f .any (fun w c=>(s.pre enc prog b [] false w c/\laidMetH prog d w)/\sizedMet enc prog b (OpenSpec.ofChange s) false w c) (s.post enc prog b false true false false):=by
 refine returnsInHanded_of_change_and (C:=Tryz.checked) (X:=fun w _=>laidMetH prog d w) (fun _ _ _ d m=>m.of_heap d) Tryz.own k n q g ?_;intro W e c a d n q k _ _ u _;have g:=k;obtain⟨v,A,d,i,f,z,w⟩:=k;rw[j]at i;obtain⟨rfl,rfl⟩:=trodVars_none i;refine(p W e c a v u q d).m fun y l ⟨c,i⟩=>?_;subst c
 have k:a.length=b.params.toList.length:=by
  have: ∀(b:List TypeId) (c:List Value) (a:List (DataW H)) (e:List MemPlace),DataW.TrodAll enc prog W 0 (fun _=>true) true b c a e->a.length=b.length:=by
   intro b
   induction b with
   |nil=>intro c a e m;obtain⟨rfl,rfl,rfl⟩:=trodAll_nil m;rfl
   |cons t b l=>intro c a e m;obtain⟨x,c,t,e,u,q,rfl,rfl,rfl,p,b⟩:=trodAll_cons m;simp[l _ _ _ b]
  exact this _ _ _ _ d
 obtain⟨b,m,l⟩:=r (a++[]) (by simpa using k);have e: ∀x∈n,x.block<W.heap.size:=fun x a=>g.lt x a;refine⟨_,rfl,Av (pa:=v) (pv:=[]) g ?_ ?_ ?_ f i ?_⟩
 ·intro q c g;rw[b,h];exact trodAll_mk1 (shut_bool underlying4 true)
 ·intro c b;rw[m,fs];exact qI Tryz.laidOut o d (fun x a=>i.same (e x (by rw[f];simp[a]))) (fun x a=>b x (by rw[f];simp[a]))
 ·intro c b;rw[l,j];rfl
 ·exact ok_one h rfl (okWide_bool_mk underlying4 true)
end
section
open Go.ChangeShapes Go.WideShapes Go.ChangeAt Go.RowKit Go.Deep
theorem Tryz.gSh:prog.globalNamed "breviary/proc.shapes" =some 0:=by kernel_rfl
theorem Tryz.tSh:(prog.globals[0]?).map (·.type)=some 251:=by kernel_rfl
theorem Tryz.Jr:prog.cellsOf 250=2:=by kernel_rfl
theorem Tryz.Ni:prog.cellsOf 9=1:=by kernel_rfl
theorem QY: ∀i,i<16-> ∃l d,Rows.laid_breviary_proc_shapes (H:=Unit)=.agg l/\l[i]?=some (.agg [d,.lit (.string (sx i))]):=by
 intro i a;have:i=0\/i=1\/i=2\/i=3\/i=4\/i=5\/i=6\/i=7\/i=8\/i=9\/i=10\/i=11\/i=12\/i=13\/i=14\/i=15:=by omega
 rcases this with rfl|rfl|rfl|rfl|rfl|rfl|rfl|rfl|rfl|rfl|rfl|rfl|rfl|rfl|rfl|rfl<;>exact⟨_,_,rfl,rfl⟩
theorem yN{w:World}{l:List (String×DataW Unit)}(h:laidMetH prog l w)(b:(l.all fun x=>x.2.handleName?.isNone)=true)(a:("breviary/proc.shapes",Rows.laid_breviary_proc_shapes)∈l):gy w:=by
 obtain⟨e,t,g,i,p,f,c,n,d⟩:=pB h b _ a;obtain rfl:=eC (Tryz.gSh.symm.x f);obtain rfl:=eC (Tryz.tSh.symm.x c);obtain⟨h,b,_,k,a,m,j⟩:=DataW.trod_array underlying251 d;intro i c;obtain⟨a,e,b,d⟩:=QY i c;have a:Rows.laid_breviary_proc_shapes (H:=Unit)=.agg (h.map (·.1)):=(Prod.mk.inj k).1;rw[b]at a;injection a with a;have b:=j i c;rw[Tryz.Jr]at b;obtain⟨y,j⟩: ∃y,h[i]?=some y:=⟨_,ao (by rw[m];exact c)⟩;rw[j]at b
 have m:y.1=.agg [e,.lit (.string (sx i))]:=by rw[a,nh,j]at d;injection d
 obtain⟨d,a,_,h,_,j,c⟩:=DataW.trod_struct underlying250 b;have a:=c 1 _ rfl;obtain⟨z,c⟩: ∃z,d[1]?=some z:=⟨_,ao (by rw[j];decide)⟩;rw[c]at a;obtain⟨s,j,k,_⟩:=DataW.trod_string underlying9 a
 have a:z.1=.lit (.string (sx i)):=by
  have o:DataW.agg (d.map (·.1))=.agg [e,.lit (.string (sx i))]:=by rw[<-m,h]
  injection o with o;have b:=eE (fun l:List (DataW Unit)=>l[1]?) o;simp[c]at b;exact b
 rw[k]at a;have b:s.data.toList=sx i:=by simpa using a
 have a:s=⟨(sx i).toArray⟩:=by rw[<-b]
 subst a;rw[World.var?_cell f n]
 have a:g.toList[i*2+1]?=some (r7 (sx i)):=by have:=eE (fun l:List Value=>l[0]?) j;change(List.take (prog.cellsOf 9) (List.drop 1 (List.take 2 (List.drop (i*2) g.toList))))[0]?=_ at this;rw[Tryz.Ni]at this;simpa[lP,mw]using this
 simpa using a
end
section
open Go.ChangeShapes Go.WideShapes Go.ChangeAt Go.RowKit Go.Deep
theorem Tryz.adm:prog.globalNamed "breviary/sum.nibbles" =some 1:=by kernel_rfl
theorem Tryz.adn:(prog.globals[1]?).map (·.type)=some 328:=by kernel_rfl
theorem Tryz.QZ:prog.cellsOf 231=1:=by kernel_rfl
theorem Nj: ∀i,i<16-> ∃l,Rows.laid_breviary_sum_nibbles (H:=Unit)=.agg l/\l[i]?=some (.lit (.int .u32 (xB i:Int))):=by
 intro i a;refine⟨_,rfl,?_⟩;have:i=0\/i=1\/i=2\/i=3\/i=4\/i=5\/i=6\/i=7\/i=8\/i=9\/i=10\/i=11\/i=12\/i=13\/i=14\/i=15:=by omega
 rcases this with rfl|rfl|rfl|rfl|rfl|rfl|rfl|rfl|rfl|rfl|rfl|rfl|rfl|rfl|rfl|rfl<;>rfl
theorem uQ{w:World}{l:List (String×DataW Unit)}(h:laidMetH prog l w)(b:(l.all fun x=>x.2.handleName?.isNone)=true)(a:("breviary/sum.nibbles",Rows.laid_breviary_sum_nibbles)∈l):gZ w:=by
 obtain⟨g,t,j,f,p,e,c,m,d⟩:=pB h b _ a;obtain rfl:=eC (Tryz.adm.symm.x e);obtain rfl:=eC (Tryz.adn.symm.x c);obtain⟨f,b,_,h,a,k,g⟩:=DataW.trod_array underlying328 d;intro i c;obtain⟨a,b,d⟩:=Nj i c;have a:Rows.laid_breviary_sum_nibbles (H:=Unit)=.agg (f.map (·.1)):=(Prod.mk.inj h).1;rw[b]at a;injection a with a;have b:=g i c;rw[Tryz.QZ]at b;obtain⟨y,g⟩: ∃y,f[i]?=some y:=⟨_,ao (by rw[k];exact c)⟩;rw[g]at b;obtain⟨n,c,f,_⟩:=DataW.trod_int underlying231 b
 have b:y.1=.lit (.int .u32 (xB i:Int)):=by rw[a,nh,g]at d;injection d
 rw[f]at b;have a:n=(xB i:Int):=by simpa using b
 subst a;rw[World.var?_cell e m i]
 have a:j.toList[i]?=some (.int .u32 (xB i:Int)):=by have:=eE (fun l:List Value=>l[0]?) c;simpa using this
 simpa using a
end
end Go.Proofs.YtehccbdajiiaaaaGreatDoor
