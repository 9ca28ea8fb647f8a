import Derived.Test.YtehccbdajiiaaaaGreatDoorP11
import Derived.Test.YtehccbdajiiaaaaGreatDoorP24
import Derived.Test.YtehccbdajiiaaaaGreatDoorP30
namespace Go.Proofs.YtehccbdajiiaaaaGreatDoor
open Go.Proofs.Tryz
set_option maxRecDepth 100000
open Go.RowKit
section
open Go.ChangeShapes Go.WideShapes Go.ChangeAt Go.RowKit Go.Deep
theorem Tryz.gSh:prog.globalNamed "breviary/proc.shapes" =some 0:=by kernel_rfl
theorem Tryz.tSh:(prog.globals[0]?).map (·.type)=some 251:=by kernel_rfl
theorem Tryz.Io:prog.cellsOf 250=2:=by kernel_rfl
theorem Tryz.Mb:prog.cellsOf 9=1:=by kernel_rfl
theorem PF: ∀i,i<16-> ∃l d,Rows.laid_breviary_proc_shapes (H:=Unit)=.agg l/\l[i]?=some (.agg [d,.lit (.string (rC i))]):=by
 intro i a;have:i=0\/i=1\/i=2\/i=3\/i=4\/i=5\/i=6\/i=7\/i=8\/i=9\/i=10\/i=11\/i=12\/i=13\/i=14\/i=15:=by omega
 rcases this with rfl|rfl|rfl|rfl|rfl|rfl|rfl|rfl|rfl|rfl|rfl|rfl|rfl|rfl|rfl|rfl<;>exact⟨_,_,rfl,rfl⟩
theorem Ip{w:World}{l:List (String×DataW Unit)}(N:laidMetH prog l w)(D:(l.all fun x=>x.2.handleName?.isNone)=true)(v:("breviary/proc.shapes",Rows.laid_breviary_proc_shapes)∈l):fK w:=by
 obtain⟨P,O,e,Q,S,n,G,E,y⟩:=oP N D _ v;obtain rfl:=eC (Tryz.gSh.symm.x n);obtain rfl:=eC (Tryz.tSh.symm.x G);obtain⟨m,R,_,t,K,u,q⟩:=DataW.trod_array underlying251 y;intro i c;obtain⟨M,o,s,d⟩:=PF i c;have a:Rows.laid_breviary_proc_shapes (H:=Unit)=.agg (m.map (·.1)):=(Prod.mk.inj t).1;rw[s]at a;injection a with a;have b:=q i c;rw[Tryz.Io]at b;obtain⟨H,p⟩: ∃H,m[i]?=some H:=⟨_,ao (by rw[u];exact c)⟩;rw[p]at b
 have C:H.1=.agg [o,.lit (.string (rC i))]:=by rw[a,oy,p]at d;injection d
 obtain⟨f,L,_,r,_,F,B⟩:=DataW.trod_struct underlying250 b;have j:=B 1 _ rfl;obtain⟨I,k⟩: ∃I,f[1]?=some I:=⟨_,ao (by rw[F];decide)⟩;rw[k]at j;obtain⟨J,A,z,_⟩:=DataW.trod_string underlying9 j
 have h:I.1=.lit (.string (rC i)):=by
  have x:DataW.agg (f.map (·.1))=.agg [o,.lit (.string (rC i))]:=by rw[<-C,r]
  injection x with x;have g:=ew (fun l:List (DataW Unit)=>l[1]?) x;simp[k]at g;exact g
 rw[z]at h;have g:J.data.toList=rC i:=by simpa using h
 have x:J=⟨(rC i).toArray⟩:=by rw[<-g]
 subst x;rw[World.var?_cell n E]
 have x:e.toList[i*2+1]?=some (.string ⟨(rC i).toArray⟩):=by have:=ew (fun l:List Value=>l[0]?) A;change(List.take (prog.cellsOf 9) (List.drop 1 (List.take 2 (List.drop (i*2) e.toList))))[0]?=_ at this;rw[Tryz.Mb]at this;simpa[mu,mv]using this
 simpa using x
end
section
open Go.ChangeShapes Go.WideShapes Go.ChangeAt Go.RowKit Go.Deep
theorem Tryz.acJ:prog.globalNamed "breviary/sum.nibbles" =some 1:=by kernel_rfl
theorem Tryz.acK:(prog.globals[1]?).map (·.type)=some 328:=by kernel_rfl
theorem Tryz.PG:prog.cellsOf 231=1:=by kernel_rfl
theorem Mc: ∀i,i<16-> ∃l,Rows.laid_breviary_sum_nibbles (H:=Unit)=.agg l/\l[i]?=some (.lit (.int .u32 (wN i:Int))):=by
 intro i a;refine⟨_,rfl,?_⟩;have:i=0\/i=1\/i=2\/i=3\/i=4\/i=5\/i=6\/i=7\/i=8\/i=9\/i=10\/i=11\/i=12\/i=13\/i=14\/i=15:=by omega
 rcases this with rfl|rfl|rfl|rfl|rfl|rfl|rfl|rfl|rfl|rfl|rfl|rfl|rfl|rfl|rfl|rfl<;>rfl
theorem E2{w:World}{l:List (String×DataW Unit)}(B:laidMetH prog l w)(u:(l.all fun x=>x.2.handleName?.isNone)=true)(q:("breviary/sum.nibbles",Rows.laid_breviary_sum_nibbles)∈l):iz w:=by
 obtain⟨E,D,m,F,H,f,x,v,r⟩:=oP B u _ q;obtain rfl:=eC (Tryz.acJ.symm.x f);obtain rfl:=eC (Tryz.acK.symm.x x);obtain⟨e,G,_,n,z,o,j⟩:=DataW.trod_array underlying328 r;intro i c;obtain⟨A,k,d⟩:=Mc i c;have a:Rows.laid_breviary_sum_nibbles (H:=Unit)=.agg (e.map (·.1)):=(Prod.mk.inj n).1;rw[k]at a;injection a with a;have b:=j i c;rw[Tryz.PG]at b;obtain⟨y,h⟩: ∃y,e[i]?=some y:=⟨_,ao (by rw[o];exact c)⟩;rw[h]at b;obtain⟨C,t,s,_⟩:=DataW.trod_int underlying231 b
 have g:y.1=.lit (.int .u32 (wN i:Int)):=by rw[a,oy,h]at d;injection d
 rw[s]at g;have p:C=(wN i:Int):=by simpa using g
 subst p;rw[World.var?_cell f v i]
 have p:m.toList[i]?=some (.int .u32 (wN i:Int)):=by have:=ew (fun l:List Value=>l[0]?) t;simpa using this
 simpa using p
end
end Go.Proofs.YtehccbdajiiaaaaGreatDoor
