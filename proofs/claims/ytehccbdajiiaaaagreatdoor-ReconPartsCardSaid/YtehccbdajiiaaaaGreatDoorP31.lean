import Derived.Test.YtehccbdajiiaaaaGreatDoorP30
import Derived.Deep.Slices
import Derived.Deep.Fields
namespace Go.Proofs.YtehccbdajiiaaaaGreatDoor
open Go.Proofs.Tryz
set_option maxRecDepth 100000
open Go.RowKit
section
open Go.ChangeShapes Go.WideShapes Go.ChangeAt Go.RowKit Go.Deep
theorem Tryz.CL:prog.cellsOf 68=5:=by kernel_rfl
theorem Tryz.Xk:prog.cellsOf 4=1:=by kernel_rfl
theorem Tryz.Im:prog.cellsOf 3=1:=by kernel_rfl
theorem Tryz.Tv:prog.cellsOf 9=1:=by kernel_rfl
theorem qp{H:Type}{enc:TypeId×Value->H}{W:World}{base:Nat}{b:Nat->Bool}{a:Bool}{fuel:Nat}{cs:List Value}{x:DataW H×List MemPlace}(M:DataW.trod enc prog W base b a fuel 68 cs=some x):
  ∃c:Cl,cs=c.cells/\c.fits:=by
 obtain⟨B,p,_,_,j,q,d⟩:=DataW.trod_struct underlying68 M;rw[Tryz.CL]at j
 match cs,j with
 |[v0,v1,v2,v3,v4],_=>have c: ∀i,i<5-> ∃y,B[i]?=some y:=fun i e=>⟨_,ao (by rw[q];exact e)⟩;obtain⟨I,s⟩:=c 0 (by decide);obtain⟨J,y⟩:=c 1 (by decide);obtain⟨L,u⟩:=c 2 (by decide);obtain⟨G,E⟩:=c 3 (by decide);obtain⟨K,v⟩:=c 4 (by decide);have e:=d 0 _ rfl;rw[s]at e;change DataW.trod enc prog W base b a p 4 (List.take (prog.cellsOf 4) (List.drop 0 [v0,v1,v2,v3,v4]))=_ at e;rw[Tryz.Xk]at e;have h:=d 1 _ rfl;rw[y]at h;change DataW.trod enc prog W base b a p 3 (List.take (prog.cellsOf 3) (List.drop 1 [v0,v1,v2,v3,v4]))=_ at h;rw[Tryz.Im]at h;have i:=d 2 _ rfl;rw[u]at i;change DataW.trod enc prog W base b a p 9 (List.take (prog.cellsOf 9) (List.drop 2 [v0,v1,v2,v3,v4]))=_ at i;rw[Tryz.Tv]at i;have g:=d 3 _ rfl;rw[E]at g;change DataW.trod enc prog W base b a p 3 (List.take (prog.cellsOf 3) (List.drop 3 [v0,v1,v2,v3,v4]))=_ at g;rw[Tryz.Im]at g;have f:=d 4 _ rfl;rw[v]at f;change DataW.trod enc prog W base b a p 3 (List.take (prog.cellsOf 3) (List.drop 4 [v0,v1,v2,v3,v4]))=_ at f;rw[Tryz.Im]at f;obtain⟨N,o,_⟩:=DataW.trod_bool underlying4 e;obtain⟨z,m,_,D⟩:=DataW.trod_int underlying3 h;obtain⟨F,l,_,t⟩:=DataW.trod_string underlying9 i;obtain⟨r,n,_,A⟩:=DataW.trod_int underlying3 g;obtain⟨w,k,_,C⟩:=DataW.trod_int underlying3 f;simp at o m l n k;subst o m l n k;exact⟨⟨N,z,F.data.toList,r,w⟩,rfl,bounds_i64 D,bounds_i64 A,bounds_i64 C,(by rw[Array.length_toList];exact t:F.data.toList.length<=maxLen)⟩
end
section
open Go.ChangeShapes Go.WideShapes Go.ChangeAt Go.RowKit Go.Deep
theorem Tryz.pO:prog.cellsOf 3=1:=by kernel_rfl
theorem Tryz.EY:prog.cellsOf 24=3:=by kernel_rfl
def Xl(n:Int):Prop:= -9223372036854775808<=n/\n<=9223372036854775807
theorem EZ{H:Type}{enc:TypeId×Value->H}{W:World}{base:Nat}{e:Nat->Bool}{c:Bool}{fuel:Nat}{cs:List Value}{x:DataW H×List MemPlace}(B:DataW.trod enc prog W base e c fuel 24 cs=some x):
  ∃a d b:Int,cs=[rv a,rv d,rv b]/\Xl a/\Xl d/\Xl b:=by
 obtain⟨t,w,_,_,h,l,g⟩:=DataW.trod_struct underlying24 B;rw[Tryz.EY]at h
 match cs,h with
 |[v0,v1,v2],_=>have f: ∀i,i<3-> ∃y,t[i]?=some y:=fun i a=>⟨_,ao (by rw[l];exact a)⟩;obtain⟨y,n⟩:=f 0 (by decide);obtain⟨z,q⟩:=f 1 (by decide);obtain⟨A,p⟩:=f 2 (by decide);have a:=g 0 _ rfl;rw[n]at a;change DataW.trod enc prog W base e c w 3 (List.take (prog.cellsOf 3) (List.drop 0 [v0,v1,v2]))=_ at a;rw[Tryz.pO]at a;have b:=g 1 _ rfl;rw[q]at b;change DataW.trod enc prog W base e c w 3 (List.take (prog.cellsOf 3) (List.drop 1 [v0,v1,v2]))=_ at b;rw[Tryz.pO]at b;have d:=g 2 _ rfl;rw[p]at d;change DataW.trod enc prog W base e c w 3 (List.take (prog.cellsOf 3) (List.drop 2 [v0,v1,v2]))=_ at d;rw[Tryz.pO]at d;obtain⟨r,i,_,v⟩:=DataW.trod_int underlying3 a;obtain⟨s,k,_,u⟩:=DataW.trod_int underlying3 b;obtain⟨m,j,_,o⟩:=DataW.trod_int underlying3 d;simp at i k j;subst i k j;exact⟨r,s,m,rfl,bounds_i64 v,bounds_i64 u,bounds_i64 o⟩
end
section
open Go.ChangeShapes Go.WideShapes Go.ChangeAt Go.RowKit Go.Deep
theorem qq{H:Type}{enc:TypeId×Value->H}{W:World}{α:Type}(S T:TypeId)(N:prog.underlying S=some (.slice T))(k:Nat)(E:0<k)(J:prog.cellsOf T=k)(b:α->List Value)(p: ∀y,(b y).length=k)(P:α->Prop)(w:α)
  (t: ∀(fuel:Nat) (cs:List Value) (x:DataW H×List MemPlace),DataW.trod enc prog W 0 (fun _=>true) true fuel T cs=some x-> ∃y,cs=b y/\P y)
  {fuel:Nat} {cs:List Value} {x:DataW H×List MemPlace} (L:DataW.trod enc prog W 0 (fun _=>true) true fuel S cs=some x):
  ∃(v:Value) (l:List α),cs=[v]/\bJ k W (fun _=>True) v (l.map b)/\ ∀y∈l,P y:=by
 rcases open_slice N L with⟨rfl,F⟩|⟨e,f,X,R,n,D,Z,rfl,hb,I,G,o,F,a⟩
 ·exact⟨_,[],rfl,bJ.nil _ _ _,by simp⟩
 ·simp at o;subst o
  have q: ∀i,i<R-> ∃y:α,P y/\ ∀j u,(b y)[j]?=some u->W.cell? (e.add (i*k+j))=some u:=by
   intro i c;obtain⟨U,s,A⟩:=a i c;obtain⟨y,rfl,M⟩:=t _ _ _ A;rw[J]at s;obtain⟨_,V,C⟩:=World.cells?_some s;refine⟨y,M,fun j u d=>?_⟩;have z:j<k:=by have:=(bd.1 d).1;rw[p]at this;exact this
   rw[<-Go.Deep.add_add,C j z,d]
  let Q:Nat->α:=fun i=>if h:i<R then(q i h).choose else w
  have g: ∀i,i<R->P (Q i)/\ ∀j u,(b (Q i))[j]?=some u->W.cell? (e.add (i*k+j))=some u:=by intro i c;have:=(q i c).choose_spec;simp only[Q,c,dif_pos];exact this
  refine⟨_,(List.range f).map Q,rfl,⟨some e,f,R,rfl,by simp,I,G,fun Y=>?_⟩,?_⟩
  ·have m:=(g 0 (by omega)).2 0 _ (ao (by rw[p];exact E))
   have r:e=⟨e.block,e.off,none⟩:=by
    have:e.add (0*k+0)=e:=by simp[Addr.add]
    rw[this]at m;exact nK m
   refine⟨e.block,e.off,by rw[<-r],trivial,fun i x a j u d=>?_⟩;have B:i<f:=by have:=(bd.1 a).1;simpa using this
   simp[B]at a;subst a;have:=(g i (by omega)).2 j u d;rw[r]at this;unfold Addr.add at this;split at this
   ·rename_i K;rw[K];simpa using this
   ·simpa using this
  ·intro y O;obtain⟨i,a,rfl⟩:=eh.1 O;exact(g i (by have:=List.mem_range.1 a;omega)).1
end
section
open Go.ChangeShapes Go.WideShapes Go.ChangeAt Go.RowKit Go.Deep
theorem Tryz.L8:prog.cellsOf 26=5:=by kernel_rfl
theorem Tryz.PE:prog.cellsOf 29=3:=by kernel_rfl
theorem Tryz.E0:prog.cellsOf 27=1:=by kernel_rfl
theorem L9{H:Type}{enc:TypeId×Value->H}{W:World}{v:Value}{d:DataW H}{p:List MemPlace}{base:Nat}(k:Value.okWide prog W .any base 26 v)
  (t:DataW.Trod enc prog W 0 (fun _=>true) true 26 v d p): ∃u A x w y:Int,v=.agg #[rv u,rv A,rv x,rv w,rv y]:=by
 obtain⟨n,rfl,C⟩:=okWide_struct underlying26 k;obtain⟨B,t⟩:=t;obtain⟨s,z,_,_,g,l,f⟩:=DataW.trod_struct underlying26 t;rw[Tryz.L8]at g;obtain⟨m⟩:=n
 match m,g with
 |[v0,v1,v2,v3,v4],_=>have e: ∀i,i<3-> ∃a,s[i]?=some a:=fun i a=>⟨_,ao (by rw[l];exact a)⟩;obtain⟨D,o⟩:=e 0 (by decide);obtain⟨E,r⟩:=e 1 (by decide);obtain⟨F,q⟩:=e 2 (by decide);have a:=f 0 _ rfl;rw[o]at a;change DataW.trod enc prog W 0 (fun _=>true) true z 24 (List.take (prog.cellsOf 24) (List.drop 0 [v0,v1,v2,v3,v4]))=_ at a;rw[Tryz.EY]at a;have b:=f 1 _ rfl;rw[r]at b;change DataW.trod enc prog W 0 (fun _=>true) true z 3 (List.take (prog.cellsOf 3) (List.drop 3 [v0,v1,v2,v3,v4]))=_ at b;rw[Tryz.pO]at b;have c:=f 2 _ rfl;rw[q]at c;change DataW.trod enc prog W 0 (fun _=>true) true z 3 (List.take (prog.cellsOf 3) (List.drop 4 [v0,v1,v2,v3,v4]))=_ at c;rw[Tryz.pO]at c;obtain⟨u,A,x,h,-,-,-⟩:=EZ a;obtain⟨w,i,_,_⟩:=DataW.trod_int underlying3 b;obtain⟨y,j,_,_⟩:=DataW.trod_int underlying3 c;simp at i h j;obtain⟨rfl,rfl,rfl⟩:=h;subst i j;exact⟨u,A,x,w,y,rfl⟩
theorem Ma{H:Type}{enc:TypeId×Value->H}{W:World}{v:Value}{d:DataW H}{p:List MemPlace}{base:Nat}(q:Value.okWide prog W .any base 29 v)
  (D:DataW.Trod enc prog W 0 (fun _=>true) true 29 v d p): ∃(i h:Value) (f a:List Cl) (k:Int),v=.agg #[i,h,rv k]/\cz W (fun _=>True) i f/\cz W (fun _=>True) h a/\(∀c∈f,c.fits)/\ ∀c∈a,c.fits:=by
 obtain⟨t,rfl,G⟩:=okWide_struct underlying29 q;obtain⟨F,D⟩:=D;obtain⟨B,E,_,_,m,r,j⟩:=DataW.trod_struct underlying29 D;rw[Tryz.PE]at m;obtain⟨s⟩:=t
 match s,m with
 |[v0,v1,v2],_=>have g: ∀c,c<3-> ∃y,B[c]?=some y:=fun c b=>⟨_,ao (by rw[r];exact b)⟩;obtain⟨I,w⟩:=g 0 (by decide);obtain⟨J,z⟩:=g 1 (by decide);obtain⟨K,x⟩:=g 2 (by decide);have b:=j 0 _ rfl;rw[w]at b;change DataW.trod enc prog W 0 (fun _=>true) true E 27 (List.take (prog.cellsOf 27) (List.drop 0 [v0,v1,v2]))=_ at b;rw[Tryz.E0]at b;have c:=j 1 _ rfl;rw[z]at c;change DataW.trod enc prog W 0 (fun _=>true) true E 27 (List.take (prog.cellsOf 27) (List.drop 1 [v0,v1,v2]))=_ at c;rw[Tryz.E0]at c;have e:=j 2 _ rfl;rw[x]at e;change DataW.trod enc prog W 0 (fun _=>true) true E 3 (List.take (prog.cellsOf 3) (List.drop 2 [v0,v1,v2]))=_ at e;rw[Tryz.pO]at e;obtain⟨i,f,n,u,A⟩:=qq 27 68 underlying27 5 (by decide) Tryz.CL Cl.cells (fun _=>rfl) Cl.fits ⟨false,0,[],0,0⟩ (fun _ _ _ l=>qp l) b;obtain⟨h,a,o,C,y⟩:=qq 27 68 underlying27 5 (by decide) Tryz.CL Cl.cells (fun _=>rfl) Cl.fits ⟨false,0,[],0,0⟩ (fun _ _ _ l=>qp l) c;obtain⟨k,l,_,_⟩:=DataW.trod_int underlying3 e;simp at n o l;subst n o l;exact⟨_,_,f,a,k,rfl,u,C,A,y⟩
end
end Go.Proofs.YtehccbdajiiaaaaGreatDoor
