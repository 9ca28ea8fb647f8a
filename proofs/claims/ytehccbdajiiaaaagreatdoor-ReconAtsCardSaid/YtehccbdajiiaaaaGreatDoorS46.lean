import Derived.Test.YtehccbdajiiaaaaGreatDoorS37
import Derived.Test.YtehccbdajiiaaaaGreatDoorS44
import Derived.Laws.DeepStrings4
import Derived.Lib.AtoiErrMem
import Derived.Lib.LaidTab
namespace Go.Proofs.YtehccbdajiiaaaaGreatDoor
open Go.Proofs.Tryz
set_option maxRecDepth 100000
set_option maxHeartbeats 16000000
open Go.RowKit
section
open Go.RowKit Go.Maps Go.WideShapes
theorem Zy(l:List aX): ∀x∈l.map aX.cells,x.length=5:=by intro x a;obtain⟨y,_,rfl⟩:=ep.1 a;rfl
section
variable{P:Program}{w:World}{K:TypeId}{b n:Nat}{g:Value->Option Value}
theorem bX.clear(o:bX P w K b n g){t e:TypeId}(f:P.underlying t=some (.map K e))(h:TypeId):
  ∃a,(Builtin.clear_ #[t] h #[.map (some b)]).run P w=.ok (.tuple #[]) a/\bX P a K b 0 (fun _=>none)/\Only (fun k=>k=b) w a:=by
 obtain⟨D,⟨j,a,c,F,l,m⟩,r⟩:=o;refine⟨{w with heap:=w.heap.setIfInBounds b (.map #[] a)},?_,⟨_,⟨#[],a,(MapKept.heap_set c).1,⟨by simp,MapKept.stamped_empty a,by simp⟩,b8 _,rfl⟩,fun _ _ _=>⟨rfl,fun _=>rfl⟩⟩,?_⟩
 ·simp[Builtin.clear_,run_underlying f,MapKept.run_getObj_map c,MapKept.run_setObj_map _ c,Result.andThen]
 ·refine⟨rfl,rfl,rfl,by simp,fun k i d=>?_⟩;show(w.heap.setIfInBounds b _)[k]?=_;rw[gd,fb (fun e=>d e.symm)]
end
end

def ab3(r:Option Int)(w:World)(e:Ending)(w':World):Prop:=e=.returned (.tuple #[rm (r.getD (-1)),.bool r.isSome])/\Below w.heap.size w w'
@[go_sem] theorem Zz (b:UInt8) (t:List UInt8) (h:0<(⟨(b::t).toArray⟩:ByteArray).size):(⟨(b::t).toArray⟩:ByteArray)[0]'h=b:=rfl
theorem Cg{w w':World}{a:String}{g:Nat}{cs:Array Value}(d:prog.globalNamed a=some g)(h:w.var? prog a=some cs)(e:Below w.heap.size w w'):w'.var? prog a=some cs:=by
 unfold World.var? at h⊢;rw[d]at h⊢;simp only[Option.bind_some]at h⊢
 have c:g<w.heap.size:=by
  rcases Nat.lt_or_ge g w.heap.size with b|b
  ·exact b
  ·rw[Array.getElem?_eq_none b]at h;cases h
 rw[e.block g c];exact h
def mH(w:World):Prop:=(∃a p,w.var? prog "strconv.ErrSyntax" =some #[.iface a p])/\ ∃a p,w.var? prog "strconv.ErrRange" =some #[.iface a p]
theorem Tryz.Vh:prog.globalNamed "strconv.ErrSyntax" =some 3:=by kernel_rfl
theorem Tryz.Vi:prog.globalNamed "strconv.ErrRange" =some 4:=by kernel_rfl
theorem mH.below{w w':World}(h:mH w)(a:Below w.heap.size w w'):mH w':=by obtain⟨⟨c,b,g⟩,e,f,d⟩:=h;exact⟨⟨c,b,Cg Tryz.Vh g a⟩,e,f,Cg Tryz.Vi d a⟩
theorem DK(w:World)(s:List UInt8)(j:s.length<=1000)(e:fB w)(h:mH w):Calls prog 167 #[r7 s] w (ab3 (jm s) w):=by
 have l:(⟨s.toArray⟩:ByteArray).size<=1000:=by simpa[ByteArray.size]using j
 cases ha:Lib.atoiAll s with
 |ok v=>
  have H:=al (Any.strconv_Atoi_ok Tryz.yx ⟨s.toArray⟩ (by omega) v (by simpa using ha) w);have a:=Lib.atoiAll_bounds ha;have g:=AF e a (show jm s=if Lib.itoa v=s then some v else none by unfold jm;rw[ha]);clear e h ha a;go_enter func167,ntmps167;go_wp2_with fail;refine H.o.m ?_;rintro k f ⟨rfl,c⟩
  have a:Below w.heap.size w f:=by
   rcases c with rfl|⟨t,rfl⟩
   ·exact bd _ _
   ·exact Lib.bytesWorld_below _ _ _
  have b:=al a;clear c a;go_wp2_with fail;refine(Dz f v g.o.2.1 (g.o.1.below b.o)).m ?_;rintro k n ⟨rfl,c⟩;have i:=al (b.o.x (c.m b.o.size));clear c;by_cases d:Lib.itoa v=s
  ·have c:=al (show jm s=some v by rw[g.o.d,ff d]);rw[d];clear d;go_wp2_with fail
   go_ret2
   exact⟨by rw[c.o];rfl,i.o⟩
  ·have c:=al (show jm s=none by rw[g.o.d,fb d]);have m:(Lib.itoa v==s)=false:=by rw[beq_eq_false_iff_ne];exact d
   clear d;go_wp2_with fail
   go_ret2
   exact⟨by rw[c.o];rfl,i.o⟩
 |range=>
  obtain⟨_,g,p,d⟩:=h;have H:=al (Any.strconv_Atoi_range_var Tryz.yx ⟨s.toArray⟩ (by omega) (by simpa using ha) g p w d);have c:=al (show jm s=none by unfold jm;rw[ha]);clear e d ha;go_enter func167,ntmps167;go_wp2_with fail;refine H.o.m ?_;rintro k f ⟨N,rfl,_,_,a⟩;have b:=al a;clear a;go_wp2_with fail
  go_ret2
  exact⟨by rw[c.o];rfl,b.o⟩
 |_=>
  obtain⟨⟨g,p,d⟩,_⟩:=h;have H:=al (Any.strconv_Atoi_syntax_var Tryz.yx ⟨s.toArray⟩ (by omega) (by simpa using ha) g p w d);have c:=al (show jm s=none by unfold jm;rw[ha]);clear e d ha;go_enter func167,ntmps167;go_wp2_with fail;refine H.o.m ?_;rintro k f ⟨N,rfl,_,_,a⟩;have b:=al a;clear a;go_wp2_with fail
  go_ret2
  exact⟨by rw[c.o];rfl,b.o⟩
section
open Go.ChangeShapes Go.WideShapes Go.ChangeAt Go.RowKit Go.Deep
theorem Tryz.t10:(prog.globals[5]?).map (·.type)=some 388:=by kernel_rfl
theorem Tryz.RV:prog.cellsOf 233=1:=by kernel_rfl
theorem Tryz.Vj:prog.cellsOf 388=20:=by kernel_rfl
theorem GJ:Rows.laid_internal_strconv_uint64pow10 (H:=Unit)=Lib.tabData .u64 Lib.pow10Tab:=by rfl
theorem qM{w:World}{l:List (String×DataW Unit)}(j:laidMetH prog l w)(h:(l.all fun x=>x.2.handleName?.isNone)=true)(d:("internal/strconv.uint64pow10",Rows.laid_internal_strconv_uint64pow10)∈l):fB w:=by obtain⟨g,t,i,k,p,f,e,b,a⟩:=pB j h _ d;obtain rfl:=eC (Tryz.g10.symm.x f);obtain rfl:=eC (Tryz.t10.symm.x e);rw[show(("internal/strconv.uint64pow10",Rows.laid_internal_strconv_uint64pow10):String×DataW Unit).2=Lib.tabData .u64 Lib.pow10Tab from GJ]at a;have c:=Lib.cells_of_tab underlying388 underlying233 Tryz.RV Tryz.Vj a;unfold fB Lib.TabIs;rw[b,<-c]
end


section
open Go.ChangeShapes Go.WideShapes Go.ChangeAt Go.RowKit Go.Deep
theorem Tryz.adR:(prog.globals[3]?).map (·.type)=some 309:=by kernel_rfl
theorem Tryz.adS:(prog.globals[4]?).map (·.type)=some 309:=by kernel_rfl
theorem uW{w:World}{f:Nat}{cs:List Value}{d:DataW Unit}{a:String}{p:List MemPlace}(h:DataW.trod (fun _=>()) prog w 0 (fun _=>true) false f 309 cs=some (.iface a d,p)): ∃t v,cs=[.iface t v]:=by
 cases f with
 |zero=>simp[DataW.trod]at h
 |succ f=>
  unfold DataW.trod at h;rw[underlying309]at h
  match cs,h with
  |[.nilIface],h=>simp at h
  |[.iface t v],_=>exact⟨t,v,rfl⟩
theorem sQ{w:World}{l:List (String×DataW Unit)}(k:laidMetH prog l w)(f:(l.all fun x=>x.2.handleName?.isNone)=true)(j:("strconv.ErrSyntax",Rows.laid_strconv_ErrSyntax)∈l)(h:("strconv.ErrRange",Rows.laid_strconv_ErrRange)∈l):mH w:=by
 constructor
 ·obtain⟨g,t,i,m,p,e,d,a,c⟩:=pB k f _ j;obtain rfl:=eC (Tryz.Vh.symm.x e);obtain rfl:=eC (Tryz.adR.symm.x d);obtain⟨t,v,b⟩:=uW c;exact⟨t,v,by rw[a];congr 1;apply Array.ext';simpa using b⟩
 ·obtain⟨g,t,i,m,p,e,d,a,c⟩:=pB k f _ h;obtain rfl:=eC (Tryz.Vi.symm.x e);obtain rfl:=eC (Tryz.adS.symm.x d);obtain⟨t,v,b⟩:=uW c;exact⟨t,v,by rw[a];congr 1;apply Array.ext';simpa using b⟩
end
end Go.Proofs.YtehccbdajiiaaaaGreatDoor
