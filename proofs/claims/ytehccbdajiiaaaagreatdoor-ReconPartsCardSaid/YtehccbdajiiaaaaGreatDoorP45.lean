import Derived.Test.YtehccbdajiiaaaaGreatDoorP32
import Derived.Test.YtehccbdajiiaaaaGreatDoorP43
import Derived.Laws.DeepStrings4
import Derived.Lib.AtoiErrMem
import Derived.Lib.LaidTab
namespace Go.Proofs.YtehccbdajiiaaaaGreatDoor
open Go.Proofs.Tryz
set_option maxRecDepth 100000
set_option maxHeartbeats 16000000
open Go.RowKit
section
open Go.RowKit Go.Maps Go.WideShapes
theorem Yv(l:List aX): ∀x∈l.map aX.cells,x.length=5:=by intro x a;obtain⟨y,_,rfl⟩:=eh.1 a;rfl
section
variable{P:Program}{w:World}{K:TypeId}{b n:Nat}{g:Value->Option Value}
theorem bW.clear(o:bW P w K b n g){t e:TypeId}(h:P.underlying t=some (.map K e))(f:TypeId):
  ∃a,(Builtin.clear_ #[t] f #[.map (some b)]).run P w=.ok (.tuple #[]) a/\bW P a K b 0 (fun _=>none)/\Only (fun k=>k=b) w a:=by
 obtain⟨D,⟨i,a,c,F,j,m⟩,r⟩:=o;refine⟨{w with heap:=w.heap.setIfInBounds b (.map #[] a)},?_,⟨_,⟨#[],a,(MapKept.heap_set c).1,⟨by simp,MapKept.stamped_empty a,by simp⟩,b8 _,rfl⟩,fun _ _ _=>⟨rfl,fun _=>rfl⟩⟩,?_⟩
 ·simp[Builtin.clear_,run_underlying h,MapKept.run_getObj_map c,MapKept.run_setObj_map _ c,Result.andThen]
 ·refine⟨rfl,rfl,rfl,by simp,fun k l d=>?_⟩;show(w.heap.setIfInBounds b _)[k]?=_;rw[gC,ff (fun e=>d e.symm)]
end
end

def abB(r:Option Int)(w:World)(e:Ending)(w':World):Prop:=e=.returned (.tuple #[rv (r.getD (-1)),.bool r.isSome])/\Below w.heap.size w w'
@[go_sem] theorem Yw (b:UInt8) (t:List UInt8) (h:0<(⟨(b::t).toArray⟩:ByteArray).size):(⟨(b::t).toArray⟩:ByteArray)[0]'h=b:=rfl
theorem Bv{w w':World}{a:String}{g:Nat}{cs:Array Value}(e:prog.globalNamed a=some g)(h:w.var? prog a=some cs)(d:Below w.heap.size w w'):w'.var? prog a=some cs:=by
 unfold World.var? at h⊢;rw[e]at h⊢;simp only[Option.bind_some]at h⊢
 have c:g<w.heap.size:=by
  rcases Nat.lt_or_ge g w.heap.size with b|b
  ·exact b
  ·rw[Array.getElem?_eq_none b]at h;cases h
 rw[d.block g c];exact h
def mz(w:World):Prop:=(∃a p,w.var? prog "strconv.ErrSyntax" =some #[.iface a p])/\ ∃a p,w.var? prog "strconv.ErrRange" =some #[.iface a p]
theorem Tryz.Ue:prog.globalNamed "strconv.ErrSyntax" =some 3:=by kernel_rfl
theorem Tryz.Uf:prog.globalNamed "strconv.ErrRange" =some 4:=by kernel_rfl
theorem mz.below{w w':World}(h:mz w)(a:Below w.heap.size w w'):mz w':=by obtain⟨⟨g,d,e⟩,f,b,c⟩:=h;exact⟨⟨g,d,Bv Tryz.Ue e a⟩,f,b,Bv Tryz.Uf c a⟩
theorem C4(w:World)(s:List UInt8)(j:s.length<=1000)(f:fp w)(h:mz w):Calls prog 167 #[sd s] w (abB (jc s) w):=by
 have m:(⟨s.toArray⟩:ByteArray).size<=1000:=by simpa[ByteArray.size]using j
 cases ha:Lib.atoiAll s with
 |ok v=>
  have H:=al (Any.strconv_Atoi_ok Tryz.yi ⟨s.toArray⟩ (by omega) v (by simpa using ha) w);have a:=Lib.atoiAll_bounds ha;have g:=AM f a (show jc s=if Lib.itoa v=s then some v else none by unfold jc;rw[ha]);clear f h ha a;go_enter func167,ntmps167;go_wp2_with fail;refine H.o.m ?_;rintro k e ⟨rfl,c⟩
  have a:Below w.heap.size w e:=by
   rcases c with rfl|⟨t,rfl⟩
   ·exact aw _ _
   ·exact Lib.bytesWorld_below _ _ _
  have b:=al a;clear c a;go_wp2_with fail;refine(CO e v g.o.2.1 (g.o.1.below b.o)).m ?_;rintro k n ⟨rfl,c⟩;have i:=al (b.o.x (c.m b.o.size));clear c;by_cases d:Lib.itoa v=s
  ·have c:=al (show jc s=some v by rw[g.o.d,fi d]);rw[d];clear d;go_wp2_with fail
   go_ret2
   exact⟨by rw[c.o];rfl,i.o⟩
  ·have c:=al (show jc s=none by rw[g.o.d,ff d]);have l:(Lib.itoa v==s)=false:=by rw[beq_eq_false_iff_ne];exact d
   clear d;go_wp2_with fail
   go_ret2
   exact⟨by rw[c.o];rfl,i.o⟩
 |range=>
  obtain⟨_,g,p,d⟩:=h;have H:=al (Any.strconv_Atoi_range_var Tryz.yi ⟨s.toArray⟩ (by omega) (by simpa using ha) g p w d);have c:=al (show jc s=none by unfold jc;rw[ha]);clear f d ha;go_enter func167,ntmps167;go_wp2_with fail;refine H.o.m ?_;rintro k e ⟨N,rfl,_,_,a⟩;have b:=al a;clear a;go_wp2_with fail
  go_ret2
  exact⟨by rw[c.o];rfl,b.o⟩
 |_=>
  obtain⟨⟨g,p,d⟩,_⟩:=h;have H:=al (Any.strconv_Atoi_syntax_var Tryz.yi ⟨s.toArray⟩ (by omega) (by simpa using ha) g p w d);have c:=al (show jc s=none by unfold jc;rw[ha]);clear f d ha;go_enter func167,ntmps167;go_wp2_with fail;refine H.o.m ?_;rintro k e ⟨N,rfl,_,_,a⟩;have b:=al a;clear a;go_wp2_with fail
  go_ret2
  exact⟨by rw[c.o];rfl,b.o⟩
section
open Go.ChangeShapes Go.WideShapes Go.ChangeAt Go.RowKit Go.Deep
theorem Tryz.t10:(prog.globals[5]?).map (·.type)=some 388:=by kernel_rfl
theorem Tryz.QI:prog.cellsOf 233=1:=by kernel_rfl
theorem Tryz.Ug:prog.cellsOf 388=20:=by kernel_rfl
theorem FM:Rows.laid_internal_strconv_uint64pow10 (H:=Unit)=Lib.tabData .u64 Lib.pow10Tab:=by rfl
theorem zD{w:World}{l:List (String×DataW Unit)}(j:laidMetH prog l w)(d:(l.all fun x=>x.2.handleName?.isNone)=true)(f:("internal/strconv.uint64pow10",Rows.laid_internal_strconv_uint64pow10)∈l):fp w:=by obtain⟨g,t,i,k,p,c,h,e,a⟩:=oP j d _ f;obtain rfl:=eC (Tryz.g10.symm.x c);obtain rfl:=eC (Tryz.t10.symm.x h);rw[show(("internal/strconv.uint64pow10",Rows.laid_internal_strconv_uint64pow10):String×DataW Unit).2=Lib.tabData .u64 Lib.pow10Tab from FM]at a;have b:=Lib.cells_of_tab underlying388 underlying233 Tryz.QI Tryz.Ug a;unfold fp Lib.TabIs;rw[e,<-b]
end


section
open Go.ChangeShapes Go.WideShapes Go.ChangeAt Go.RowKit Go.Deep
theorem Tryz.adq:(prog.globals[3]?).map (·.type)=some 309:=by kernel_rfl
theorem Tryz.adr:(prog.globals[4]?).map (·.type)=some 309:=by kernel_rfl
theorem uA{w:World}{f:Nat}{cs:List Value}{d:DataW Unit}{a:String}{p:List MemPlace}(h:DataW.trod (fun _=>()) prog w 0 (fun _=>true) false f 309 cs=some (.iface a d,p)): ∃t v,cs=[.iface t v]:=by
 cases f with
 |zero=>simp[DataW.trod]at h
 |succ f=>
  unfold DataW.trod at h;rw[underlying309]at h
  match cs,h with
  |[.nilIface],h=>simp at h
  |[.iface t v],_=>exact⟨t,v,rfl⟩
theorem C5{w:World}{l:List (String×DataW Unit)}(k:laidMetH prog l w)(f:(l.all fun x=>x.2.handleName?.isNone)=true)(j:("strconv.ErrSyntax",Rows.laid_strconv_ErrSyntax)∈l)(h:("strconv.ErrRange",Rows.laid_strconv_ErrRange)∈l):mz w:=by
 constructor
 ·obtain⟨g,t,i,m,p,c,e,d,b⟩:=oP k f _ j;obtain rfl:=eC (Tryz.Ue.symm.x c);obtain rfl:=eC (Tryz.adq.symm.x e);obtain⟨t,v,a⟩:=uA b;exact⟨t,v,by rw[d];congr 1;apply Array.ext';simpa using a⟩
 ·obtain⟨g,t,i,m,p,c,e,d,b⟩:=oP k f _ h;obtain rfl:=eC (Tryz.Uf.symm.x c);obtain rfl:=eC (Tryz.adr.symm.x e);obtain⟨t,v,a⟩:=uA b;exact⟨t,v,by rw[d];congr 1;apply Array.ext';simpa using a⟩
end
end Go.Proofs.YtehccbdajiiaaaaGreatDoor
