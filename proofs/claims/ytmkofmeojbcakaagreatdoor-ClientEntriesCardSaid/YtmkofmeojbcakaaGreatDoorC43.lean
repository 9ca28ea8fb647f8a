import Derived.Test.YtmkofmeojbcakaaGreatDoorC34
import Derived.Test.YtmkofmeojbcakaaGreatDoorC40
import Derived.Laws.DeepStrings4
import Derived.Lib.AtoiErrMem
import Derived.Lib.LaidTab
namespace Go.Proofs.YtmkofmeojbcakaaGreatDoor
open Go.Proofs.Tryz
set_option maxRecDepth 100000
set_option maxHeartbeats 16000000
open Go.RowKit
def aaD(r:Option Int)(w:World)(e:Ending)(w':World):Prop:=e=.returned (.tuple #[.int .i64 (r.getD (-1)),.bool r.isSome])/\Below w.heap.size w w'
@[go_sem] theorem WX (b:UInt8) (t:List UInt8) (h:0<(⟨(b::t).toArray⟩:ByteArray).size):(⟨(b::t).toArray⟩:ByteArray)[0]'h=b:=rfl
theorem Bn{w w':World}{name:String}{g:Nat}{cs:Array Value}(hg:prog.globalNamed name=some g)(h:w.var? prog name=some cs)(hb:Below w.heap.size w w'):w'.var? prog name=some cs:=by
 unfold World.var? at h⊢;rw[hg]at h⊢;simp only[Option.bind_some]at h⊢
 have hlt:g<w.heap.size:=by
  rcases Nat.lt_or_ge g w.heap.size with h'|h'
  ·exact h'
  ·rw[Array.getElem?_eq_none h']at h;cases h
 rw[hb.block g hlt];exact h
def oJ(w:World):Prop:=(∃tp p,w.var? prog "strconv.ErrSyntax" =some #[.iface tp p])/\ ∃tp p,w.var? prog "strconv.ErrRange" =some #[.iface tp p]
theorem Tryz.Tt:prog.globalNamed "strconv.ErrSyntax" =some 3:=by kernel_rfl
theorem Tryz.Tu:prog.globalNamed "strconv.ErrRange" =some 4:=by kernel_rfl
theorem oJ.below{w w':World}(h:oJ w)(hb:Below w.heap.size w w'):oJ w':=by obtain⟨⟨t1,p1,h1⟩,t2,p2,h2⟩:=h;exact⟨⟨t1,p1,Bn Tryz.Tt h1 hb⟩,t2,p2,Bn Tryz.Tu h2 hb⟩
theorem CG(w:World)(s:List UInt8)(hl:s.length<=1000)(ht:gh w)(he:oJ w):Calls prog 143 #[.string ⟨s.toArray⟩] w (aaD (iW s) w):=by
 have hsz:(⟨s.toArray⟩:ByteArray).size<=1000:=by simpa[ByteArray.size]using hl
 cases ha:Lib.atoiAll s with
 |ok v=>
  have H:=al (Any.strconv_Atoi_ok Tryz.wU ⟨s.toArray⟩ (by omega) v (by simpa using ha) w);have hfv:=Lib.atoiAll_bounds ha;have HT:=al (ab ht (ab hfv (show iW s=if Lib.itoa v=s then some v else none by unfold iW;rw[ha])));clear ht he ha hfv;go_enter func143,ntmps143;go_wp2_with fail;refine H.o.m ?_;rintro e w2 ⟨rfl,hw2⟩
  have hb2:Below w.heap.size w w2:=by
   rcases hw2 with rfl|⟨t,rfl⟩
   ·exact aw _ _
   ·exact Lib.bytesWorld_below _ _ _
  have HB:=al hb2;clear hw2 hb2;go_wp2_with fail;refine(Cz w2 v HT.o.2.1 (HT.o.1.below HB.o)).m ?_;rintro e w3 ⟨rfl,hb3⟩;have yK:=al (HB.o.x (hb3.m HB.o.size));clear hb3;by_cases hv:Lib.itoa v=s
  ·have HR:=al (show iW s=some v by rw[HT.o.d,fi hv]);rw[hv];clear hv;go_wp2_with fail
   go_ret2
   exact⟨by rw[HR.o];rfl,yK.o⟩
  ·have HR:=al (show iW s=none by rw[HT.o.d,ff hv]);have hne:(Lib.itoa v==s)=false:=by rw[beq_eq_false_iff_ne];exact hv
   clear hv;go_wp2_with fail
   go_ret2
   exact⟨by rw[HR.o];rfl,yK.o⟩
 |range=>
  obtain⟨_,tp,p,h1⟩:=he;have H:=al (Any.strconv_Atoi_range_var Tryz.wU ⟨s.toArray⟩ (by omega) (by simpa using ha) tp p w h1);have HR:=al (show iW s=none by unfold iW;rw[ha]);clear ht h1 ha;go_enter func143,ntmps143;go_wp2_with fail;refine H.o.m ?_;rintro e w2 ⟨N,rfl,_,_,hb2⟩;have HB:=al hb2;clear hb2;go_wp2_with fail
  go_ret2
  exact⟨by rw[HR.o];rfl,HB.o⟩
 |_=>
  obtain⟨⟨tp,p,h1⟩,_⟩:=he;have H:=al (Any.strconv_Atoi_syntax_var Tryz.wU ⟨s.toArray⟩ (by omega) (by simpa using ha) tp p w h1);have HR:=al (show iW s=none by unfold iW;rw[ha]);clear ht h1 ha;go_enter func143,ntmps143;go_wp2_with fail;refine H.o.m ?_;rintro e w2 ⟨N,rfl,_,_,hb2⟩;have HB:=al hb2;clear hb2;go_wp2_with fail
  go_ret2
  exact⟨by rw[HR.o];rfl,HB.o⟩

section
open Go.ChangeShapes Go.WideShapes Go.ChangeAt Go.RowKit Go.Deep
theorem Tryz.t10:(prog.globals[5]?).map (·.type)=some 364:=by kernel_rfl
theorem Tryz.PO:prog.cellsOf 134=1:=by kernel_rfl
theorem Tryz.Tv:prog.cellsOf 364=20:=by kernel_rfl
theorem E8:Rows.laid_internal_strconv_uint64pow10 (H:=Unit)=Lib.tabData .u64 Lib.pow10Tab:=by rfl
theorem zB{w:World}{l:List (String×DataW Unit)}(h:laidMetH prog l w)(hp:(l.all fun x=>x.2.handleName?.isNone)=true)(hm:("internal/strconv.uint64pow10",Rows.laid_internal_strconv_uint64pow10)∈l):gh w:=by obtain⟨g,t,cs,f,p,hg,ht,hv,hd⟩:=py h hp _ hm;obtain rfl:=eE (Tryz.g10.symm.x hg);obtain rfl:=eE (Tryz.t10.symm.x ht);rw[show(("internal/strconv.uint64pow10",Rows.laid_internal_strconv_uint64pow10):String×DataW Unit).2=Lib.tabData .u64 Lib.pow10Tab from E8]at hd;have hc:=Lib.cells_of_tab underlying364 underlying134 Tryz.PO Tryz.Tv hd;unfold gh Lib.TabIs;rw[hv,<-hc]
end
section
open Go.ChangeShapes Go.WideShapes Go.ChangeAt Go.RowKit Go.Deep
theorem Tryz.ab3:(prog.globals[3]?).map (·.type)=some 298:=by kernel_rfl
theorem Tryz.ab4:(prog.globals[4]?).map (·.type)=some 298:=by kernel_rfl
theorem uR{w:World}{f:Nat}{cs:List Value}{d:DataW Unit}{name:String}{p:List MemPlace}(h:DataW.trod (fun _=>()) prog w 0 (fun _=>true) false f 298 cs=some (.iface name d,p)): ∃t v,cs=[.iface t v]:=by
 cases f with
 |zero=>simp[DataW.trod]at h
 |succ f=>
  unfold DataW.trod at h;rw[underlying298]at h
  match cs,h with
  |[.nilIface],h=>simp at h
  |[.iface t v],_=>exact⟨t,v,rfl⟩
theorem CH{w:World}{l:List (String×DataW Unit)}(h:laidMetH prog l w)(hp:(l.all fun x=>x.2.handleName?.isNone)=true)(jo:("strconv.ErrSyntax",Rows.laid_strconv_ErrSyntax)∈l)(hm2:("strconv.ErrRange",Rows.laid_strconv_ErrRange)∈l):oJ w:=by
 constructor
 ·obtain⟨g,t,cs,f,p,hg,ht,hv,hd⟩:=py h hp _ jo;obtain rfl:=eE (Tryz.Tt.symm.x hg);obtain rfl:=eE (Tryz.ab3.symm.x ht);obtain⟨t,v,hc⟩:=uR hd;exact⟨t,v,by rw[hv];congr 1;apply Array.ext';simpa using hc⟩
 ·obtain⟨g,t,cs,f,p,hg,ht,hv,hd⟩:=py h hp _ hm2;obtain rfl:=eE (Tryz.Tu.symm.x hg);obtain rfl:=eE (Tryz.ab4.symm.x ht);obtain⟨t,v,hc⟩:=uR hd;exact⟨t,v,by rw[hv];congr 1;apply Array.ext';simpa using hc⟩
end
end Go.Proofs.YtmkofmeojbcakaaGreatDoor
