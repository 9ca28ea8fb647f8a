import Derived.Test.YtagemonojdgbdaaGreatDoorF39
import Derived.Laws.DeepStrings4
import Derived.Lib.AtoiErrMem
import Derived.Lib.LaidTab
namespace Go.Proofs.YtagemonojdgbdaaGreatDoor
set_option maxRecDepth 100000
set_option maxHeartbeats 16000000
open Go.RowKit
def WR(r:Option Int)(w:World)(e:Ending)(w':World):Prop:=e=.returned (.tuple #[.int .i64 (r.getD (-1)),.bool r.isSome])/\Below w.heap.size w w'
@[go_sem] theorem S6 (b:UInt8) (t:List UInt8) (h:0<(⟨(b::t).toArray⟩:ByteArray).size):(⟨(b::t).toArray⟩:ByteArray)[0]'h=b:=rfl
theorem yJ{w w':World}{name:String}{g:Nat}{cs:Array Value}(hg:Tryz.prog.globalNamed name=some g)(h:w.var? Tryz.prog name=some cs)(hb:Below w.heap.size w w'):w'.var? Tryz.prog name=some cs:=by
 unfold World.var? at h⊢;rw[hg]at h⊢;simp only[Option.bind_some]at h⊢
 have hlt:g<w.heap.size:=by
  rcases Nat.lt_or_ge g w.heap.size with h'|h'
  ·exact h'
  ·rw[Array.getElem?_eq_none h']at h;cases h
 rw[hb.block g hlt];exact h
def pO(w:World):Prop:=(∃tp p,w.var? Tryz.prog "strconv.ErrSyntax" =some #[.iface tp p])/\ ∃tp p,w.var? Tryz.prog "strconv.ErrRange" =some #[.iface tp p]
theorem Tryz.PG:Tryz.prog.globalNamed "strconv.ErrSyntax" =some 3:=by kernel_rfl
theorem Tryz.PH:Tryz.prog.globalNamed "strconv.ErrRange" =some 4:=by kernel_rfl
theorem pO.below{w w':World}(h:pO w)(hb:Below w.heap.size w w'):pO w':=by obtain⟨⟨t1,p1,h1⟩,t2,p2,h2⟩:=h;exact⟨⟨t1,p1,yJ Tryz.PG h1 hb⟩,t2,p2,yJ Tryz.PH h2 hb⟩
theorem Ak(w:World)(s:List UInt8)(hl:s.length<=1000)(ht:fL w)(he:pO w):Calls Tryz.prog 152 #[.string ⟨s.toArray⟩] w (WR (ib s) w):=by
 have hsz:(⟨s.toArray⟩:ByteArray).size<=1000:=by simpa[ByteArray.size]using hl
 cases ha:Lib.atoiAll s with
 |ok v=>
  have H:=al (Any.strconv_Atoi_ok Tryz.tW ⟨s.toArray⟩ (by omega) v (by simpa using ha) w);have hfv:=Lib.atoiAll_bounds ha;have HT:=al (ab ht (ab hfv (show ib s=if Lib.itoa v=s then some v else none by unfold ib;rw[ha])));clear ht he ha hfv;go_enter Tryz.func152,Tryz.ntmps152;go_wp2_with fail;refine H.out.mono ?_;rintro e w2 ⟨rfl,hw2⟩
  have hb2:Below w.heap.size w w2:=by
   rcases hw2 with rfl|⟨t,rfl⟩
   ·exact aw _ _
   ·exact Lib.bytesWorld_below _ _ _
  have HB:=al hb2;clear hw2 hb2;go_wp2_with fail;refine(Ag w2 v HT.out.2.1 (HT.out.1.below HB.out)).mono ?_;rintro e w3 ⟨rfl,hb3⟩;have ou:=al (HB.out.trans (hb3.mono HB.out.size));clear hb3;by_cases hv:Lib.itoa v=s
  ·have HR:=al (show ib s=some v by rw[HT.out.2.2,fi hv]);rw[hv];clear hv;go_wp2_with fail
   go_ret2
   exact⟨by rw[HR.out];rfl,ou.out⟩
  ·have HR:=al (show ib s=none by rw[HT.out.2.2,ff hv]);have hne:(Lib.itoa v==s)=false:=by rw[beq_eq_false_iff_ne];exact hv
   clear hv;go_wp2_with fail
   go_ret2
   exact⟨by rw[HR.out];rfl,ou.out⟩
 |range=>
  obtain⟨_,tp,p,h1⟩:=he;have H:=al (Any.strconv_Atoi_range_var Tryz.tW ⟨s.toArray⟩ (by omega) (by simpa using ha) tp p w h1);have HR:=al (show ib s=none by unfold ib;rw[ha]);clear ht h1 ha;go_enter Tryz.func152,Tryz.ntmps152;go_wp2_with fail;refine H.out.mono ?_;rintro e w2 ⟨N,rfl,_,_,hb2⟩;have HB:=al hb2;clear hb2;go_wp2_with fail
  go_ret2
  exact⟨by rw[HR.out];rfl,HB.out⟩
 |_=>
  obtain⟨⟨tp,p,h1⟩,_⟩:=he;have H:=al (Any.strconv_Atoi_syntax_var Tryz.tW ⟨s.toArray⟩ (by omega) (by simpa using ha) tp p w h1);have HR:=al (show ib s=none by unfold ib;rw[ha]);clear ht h1 ha;go_enter Tryz.func152,Tryz.ntmps152;go_wp2_with fail;refine H.out.mono ?_;rintro e w2 ⟨N,rfl,_,_,hb2⟩;have HB:=al hb2;clear hb2;go_wp2_with fail
  go_ret2
  exact⟨by rw[HR.out];rfl,HB.out⟩

section
open Go.ChangeShapes Go.WideShapes Go.ChangeAt Go.RowKit Go.Deep
theorem Tryz.t10:(Tryz.prog.globals[5]?).map (·.type)=some 379:=by kernel_rfl
theorem Tryz.MH:Tryz.prog.cellsOf 232=1:=by kernel_rfl
theorem Tryz.PI:Tryz.prog.cellsOf 379=20:=by kernel_rfl
theorem Db:Rows.laid_internal_strconv_uint64pow10 (H:=Unit)=Lib.tabData .u64 Lib.pow10Tab:=by rfl
theorem xj{w:World}{l:List (String×DataW Unit)}(h:laidMetH Tryz.prog l w)(hp:(l.all fun x=>x.2.handleName?.isNone)=true)(hm:("internal/strconv.uint64pow10",Rows.laid_internal_strconv_uint64pow10)∈l):fL w:=by obtain⟨g,t,cs,f,p,hg,ht,hv,hd⟩:=qD h hp _ hm;obtain rfl:=e7 (Tryz.g10.symm.trans hg);obtain rfl:=e7 (Tryz.t10.symm.trans ht);rw[show(("internal/strconv.uint64pow10",Rows.laid_internal_strconv_uint64pow10):String×DataW Unit).2=Lib.tabData .u64 Lib.pow10Tab from Db]at hd;have hc:=Lib.cells_of_tab Tryz.underlying379 Tryz.underlying232 Tryz.MH Tryz.PI hd;unfold fL Lib.TabIs;rw[hv,<-hc]
end
section
open Go.ChangeShapes Go.WideShapes Go.ChangeAt Go.RowKit Go.Deep
theorem Tryz.Z7:(Tryz.prog.globals[3]?).map (·.type)=some 295:=by kernel_rfl
theorem Tryz.Z8:(Tryz.prog.globals[4]?).map (·.type)=some 295:=by kernel_rfl
theorem sx{w:World}{f:Nat}{cs:List Value}{d:DataW Unit}{name:String}{p:List MemPlace}(h:DataW.trod (fun _=>()) Tryz.prog w 0 (fun _=>true) false f 295 cs=some (.iface name d,p)): ∃t v,cs=[.iface t v]:=by
 cases f with
 |zero=>simp[DataW.trod]at h
 |succ f=>
  unfold DataW.trod at h;rw[Tryz.underlying295]at h
  match cs,h with
  |[.nilIface],h=>simp at h
  |[.iface t v],_=>exact⟨t,v,rfl⟩
theorem Am{w:World}{l:List (String×DataW Unit)}(h:laidMetH Tryz.prog l w)(hp:(l.all fun x=>x.2.handleName?.isNone)=true)(iX:("strconv.ErrSyntax",Rows.laid_strconv_ErrSyntax)∈l)(hm2:("strconv.ErrRange",Rows.laid_strconv_ErrRange)∈l):pO w:=by
 constructor
 ·obtain⟨g,t,cs,f,p,hg,ht,hv,hd⟩:=qD h hp _ iX;obtain rfl:=e7 (Tryz.PG.symm.trans hg);obtain rfl:=e7 (Tryz.Z7.symm.trans ht);obtain⟨t,v,hc⟩:=sx hd;exact⟨t,v,by rw[hv];congr 1;apply Array.ext';simpa using hc⟩
 ·obtain⟨g,t,cs,f,p,hg,ht,hv,hd⟩:=qD h hp _ hm2;obtain rfl:=e7 (Tryz.PH.symm.trans hg);obtain rfl:=e7 (Tryz.Z8.symm.trans ht);obtain⟨t,v,hc⟩:=sx hd;exact⟨t,v,by rw[hv];congr 1;apply Array.ext';simpa using hc⟩
end
end Go.Proofs.YtagemonojdgbdaaGreatDoor
