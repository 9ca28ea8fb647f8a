import Derived.Test.YtmkofmeojbcakaaGreatDoorC13
import Derived.Laws.StructEq
import Derived.Lib.ConvBytes
import Derived.Laws.AppendOwn
import Derived.Deep.RegionHeld3
abbrev Go.Shut.o:=@Go.Shut.out
namespace Go.Proofs.YtmkofmeojbcakaaGreatDoor
open Go.Proofs.Tryz
set_option maxRecDepth 100000
set_option maxHeartbeats 16000000
open Go.RowKit
abbrev oT:=@AllReadyH.nil
abbrev o0:=@wp_region_held_drew
abbrev pb:=@wpAnyH_done
abbrev pf:=@wpAnyH_ready
theorem abb(w:World)(d:Nat)(x0 x1 x2 x3 y0 y1 y2 y3:Int):(Op.equalIn (d+1+1) 113 (.agg #[.int .i64 x0,.int .i64 x1,.int .i64 x2,.int .i64 x3]) (.agg #[.int .i64 y0,.int .i64 y1,.int .i64 y2,.int .i64 y3])).run prog w=.ok (decide (x0=y0/\x1=y1/\x2=y2/\x3=y3)) w:=by
 rw[Op.equalIn];simp only[Sem.run_bind,run_underlying underlying113,Result.andThen_ok];have hs:(sizeOf 3).run prog w=.ok 1 w:=by kernel_rfl
 rw[hs];simp only[Result.andThen_ok];rw[Std.Legacy.Range.forIn_eq_forIn_range'];simp only[Std.Legacy.Range.size,Nat.sub_zero,Nat.add_one_sub_one,Nat.div_one,show List.range' 0 4=[0,1,2,3]from by decide];simp[go_sem,underlying3];by_cases h0:x0=y0<;>by_cases h1:x1=y1<;>by_cases h2:x2=y2<;>by_cases h3:x3=y3<;>simp[h0,h1,h2,h3]
theorem eq4(w:World)(x0 x1 x2 x3 y0 y1 y2 y3:Int):(Op.equalIn 10000 113 (.agg #[.int .i64 x0,.int .i64 x1,.int .i64 x2,.int .i64 x3]) (.agg #[.int .i64 y0,.int .i64 y1,.int .i64 y2,.int .i64 y3])).run prog w=.ok (decide (x0=y0/\x1=y1/\x2=y2/\x3=y3)) w:=abb w 9998 x0 x1 x2 x3 y0 y1 y2 y3
theorem Tryz.Vr:prog.eqGuardType prog.depth 113=false:=by kernel_rfl
theorem DV(w:World)(e:TypeId)(s:ByteArray):Below w.heap.size w (Lib.bytesWorld w e s):=
 ⟨rfl,rfl,rfl,by rw[Lib.bytesWorld_size];omega,fun k hk=>Lib.bytesWorld_at_old w e s k hk⟩
theorem NB(w:World)(e:TypeId)(l:List UInt8)(hl:l.length<=maxLen):Rd (Lib.bytesWorld w e ⟨l.toArray⟩) (fun k=>w.heap.size<=k) (.slice (some ⟨w.heap.size,0,none⟩) l.length (grownCap w l.length 0 e)) (l.map B8):=by
 refine⟨_,_,_,rfl,by simp,grownCap_ge _ _ _ _,grownCap_le_maxLen _ _ _ _ hl,fun _=>⟨_,0,rfl,aE _,fun j u hj=>?_⟩⟩;have hjl:j<l.length:=by have:=(b8.1 hj).1;simpa using this
 have:=Lib.bytesWorld_cell w e ⟨l.toArray⟩ j (by simpa[ByteArray.size]using hjl);rw[gx,this];rw[List.getElem?_map]at hj;simp only[List.getD,List.getElem?_eq_getElem hjl,Option.map_some,fl]at hj⊢;rw[<-hj];rfl
theorem Gf(w:World)(l:List UInt8):(convert 9 41 (.string ⟨l.toArray⟩)).run prog w=.ok (.slice (some ⟨w.heap.size,0,none⟩) l.length (grownCap w l.length 0 5)) (Lib.bytesWorld w 5 ⟨l.toArray⟩):=by have:=Lib.run_convert_string_bytes (P:=prog) w 9 41 5 ⟨l.toArray⟩ underlying9 underlying41 underlying5;simpa[ByteArray.size]using this

@[go_sem] theorem RP {P:Program} {w:World} {a:Addr} {m:Mode} (f:Fn) (x y:Array Value):(store a (.func f x y) m).run P w=stored P w a (.func f x y) m:=run_store P w a _ m rfl
@[go_sem] theorem Mi {P:Program} {w:World} {a:Addr} {m:Mode}:(store a .nilFunc m).run P w=stored P w a .nilFunc m:=run_store P w a _ m rfl
structure MS where
 ops:Value
 pc:Int
 bI:Nat->Int
 b:Value
 fuel:Int
 may:Value
 value:Int
 steps:Int
 foot:Value
 e:Int
def pU(f:FuncId):Value:=.func (.func f) #[] #[]
def MS.cells(s:MS):Array Value:= #[s.ops,.nilFunc,pU 98,pU 99,pU 100,pU 101,pU 102,pU 103,pU 104,pU 105,pU 106,pU 107,pU 108,pU 109,pU 110,pU 111,pU 112,
 .int .i64 s.pc,.int .i64 (s.bI 0),.int .i64 (s.bI 1),.int .i64 (s.bI 2),.int .i64 (s.bI 3),.int .i64 (s.bI 4),.int .i64 (s.bI 5),.int .i64 (s.bI 6),.int .i64 (s.bI 7),s.b,.int .i64 s.fuel,s.may,.int .i64 s.value,.int .i64 s.steps,s.foot,.int .i64 s.e]
def aH(w:World)(M:Nat)(s:MS):Prop:=w.heap[M]?=some (.cells s.cells 177 (0,0))
def oZ(f:Nat->Int)(i:Nat)(v:Int):Nat->Int:=fun j=>if j=i then v else f j
section
variable{w w':World}{M:Nat}{s:MS}
theorem aH.is(h:aH w M s):w.heap[M]?=some (.cells s.cells 177 (0,0)):=h
theorem aH.lt(h:aH w M s):M<w.heap.size:=(bd.1 h).1
theorem aH.only{S:Nat->Prop}(h:aH w M s)(ho:Only S w w')(hS: ¬S M):aH w' M s:=ho.heap h hS
theorem aH.below(h:aH w M s)(hb:Below w.heap.size w w'):aH w' M s:=h.only (oj hb fun _=>False) (fun h=>h)
theorem aH.ops(h:aH w M s):w.cell? ⟨M,0,none⟩=some s.ops:=by simp[World.cell?,h.is,MS.cells]
theorem aH.pc(h:aH w M s):w.cell? ⟨M,17,none⟩=some (.int .i64 s.pc):=by simp[World.cell?,h.is,MS.cells]
theorem aH.b(h:aH w M s):w.cell? ⟨M,26,none⟩=some s.b:=by simp[World.cell?,h.is,MS.cells]
theorem aH.fuel(h:aH w M s):w.cell? ⟨M,27,none⟩=some (.int .i64 s.fuel):=by simp[World.cell?,h.is,MS.cells]
theorem aH.may(h:aH w M s):w.cell? ⟨M,28,none⟩=some s.may:=by simp[World.cell?,h.is,MS.cells]
theorem aH.value(h:aH w M s):w.cell? ⟨M,29,none⟩=some (.int .i64 s.value):=by simp[World.cell?,h.is,MS.cells]
theorem aH.steps(h:aH w M s):w.cell? ⟨M,30,none⟩=some (.int .i64 s.steps):=by simp[World.cell?,h.is,MS.cells]
theorem aH.foot(h:aH w M s):w.cell? ⟨M,31,none⟩=some s.foot:=by simp[World.cell?,h.is,MS.cells]
theorem aH.e(h:aH w M s):w.cell? ⟨M,32,none⟩=some (.int .i64 s.e):=by simp[World.cell?,h.is,MS.cells]
theorem aH.bI(h:aH w M s){i:Nat}(hi:i<8):w.cell? ⟨M,18+i,none⟩=some (.int .i64 (s.bI i)):=by
 match i,hi with
 |0,_|1,_|2,_|3,_|4,_|5,_|6,_|7,_=>simp[World.cell?,h.is,MS.cells]
theorem aH.free(h:aH w M s)(i:Nat):w.frozen? ⟨M,i,none⟩=false:=by simp[World.frozen?,h.is]
theorem aH.set(h:aH w M s)(i:Nat)(v:Value)(s':MS)(e:s.cells.setIfInBounds i v=s'.cells):aH (w.setCell ⟨M,i,none⟩ v) M s':=by have:=db w M i _ _ v h;rw[e]at this;exact this
theorem aH.jx(h:aH w M s){i:Nat}(hi:i<8)(v:Int):aH (w.setCell ⟨M,18+i,none⟩ (.int .i64 v)) M {s with bI:=oZ s.bI i v}:=by
 refine h.set _ _ _ ?_
 match i,hi with
 |0,_|1,_|2,_|3,_|4,_|5,_|6,_|7,_=>rfl
theorem aH.Jg(h:aH w M s)(v:Int):aH (w.setCell ⟨M,17,none⟩ (.int .i64 v)) M {s with pc:=v}:=h.set _ _ _ rfl
theorem aH.NC(h:aH w M s)(v:Int):aH (w.setCell ⟨M,30,none⟩ (.int .i64 v)) M {s with steps:=v}:=h.set _ _ _ rfl
theorem aH.setValue(h:aH w M s)(v:Int):aH (w.setCell ⟨M,29,none⟩ (.int .i64 v)) M {s with value:=v}:=h.set _ _ _ rfl
theorem aH.vG(h:aH w M s)(v:Value):aH (w.setCell ⟨M,31,none⟩ v) M {s with foot:=v}:=h.set _ _ _ rfl
theorem aH.abc(h:aH w M s)(v:Int):aH (w.setCell ⟨M,32,none⟩ (.int .i64 v)) M {s with e:=v}:=h.set _ _ _ rfl
end
theorem Only.from{S:Nat->Prop}{w w1 w':World}(h:Only S w1 w')(hb:Below w.heap.size w w1):Only S w w':=(oj hb S).x h (fun _ _ h=>h)
def Vs(S:Nat->Prop)(M:Nat)(n:Int)(s':MS)(w:World)(e:Ending)(w':World):Prop:=e=.returned (.int .i64 n)/\aH w' M s'/\Only S w w'
theorem RQ(w:World)(M:Nat)(s:MS)(h:aH w M s)(hs:0<=s.steps)(hs2:s.steps<=10000000)(hlt:s.steps<s.fuel):
  Calls prog 113 #[.pointer (some ⟨M,0,none⟩)] w (Vs (fun k=>k=M) M 0 {s with steps:=s.steps+1} w):=by
 have c1:=h.steps;have c2:=h.fuel;have c3:=h.free 30;have H:=al h;have hn: ¬s.fuel<=s.steps:=by omega
 clear h;go_enter func113,ntmps113;go_wp2;go_quiet(fail);go_wp2;go_ret
 exact⟨rfl,H.o.NC _,lL _ _ _ _ _⟩
theorem RS(w:World)(M:Nat)(s:MS)(h:aH w M s)(hle:s.fuel<=s.steps):
  Calls prog 113 #[.pointer (some ⟨M,0,none⟩)] w (Vs (fun k=>k=M) M 20 s w):=by
 have c1:=h.steps;have c2:=h.fuel;have H:=al h;clear h;go_enter func113,ntmps113;go_wp2;go_quiet(fail);go_wp2;go_ret
 exact⟨rfl,H.o,(ox _ _).drewN _⟩
theorem Vt(w:World)(M:Nat)(s:MS)(h:aH w M s)(x:aO)(a:Nat)(ha:a<8)(jT:x.a=(a:Int)):
  Calls prog 98 #[.pointer (some ⟨M,0,none⟩),x.val] w (Vs (fun k=>k=M) M 0 {s with bI:=oZ s.bI a x.c} w):=by
 obtain⟨dk,xa,xb,xc,xn⟩:=x;simp only at jT;subst jT;unfold aO.val;simp only;have hb:=pR w (.cells #[.int .i64 dk,.int .i64 (a:Int),.int .i64 xb,.int .i64 xc,.int .i64 xn] 93);have k0:=an w (.cells #[.int .i64 dk,.int .i64 (a:Int),.int .i64 xb,.int .i64 xc,.int .i64 xn] 93);have i1:(0:Int)<=(a:Int):=by omega
 have i2:(a:Int)<8:=by omega
 go_enter func98,ntmps98;go_upto_region 1 with fail;generalize w.alloc (.cells #[.int .i64 dk,.int .i64 (a:Int),.int .i64 xb,.int .i64 xc,.int .i64 xn] 93)=w1 at hb k0⊢;have h1:=h.below hb;have hM:=h.lt;have c1:=h1.bI ha;have c2:=h1.free (18+a);have hs:M<w.heap.size:=hM;obtain⟨R,hR⟩:=qt (w.heap.size);rw[hR]at k0⊢;have b1:w1.cell? ⟨R,1,none⟩=some (.int .i64 (a:Int)):=by simp[World.cell?,k0]
 have b3:w1.cell? ⟨R,3,none⟩=some (.int .i64 xc):=by simp[World.cell?,k0]
 have hne: ¬R=M:=by omega
 have H:=al (ab h1 hb);clear h h1 hb k0 hR
 go_region
 go_wp2;go_ret
 exact⟨rfl,H.o.1.jx ha _,(lL w1 1 M _ _).from H.o.2⟩
theorem YN(x0 x1 x2 y0 y1 y2:Int)(w:World):(Op.equalIn 10000 56 (.agg #[.int .i64 x0,.int .i64 x1,.int .i64 x2]) (.agg #[.int .i64 y0,.int .i64 y1,.int .i64 y2])).run prog w=.ok (decide (x0=y0/\x1=y1/\x2=y2)) w:=by
 have hs:prog.stoodInHeld 56=false:=by kernel_rfl
 have hf:prog.underlying 56=some (.struct (prog.fieldsOf 56)):=by unfold Program.fieldsOf;rw[underlying56]
 rw[run_equalIn_agg w 9999 56 _ _ hf hs];unfold Program.fieldsOf;rw[underlying56];simp[Op.eqFields,go_sem,underlying3];by_cases h1:x0=y0<;>by_cases h2:x1=y1<;>by_cases h3:x2=y2<;>simp[h1,h2,h3]
theorem Tryz.NG:prog.eqGuardType prog.depth 56=false:=by kernel_rfl
theorem RT:iR 0 0 0=23:=by decide
theorem DW(w:World)(most n f:Int):Calls prog 40 #[rK most n f] w fun e w'=>e=.returned (.int .i64 (iR most n f))/\Below w.heap.size w w':=by
 unfold rK;obtain⟨hb0,k0⟩:=qn w (.cells #[.int .i64 most,.int .i64 n,.int .i64 f] 56);have heq:=YN most n f 0 0 0;have hgd:=Tryz.NG;go_enter func40,ntmps40;go_upto_region 1 with fail;generalize w.alloc (.cells #[.int .i64 most,.int .i64 n,.int .i64 f] 56)=w1 at hb0 k0⊢;obtain⟨R,hR⟩:=qt (w.heap.size);rw[hR]at k0⊢;have HR:=al (ab hR hb0);have z0:w1.cell? ⟨R,0,none⟩=some (.int .i64 most):=by simp[World.cell?,k0]
 have z1:w1.cell? ⟨R,1,none⟩=some (.int .i64 n):=by simp[World.cell?,k0]
 have z2:w1.cell? ⟨R,2,none⟩=some (.int .i64 f):=by simp[World.cell?,k0]
 clear hb0 hR;by_cases h:most=0/\n=0/\f=0
 ·have hd:decide (most=0/\n=0/\f=0)=true:=by simpa using h
  rw[hd]at heq;have H:=al (show iR most n f=23 by obtain⟨rfl,rfl,rfl⟩:=h;exact RT);clear hd h;go_wp2_with fail;clear heq hgd;go_ret
  exact⟨by rw[H.o];rfl,HR.o.2⟩
 ·have hd:decide (most=0/\n=0/\f=0)=false:=by simpa using h
  rw[hd]at heq;clear hd h;have HE:=al (Dz w1 most n f);go_wp2_with fail;clear heq hgd;refine HE.o.m ?_;rintro e w2 h;have HB:=al (HR.o.2.x (h.1.m HR.o.2.size));by_cases h0:iR most n f=0
  ·obtain⟨T,rfl,_⟩:=h.2.1 h0;have H0:=al h0;clear h h0;go_wp2_with fail;go_ret
   exact⟨by rw[H0.o];rfl,HB.o⟩
  ·obtain rfl:=h.2.2 h0;clear h h0;go_wp2_with fail;go_ret
   exact⟨rfl,HB.o⟩
theorem T6{w:World}{B:Nat}{a0 a1 a2 v0 v1 v2:Value}{t:TypeId}(h:w.heap[B]?=some (.cells #[a0,a1,a2] t (0,0))):
  (((w.setCell ⟨B,0,none⟩ v0).setCell ⟨B,1,none⟩ v1).setCell ⟨B,2,none⟩ v2).heap[B]?=some (.cells #[v0,v1,v2] t (0,0)):=by
 have h0:=db w B 0 _ t v0 h;have h1:=db _ B 1 _ t v1 h0;have h2:=db _ B 2 _ t v2 h1;simpa using h2
end Go.Proofs.YtmkofmeojbcakaaGreatDoor
