import Derived.Test.YtagemonojdgbdaaGreatDoorF13
import Derived.Deep.RegionHeld3
namespace Go.Proofs.YtagemonojdgbdaaGreatDoor
set_option maxRecDepth 100000
open Go.RowKit
@[go_sem] theorem Pq {P:Program} {w:World} {a:Addr} {m:Mode} (f:Fn) (x y:Array Value):(store a (.func f x y) m).run P w=stored P w a (.func f x y) m:=run_store P w a _ m rfl
@[go_sem] theorem JU {P:Program} {w:World} {a:Addr} {m:Mode}:(store a .nilFunc m).run P w=stored P w a .nilFunc m:=run_store P w a _ m rfl
structure MS where
 ops:Value
 pc:Int
 bj:Nat->Int
 b:Value
 fuel:Int
 may:Value
 value:Int
 steps:Int
 foot:Value
 e:Int
def ov(f:FuncId):Value:=.func (.func f) #[] #[]
def MS.cells(s:MS):Array Value:= #[s.ops,.nilFunc,ov 99,ov 100,ov 101,ov 102,ov 103,ov 104,ov 105,ov 106,ov 107,ov 108,ov 109,ov 110,ov 111,ov 112,ov 113,
 .int .i64 s.pc,.int .i64 (s.bj 0),.int .i64 (s.bj 1),.int .i64 (s.bj 2),.int .i64 (s.bj 3),.int .i64 (s.bj 4),.int .i64 (s.bj 5),.int .i64 (s.bj 6),.int .i64 (s.bj 7),s.b,.int .i64 s.fuel,s.may,.int .i64 s.value,.int .i64 s.steps,s.foot,.int .i64 s.e]
def aD(w:World)(M:Nat)(s:MS):Prop:=w.heap[M]?=some (.cells s.cells 169 (0,0))
def ko(f:Nat->Int)(i:Nat)(v:Int):Nat->Int:=fun j=>if j=i then v else f j
section
variable{w w':World}{M:Nat}{s:MS}
theorem aD.is(h:aD w M s):w.heap[M]?=some (.cells s.cells 169 (0,0)):=h
theorem aD.lt(h:aD w M s):M<w.heap.size:=(da.1 h).1
theorem aD.only{S:Nat->Prop}(h:aD w M s)(ho:Only S w w')(hS: ¬S M):aD w' M s:=ho.heap h hS
theorem aD.below(h:aD w M s)(hb:Below w.heap.size w w'):aD w' M s:=h.only (oy hb fun _=>False) (fun h=>h)
theorem aD.ops(h:aD w M s):w.cell? ⟨M,0,none⟩=some s.ops:=by simp[World.cell?,h.is,MS.cells]
theorem aD.pc(h:aD w M s):w.cell? ⟨M,17,none⟩=some (.int .i64 s.pc):=by simp[World.cell?,h.is,MS.cells]
theorem aD.b(h:aD w M s):w.cell? ⟨M,26,none⟩=some s.b:=by simp[World.cell?,h.is,MS.cells]
theorem aD.fuel(h:aD w M s):w.cell? ⟨M,27,none⟩=some (.int .i64 s.fuel):=by simp[World.cell?,h.is,MS.cells]
theorem aD.may(h:aD w M s):w.cell? ⟨M,28,none⟩=some s.may:=by simp[World.cell?,h.is,MS.cells]
theorem aD.value(h:aD w M s):w.cell? ⟨M,29,none⟩=some (.int .i64 s.value):=by simp[World.cell?,h.is,MS.cells]
theorem aD.steps(h:aD w M s):w.cell? ⟨M,30,none⟩=some (.int .i64 s.steps):=by simp[World.cell?,h.is,MS.cells]
theorem aD.foot(h:aD w M s):w.cell? ⟨M,31,none⟩=some s.foot:=by simp[World.cell?,h.is,MS.cells]
theorem aD.e(h:aD w M s):w.cell? ⟨M,32,none⟩=some (.int .i64 s.e):=by simp[World.cell?,h.is,MS.cells]
theorem aD.bj(h:aD w M s){i:Nat}(hi:i<8):w.cell? ⟨M,18+i,none⟩=some (.int .i64 (s.bj i)):=by
 match i,hi with
 |0,_|1,_|2,_|3,_|4,_|5,_|6,_|7,_=>simp[World.cell?,h.is,MS.cells]
theorem aD.free(h:aD w M s)(i:Nat):w.frozen? ⟨M,i,none⟩=false:=by simp[World.frozen?,h.is]
theorem aD.set(h:aD w M s)(i:Nat)(v:Value)(s':MS)(e:s.cells.setIfInBounds i v=s'.cells):aD (w.setCell ⟨M,i,none⟩ v) M s':=by have:=dr w M i _ _ v h;rw[e]at this;exact this
theorem aD.ja(h:aD w M s){i:Nat}(hi:i<8)(v:Int):aD (w.setCell ⟨M,18+i,none⟩ (.int .i64 v)) M {s with bj:=ko s.bj i v}:=by
 refine h.set _ _ _ ?_
 match i,hi with
 |0,_|1,_|2,_|3,_|4,_|5,_|6,_|7,_=>rfl
theorem aD.GI(h:aD w M s)(v:Int):aD (w.setCell ⟨M,17,none⟩ (.int .i64 v)) M {s with pc:=v}:=h.set _ _ _ rfl
theorem aD.Md(h:aD w M s)(v:Int):aD (w.setCell ⟨M,30,none⟩ (.int .i64 v)) M {s with steps:=v}:=h.set _ _ _ rfl
theorem aD.setValue(h:aD w M s)(v:Int):aD (w.setCell ⟨M,29,none⟩ (.int .i64 v)) M {s with value:=v}:=h.set _ _ _ rfl
theorem aD.tv(h:aD w M s)(v:Value):aD (w.setCell ⟨M,31,none⟩ v) M {s with foot:=v}:=h.set _ _ _ rfl
theorem aD.Zz(h:aD w M s)(v:Int):aD (w.setCell ⟨M,32,none⟩ (.int .i64 v)) M {s with e:=v}:=h.set _ _ _ rfl
end
theorem Only.from{S:Nat->Prop}{w w1 w':World}(h:Only S w1 w')(hb:Below w.heap.size w w1):Only S w w':=(oy hb S).trans h (fun _ _ h=>h)
def Sy(S:Nat->Prop)(M:Nat)(n:Int)(s':MS)(w:World)(e:Ending)(w':World):Prop:=e=.returned (.int .i64 n)/\aD w' M s'/\Only S w w'
theorem Ps(w:World)(M:Nat)(s:MS)(h:aD w M s)(hs:0<=s.steps)(hs2:s.steps<=10000000)(hlt:s.steps<s.fuel):
  Calls Tryz.prog 114 #[.pointer (some ⟨M,0,none⟩)] w (Sy (fun k=>k=M) M 0 {s with steps:=s.steps+1} w):=by
 have c1:=h.steps;have c2:=h.fuel;have c3:=h.free 30;have H:=al h;have hn: ¬s.fuel<=s.steps:=by omega
 clear h;go_enter Tryz.func114,Tryz.ntmps114;go_wp2_with fail;go_quiet(fail);go_wp2_with fail;go_ret
 exact⟨rfl,H.out.Md _,kH _ _ _ _ _⟩
theorem Pt(w:World)(M:Nat)(s:MS)(h:aD w M s)(hle:s.fuel<=s.steps):
  Calls Tryz.prog 114 #[.pointer (some ⟨M,0,none⟩)] w (Sy (fun k=>k=M) M 20 s w):=by
 have c1:=h.steps;have c2:=h.fuel;have H:=al h;clear h;go_enter Tryz.func114,Tryz.ntmps114;go_wp2_with fail;go_quiet(fail);go_wp2_with fail;go_ret
 exact⟨rfl,H.out,(oB _ _).drewN _⟩
theorem Sz(w:World)(M:Nat)(s:MS)(h:aD w M s)(x:aH)(a:Nat)(ha:a<8)(jA:x.a=(a:Int)):
  Calls Tryz.prog 99 #[.pointer (some ⟨M,0,none⟩),x.val] w (Sy (fun k=>k=M) M 0 {s with bj:=ko s.bj a x.c} w):=by
 obtain⟨dk,xa,xb,xc,xn⟩:=x;simp only at jA;subst jA;unfold aH.val;simp only;have hb:=iD w (.cells #[.int .i64 dk,.int .i64 (a:Int),.int .i64 xb,.int .i64 xc,.int .i64 xn] 104);have k0:=an w (.cells #[.int .i64 dk,.int .i64 (a:Int),.int .i64 xb,.int .i64 xc,.int .i64 xn] 104);have i1:(0:Int)<=(a:Int):=by omega
 have i2:(a:Int)<8:=by omega
 go_enter Tryz.func99,Tryz.ntmps99;go_upto_region 1 with fail;generalize w.alloc (.cells #[.int .i64 dk,.int .i64 (a:Int),.int .i64 xb,.int .i64 xc,.int .i64 xn] 104)=w1 at hb k0⊢;have h1:=h.below hb;have hM:=h.lt;have c1:=h1.bj ha;have c2:=h1.free (18+a);have hs:M<w.heap.size:=hM;obtain⟨R,hR⟩: ∃x,w.heap.size=x:=⟨_,rfl⟩;rw[hR]at k0⊢;have b1:w1.cell? ⟨R,1,none⟩=some (.int .i64 (a:Int)):=by simp[World.cell?,k0]
 have b3:w1.cell? ⟨R,3,none⟩=some (.int .i64 xc):=by simp[World.cell?,k0]
 have hne: ¬R=M:=by omega
 have H:=al (ab h1 hb);clear h h1 hb k0 hR
 go_region
 go_wp2_with fail;go_ret
 exact⟨rfl,H.out.1.ja ha _,(kH w1 1 M _ _).from H.out.2⟩
end Go.Proofs.YtagemonojdgbdaaGreatDoor
