import Derived.Test.YtehccbdajiiaaaaGreatDoorP11
import Derived.Test.YtehccbdajiiaaaaGreatDoorP13
import Derived.Test.YtehccbdajiiaaaaGreatDoorP14
import Derived.Deep.RegionHeld3
namespace Go.Proofs.YtehccbdajiiaaaaGreatDoor
open Go.Proofs.Tryz
set_option maxRecDepth 100000
set_option maxHeartbeats 16000000
open Go.RowKit
@[go_sem] theorem S7 {P:Program} {w:World} {a:Addr} {m:Mode} (f:Fn) (x y:Array Value):(store a (.func f x y) m).run P w=stored P w a (.func f x y) m:=run_store P w a _ m rfl
@[go_sem] theorem M3 {P:Program} {w:World} {a:Addr} {m:Mode}:(store a .nilFunc m).run P w=stored P w a .nilFunc m:=run_store P w a _ m rfl
structure MS where
 ops:Value
 pc:Int
 bA:Nat->Int
 b:Value
 fuel:Int
 may:Value
 value:Int
 steps:Int
 foot:Value
 e:Int
def pK(f:FuncId):Value:=.func (.func f) #[] #[]
def MS.cells(s:MS):Array Value:= #[s.ops,.nilFunc,pK 100,pK 101,pK 102,pK 103,pK 104,pK 105,pK 106,pK 107,pK 108,pK 109,pK 110,pK 111,pK 112,pK 113,pK 114,
 rv s.pc,rv (s.bA 0),rv (s.bA 1),rv (s.bA 2),rv (s.bA 3),rv (s.bA 4),rv (s.bA 5),rv (s.bA 6),rv (s.bA 7),s.b,rv s.fuel,s.may,rv s.value,rv s.steps,s.foot,rv s.e]
def aK(w:World)(M:Nat)(s:MS):Prop:=w.heap[M]?=some (.cells s.cells 151 (0,0))
def og(f:Nat->Int)(i:Nat)(v:Int):Nat->Int:=fun j=>if j=i then v else f j
section
variable{w w':World}{M:Nat}{s:MS}
theorem aK.is(h:aK w M s):w.heap[M]?=some (.cells s.cells 151 (0,0)):=h
theorem aK.lt(h:aK w M s):M<w.heap.size:=(cq.1 h).1
theorem aK.only{S:Nat->Prop}(h:aK w M s)(b:Only S w w')(a: ¬S M):aK w' M s:=b.heap h a
theorem aK.below(h:aK w M s)(a:Below w.heap.size w w'):aK w' M s:=h.only (oS a fun _=>False) (fun h=>h)
theorem aK.ops(h:aK w M s):w.cell? ⟨M,0,none⟩=some s.ops:=by simp[World.cell?,h.is,MS.cells]
theorem aK.pc(h:aK w M s):w.cell? ⟨M,17,none⟩=some (rv s.pc):=by simp[World.cell?,h.is,MS.cells]
theorem aK.b(h:aK w M s):w.cell? ⟨M,26,none⟩=some s.b:=by simp[World.cell?,h.is,MS.cells]
theorem aK.fuel(h:aK w M s):w.cell? ⟨M,27,none⟩=some (rv s.fuel):=by simp[World.cell?,h.is,MS.cells]
theorem aK.may(h:aK w M s):w.cell? ⟨M,28,none⟩=some s.may:=by simp[World.cell?,h.is,MS.cells]
theorem aK.value(h:aK w M s):w.cell? ⟨M,29,none⟩=some (rv s.value):=by simp[World.cell?,h.is,MS.cells]
theorem aK.steps(h:aK w M s):w.cell? ⟨M,30,none⟩=some (rv s.steps):=by simp[World.cell?,h.is,MS.cells]
theorem aK.foot(h:aK w M s):w.cell? ⟨M,31,none⟩=some s.foot:=by simp[World.cell?,h.is,MS.cells]
theorem aK.e(h:aK w M s):w.cell? ⟨M,32,none⟩=some (rv s.e):=by simp[World.cell?,h.is,MS.cells]
theorem aK.bA(h:aK w M s){i:Nat}(hi:i<8):w.cell? ⟨M,18+i,none⟩=some (rv (s.bA i)):=by
 match i,hi with
 |0,_|1,_|2,_|3,_|4,_|5,_|6,_|7,_=>simp[World.cell?,h.is,MS.cells]
theorem aK.free(h:aK w M s)(i:Nat):w.frozen? ⟨M,i,none⟩=false:=by simp[World.frozen?,h.is]
theorem aK.set(h:aK w M s)(i:Nat)(v:Value)(s':MS)(e:s.cells.setIfInBounds i v=s'.cells):aK (w.setCell ⟨M,i,none⟩ v) M s':=by have:=dd w M i _ _ v h;rw[e]at this;exact this
theorem aK.jE(h:aK w M s){i:Nat}(hi:i<8)(v:Int):aK (w.setCell ⟨M,18+i,none⟩ (rv v)) M {s with bA:=og s.bA i v}:=by
 refine h.set _ _ _ ?_
 match i,hi with
 |0,_|1,_|2,_|3,_|4,_|5,_|6,_|7,_=>rfl
theorem aK.J5(h:aK w M s)(v:Int):aK (w.setCell ⟨M,17,none⟩ (rv v)) M {s with pc:=v}:=h.set _ _ _ rfl
theorem aK.Pv(h:aK w M s)(v:Int):aK (w.setCell ⟨M,30,none⟩ (rv v)) M {s with steps:=v}:=h.set _ _ _ rfl
theorem aK.setValue(h:aK w M s)(v:Int):aK (w.setCell ⟨M,29,none⟩ (rv v)) M {s with value:=v}:=h.set _ _ _ rfl
theorem aK.vE(h:aK w M s)(v:Value):aK (w.setCell ⟨M,31,none⟩ v) M {s with foot:=v}:=h.set _ _ _ rfl
theorem aK.acz(h:aK w M s)(v:Int):aK (w.setCell ⟨M,32,none⟩ (rv v)) M {s with e:=v}:=h.set _ _ _ rfl
end
theorem Only.from{S:Nat->Prop}{w w1 w':World}(h:Only S w1 w')(a:Below w.heap.size w w1):Only S w w':=(oS a S).x h (fun _ _ h=>h)
def WR(S:Nat->Prop)(M:Nat)(n:Int)(s':MS)(w:World)(e:Ending)(w':World):Prop:=e=.returned (rv n)/\aK w' M s'/\Only S w w'
theorem S9(w:World)(M:Nat)(s:MS)(h:aK w M s)(d:0<=s.steps)(a:s.steps<=10000000)(b:s.steps<s.fuel):
  Calls prog 115 #[r7 M] w (WR (fun k=>k=M) M 0 {s with steps:=s.steps+1} w):=by
 have c:=h.steps;have e:=h.fuel;have g:=h.free 30;have H:=al h;have f: ¬s.fuel<=s.steps:=by omega
 clear h;go_enter func115,ntmps115;go_wp2_with fail;go_quiet(fail);go_wp2_with fail;go_ret
 exact⟨rfl,H.o.Pv _,lV _ _ _ _ _⟩
theorem Ta(w:World)(M:Nat)(s:MS)(h:aK w M s)(a:s.fuel<=s.steps):
  Calls prog 115 #[r7 M] w (WR (fun k=>k=M) M 20 s w):=by
 have c:=h.steps;have b:=h.fuel;have H:=al h;clear h;go_enter func115,ntmps115;go_wp2_with fail;go_quiet(fail);go_wp2_with fail;go_ret
 exact⟨rfl,H.o,(oT _ _).drewN _⟩
theorem WS(w:World)(M:Nat)(s:MS)(m:aK w M s)(x:aX)(a:Nat)(j:a<8)(b:x.a=(a:Int)):
  Calls prog 100 #[r7 M,x.val] w (WR (fun k=>k=M) M 0 {s with bA:=og s.bA a x.c} w):=by
 obtain⟨g,r,f,e,i⟩:=x;simp only at b;subst b;unfold aX.val;simp only;have d:=pA w (sh g (a:Int) f e i);have b:=an w (sh g (a:Int) f e i);have p:(0:Int)<=(a:Int):=by omega
 have v:(a:Int)<8:=by omega
 go_enter func100,ntmps100;go_upto_region 1 with fail;generalize w.alloc (sh g (a:Int) f e i)=h at d b⊢;have c:=m.below d;have l:=m.lt;have t:=c.bA j;have u:=c.free (18+a);have q:M<w.heap.size:=l;obtain⟨R,k⟩:=rl (w.heap.size);rw[k]at b⊢;have y:h.cell? ⟨R,1,none⟩=some (rv (a:Int)):=by simp[World.cell?,b]
 have o:h.cell? ⟨R,3,none⟩=some (rv e):=by simp[World.cell?,b]
 have n: ¬R=M:=by omega
 have H:=AI c d;clear m c d b k
 go_region
 go_wp2_with fail;go_ret
 exact⟨rfl,H.o.1.jE j _,(lV h 1 M _ _).from H.o.2⟩
def Rm(l:List Int):List Value:=l.map (Value.int .i64)
theorem WT{w:World}{F:Nat->Prop}{A:Option Addr}{n c:Nat}{xs:List Int}(s:Rd w F (.slice A n c) (Rm xs)):xs.length=n/\n<=c/\c<=maxLen/\ ∀k x,xs[k]?=some x-> ∃d o,A=some ⟨d,o,none⟩/\F d/\w.cell? ⟨d,o+k,none⟩=some (rv x):=by obtain⟨p,q,m,j,a,f,e,h⟩:=s;injection j with b g i;subst b g i;simp[Rm]at a;refine⟨a,f,e,fun k x b=>?_⟩;have l:=(bd.1 b).1;obtain⟨d,o,r,g,i⟩:=h (by omega);exact⟨d,o,r,g,i k (rv x) (by simp[Rm,b])⟩
theorem Bd{w:World}{F:Nat->Prop}{v:Value}{xs:List Int}(h:Rd w F v (Rm xs)): ∃A c,v=.slice A xs.length c/\xs.length<=c/\c<=maxLen:=by obtain⟨c,g,e,d,a,f,b,_⟩:=h;simp[Rm]at a;exact⟨c,e,by rw[a];exact d,by omega,b⟩
def iK(a:List UInt8):Option (Int×List UInt8):=(BW a).map fun x=>((x.1:Int),x.2)
def dJ(a:List UInt8->Option (Int×List UInt8)):Nat->List UInt8->Option (List Int×List UInt8)
 |0,bs=>some ([],bs)
 |k+1,bs=>match dJ a k bs with
  |some (ns,r)=>match a r with
   |some (n,r')=>some (ns++[n],r')
   |none=>none
  |none=>none
theorem jx{c:List UInt8->Option (Int×List UInt8)}: ∀{k:Nat} {b:List UInt8} {a:List Int} {r:List UInt8},dJ c k b=some (a,r)->a.length=k
 |0,b,a,r,h=>by simp[dJ]at h;rw[h.1];rfl
 |k+1,b,a,r,h=>by
  rw[dJ]at h
  cases hk:dJ c k b with
  |none=>rw[hk]at h;simp at h
  |some x=>
   obtain⟨a,q⟩:=x;rw[hk]at h;simp only at h
   cases hq:c q with
   |none=>rw[hq]at h;simp at h
   |some y=>obtain⟨n,b⟩:=y;rw[hq]at h;simp at h;rw[<-h.1,gk,jx hk];rfl
theorem s8{b:List UInt8->Option (Int×List UInt8)}{k:Nat}{a:List UInt8}(h:dJ b k a=none): ∀m,dJ b (k+m) a=none
 |0=>h
 |m+1=>by rw[<-gO,dJ,s8 h m]
def setMany(cs:Array Value)(os:List Nat)(a:List Int):Array Value:=(os.zip a).foldl (fun c x=>c.setIfInBounds x.1 (rv x.2)) cs
theorem bI(os:List Nat): ∀(a:List Int) (cs:Array Value),(setMany cs os a).size=cs.size:=by
 induction os with
 |nil=>intro a cs;simp[setMany]
 |cons o os b=>
  intro a cs
  cases a with
  |nil=>simp[setMany]
  |cons n a=>have:=b a (cs.setIfInBounds o (rv n));unfold setMany at this⊢;simp only[List.zip_cons_cons,List.foldl_cons];rw[this];simp
theorem CD{os:List Nat}{k o:Nat}(b:os[k]?=some o){a:List Int}(e:a.length=k)(cs:Array Value)(n:Int):setMany cs (os.take (k+1)) (a++[n])=(setMany cs (os.take k) a).setIfInBounds o (rv n):=by
 have c:os.take (k+1)=os.take k++[o]:=by rw[ir,b];rfl
 have d:(os.take k).length=a.length:=by have:=(bd.1 b).1;simp;omega
 unfold setMany;rw[c,List.zip_append d,List.foldl_append];rfl
def aC(T:Nat)(os:List Nat):List Value:=os.map fun o=>.pointer (some ⟨T,o,none⟩)
def Pw(g:List UInt8->Option (Int×List UInt8))(F:Nat->Prop)(b:Nat)(a:List UInt8)(f T:Nat)(os:List Nat)(cs:Array Value)(t:TypeId)(w:World)(e:Ending)(w':World):Prop:=
 Only (fun k=>k=b\/k=T) w w'/\match dJ g os.length (a.drop f)with
  |some (ns,rest)=>e=.returned (.bool true)/\w'.heap[T]?=some (.cells (setMany cs os ns) t (0,0))/\ ∃c,rest=a.drop c/\bp w' F b a c
  |none=>e=.returned (.bool false)/\(∃d:Array Value,d.size=cs.size/\w'.heap[T]?=some (.cells d t (0,0)))/\ ∃c,bp w' F b a c
def EO(f:List UInt8->Option (Int×List UInt8))(F:Nat->Prop)(b:Nat)(a:List UInt8)(e T:Nat)(os:List Nat)(cs:Array Value)(t:TypeId)(w:World)(k:Nat)(w':World):Prop:=
 Only (fun k=>k=b\/k=T) w w'/\ ∃c d,dJ f k (a.drop e)=some (c,a.drop d)/\w'.heap[T]?=some (.cells (setMany cs (os.take k) c) t (0,0))/\bp w' F b a d
theorem Be{e:List UInt8->Option (Int×List UInt8)}{F:Nat->Prop}{b:Nat}{a:List UInt8}{g T:Nat}{os:List Nat}{cs:Array Value}{t:TypeId}{w d w2:World}{k o p f:Nat}{c:List Int}{n:Int}(u: ¬F T)
  (q:Only (fun k=>k=b\/k=T) w d) (h:dJ e k (a.drop g)=some (c,a.drop p)) (s:d.heap[T]?=some (.cells (setMany cs (os.take k) c) t (0,0))) (r:os[k]?=some o)
  (i:Only (fun k=>k=b) d w2) (v:e (a.drop p)=some (n,a.drop f)) (l:bp w2 F b a f) (x:b≠T):
  EO e F b a g T os cs t w (k+1) (w2.setCell ⟨T,o,none⟩ (rv n)):=by
 have j:w2.heap[T]?=some (.cells (setMany cs (os.take k) c) t (0,0)):=i.heap s (fun y=>x y.symm);refine⟨(q.x i (fun _ _ m=>.inl m)).setCell (p:=⟨T,o,none⟩) (fun _=>.inr rfl) _,c++[n],f,?_,?_,l.only (Only.aR w2 T o _) (fun k m y=>u (y▸m))⟩
 ·rw[dJ,h];simp only;rw[v]
 ·rw[CD r (jx h)];simp[World.setCell,Array.getElem?_modify,j]
theorem WU(w:World)(F G:Nat->Prop)(b X T:Nat)(d:List UInt8)(f:Nat)(A:Option Addr)(n c:Nat)(os:List Nat)(cs:Array Value)(t:TypeId)(B:bp w F b d f)
  (m:w.cell? ⟨X,0,none⟩=some (.func (.func 86) #[r7 b] #[])) (j:X≠b/\X≠T) (P:Rd w G (.slice A n c) (aC T os)) (p: ∀k,G k->k≠b/\k≠T)
  (o:w.heap[T]?=some (.cells cs t (0,0))) (h: ∀a∈os,a<cs.size) (a: ¬F T):
  Calls prog 148 #[.slice A n c,r7 X] w (Pw iK F b d f T os cs t w):=by
 have l:b≠T:=fun u=>a (u▸(let⟨_,_,hb,_⟩:=B;hb));obtain⟨A',Z,V,D,e,R,C,g⟩:=P;injection D with s q r;subst s q r;simp[aC]at e;subst e;unfold maxLen at C;have e:=BE g p h a m j l;have N:=al (show EO iK F b d f T os cs t w 0 w from⟨oT _ _,[],f,rfl,by simpa[setMany]using o,B⟩);clear g p h a B m j l o;go_enter func148,ntmps148;go_wp2_with fail
 go_loopw [10] (fun i wr=> ∃k:Nat,k<=os.length/\i=rv (k:Int)/\EO iK F b d f T os cs t w k wr) (fun i _=>os.length-(intOf i).toNat)
 case atStart=>exact⟨0,dq _,rfl,N.o⟩
 case round=>
  obtain⟨k,Y,rfl,h,r,z,l,p,o⟩:=hrel;by_cases I:k<os.length
  ·obtain⟨x,g⟩: ∃x,os[k]?=some x:=⟨_,ao I⟩;obtain⟨L,K,rfl,j,m⟩:=e.o.1 (by omega);have dx:=h.cell (p:=⟨L,K+k,none⟩) (m k (.pointer (some ⟨T,x,none⟩)) (by simp[aC,g])) (fun u=>u.elim (e.o.2.1 _ j).1 (e.o.2.1 _ j).2);have W:=h.cell (p:=⟨X,0,none⟩) e.o.q.1 (fun u=>u.elim e.o.q.2.1.1 e.o.q.2.1.2);have E:=e.o.d.1 x (db g);have M:=al (Sr wr F b d z o);have a:=AN h l p g;clear h l p g o m j;go_wp2_with fail;refine M.o.m ?_;rintro u q ⟨j,m⟩;have g:q.heap[T]?=some (.cells (setMany cs (os.take k) r) t (0,0)):=j.heap a.o.d.1 (fun u=>e.o.q.d u.symm);have v:x<(setMany cs (os.take k) r).size:=by rw[bI];exact E
   have H: ∃y,q.cell? ⟨T,x,none⟩=some y:=⟨(setMany cs (os.take k) r)[x],by simp[World.cell?,g,v]⟩;obtain⟨y,Q⟩:=H;have U:q.frozen? ⟨T,x,none⟩=false:=by simp[World.frozen?,g]
   have s:=AI g j;clear g j v
   cases hg:BW (d.drop z)with
   |none=>
    rw[hg]at m;obtain⟨⟨J,v,rfl⟩,g⟩:=m;have S:(J !=0)=true:=by rcases v with rfl|rfl<;>rfl
    have j:=AI (show iK (d.drop z)=none by simp[iK,hg]) g;clear hg g v;go_wp2_with fail;go_ret
    refine⟨a.o.1.x s.o.2 (fun _ _ B=>.inl B),?_⟩
    have O:dJ iK os.length (d.drop f)=none:=by
     have v:dJ iK (k+1) (d.drop f)=none:=by rw[dJ,a.o.2.1];simp only;rw[j.o.1]
     have:=s8 v (os.length-(k+1));rwa[show k+1+(os.length-(k+1))=os.length by omega]at this
    rw[O];exact⟨rfl,⟨_,by rw[bI],s.o.1⟩,z,j.o.2⟩
   |some v=>
    obtain⟨S,O⟩:=v;rw[hg]at m;obtain⟨rfl,J,v,_,g⟩:=m;have j:=AI (show iK (d.drop z)=some ((S:Int),d.drop J) by simp[iK,hg,v]) g;clear hg g v;go_wp2_with fail;go_roundw
    case rel=>exact⟨k+1,by omega,by go_num,Be e.o.t.1 a.o.1 a.o.2.1 a.o.d.1 a.o.t s.o.2 j.o.1 j.o.2 e.o.q.d⟩
    case measure=>simp[intOf];omega
  ·obtain rfl:k=os.length:=by omega
   have a:=AN h l p o;clear h l p o;go_wp2_with fail;go_ret
   refine⟨a.o.1,?_⟩;rw[a.o.2.1];refine⟨rfl,?_,z,rfl,a.o.t⟩;have:=a.o.d.1;rw[gn]at this;exact this
theorem WX(w:World)(F G:Nat->Prop)(b X T:Nat)(d:List UInt8)(f:Nat)(A:Option Addr)(n c:Nat)(os:List Nat)(cs:Array Value)(t:TypeId)(B:bp w F b d f)
  (m:w.cell? ⟨X,0,none⟩=some (.func (.func 87) #[r7 b] #[])) (j:X≠b/\X≠T) (P:Rd w G (.slice A n c) (aC T os)) (p: ∀k,G k->k≠b/\k≠T)
  (o:w.heap[T]?=some (.cells cs t (0,0))) (h: ∀a∈os,a<cs.size) (a: ¬F T):
  Calls prog 148 #[.slice A n c,r7 X] w (Pw mL F b d f T os cs t w):=by
 have l:b≠T:=fun v=>a (v▸(let⟨_,_,hb,_⟩:=B;hb));obtain⟨A',Z,V,E,e,S,D,g⟩:=P;injection E with s q r;subst s q r;simp[aC]at e;subst e;unfold maxLen at D;have e:=BE g p h a m j l;have O:=al (show EO mL F b d f T os cs t w 0 w from⟨oT _ _,[],f,rfl,by simpa[setMany]using o,B⟩);clear g p h a B m j l o;go_enter func148,ntmps148;go_wp2_with fail
 go_loopw [10] (fun i wr=> ∃k:Nat,k<=os.length/\i=rv (k:Int)/\EO mL F b d f T os cs t w k wr) (fun i _=>os.length-(intOf i).toNat)
 case atStart=>exact⟨0,dq _,rfl,O.o⟩
 case round=>
  obtain⟨k,Y,rfl,h,s,C,l,q,p⟩:=hrel;by_cases J:k<os.length
  ·obtain⟨x,g⟩: ∃x,os[k]?=some x:=⟨_,ao J⟩;obtain⟨M,K,rfl,j,m⟩:=e.o.1 (by omega);have dx:=h.cell (p:=⟨M,K+k,none⟩) (m k (.pointer (some ⟨T,x,none⟩)) (by simp[aC,g])) (fun v=>v.elim (e.o.2.1 _ j).1 (e.o.2.1 _ j).2);have W:=h.cell (p:=⟨X,0,none⟩) e.o.q.1 (fun v=>v.elim e.o.q.2.1.1 e.o.q.2.1.2);have H:=e.o.d.1 x (db g);have N:=al (Om wr F b d C p);have a:=AN h l q g;clear h l q g p m j;go_wp2_with fail;refine N.o.m ?_;rintro v r ⟨j,o⟩;have g:r.heap[T]?=some (.cells (setMany cs (os.take k) s) t (0,0)):=j.heap a.o.d.1 (fun v=>e.o.q.d v.symm);have m:x<(setMany cs (os.take k) s).size:=by rw[bI];exact H
   have I: ∃z,r.cell? ⟨T,x,none⟩=some z:=⟨(setMany cs (os.take k) s)[x],by simp[World.cell?,g,m]⟩;obtain⟨z,R⟩:=I;have U:r.frozen? ⟨T,x,none⟩=false:=by simp[World.frozen?,g]
   have u:=AI g j;clear g j m
   cases hg:mL (d.drop C)with
   |none=>
    rw[hg]at o;obtain⟨rfl,g⟩:=o;have j:=AI hg g;clear hg g;go_wp2_with fail;go_ret
    refine⟨a.o.1.x u.o.2 (fun _ _ B=>.inl B),?_⟩
    have y:dJ mL os.length (d.drop f)=none:=by
     have m:dJ mL (k+1) (d.drop f)=none:=by rw[dJ,a.o.2.1];simp only;rw[j.o.1]
     have:=s8 m (os.length-(k+1));rwa[show k+1+(os.length-(k+1))=os.length by omega]at this
    rw[y];exact⟨rfl,⟨_,by rw[bI],u.o.1⟩,C,j.o.2⟩
   |some y=>
    obtain⟨m,Q⟩:=y;rw[hg]at o;obtain⟨rfl,L,y,_,g⟩:=o;have j:=AI (show mL (d.drop C)=some (m,d.drop L) by rw[hg,y]) g;clear hg g y;go_wp2_with fail;go_roundw
    case rel=>exact⟨k+1,by omega,by go_num,Be e.o.t.1 a.o.1 a.o.2.1 a.o.d.1 a.o.t u.o.2 j.o.1 j.o.2 e.o.q.d⟩
    case measure=>simp[intOf];omega
  ·obtain rfl:k=os.length:=by omega
   have a:=AN h l q p;clear h l q p;go_wp2_with fail;go_ret
   refine⟨a.o.1,?_⟩;rw[a.o.2.1];refine⟨rfl,?_,C,rfl,a.o.t⟩;have:=a.o.d.1;rw[gn]at this;exact this
theorem cA(w:World)(k:Fn)(a b:Array Value):Calls prog 85 #[.func k a b] w fun e w'=>e=.returned (.func (.func 148) #[] #[r7 w.heap.size])/\w'=w.alloc (.cells #[.func k a b] 185):=by
 go_enter func85,ntmps85;go_wp2_with fail;go_ret
 exact⟨rfl,rfl⟩
end Go.Proofs.YtehccbdajiiaaaaGreatDoor
