import Derived.Test.YtehccbdajiiaaaaGreatDoorS09
import Derived.Test.YtehccbdajiiaaaaGreatDoorS11
import Derived.Test.YtehccbdajiiaaaaGreatDoorS22
import Derived.Deep.RegionHeld3
namespace Go.Proofs.YtehccbdajiiaaaaGreatDoor
open Go.Proofs.Tryz
set_option maxRecDepth 100000
set_option maxHeartbeats 16000000
open Go.RowKit
@[go_sem] theorem Uj {P:Program} {w:World} {a:Addr} {m:Mode} (f:Fn) (x y:Array Value):(store a (.func f x y) m).run P w=stored P w a (.func f x y) m:=run_store P w a _ m rfl
@[go_sem] theorem N4 {P:Program} {w:World} {a:Addr} {m:Mode}:(store a .nilFunc m).run P w=stored P w a .nilFunc m:=run_store P w a _ m rfl
structure MS where
 ops:Value
 pc:Int
 bD:Nat->Int
 b:Value
 fuel:Int
 may:Value
 value:Int
 steps:Int
 foot:Value
 e:Int
def pZ(f:FuncId):Value:=.func (.func f) #[] #[]
def MS.cells(s:MS):Array Value:= #[s.ops,.nilFunc,pZ 100,pZ 101,pZ 102,pZ 103,pZ 104,pZ 105,pZ 106,pZ 107,pZ 108,pZ 109,pZ 110,pZ 111,pZ 112,pZ 113,pZ 114,
 rm s.pc,rm (s.bD 0),rm (s.bD 1),rm (s.bD 2),rm (s.bD 3),rm (s.bD 4),rm (s.bD 5),rm (s.bD 6),rm (s.bD 7),s.b,rm s.fuel,s.may,rm s.value,rm s.steps,s.foot,rm s.e]
def aK(w:World)(M:Nat)(s:MS):Prop:=w.heap[M]?=some (.cells s.cells 151 (0,0))
def oL(f:Nat->Int)(i:Nat)(v:Int):Nat->Int:=fun j=>if j=i then v else f j
section
variable{w w':World}{M:Nat}{s:MS}
theorem aK.is(h:aK w M s):w.heap[M]?=some (.cells s.cells 151 (0,0)):=h
theorem aK.lt(h:aK w M s):M<w.heap.size:=(cq.1 h).1
theorem aK.only{S:Nat->Prop}(h:aK w M s)(b:Only S w w')(a: ¬S M):aK w' M s:=b.heap h a
theorem aK.below(h:aK w M s)(a:Below w.heap.size w w'):aK w' M s:=h.only (oB a fun _=>False) (fun h=>h)
theorem aK.ops(h:aK w M s):w.cell? ⟨M,0,none⟩=some s.ops:=by simp[World.cell?,h.is,MS.cells]
theorem aK.pc(h:aK w M s):w.cell? ⟨M,17,none⟩=some (rm s.pc):=by simp[World.cell?,h.is,MS.cells]
theorem aK.b(h:aK w M s):w.cell? ⟨M,26,none⟩=some s.b:=by simp[World.cell?,h.is,MS.cells]
theorem aK.fuel(h:aK w M s):w.cell? ⟨M,27,none⟩=some (rm s.fuel):=by simp[World.cell?,h.is,MS.cells]
theorem aK.may(h:aK w M s):w.cell? ⟨M,28,none⟩=some s.may:=by simp[World.cell?,h.is,MS.cells]
theorem aK.value(h:aK w M s):w.cell? ⟨M,29,none⟩=some (rm s.value):=by simp[World.cell?,h.is,MS.cells]
theorem aK.steps(h:aK w M s):w.cell? ⟨M,30,none⟩=some (rm s.steps):=by simp[World.cell?,h.is,MS.cells]
theorem aK.foot(h:aK w M s):w.cell? ⟨M,31,none⟩=some s.foot:=by simp[World.cell?,h.is,MS.cells]
theorem aK.e(h:aK w M s):w.cell? ⟨M,32,none⟩=some (rm s.e):=by simp[World.cell?,h.is,MS.cells]
theorem aK.bD(h:aK w M s){i:Nat}(hi:i<8):w.cell? ⟨M,18+i,none⟩=some (rm (s.bD i)):=by
 match i,hi with
 |0,_|1,_|2,_|3,_|4,_|5,_|6,_|7,_=>simp[World.cell?,h.is,MS.cells]
theorem aK.free(h:aK w M s)(i:Nat):w.frozen? ⟨M,i,none⟩=false:=by simp[World.frozen?,h.is]
theorem aK.set(h:aK w M s)(i:Nat)(v:Value)(s':MS)(e:s.cells.setIfInBounds i v=s'.cells):aK (w.setCell ⟨M,i,none⟩ v) M s':=by have:=dp w M i _ _ v h;rw[e]at this;exact this
theorem aK.jL(h:aK w M s){i:Nat}(hi:i<8)(v:Int):aK (w.setCell ⟨M,18+i,none⟩ (rm v)) M {s with bD:=oL s.bD i v}:=by
 refine h.set _ _ _ ?_
 match i,hi with
 |0,_|1,_|2,_|3,_|4,_|5,_|6,_|7,_=>rfl
theorem aK.KS(h:aK w M s)(v:Int):aK (w.setCell ⟨M,17,none⟩ (rm v)) M {s with pc:=v}:=h.set _ _ _ rfl
theorem aK.Qn(h:aK w M s)(v:Int):aK (w.setCell ⟨M,30,none⟩ (rm v)) M {s with steps:=v}:=h.set _ _ _ rfl
theorem aK.setValue(h:aK w M s)(v:Int):aK (w.setCell ⟨M,29,none⟩ (rm v)) M {s with value:=v}:=h.set _ _ _ rfl
theorem aK.vY(h:aK w M s)(v:Value):aK (w.setCell ⟨M,31,none⟩ v) M {s with foot:=v}:=h.set _ _ _ rfl
theorem aK.acY(h:aK w M s)(v:Int):aK (w.setCell ⟨M,32,none⟩ (rm v)) M {s with e:=v}:=h.set _ _ _ rfl
end
theorem Only.from{S:Nat->Prop}{w w1 w':World}(h:Only S w1 w')(a:Below w.heap.size w w1):Only S w w':=(oB a S).x h (fun _ _ h=>h)
def Yd(S:Nat->Prop)(M:Nat)(n:Int)(s':MS)(w:World)(e:Ending)(w':World):Prop:=e=.returned (rm n)/\aK w' M s'/\Only S w w'
theorem Uk(w:World)(M:Nat)(s:MS)(h:aK w M s)(e:0<=s.steps)(b:s.steps<=10000000)(a:s.steps<s.fuel):
  Calls prog 115 #[rv M] w (Yd (fun k=>k=M) M 0 {s with steps:=s.steps+1} w):=by
 have c:=h.steps;have g:=h.fuel;have f:=h.free 30;have H:=al h;have d: ¬s.fuel<=s.steps:=by omega
 clear h;go_enter func115,ntmps115;go_wp2_with fail;go_quiet(fail);go_wp2_with fail;go_ret
 exact⟨rfl,H.o.Qn _,ma _ _ _ _ _⟩
theorem Ul(w:World)(M:Nat)(s:MS)(h:aK w M s)(a:s.fuel<=s.steps):
  Calls prog 115 #[rv M] w (Yd (fun k=>k=M) M 20 s w):=by
 have b:=h.steps;have c:=h.fuel;have H:=al h;clear h;go_enter func115,ntmps115;go_wp2_with fail;go_quiet(fail);go_wp2_with fail;go_ret
 exact⟨rfl,H.o,(oE _ _).drewN _⟩
theorem Ye(w:World)(M:Nat)(s:MS)(m:aK w M s)(x:aX)(a:Nat)(k:a<8)(b:x.a=(a:Int)):
  Calls prog 100 #[rv M,x.val] w (Yd (fun c=>c=M) M 0 {s with bD:=oL s.bD a x.c} w):=by
 obtain⟨h,r,f,c,i⟩:=x;simp only at b;subst b;unfold aX.val;simp only;have e:=pR w (sa h (a:Int) f c i);have b:=an w (sa h (a:Int) f c i);have t:(0:Int)<=(a:Int):=by omega
 have u:(a:Int)<8:=by omega
 go_enter func100,ntmps100;go_upto_region 1 with fail;generalize w.alloc (sa h (a:Int) f c i)=g at e b⊢;have d:=m.below e;have l:=m.lt;have o:=d.bD k;have q:=d.free (18+a);have p:M<w.heap.size:=l;obtain⟨R,j⟩:=rk (w.heap.size);rw[j]at b⊢;have y:g.cell? ⟨R,1,none⟩=some (rm (a:Int)):=by simp[World.cell?,b]
 have v:g.cell? ⟨R,3,none⟩=some (rm c):=by simp[World.cell?,b]
 have n: ¬R=M:=by omega
 have H:=AD d e;clear m d e b j
 go_region
 go_wp2_with fail;go_ret
 exact⟨rfl,H.o.1.jL k _,(ma g 1 M _ _).from H.o.2⟩
def SC(l:List Int):List Value:=l.map (Value.int .i64)
theorem Yf{w:World}{F:Nat->Prop}{A:Option Addr}{n c:Nat}{xs:List Int}(s:Rd w F (.slice A n c) (SC xs)):xs.length=n/\n<=c/\c<=maxLen/\ ∀k x,xs[k]?=some x-> ∃d o,A=some ⟨d,o,none⟩/\F d/\w.cell? ⟨d,o+k,none⟩=some (rm x):=by obtain⟨p,q,m,g,b,e,h,i⟩:=s;injection g with j f a;subst j f a;simp[SC]at b;refine⟨b,e,h,fun k x a=>?_⟩;have l:=(aw.1 a).1;obtain⟨d,o,r,f,j⟩:=i (by omega);exact⟨d,o,r,f,j k (rm x) (by simp[SC,a])⟩
theorem BN{w:World}{F:Nat->Prop}{v:Value}{xs:List Int}(h:Rd w F v (SC xs)): ∃A c,v=.slice A xs.length c/\xs.length<=c/\c<=maxLen:=by obtain⟨d,f,e,b,a,g,c,_⟩:=h;simp[SC]at a;exact⟨d,e,by rw[a];exact b,by omega,c⟩
def iO(a:List UInt8):Option (Int×List UInt8):=(CE a).map fun x=>((x.1:Int),x.2)
def dP(a:List UInt8->Option (Int×List UInt8)):Nat->List UInt8->Option (List Int×List UInt8)
 |0,bs=>some ([],bs)
 |k+1,bs=>match dP a k bs with
  |some (ns,r)=>match a r with
   |some (n,r')=>some (ns++[n],r')
   |none=>none
  |none=>none
theorem jD{c:List UInt8->Option (Int×List UInt8)}: ∀{k:Nat} {b:List UInt8} {a:List Int} {r:List UInt8},dP c k b=some (a,r)->a.length=k
 |0,b,a,r,h=>by simp[dP]at h;rw[h.1];rfl
 |k+1,b,a,r,h=>by
  rw[dP]at h
  cases hk:dP c k b with
  |none=>rw[hk]at h;simp at h
  |some x=>
   obtain⟨b,q⟩:=x;rw[hk]at h;simp only at h
   cases hq:c q with
   |none=>rw[hq]at h;simp at h
   |some y=>obtain⟨n,a⟩:=y;rw[hq]at h;simp at h;rw[<-h.1,gr,jD hk];rfl
theorem tZ{a:List UInt8->Option (Int×List UInt8)}{k:Nat}{b:List UInt8}(h:dP a k b=none): ∀m,dP a (k+m) b=none
 |0=>h
 |m+1=>by rw[<-gC,dP,tZ h m]
def setMany(cs:Array Value)(os:List Nat)(a:List Int):Array Value:=(os.zip a).foldl (fun c x=>c.setIfInBounds x.1 (rm x.2)) cs
theorem bK(os:List Nat): ∀(a:List Int) (cs:Array Value),(setMany cs os a).size=cs.size:=by
 induction os with
 |nil=>intro a cs;simp[setMany]
 |cons o os b=>
  intro a cs
  cases a with
  |nil=>simp[setMany]
  |cons n a=>have:=b a (cs.setIfInBounds o (rm n));unfold setMany at this⊢;simp only[List.zip_cons_cons,List.foldl_cons];rw[this];simp
theorem Dc{os:List Nat}{k o:Nat}(b:os[k]?=some o){a:List Int}(e:a.length=k)(cs:Array Value)(n:Int):setMany cs (os.take (k+1)) (a++[n])=(setMany cs (os.take k) a).setIfInBounds o (rm n):=by
 have d:os.take (k+1)=os.take k++[o]:=by rw[gO,b];rfl
 have c:(os.take k).length=a.length:=by have:=(aw.1 b).1;simp;omega
 unfold setMany;rw[d,List.zip_append c,List.foldl_append];rfl
def aC(T:Nat)(os:List Nat):List Value:=os.map fun o=>.pointer (some ⟨T,o,none⟩)
def Qo(g:List UInt8->Option (Int×List UInt8))(F:Nat->Prop)(b:Nat)(a:List UInt8)(f T:Nat)(os:List Nat)(cs:Array Value)(t:TypeId)(w:World)(e:Ending)(w':World):Prop:=
 Only (fun k=>k=b\/k=T) w w'/\match dP g os.length (a.drop f)with
  |some (ns,rest)=>e=.returned (.bool true)/\w'.heap[T]?=some (.cells (setMany cs os ns) t (0,0))/\ ∃c,rest=a.drop c/\bt w' F b a c
  |none=>e=.returned (.bool false)/\(∃d:Array Value,d.size=cs.size/\w'.heap[T]?=some (.cells d t (0,0)))/\ ∃c,bt w' F b a c
def FH(f:List UInt8->Option (Int×List UInt8))(F:Nat->Prop)(b:Nat)(a:List UInt8)(e T:Nat)(os:List Nat)(cs:Array Value)(t:TypeId)(w:World)(k:Nat)(w':World):Prop:=
 Only (fun k=>k=b\/k=T) w w'/\ ∃d c,dP f k (a.drop e)=some (d,a.drop c)/\w'.heap[T]?=some (.cells (setMany cs (os.take k) d) t (0,0))/\bt w' F b a c
theorem BO{e:List UInt8->Option (Int×List UInt8)}{F:Nat->Prop}{b:Nat}{a:List UInt8}{g T:Nat}{os:List Nat}{cs:Array Value}{t:TypeId}{w f w2:World}{k o p d:Nat}{c:List Int}{n:Int}(q: ¬F T)
  (l:Only (fun k=>k=b\/k=T) w f) (i:dP e k (a.drop g)=some (c,a.drop p)) (u:f.heap[T]?=some (.cells (setMany cs (os.take k) c) t (0,0))) (r:os[k]?=some o)
  (h:Only (fun k=>k=b) f w2) (v:e (a.drop p)=some (n,a.drop d)) (x:bt w2 F b a d) (m:b≠T):
  FH e F b a g T os cs t w (k+1) (w2.setCell ⟨T,o,none⟩ (rm n)):=by
 have j:w2.heap[T]?=some (.cells (setMany cs (os.take k) c) t (0,0)):=h.heap u (fun y=>m y.symm);refine⟨(l.x h (fun _ _ s=>.inl s)).setCell (p:=⟨T,o,none⟩) (fun _=>.inr rfl) _,c++[n],d,?_,?_,x.only (Only.aR w2 T o _) (fun k s y=>q (y▸s))⟩
 ·rw[dP,i];simp only;rw[v]
 ·rw[Dc r (jD i)];simp[World.setCell,Array.getElem?_modify,j]
theorem Yg(w:World)(F G:Nat->Prop)(b X T:Nat)(all:List UInt8)(pos:Nat)(A:Option Addr)(n c:Nat)(os:List Nat)(cs:Array Value)(t:TypeId)(h:bt w F b all pos)
  (hX:w.cell? ⟨X,0,none⟩=some (.func (.func 86) #[rv b] #[])) (hXb:X≠b/\X≠T) (hv:Rd w G (.slice A n c) (aC T os)) (hG: ∀k,G k->k≠b/\k≠T)
  (hT:w.heap[T]?=some (.cells cs t (0,0))) (hos: ∀o∈os,o<cs.size) (hF: ¬F T):
  Calls prog 148 #[.slice A n c,rv X] w (Qo iO F b all pos T os cs t w):=by
 have hbT:b≠T:=fun e=>hF (e▸(let⟨_,_,hb,_⟩:=h;hb));obtain⟨A',n',c',hv',hl,hnc,hcm,hx⟩:=hv;injection hv' with e1 e2 e3;subst e1 e2 e3;simp[aC]at hl;subst hl;unfold maxLen at hcm;have HX:=AS hx hG hos hF hX hXb hbT;have HS:=al (show FH iO F b all pos T os cs t w 0 w from⟨oE _ _,[],pos,rfl,by simpa[setMany]using hT,h⟩);clear hx hG hos hF h hX hXb hbT hT;go_enter func148,ntmps148;go_wp2_with fail
 go_loopw [10] (fun i wr=> ∃k:Nat,k<=os.length/\i=rm (k:Int)/\FH iO F b all pos T os cs t w k wr) (fun i _=>os.length-(intOf i).toNat)
 case atStart=>exact⟨0,dq _,rfl,HS.o⟩
 case round=>
  obtain⟨k,hk,rfl,ho,ns,p,hns,uF,fF⟩:=hrel;by_cases hlt:k<os.length
  ·obtain⟨x,hx⟩: ∃x,os[k]?=some x:=⟨_,ao hlt⟩;obtain⟨ba,oa,rfl,Yh,cx⟩:=HX.o.1 (by omega);have dx:=ho.cell (p:=⟨ba,oa+k,none⟩) (cx k (.pointer (some ⟨T,x,none⟩)) (by simp[aC,hx])) (fun e=>e.elim (HX.o.2.1 _ Yh).1 (HX.o.2.1 _ Yh).2);have dX:=ho.cell (p:=⟨X,0,none⟩) HX.o.q.1 (fun e=>e.elim HX.o.q.2.1.1 HX.o.q.2.1.2);have hxs:=HX.o.d.1 x (db hx);have HU:=al (Tw wr F b all p fF);have HR:=AI ho hns uF hx;clear ho hns uF hx fF cx Yh;go_wp2_with fail;refine HU.o.m ?_;rintro e w2 ⟨cj,hm⟩;have Dd:w2.heap[T]?=some (.cells (setMany cs (os.take k) ns) t (0,0)):=cj.heap HR.o.d.1 (fun e=>HX.o.q.d e.symm);have hzz:x<(setMany cs (os.take k) ns).size:=by rw[bK];exact hxs
   have hcc: ∃v0,w2.cell? ⟨T,x,none⟩=some v0:=⟨(setMany cs (os.take k) ns)[x],by simp[World.cell?,Dd,hzz]⟩;obtain⟨v0,hc0⟩:=hcc;have Z1:w2.frozen? ⟨T,x,none⟩=false:=by simp[World.frozen?,Dd]
   have Yi:=AD Dd cj;clear Dd cj hzz
   cases hg:CE (all.drop p)with
   |none=>
    rw[hg]at hm;obtain⟨⟨ec,GU,rfl⟩,hr⟩:=hm;have hne:(ec !=0)=true:=by rcases GU with rfl|rfl<;>rfl
    have HG:=AD (show iO (all.drop p)=none by simp[iO,hg]) hr;clear hg hr GU;go_wp2_with fail;go_ret
    refine⟨HR.o.1.x Yi.o.2 (fun _ _ h=>.inl h),?_⟩
    have h9:dP iO os.length (all.drop pos)=none:=by
     have h8:dP iO (k+1) (all.drop pos)=none:=by rw[dP,HR.o.2.1];simp only;rw[HG.o.1]
     have:=tZ h8 (os.length-(k+1));rwa[show k+1+(os.length-(k+1))=os.length by omega]at this
    rw[h9];exact⟨rfl,⟨_,by rw[bK],Yi.o.1⟩,p,HG.o.2⟩
   |some y=>
    obtain⟨m,rest⟩:=y;rw[hg]at hm;obtain⟨rfl,p',hrest,_,hr⟩:=hm;have HG:=AD (show iO (all.drop p)=some ((m:Int),all.drop p') by simp[iO,hg,hrest]) hr;clear hg hr hrest;go_wp2_with fail;go_roundw
    case rel=>exact⟨k+1,by omega,by go_num,BO HX.o.t.1 HR.o.1 HR.o.2.1 HR.o.d.1 HR.o.t Yi.o.2 HG.o.1 HG.o.2 HX.o.q.d⟩
    case measure=>simp[intOf];omega
  ·obtain rfl:k=os.length:=by omega
   have HR:=AI ho hns uF fF;clear ho hns uF fF;go_wp2_with fail;go_ret
   refine⟨HR.o.1,?_⟩;rw[HR.o.2.1];refine⟨rfl,?_,p,rfl,HR.o.t⟩;have:=HR.o.d.1;rw[gE]at this;exact this
theorem Yj(w:World)(F G:Nat->Prop)(b X T:Nat)(all:List UInt8)(pos:Nat)(A:Option Addr)(n c:Nat)(os:List Nat)(cs:Array Value)(t:TypeId)(h:bt w F b all pos)
  (hX:w.cell? ⟨X,0,none⟩=some (.func (.func 87) #[rv b] #[])) (hXb:X≠b/\X≠T) (hv:Rd w G (.slice A n c) (aC T os)) (hG: ∀k,G k->k≠b/\k≠T)
  (hT:w.heap[T]?=some (.cells cs t (0,0))) (hos: ∀o∈os,o<cs.size) (hF: ¬F T):
  Calls prog 148 #[.slice A n c,rv X] w (Qo mR F b all pos T os cs t w):=by
 have hbT:b≠T:=fun e=>hF (e▸(let⟨_,_,hb,_⟩:=h;hb));obtain⟨A',n',c',hv',hl,hnc,hcm,hx⟩:=hv;injection hv' with e1 e2 e3;subst e1 e2 e3;simp[aC]at hl;subst hl;unfold maxLen at hcm;have HX:=AS hx hG hos hF hX hXb hbT;have HS:=al (show FH mR F b all pos T os cs t w 0 w from⟨oE _ _,[],pos,rfl,by simpa[setMany]using hT,h⟩);clear hx hG hos hF h hX hXb hbT hT;go_enter func148,ntmps148;go_wp2_with fail
 go_loopw [10] (fun i wr=> ∃k:Nat,k<=os.length/\i=rm (k:Int)/\FH mR F b all pos T os cs t w k wr) (fun i _=>os.length-(intOf i).toNat)
 case atStart=>exact⟨0,dq _,rfl,HS.o⟩
 case round=>
  obtain⟨k,hk,rfl,ho,ns,p,hns,uF,fF⟩:=hrel;by_cases hlt:k<os.length
  ·obtain⟨x,hx⟩: ∃x,os[k]?=some x:=⟨_,ao hlt⟩;obtain⟨ba,oa,rfl,Yh,cx⟩:=HX.o.1 (by omega);have dx:=ho.cell (p:=⟨ba,oa+k,none⟩) (cx k (.pointer (some ⟨T,x,none⟩)) (by simp[aC,hx])) (fun e=>e.elim (HX.o.2.1 _ Yh).1 (HX.o.2.1 _ Yh).2);have dX:=ho.cell (p:=⟨X,0,none⟩) HX.o.q.1 (fun e=>e.elim HX.o.q.2.1.1 HX.o.q.2.1.2);have hxs:=HX.o.d.1 x (db hx);have HU:=al (O8 wr F b all p fF);have HR:=AI ho hns uF hx;clear ho hns uF hx fF cx Yh;go_wp2_with fail;refine HU.o.m ?_;rintro e w2 ⟨cj,hm⟩;have Dd:w2.heap[T]?=some (.cells (setMany cs (os.take k) ns) t (0,0)):=cj.heap HR.o.d.1 (fun e=>HX.o.q.d e.symm);have hzz:x<(setMany cs (os.take k) ns).size:=by rw[bK];exact hxs
   have hcc: ∃v0,w2.cell? ⟨T,x,none⟩=some v0:=⟨(setMany cs (os.take k) ns)[x],by simp[World.cell?,Dd,hzz]⟩;obtain⟨v0,hc0⟩:=hcc;have Z1:w2.frozen? ⟨T,x,none⟩=false:=by simp[World.frozen?,Dd]
   have Yi:=AD Dd cj;clear Dd cj hzz
   cases hg:mR (all.drop p)with
   |none=>
    rw[hg]at hm;obtain⟨rfl,hr⟩:=hm;have HG:=AD hg hr;clear hg hr;go_wp2_with fail;go_ret
    refine⟨HR.o.1.x Yi.o.2 (fun _ _ h=>.inl h),?_⟩
    have h9:dP mR os.length (all.drop pos)=none:=by
     have h8:dP mR (k+1) (all.drop pos)=none:=by rw[dP,HR.o.2.1];simp only;rw[HG.o.1]
     have:=tZ h8 (os.length-(k+1));rwa[show k+1+(os.length-(k+1))=os.length by omega]at this
    rw[h9];exact⟨rfl,⟨_,by rw[bK],Yi.o.1⟩,p,HG.o.2⟩
   |some y=>
    obtain⟨m,rest⟩:=y;rw[hg]at hm;obtain⟨rfl,p',hrest,_,hr⟩:=hm;have HG:=AD (show mR (all.drop p)=some (m,all.drop p') by rw[hg,hrest]) hr;clear hg hr hrest;go_wp2_with fail;go_roundw
    case rel=>exact⟨k+1,by omega,by go_num,BO HX.o.t.1 HR.o.1 HR.o.2.1 HR.o.d.1 HR.o.t Yi.o.2 HG.o.1 HG.o.2 HX.o.q.d⟩
    case measure=>simp[intOf];omega
  ·obtain rfl:k=os.length:=by omega
   have HR:=AI ho hns uF fF;clear ho hns uF fF;go_wp2_with fail;go_ret
   refine⟨HR.o.1,?_⟩;rw[HR.o.2.1];refine⟨rfl,?_,p,rfl,HR.o.t⟩;have:=HR.o.d.1;rw[gE]at this;exact this
theorem cG(w:World)(k:Fn)(a b:Array Value):Calls prog 85 #[.func k a b] w fun e w'=>e=.returned (.func (.func 148) #[] #[rv w.heap.size])/\w'=w.alloc (.cells #[.func k a b] 185):=by
 go_enter func85,ntmps85;go_wp2_with fail;go_ret
 exact⟨rfl,rfl⟩
end Go.Proofs.YtehccbdajiiaaaaGreatDoor
