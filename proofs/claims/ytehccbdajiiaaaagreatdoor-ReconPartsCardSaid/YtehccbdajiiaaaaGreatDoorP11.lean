import Derived.Test.YtehccbdajiiaaaaGreatDoorP08
import Derived.Test.YtehccbdajiiaaaaGreatDoorP09
import Derived.Test.YtehccbdajiiaaaaGreatDoorP10
import Derived.Laws.RangeAny
import Derived.Laws.RangeString
import Derived.Deep.Cut
namespace Go.Proofs.YtehccbdajiiaaaaGreatDoor
open Go.Proofs.Tryz
set_option maxRecDepth 100000
set_option maxHeartbeats 16000000
open Go.RowKit
def aX.cells(o:aX):List Value:=[rv o.d,rv o.a,rv o.b,rv o.c,rv o.n]
def aX.val(o:aX):Value:=.agg #[rv o.d,rv o.a,rv o.b,rv o.c,rv o.n]
def aX.fits(o:aX):Prop:=(-9223372036854775808<=o.d/\o.d<=9223372036854775807)/\(-9223372036854775808<=o.a/\o.a<=9223372036854775807)/\(-9223372036854775808<=o.b/\o.b<=9223372036854775807)/\(-9223372036854775808<=o.c/\o.c<=9223372036854775807)/\(-9223372036854775808<=o.n/\o.n<=9223372036854775807)
def nV(w:World)(F:Nat->Prop)(v:Value)(l:List aX):Prop:=bJ 5 w F v (l.map aX.cells)
def rC:Nat->List UInt8
 |1=>[65,67]
 |2=>[65,66]
 |3=>[65,66]
 |4=>[65,66]
 |5=>[65,66]
 |6=>[65,66]
 |7=>[65,66]
 |8=>[65,66,67]
 |9=>[65,66]
 |10=>[66]
 |11=>[65,66,67]
 |12=>[65,66,67,78]
 |13=>[65,78]
 |14=>[67,78]
 |15=>[65]
 |_=>[]
def fK(w:World):Prop:= ∀d:Nat,d<16->w.cell? ⟨0,d*2+1,none⟩=some (sd (rC d))
theorem fK.below{w w':World}(h:fK w)(b:Below w.heap.size w w'):fK w':=fun d a=>(b.cell (p:=⟨0,d*2+1,none⟩) (aq _ _ (h d a))).x (h d a)
def iM:Nat->Int
 |0=>65
 |1=>66
 |2=>67
 |_=>78
theorem K3: ∀d,d<16->1<=d-> ∀i,i<4->decide (0<=Lib.indexByte (rC d) (iM i).toNat.toUInt8)=oF (d:Int) i:=by decide
open Go.Shelf in
theorem Tryz.jQ(s:ByteArray)(r:Int)(w:World)(c:0<=r)(b:r<128):
  Calls prog 155 #[.string s,.int .i32 r] w fun e a=>e=.returned (.bool (decide (0<=Lib.indexByte s.data.toList r.toNat.toUInt8)))/\a=w:=Any.strings_ContainsRune_ascii Tryz.Sa s r w c b
theorem NV(w:World)(B b:Nat)(i:Nat)(hi:i<4)(c:w.cell? ⟨B,0,none⟩=some (r7 b)):
  Calls prog 195 #[.int .i32 (iM i),r7 B] w fun e a=>e=.returned (.pointer (some ⟨b,1+i,none⟩))/\w=a:=by
 match i,hi with
 |0,_=>
  go_enter func195,ntmps195;go_wp2_with fail;go_ret
  exact⟨rfl,rfl⟩
 |1,_=>
  go_enter func195,ntmps195;go_wp2_with fail;go_ret
  exact⟨rfl,rfl⟩
 |2,_=>
  go_enter func195,ntmps195;go_wp2_with fail;go_ret
  exact⟨rfl,rfl⟩
 |3,_=>
  go_enter func195,ntmps195;go_wp2_with fail;go_ret
  exact⟨rfl,rfl⟩
theorem Av(w:World)(b:Nat):
  Calls prog 154 #[r7 b] w fun e a=>e=.returned (.func (.func 195) #[] #[r7 w.heap.size])/\a=w.alloc (tW b):=by
 go_enter func154,ntmps154;go_wp2_with fail;go_ret
 exact⟨rfl,rfl⟩
theorem Sc(w:World)(d:Int)(i:Nat)(hi:i<4):
  Calls prog 156 #[rv d,.int .i32 (iM i)] w fun e a=>e=.returned (.tuple #[rv (D5 d i),rv (BX d i)])/\w=a:=by
 match i,hi with
 |0,_=>
  by_cases h:d=9
  ·subst h;go_enter func156,ntmps156;go_wp2_with fail
   go_ret2
   exact⟨rfl,rfl⟩
  ·have e:(d==9)=false:=by simpa using h
   have b:BX d 0=7:=by simp[BX,h]
   have a:=al b;clear h b;go_enter func156,ntmps156;go_wp2_with fail
   go_ret2
   exact⟨by rw[a.o];rfl,rfl⟩
 |1,_=>
  go_enter func156,ntmps156;go_wp2_with fail
  go_ret2
  exact⟨rfl,rfl⟩
 |2,_=>
  by_cases h:d=1
  ·subst h;go_enter func156,ntmps156;go_wp2_with fail
   go_ret2
   exact⟨rfl,rfl⟩
  ·by_cases b:d=14
   ·subst b;go_enter func156,ntmps156;go_wp2_with fail
    go_ret2
    exact⟨rfl,rfl⟩
   ·have e:(d==1)=false:=by simpa using h
    have c:(d==14)=false:=by simpa using b
    have a:=al (show BX d 2=3/\D5 d 2=0 by simp[BX,D5,h,b]);clear h b;go_enter func156,ntmps156;go_wp2_with fail
    go_ret2
    exact⟨by rw[a.o.1,a.o.2];rfl,rfl⟩
 |3,_=>
  by_cases h:d=12
  ·subst h;go_enter func156,ntmps156;go_wp2_with fail
   go_ret2
   exact⟨rfl,rfl⟩
  ·have e:(d==12)=false:=by simpa using h
   have a:=al (show BX d 3=64 by simp[BX,h]);clear h;go_enter func156,ntmps156;go_wp2_with fail
   go_ret2
   exact⟨by rw[a.o];rfl,rfl⟩
def GA:ByteArray:=⟨#[65,66,67,78]⟩
theorem GC: ∀(i:Nat) (h:i<GA.size),(GA[i]'h).toNat<128:=by decide
theorem K4(W:World)(i:Nat)(hi:i<4)(a:TypeId):(Instr.next (r7 W.heap.size) true a).run prog (W.iter GA i)=.ok (.tuple #[.bool true,rv (i:Int),.int .i32 (iM i)]) (W.iter GA (i+1)):=by
 have h:i<GA.size:=hi;have:=run_next_ascii (P:=prog) W GA i a h (GC i h);rw[this]
 match i,hi with
 |0,_=>rfl
 |1,_=>rfl
 |2,_=>rfl
 |3,_=>rfl
theorem JA(i:Nat):0<=iM i/\iM i<128:=by unfold iM;split<;>omega
theorem NW{w:World}{b:Nat}{o:aX}(a:w.heap[b]?=some (sh o.d o.a o.b o.c o.n))(i:Nat)(hi:i<4):w.cell? ⟨b,1+i,none⟩=some (rv (o.tP i)):=by
 match i,hi with
 |0,_=>simp[World.cell?,a,aX.tP]
 |1,_=>simp[World.cell?,a,aX.tP]
 |2,_=>simp[World.cell?,a,aX.tP]
 |3,_=>simp[World.cell?,a,aX.tP]
theorem GD{o:aX}(a:(1<=o.d/\o.d<=15)):eY o=(List.range 4).all (fun i=>oF o.d i||o.tP i==0):=by unfold eY;rw[decide_eq_true a,Bool.true_and]
def yQ(W:World)(b B:Nat)(dn:Nat)(A a C N:Int):Prop:=
 W.cell? ⟨b,0,none⟩=some (rv (dn:Int))/\W.cell? ⟨B,0,none⟩=some (r7 b)/\W.cell? ⟨0,dn*2+1,none⟩=some (sd (rC dn))/\ ∀i,i<4->W.cell? ⟨b,1+i,none⟩=some (.int .i64 ((⟨(dn:Int),A,a,C,N⟩:aX).tP i))
theorem yQ.alloc{W:World}{b B dn:Nat}{A a C N:Int}(h:yQ W b B dn A a C N)(o:Obj):yQ (W.alloc o) b B dn A a C N:=⟨aJ h.1 _,aJ h.2.1 _,aJ h.2.2.1 _,fun i c=>aJ (h.2.2.2 i c) _⟩
theorem yQ.iter{W:World}{b B dn:Nat}{A a C N:Int}(h:yQ W b B dn A a C N)(s:ByteArray)(i:Nat):yQ (W.iter s i) b B dn A a C N:=h.alloc _
theorem yQ.start(w:World)(a:fK w)(dn:Nat)(b:dn<16)(A B C N:Int):yQ ((w.alloc (sh (dn:Int) A B C N)).alloc (tW w.heap.size)) w.heap.size (w.heap.size+1) dn A B C N:=
 ⟨by simp,by simp,(a.below (((aw _ _).alloc (b8 _) _).alloc (by simp) _)) dn b,fun i c=>aJ (NW (o:=⟨(dn:Int),A,B,C,N⟩) (an _ _) i c) _⟩
theorem Ea{p:Nat->Bool}{i:Nat}:(List.range (i+1)).all p=((List.range i).all p&&p i):=by rw[List.range_succ,List.all_append];simp
theorem K6(w:World)(E:fK w)(dn:Nat)(M:1<=dn)(z:dn<16)(A B C N:Int):
  Calls prog 97 #[.agg #[rv (dn:Int),rv A,rv B,rv C,rv N]] w fun T S=>T=.returned (.bool (eY ⟨(dn:Int),A,B,C,N⟩))/\Below w.heap.size w S:=by
 have F:=GD (o:=⟨(dn:Int),A,B,C,N⟩) ⟨by show(1:Int)<=dn;omega,by show(dn:Int)<=15;omega⟩;have j:=yQ.start w E dn z A B C N;have k:Below w.heap.size w ((w.alloc (sh (dn:Int) A B C N)).alloc (tW w.heap.size)):=((aw _ _).alloc (b8 _) _).alloc (by simp) _;have n:=AI F (K3 dn z M);have X: ¬((dn:Int)<1):=by omega
 have Y: ¬((15:Int)<(dn:Int)):=by omega
 clear F E;go_enter func97,ntmps97;go_wp2_with fail;refine(Av _ w.heap.size).m ?_;rintro T a ⟨rfl,u⟩;have x:(w.alloc (sh (dn:Int) A B C N)).heap.size=w.heap.size+1:=by simp
 rw[x];generalize ((w.alloc (sh (dn:Int) A B C N)).alloc (tW w.heap.size))=W at j k u;subst u;have e:=AI j k;clear j k x;obtain⟨U,p⟩:=rl (w.heap.size);have J:=al p;have H:=al (show U<=a.heap.size by have:=e.o.2.size;omega);rw[p]at e;go_wp2_with fail;clear p
 go_loopw [5] (fun _ m=> ∃i:Nat,i<=4/\m=a.iter ⟨#[65,66,67,78]⟩ i/\(List.range i).all (fun K=>oF (dn:Int) K||(⟨(dn:Int),A,B,C,N⟩:aX).tP K==0)=true) (fun _ m=>4-m.iterPos a.heap.size)
 case atStart=>exact⟨0,dq _,rfl,rfl⟩
 case round=>
  obtain⟨i,hi,rfl,f⟩:=hrel;by_cases d:i<4
  ·have v:=K4 a i d;unfold GA at v;obtain⟨c0,R,cT,y⟩:=e.o.1.iter ⟨#[65,66,67,78]⟩ (i+1);have O:=y i d;have G:=JA i;have D:=n.o.2 i d;obtain⟨V,s⟩:=rl ((⟨(dn:Int),A,B,C,N⟩:aX).tP i);rw[s]at O;obtain⟨q,t⟩:=rl (oF (dn:Int) i);have b:=AM f s t;have l:=Tryz.jQ ⟨(rC dn).toArray⟩ (iM i) (a.iter ⟨#[65,66,67,78]⟩ (i+1)) G.1 G.2;rw[D,t]at l;have P:=al l;have L:=al (NV (a.iter ⟨#[65,66,67,78]⟩ (i+1)) (U+1) U i d R);clear f s t D y l;go_wp2_with fail;refine P.o.m ?_;rintro T w2 ⟨rfl,rfl⟩
   cases q with
   |true=>
    have g:=al b.o.d;go_wp2_with fail;go_roundw
    case rel=>exact⟨i+1,by omega,rfl,by rw[Ea,b.o.1,g.o];rfl⟩
    case measure=>simp;omega
   |false=>
    have g:=al b.o.d;go_wp2_with fail;refine L.o.m ?_;rintro T w3 ⟨rfl,rfl⟩;by_cases c:V=0
    ·have h:=al (b.o.2.1.x c);subst c;go_wp2_with fail;go_roundw
     case rel=>exact⟨i+1,by omega,rfl,by rw[Ea,b.o.1,g.o,h.o];rfl⟩
     case measure=>simp;omega
    ·have Z:(V !=0)=true:=by simpa using c
     have h:=AI c b.o.2.1;clear c;go_wp2_with fail;go_ret
     refine⟨?_,?_⟩
     ·rw[n.o.1]
      have:(List.range 4).all (fun K=>oF (dn:Int) K||(⟨(dn:Int),A,B,C,N⟩:aX).tP K==0)=false:=by rw[Bool.eq_false_iff];intro I;rw[List.all_eq_true]at I;have o:=I i (List.mem_range.2 d);rw[g.o,h.o.2]at o;simp at o;exact h.o.1 o
      rw[this];rfl
     ·rw[J.o];exact e.o.2.alloc H.o _
  ·obtain rfl:i=4:=by omega
   have Q:=al f;clear f;have v: ∀r,(Instr.next (r7 a.heap.size) true r).run prog (a.iter ⟨#[65,66,67,78]⟩ 4)=.ok (.tuple #[.bool false]) (a.iter ⟨#[65,66,67,78]⟩ 4):=fun r=>run_next_end a ⟨#[65,66,67,78]⟩ 4 r (by decide);go_wp2_with fail;go_ret
   refine⟨by rw[n.o.1,Q.o];rfl,?_⟩;rw[J.o];exact e.o.2.alloc H.o _
theorem Lb(w:World)(c:fK w)(o:aX):Calls prog 97 #[o.val] w fun e a=>e=.returned (.bool (eY o))/\Below w.heap.size w a:=by
 obtain⟨D,A,B,C,N⟩:=o;unfold aX.val;by_cases b:1<=D/\D<=15
 ·obtain⟨a,rfl⟩: ∃a:Nat,D=(a:Int):=⟨D.toNat,by omega⟩;exact K6 w c a (by omega) (by omega) A B C N
 ·have a:=al (show eY ⟨D,A,B,C,N⟩=false by unfold eY;rw[decide_eq_false b];rfl);by_cases d:D<1;rotate_left
  focus
   have e:15<D:=by omega
  all_goals
   clear b c;go_enter func97,ntmps97;go_wp2_with fail;go_ret
   exact⟨by rw[a.o];rfl,(aw _ _).alloc (b8 _) _⟩
def YO(o:aX)(i:Nat):Bool:=decide (D5 o.d i<=o.tP i)&&decide (o.tP i<=BX o.d i)
def mj(d:Nat):List Nat:=(List.range 4).filter (oF (d:Int))
theorem Aw: ∀d,d<16->1<=d->rC d=(mj d).map (fun i=>(iM i).toNat.toUInt8):=by decide
theorem V8{d i j:Nat}(h:(mj d)[j]?=some i):i<4:=by have:=db h;unfold mj at this;exact List.mem_range.1 (List.mem_filter.1 this).1
theorem GG(o:aX){dn:Nat}(a:o.d=(dn:Int)):eZ o=(mj dn).all (YO o):=by
 unfold eZ mj;rw[List.all_filter];congr 1
 funext i
 rw[a];unfold YO;rw[a]
theorem NY(W:World)(s:ByteArray)(dn j i:Nat)(hs:s.data.toList=(mj dn).map (fun i=>(iM i).toNat.toUInt8))(hi:(mj dn)[j]?=some i)(ty:TypeId):
  (Instr.next (r7 W.heap.size) true ty).run prog (W.iter s j)=.ok (.tuple #[.bool true,rv (j:Int),.int .i32 (iM i)]) (W.iter s (j+1)):=by
 have hj:s.data.toList[j]?=some (iM i).toNat.toUInt8:=by rw[hs];simp[hi]
 have hjl:j<s.size:=by have:=(bd.1 hj).1;simpa using this
 have hv:(s[j]'hjl)=(iM i).toNat.toUInt8:=by have h2:=(bd.1 hj).2;rw[<-h2];rfl
 have p9:=JA i;have hn:(s[j]'hjl).toNat=(iM i).toNat:=by rw[hv];simp;omega
 have:=run_next_ascii (P:=prog) W s j ty hjl (by rw[hn];omega);rw[this,hn];have e:(((iM i).toNat:Nat):Int)=iM i:=by omega
 rw[e]
theorem Lc(w:World)(U:fK w)(dn:Nat)(M:1<=dn)(v:dn<16)(A B C N:Int):
  Calls prog 98 #[.agg #[rv (dn:Int),rv A,rv B,rv C,rv N]] w fun Z w'=>Z=.returned (.bool (eZ ⟨(dn:Int),A,B,C,N⟩))/\Below w.heap.size w w':=by
 have V:=GG ⟨(dn:Int),A,B,C,N⟩ (dn:=dn) rfl;have n:=yQ.start w U dn v A B C N;have u:Below w.heap.size w ((w.alloc (sh (dn:Int) A B C N)).alloc (tW w.heap.size)):=((aw _ _).alloc (b8 _) _).alloc (by simp) _;have Q:(⟨(rC dn).toArray⟩:ByteArray).data.toList=(mj dn).map (fun i=>(iM i).toNat.toUInt8):=by rw[<-Aw dn v M]
 have D:=AI V Q;have ap:(0:Int)<=(dn:Int):=by omega
 have a':(dn:Int)<16:=by omega
 clear V U Q;go_enter func98,ntmps98;go_wp2_with fail;refine(Av _ w.heap.size).m ?_;rintro Z a ⟨rfl,J⟩;have P:(w.alloc (sh (dn:Int) A B C N)).heap.size=w.heap.size+1:=by simp
 rw[P];generalize ((w.alloc (sh (dn:Int) A B C N)).alloc (tW w.heap.size))=W at n u J;subst J;have e:=AI n u;obtain⟨I,l,X,_⟩:=n;clear u P;obtain⟨b,k⟩:=rl (w.heap.size);have F:=al k;have x:=al (show b<=a.heap.size by have:=e.o.2.size;omega);rw[k]at e I l;rw[k];clear k;go_wp2_with fail;clear I l X;obtain⟨s,q⟩: ∃s:ByteArray,(⟨(rC dn).toArray⟩:ByteArray)=s:=⟨_,rfl⟩;have O:=al (show s.data.toList=(mj dn).map (fun i=>(iM i).toNat.toUInt8) by rw[<-q,<-Aw dn v M]);rw[q];clear q
 go_loopw [5] (fun _ y=> ∃j:Nat,j<=(mj dn).length/\y=a.iter s j/\((mj dn).take j).all (YO ⟨(dn:Int),A,B,C,N⟩)=true) (fun _ y=>(mj dn).length-y.iterPos a.heap.size)
 case atStart=>exact⟨0,dq _,rfl,rfl⟩
 case round=>
  obtain⟨j,Y,rfl,h⟩:=hrel;by_cases L:j<(mj dn).length
  ·obtain⟨i,m⟩: ∃i,(mj dn)[j]?=some i:=⟨_,ao L⟩;have p:=V8 m;have aa:=NY a s dn j i O.o m;obtain⟨I,l,X,S⟩:=e.o.1.iter s (j+1);have ad:=S i p;have r:YO ⟨(dn:Int),A,B,C,N⟩ i=(decide (D5 (dn:Int) i<=(⟨(dn:Int),A,B,C,N⟩:aX).tP i)&&decide ((⟨(dn:Int),A,B,C,N⟩:aX).tP i<=BX (dn:Int) i)):=rfl;have t:=Sc (a.iter s (j+1)) (dn:Int) i p;obtain⟨z,H⟩:=rl ((⟨(dn:Int),A,B,C,N⟩:aX).tP i);obtain⟨lo,d⟩:=rl (D5 (dn:Int) i);obtain⟨ac,o⟩: ∃z,BX (dn:Int) i=z:=⟨_,rfl⟩;rw[H,d,o]at r;rw[H]at ad;rw[d,o]at t;have am:=al t;have K:=al (NV (a.iter s (j+1)) (b+1) b i p l);have c:=AM h r m;clear h r m t H d o S Y;go_wp2_with fail;refine am.o.m ?_;rintro Z w2 ⟨rfl,rfl⟩;go_wp2_with fail;refine K.o.m ?_;rintro Z w3 ⟨rfl,rfl⟩;by_cases d:z<lo
   ·have f:=al d;go_wp2_with fail;go_ret
    refine⟨?_,?_⟩
    ·rw[D.o.1]
     have:(mj dn).all (YO ⟨(dn:Int),A,B,C,N⟩)=false:=by rw[Bool.eq_false_iff];intro g;rw[List.all_eq_true]at g;have E:=g i (db c.o.d);rw[c.o.2.1,mw,decide_eq_true_iff,decide_eq_true_iff]at E;have:=f.o;omega
     rw[this];rfl
    ·rw[F.o];exact e.o.2.alloc x.o _
   ·go_wp2_with fail;refine K.o.m ?_;rintro Z w4 ⟨rfl,rfl⟩;by_cases T:ac<z
    ·have f:=al T;go_wp2_with fail;go_ret
     refine⟨?_,?_⟩
     ·rw[D.o.1]
      have:(mj dn).all (YO ⟨(dn:Int),A,B,C,N⟩)=false:=by rw[Bool.eq_false_iff];intro g;rw[List.all_eq_true]at g;have E:=g i (db c.o.d);rw[c.o.2.1,mw,decide_eq_true_iff,decide_eq_true_iff]at E;have:=f.o;omega
      rw[this];rfl
     ·rw[F.o];exact e.o.2.alloc x.o _
    ·have f:=AI d T;go_wp2_with fail;go_roundw
     case rel=>refine⟨j+1,by omega,rfl,?_⟩;rw[ir,c.o.d,List.all_append,c.o.1];have h3:=f.o;simp[c.o.2.1];omega
     case measure=>simp;omega
  ·obtain rfl:j=(mj dn).length:=by omega
   have HA:=al h
   have R: ¬(mj dn).length<s.size:=by have:=ew List.length O.o;simp at this;have h2:s.data.size=s.size:=rfl;omega
   clear h L Y;have aa: ∀G,(Instr.next (r7 a.heap.size) true G).run prog (a.iter s (mj dn).length)=.ok (.tuple #[.bool false]) (a.iter s (mj dn).length):=fun G=>run_next_end a s (mj dn).length G R;clear R;go_wp2_with fail;go_ret
   refine⟨?_,?_⟩
   ·have:=HA.o;rw[gn]at this;rw[D.o.1,this];rfl
   ·rw[F.o];exact e.o.2.alloc x.o _
theorem Ld(w:World)(c:fK w)(o:aX)(b:1<=o.d/\o.d<=15):Calls prog 98 #[o.val] w fun e a=>e=.returned (.bool (eZ o))/\Below w.heap.size w a:=by obtain⟨D,A,B,C,N⟩:=o;unfold aX.val;simp only at b;obtain⟨a,rfl⟩: ∃a:Nat,D=(a:Int):=⟨D.toNat,by omega⟩;exact Lc w c a (by omega) (by omega) A B C N
theorem Eb(w:World)(o:aX):Calls prog 157 #[o.val] w fun e a=>e=.returned (.bool o.holds)/\Below w.heap.size w a:=by
 obtain⟨D,A,B,C,N⟩:=o;unfold aX.val aX.holds;by_cases h:D=13
 ·subst h;go_enter func157,ntmps157;go_wp2_with fail;go_ret
  exact⟨rfl,(aw _ _).alloc (b8 _) _⟩
 ·have e:(D==13)=false:=by simpa using h
  clear h;go_enter func157,ntmps157;go_wp2_with fail;go_ret
  refine⟨?_,(aw _ _).alloc (b8 _) _⟩;rw[e];rfl
theorem Tryz.NZ:(prog.info? 3).map (fun i=>(i.zero,i.size,i.bytes))=some (some (rv 0),1,8):=by kernel_rfl
def sliceLen:Value->Nat
 | .slice _ n _=>n
 |_=>0
def nW(w:World)(v:Value)(a:List Int)(b:World):Prop:=
 ∃A c,v=.slice A a.length c/\b.ownsRow w.heap.size 3 1 v a.length (a.map (Value.int .i64))/\Below w.heap.size w b
theorem nW.nil(w:World):nW w (.slice none 0 0) [] w:=⟨none,0,rfl,ea _ _ _ _,aw _ _⟩
theorem nW.below{w a w':World}{v:Value}{b:List Int}(h:nW w v b a)(d:Below a.heap.size a w'):nW w v b w':=
 let⟨A,c,e,h1,h2⟩:=h;⟨A,c,e,bD h1 d,h2.x (d.m h2.size)⟩
theorem GH{w:World}{base:Nat}{e:TypeId}{A:Option Addr}{n c:Nat}{xs:List Value}{x:Value}(s:w.ownsRow base e 1 (.slice A (n+1) c) (n+1) (xs++[x]))(k:xs.length=n):w.ownsRow base e 1 (.slice A n c) n xs:=by
 rcases s.2 with⟨b,r⟩|⟨t,o,a,l,m,f,q,h,j,i⟩
 ·injection b with _ b _;omega
 ·injection l with d p g;subst d g;refine⟨by simpa using k,.inr ⟨t,c,a,rfl,m,f,by omega,h,j,?_⟩⟩;have d:(a.toList.take ((n+1)*1)).take (n*1)=(xs++[x]).take (n*1):=by rw[i]
  rw[List.take_take,oB (by omega)]at d;rw[d,List.take_append_of_le_length (by omega),gE (by omega)]
theorem nW.pop{w d:World}{A:Option Addr}{n c:Nat}{a:List Int}{x:Int}(l:nW w (.slice A n c) (a++[x]) d):nW w (.slice A a.length c) a d:=by obtain⟨k,j,h,b,f⟩:=l;injection h with g e i;subst g e i;rw[gk,ix]at b;exact⟨A,c,rfl,GH b (by simp),f⟩
theorem nW.top{w g:World}{A:Option Addr}{n c:Nat}{a:List Int}{x:Int}(u:nW w (.slice A n c) (a++[x]) g): ∃i,A=some ⟨i,0,none⟩/\g.cell? ⟨i,a.length,none⟩=some (rv x)/\i<g.heap.size/\a.length+1<=c:=by
 obtain⟨r,t,f,d,s⟩:=u;injection f with e h b;subst e h b;obtain⟨i,p,f,q,l⟩:=d.form (by simp)
 have j:a.length+1<=c:=by
  rcases d.2 with⟨_,o⟩|⟨_,_,_,k,_,_,m,_⟩
  ·simp at o
  ·injection k with _ _ b;subst b;simpa using m
 injection f with e h b;subst e;refine⟨i,rfl,?_,l,j⟩;have:=d.cellAt a.length (by simp);rw[this];simp
theorem nV.at_{w:World}{F:Nat->Prop}{A:Option Addr}{n c:Nat}{l:List aX}(r:nV w F (.slice A n c) l){k:Nat}{x:aX}(e:l[k]?=some x):
  ∃d o,A=some ⟨d,o,none⟩/\F d/\w.cell? ⟨d,o+k*5,none⟩=some (rv x.d)/\w.cell? ⟨d,o+k*5+1,none⟩=some (rv x.a)/\w.cell? ⟨d,o+k*5+2,none⟩=some (rv x.b)/\
   w.cell? ⟨d,o+k*5+3,none⟩=some (rv x.c)/\w.cell? ⟨d,o+k*5+4,none⟩=some (rv x.n):=by
 obtain⟨m,q,p,i,h,_,_,f⟩:=r;injection i with a b g;subst a b g;have j:=(bd.1 e).1;obtain⟨d,o,rfl,g,b⟩:=f (by simp at h;omega);have a:(l.map aX.cells)[k]?=some x.cells:=by simp[e]
 exact⟨d,o,rfl,g,b k _ a 0 _ rfl,b k _ a 1 _ rfl,b k _ a 2 _ rfl,b k _ a 3 _ rfl,b k _ a 4 _ rfl⟩
theorem nV.slice{w:World}{F:Nat->Prop}{v:Value}{l:List aX}(h:nV w F v l): ∃A c,v=.slice A l.length c/\l.length<=c/\c<=maxLen:=by obtain⟨c,g,b,e,a,f,d,_⟩:=h;simp at a;exact⟨c,b,by rw[a];exact e,by omega,d⟩
def ZO(w:World)(l:List aX)(k:Nat)(v:Value)(b:World):Prop:=
 ∃a,nW w v a b/\a.Pairwise (fun c d=>c≥d)/\a.filter (fun e=>decide ((k:Int)<e))=opens l k/\ic l k=true/\a.length<=k
theorem Le(w:World)(F:Nat->Prop)(v:Value)(l:List aX)(h:nV w F v l)(hl:l.length<=64)(hn: ∀o∈l,o.holds=true->0<=o.n/\o.n<=64):
  Calls prog 99 #[v] w fun e w'=>e=.returned (.bool (jk l))/\Below w.heap.size w w':=by
 obtain⟨i0,hi,hz0,hz1,hz2⟩:=ef Tryz.NZ;obtain⟨A,c,rfl,_⟩:=h.slice;have H:=AM h hn hi;clear h hn hi;go_enter func99,ntmps99;go_wp2_with fail
 go_loopw [3,10] (fun v i wr=> ∃k:Nat,k<=l.length/\i=rv (k:Int)/\ZO w l k v wr) (fun _ i _=>l.length-(intOf i).toNat)
 case atStart=>exact⟨0,dq _,rfl,[],nW.nil w,ee,rfl,rfl,b8 _⟩
 case round=>
  obtain⟨k,hk,rfl,es0,hst,hpw,hfl,hnt,hle0⟩:=hrel;by_cases hlt:k<l.length
  ·obtain⟨x,hx⟩: ∃x,l[k]?=some x:=⟨_,ao hlt⟩;obtain⟨b,o,rfl,tR,c0,c1,c2,c3,c4⟩:=H.o.1.at_ hx;have hbl:Below w.heap.size w wr:=let⟨_,_,_,_,hb⟩:=hst;hb
   have dE:=aq _ _ c0;have d0:=(hbl.cell (p:=⟨b,o+k*5,none⟩) dE).x c0;have d1:=(hbl.cell (p:=⟨b,o+k*5+1,none⟩) dE).x c1;have d2:=(hbl.cell (p:=⟨b,o+k*5+2,none⟩) dE).x c2;have d3:=(hbl.cell (p:=⟨b,o+k*5+3,none⟩) dE).x c3;have d4:=(hbl.cell (p:=⟨b,o+k*5+4,none⟩) dE).x c4;obtain⟨D,A',B',C',N'⟩:=x;simp only at d0 d1 d2 d3 d4;have ZP:=hst.below (((aw _ _).alloc (b8 _) (sh D A' B' C' N')));have HX:=AS hx hpw hfl hnt ZP;obtain⟨A0,c0',rfl,_,_⟩:=hst;clear hx hpw hfl hnt ZP hbl c0 c1 c2 c3 c4 tR;go_upto_region 5 with fail;have q0:(wr.alloc (sh D A' B' C' N')).cell? ⟨wr.heap.size,0,none⟩=some (rv D):=by simp
   have q1:(wr.alloc (sh D A' B' C' N')).cell? ⟨wr.heap.size,1,none⟩=some (rv A'):=by simp
   have q2:(wr.alloc (sh D A' B' C' N')).cell? ⟨wr.heap.size,2,none⟩=some (rv B'):=by simp
   have q3:(wr.alloc (sh D A' B' C' N')).cell? ⟨wr.heap.size,3,none⟩=some (rv C'):=by simp
   have q4:(wr.alloc (sh D A' B' C' N')).cell? ⟨wr.heap.size,4,none⟩=some (rv N'):=by simp
   generalize wr.alloc (sh D A' B' C' N')=W4 at HX q0 q1 q2 q3 q4⊢;obtain⟨B4,hB4⟩:=rl (wr.heap.size);rw[hB4]at q0 q1 q2 q3 q4⊢;clear hB4 d0 d1 d2 d3 d4 dE
   go_loop [3] (fun v=> ∃es,nW w v es W4/\es.Pairwise (fun a b=>a≥b)/\es.filter (fun e=>decide ((k:Int)<e))=opens l k/\es.length<=k) (fun v=>sliceLen v)
   case atStart=>exact⟨es0,HX.o.q,HX.o.2.1,HX.o.d.1,hle0⟩
   case round=>
    obtain⟨es,hst,hpw,hfl,hle⟩:=hrel;obtain⟨A5,c5,rfl,how,hbl⟩:=hst;have hst:nW w (.slice A5 es.length c5) es W4:=⟨A5,c5,rfl,how,hbl⟩;clear how hbl;rcases List.eq_nil_or_concat es with rfl|⟨es',z,hes⟩
    ·obtain⟨es,hes⟩: ∃es:List Int,es=[]:=⟨[],rfl⟩;have Sd:=al hes;have HLEN:=al (show es.length=0 by rw[hes];rfl);have hle0:es.length<=0:=by rw[hes];exact b8 _
     have HO:=al (show nW w (.slice A5 0 c5) es W4/\es.Pairwise (fun a b=>a≥b)/\es=opens l k/\es.length<=k by rw[hes];exact⟨hst,hpw,hfl,dq _⟩);clear hst hpw hfl hes;by_cases h8:es.length<=8
     ·have h8': ¬((8:Int)<(0:Int)):=by omega
      go_wp2_with fail;refine(Eb W4 ⟨D,A',B',C',N'⟩).m ?_;rintro e5 w5 ⟨rfl,gp⟩;have q4':=(gp.cell (p:=⟨B4,4,none⟩) (aq _ _ q4)).x q4;have GI:=AI (HO.o.1.below gp) gp;clear gp
      cases hh:(⟨D,A',B',C',N'⟩:aX).holds with
      |false=>
       have HH:=al hh;clear hh;go_wp2_with fail;go_roundw
       case rel=>
        have hpl:eK l k ⟨D,A',B',C',N'⟩=true:=by unfold eK;rw[<-HO.o.d.1,HH.o,decide_eq_true h8];rfl
        exact⟨k+1,by omega,by go_num,es,GI.o.1,HO.o.2.1,by rw[HO.o.d.1];exact D7 HX.o.1 HH.o,by rw[cu HX.o.1,HX.o.t.1,hpl];rfl,by omega⟩
       case measure=>simp[intOf];omega
      |true=>
       have hnb:=H.o.2.1 _ (db HX.o.1) hh;simp only at hnb;have ab2:=hnb.1;have ab3:=hnb.2;have HH:=al hh;clear hh hnb;have hlo:=al (show mg l.length (opens l k)=(l.length:Int) by rw[<-HO.o.d.1,Sd.o];rfl);have hmx:=al (show ∀e∈es,(k:Int)+1+N'<=e by intro e he;rw[Sd.o]at he;simp at he);by_cases hend:(l.length:Int)<(k:Int)+1+N'
       ·have HE:=al hend;go_wp2_with fail;go_ret
        refine⟨?_,let⟨_,_,_,_,hb⟩:=GI.o.1;hb⟩
        have hpl:eK l k ⟨D,A',B',C',N'⟩=false:=by
         unfold eK;rw[hlo.o,HH.o];have: ¬eF k ⟨D,A',B',C',N'⟩<=(l.length:Int):=by have:=HE.o;unfold eF;simp only;omega
         rw[decide_eq_false this];simp
        have:jk l=false:=by rw[Bool.eq_false_iff];intro hh;have h1:=gu hh (show k+1<=l.length by omega);rw[cu HX.o.1,hpl]at h1;simp at h1
        rw[this];rfl
       ·have HE:=al hend;have N2:=GI.o.1;obtain⟨Ax,cx,Zo,Sg,bG⟩:=N2;rw[HLEN.o]at Sg;have hnews:=eb (an w5 (td ((k:Int)+1+N')));have Q9:=bG.size;have HA:=AS (Sg.alloc (td ((k:Int)+1+N'))) hnews bG Sg H.o.d;clear Zo Sg bG hnews;go_wp2_with (at_builtin;go_loud (refine ep _ rfl _ _ 94 rfl w.heap.size 3 i0 _ 1 8 underlying94 HA.o.q hz0 hz1 hz2 rfl (by decide) _ (0) _ rfl HA.o.1 ⟨w5.heap.size,0,none⟩ 1 1 [rv ((k:Int)+1+N')] rfl rfl HA.o.2.1 (by simp[Value.oneCell']) (by decide) (by unfold maxLen;omega) (by omega) (by simp;omega) _ rfl ?_));intro g6 V9 w6 lW Rb wR Wa;have HG:=AI lW Rb;clear lW Rb wR Wa;go_wp2_with fail;go_roundw
        case rel=>
         have hpl:eK l k ⟨D,A',B',C',N'⟩=true:=by
          unfold eK;rw[hlo.o,<-HO.o.d.1,HH.o,decide_eq_true h8];have:eF k ⟨D,A',B',C',N'⟩<=(l.length:Int):=by have:=HE.o;unfold eF;simp only;omega
          rw[decide_eq_true this];rfl
         have hmx: ∀e∈es,(k:Int)+1+N'<=e:=hmx.o;refine⟨k+1,by omega,by go_num,es++[(k:Int)+1+N'],⟨some ⟨g6,0,none⟩,V9,by rw[Sd.o];rfl,?_,?_⟩,wM HO.o.2.1 hmx,?_,by rw[cu HX.o.1,HX.o.t.1,hpl];rfl,by simp;omega⟩
         ·have h9:=HG.o.1;rw[Sd.o]at h9⊢;simpa using h9
         ·exact(HA.o.d.1.alloc Q9 _).grown HG.o.2 (by simp;omega) (fun j hj=>(HA.o.t.1.lt j hj).1)
         ·rw[HO.o.d.1];exact Aj HX.o.1 HH.o
        case measure=>simp[intOf];omega
     ·have h8':(8:Int)<(0:Int):=by omega
      go_wp2_with fail;go_ret
      refine⟨?_,let⟨_,_,_,_,hb⟩:=HO.o.1;hb⟩
      have hpl:eK l k ⟨D,A',B',C',N'⟩=false:=by unfold eK;rw[<-HO.o.d.1,decide_eq_false h8];rfl
      have:jk l=false:=by rw[Bool.eq_false_iff];intro hh;have h1:=gu hh (show k+1<=l.length by omega);rw[cu HX.o.1,hpl]at h1;simp at h1
      rw[this];rfl
    ·rw[List.concat_eq_append]at hes;obtain⟨g,hA5,hcz,hgl,hcap⟩:=(show nW w (.slice A5 es.length c5) (es'++[z]) W4 by rw[<-hes];exact hst).top;have hlen:es.length=es'.length+1:=by rw[hes];simp
     subst hA5;by_cases hzk:z<=(k:Int)
     ·have HO:=AN hst hpw hfl hes;clear hst hpw hfl hes;rw[hlen];go_wp2_with fail
      go_round
      case rel=>
       have ab4:nW w (.slice (some ⟨g,0,none⟩) (es'.length+1) c5) (es'++[z]) W4:=by rw[<-hlen,<-HO.o.t];exact HO.o.1
       have ab5:(es'++[z]).Pairwise (fun a b=>a≥b):=by rw[<-HO.o.t];exact HO.o.2.1
       refine⟨es',ab4.pop,(List.pairwise_append.1 ab5).1,?_,by omega⟩;have h1:=HO.o.d.1;rw[HO.o.t,ox,List.filter_cons,ff (by simp;omega),List.filter_nil,gr]at h1;exact h1
      case measure=>simp[sliceLen]
     ·have Sd:=al hes;have hall:es.filter (fun e=>decide ((k:Int)<e))=es:=KY hpw (fun e he=>by rw[hes]at he;simp at he;omega);rw[hall]at hfl;have HLEN:=al hlen;have HO:=al (show nW w (.slice (some ⟨g,0,none⟩) (es'.length+1) c5) es W4/\es.Pairwise (fun a b=>a≥b)/\es=opens l k/\es.length<=k by rw[<-hlen];exact⟨hst,hpw,hfl,hle⟩);have MP:es.length<=es'.length+1:=by omega
      have hl2:es'.length+1<=es.length:=by omega
      rw[hlen];clear hst hpw hfl hes hall hlen;by_cases h8:es.length<=8
      ·have h8': ¬((8:Int)<((es'.length:Int)+1)):=by omega
       go_wp2_with fail;refine(Eb W4 ⟨D,A',B',C',N'⟩).m ?_;rintro e5 w5 ⟨rfl,gp⟩;have q4':=(gp.cell (p:=⟨B4,4,none⟩) (aq _ _ q4)).x q4;have adM:=(gp.cell (p:=⟨g,es'.length,none⟩) hgl).x hcz;have GI:=AI (HO.o.1.below gp) gp;clear gp
       cases hh:(⟨D,A',B',C',N'⟩:aX).holds with
       |false=>
        have HH:=al hh;clear hh;go_wp2_with fail;go_roundw
        case rel=>
         have hpl:eK l k ⟨D,A',B',C',N'⟩=true:=by unfold eK;rw[<-HO.o.d.1,HH.o,decide_eq_true h8];rfl
         exact⟨k+1,by omega,by go_num,es,GI.o.1,HO.o.2.1,by rw[HO.o.d.1];exact D7 HX.o.1 HH.o,by rw[cu HX.o.1,HX.o.t.1,hpl];rfl,by omega⟩
        case measure=>simp[intOf];omega
       |true=>
        have hnb:=H.o.2.1 _ (db HX.o.1) hh;simp only at hnb;have ab2:=hnb.1;have ab3:=hnb.2;have HH:=al hh;clear hh hnb;have hlo:=al (show mg l.length (opens l k)=z by rw[<-HO.o.d.1,Sd.o];simp[mg]);by_cases hend:z<(k:Int)+1+N'
        ·have HE:=al hend;go_wp2_with fail;go_ret
         refine⟨?_,let⟨_,_,_,_,hb⟩:=GI.o.1;hb⟩
         have hpl:eK l k ⟨D,A',B',C',N'⟩=false:=by
          unfold eK;rw[hlo.o,HH.o];have: ¬eF k ⟨D,A',B',C',N'⟩<=z:=by have:=HE.o;unfold eF;simp only;omega
          rw[decide_eq_false this];simp
         have:jk l=false:=by rw[Bool.eq_false_iff];intro hh;have h1:=gu hh (show k+1<=l.length by omega);rw[cu HX.o.1,hpl]at h1;simp at h1
         rw[this];rfl
        ·have HE:=al hend;have N2:=GI.o.1;obtain⟨Ax,cx,Zo,Sg,bG⟩:=N2;rw[HLEN.o]at Sg;have hnews:=eb (an w5 (td ((k:Int)+1+N')));have Q9:=bG.size;have HA:=AS (Sg.alloc (td ((k:Int)+1+N'))) hnews bG Sg H.o.d;clear Zo Sg bG hnews;go_wp2_with (at_builtin;go_loud (refine ep _ rfl _ _ 94 rfl w.heap.size 3 i0 _ 1 8 underlying94 HA.o.q hz0 hz1 hz2 rfl (by decide) _ (es'.length+1) _ rfl HA.o.1 ⟨w5.heap.size,0,none⟩ 1 1 [rv ((k:Int)+1+N')] rfl rfl HA.o.2.1 (by simp[Value.oneCell']) (by decide) (by unfold maxLen;omega) (by omega) (by simp;omega) _ rfl ?_));intro g6 V9 w6 lW Rb wR Wa;have HG:=AI lW Rb;clear lW Rb wR Wa;go_wp2_with fail;go_roundw
         case rel=>
          have hpl:eK l k ⟨D,A',B',C',N'⟩=true:=by
           unfold eK;rw[hlo.o,<-HO.o.d.1,HH.o,decide_eq_true h8];have:eF k ⟨D,A',B',C',N'⟩<=z:=by have:=HE.o;unfold eF;simp only;omega
           rw[decide_eq_true this];rfl
          have hmx: ∀e∈es,(k:Int)+1+N'<=e:=(by rw[Sd.o];exact Gt (by rw[<-Sd.o];exact HO.o.2.1) (by have:=HE.o;omega));refine⟨k+1,by omega,by go_num,es++[(k:Int)+1+N'],⟨some ⟨g6,0,none⟩,V9,by rw[Sd.o];simp,?_,?_⟩,wM HO.o.2.1 hmx,?_,by rw[cu HX.o.1,HX.o.t.1,hpl];rfl,by simp;omega⟩
          ·have h9:=HG.o.1;rw[show(es++[(k:Int)+1+N']).length=es'.length+1+1 by simp[HLEN.o]];simpa using h9
          ·exact(HA.o.d.1.alloc Q9 _).grown HG.o.2 (by simp;omega) (fun j hj=>(HA.o.t.1.lt j hj).1)
          ·rw[HO.o.d.1];exact Aj HX.o.1 HH.o
         case measure=>simp[intOf];omega
      ·have h8':(8:Int)<((es'.length:Int)+1):=by omega
       go_wp2_with fail;go_ret
       refine⟨?_,let⟨_,_,_,_,hb⟩:=HO.o.1;hb⟩
       have hpl:eK l k ⟨D,A',B',C',N'⟩=false:=by unfold eK;rw[<-HO.o.d.1,decide_eq_false h8];rfl
       have:jk l=false:=by rw[Bool.eq_false_iff];intro hh;have h1:=gu hh (show k+1<=l.length by omega);rw[cu HX.o.1,hpl]at h1;simp at h1
       rw[this];rfl
  ·obtain rfl:k=l.length:=by omega
   have HX:=AI hst hnt;obtain⟨A0,c0',rfl,_,_⟩:=hst;clear hnt hpw hfl;go_wp2_with fail;go_ret
   exact⟨by rw[show jk l=true from HX.o.2];rfl,let⟨_,_,_,_,hb⟩:=HX.o.1;hb⟩
theorem Ce{o:aX}(h:eZ o=true)(a:o.holds=true):0<=o.n/\o.n<=64:=by
 unfold eZ at h;rw[List.all_eq_true]at h;have b:=h 3 (List.mem_range.2 (by decide));unfold aX.holds at a;rw[Bool.or_eq_true,beq_iff_eq,beq_iff_eq]at a;rcases a with a|a
 ·simp[a,oF,D5,BX,aX.tP]at b;omega
 ·simp[a,oF,D5,BX,aX.tP]at b;omega
theorem Lf{o:aX}(h:eY o=true):1<=o.d/\o.d<=15:=by unfold eY at h;rw[mw]at h;exact of_decide_eq_true h.1
theorem tT{l:List aX}{p:aX->Bool}{k:Nat}{x:aX}(b:l[k]?=some x)(a:p x=false):l.all p=false:=by rw[Bool.eq_false_iff];intro h;rw[List.all_eq_true]at h;rw[h x (List.mem_of_getElem? b)]at a;cases a
def UE(w:World)(l:List aX)(p:aX->Bool)(k:Nat)(a:World):Prop:=(l.take k).all p=true/\Below w.heap.size w a
theorem Ay{l:List aX}{p:aX->Bool}{k:Nat}{x:aX}(h:(l.take k).all p=true)(a:l[k]?=some x)(b:p x=true):(l.take (k+1)).all p=true:=by rw[ir,a,List.all_append,h];simp[b]
theorem Az(w:World)(F:Nat->Prop)(v:Value)(l:List aX)(h:nV w F v l)(hs:fK w):
  Calls prog 60 #[v] w fun e w'=>e=.returned (rv (opsE l))/\Below w.heap.size w w':=by
 obtain⟨A,c,rfl,hlc,hcm⟩:=h.slice;unfold maxLen at hcm;by_cases h64:64<l.length
 ·have HE:=al (show opsE l=23 by unfold opsE;rw[fi h64]);have ab6:(64:Int)<(l.length:Int):=by omega
  clear h hs;go_enter func60,ntmps60;go_wp2_with fail;go_ret
  exact⟨by rw[HE.o];rfl,aw _ _⟩
 have hE:opsE l=if l.all eY=false then 11 else if l.all eZ=false then 10 else if jk l=false then 11 else 0:=by unfold opsE;rw[ff h64]
 have ab6: ¬((64:Int)<(l.length:Int)):=by omega
 have H:=AM h hs hE;clear h hs hE;go_enter func60,ntmps60;go_wp2_with fail
 go_loopw [12] (fun i wr=> ∃k:Nat,k<=l.length/\i=rv (k:Int)/\UE w l eY k wr) (fun i _=>l.length-(intOf i).toNat)
 case atStart=>exact⟨0,dq _,rfl,rfl,aw _ _⟩
 case round=>
  obtain⟨k,hk,rfl,hal,hbl⟩:=hrel;by_cases hlt:k<l.length
  ·obtain⟨x,hx⟩: ∃x,l[k]?=some x:=⟨_,ao hlt⟩;obtain⟨b,o,rfl,tR,c0,c1,c2,c3,c4⟩:=H.o.1.at_ hx;have dE:=aq _ _ c0;have d0:=(hbl.cell (p:=⟨b,o+k*5,none⟩) dE).x c0;have d1:=(hbl.cell (p:=⟨b,o+k*5+1,none⟩) dE).x c1;have d2:=(hbl.cell (p:=⟨b,o+k*5+2,none⟩) dE).x c2;have d3:=(hbl.cell (p:=⟨b,o+k*5+3,none⟩) dE).x c3;have d4:=(hbl.cell (p:=⟨b,o+k*5+4,none⟩) dE).x c4;obtain⟨D,A',B',C',N'⟩:=x;simp only at d0 d1 d2 d3 d4;have hb4:=hbl.alloc hbl.size (sh D A' B' C' N');have HF:=al (Lb _ (H.o.2.1.below hb4) ⟨D,A',B',C',N'⟩);have HX:=AM hx hal hb4;clear hx hal hbl c0 c1 c2 c3 c4 tR dE hb4;go_wp2_with fail;refine HF.o.m ?_;rintro e w5 ⟨rfl,gp⟩;have Lg:=al (HX.o.d.x (gp.m HX.o.d.size));clear gp HF
   cases hf:eY ⟨D,A',B',C',N'⟩with
   |true=>
    have HV:=al hf;clear hf;go_wp2_with fail;go_roundw
    case rel=>exact⟨k+1,by omega,by go_num,Ay HX.o.2.1 HX.o.1 HV.o,Lg.o⟩
    case measure=>simp[intOf];omega
   |false=>
    have HV:=al hf;clear hf;go_wp2_with fail;go_ret
    exact⟨by rw[H.o.d,fi (tT HX.o.1 HV.o)];rfl,Lg.o⟩
  ·obtain rfl:k=l.length:=by omega
   rw[gn]at hal;have HA:=AI hal hbl;clear hal hbl;go_wp2_with fail
   go_loopw [22] (fun i wr=> ∃k:Nat,k<=l.length/\i=rv (k:Int)/\UE w l eZ k wr) (fun i _=>l.length-(intOf i).toNat)
   case atStart=>exact⟨0,dq _,rfl,rfl,HA.o.2⟩
   case round=>
    obtain⟨k,hk,rfl,hal,hbl⟩:=hrel;by_cases hlt:k<l.length
    ·obtain⟨x,hx⟩: ∃x,l[k]?=some x:=⟨_,ao hlt⟩;obtain⟨b,o,rfl,tR,c0,c1,c2,c3,c4⟩:=H.o.1.at_ hx;have dE:=aq _ _ c0;have Zj:=Lf (List.all_eq_true.1 HA.o.1 x (db hx));have d0:=(hbl.cell (p:=⟨b,o+k*5,none⟩) dE).x c0;have d1:=(hbl.cell (p:=⟨b,o+k*5+1,none⟩) dE).x c1;have d2:=(hbl.cell (p:=⟨b,o+k*5+2,none⟩) dE).x c2;have d3:=(hbl.cell (p:=⟨b,o+k*5+3,none⟩) dE).x c3;have d4:=(hbl.cell (p:=⟨b,o+k*5+4,none⟩) dE).x c4;obtain⟨D,A',B',C',N'⟩:=x;simp only at d0 d1 d2 d3 d4;have hb4:=hbl.alloc hbl.size (sh D A' B' C' N');have HF:=al (Ld _ (H.o.2.1.below hb4) ⟨D,A',B',C',N'⟩ Zj);have HX:=AM hx hal hb4;clear hx hal hbl c0 c1 c2 c3 c4 tR dE hb4 Zj;go_wp2_with fail;refine HF.o.m ?_;rintro e w5 ⟨rfl,gp⟩;have Lg:=al (HX.o.d.x (gp.m HX.o.d.size));clear gp HF
     cases hf:eZ ⟨D,A',B',C',N'⟩with
     |true=>
      have HV:=al hf;clear hf;go_wp2_with fail;go_roundw
      case rel=>exact⟨k+1,by omega,by go_num,Ay HX.o.2.1 HX.o.1 HV.o,Lg.o⟩
      case measure=>simp[intOf];omega
     |false=>
      have HV:=al hf;clear hf;go_wp2_with fail;go_ret
      exact⟨by rw[H.o.d,ff (by rw[HA.o.1];simp),fi (tT HX.o.1 HV.o)];rfl,Lg.o⟩
    ·obtain rfl:k=l.length:=by omega
     rw[gn]at hal;have HR:=AI hal hbl;have UF:=Le wr F (.slice A l.length c) l (bJ.below H.o.1 hbl) (by omega) (fun o ho hh=>Ce (List.all_eq_true.1 hal o ho) hh);have HN:=al UF;clear hal hbl UF;go_wp2_with fail;refine HN.o.m ?_;rintro e w6 ⟨rfl,gW⟩;have Lh:=al (HR.o.2.x (gW.m HR.o.2.size));clear gW HN
     cases hf:jk l with
     |true=>
      have HV:=al hf;clear hf;go_wp2_with fail;go_ret
      exact⟨by rw[H.o.d,ff (by rw[HA.o.1];simp),ff (by rw[HR.o.1];simp),ff (by rw[HV.o];simp)];rfl,Lh.o⟩
     |false=>
      have HV:=al hf;clear hf;go_wp2_with fail;go_ret
      exact⟨by rw[H.o.d,ff (by rw[HA.o.1];simp),ff (by rw[HR.o.1];simp),fi HV.o];rfl,Lh.o⟩
end Go.Proofs.YtehccbdajiiaaaaGreatDoor
