import Derived.Test.YtehccbdajiiaaaaGreatDoorS07
import Derived.Test.YtehccbdajiiaaaaGreatDoorS08
import Derived.Test.YtehccbdajiiaaaaGreatDoorS21
import Derived.Laws.RangeAny
import Derived.Laws.RangeString
import Derived.Deep.Cut
namespace Go.Proofs.YtehccbdajiiaaaaGreatDoor
open Go.Proofs.Tryz
set_option maxRecDepth 100000
set_option maxHeartbeats 16000000
open Go.RowKit
def aX.cells(o:aX):List Value:=[rm o.d,rm o.a,rm o.b,rm o.c,rm o.n]
def aX.val(o:aX):Value:=.agg #[rm o.d,rm o.a,rm o.b,rm o.c,rm o.n]
def aX.fits(o:aX):Prop:=(-9223372036854775808<=o.d/\o.d<=9223372036854775807)/\(-9223372036854775808<=o.a/\o.a<=9223372036854775807)/\(-9223372036854775808<=o.b/\o.b<=9223372036854775807)/\(-9223372036854775808<=o.c/\o.c<=9223372036854775807)/\(-9223372036854775808<=o.n/\o.n<=9223372036854775807)
def qi(w:World)(F:Nat->Prop)(v:Value)(l:List aX):Prop:=bI 5 w F v (l.map aX.cells)
def sx:Nat->List UInt8
 |1=>[65,67]
 |2=>[65,66]
 |3=>[65,66]
 |4=>[65,66]
 |5=>[65,66]
 |6=>[65,66]
 |7=>[65,66]
 |8=>[65,66,67]
 |9=>[65,66]
 |10=>[66]
 |11=>[65,66,67]
 |12=>[65,66,67,78]
 |13=>[65,78]
 |14=>[67,78]
 |15=>[65]
 |_=>[]
def gy(w:World):Prop:= ∀d:Nat,d<16->w.cell? ⟨0,d*2+1,none⟩=some (r7 (sx d))
theorem gy.below{w w':World}(h:gy w)(b:Below w.heap.size w w'):gy w':=fun d a=>(b.cell (p:=⟨0,d*2+1,none⟩) (aq _ _ (h d a))).x (h d a)
def iU:Nat->Int
 |0=>65
 |1=>66
 |2=>67
 |_=>78
theorem MF: ∀d,d<16->1<=d-> ∀i,i<4->decide (0<=Lib.indexByte (sx d) (iU i).toNat.toUInt8)=oW (d:Int) i:=by decide
open Go.Shelf in
theorem Tryz.ku(s:ByteArray)(r:Int)(w:World)(c:0<=r)(a:r<128):
  Calls prog 155 #[.string s,.int .i32 r] w fun e b=>e=.returned (.bool (decide (0<=Lib.indexByte s.data.toList r.toNat.toUInt8)))/\b=w:=Any.strings_ContainsRune_ascii Tryz.Uf s r w c a
theorem Qi(w:World)(B b:Nat)(i:Nat)(hi:i<4)(c:w.cell? ⟨B,0,none⟩=some (rv b)):
  Calls prog 195 #[.int .i32 (iU i),rv B] w fun e a=>e=.returned (.pointer (some ⟨b,1+i,none⟩))/\w=a:=by
 match i,hi with
 |0,_=>
  go_enter func195,ntmps195;go_wp2;go_ret
  exact⟨rfl,rfl⟩
 |1,_=>
  go_enter func195,ntmps195;go_wp2;go_ret
  exact⟨rfl,rfl⟩
 |2,_=>
  go_enter func195,ntmps195;go_wp2;go_ret
  exact⟨rfl,rfl⟩
 |3,_=>
  go_enter func195,ntmps195;go_wp2;go_ret
  exact⟨rfl,rfl⟩
theorem BJ(w:World)(b:Nat):
  Calls prog 154 #[rv b] w fun e a=>e=.returned (.func (.func 195) #[] #[rv w.heap.size])/\a=w.alloc (tr b):=by
 go_enter func154,ntmps154;go_wp2;go_ret
 exact⟨rfl,rfl⟩
theorem Ug(w:World)(d:Int)(i:Nat)(hi:i<4):
  Calls prog 156 #[rm d,.int .i32 (iU i)] w fun e a=>e=.returned (.tuple #[rm (EH d i),rm (CF d i)])/\w=a:=by
 match i,hi with
 |0,_=>
  by_cases h:d=9
  ·subst h;go_enter func156,ntmps156;go_wp2
   go_ret2
   exact⟨rfl,rfl⟩
  ·have e:(d==9)=false:=by simpa using h
   have b:CF d 0=7:=by simp[CF,h]
   have a:=al b;clear h b;go_enter func156,ntmps156;go_wp2
   go_ret2
   exact⟨by rw[a.o];rfl,rfl⟩
 |1,_=>
  go_enter func156,ntmps156;go_wp2
  go_ret2
  exact⟨rfl,rfl⟩
 |2,_=>
  by_cases h:d=1
  ·subst h;go_enter func156,ntmps156;go_wp2
   go_ret2
   exact⟨rfl,rfl⟩
  ·by_cases b:d=14
   ·subst b;go_enter func156,ntmps156;go_wp2
    go_ret2
    exact⟨rfl,rfl⟩
   ·have e:(d==1)=false:=by simpa using h
    have c:(d==14)=false:=by simpa using b
    have a:=al (show CF d 2=3/\EH d 2=0 by simp[CF,EH,h,b]);clear h b;go_enter func156,ntmps156;go_wp2
    go_ret2
    exact⟨by rw[a.o.1,a.o.2];rfl,rfl⟩
 |3,_=>
  by_cases h:d=12
  ·subst h;go_enter func156,ntmps156;go_wp2
   go_ret2
   exact⟨rfl,rfl⟩
  ·have e:(d==12)=false:=by simpa using h
   have a:=al (show CF d 3=64 by simp[CF,h]);clear h;go_enter func156,ntmps156;go_wp2
   go_ret2
   exact⟨by rw[a.o];rfl,rfl⟩
def IV:ByteArray:=⟨#[65,66,67,78]⟩
theorem IW: ∀(i:Nat) (h:i<IV.size),(IV[i]'h).toNat<128:=by decide
theorem MG(W:World)(i:Nat)(hi:i<4)(a:TypeId):(Instr.next (rv W.heap.size) true a).run prog (W.iter IV i)=.ok (.tuple #[.bool true,rm (i:Int),.int .i32 (iU i)]) (W.iter IV (i+1)):=by
 have h:i<IV.size:=hi;have:=run_next_ascii (P:=prog) W IV i a h (IW i h);rw[this]
 match i,hi with
 |0,_=>rfl
 |1,_=>rfl
 |2,_=>rfl
 |3,_=>rfl
theorem KQ(i:Nat):0<=iU i/\iU i<128:=by unfold iU;split<;>omega
theorem Qj{w:World}{b:Nat}{o:aX}(a:w.heap[b]?=some (sa o.d o.a o.b o.c o.n))(i:Nat)(hi:i<4):w.cell? ⟨b,1+i,none⟩=some (rm (o.uz i)):=by
 match i,hi with
 |0,_=>simp[World.cell?,a,aX.uz]
 |1,_=>simp[World.cell?,a,aX.uz]
 |2,_=>simp[World.cell?,a,aX.uz]
 |3,_=>simp[World.cell?,a,aX.uz]
theorem IX{o:aX}(a:(1<=o.d/\o.d<=15)):fo o=(List.range 4).all (fun i=>oW o.d i||o.uz i==0):=by unfold fo;rw[decide_eq_true a,Bool.true_and]
def Ag(W:World)(b B:Nat)(dn:Nat)(A a C N:Int):Prop:=
 W.cell? ⟨b,0,none⟩=some (rm (dn:Int))/\W.cell? ⟨B,0,none⟩=some (rv b)/\W.cell? ⟨0,dn*2+1,none⟩=some (r7 (sx dn))/\ ∀i,i<4->W.cell? ⟨b,1+i,none⟩=some (.int .i64 ((⟨(dn:Int),A,a,C,N⟩:aX).uz i))
theorem Ag.alloc{W:World}{b B dn:Nat}{A a C N:Int}(h:Ag W b B dn A a C N)(o:Obj):Ag (W.alloc o) b B dn A a C N:=⟨aI h.1 _,aI h.2.1 _,aI h.2.2.1 _,fun i a=>aI (h.2.2.2 i a) _⟩
theorem Ag.iter{W:World}{b B dn:Nat}{A a C N:Int}(h:Ag W b B dn A a C N)(s:ByteArray)(i:Nat):Ag (W.iter s i) b B dn A a C N:=h.alloc _
theorem Ag.start(w:World)(b:gy w)(dn:Nat)(a:dn<16)(A B C N:Int):Ag ((w.alloc (sa (dn:Int) A B C N)).alloc (tr w.heap.size)) w.heap.size (w.heap.size+1) dn A B C N:=
 ⟨by simp,by simp,(b.below (((bd _ _).alloc (b8 _) _).alloc (by simp) _)) dn a,fun i a=>aI (Qj (o:=⟨(dn:Int),A,B,C,N⟩) (an _ _) i a) _⟩
theorem FC{p:Nat->Bool}{i:Nat}:(List.range (i+1)).all p=((List.range i).all p&&p i):=by rw[List.range_succ,List.all_append];simp
theorem MH(w:World)(z:gy w)(dn:Nat)(L:1<=dn)(D:dn<16)(A B C N:Int):
  Calls prog 97 #[.agg #[rm (dn:Int),rm A,rm B,rm C,rm N]] w fun T S=>T=.returned (.bool (fo ⟨(dn:Int),A,B,C,N⟩))/\Below w.heap.size w S:=by
 have H:=IX (o:=⟨(dn:Int),A,B,C,N⟩) ⟨by show(1:Int)<=dn;omega,by show(dn:Int)<=15;omega⟩;have k:=Ag.start w z dn D A B C N;have j:Below w.heap.size w ((w.alloc (sa (dn:Int) A B C N)).alloc (tr w.heap.size)):=((bd _ _).alloc (b8 _) _).alloc (by simp) _;have p:=AD H (MF dn D L);have Z: ¬((dn:Int)<1):=by omega
 have Y: ¬((15:Int)<(dn:Int)):=by omega
 clear H z;go_enter func97,ntmps97;go_wp2_with fail;refine(BJ _ w.heap.size).m ?_;rintro T a ⟨rfl,x⟩;have v:(w.alloc (sa (dn:Int) A B C N)).heap.size=w.heap.size+1:=by simp
 rw[v];generalize ((w.alloc (sa (dn:Int) A B C N)).alloc (tr w.heap.size))=W at k j x;subst x;have e:=AD k j;clear k j v;obtain⟨U,n⟩:=rk (w.heap.size);have y:=al n;have I:=al (show U<=a.heap.size by have:=e.o.2.size;omega);rw[n]at e;go_wp2_with fail;clear n
 go_loopw [5] (fun _ r=> ∃i:Nat,i<=4/\r=a.iter ⟨#[65,66,67,78]⟩ i/\(List.range i).all (fun K=>oW (dn:Int) K||(⟨(dn:Int),A,B,C,N⟩:aX).uz K==0)=true) (fun _ r=>4-r.iterPos a.heap.size)
 case atStart=>exact⟨0,dq _,rfl,rfl⟩
 case round=>
  obtain⟨i,hi,rfl,f⟩:=hrel;by_cases c:i<4
  ·have u:=MG a i c;unfold IV at u;obtain⟨c0,R,cT,F⟩:=e.o.1.iter ⟨#[65,66,67,78]⟩ (i+1);have O:=F i c;have J:=KQ i;have E:=p.o.2 i c;obtain⟨V,s⟩:=rk ((⟨(dn:Int),A,B,C,N⟩:aX).uz i);rw[s]at O;obtain⟨q,t⟩:=rk (oW (dn:Int) i);have b:=AF f s t;have l:=Tryz.ku ⟨(sx dn).toArray⟩ (iU i) (a.iter ⟨#[65,66,67,78]⟩ (i+1)) J.1 J.2;rw[E,t]at l;have P:=al l;have M:=al (Qi (a.iter ⟨#[65,66,67,78]⟩ (i+1)) (U+1) U i c R);clear f s t E F l;go_wp2_with fail;refine P.o.m ?_;rintro T w2 ⟨rfl,rfl⟩
   cases q with
   |true=>
    have g:=al b.o.d;go_wp2_with fail;go_roundw
    case rel=>exact⟨i+1,by omega,rfl,by rw[FC,b.o.1,g.o];rfl⟩
    case measure=>simp;omega
   |false=>
    have g:=al b.o.d;go_wp2_with fail;refine M.o.m ?_;rintro T w3 ⟨rfl,rfl⟩;by_cases d:V=0
    ·have h:=al (b.o.2.1.x d);subst d;go_wp2_with fail;go_roundw
     case rel=>exact⟨i+1,by omega,rfl,by rw[FC,b.o.1,g.o,h.o];rfl⟩
     case measure=>simp;omega
    ·have X:(V !=0)=true:=by simpa using d
     have h:=AD d b.o.2.1;clear d;go_wp2_with fail;go_ret
     refine⟨?_,?_⟩
     ·rw[p.o.1]
      have:(List.range 4).all (fun K=>oW (dn:Int) K||(⟨(dn:Int),A,B,C,N⟩:aX).uz K==0)=false:=by rw[Bool.eq_false_iff];intro G;rw[List.all_eq_true]at G;have o:=G i (List.mem_range.2 c);rw[g.o,h.o.2]at o;simp at o;exact h.o.1 o
      rw[this];rfl
     ·rw[y.o];exact e.o.2.alloc I.o _
  ·obtain rfl:i=4:=by omega
   have Q:=al f;clear f;have u: ∀m,(Instr.next (rv a.heap.size) true m).run prog (a.iter ⟨#[65,66,67,78]⟩ 4)=.ok (.tuple #[.bool false]) (a.iter ⟨#[65,66,67,78]⟩ 4):=fun m=>run_next_end a ⟨#[65,66,67,78]⟩ 4 m (by decide);go_wp2_with fail;go_ret
   refine⟨by rw[p.o.1,Q.o];rfl,?_⟩;rw[y.o];exact e.o.2.alloc I.o _
theorem MK(w:World)(c:gy w)(o:aX):Calls prog 97 #[o.val] w fun e a=>e=.returned (.bool (fo o))/\Below w.heap.size w a:=by
 obtain⟨D,A,B,C,N⟩:=o;unfold aX.val;by_cases b:1<=D/\D<=15
 ·obtain⟨a,rfl⟩: ∃a:Nat,D=(a:Int):=⟨D.toNat,by omega⟩;exact MH w c a (by omega) (by omega) A B C N
 ·have a:=al (show fo ⟨D,A,B,C,N⟩=false by unfold fo;rw[decide_eq_false b];rfl);by_cases e:D<1;rotate_left
  focus
   have d:15<D:=by omega
  all_goals
   clear b c;go_enter func97,ntmps97;go_wp2;go_ret
   exact⟨by rw[a.o];rfl,(bd _ _).alloc (b8 _) _⟩
def Z7(o:aX)(i:Nat):Bool:=decide (EH o.d i<=o.uz i)&&decide (o.uz i<=CF o.d i)
def mD(d:Nat):List Nat:=(List.range 4).filter (oW (d:Int))
theorem BK: ∀d,d<16->1<=d->sx d=(mD d).map (fun i=>(iU i).toNat.toUInt8):=by decide
theorem Ya{d i j:Nat}(h:(mD d)[j]?=some i):i<4:=by have:=db h;unfold mD at this;exact List.mem_range.1 (List.mem_filter.1 this).1
theorem IZ(o:aX){dn:Nat}(a:o.d=(dn:Int)):fp o=(mD dn).all (Z7 o):=by
 unfold fp mD;rw[List.all_filter];congr 1
 funext i
 rw[a];unfold Z7;rw[a]
theorem Qk(W:World)(s:ByteArray)(dn j i:Nat)(hs:s.data.toList=(mD dn).map (fun i=>(iU i).toNat.toUInt8))(hi:(mD dn)[j]?=some i)(ty:TypeId):
  (Instr.next (rv W.heap.size) true ty).run prog (W.iter s j)=.ok (.tuple #[.bool true,rm (j:Int),.int .i32 (iU i)]) (W.iter s (j+1)):=by
 have hj:s.data.toList[j]?=some (iU i).toNat.toUInt8:=by rw[hs];simp[hi]
 have hjl:j<s.size:=by have:=(aw.1 hj).1;simpa using this
 have hv:(s[j]'hjl)=(iU i).toNat.toUInt8:=by have h2:=(aw.1 hj).2;rw[<-h2];rfl
 have qG:=KQ i;have hn:(s[j]'hjl).toNat=(iU i).toNat:=by rw[hv];simp;omega
 have:=run_next_ascii (P:=prog) W s j ty hjl (by rw[hn];omega);rw[this,hn];have e:(((iU i).toNat:Nat):Int)=iU i:=by omega
 rw[e]
theorem ML(w:World)(hs:gy w)(dn:Nat)(hd1:1<=dn)(MJ:dn<16)(A B C N:Int):
  Calls prog 98 #[.agg #[rm (dn:Int),rm A,rm B,rm C,rm N]] w fun e w'=>e=.returned (.bool (fp ⟨(dn:Int),A,B,C,N⟩))/\Below w.heap.size w w':=by
 have DU:=IZ ⟨(dn:Int),A,B,C,N⟩ (dn:=dn) rfl;have hst:=Ag.start w hs dn MJ A B C N;have hBl:Below w.heap.size w ((w.alloc (sa (dn:Int) A B C N)).alloc (tr w.heap.size)):=((bd _ _).alloc (b8 _) _).alloc (by simp) _;have hhb:(⟨(sx dn).toArray⟩:ByteArray).data.toList=(mD dn).map (fun i=>(iU i).toNat.toUInt8):=by rw[<-BK dn MJ hd1]
 have HH:=AD DU hhb;have hdi:(0:Int)<=(dn:Int):=by omega
 have acS:(dn:Int)<16:=by omega
 clear DU hs hhb;go_enter func98,ntmps98;go_wp2_with fail;refine(BJ _ w.heap.size).m ?_;rintro e w1 ⟨rfl,hw1⟩;have hsz:(w.alloc (sa (dn:Int) A B C N)).heap.size=w.heap.size+1:=by simp
 rw[hsz];generalize ((w.alloc (sa (dn:Int) A B C N)).alloc (tr w.heap.size))=W at hst hBl hw1;subst hw1;have HS:=AD hst hBl;obtain⟨c0,cB,cT,_⟩:=hst;clear hBl hsz;obtain⟨b,hb⟩:=rk (w.heap.size);have HB:=al hb;have IY:=al (show b<=w1.heap.size by have:=HS.o.2.size;omega);rw[hb]at HS c0 cB;rw[hb];clear hb;go_wp2_with fail;clear c0 cB cT;obtain⟨s,hse⟩: ∃s:ByteArray,(⟨(sx dn).toArray⟩:ByteArray)=s:=⟨_,rfl⟩;have HHS:=al (show s.data.toList=(mD dn).map (fun i=>(iU i).toNat.toUInt8) by rw[<-hse,<-BK dn MJ hd1]);rw[hse];clear hse
 go_loopw [5] (fun _ wr=> ∃j:Nat,j<=(mD dn).length/\wr=w1.iter s j/\((mD dn).take j).all (Z7 ⟨(dn:Int),A,B,C,N⟩)=true) (fun _ wr=>(mD dn).length-wr.iterPos w1.heap.size)
 case atStart=>exact⟨0,dq _,rfl,rfl⟩
 case round=>
  obtain⟨j,hj,rfl,hal⟩:=hrel;by_cases hlt:j<(mD dn).length
  ·obtain⟨i,hi⟩: ∃i,(mD dn)[j]?=some i:=⟨_,ao hlt⟩;have hi4:=Ya hi;have hnx:=Qk w1 s dn j i HHS.o hi;obtain⟨c0,cB,cT,cf⟩:=HS.o.1.iter s (j+1);have cfi:=cf i hi4;have hin:Z7 ⟨(dn:Int),A,B,C,N⟩ i=(decide (EH (dn:Int) i<=(⟨(dn:Int),A,B,C,N⟩:aX).uz i)&&decide ((⟨(dn:Int),A,B,C,N⟩:aX).uz i<=CF (dn:Int) i)):=rfl;have hsp:=Ug (w1.iter s (j+1)) (dn:Int) i hi4;obtain⟨z,hz⟩:=rk ((⟨(dn:Int),A,B,C,N⟩:aX).uz i);obtain⟨lo,hlo⟩:=rk (EH (dn:Int) i);obtain⟨hi',hhi⟩: ∃z,CF (dn:Int) i=z:=⟨_,rfl⟩;rw[hz,hlo,hhi]at hin;rw[hz]at cfi;rw[hlo,hhi]at hsp;have HSP:=al hsp;have HFL:=al (Qi (w1.iter s (j+1)) (b+1) b i hi4 cB);have HI:=AF hal hin hi;clear hal hin hi hsp hz hlo hhi cf hj;go_wp2_with fail;refine HSP.o.m ?_;rintro e w2 ⟨rfl,rfl⟩;go_wp2_with fail;refine HFL.o.m ?_;rintro e w3 ⟨rfl,rfl⟩;by_cases hlo:z<lo
   ·have HL:=al hlo;go_wp2_with fail;go_ret
    refine⟨?_,?_⟩
    ·rw[HH.o.1]
     have:(mD dn).all (Z7 ⟨(dn:Int),A,B,C,N⟩)=false:=by rw[Bool.eq_false_iff];intro hh;rw[List.all_eq_true]at hh;have h1:=hh i (db HI.o.d);rw[HI.o.2.1,mu,decide_eq_true_iff,decide_eq_true_iff]at h1;have:=HL.o;omega
     rw[this];rfl
    ·rw[HB.o];exact HS.o.2.alloc IY.o _
   ·go_wp2_with fail;refine HFL.o.m ?_;rintro e w4 ⟨rfl,rfl⟩;by_cases Kz:hi'<z
    ·have HL:=al Kz;go_wp2_with fail;go_ret
     refine⟨?_,?_⟩
     ·rw[HH.o.1]
      have:(mD dn).all (Z7 ⟨(dn:Int),A,B,C,N⟩)=false:=by rw[Bool.eq_false_iff];intro hh;rw[List.all_eq_true]at hh;have h1:=hh i (db HI.o.d);rw[HI.o.2.1,mu,decide_eq_true_iff,decide_eq_true_iff]at h1;have:=HL.o;omega
      rw[this];rfl
     ·rw[HB.o];exact HS.o.2.alloc IY.o _
    ·have HL:=AD hlo Kz;go_wp2_with fail;go_roundw
     case rel=>refine⟨j+1,by omega,rfl,?_⟩;rw[gO,HI.o.d,List.all_append,HI.o.1];have h3:=HL.o;simp[HI.o.2.1];omega
     case measure=>simp;omega
  ·obtain rfl:j=(mD dn).length:=by omega
   have HA:=al hal
   have hnl: ¬(mD dn).length<s.size:=by have:=eE List.length HHS.o;simp at this;have h2:s.data.size=s.size:=rfl;omega
   clear hal hlt hj;have hnx: ∀ty,(Instr.next (rv w1.heap.size) true ty).run prog (w1.iter s (mD dn).length)=.ok (.tuple #[.bool false]) (w1.iter s (mD dn).length):=fun ty=>run_next_end w1 s (mD dn).length ty hnl;clear hnl;go_wp2_with fail;go_ret
   refine⟨?_,?_⟩
   ·have:=HA.o;rw[gE]at this;rw[HH.o.1,this];rfl
   ·rw[HB.o];exact HS.o.2.alloc IY.o _
theorem MN(w:World)(hs:gy w)(o:aX)(ho:1<=o.d/\o.d<=15):Calls prog 98 #[o.val] w fun e w'=>e=.returned (.bool (fp o))/\Below w.heap.size w w':=by obtain⟨D,A,B,C,N⟩:=o;unfold aX.val;simp only at ho;obtain⟨dn,rfl⟩: ∃dn:Nat,D=(dn:Int):=⟨D.toNat,by omega⟩;exact ML w hs dn (by omega) (by omega) A B C N
theorem FD(w:World)(o:aX):Calls prog 157 #[o.val] w fun e a=>e=.returned (.bool o.holds)/\Below w.heap.size w a:=by
 obtain⟨D,A,B,C,N⟩:=o;unfold aX.val aX.holds;by_cases h:D=13
 ·subst h;go_enter func157,ntmps157;go_wp2;go_ret
  exact⟨rfl,(bd _ _).alloc (b8 _) _⟩
 ·have e:(D==13)=false:=by simpa using h
  clear h;go_enter func157,ntmps157;go_wp2;go_ret
  refine⟨?_,(bd _ _).alloc (b8 _) _⟩;rw[e];rfl
theorem Tryz.Ql:(prog.info? 3).map (fun i=>(i.zero,i.size,i.bytes))=some (some (rm 0),1,8):=by kernel_rfl
def sliceLen:Value->Nat
 | .slice _ n _=>n
 |_=>0
def oK(w:World)(v:Value)(a:List Int)(b:World):Prop:=
 ∃A c,v=.slice A a.length c/\b.ownsRow w.heap.size 3 1 v a.length (a.map (Value.int .i64))/\Below w.heap.size w b
theorem oK.nil(w:World):oK w (.slice none 0 0) [] w:=⟨none,0,rfl,dy _ _ _ _,bd _ _⟩
theorem oK.below{w a w':World}{v:Value}{d:List Int}(h:oK w v d a)(b:Below a.heap.size a w'):oK w v d w':=
 let⟨A,c,e,h1,h2⟩:=h;⟨A,c,e,bE h1 b,h2.x (b.m h2.size)⟩
theorem I0{w:World}{base:Nat}{e:TypeId}{A:Option Addr}{n c:Nat}{xs:List Value}{x:Value}(h:w.ownsRow base e 1 (.slice A (n+1) c) (n+1) (xs++[x]))(k:xs.length=n):w.ownsRow base e 1 (.slice A n c) n xs:=by
 rcases h.2 with⟨b,m⟩|⟨p,l,a,j,d,g,o,i,h,f⟩
 ·injection b with _ b _;omega
 ·injection j with b l j;subst b j;refine⟨by simpa using k,.inr ⟨p,c,a,rfl,d,g,by omega,i,h,?_⟩⟩;have b:(a.toList.take ((n+1)*1)).take (n*1)=(xs++[x]).take (n*1):=by rw[f]
  rw[List.take_take,oe (by omega)]at b;rw[b,List.take_append_of_le_length (by omega),fm (by omega)]
theorem oK.pop{w b:World}{A:Option Addr}{n c:Nat}{a:List Int}{x:Int}(h:oK w (.slice A n c) (a++[x]) b):oK w (.slice A a.length c) a b:=by obtain⟨e,f,d,a,b⟩:=h;injection d with f d e;subst f d e;rw[gr,gR]at a;exact⟨A,c,rfl,I0 a (by simp),b⟩
theorem oK.top{w b:World}{A:Option Addr}{n c:Nat}{a:List Int}{x:Int}(i:oK w (.slice A n c) (a++[x]) b): ∃h,A=some ⟨h,0,none⟩/\b.cell? ⟨h,a.length,none⟩=some (rm x)/\h<b.heap.size/\a.length+1<=c:=by
 obtain⟨d,g,f,e,b⟩:=i;injection f with d g b;subst d g b;obtain⟨h,k,f,i,j⟩:=e.form (by simp)
 have i:a.length+1<=c:=by
  rcases e.2 with⟨_,l⟩|⟨_,_,_,k,_,_,m,_⟩
  ·simp at l
  ·injection k with _ _ b;subst b;simpa using m
 injection f with d g b;subst d;refine⟨h,rfl,?_,j,i⟩;have:=e.cellAt a.length (by simp);rw[this];simp
theorem qi.at_{w:World}{F:Nat->Prop}{A:Option Addr}{n c:Nat}{l:List aX}(j:qi w F (.slice A n c) l){k:Nat}{x:aX}(e:l[k]?=some x):
  ∃d o,A=some ⟨d,o,none⟩/\F d/\w.cell? ⟨d,o+k*5,none⟩=some (rm x.d)/\w.cell? ⟨d,o+k*5+1,none⟩=some (rm x.a)/\w.cell? ⟨d,o+k*5+2,none⟩=some (rm x.b)/\
   w.cell? ⟨d,o+k*5+3,none⟩=some (rm x.c)/\w.cell? ⟨d,o+k*5+4,none⟩=some (rm x.n):=by
 obtain⟨b,i,g,a,h,_,_,f⟩:=j;injection a with b a g;subst b a g;have a:=(aw.1 e).1;obtain⟨d,o,rfl,g,b⟩:=f (by simp at h;omega);have a:(l.map aX.cells)[k]?=some x.cells:=by simp[e]
 exact⟨d,o,rfl,g,b k _ a 0 _ rfl,b k _ a 1 _ rfl,b k _ a 2 _ rfl,b k _ a 3 _ rfl,b k _ a 4 _ rfl⟩
theorem qi.slice{w:World}{F:Nat->Prop}{v:Value}{l:List aX}(h:qi w F v l): ∃A c,v=.slice A l.length c/\l.length<=c/\c<=maxLen:=by obtain⟨c,g,e,d,a,f,b,_⟩:=h;simp at a;exact⟨c,e,by rw[a];exact d,by omega,b⟩
def abh(w:World)(l:List aX)(k:Nat)(v:Value)(b:World):Prop:=
 ∃a,oK w v a b/\a.Pairwise (fun c b=>c≥b)/\a.filter (fun e=>decide ((k:Int)<e))=opens l k/\iw l k=true/\a.length<=k
theorem MO(w:World)(F:Nat->Prop)(v:Value)(l:List aX)(h:qi w F v l)(hl:l.length<=64)(hn: ∀o∈l,o.holds=true->0<=o.n/\o.n<=64):
  Calls prog 99 #[v] w fun e w'=>e=.returned (.bool (jr l))/\Below w.heap.size w w':=by
 obtain⟨i0,hi,hz0,hz1,hz2⟩:=eh Tryz.Ql;obtain⟨A,c,rfl,_⟩:=h.slice;have H:=AF h hn hi;clear h hn hi;go_enter func99,ntmps99;go_wp2_with fail
 go_loopw [3,10] (fun v i wr=> ∃k:Nat,k<=l.length/\i=rm (k:Int)/\abh w l k v wr) (fun _ i _=>l.length-(intOf i).toNat)
 case atStart=>exact⟨0,dq _,rfl,[],oK.nil w,ee,rfl,rfl,b8 _⟩
 case round=>
  obtain⟨k,hk,rfl,es0,hst,hpw,hfl,hnt,hle0⟩:=hrel;by_cases hlt:k<l.length
  ·obtain⟨x,hx⟩: ∃x,l[k]?=some x:=⟨_,ao hlt⟩;obtain⟨b,o,rfl,uA,c0,c1,c2,c3,c4⟩:=H.o.1.at_ hx;have hbl:Below w.heap.size w wr:=let⟨_,_,_,_,hb⟩:=hst;hb
   have gP:=aq _ _ c0;have d0:=(hbl.cell (p:=⟨b,o+k*5,none⟩) gP).x c0;have d1:=(hbl.cell (p:=⟨b,o+k*5+1,none⟩) gP).x c1;have d2:=(hbl.cell (p:=⟨b,o+k*5+2,none⟩) gP).x c2;have d3:=(hbl.cell (p:=⟨b,o+k*5+3,none⟩) gP).x c3;have d4:=(hbl.cell (p:=⟨b,o+k*5+4,none⟩) gP).x c4;obtain⟨D,A',B',C',N'⟩:=x;simp only at d0 d1 d2 d3 d4;have abj:=hst.below (((bd _ _).alloc (b8 _) (sa D A' B' C' N')));have HX:=AM hx hpw hfl hnt abj;obtain⟨A0,c0',rfl,_,_⟩:=hst;clear hx hpw hfl hnt abj hbl c0 c1 c2 c3 c4 uA;go_upto_region 5 with fail;have q0:(wr.alloc (sa D A' B' C' N')).cell? ⟨wr.heap.size,0,none⟩=some (rm D):=by simp
   have q1:(wr.alloc (sa D A' B' C' N')).cell? ⟨wr.heap.size,1,none⟩=some (rm A'):=by simp
   have q2:(wr.alloc (sa D A' B' C' N')).cell? ⟨wr.heap.size,2,none⟩=some (rm B'):=by simp
   have q3:(wr.alloc (sa D A' B' C' N')).cell? ⟨wr.heap.size,3,none⟩=some (rm C'):=by simp
   have q4:(wr.alloc (sa D A' B' C' N')).cell? ⟨wr.heap.size,4,none⟩=some (rm N'):=by simp
   generalize wr.alloc (sa D A' B' C' N')=W4 at HX q0 q1 q2 q3 q4⊢;obtain⟨B4,hB4⟩:=rk (wr.heap.size);rw[hB4]at q0 q1 q2 q3 q4⊢;clear hB4 d0 d1 d2 d3 d4 gP
   go_loop [3] (fun v=> ∃es,oK w v es W4/\es.Pairwise (fun a b=>a≥b)/\es.filter (fun e=>decide ((k:Int)<e))=opens l k/\es.length<=k) (fun v=>sliceLen v)
   case atStart=>exact⟨es0,HX.o.q,HX.o.2.1,HX.o.d.1,hle0⟩
   case round=>
    obtain⟨es,hst,hpw,hfl,hle⟩:=hrel;obtain⟨A5,c5,rfl,how,hbl⟩:=hst;have hst:oK w (.slice A5 es.length c5) es W4:=⟨A5,c5,rfl,how,hbl⟩;clear how hbl;rcases List.eq_nil_or_concat es with rfl|⟨es',z,hes⟩
    ·obtain⟨es,hes⟩: ∃es:List Int,es=[]:=⟨[],rfl⟩;have Uh:=al hes;have HLEN:=al (show es.length=0 by rw[hes];rfl);have hle0:es.length<=0:=by rw[hes];exact b8 _
     have HO:=al (show oK w (.slice A5 0 c5) es W4/\es.Pairwise (fun a b=>a≥b)/\es=opens l k/\es.length<=k by rw[hes];exact⟨hst,hpw,hfl,dq _⟩);clear hst hpw hfl hes;by_cases h8:es.length<=8
     ·have h8': ¬((8:Int)<(0:Int)):=by omega
      go_wp2_with fail;refine(FD W4 ⟨D,A',B',C',N'⟩).m ?_;rintro e5 w5 ⟨rfl,fO⟩;have q4':=(fO.cell (p:=⟨B4,4,none⟩) (aq _ _ q4)).x q4;have I1:=AD (HO.o.1.below fO) fO;clear fO
      cases hh:(⟨D,A',B',C',N'⟩:aX).holds with
      |false=>
       have HH:=al hh;clear hh;go_wp2_with fail;go_roundw
       case rel=>
        have hpl:eU l k ⟨D,A',B',C',N'⟩=true:=by unfold eU;rw[<-HO.o.d.1,HH.o,decide_eq_true h8];rfl
        exact⟨k+1,by omega,by go_num,es,I1.o.1,HO.o.2.1,by rw[HO.o.d.1];exact EJ HX.o.1 HH.o,by rw[cz HX.o.1,HX.o.t.1,hpl];rfl,by omega⟩
       case measure=>simp[intOf];omega
      |true=>
       have hnb:=H.o.2.1 _ (db HX.o.1) hh;simp only at hnb;have acT:=hnb.1;have acU:=hnb.2;have HH:=al hh;clear hh hnb;have hlo:=al (show mB l.length (opens l k)=(l.length:Int) by rw[<-HO.o.d.1,Uh.o];rfl);have hmx:=al (show ∀e∈es,(k:Int)+1+N'<=e by intro e he;rw[Uh.o]at he;simp at he);by_cases hend:(l.length:Int)<(k:Int)+1+N'
       ·have HE:=al hend;go_wp2_with fail;go_ret
        refine⟨?_,let⟨_,_,_,_,hb⟩:=I1.o.1;hb⟩
        have hpl:eU l k ⟨D,A',B',C',N'⟩=false:=by
         unfold eU;rw[hlo.o,HH.o];have: ¬eN k ⟨D,A',B',C',N'⟩<=(l.length:Int):=by have:=HE.o;unfold eN;simp only;omega
         rw[decide_eq_false this];simp
        have:jr l=false:=by rw[Bool.eq_false_iff];intro hh;have h1:=gD hh (show k+1<=l.length by omega);rw[cz HX.o.1,hpl]at h1;simp at h1
        rw[this];rfl
       ·have HE:=al hend;have Qm:=I1.o.1;obtain⟨Ax,cx,hvx,Ui,bQ⟩:=Qm;rw[HLEN.o]at Ui;have hnews:=eb (an w5 (td ((k:Int)+1+N')));have Xb:=bQ.size;have HA:=AM (Ui.alloc (td ((k:Int)+1+N'))) hnews bQ Ui H.o.d;clear hvx Ui bQ hnews;go_wp2_with (at_builtin;go_loud (refine et _ rfl _ _ 94 rfl w.heap.size 3 i0 _ 1 8 underlying94 HA.o.q hz0 hz1 hz2 rfl (by decide) _ (0) _ rfl HA.o.1 ⟨w5.heap.size,0,none⟩ 1 1 [rm ((k:Int)+1+N')] rfl rfl HA.o.2.1 (by simp[Value.oneCell']) (by decide) (by unfold maxLen;omega) (by omega) (by simp;omega) _ rfl ?_));intro g6 Yb w6 mo SB yn Yc;have HG:=AD mo SB;clear mo SB yn Yc;go_wp2_with fail;go_roundw
        case rel=>
         have hpl:eU l k ⟨D,A',B',C',N'⟩=true:=by
          unfold eU;rw[hlo.o,<-HO.o.d.1,HH.o,decide_eq_true h8];have:eN k ⟨D,A',B',C',N'⟩<=(l.length:Int):=by have:=HE.o;unfold eN;simp only;omega
          rw[decide_eq_true this];rfl
         have hmx: ∀e∈es,(k:Int)+1+N'<=e:=hmx.o;refine⟨k+1,by omega,by go_num,es++[(k:Int)+1+N'],⟨some ⟨g6,0,none⟩,Yb,by rw[Uh.o];rfl,?_,?_⟩,xA HO.o.2.1 hmx,?_,by rw[cz HX.o.1,HX.o.t.1,hpl];rfl,by simp;omega⟩
         ·have h9:=HG.o.1;rw[Uh.o]at h9⊢;simpa using h9
         ·exact(HA.o.d.1.alloc Xb _).grown HG.o.2 (by simp;omega) (fun j hj=>(HA.o.t.1.lt j hj).1)
         ·rw[HO.o.d.1];exact Bh HX.o.1 HH.o
        case measure=>simp[intOf];omega
     ·have h8':(8:Int)<(0:Int):=by omega
      go_wp2_with fail;go_ret
      refine⟨?_,let⟨_,_,_,_,hb⟩:=HO.o.1;hb⟩
      have hpl:eU l k ⟨D,A',B',C',N'⟩=false:=by unfold eU;rw[<-HO.o.d.1,decide_eq_false h8];rfl
      have:jr l=false:=by rw[Bool.eq_false_iff];intro hh;have h1:=gD hh (show k+1<=l.length by omega);rw[cz HX.o.1,hpl]at h1;simp at h1
      rw[this];rfl
    ·rw[List.concat_eq_append]at hes;obtain⟨g,hA5,hcz,hgl,hcap⟩:=(show oK w (.slice A5 es.length c5) (es'++[z]) W4 by rw[<-hes];exact hst).top;have hlen:es.length=es'.length+1:=by rw[hes];simp
     subst hA5;by_cases hzk:z<=(k:Int)
     ·have HO:=AI hst hpw hfl hes;clear hst hpw hfl hes;rw[hlen];go_wp2_with fail
      go_round
      case rel=>
       have acV:oK w (.slice (some ⟨g,0,none⟩) (es'.length+1) c5) (es'++[z]) W4:=by rw[<-hlen,<-HO.o.t];exact HO.o.1
       have acW:(es'++[z]).Pairwise (fun a b=>a≥b):=by rw[<-HO.o.t];exact HO.o.2.1
       refine⟨es',acV.pop,(List.pairwise_append.1 acW).1,?_,by omega⟩;have h1:=HO.o.d.1;rw[HO.o.t,nF,List.filter_cons,fb (by simp;omega),List.filter_nil,fs]at h1;exact h1
      case measure=>simp[sliceLen]
     ·have Uh:=al hes;have hall:es.filter (fun e=>decide ((k:Int)<e))=es:=L4 hpw (fun e he=>by rw[hes]at he;simp at he;omega);rw[hall]at hfl;have HLEN:=al hlen;have HO:=al (show oK w (.slice (some ⟨g,0,none⟩) (es'.length+1) c5) es W4/\es.Pairwise (fun a b=>a≥b)/\es=opens l k/\es.length<=k by rw[<-hlen];exact⟨hst,hpw,hfl,hle⟩);have NU:es.length<=es'.length+1:=by omega
      have hl2:es'.length+1<=es.length:=by omega
      rw[hlen];clear hst hpw hfl hes hall hlen;by_cases h8:es.length<=8
      ·have h8': ¬((8:Int)<((es'.length:Int)+1)):=by omega
       go_wp2_with fail;refine(FD W4 ⟨D,A',B',C',N'⟩).m ?_;rintro e5 w5 ⟨rfl,fO⟩;have q4':=(fO.cell (p:=⟨B4,4,none⟩) (aq _ _ q4)).x q4;have aex:=(fO.cell (p:=⟨g,es'.length,none⟩) hgl).x hcz;have I1:=AD (HO.o.1.below fO) fO;clear fO
       cases hh:(⟨D,A',B',C',N'⟩:aX).holds with
       |false=>
        have HH:=al hh;clear hh;go_wp2_with fail;go_roundw
        case rel=>
         have hpl:eU l k ⟨D,A',B',C',N'⟩=true:=by unfold eU;rw[<-HO.o.d.1,HH.o,decide_eq_true h8];rfl
         exact⟨k+1,by omega,by go_num,es,I1.o.1,HO.o.2.1,by rw[HO.o.d.1];exact EJ HX.o.1 HH.o,by rw[cz HX.o.1,HX.o.t.1,hpl];rfl,by omega⟩
        case measure=>simp[intOf];omega
       |true=>
        have hnb:=H.o.2.1 _ (db HX.o.1) hh;simp only at hnb;have acT:=hnb.1;have acU:=hnb.2;have HH:=al hh;clear hh hnb;have hlo:=al (show mB l.length (opens l k)=z by rw[<-HO.o.d.1,Uh.o];simp[mB]);by_cases hend:z<(k:Int)+1+N'
        ·have HE:=al hend;go_wp2_with fail;go_ret
         refine⟨?_,let⟨_,_,_,_,hb⟩:=I1.o.1;hb⟩
         have hpl:eU l k ⟨D,A',B',C',N'⟩=false:=by
          unfold eU;rw[hlo.o,HH.o];have: ¬eN k ⟨D,A',B',C',N'⟩<=z:=by have:=HE.o;unfold eN;simp only;omega
          rw[decide_eq_false this];simp
         have:jr l=false:=by rw[Bool.eq_false_iff];intro hh;have h1:=gD hh (show k+1<=l.length by omega);rw[cz HX.o.1,hpl]at h1;simp at h1
         rw[this];rfl
        ·have HE:=al hend;have Qm:=I1.o.1;obtain⟨Ax,cx,hvx,Ui,bQ⟩:=Qm;rw[HLEN.o]at Ui;have hnews:=eb (an w5 (td ((k:Int)+1+N')));have Xb:=bQ.size;have HA:=AM (Ui.alloc (td ((k:Int)+1+N'))) hnews bQ Ui H.o.d;clear hvx Ui bQ hnews;go_wp2_with (at_builtin;go_loud (refine et _ rfl _ _ 94 rfl w.heap.size 3 i0 _ 1 8 underlying94 HA.o.q hz0 hz1 hz2 rfl (by decide) _ (es'.length+1) _ rfl HA.o.1 ⟨w5.heap.size,0,none⟩ 1 1 [rm ((k:Int)+1+N')] rfl rfl HA.o.2.1 (by simp[Value.oneCell']) (by decide) (by unfold maxLen;omega) (by omega) (by simp;omega) _ rfl ?_));intro g6 Yb w6 mo SB yn Yc;have HG:=AD mo SB;clear mo SB yn Yc;go_wp2_with fail;go_roundw
         case rel=>
          have hpl:eU l k ⟨D,A',B',C',N'⟩=true:=by
           unfold eU;rw[hlo.o,<-HO.o.d.1,HH.o,decide_eq_true h8];have:eN k ⟨D,A',B',C',N'⟩<=z:=by have:=HE.o;unfold eN;simp only;omega
           rw[decide_eq_true this];rfl
          have hmx: ∀e∈es,(k:Int)+1+N'<=e:=(by rw[Uh.o];exact Hs (by rw[<-Uh.o];exact HO.o.2.1) (by have:=HE.o;omega));refine⟨k+1,by omega,by go_num,es++[(k:Int)+1+N'],⟨some ⟨g6,0,none⟩,Yb,by rw[Uh.o];simp,?_,?_⟩,xA HO.o.2.1 hmx,?_,by rw[cz HX.o.1,HX.o.t.1,hpl];rfl,by simp;omega⟩
          ·have h9:=HG.o.1;rw[show(es++[(k:Int)+1+N']).length=es'.length+1+1 by simp[HLEN.o]];simpa using h9
          ·exact(HA.o.d.1.alloc Xb _).grown HG.o.2 (by simp;omega) (fun j hj=>(HA.o.t.1.lt j hj).1)
          ·rw[HO.o.d.1];exact Bh HX.o.1 HH.o
         case measure=>simp[intOf];omega
      ·have h8':(8:Int)<((es'.length:Int)+1):=by omega
       go_wp2_with fail;go_ret
       refine⟨?_,let⟨_,_,_,_,hb⟩:=HO.o.1;hb⟩
       have hpl:eU l k ⟨D,A',B',C',N'⟩=false:=by unfold eU;rw[<-HO.o.d.1,decide_eq_false h8];rfl
       have:jr l=false:=by rw[Bool.eq_false_iff];intro hh;have h1:=gD hh (show k+1<=l.length by omega);rw[cz HX.o.1,hpl]at h1;simp at h1
       rw[this];rfl
  ·obtain rfl:k=l.length:=by omega
   have HX:=AD hst hnt;obtain⟨A0,c0',rfl,_,_⟩:=hst;clear hnt hpw hfl;go_wp2_with fail;go_ret
   exact⟨by rw[show jr l=true from HX.o.2];rfl,let⟨_,_,_,_,hb⟩:=HX.o.1;hb⟩
theorem Da{o:aX}(h:fp o=true)(a:o.holds=true):0<=o.n/\o.n<=64:=by
 unfold fp at h;rw[List.all_eq_true]at h;have b:=h 3 (List.mem_range.2 (by decide));unfold aX.holds at a;rw[Bool.or_eq_true,beq_iff_eq,beq_iff_eq]at a;rcases a with a|a
 ·simp[a,oW,EH,CF,aX.uz]at b;omega
 ·simp[a,oW,EH,CF,aX.uz]at b;omega
theorem MP{o:aX}(h:fo o=true):1<=o.d/\o.d<=15:=by unfold fo at h;rw[mu]at h;exact of_decide_eq_true h.1
theorem uM{l:List aX}{p:aX->Bool}{k:Nat}{x:aX}(b:l[k]?=some x)(a:p x=false):l.all p=false:=by rw[Bool.eq_false_iff];intro h;rw[List.all_eq_true]at h;rw[h x (List.mem_of_getElem? b)]at a;cases a
def Wh(w:World)(l:List aX)(p:aX->Bool)(k:Nat)(a:World):Prop:=(l.take k).all p=true/\Below w.heap.size w a
theorem BL{l:List aX}{p:aX->Bool}{k:Nat}{x:aX}(h:(l.take k).all p=true)(b:l[k]?=some x)(a:p x=true):(l.take (k+1)).all p=true:=by rw[gO,b,List.all_append,h];simp[a]
theorem BM(w:World)(F:Nat->Prop)(v:Value)(l:List aX)(h:qi w F v l)(hs:gy w):
  Calls prog 60 #[v] w fun e w'=>e=.returned (rm (opsE l))/\Below w.heap.size w w':=by
 obtain⟨A,c,rfl,hlc,hcm⟩:=h.slice;unfold maxLen at hcm;by_cases h64:64<l.length
 ·have HE:=al (show opsE l=23 by unfold opsE;rw[ff h64]);have acX:(64:Int)<(l.length:Int):=by omega
  clear h hs;go_enter func60,ntmps60;go_wp2_with fail;go_ret
  exact⟨by rw[HE.o];rfl,bd _ _⟩
 have hE:opsE l=if l.all fo=false then 11 else if l.all fp=false then 10 else if jr l=false then 11 else 0:=by unfold opsE;rw[fb h64]
 have acX: ¬((64:Int)<(l.length:Int)):=by omega
 have H:=AF h hs hE;clear h hs hE;go_enter func60,ntmps60;go_wp2_with fail
 go_loopw [12] (fun i wr=> ∃k:Nat,k<=l.length/\i=rm (k:Int)/\Wh w l fo k wr) (fun i _=>l.length-(intOf i).toNat)
 case atStart=>exact⟨0,dq _,rfl,rfl,bd _ _⟩
 case round=>
  obtain⟨k,hk,rfl,hal,hbl⟩:=hrel;by_cases hlt:k<l.length
  ·obtain⟨x,hx⟩: ∃x,l[k]?=some x:=⟨_,ao hlt⟩;obtain⟨b,o,rfl,uA,c0,c1,c2,c3,c4⟩:=H.o.1.at_ hx;have gP:=aq _ _ c0;have d0:=(hbl.cell (p:=⟨b,o+k*5,none⟩) gP).x c0;have d1:=(hbl.cell (p:=⟨b,o+k*5+1,none⟩) gP).x c1;have d2:=(hbl.cell (p:=⟨b,o+k*5+2,none⟩) gP).x c2;have d3:=(hbl.cell (p:=⟨b,o+k*5+3,none⟩) gP).x c3;have d4:=(hbl.cell (p:=⟨b,o+k*5+4,none⟩) gP).x c4;obtain⟨D,A',B',C',N'⟩:=x;simp only at d0 d1 d2 d3 d4;have hb4:=hbl.alloc hbl.size (sa D A' B' C' N');have HF:=al (MK _ (H.o.2.1.below hb4) ⟨D,A',B',C',N'⟩);have HX:=AF hx hal hb4;clear hx hal hbl c0 c1 c2 c3 c4 uA gP hb4;go_wp2_with fail;refine HF.o.m ?_;rintro e w5 ⟨rfl,fO⟩;have Db:=al (HX.o.d.x (fO.m HX.o.d.size));clear fO HF
   cases hf:fo ⟨D,A',B',C',N'⟩with
   |true=>
    have HV:=al hf;clear hf;go_wp2_with fail;go_roundw
    case rel=>exact⟨k+1,by omega,by go_num,BL HX.o.2.1 HX.o.1 HV.o,Db.o⟩
    case measure=>simp[intOf];omega
   |false=>
    have HV:=al hf;clear hf;go_wp2_with fail;go_ret
    exact⟨by rw[H.o.d,ff (uM HX.o.1 HV.o)];rfl,Db.o⟩
  ·obtain rfl:k=l.length:=by omega
   rw[gE]at hal;have HA:=AD hal hbl;clear hal hbl;go_wp2_with fail
   go_loopw [22] (fun i wr=> ∃k:Nat,k<=l.length/\i=rm (k:Int)/\Wh w l fp k wr) (fun i _=>l.length-(intOf i).toNat)
   case atStart=>exact⟨0,dq _,rfl,rfl,HA.o.2⟩
   case round=>
    obtain⟨k,hk,rfl,hal,hbl⟩:=hrel;by_cases hlt:k<l.length
    ·obtain⟨x,hx⟩: ∃x,l[k]?=some x:=⟨_,ao hlt⟩;obtain⟨b,o,rfl,uA,c0,c1,c2,c3,c4⟩:=H.o.1.at_ hx;have gP:=aq _ _ c0;have hdo:=MP (List.all_eq_true.1 HA.o.1 x (db hx));have d0:=(hbl.cell (p:=⟨b,o+k*5,none⟩) gP).x c0;have d1:=(hbl.cell (p:=⟨b,o+k*5+1,none⟩) gP).x c1;have d2:=(hbl.cell (p:=⟨b,o+k*5+2,none⟩) gP).x c2;have d3:=(hbl.cell (p:=⟨b,o+k*5+3,none⟩) gP).x c3;have d4:=(hbl.cell (p:=⟨b,o+k*5+4,none⟩) gP).x c4;obtain⟨D,A',B',C',N'⟩:=x;simp only at d0 d1 d2 d3 d4;have hb4:=hbl.alloc hbl.size (sa D A' B' C' N');have HF:=al (MN _ (H.o.2.1.below hb4) ⟨D,A',B',C',N'⟩ hdo);have HX:=AF hx hal hb4;clear hx hal hbl c0 c1 c2 c3 c4 uA gP hb4 hdo;go_wp2_with fail;refine HF.o.m ?_;rintro e w5 ⟨rfl,fO⟩;have Db:=al (HX.o.d.x (fO.m HX.o.d.size));clear fO HF
     cases hf:fp ⟨D,A',B',C',N'⟩with
     |true=>
      have HV:=al hf;clear hf;go_wp2_with fail;go_roundw
      case rel=>exact⟨k+1,by omega,by go_num,BL HX.o.2.1 HX.o.1 HV.o,Db.o⟩
      case measure=>simp[intOf];omega
     |false=>
      have HV:=al hf;clear hf;go_wp2_with fail;go_ret
      exact⟨by rw[H.o.d,fb (by rw[HA.o.1];simp),ff (uM HX.o.1 HV.o)];rfl,Db.o⟩
    ·obtain rfl:k=l.length:=by omega
     rw[gE]at hal;have HR:=AD hal hbl;have Wi:=MO wr F (.slice A l.length c) l (bI.below H.o.1 hbl) (by omega) (fun o ho hh=>Da (List.all_eq_true.1 hal o ho) hh);have HN:=al Wi;clear hal hbl Wi;go_wp2_with fail;refine HN.o.m ?_;rintro e w6 ⟨rfl,fW⟩;have MQ:=al (HR.o.2.x (fW.m HR.o.2.size));clear fW HN
     cases hf:jr l with
     |true=>
      have HV:=al hf;clear hf;go_wp2_with fail;go_ret
      exact⟨by rw[H.o.d,fb (by rw[HA.o.1];simp),fb (by rw[HR.o.1];simp),fb (by rw[HV.o];simp)];rfl,MQ.o⟩
     |false=>
      have HV:=al hf;clear hf;go_wp2_with fail;go_ret
      exact⟨by rw[H.o.d,fb (by rw[HA.o.1];simp),fb (by rw[HR.o.1];simp),ff HV.o];rfl,MQ.o⟩
end Go.Proofs.YtehccbdajiiaaaaGreatDoor
