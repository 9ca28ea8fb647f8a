import Derived.Test.YtmkofmeojbcakaaGreatDoorC06
import Derived.Test.YtmkofmeojbcakaaGreatDoorC07
import Derived.Test.YtmkofmeojbcakaaGreatDoorC10
import Derived.Laws.RangeAny
import Derived.Laws.RangeString
import Derived.Deep.Cut
namespace Go.Proofs.YtmkofmeojbcakaaGreatDoor
open Go.Proofs.Tryz
set_option maxRecDepth 100000
set_option maxHeartbeats 16000000
open Go.RowKit
def aO.cells(o:aO):List Value:=[.int .i64 o.d,.int .i64 o.a,.int .i64 o.b,.int .i64 o.c,.int .i64 o.n]
def aO.val(o:aO):Value:=.agg #[.int .i64 o.d,.int .i64 o.a,.int .i64 o.b,.int .i64 o.c,.int .i64 o.n]
def aO.fits(o:aO):Prop:=(-9223372036854775808<=o.d/\o.d<=9223372036854775807)/\(-9223372036854775808<=o.a/\o.a<=9223372036854775807)/\(-9223372036854775808<=o.b/\o.b<=9223372036854775807)/\(-9223372036854775808<=o.c/\o.c<=9223372036854775807)/\(-9223372036854775808<=o.n/\o.n<=9223372036854775807)
def gu(w:World)(F:Nat->Prop)(v:Value)(l:List aO):Prop:=aS 5 w F v (l.map aO.cells)
def rO:Nat->List UInt8
 |1=>[65,67]
 |2=>[65,66]
 |3=>[65,66]
 |4=>[65,66]
 |5=>[65,66]
 |6=>[65,66]
 |7=>[65,66]
 |8=>[65,66,67]
 |9=>[65,66]
 |10=>[66]
 |11=>[65,66,67]
 |12=>[65,66,67,78]
 |13=>[65,78]
 |14=>[67,78]
 |15=>[65]
 |_=>[]
def gS(w:World):Prop:= ∀d:Nat,d<16->w.cell? ⟨0,d*2+1,none⟩=some (.string ⟨(rO d).toArray⟩)
theorem gS.below{w w':World}(h:gS w)(hb:Below w.heap.size w w'):gS w':=fun d hd=>(hb.cell (p:=⟨0,d*2+1,none⟩) (aq _ _ (h d hd))).x (h d hd)
def iF:Nat->Int
 |0=>65
 |1=>66
 |2=>67
 |_=>78
theorem KG: ∀d,d<16->1<=d-> ∀i,i<4->decide (0<=Lib.indexByte (rO d) (iF i).toNat.toUInt8)=ji (d:Int) i:=by decide
open Go.Shelf in
theorem Tryz.jH(s:ByteArray)(r:Int)(w:World)(h0:0<=r)(h1:r<128):
  Calls prog 89 #[.string s,.int .i32 r] w fun e w'=>e=.returned (.bool (decide (0<=Lib.indexByte s.data.toList r.toNat.toUInt8)))/\w'=w:=Any.strings_ContainsRune_ascii Tryz.Rg s r w h0 h1
theorem Nk(w:World)(B b:Nat)(i:Nat)(hi:i<4)(hc:w.cell? ⟨B,0,none⟩=some (.pointer (some ⟨b,0,none⟩))):
  Calls prog 128 #[.int .i32 (iF i),.pointer (some ⟨B,0,none⟩)] w fun e w'=>e=.returned (.pointer (some ⟨b,1+i,none⟩))/\w=w':=by
 match i,hi with
 |0,_=>
  go_enter func128,ntmps128;go_wp2;go_ret
  exact⟨rfl,rfl⟩
 |1,_=>
  go_enter func128,ntmps128;go_wp2;go_ret
  exact⟨rfl,rfl⟩
 |2,_=>
  go_enter func128,ntmps128;go_wp2;go_ret
  exact⟨rfl,rfl⟩
 |3,_=>
  go_enter func128,ntmps128;go_wp2;go_ret
  exact⟨rfl,rfl⟩
theorem Ai(w:World)(b:Nat):
  Calls prog 88 #[.pointer (some ⟨b,0,none⟩)] w fun e w'=>e=.returned (.func (.func 128) #[] #[.pointer (some ⟨w.heap.size,0,none⟩)])/\w'=w.alloc (.cells #[.pointer (some ⟨b,0,none⟩)] 211):=by
 go_enter func88,ntmps88;go_wp2;go_ret
 exact⟨rfl,rfl⟩
theorem RA(w:World)(d:Int)(i:Nat)(hi:i<4):
  Calls prog 90 #[.int .i64 d,.int .i32 (iF i)] w fun e w'=>e=.returned (.tuple #[.int .i64 (tv d i),.int .i64 (rN d i)])/\w=w':=by
 match i,hi with
 |0,_=>
  by_cases h:d=9
  ·subst h;go_enter func90,ntmps90;go_wp2
   go_ret2
   exact⟨rfl,rfl⟩
  ·have e:(d==9)=false:=by simpa using h
   have hl:rN d 0=7:=by simp[rN,h]
   have HL:=al hl;clear h hl;go_enter func90,ntmps90;go_wp2
   go_ret2
   exact⟨by rw[HL.o];rfl,rfl⟩
 |1,_=>
  go_enter func90,ntmps90;go_wp2
  go_ret2
  exact⟨rfl,rfl⟩
 |2,_=>
  by_cases h:d=1
  ·subst h;go_enter func90,ntmps90;go_wp2
   go_ret2
   exact⟨rfl,rfl⟩
  ·by_cases h2:d=14
   ·subst h2;go_enter func90,ntmps90;go_wp2
    go_ret2
    exact⟨rfl,rfl⟩
   ·have e:(d==1)=false:=by simpa using h
    have e2:(d==14)=false:=by simpa using h2
    have HL:=al (show rN d 2=3/\tv d 2=0 by simp[rN,tv,h,h2]);clear h h2;go_enter func90,ntmps90;go_wp2
    go_ret2
    exact⟨by rw[HL.o.1,HL.o.2];rfl,rfl⟩
 |3,_=>
  by_cases h:d=12
  ·subst h;go_enter func90,ntmps90;go_wp2
   go_ret2
   exact⟨rfl,rfl⟩
  ·have e:(d==12)=false:=by simpa using h
   have HL:=al (show rN d 3=64 by simp[rN,h]);clear h;go_enter func90,ntmps90;go_wp2
   go_ret2
   exact⟨by rw[HL.o];rfl,rfl⟩
def F9:ByteArray:=⟨#[65,66,67,78]⟩
theorem Ga: ∀(i:Nat) (h:i<F9.size),(F9[i]'h).toNat<128:=by decide
theorem KH(W:World)(i:Nat)(hi:i<4)(ty:TypeId):(Instr.next (.pointer (some ⟨W.heap.size,0,none⟩)) true ty).run prog (W.iter F9 i)=.ok (.tuple #[.bool true,.int .i64 (i:Int),.int .i32 (iF i)]) (W.iter F9 (i+1)):=by
 have h:i<F9.size:=hi;have:=run_next_ascii (P:=prog) W F9 i ty h (Ga i h);rw[this]
 match i,hi with
 |0,_=>rfl
 |1,_=>rfl
 |2,_=>rfl
 |3,_=>rfl
theorem Ja(i:Nat):0<=iF i/\iF i<128:=by unfold iF;split<;>omega
theorem Nl{w:World}{b:Nat}{o:aO}(hb:w.heap[b]?=some (.cells #[.int .i64 o.d,.int .i64 o.a,.int .i64 o.b,.int .i64 o.c,.int .i64 o.n] 93 (0,0)))(i:Nat)(hi:i<4):w.cell? ⟨b,1+i,none⟩=some (.int .i64 (o.mh i)):=by
 match i,hi with
 |0,_=>simp[World.cell?,hb,aO.mh]
 |1,_=>simp[World.cell?,hb,aO.mh]
 |2,_=>simp[World.cell?,hb,aO.mh]
 |3,_=>simp[World.cell?,hb,aO.mh]
theorem Gb{o:aO}(hd:(1<=o.d/\o.d<=15)):bJ o=(List.range 4).all (fun i=>ji o.d i||o.mh i==0):=by unfold bJ;rw[decide_eq_true hd,Bool.true_and]
def yY(W:World)(b B:Nat)(dn:Nat)(A B' C N:Int):Prop:=
 W.cell? ⟨b,0,none⟩=some (.int .i64 (dn:Int))/\W.cell? ⟨B,0,none⟩=some (.pointer (some ⟨b,0,none⟩))/\W.cell? ⟨0,dn*2+1,none⟩=some (.string ⟨(rO dn).toArray⟩)/\ ∀i,i<4->W.cell? ⟨b,1+i,none⟩=some (.int .i64 ((⟨(dn:Int),A,B',C,N⟩:aO).mh i))
theorem yY.alloc{W:World}{b B dn:Nat}{A B' C N:Int}(h:yY W b B dn A B' C N)(o:Obj):yY (W.alloc o) b B dn A B' C N:=⟨aC h.1 _,aC h.2.1 _,aC h.2.2.1 _,fun i hi=>aC (h.2.2.2 i hi) _⟩
theorem yY.iter{W:World}{b B dn:Nat}{A B' C N:Int}(h:yY W b B dn A B' C N)(s:ByteArray)(i:Nat):yY (W.iter s i) b B dn A B' C N:=h.alloc _
theorem yY.start(w:World)(hs:gS w)(dn:Nat)(hd:dn<16)(A B C N:Int):yY ((w.alloc (.cells #[.int .i64 (dn:Int),.int .i64 A,.int .i64 B,.int .i64 C,.int .i64 N] 93)).alloc (.cells #[.pointer (some ⟨w.heap.size,0,none⟩)] 211)) w.heap.size (w.heap.size+1) dn A B C N:=
 ⟨by simp,by simp,(hs.below (((aw _ _).alloc (aE _) _).alloc (by simp) _)) dn hd,fun i hi=>aC (Nl (o:=⟨(dn:Int),A,B,C,N⟩) (an _ _) i hi) _⟩
theorem DN{p:Nat->Bool}{i:Nat}:(List.range (i+1)).all p=((List.range i).all p&&p i):=by rw[List.range_succ,List.all_append];simp
theorem KI(w:World)(hs:gS w)(dn:Nat)(hd1:1<=dn)(KJ:dn<16)(A B C N:Int):
  Calls prog 63 #[.agg #[.int .i64 (dn:Int),.int .i64 A,.int .i64 B,.int .i64 C,.int .i64 N]] w fun e w'=>e=.returned (.bool (bJ ⟨(dn:Int),A,B,C,N⟩))/\Below w.heap.size w w':=by
 have Fw:=Gb (o:=⟨(dn:Int),A,B,C,N⟩) ⟨by show(1:Int)<=dn;omega,by show(dn:Int)<=15;omega⟩;have hst:=yY.start w hs dn KJ A B C N;have hBl:Below w.heap.size w ((w.alloc (.cells #[.int .i64 (dn:Int),.int .i64 A,.int .i64 B,.int .i64 C,.int .i64 N] 93)).alloc (.cells #[.pointer (some ⟨w.heap.size,0,none⟩)] 211)):=((aw _ _).alloc (aE _) _).alloc (by simp) _;have HH:=al (ab Fw (KG dn KJ hd1));have hdi: ¬((dn:Int)<1):=by omega
 have aa5: ¬((15:Int)<(dn:Int)):=by omega
 clear Fw hs;go_enter func63,ntmps63;go_wp2_with fail;refine(Ai _ w.heap.size).m ?_;rintro e w1 ⟨rfl,hw1⟩;have hsz:(w.alloc (.cells #[.int .i64 (dn:Int),.int .i64 A,.int .i64 B,.int .i64 C,.int .i64 N] 93)).heap.size=w.heap.size+1:=by simp
 rw[hsz];generalize ((w.alloc (.cells #[.int .i64 (dn:Int),.int .i64 A,.int .i64 B,.int .i64 C,.int .i64 N] 93)).alloc (.cells #[.pointer (some ⟨w.heap.size,0,none⟩)] 211))=W at hst hBl hw1;subst hw1;have HS:=al (ab hst hBl);clear hst hBl hsz;obtain⟨b,hb⟩:=qt (w.heap.size);have HB:=al hb;have Xr:=al (show b<=w1.heap.size by have:=HS.o.2.size;omega);rw[hb]at HS;go_wp2_with fail;clear hb
 go_loopw [5] (fun _ wr=> ∃i:Nat,i<=4/\wr=w1.iter ⟨#[65,66,67,78]⟩ i/\(List.range i).all (fun j=>ji (dn:Int) j||(⟨(dn:Int),A,B,C,N⟩:aO).mh j==0)=true) (fun _ wr=>4-wr.iterPos w1.heap.size)
 case atStart=>exact⟨0,dq _,rfl,rfl⟩
 case round=>
  obtain⟨i,hi,rfl,hal⟩:=hrel;by_cases hlt:i<4
  ·have hnx:=KH w1 i hlt;unfold F9 at hnx;obtain⟨c0,cB,cT,cf⟩:=HS.o.1.iter ⟨#[65,66,67,78]⟩ (i+1);have cfi:=cf i hlt;have BR:=Ja i;have Jb:=HH.o.2 i hlt;obtain⟨z,hz⟩:=qt ((⟨(dn:Int),A,B,C,N⟩:aO).mh i);rw[hz]at cfi;obtain⟨q,hq⟩:=qt (ji (dn:Int) i);have HI:=al (ab hal (ab hz hq));have hcr:=Tryz.jH ⟨(rO dn).toArray⟩ (iF i) (w1.iter ⟨#[65,66,67,78]⟩ (i+1)) BR.1 BR.2;rw[Jb,hq]at hcr;have HCR:=al hcr;have HFL:=al (Nk (w1.iter ⟨#[65,66,67,78]⟩ (i+1)) (b+1) b i hlt cB);clear hal hz hq Jb cf hcr;go_wp2_with fail;refine HCR.o.m ?_;rintro e w2 ⟨rfl,rfl⟩
   cases q with
   |true=>
    have HQ:=al HI.o.d;go_wp2_with fail;go_roundw
    case rel=>exact⟨i+1,by omega,rfl,by rw[DN,HI.o.1,HQ.o];rfl⟩
    case measure=>simp;omega
   |false=>
    have HQ:=al HI.o.d;go_wp2_with fail;refine HFL.o.m ?_;rintro e w3 ⟨rfl,rfl⟩;by_cases hz0:z=0
    ·have HZ:=al (HI.o.2.1.x hz0);subst hz0;go_wp2_with fail;go_roundw
     case rel=>exact⟨i+1,by omega,rfl,by rw[DN,HI.o.1,HQ.o,HZ.o];rfl⟩
     case measure=>simp;omega
    ·have hzn:(z !=0)=true:=by simpa using hz0
     have HZ:=al (ab hz0 HI.o.2.1);clear hz0;go_wp2_with fail;go_ret
     refine⟨?_,?_⟩
     ·rw[HH.o.1]
      have:(List.range 4).all (fun j=>ji (dn:Int) j||(⟨(dn:Int),A,B,C,N⟩:aO).mh j==0)=false:=by rw[Bool.eq_false_iff];intro hh;rw[List.all_eq_true]at hh;have h1:=hh i (List.mem_range.2 hlt);rw[HQ.o,HZ.o.2]at h1;simp at h1;exact HZ.o.1 h1
      rw[this];rfl
     ·rw[HB.o];exact HS.o.2.alloc Xr.o _
  ·obtain rfl:i=4:=by omega
   have HA:=al hal;clear hal;have hnx: ∀ty,(Instr.next (.pointer (some ⟨w1.heap.size,0,none⟩)) true ty).run prog (w1.iter ⟨#[65,66,67,78]⟩ 4)=.ok (.tuple #[.bool false]) (w1.iter ⟨#[65,66,67,78]⟩ 4):=fun ty=>run_next_end w1 ⟨#[65,66,67,78]⟩ 4 ty (by decide);go_wp2_with fail;go_ret
   refine⟨by rw[HH.o.1,HA.o];rfl,?_⟩;rw[HB.o];exact HS.o.2.alloc Xr.o _
theorem KL(w:World)(hs:gS w)(o:aO):Calls prog 63 #[o.val] w fun e w'=>e=.returned (.bool (bJ o))/\Below w.heap.size w w':=by
 obtain⟨D,A,B,C,N⟩:=o;unfold aO.val;by_cases hd:1<=D/\D<=15
 ·obtain⟨dn,rfl⟩: ∃dn:Nat,D=(dn:Int):=⟨D.toNat,by omega⟩;exact KI w hs dn (by omega) (by omega) A B C N
 ·have HF:=al (show bJ ⟨D,A,B,C,N⟩=false by unfold bJ;rw[decide_eq_false hd];rfl);by_cases h1:D<1;rotate_left
  focus
   have h2:15<D:=by omega
  all_goals
   clear hd hs;go_enter func63,ntmps63;go_wp2;go_ret
   exact⟨by rw[HF.o];rfl,(aw _ _).alloc (aE _) _⟩
def Xt(o:aO)(i:Nat):Bool:=decide (tv o.d i<=o.mh i)&&decide (o.mh i<=rN o.d i)
def mj(d:Nat):List Nat:=(List.range 4).filter (ji (d:Int))
theorem Aj: ∀d,d<16->1<=d->rO d=(mj d).map (fun i=>(iF i).toNat.toUInt8):=by decide
theorem Vl{d i j:Nat}(h:(mj d)[j]?=some i):i<4:=by have:=de h;unfold mj at this;exact List.mem_range.1 (List.mem_filter.1 this).1
theorem Gc(o:aO){dn:Nat}(hd:o.d=(dn:Int)):cw o=(mj dn).all (Xt o):=by
 unfold cw mj;rw[List.all_filter];congr 1
 funext i
 rw[hd];unfold Xt;rw[hd]
theorem Nn(W:World)(s:ByteArray)(dn j i:Nat)(hs:s.data.toList=(mj dn).map (fun i=>(iF i).toNat.toUInt8))(hi:(mj dn)[j]?=some i)(ty:TypeId):
  (Instr.next (.pointer (some ⟨W.heap.size,0,none⟩)) true ty).run prog (W.iter s j)=.ok (.tuple #[.bool true,.int .i64 (j:Int),.int .i32 (iF i)]) (W.iter s (j+1)):=by
 have hj:s.data.toList[j]?=some (iF i).toNat.toUInt8:=by rw[hs];simp[hi]
 have hjl:j<s.size:=by have:=(b8.1 hj).1;simpa using this
 have hv:(s[j]'hjl)=(iF i).toNat.toUInt8:=by have h2:=(b8.1 hj).2;rw[<-h2];rfl
 have BR:=Ja i;have hn:(s[j]'hjl).toNat=(iF i).toNat:=by rw[hv];simp;omega
 have:=run_next_ascii (P:=prog) W s j ty hjl (by rw[hn];omega);rw[this,hn];have e:(((iF i).toNat:Nat):Int)=iF i:=by omega
 rw[e]
theorem KM(w:World)(hs:gS w)(dn:Nat)(hd1:1<=dn)(KJ:dn<16)(A B C N:Int):
  Calls prog 64 #[.agg #[.int .i64 (dn:Int),.int .i64 A,.int .i64 B,.int .i64 C,.int .i64 N]] w fun e w'=>e=.returned (.bool (cw ⟨(dn:Int),A,B,C,N⟩))/\Below w.heap.size w w':=by
 have Fw:=Gc ⟨(dn:Int),A,B,C,N⟩ (dn:=dn) rfl;have hst:=yY.start w hs dn KJ A B C N;have hBl:Below w.heap.size w ((w.alloc (.cells #[.int .i64 (dn:Int),.int .i64 A,.int .i64 B,.int .i64 C,.int .i64 N] 93)).alloc (.cells #[.pointer (some ⟨w.heap.size,0,none⟩)] 211)):=((aw _ _).alloc (aE _) _).alloc (by simp) _;have Xu:(⟨(rO dn).toArray⟩:ByteArray).data.toList=(mj dn).map (fun i=>(iF i).toNat.toUInt8):=by rw[<-Aj dn KJ hd1]
 have HH:=al (ab Fw Xu);have hdi:(0:Int)<=(dn:Int):=by omega
 have aa5:(dn:Int)<16:=by omega
 clear Fw hs Xu;go_enter func64,ntmps64;go_wp2_with fail;refine(Ai _ w.heap.size).m ?_;rintro e w1 ⟨rfl,hw1⟩;have hsz:(w.alloc (.cells #[.int .i64 (dn:Int),.int .i64 A,.int .i64 B,.int .i64 C,.int .i64 N] 93)).heap.size=w.heap.size+1:=by simp
 rw[hsz];generalize ((w.alloc (.cells #[.int .i64 (dn:Int),.int .i64 A,.int .i64 B,.int .i64 C,.int .i64 N] 93)).alloc (.cells #[.pointer (some ⟨w.heap.size,0,none⟩)] 211))=W at hst hBl hw1;subst hw1;have HS:=al (ab hst hBl);obtain⟨c0,cB,cT,_⟩:=hst;clear hBl hsz;obtain⟨b,hb⟩:=qt (w.heap.size);have HB:=al hb;have Xr:=al (show b<=w1.heap.size by have:=HS.o.2.size;omega);rw[hb]at HS c0 cB;rw[hb];clear hb;go_wp2_with fail;clear c0 cB cT;obtain⟨s,hse⟩: ∃s:ByteArray,(⟨(rO dn).toArray⟩:ByteArray)=s:=⟨_,rfl⟩;have HHS:=al (show s.data.toList=(mj dn).map (fun i=>(iF i).toNat.toUInt8) by rw[<-hse,<-Aj dn KJ hd1]);rw[hse];clear hse
 go_loopw [5] (fun _ wr=> ∃j:Nat,j<=(mj dn).length/\wr=w1.iter s j/\((mj dn).take j).all (Xt ⟨(dn:Int),A,B,C,N⟩)=true) (fun _ wr=>(mj dn).length-wr.iterPos w1.heap.size)
 case atStart=>exact⟨0,dq _,rfl,rfl⟩
 case round=>
  obtain⟨j,hj,rfl,hal⟩:=hrel;by_cases hlt:j<(mj dn).length
  ·obtain⟨i,hi⟩: ∃i,(mj dn)[j]?=some i:=⟨_,ao hlt⟩;have hi4:=Vl hi;have hnx:=Nn w1 s dn j i HHS.o hi;obtain⟨c0,cB,cT,cf⟩:=HS.o.1.iter s (j+1);have cfi:=cf i hi4;have hin:Xt ⟨(dn:Int),A,B,C,N⟩ i=(decide (tv (dn:Int) i<=(⟨(dn:Int),A,B,C,N⟩:aO).mh i)&&decide ((⟨(dn:Int),A,B,C,N⟩:aO).mh i<=rN (dn:Int) i)):=rfl;have hsp:=RA (w1.iter s (j+1)) (dn:Int) i hi4;obtain⟨z,hz⟩:=qt ((⟨(dn:Int),A,B,C,N⟩:aO).mh i);obtain⟨lo,hlo⟩:=qt (tv (dn:Int) i);obtain⟨hi',hhi⟩: ∃z,rN (dn:Int) i=z:=⟨_,rfl⟩;rw[hz,hlo,hhi]at hin;rw[hz]at cfi;rw[hlo,hhi]at hsp;have HSP:=al hsp;have HFL:=al (Nk (w1.iter s (j+1)) (b+1) b i hi4 cB);have HI:=al (ab hal (ab hin hi));clear hal hin hi hsp hz hlo hhi cf hj;go_wp2_with fail;refine HSP.o.m ?_;rintro e w2 ⟨rfl,rfl⟩;go_wp2_with fail;refine HFL.o.m ?_;rintro e w3 ⟨rfl,rfl⟩;by_cases hlo:z<lo
   ·have HL:=al hlo;go_wp2_with fail;go_ret
    refine⟨?_,?_⟩
    ·rw[HH.o.1]
     have:(mj dn).all (Xt ⟨(dn:Int),A,B,C,N⟩)=false:=by rw[Bool.eq_false_iff];intro hh;rw[List.all_eq_true]at hh;have h1:=hh i (de HI.o.d);rw[HI.o.2.1,lx,decide_eq_true_iff,decide_eq_true_iff]at h1;have:=HL.o;omega
     rw[this];rfl
    ·rw[HB.o];exact HS.o.2.alloc Xr.o _
   ·go_wp2_with fail;refine HFL.o.m ?_;rintro e w4 ⟨rfl,rfl⟩;by_cases Jc:hi'<z
    ·have HL:=al Jc;go_wp2_with fail;go_ret
     refine⟨?_,?_⟩
     ·rw[HH.o.1]
      have:(mj dn).all (Xt ⟨(dn:Int),A,B,C,N⟩)=false:=by rw[Bool.eq_false_iff];intro hh;rw[List.all_eq_true]at hh;have h1:=hh i (de HI.o.d);rw[HI.o.2.1,lx,decide_eq_true_iff,decide_eq_true_iff]at h1;have:=HL.o;omega
      rw[this];rfl
     ·rw[HB.o];exact HS.o.2.alloc Xr.o _
    ·have HL:=al (ab hlo Jc);go_wp2_with fail;go_roundw
     case rel=>refine⟨j+1,by omega,rfl,?_⟩;rw[iv,HI.o.d,List.all_append,HI.o.1];have h3:=HL.o;simp[HI.o.2.1];omega
     case measure=>simp;omega
  ·obtain rfl:j=(mj dn).length:=by omega
   have HA:=al hal
   have hnl: ¬(mj dn).length<s.size:=by have:=eM List.length HHS.o;simp at this;have h2:s.data.size=s.size:=rfl;omega
   clear hal hlt hj;have hnx: ∀ty,(Instr.next (.pointer (some ⟨w1.heap.size,0,none⟩)) true ty).run prog (w1.iter s (mj dn).length)=.ok (.tuple #[.bool false]) (w1.iter s (mj dn).length):=fun ty=>run_next_end w1 s (mj dn).length ty hnl;clear hnl;go_wp2_with fail;go_ret
   refine⟨?_,?_⟩
   ·have:=HA.o;rw[gd]at this;rw[HH.o.1,this];rfl
   ·rw[HB.o];exact HS.o.2.alloc Xr.o _
theorem KN(w:World)(hs:gS w)(o:aO)(ho:1<=o.d/\o.d<=15):Calls prog 64 #[o.val] w fun e w'=>e=.returned (.bool (cw o))/\Below w.heap.size w w':=by obtain⟨D,A,B,C,N⟩:=o;unfold aO.val;simp only at ho;obtain⟨dn,rfl⟩: ∃dn:Nat,D=(dn:Int):=⟨D.toNat,by omega⟩;exact KM w hs dn (by omega) (by omega) A B C N
theorem DR(w:World)(o:aO):Calls prog 91 #[o.val] w fun e w'=>e=.returned (.bool o.holds)/\Below w.heap.size w w':=by
 obtain⟨D,A,B,C,N⟩:=o;unfold aO.val aO.holds;by_cases h:D=13
 ·subst h;go_enter func91,ntmps91;go_wp2;go_ret
  exact⟨rfl,(aw _ _).alloc (aE _) _⟩
 ·have e:(D==13)=false:=by simpa using h
  clear h;go_enter func91,ntmps91;go_wp2;go_ret
  refine⟨?_,(aw _ _).alloc (aE _) _⟩;rw[e];rfl
theorem Tryz.Np:(prog.info? 3).map (fun i=>(i.zero,i.size,i.bytes))=some (some (.int .i64 0),1,8):=by kernel_rfl
def sliceLen:Value->Nat
 | .slice _ n _=>n
 |_=>0
def oF(w:World)(v:Value)(es:List Int)(wr:World):Prop:=
 ∃A c,v=.slice A es.length c/\wr.ownsRow w.heap.size 3 1 v es.length (es.map (Value.int .i64))/\Below w.heap.size w wr
theorem oF.nil(w:World):oF w (.slice none 0 0) [] w:=⟨none,0,rfl,ea _ _ _ _,aw _ _⟩
theorem oF.below{w wr w':World}{v:Value}{es:List Int}(h:oF w v es wr)(hb:Below wr.heap.size wr w'):oF w v es w':=
 let⟨A,c,e,h1,h2⟩:=h;⟨A,c,e,aY h1 hb,h2.x (hb.m h2.size)⟩
theorem Gd{w:World}{base:Nat}{e:TypeId}{A:Option Addr}{n c:Nat}{xs:List Value}{x:Value}(h:w.ownsRow base e 1 (.slice A (n+1) c) (n+1) (xs++[x]))(hl:xs.length=n):w.ownsRow base e 1 (.slice A n c) n xs:=by
 rcases h.2 with⟨h1,h2⟩|⟨g,cap,cur,hv,hg,hb,hn,hc,hs,ht⟩
 ·injection h1 with _ h1 _;omega
 ·injection hv with e1 e2 e3;subst e1 e3;refine⟨by simpa using hl,.inr ⟨g,c,cur,rfl,hg,hb,by omega,hc,hs,?_⟩⟩;have h3:(cur.toList.take ((n+1)*1)).take (n*1)=(xs++[x]).take (n*1):=by rw[ht]
  rw[List.take_take,nw (by omega)]at h3;rw[h3,List.take_append_of_le_length (by omega),gE (by omega)]
theorem oF.pop{w wr:World}{A:Option Addr}{n c:Nat}{es:List Int}{x:Int}(h:oF w (.slice A n c) (es++[x]) wr):oF w (.slice A es.length c) es wr:=by obtain⟨A',c',hv,h1,h2⟩:=h;injection hv with e1 e2 e3;subst e1 e2 e3;rw[fb,gk]at h1;exact⟨A,c,rfl,Gd h1 (by simp),h2⟩
theorem oF.top{w wr:World}{A:Option Addr}{n c:Nat}{es:List Int}{x:Int}(h:oF w (.slice A n c) (es++[x]) wr): ∃g,A=some ⟨g,0,none⟩/\wr.cell? ⟨g,es.length,none⟩=some (.int .i64 x)/\g<wr.heap.size/\es.length+1<=c:=by
 obtain⟨A',c',hv,h1,h2⟩:=h;injection hv with e1 e2 e3;subst e1 e2 e3;obtain⟨g,cap,hv,hg0,hgl⟩:=h1.form (by simp)
 have hcap:es.length+1<=c:=by
  rcases h1.2 with⟨_,h0⟩|⟨_,_,_,hv2,_,_,hn,_⟩
  ·simp at h0
  ·injection hv2 with _ _ e3;subst e3;simpa using hn
 injection hv with e1 e2 e3;subst e1;refine⟨g,rfl,?_,hgl,hcap⟩;have:=h1.cellAt es.length (by simp);rw[this];simp
theorem gu.at_{w:World}{F:Nat->Prop}{A:Option Addr}{n c:Nat}{l:List aO}(h:gu w F (.slice A n c) l){k:Nat}{x:aO}(hk:l[k]?=some x):
  ∃b o,A=some ⟨b,o,none⟩/\F b/\w.cell? ⟨b,o+k*5,none⟩=some (.int .i64 x.d)/\w.cell? ⟨b,o+k*5+1,none⟩=some (.int .i64 x.a)/\w.cell? ⟨b,o+k*5+2,none⟩=some (.int .i64 x.b)/\
   w.cell? ⟨b,o+k*5+3,none⟩=some (.int .i64 x.c)/\w.cell? ⟨b,o+k*5+4,none⟩=some (.int .i64 x.n):=by
 obtain⟨A',n',c',hv,hl,_,_,hx⟩:=h;injection hv with h1 h2 h3;subst h1 h2 h3;have hlt:=(b8.1 hk).1;obtain⟨b,o,rfl,hF,hc⟩:=hx (by simp at hl;omega);have hx':(l.map aO.cells)[k]?=some x.cells:=by simp[hk]
 exact⟨b,o,rfl,hF,hc k _ hx' 0 _ rfl,hc k _ hx' 1 _ rfl,hc k _ hx' 2 _ rfl,hc k _ hx' 3 _ rfl,hc k _ hx' 4 _ rfl⟩
theorem gu.slice{w:World}{F:Nat->Prop}{v:Value}{l:List aO}(h:gu w F v l): ∃A c,v=.slice A l.length c/\l.length<=c/\c<=maxLen:=by obtain⟨A',n',c',hv,hl,h1,h2,_⟩:=h;simp at hl;exact⟨A',c',by rw[hl];exact hv,by omega,h2⟩
def YI(w:World)(l:List aO)(k:Nat)(v:Value)(wr:World):Prop:=
 ∃es,oF w v es wr/\es.Pairwise (fun a b=>a≥b)/\es.filter (fun e=>decide ((k:Int)<e))=opens l k/\dB l k=true/\es.length<=k
theorem KO(w:World)(F:Nat->Prop)(v:Value)(l:List aO)(h:gu w F v l)(hl:l.length<=64)(hn: ∀o∈l,o.holds=true->0<=o.n/\o.n<=64):
  Calls prog 65 #[v] w fun e w'=>e=.returned (.bool (gK l))/\Below w.heap.size w w':=by
 obtain⟨i0,hi,hz0,hz1,hz2⟩:=ep Tryz.Np;obtain⟨A,c,rfl,_⟩:=h.slice;have H:=al (ab h (ab hn hi));clear h hn hi;go_enter func65,ntmps65;go_wp2_with fail
 go_loopw [3,10] (fun v i wr=> ∃k:Nat,k<=l.length/\i=.int .i64 (k:Int)/\YI w l k v wr) (fun _ i _=>l.length-(intOf i).toNat)
 case atStart=>exact⟨0,dq _,rfl,[],oF.nil w,et,rfl,rfl,aE _⟩
 case round=>
  obtain⟨k,hk,rfl,es0,hst,hpw,hfl,hnt,hle0⟩:=hrel;by_cases hlt:k<l.length
  ·obtain⟨x,hx⟩: ∃x,l[k]?=some x:=⟨_,ao hlt⟩;obtain⟨b,o,rfl,qP,c0,c1,c2,c3,c4⟩:=H.o.1.at_ hx;have hbl:Below w.heap.size w wr:=let⟨_,_,_,_,hb⟩:=hst;hb
   have dI:=aq _ _ c0;have d0:=(hbl.cell (p:=⟨b,o+k*5,none⟩) dI).x c0;have d1:=(hbl.cell (p:=⟨b,o+k*5+1,none⟩) dI).x c1;have d2:=(hbl.cell (p:=⟨b,o+k*5+2,none⟩) dI).x c2;have d3:=(hbl.cell (p:=⟨b,o+k*5+3,none⟩) dI).x c3;have d4:=(hbl.cell (p:=⟨b,o+k*5+4,none⟩) dI).x c4;obtain⟨D,A',B',C',N'⟩:=x;simp only at d0 d1 d2 d3 d4;have YJ:=hst.below (((aw _ _).alloc (aE _) (.cells #[.int .i64 D,.int .i64 A',.int .i64 B',.int .i64 C',.int .i64 N'] 93)));have HX:=al (ab hx (ab hpw (ab hfl (ab hnt YJ))));obtain⟨A0,c0',rfl,_,_⟩:=hst;clear hx hpw hfl hnt YJ hbl c0 c1 c2 c3 c4 qP;go_upto_region 5 with fail;have q0:(wr.alloc (.cells #[.int .i64 D,.int .i64 A',.int .i64 B',.int .i64 C',.int .i64 N'] 93)).cell? ⟨wr.heap.size,0,none⟩=some (.int .i64 D):=by simp
   have q1:(wr.alloc (.cells #[.int .i64 D,.int .i64 A',.int .i64 B',.int .i64 C',.int .i64 N'] 93)).cell? ⟨wr.heap.size,1,none⟩=some (.int .i64 A'):=by simp
   have q2:(wr.alloc (.cells #[.int .i64 D,.int .i64 A',.int .i64 B',.int .i64 C',.int .i64 N'] 93)).cell? ⟨wr.heap.size,2,none⟩=some (.int .i64 B'):=by simp
   have q3:(wr.alloc (.cells #[.int .i64 D,.int .i64 A',.int .i64 B',.int .i64 C',.int .i64 N'] 93)).cell? ⟨wr.heap.size,3,none⟩=some (.int .i64 C'):=by simp
   have q4:(wr.alloc (.cells #[.int .i64 D,.int .i64 A',.int .i64 B',.int .i64 C',.int .i64 N'] 93)).cell? ⟨wr.heap.size,4,none⟩=some (.int .i64 N'):=by simp
   generalize wr.alloc (.cells #[.int .i64 D,.int .i64 A',.int .i64 B',.int .i64 C',.int .i64 N'] 93)=W4 at HX q0 q1 q2 q3 q4⊢;obtain⟨B4,hB4⟩:=qt (wr.heap.size);rw[hB4]at q0 q1 q2 q3 q4⊢;clear hB4 d0 d1 d2 d3 d4 dI
   go_loop [3] (fun v=> ∃es,oF w v es W4/\es.Pairwise (fun a b=>a≥b)/\es.filter (fun e=>decide ((k:Int)<e))=opens l k/\es.length<=k) (fun v=>sliceLen v)
   case atStart=>exact⟨es0,HX.o.q,HX.o.2.1,HX.o.d.1,hle0⟩
   case round=>
    obtain⟨es,hst,hpw,hfl,hle⟩:=hrel;obtain⟨A5,c5,rfl,how,hbl⟩:=hst;have hst:oF w (.slice A5 es.length c5) es W4:=⟨A5,c5,rfl,how,hbl⟩;clear how hbl;rcases List.eq_nil_or_concat es with rfl|⟨es',z,hes⟩
    ·obtain⟨es,hes⟩: ∃es:List Int,es=[]:=⟨[],rfl⟩;have RB:=al hes;have HLEN:=al (show es.length=0 by rw[hes];rfl);have hle0:es.length<=0:=by rw[hes];exact aE _
     have HO:=al (show oF w (.slice A5 0 c5) es W4/\es.Pairwise (fun a b=>a≥b)/\es=opens l k/\es.length<=k by rw[hes];exact⟨hst,hpw,hfl,dq _⟩);clear hst hpw hfl hes;by_cases h8:es.length<=8
     ·have YK: ¬((8:Int)<(0:Int)):=by omega
      go_wp2_with fail;refine(DR W4 ⟨D,A',B',C',N'⟩).m ?_;rintro e5 w5 ⟨rfl,fR⟩;have q4':=(fR.cell (p:=⟨B4,4,none⟩) (aq _ _ q4)).x q4;have Ge:=al (ab (HO.o.1.below fR) fR);clear fR
      cases hh:(⟨D,A',B',C',N'⟩:aO).holds with
      |false=>
       have HH:=al hh;clear hh;go_wp2_with fail;go_roundw
       case rel=>
        have hpl:dV l k ⟨D,A',B',C',N'⟩=true:=by unfold dV;rw[<-HO.o.d.1,HH.o,decide_eq_true h8];rfl
        exact⟨k+1,by omega,by go_num,es,Ge.o.1,HO.o.2.1,by rw[HO.o.d.1];exact DJ HX.o.1 HH.o,by rw[bX HX.o.1,HX.o.t.1,hpl];rfl,by omega⟩
       case measure=>simp[intOf];omega
      |true=>
       have hnb:=H.o.2.1 _ (de HX.o.1) hh;simp only at hnb;have aa6:=hnb.1;have aa7:=hnb.2;have HH:=al hh;clear hh hnb;have hlo:=al (show kv l.length (opens l k)=(l.length:Int) by rw[<-HO.o.d.1,RB.o];rfl);have hmx:=al (show ∀e∈es,(k:Int)+1+N'<=e by intro e he;rw[RB.o]at he;simp at he);by_cases hend:(l.length:Int)<(k:Int)+1+N'
       ·have HE:=al hend;go_wp2_with fail;go_ret
        refine⟨?_,let⟨_,_,_,_,hb⟩:=Ge.o.1;hb⟩
        have hpl:dV l k ⟨D,A',B',C',N'⟩=false:=by
         unfold dV;rw[hlo.o,HH.o];have: ¬cI k ⟨D,A',B',C',N'⟩<=(l.length:Int):=by have:=HE.o;unfold cI;simp only;omega
         rw[decide_eq_false this];simp
        have:gK l=false:=by rw[Bool.eq_false_iff];intro hh;have h1:=eH hh (show k+1<=l.length by omega);rw[bX HX.o.1,hpl]at h1;simp at h1
        rw[this];rfl
       ·have HE:=al hend;have Nq:=Ge.o.1;obtain⟨Ax,cx,X3,RD,ek⟩:=Nq;rw[HLEN.o]at RD;have hnews:=eb (an w5 (.cells #[.int .i64 ((k:Int)+1+N')] 3));have UR:=ek.size;have HA:=al (ab (RD.alloc (.cells #[.int .i64 ((k:Int)+1+N')] 3)) (ab hnews (ab ek (ab RD H.o.d))));clear X3 RD ek hnews;go_wp2_with (at_builtin;go_loud (refine eh _ rfl _ _ 23 rfl w.heap.size 3 i0 _ 1 8 underlying23 HA.o.q hz0 hz1 hz2 rfl (by decide) _ (0) _ rfl HA.o.1 ⟨w5.heap.size,0,none⟩ 1 1 [.int .i64 ((k:Int)+1+N')] rfl rfl HA.o.2.1 (by simp[Value.oneCell']) (by decide) (by unfold maxLen;omega) (by omega) (by simp;omega) _ rfl ?_));intro g6 Vm w6 lR Qr xE Vn;have HG:=al (ab lR Qr);clear lR Qr xE Vn;go_wp2_with fail;go_roundw
        case rel=>
         have hpl:dV l k ⟨D,A',B',C',N'⟩=true:=by
          unfold dV;rw[hlo.o,<-HO.o.d.1,HH.o,decide_eq_true h8];have:cI k ⟨D,A',B',C',N'⟩<=(l.length:Int):=by have:=HE.o;unfold cI;simp only;omega
          rw[decide_eq_true this];rfl
         have hmx: ∀e∈es,(k:Int)+1+N'<=e:=hmx.o;refine⟨k+1,by omega,by go_num,es++[(k:Int)+1+N'],⟨some ⟨g6,0,none⟩,Vm,by rw[RB.o];rfl,?_,?_⟩,xx HO.o.2.1 hmx,?_,by rw[bX HX.o.1,HX.o.t.1,hpl];rfl,by simp;omega⟩
         ·have h9:=HG.o.1;rw[RB.o]at h9⊢;simpa using h9
         ·exact(HA.o.d.1.alloc UR _).grown HG.o.2 (by simp;omega) (fun j hj=>(HA.o.t.1.lt j hj).1)
         ·rw[HO.o.d.1];exact Ac HX.o.1 HH.o
        case measure=>simp[intOf];omega
     ·have YK:(8:Int)<(0:Int):=by omega
      go_wp2_with fail;go_ret
      refine⟨?_,let⟨_,_,_,_,hb⟩:=HO.o.1;hb⟩
      have hpl:dV l k ⟨D,A',B',C',N'⟩=false:=by unfold dV;rw[<-HO.o.d.1,decide_eq_false h8];rfl
      have:gK l=false:=by rw[Bool.eq_false_iff];intro hh;have h1:=eH hh (show k+1<=l.length by omega);rw[bX HX.o.1,hpl]at h1;simp at h1
      rw[this];rfl
    ·rw[List.concat_eq_append]at hes;obtain⟨g,hA5,hcz,hgl,hcap⟩:=(show oF w (.slice A5 es.length c5) (es'++[z]) W4 by rw[<-hes];exact hst).top;have hlen:es.length=es'.length+1:=by rw[hes];simp
     subst hA5;by_cases hzk:z<=(k:Int)
     ·have HO:=al (ab hst (ab hpw (ab hfl hes)));clear hst hpw hfl hes;rw[hlen];go_wp2_with fail
      go_round
      case rel=>
       have aa8:oF w (.slice (some ⟨g,0,none⟩) (es'.length+1) c5) (es'++[z]) W4:=by rw[<-hlen,<-HO.o.t];exact HO.o.1
       have aa9:(es'++[z]).Pairwise (fun a b=>a≥b):=by rw[<-HO.o.t];exact HO.o.2.1
       refine⟨es',aa8.pop,(List.pairwise_append.1 aa9).1,?_,by omega⟩;have h1:=HO.o.d.1;rw[HO.o.t,mw,List.filter_cons,ff (by simp;omega),List.filter_nil,gn]at h1;exact h1
      case measure=>simp[sliceLen]
     ·have RB:=al hes;have hall:es.filter (fun e=>decide ((k:Int)<e))=es:=Kt hpw (fun e he=>by rw[hes]at he;simp at he;omega);rw[hall]at hfl;have HLEN:=al hlen;have HO:=al (show oF w (.slice (some ⟨g,0,none⟩) (es'.length+1) c5) es W4/\es.Pairwise (fun a b=>a≥b)/\es=opens l k/\es.length<=k by rw[<-hlen];exact⟨hst,hpw,hfl,hle⟩);have C4:es.length<=es'.length+1:=by omega
      have hl2:es'.length+1<=es.length:=by omega
      rw[hlen];clear hst hpw hfl hes hall hlen;by_cases h8:es.length<=8
      ·have YK: ¬((8:Int)<((es'.length:Int)+1)):=by omega
       go_wp2_with fail;refine(DR W4 ⟨D,A',B',C',N'⟩).m ?_;rintro e5 w5 ⟨rfl,fR⟩;have q4':=(fR.cell (p:=⟨B4,4,none⟩) (aq _ _ q4)).x q4;have acB:=(fR.cell (p:=⟨g,es'.length,none⟩) hgl).x hcz;have Ge:=al (ab (HO.o.1.below fR) fR);clear fR
       cases hh:(⟨D,A',B',C',N'⟩:aO).holds with
       |false=>
        have HH:=al hh;clear hh;go_wp2_with fail;go_roundw
        case rel=>
         have hpl:dV l k ⟨D,A',B',C',N'⟩=true:=by unfold dV;rw[<-HO.o.d.1,HH.o,decide_eq_true h8];rfl
         exact⟨k+1,by omega,by go_num,es,Ge.o.1,HO.o.2.1,by rw[HO.o.d.1];exact DJ HX.o.1 HH.o,by rw[bX HX.o.1,HX.o.t.1,hpl];rfl,by omega⟩
        case measure=>simp[intOf];omega
       |true=>
        have hnb:=H.o.2.1 _ (de HX.o.1) hh;simp only at hnb;have aa6:=hnb.1;have aa7:=hnb.2;have HH:=al hh;clear hh hnb;have hlo:=al (show kv l.length (opens l k)=z by rw[<-HO.o.d.1,RB.o];simp[kv]);by_cases hend:z<(k:Int)+1+N'
        ·have HE:=al hend;go_wp2_with fail;go_ret
         refine⟨?_,let⟨_,_,_,_,hb⟩:=Ge.o.1;hb⟩
         have hpl:dV l k ⟨D,A',B',C',N'⟩=false:=by
          unfold dV;rw[hlo.o,HH.o];have: ¬cI k ⟨D,A',B',C',N'⟩<=z:=by have:=HE.o;unfold cI;simp only;omega
          rw[decide_eq_false this];simp
         have:gK l=false:=by rw[Bool.eq_false_iff];intro hh;have h1:=eH hh (show k+1<=l.length by omega);rw[bX HX.o.1,hpl]at h1;simp at h1
         rw[this];rfl
        ·have HE:=al hend;have Nq:=Ge.o.1;obtain⟨Ax,cx,X3,RD,ek⟩:=Nq;rw[HLEN.o]at RD;have hnews:=eb (an w5 (.cells #[.int .i64 ((k:Int)+1+N')] 3));have UR:=ek.size;have HA:=al (ab (RD.alloc (.cells #[.int .i64 ((k:Int)+1+N')] 3)) (ab hnews (ab ek (ab RD H.o.d))));clear X3 RD ek hnews;go_wp2_with (at_builtin;go_loud (refine eh _ rfl _ _ 23 rfl w.heap.size 3 i0 _ 1 8 underlying23 HA.o.q hz0 hz1 hz2 rfl (by decide) _ (es'.length+1) _ rfl HA.o.1 ⟨w5.heap.size,0,none⟩ 1 1 [.int .i64 ((k:Int)+1+N')] rfl rfl HA.o.2.1 (by simp[Value.oneCell']) (by decide) (by unfold maxLen;omega) (by omega) (by simp;omega) _ rfl ?_));intro g6 Vm w6 lR Qr xE Vn;have HG:=al (ab lR Qr);clear lR Qr xE Vn;go_wp2_with fail;go_roundw
         case rel=>
          have hpl:dV l k ⟨D,A',B',C',N'⟩=true:=by
           unfold dV;rw[hlo.o,<-HO.o.d.1,HH.o,decide_eq_true h8];have:cI k ⟨D,A',B',C',N'⟩<=z:=by have:=HE.o;unfold cI;simp only;omega
           rw[decide_eq_true this];rfl
          have hmx: ∀e∈es,(k:Int)+1+N'<=e:=(by rw[RB.o];exact FW (by rw[<-RB.o];exact HO.o.2.1) (by have:=HE.o;omega));refine⟨k+1,by omega,by go_num,es++[(k:Int)+1+N'],⟨some ⟨g6,0,none⟩,Vm,by rw[RB.o];simp,?_,?_⟩,xx HO.o.2.1 hmx,?_,by rw[bX HX.o.1,HX.o.t.1,hpl];rfl,by simp;omega⟩
          ·have h9:=HG.o.1;rw[show(es++[(k:Int)+1+N']).length=es'.length+1+1 by simp[HLEN.o]];simpa using h9
          ·exact(HA.o.d.1.alloc UR _).grown HG.o.2 (by simp;omega) (fun j hj=>(HA.o.t.1.lt j hj).1)
          ·rw[HO.o.d.1];exact Ac HX.o.1 HH.o
         case measure=>simp[intOf];omega
      ·have YK:(8:Int)<((es'.length:Int)+1):=by omega
       go_wp2_with fail;go_ret
       refine⟨?_,let⟨_,_,_,_,hb⟩:=HO.o.1;hb⟩
       have hpl:dV l k ⟨D,A',B',C',N'⟩=false:=by unfold dV;rw[<-HO.o.d.1,decide_eq_false h8];rfl
       have:gK l=false:=by rw[Bool.eq_false_iff];intro hh;have h1:=eH hh (show k+1<=l.length by omega);rw[bX HX.o.1,hpl]at h1;simp at h1
       rw[this];rfl
  ·obtain rfl:k=l.length:=by omega
   have HX:=al (ab hst hnt);obtain⟨A0,c0',rfl,_,_⟩:=hst;clear hnt hpw hfl;go_wp2_with fail;go_ret
   exact⟨by rw[show gK l=true from HX.o.2];rfl,let⟨_,_,_,_,hb⟩:=HX.o.1;hb⟩
theorem nN{o:aO}(h:cw o=true)(hh:o.holds=true):0<=o.n/\o.n<=64:=by
 unfold cw at h;rw[List.all_eq_true]at h;have h3:=h 3 (List.mem_range.2 (by decide));unfold aO.holds at hh;rw[Bool.or_eq_true,beq_iff_eq,beq_iff_eq]at hh;rcases hh with hh|hh
 ·simp[hh,ji,tv,rN,aO.mh]at h3;omega
 ·simp[hh,ji,tv,rN,aO.mh]at h3;omega
theorem tE{o:aO}(h:bJ o=true):1<=o.d/\o.d<=15:=by unfold bJ at h;rw[lx]at h;exact of_decide_eq_true h.1
theorem lS{l:List aO}{p:aO->Bool}{k:Nat}{x:aO}(hx:l[k]?=some x)(hp:p x=false):l.all p=false:=by rw[Bool.eq_false_iff];intro h;rw[List.all_eq_true]at h;rw[h x (List.mem_of_getElem? hx)]at hp;cases hp
def Jd(w:World)(l:List aO)(p:aO->Bool)(k:Nat)(wr:World):Prop:=(l.take k).all p=true/\Below w.heap.size w wr
theorem pT{l:List aO}{p:aO->Bool}{k:Nat}{x:aO}(h:(l.take k).all p=true)(hx:l[k]?=some x)(hp:p x=true):(l.take (k+1)).all p=true:=by rw[iv,hx,List.all_append,h];simp[hp]
theorem Ak(w:World)(F:Nat->Prop)(v:Value)(l:List aO)(h:gu w F v l)(hs:gS w):
  Calls prog 43 #[v] w fun e w'=>e=.returned (.int .i64 (opsE l))/\Below w.heap.size w w':=by
 obtain⟨A,c,rfl,hlc,hcm⟩:=h.slice;unfold maxLen at hcm;by_cases h64:64<l.length
 ·have HE:=al (show opsE l=23 by unfold opsE;rw[fi h64]);have Vo:(64:Int)<(l.length:Int):=by omega
  clear h hs;go_enter func43,ntmps43;go_wp2_with fail;go_ret
  exact⟨by rw[HE.o];rfl,aw _ _⟩
 have hE:opsE l=if l.all bJ=false then 11 else if l.all cw=false then 10 else if gK l=false then 11 else 0:=by unfold opsE;rw[ff h64]
 have Vo: ¬((64:Int)<(l.length:Int)):=by omega
 have H:=al (ab h (ab hs hE));clear h hs hE;go_enter func43,ntmps43;go_wp2_with fail
 go_loopw [12] (fun i wr=> ∃k:Nat,k<=l.length/\i=.int .i64 (k:Int)/\Jd w l bJ k wr) (fun i _=>l.length-(intOf i).toNat)
 case atStart=>exact⟨0,dq _,rfl,rfl,aw _ _⟩
 case round=>
  obtain⟨k,hk,rfl,hal,hbl⟩:=hrel;by_cases hlt:k<l.length
  ·obtain⟨x,hx⟩: ∃x,l[k]?=some x:=⟨_,ao hlt⟩;obtain⟨b,o,rfl,qP,c0,c1,c2,c3,c4⟩:=H.o.1.at_ hx;have dI:=aq _ _ c0;have d0:=(hbl.cell (p:=⟨b,o+k*5,none⟩) dI).x c0;have d1:=(hbl.cell (p:=⟨b,o+k*5+1,none⟩) dI).x c1;have d2:=(hbl.cell (p:=⟨b,o+k*5+2,none⟩) dI).x c2;have d3:=(hbl.cell (p:=⟨b,o+k*5+3,none⟩) dI).x c3;have d4:=(hbl.cell (p:=⟨b,o+k*5+4,none⟩) dI).x c4;obtain⟨D,A',B',C',N'⟩:=x;simp only at d0 d1 d2 d3 d4;have hb4:=hbl.alloc hbl.size (.cells #[.int .i64 D,.int .i64 A',.int .i64 B',.int .i64 C',.int .i64 N'] 93);have HF:=al (KL _ (H.o.2.1.below hb4) ⟨D,A',B',C',N'⟩);have HX:=al (ab hx (ab hal hb4));clear hx hal hbl c0 c1 c2 c3 c4 qP dI hb4;go_wp2_with fail;refine HF.o.m ?_;rintro e w5 ⟨rfl,fR⟩;have uC:=al (HX.o.d.x (fR.m HX.o.d.size));clear fR HF
   cases hf:bJ ⟨D,A',B',C',N'⟩with
   |true=>
    have HV:=al hf;clear hf;go_wp2_with fail;go_roundw
    case rel=>exact⟨k+1,by omega,by go_num,pT HX.o.2.1 HX.o.1 HV.o,uC.o⟩
    case measure=>simp[intOf];omega
   |false=>
    have HV:=al hf;clear hf;go_wp2_with fail;go_ret
    exact⟨by rw[H.o.d,fi (lS HX.o.1 HV.o)];rfl,uC.o⟩
  ·obtain rfl:k=l.length:=by omega
   rw[gd]at hal;have HA:=al (ab hal hbl);clear hal hbl;go_wp2_with fail
   go_loopw [22] (fun i wr=> ∃k:Nat,k<=l.length/\i=.int .i64 (k:Int)/\Jd w l cw k wr) (fun i _=>l.length-(intOf i).toNat)
   case atStart=>exact⟨0,dq _,rfl,rfl,HA.o.2⟩
   case round=>
    obtain⟨k,hk,rfl,hal,hbl⟩:=hrel;by_cases hlt:k<l.length
    ·obtain⟨x,hx⟩: ∃x,l[k]?=some x:=⟨_,ao hlt⟩;obtain⟨b,o,rfl,qP,c0,c1,c2,c3,c4⟩:=H.o.1.at_ hx;have dI:=aq _ _ c0;have Ya:=tE (List.all_eq_true.1 HA.o.1 x (de hx));have d0:=(hbl.cell (p:=⟨b,o+k*5,none⟩) dI).x c0;have d1:=(hbl.cell (p:=⟨b,o+k*5+1,none⟩) dI).x c1;have d2:=(hbl.cell (p:=⟨b,o+k*5+2,none⟩) dI).x c2;have d3:=(hbl.cell (p:=⟨b,o+k*5+3,none⟩) dI).x c3;have d4:=(hbl.cell (p:=⟨b,o+k*5+4,none⟩) dI).x c4;obtain⟨D,A',B',C',N'⟩:=x;simp only at d0 d1 d2 d3 d4;have hb4:=hbl.alloc hbl.size (.cells #[.int .i64 D,.int .i64 A',.int .i64 B',.int .i64 C',.int .i64 N'] 93);have HF:=al (KN _ (H.o.2.1.below hb4) ⟨D,A',B',C',N'⟩ Ya);have HX:=al (ab hx (ab hal hb4));clear hx hal hbl c0 c1 c2 c3 c4 qP dI hb4 Ya;go_wp2_with fail;refine HF.o.m ?_;rintro e w5 ⟨rfl,fR⟩;have uC:=al (HX.o.d.x (fR.m HX.o.d.size));clear fR HF
     cases hf:cw ⟨D,A',B',C',N'⟩with
     |true=>
      have HV:=al hf;clear hf;go_wp2_with fail;go_roundw
      case rel=>exact⟨k+1,by omega,by go_num,pT HX.o.2.1 HX.o.1 HV.o,uC.o⟩
      case measure=>simp[intOf];omega
     |false=>
      have HV:=al hf;clear hf;go_wp2_with fail;go_ret
      exact⟨by rw[H.o.d,ff (by rw[HA.o.1];simp),fi (lS HX.o.1 HV.o)];rfl,uC.o⟩
    ·obtain rfl:k=l.length:=by omega
     rw[gd]at hal;have HR:=al (ab hal hbl);have T4:=KO wr F (.slice A l.length c) l (aS.below H.o.1 hbl) (by omega) (fun o ho hh=>nN (List.all_eq_true.1 hal o ho) hh);have HN:=al T4;clear hal hbl T4;go_wp2_with fail;refine HN.o.m ?_;rintro e w6 ⟨rfl,fC⟩;have Xv:=al (HR.o.2.x (fC.m HR.o.2.size));clear fC HN
     cases hf:gK l with
     |true=>
      have HV:=al hf;clear hf;go_wp2_with fail;go_ret
      exact⟨by rw[H.o.d,ff (by rw[HA.o.1];simp),ff (by rw[HR.o.1];simp),ff (by rw[HV.o];simp)];rfl,Xv.o⟩
     |false=>
      have HV:=al hf;clear hf;go_wp2_with fail;go_ret
      exact⟨by rw[H.o.d,ff (by rw[HA.o.1];simp),ff (by rw[HR.o.1];simp),fi HV.o];rfl,Xv.o⟩
end Go.Proofs.YtmkofmeojbcakaaGreatDoor
