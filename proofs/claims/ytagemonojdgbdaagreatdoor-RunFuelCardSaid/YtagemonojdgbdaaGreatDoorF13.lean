import Derived.Test.YtagemonojdgbdaaGreatDoorF07
import Derived.Test.YtagemonojdgbdaaGreatDoorF08
import Derived.Test.YtagemonojdgbdaaGreatDoorF11
import Derived.Laws.RangeAny
import Derived.Laws.RangeString
import Derived.Deep.Cut
namespace Go.Proofs.YtagemonojdgbdaaGreatDoor
set_option maxRecDepth 100000
set_option maxHeartbeats 16000000
open Go.RowKit
def aH.cells(o:aH):List Value:=[.int .i64 o.d,.int .i64 o.a,.int .i64 o.b,.int .i64 o.c,.int .i64 o.n]
def aH.val(o:aH):Value:=.agg #[.int .i64 o.d,.int .i64 o.a,.int .i64 o.b,.int .i64 o.c,.int .i64 o.n]
def aH.fits(o:aH):Prop:=(-9223372036854775808<=o.d/\o.d<=9223372036854775807)/\(-9223372036854775808<=o.a/\o.a<=9223372036854775807)/\(-9223372036854775808<=o.b/\o.b<=9223372036854775807)/\(-9223372036854775808<=o.c/\o.c<=9223372036854775807)/\(-9223372036854775808<=o.n/\o.n<=9223372036854775807)
def gP(w:World)(F:Nat->Prop)(v:Value)(l:List aH):Prop:=cd 5 w F v (l.map aH.cells)
def qb:Nat->List UInt8
 |1=>[65,67]
 |2=>[65,66]
 |3=>[65,66]
 |4=>[65,66]
 |5=>[65,66]
 |6=>[65,66]
 |7=>[65,66]
 |8=>[65,66,67]
 |9=>[65,66]
 |10=>[66]
 |11=>[65,66,67]
 |12=>[65,66,67,78]
 |13=>[65,78]
 |14=>[67,78]
 |15=>[65]
 |_=>[]
def je(w:World):Prop:= ∀d:Nat,d<16->w.cell? ⟨0,d*2+1,none⟩=some (.string ⟨(qb d).toArray⟩)
theorem je.below{w w':World}(h:je w)(hb:Below w.heap.size w w'):je w':=fun d hd=>(hb.cell (p:=⟨0,d*2+1,none⟩) (aE _ _ (h d hd))).trans (h d hd)
def gU:Nat->Int
 |0=>65
 |1=>66
 |2=>67
 |_=>78
theorem Il: ∀d,d<16->1<=d-> ∀i,i<4->decide (0<=Lib.indexByte (qb d) (gU i).toNat.toUInt8)=iU (d:Int) i:=by decide
open Go.Shelf in
theorem Tryz.jn(s:ByteArray)(r:Int)(w:World)(h0:0<=r)(h1:r<128):
  Calls Tryz.prog 126 #[.string s,.int .i32 r] w fun e w'=>e=.returned (.bool (decide (0<=Lib.indexByte s.data.toList r.toNat.toUInt8)))/\w'=w:=Any.strings_ContainsRune_ascii Tryz.Oo s r w h0 h1
theorem KN(w:World)(B b:Nat)(i:Nat)(hi:i<4)(hc:w.cell? ⟨B,0,none⟩=some (.pointer (some ⟨b,0,none⟩))):
  Calls Tryz.prog 158 #[.int .i32 (gU i),.pointer (some ⟨B,0,none⟩)] w fun e w'=>e=.returned (.pointer (some ⟨b,1+i,none⟩))/\w=w':=by
 match i,hi with
 |0,_=>
  go_enter Tryz.func158,Tryz.ntmps158;go_wp2_with fail;go_ret
  exact⟨rfl,rfl⟩
 |1,_=>
  go_enter Tryz.func158,Tryz.ntmps158;go_wp2_with fail;go_ret
  exact⟨rfl,rfl⟩
 |2,_=>
  go_enter Tryz.func158,Tryz.ntmps158;go_wp2_with fail;go_ret
  exact⟨rfl,rfl⟩
 |3,_=>
  go_enter Tryz.func158,Tryz.ntmps158;go_wp2_with fail;go_ret
  exact⟨rfl,rfl⟩
theorem xW(w:World)(b:Nat):
  Calls Tryz.prog 125 #[.pointer (some ⟨b,0,none⟩)] w fun e w'=>e=.returned (.func (.func 158) #[] #[.pointer (some ⟨w.heap.size,0,none⟩)])/\w'=w.alloc (.cells #[.pointer (some ⟨b,0,none⟩)] 237):=by
 go_enter Tryz.func125,Tryz.ntmps125;go_wp2_with fail;go_ret
 exact⟨rfl,rfl⟩
theorem OB(w:World)(d:Int)(i:Nat)(hi:i<4):
  Calls Tryz.prog 127 #[.int .i64 d,.int .i32 (gU i)] w fun e w'=>e=.returned (.tuple #[.int .i64 (AA d i),.int .i64 (xN d i)])/\w=w':=by
 match i,hi with
 |0,_=>
  by_cases h:d=9
  ·subst h;go_enter Tryz.func127,Tryz.ntmps127;go_wp2_with fail
   go_ret2
   exact⟨rfl,rfl⟩
  ·have e:(d==9)=false:=by simpa using h
   have hl:xN d 0=7:=by simp[xN,h]
   have HL:=al hl;clear h hl;go_enter Tryz.func127,Tryz.ntmps127;go_wp2_with fail
   go_ret2
   exact⟨by rw[HL.out];rfl,rfl⟩
 |1,_=>
  go_enter Tryz.func127,Tryz.ntmps127;go_wp2_with fail
  go_ret2
  exact⟨rfl,rfl⟩
 |2,_=>
  by_cases h:d=1
  ·subst h;go_enter Tryz.func127,Tryz.ntmps127;go_wp2_with fail
   go_ret2
   exact⟨rfl,rfl⟩
  ·by_cases h2:d=14
   ·subst h2;go_enter Tryz.func127,Tryz.ntmps127;go_wp2_with fail
    go_ret2
    exact⟨rfl,rfl⟩
   ·have e:(d==1)=false:=by simpa using h
    have e2:(d==14)=false:=by simpa using h2
    have HL:=al (show xN d 2=3/\AA d 2=0 by simp[xN,AA,h,h2]);clear h h2;go_enter Tryz.func127,Tryz.ntmps127;go_wp2_with fail
    go_ret2
    exact⟨by rw[HL.out.1,HL.out.2];rfl,rfl⟩
 |3,_=>
  by_cases h:d=12
  ·subst h;go_enter Tryz.func127,Tryz.ntmps127;go_wp2_with fail
   go_ret2
   exact⟨rfl,rfl⟩
  ·have e:(d==12)=false:=by simpa using h
   have HL:=al (show xN d 3=64 by simp[xN,h]);clear h;go_enter Tryz.func127,Tryz.ntmps127;go_wp2_with fail
   go_ret2
   exact⟨by rw[HL.out];rfl,rfl⟩
def D3:ByteArray:=⟨#[65,66,67,78]⟩
theorem D4: ∀(i:Nat) (h:i<D3.size),(D3[i]'h).toNat<128:=by decide
theorem Im(W:World)(i:Nat)(hi:i<4)(ty:TypeId):(Instr.next (.pointer (some ⟨W.heap.size,0,none⟩)) true ty).run Tryz.prog (W.iter D3 i)=.ok (.tuple #[.bool true,.int .i64 (i:Int),.int .i32 (gU i)]) (W.iter D3 (i+1)):=by
 have h:i<D3.size:=hi;have:=run_next_ascii (P:=Tryz.prog) W D3 i ty h (D4 i h);rw[this]
 match i,hi with
 |0,_=>rfl
 |1,_=>rfl
 |2,_=>rfl
 |3,_=>rfl
theorem Ga(i:Nat):0<=gU i/\gU i<128:=by unfold gU;split<;>omega
theorem KO{w:World}{b:Nat}{o:aH}(hb:w.heap[b]?=some (.cells #[.int .i64 o.d,.int .i64 o.a,.int .i64 o.b,.int .i64 o.c,.int .i64 o.n] 104 (0,0)))(i:Nat)(hi:i<4):w.cell? ⟨b,1+i,none⟩=some (.int .i64 (o.mP i)):=by
 match i,hi with
 |0,_=>simp[World.cell?,hb,aH.mP]
 |1,_=>simp[World.cell?,hb,aH.mP]
 |2,_=>simp[World.cell?,hb,aH.mP]
 |3,_=>simp[World.cell?,hb,aH.mP]
theorem D5{o:aH}(hd:(1<=o.d/\o.d<=15)):bD o=(List.range 4).all (fun i=>iU o.d i||o.mP i==0):=by unfold bD;rw[decide_eq_true hd,Bool.true_and]
def wJ(W:World)(b B:Nat)(dn:Nat)(A B' C N:Int):Prop:=
 W.cell? ⟨b,0,none⟩=some (.int .i64 (dn:Int))/\W.cell? ⟨B,0,none⟩=some (.pointer (some ⟨b,0,none⟩))/\W.cell? ⟨0,dn*2+1,none⟩=some (.string ⟨(qb dn).toArray⟩)/\ ∀i,i<4->W.cell? ⟨b,1+i,none⟩=some (.int .i64 ((⟨(dn:Int),A,B',C,N⟩:aH).mP i))
theorem wJ.alloc{W:World}{b B dn:Nat}{A B' C N:Int}(h:wJ W b B dn A B' C N)(o:Obj):wJ (W.alloc o) b B dn A B' C N:=⟨cH h.1 _,cH h.2.1 _,cH h.2.2.1 _,fun i hi=>cH (h.2.2.2 i hi) _⟩
theorem wJ.iter{W:World}{b B dn:Nat}{A B' C N:Int}(h:wJ W b B dn A B' C N)(s:ByteArray)(i:Nat):wJ (W.iter s i) b B dn A B' C N:=h.alloc _
theorem wJ.start(w:World)(hs:je w)(dn:Nat)(hd:dn<16)(A B C N:Int):wJ ((w.alloc (.cells #[.int .i64 (dn:Int),.int .i64 A,.int .i64 B,.int .i64 C,.int .i64 N] 104)).alloc (.cells #[.pointer (some ⟨w.heap.size,0,none⟩)] 237)) w.heap.size (w.heap.size+1) dn A B C N:=
 ⟨by simp,by simp,(hs.below (((aw _ _).alloc (aq _) _).alloc (by simp) _)) dn hd,fun i hi=>cH (KO (o:=⟨(dn:Int),A,B,C,N⟩) (an _ _) i hi) _⟩
theorem BW{p:Nat->Bool}{i:Nat}:(List.range (i+1)).all p=((List.range i).all p&&p i):=by rw[List.range_succ,List.all_append];simp
theorem Io(w:World)(hs:je w)(dn:Nat)(hd1:1<=dn)(Ip:dn<16)(A B C N:Int):
  Calls Tryz.prog 83 #[.agg #[.int .i64 (dn:Int),.int .i64 A,.int .i64 B,.int .i64 C,.int .i64 N]] w fun e w'=>e=.returned (.bool (bD ⟨(dn:Int),A,B,C,N⟩))/\Below w.heap.size w w':=by
 have Dw:=D5 (o:=⟨(dn:Int),A,B,C,N⟩) ⟨by show(1:Int)<=dn;omega,by show(dn:Int)<=15;omega⟩;have hst:=wJ.start w hs dn Ip A B C N;have hBl:Below w.heap.size w ((w.alloc (.cells #[.int .i64 (dn:Int),.int .i64 A,.int .i64 B,.int .i64 C,.int .i64 N] 104)).alloc (.cells #[.pointer (some ⟨w.heap.size,0,none⟩)] 237)):=((aw _ _).alloc (aq _) _).alloc (by simp) _;have HH:=al (ab Dw (Il dn Ip hd1));have hdi: ¬((dn:Int)<1):=by omega
 have Yu: ¬((15:Int)<(dn:Int)):=by omega
 clear Dw hs;go_enter Tryz.func83,Tryz.ntmps83;go_wp2_with fail;refine(xW _ w.heap.size).mono ?_;rintro e w1 ⟨rfl,hw1⟩;have hsz:(w.alloc (.cells #[.int .i64 (dn:Int),.int .i64 A,.int .i64 B,.int .i64 C,.int .i64 N] 104)).heap.size=w.heap.size+1:=by simp
 rw[hsz];generalize ((w.alloc (.cells #[.int .i64 (dn:Int),.int .i64 A,.int .i64 B,.int .i64 C,.int .i64 N] 104)).alloc (.cells #[.pointer (some ⟨w.heap.size,0,none⟩)] 237))=W at hst hBl hw1;subst hw1;have HS:=al (ab hst hBl);clear hst hBl hsz;obtain⟨b,hb⟩: ∃b,w.heap.size=b:=⟨_,rfl⟩;have HB:=al hb;have TG:=al (show b<=w1.heap.size by have:=HS.out.2.size;omega);rw[hb]at HS;go_wp2_with fail;clear hb
 go_loopw [5] (fun _ wr=> ∃i:Nat,i<=4/\wr=w1.iter ⟨#[65,66,67,78]⟩ i/\(List.range i).all (fun j=>iU (dn:Int) j||(⟨(dn:Int),A,B,C,N⟩:aH).mP j==0)=true) (fun _ wr=>4-wr.iterPos w1.heap.size)
 case atStart=>exact⟨0,dj _,rfl,rfl⟩
 case round=>
  obtain⟨i,hi,rfl,hal⟩:=hrel;by_cases hlt:i<4
  ·have hnx:=Im w1 i hlt;unfold D3 at hnx;obtain⟨c0,cB,cT,cf⟩:=HS.out.1.iter ⟨#[65,66,67,78]⟩ (i+1);have Yv:=cf i hlt;have zn:=Ga i;have Gb:=HH.out.2 i hlt;obtain⟨z,hz⟩: ∃z,(⟨(dn:Int),A,B,C,N⟩:aH).mP i=z:=⟨_,rfl⟩;rw[hz]at Yv;obtain⟨q,hq⟩: ∃q,iU (dn:Int) i=q:=⟨_,rfl⟩;have HI:=al (ab hal (ab hz hq));have hcr:=Tryz.jn ⟨(qb dn).toArray⟩ (gU i) (w1.iter ⟨#[65,66,67,78]⟩ (i+1)) zn.1 zn.2;rw[Gb,hq]at hcr;have HCR:=al hcr;have Xx:=al (KN (w1.iter ⟨#[65,66,67,78]⟩ (i+1)) (b+1) b i hlt cB);clear hal hz hq Gb cf hcr;go_wp2_with fail;refine HCR.out.mono ?_;rintro e w2 ⟨rfl,rfl⟩
   cases q with
   |true=>
    have HQ:=al HI.out.2.2;go_wp2_with fail;go_roundw
    case rel=>exact⟨i+1,by omega,rfl,by rw[BW,HI.out.1,HQ.out];rfl⟩
    case measure=>simp;omega
   |false=>
    have HQ:=al HI.out.2.2;go_wp2_with fail;refine Xx.out.mono ?_;rintro e w3 ⟨rfl,rfl⟩;by_cases hz0:z=0
    ·have HZ:=al (HI.out.2.1.trans hz0);subst hz0;go_wp2_with fail;go_roundw
     case rel=>exact⟨i+1,by omega,rfl,by rw[BW,HI.out.1,HQ.out,HZ.out];rfl⟩
     case measure=>simp;omega
    ·have hzn:(z !=0)=true:=by simpa using hz0
     have HZ:=al (ab hz0 HI.out.2.1);clear hz0;go_wp2_with fail;go_ret
     refine⟨?_,?_⟩
     ·rw[HH.out.1]
      have:(List.range 4).all (fun j=>iU (dn:Int) j||(⟨(dn:Int),A,B,C,N⟩:aH).mP j==0)=false:=by rw[Bool.eq_false_iff];intro hh;rw[List.all_eq_true]at hh;have h1:=hh i (List.mem_range.2 hlt);rw[HQ.out,HZ.out.2]at h1;simp at h1;exact HZ.out.1 h1
      rw[this];rfl
     ·rw[HB.out];exact HS.out.2.alloc TG.out _
  ·obtain rfl:i=4:=by omega
   have HA:=al hal;clear hal;have hnx: ∀ty,(Instr.next (.pointer (some ⟨w1.heap.size,0,none⟩)) true ty).run Tryz.prog (w1.iter ⟨#[65,66,67,78]⟩ 4)=.ok (.tuple #[.bool false]) (w1.iter ⟨#[65,66,67,78]⟩ 4):=fun ty=>run_next_end w1 ⟨#[65,66,67,78]⟩ 4 ty (by decide);go_wp2_with fail;go_ret
   refine⟨by rw[HH.out.1,HA.out];rfl,?_⟩;rw[HB.out];exact HS.out.2.alloc TG.out _
theorem Iq(w:World)(hs:je w)(o:aH):Calls Tryz.prog 83 #[o.val] w fun e w'=>e=.returned (.bool (bD o))/\Below w.heap.size w w':=by
 obtain⟨D,A,B,C,N⟩:=o;unfold aH.val;by_cases hd:1<=D/\D<=15
 ·obtain⟨dn,rfl⟩: ∃dn:Nat,D=(dn:Int):=⟨D.toNat,by omega⟩;exact Io w hs dn (by omega) (by omega) A B C N
 ·have HF:=al (show bD ⟨D,A,B,C,N⟩=false by unfold bD;rw[decide_eq_false hd];rfl);by_cases h1:D<1
  ·clear hd hs;go_enter Tryz.func83,Tryz.ntmps83;go_wp2_with fail;go_ret
   exact⟨by rw[HF.out];rfl,(aw _ _).alloc (aq _) _⟩
  ·have h2:15<D:=by omega
   clear hd hs;go_enter Tryz.func83,Tryz.ntmps83;go_wp2_with fail;go_ret
   exact⟨by rw[HF.out];rfl,(aw _ _).alloc (aq _) _⟩
def TH(o:aH)(i:Nat):Bool:=decide (AA o.d i<=o.mP i)&&decide (o.mP i<=xN o.d i)
def lf(d:Nat):List Nat:=(List.range 4).filter (iU (d:Int))
theorem xX: ∀d,d<16->1<=d->qb d=(lf d).map (fun i=>(gU i).toNat.toUInt8):=by decide
theorem RD{d i j:Nat}(h:(lf d)[j]?=some i):i<4:=by have:=dd h;unfold lf at this;exact List.mem_range.1 (List.mem_filter.1 this).1
theorem D6(o:aH){dn:Nat}(hd:o.d=(dn:Int)):cA o=(lf dn).all (TH o):=by
 unfold cA lf;rw[List.all_filter];congr 1
 funext i
 rw[hd];unfold TH;rw[hd]
theorem KP(W:World)(s:ByteArray)(dn j i:Nat)(hs:s.data.toList=(lf dn).map (fun i=>(gU i).toNat.toUInt8))(hi:(lf dn)[j]?=some i)(ty:TypeId):
  (Instr.next (.pointer (some ⟨W.heap.size,0,none⟩)) true ty).run Tryz.prog (W.iter s j)=.ok (.tuple #[.bool true,.int .i64 (j:Int),.int .i32 (gU i)]) (W.iter s (j+1)):=by
 have hj:s.data.toList[j]?=some (gU i).toNat.toUInt8:=by rw[hs];simp[hi]
 have hjl:j<s.size:=by have:=(b8.1 hj).1;simpa using this
 have hv:(s[j]'hjl)=(gU i).toNat.toUInt8:=by have h2:=(b8.1 hj).2;rw[<-h2];rfl
 have zn:=Ga i;have hn:(s[j]'hjl).toNat=(gU i).toNat:=by rw[hv];simp;omega
 have:=run_next_ascii (P:=Tryz.prog) W s j ty hjl (by rw[hn];omega);rw[this,hn];have e:(((gU i).toNat:Nat):Int)=gU i:=by omega
 rw[e]
theorem Ir(w:World)(hs:je w)(dn:Nat)(hd1:1<=dn)(Ip:dn<16)(A B C N:Int):
  Calls Tryz.prog 84 #[.agg #[.int .i64 (dn:Int),.int .i64 A,.int .i64 B,.int .i64 C,.int .i64 N]] w fun e w'=>e=.returned (.bool (cA ⟨(dn:Int),A,B,C,N⟩))/\Below w.heap.size w w':=by
 have Dw:=D6 ⟨(dn:Int),A,B,C,N⟩ (dn:=dn) rfl;have hst:=wJ.start w hs dn Ip A B C N;have hBl:Below w.heap.size w ((w.alloc (.cells #[.int .i64 (dn:Int),.int .i64 A,.int .i64 B,.int .i64 C,.int .i64 N] 104)).alloc (.cells #[.pointer (some ⟨w.heap.size,0,none⟩)] 237)):=((aw _ _).alloc (aq _) _).alloc (by simp) _;have TI:(⟨(qb dn).toArray⟩:ByteArray).data.toList=(lf dn).map (fun i=>(gU i).toNat.toUInt8):=by rw[<-xX dn Ip hd1]
 have HH:=al (ab Dw TI);have hdi:(0:Int)<=(dn:Int):=by omega
 have Yu:(dn:Int)<16:=by omega
 clear Dw hs TI;go_enter Tryz.func84,Tryz.ntmps84;go_wp2_with fail;refine(xW _ w.heap.size).mono ?_;rintro e w1 ⟨rfl,hw1⟩;have hsz:(w.alloc (.cells #[.int .i64 (dn:Int),.int .i64 A,.int .i64 B,.int .i64 C,.int .i64 N] 104)).heap.size=w.heap.size+1:=by simp
 rw[hsz];generalize ((w.alloc (.cells #[.int .i64 (dn:Int),.int .i64 A,.int .i64 B,.int .i64 C,.int .i64 N] 104)).alloc (.cells #[.pointer (some ⟨w.heap.size,0,none⟩)] 237))=W at hst hBl hw1;subst hw1;have HS:=al (ab hst hBl);obtain⟨c0,cB,cT,_⟩:=hst;clear hBl hsz;obtain⟨b,hb⟩: ∃b,w.heap.size=b:=⟨_,rfl⟩;have HB:=al hb;have TG:=al (show b<=w1.heap.size by have:=HS.out.2.size;omega);rw[hb]at HS c0 cB;rw[hb];clear hb;go_wp2_with fail;clear c0 cB cT;obtain⟨s,Yw⟩: ∃s:ByteArray,(⟨(qb dn).toArray⟩:ByteArray)=s:=⟨_,rfl⟩;have HHS:=al (show s.data.toList=(lf dn).map (fun i=>(gU i).toNat.toUInt8) by rw[<-Yw,<-xX dn Ip hd1]);rw[Yw];clear Yw
 go_loopw [5] (fun _ wr=> ∃j:Nat,j<=(lf dn).length/\wr=w1.iter s j/\((lf dn).take j).all (TH ⟨(dn:Int),A,B,C,N⟩)=true) (fun _ wr=>(lf dn).length-wr.iterPos w1.heap.size)
 case atStart=>exact⟨0,dj _,rfl,rfl⟩
 case round=>
  obtain⟨j,hj,rfl,hal⟩:=hrel;by_cases hlt:j<(lf dn).length
  ·obtain⟨i,hi⟩: ∃i,(lf dn)[j]?=some i:=⟨_,ao hlt⟩;have hi4:=RD hi;have hnx:=KP w1 s dn j i HHS.out hi;obtain⟨c0,cB,cT,cf⟩:=HS.out.1.iter s (j+1);have Yv:=cf i hi4;have hin:TH ⟨(dn:Int),A,B,C,N⟩ i=(decide (AA (dn:Int) i<=(⟨(dn:Int),A,B,C,N⟩:aH).mP i)&&decide ((⟨(dn:Int),A,B,C,N⟩:aH).mP i<=xN (dn:Int) i)):=rfl;have hsp:=OB (w1.iter s (j+1)) (dn:Int) i hi4;obtain⟨z,hz⟩: ∃z,(⟨(dn:Int),A,B,C,N⟩:aH).mP i=z:=⟨_,rfl⟩;obtain⟨lo,hlo⟩: ∃z,AA (dn:Int) i=z:=⟨_,rfl⟩;obtain⟨hi',hhi⟩: ∃z,xN (dn:Int) i=z:=⟨_,rfl⟩;rw[hz,hlo,hhi]at hin;rw[hz]at Yv;rw[hlo,hhi]at hsp;have HSP:=al hsp;have Xx:=al (KN (w1.iter s (j+1)) (b+1) b i hi4 cB);have HI:=al (ab hal (ab hin hi));clear hal hin hi hsp hz hlo hhi cf hj;go_wp2_with fail;refine HSP.out.mono ?_;rintro e w2 ⟨rfl,rfl⟩;go_wp2_with fail;refine Xx.out.mono ?_;rintro e w3 ⟨rfl,rfl⟩;by_cases hlo:z<lo
   ·have HL:=al hlo;go_wp2_with fail;go_ret
    refine⟨?_,?_⟩
    ·rw[HH.out.1]
     have:(lf dn).all (TH ⟨(dn:Int),A,B,C,N⟩)=false:=by rw[Bool.eq_false_iff];intro hh;rw[List.all_eq_true]at hh;have h1:=hh i (dd HI.out.2.2);rw[HI.out.2.1,mT,decide_eq_true_iff,decide_eq_true_iff]at h1;have:=HL.out;omega
     rw[this];rfl
    ·rw[HB.out];exact HS.out.2.alloc TG.out _
   ·go_wp2_with fail;refine Xx.out.mono ?_;rintro e w4 ⟨rfl,rfl⟩;by_cases Gc:hi'<z
    ·have HL:=al Gc;go_wp2_with fail;go_ret
     refine⟨?_,?_⟩
     ·rw[HH.out.1]
      have:(lf dn).all (TH ⟨(dn:Int),A,B,C,N⟩)=false:=by rw[Bool.eq_false_iff];intro hh;rw[List.all_eq_true]at hh;have h1:=hh i (dd HI.out.2.2);rw[HI.out.2.1,mT,decide_eq_true_iff,decide_eq_true_iff]at h1;have:=HL.out;omega
      rw[this];rfl
     ·rw[HB.out];exact HS.out.2.alloc TG.out _
    ·have HL:=al (ab hlo Gc);go_wp2_with fail;go_roundw
     case rel=>refine⟨j+1,by omega,rfl,?_⟩;rw[kt,HI.out.2.2,List.all_append,HI.out.1];have h3:=HL.out;simp[HI.out.2.1];omega
     case measure=>simp;omega
  ·obtain rfl:j=(lf dn).length:=by omega
   have HA:=al hal
   have hnl: ¬(lf dn).length<s.size:=by have:=eL List.length HHS.out;simp at this;have h2:s.data.size=s.size:=rfl;omega
   clear hal hlt hj;have hnx: ∀ty,(Instr.next (.pointer (some ⟨w1.heap.size,0,none⟩)) true ty).run Tryz.prog (w1.iter s (lf dn).length)=.ok (.tuple #[.bool false]) (w1.iter s (lf dn).length):=fun ty=>run_next_end w1 s (lf dn).length ty hnl;clear hnl;go_wp2_with fail;go_ret
   refine⟨?_,?_⟩
   ·have:=HA.out;rw[ie]at this;rw[HH.out.1,this];rfl
   ·rw[HB.out];exact HS.out.2.alloc TG.out _
theorem Iu(w:World)(hs:je w)(o:aH)(ho:1<=o.d/\o.d<=15):Calls Tryz.prog 84 #[o.val] w fun e w'=>e=.returned (.bool (cA o))/\Below w.heap.size w w':=by obtain⟨D,A,B,C,N⟩:=o;unfold aH.val;simp only at ho;obtain⟨dn,rfl⟩: ∃dn:Nat,D=(dn:Int):=⟨D.toNat,by omega⟩;exact Ir w hs dn (by omega) (by omega) A B C N
theorem BX(w:World)(o:aH):Calls Tryz.prog 128 #[o.val] w fun e w'=>e=.returned (.bool o.holds)/\Below w.heap.size w w':=by
 obtain⟨D,A,B,C,N⟩:=o;unfold aH.val aH.holds;by_cases h:D=13
 ·subst h;go_enter Tryz.func128,Tryz.ntmps128;go_wp2_with fail;go_ret
  exact⟨rfl,(aw _ _).alloc (aq _) _⟩
 ·have e:(D==13)=false:=by simpa using h
  clear h;go_enter Tryz.func128,Tryz.ntmps128;go_wp2_with fail;go_ret
  refine⟨?_,(aw _ _).alloc (aq _) _⟩;rw[e];rfl
theorem Tryz.KQ:(Tryz.prog.info? 3).map (fun i=>(i.zero,i.size,i.bytes))=some (some (.int .i64 0),1,8):=by kernel_rfl
def sliceLen:Value->Nat
 | .slice _ n _=>n
 |_=>0
def mL(w:World)(v:Value)(es:List Int)(wr:World):Prop:=
 ∃A c,v=.slice A es.length c/\wr.ownsRow w.heap.size 3 1 v es.length (es.map (Value.int .i64))/\Below w.heap.size w wr
theorem mL.nil(w:World):mL w (.slice none 0 0) [] w:=⟨none,0,rfl,ee _ _ _ _,aw _ _⟩
theorem mL.below{w wr w':World}{v:Value}{es:List Int}(h:mL w v es wr)(hb:Below wr.heap.size wr w'):mL w v es w':=
 let⟨A,c,e,h1,h2⟩:=h;⟨A,c,e,aX h1 hb,h2.trans (hb.mono h2.size)⟩
theorem D7{w:World}{base:Nat}{e:TypeId}{A:Option Addr}{n c:Nat}{xs:List Value}{x:Value}(h:w.ownsRow base e 1 (.slice A (n+1) c) (n+1) (xs++[x]))(hl:xs.length=n):w.ownsRow base e 1 (.slice A n c) n xs:=by
 rcases h.2 with⟨h1,h2⟩|⟨g,cap,cur,hv,hg,hb,hn,hc,hs,ht⟩
 ·injection h1 with _ h1 _;omega
 ·injection hv with e1 e2 e3;subst e1 e3;refine⟨by simpa using hl,.inr ⟨g,c,cur,rfl,hg,hb,by omega,hc,hs,?_⟩⟩;have h3:(cur.toList.take ((n+1)*1)).take (n*1)=(xs++[x]).take (n*1):=by rw[ht]
  rw[List.take_take,nf (by omega)]at h3;rw[h3,List.take_append_of_le_length (by omega),gC (by omega)]
theorem mL.pop{w wr:World}{A:Option Addr}{n c:Nat}{es:List Int}{x:Int}(h:mL w (.slice A n c) (es++[x]) wr):mL w (.slice A es.length c) es wr:=by obtain⟨A',c',hv,h1,h2⟩:=h;injection hv with e1 e2 e3;subst e1 e2 e3;rw[gk,im]at h1;exact⟨A,c,rfl,D7 h1 (by simp),h2⟩
theorem mL.top{w wr:World}{A:Option Addr}{n c:Nat}{es:List Int}{x:Int}(h:mL w (.slice A n c) (es++[x]) wr): ∃g,A=some ⟨g,0,none⟩/\wr.cell? ⟨g,es.length,none⟩=some (.int .i64 x)/\g<wr.heap.size/\es.length+1<=c:=by
 obtain⟨A',c',hv,h1,h2⟩:=h;injection hv with e1 e2 e3;subst e1 e2 e3;obtain⟨g,cap,hv,hg0,hgl⟩:=h1.form (by simp)
 have hcap:es.length+1<=c:=by
  rcases h1.2 with⟨_,h0⟩|⟨_,_,_,hv2,_,_,hn,_⟩
  ·simp at h0
  ·injection hv2 with _ _ e3;subst e3;simpa using hn
 injection hv with e1 e2 e3;subst e1;refine⟨g,rfl,?_,hgl,hcap⟩;have:=h1.cellAt es.length (by simp);rw[this];simp
theorem gP.at_{w:World}{F:Nat->Prop}{A:Option Addr}{n c:Nat}{l:List aH}(h:gP w F (.slice A n c) l){k:Nat}{x:aH}(hk:l[k]?=some x):
  ∃b o,A=some ⟨b,o,none⟩/\F b/\w.cell? ⟨b,o+k*5,none⟩=some (.int .i64 x.d)/\w.cell? ⟨b,o+k*5+1,none⟩=some (.int .i64 x.a)/\w.cell? ⟨b,o+k*5+2,none⟩=some (.int .i64 x.b)/\
   w.cell? ⟨b,o+k*5+3,none⟩=some (.int .i64 x.c)/\w.cell? ⟨b,o+k*5+4,none⟩=some (.int .i64 x.n):=by
 obtain⟨A',n',c',hv,hl,_,_,hx⟩:=h;injection hv with h1 h2 h3;subst h1 h2 h3;have hlt:=(b8.1 hk).1;obtain⟨b,o,rfl,hF,hc⟩:=hx (by simp at hl;omega);have hx':(l.map aH.cells)[k]?=some x.cells:=by simp[hk]
 exact⟨b,o,rfl,hF,hc k _ hx' 0 _ rfl,hc k _ hx' 1 _ rfl,hc k _ hx' 2 _ rfl,hc k _ hx' 3 _ rfl,hc k _ hx' 4 _ rfl⟩
theorem gP.slice{w:World}{F:Nat->Prop}{v:Value}{l:List aH}(h:gP w F v l): ∃A c,v=.slice A l.length c/\l.length<=c/\c<=maxLen:=by obtain⟨A',n',c',hv,hl,h1,h2,_⟩:=h;simp at hl;exact⟨A',c',by rw[hl];exact hv,by omega,h2⟩
def UJ(w:World)(l:List aH)(k:Nat)(v:Value)(wr:World):Prop:=
 ∃es,mL w v es wr/\es.Pairwise (fun a b=>a≥b)/\es.filter (fun e=>decide ((k:Int)<e))=opens l k/\cV l k=true/\es.length<=k
theorem Iw(w:World)(F:Nat->Prop)(v:Value)(l:List aH)(h:gP w F v l)(hl:l.length<=64)(hn: ∀o∈l,o.holds=true->0<=o.n/\o.n<=64):
  Calls Tryz.prog 85 #[v] w fun e w'=>e=.returned (.bool (gz l))/\Below w.heap.size w w':=by
 obtain⟨i0,hi,hz0,hz1,hz2⟩:=eC Tryz.KQ;obtain⟨A,c,rfl,_⟩:=h.slice;have H:=al (ab h (ab hn hi));clear h hn hi;go_enter Tryz.func85,Tryz.ntmps85;go_wp2_with fail
 go_loopw [3,10] (fun v i wr=> ∃k:Nat,k<=l.length/\i=.int .i64 (k:Int)/\UJ w l k v wr) (fun _ i _=>l.length-(intOf i).toNat)
 case atStart=>exact⟨0,dj _,rfl,[],mL.nil w,eh,rfl,rfl,aq _⟩
 case round=>
  obtain⟨k,hk,rfl,es0,hst,hpw,hfl,hnt,hle0⟩:=hrel;by_cases hlt:k<l.length
  ·obtain⟨x,hx⟩: ∃x,l[k]?=some x:=⟨_,ao hlt⟩;obtain⟨b,o,rfl,qL,c0,c1,c2,c3,c4⟩:=H.out.1.at_ hx;have hbl:Below w.heap.size w wr:=let⟨_,_,_,_,hb⟩:=hst;hb
   have dP:=aE _ _ c0;have d0:=(hbl.cell (p:=⟨b,o+k*5,none⟩) dP).trans c0;have d1:=(hbl.cell (p:=⟨b,o+k*5+1,none⟩) dP).trans c1;have d2:=(hbl.cell (p:=⟨b,o+k*5+2,none⟩) dP).trans c2;have d3:=(hbl.cell (p:=⟨b,o+k*5+3,none⟩) dP).trans c3;have d4:=(hbl.cell (p:=⟨b,o+k*5+4,none⟩) dP).trans c4;obtain⟨D,A',B',C',N'⟩:=x;simp only at d0 d1 d2 d3 d4;have UK:=hst.below (((aw _ _).alloc (aq _) (.cells #[.int .i64 D,.int .i64 A',.int .i64 B',.int .i64 C',.int .i64 N'] 104)));have HX:=al (ab hx (ab hpw (ab hfl (ab hnt UK))));obtain⟨A0,c0',rfl,_,_⟩:=hst;clear hx hpw hfl hnt UK hbl c0 c1 c2 c3 c4 qL;go_upto_region 5 with fail;have q0:(wr.alloc (.cells #[.int .i64 D,.int .i64 A',.int .i64 B',.int .i64 C',.int .i64 N'] 104)).cell? ⟨wr.heap.size,0,none⟩=some (.int .i64 D):=by simp
   have q1:(wr.alloc (.cells #[.int .i64 D,.int .i64 A',.int .i64 B',.int .i64 C',.int .i64 N'] 104)).cell? ⟨wr.heap.size,1,none⟩=some (.int .i64 A'):=by simp
   have q2:(wr.alloc (.cells #[.int .i64 D,.int .i64 A',.int .i64 B',.int .i64 C',.int .i64 N'] 104)).cell? ⟨wr.heap.size,2,none⟩=some (.int .i64 B'):=by simp
   have q3:(wr.alloc (.cells #[.int .i64 D,.int .i64 A',.int .i64 B',.int .i64 C',.int .i64 N'] 104)).cell? ⟨wr.heap.size,3,none⟩=some (.int .i64 C'):=by simp
   have q4:(wr.alloc (.cells #[.int .i64 D,.int .i64 A',.int .i64 B',.int .i64 C',.int .i64 N'] 104)).cell? ⟨wr.heap.size,4,none⟩=some (.int .i64 N'):=by simp
   generalize wr.alloc (.cells #[.int .i64 D,.int .i64 A',.int .i64 B',.int .i64 C',.int .i64 N'] 104)=W4 at HX q0 q1 q2 q3 q4⊢;obtain⟨B4,hB4⟩: ∃B,wr.heap.size=B:=⟨_,rfl⟩;rw[hB4]at q0 q1 q2 q3 q4⊢;clear hB4 d0 d1 d2 d3 d4 dP
   go_loop [3] (fun v=> ∃es,mL w v es W4/\es.Pairwise (fun a b=>a≥b)/\es.filter (fun e=>decide ((k:Int)<e))=opens l k/\es.length<=k) (fun v=>sliceLen v)
   case atStart=>exact⟨es0,HX.out.2.2.2.2,HX.out.2.1,HX.out.2.2.1,hle0⟩
   case round=>
    obtain⟨es,hst,hpw,hfl,hle⟩:=hrel;obtain⟨A5,c5,rfl,how,hbl⟩:=hst;have hst:mL w (.slice A5 es.length c5) es W4:=⟨A5,c5,rfl,how,hbl⟩;clear how hbl;rcases List.eq_nil_or_concat es with rfl|⟨es',z,hes⟩
    ·obtain⟨es,hes⟩: ∃es:List Int,es=[]:=⟨[],rfl⟩;have OC:=al hes;have HLEN:=al (show es.length=0 by rw[hes];rfl);have hle0:es.length<=0:=by rw[hes];exact aq _
     have HO:=al (show mL w (.slice A5 0 c5) es W4/\es.Pairwise (fun a b=>a≥b)/\es=opens l k/\es.length<=k by rw[hes];exact⟨hst,hpw,hfl,dj _⟩);clear hst hpw hfl hes;by_cases h8:es.length<=8
     ·have UL: ¬((8:Int)<(0:Int)):=by omega
      go_wp2_with fail;refine(BX W4 ⟨D,A',B',C',N'⟩).mono ?_;rintro e5 w5 ⟨rfl,gq⟩;have q4':=(gq.cell (p:=⟨B4,4,none⟩) (aE _ _ q4)).trans q4;have D8:=al (ab (HO.out.1.below gq) gq);clear gq
      cases hh:(⟨D,A',B',C',N'⟩:aH).holds with
      |false=>
       have HH:=al hh;clear hh;go_wp2_with fail;go_roundw
       case rel=>
        have hpl:dE l k ⟨D,A',B',C',N'⟩=true:=by unfold dE;rw[<-HO.out.2.2.1,HH.out,decide_eq_true h8];rfl
        exact⟨k+1,by omega,by go_num,es,D8.out.1,HO.out.2.1,by rw[HO.out.2.2.1];exact BL HX.out.1 HH.out,by rw[bH HX.out.1,HX.out.2.2.2.1,hpl];rfl,by omega⟩
       case measure=>simp[intOf];omega
      |true=>
       have hnb:=H.out.2.1 _ (dd HX.out.1) hh;simp only at hnb;have Yx:=hnb.1;have Yy:=hnb.2;have HH:=al hh;clear hh hnb;have hlo:=al (show jJ l.length (opens l k)=(l.length:Int) by rw[<-HO.out.2.2.1,OC.out];rfl);have hmx:=al (show ∀e∈es,(k:Int)+1+N'<=e by intro e he;rw[OC.out]at he;simp at he);by_cases hend:(l.length:Int)<(k:Int)+1+N'
       ·have HE:=al hend;go_wp2_with fail;go_ret
        refine⟨?_,let⟨_,_,_,_,hb⟩:=D8.out.1;hb⟩
        have hpl:dE l k ⟨D,A',B',C',N'⟩=false:=by
         unfold dE;rw[hlo.out,HH.out];have: ¬cj k ⟨D,A',B',C',N'⟩<=(l.length:Int):=by have:=HE.out;unfold cj;simp only;omega
         rw[decide_eq_false this];simp
        have:gz l=false:=by rw[Bool.eq_false_iff];intro hh;have h1:=dO hh (show k+1<=l.length by omega);rw[bH HX.out.1,hpl]at h1;simp at h1
        rw[this];rfl
       ·have HE:=al hend;have KS:=D8.out.1;obtain⟨Ax,cx,Ua,OD,cK⟩:=KS;rw[HLEN.out]at OD;have hnews:=ef (an w5 (.cells #[.int .i64 ((k:Int)+1+N')] 3));have Ra:=cK.size;have HA:=al (ab (OD.alloc (.cells #[.int .i64 ((k:Int)+1+N')] 3)) (ab hnews (ab cK (ab OD H.out.2.2))));clear Ua OD cK hnews;go_wp2_with (at_builtin;go_loud (refine ew _ rfl _ _ 51 rfl w.heap.size 3 i0 _ 1 8 Tryz.underlying51 HA.out.2.2.2.2 hz0 hz1 hz2 rfl (by decide) _ (0) _ rfl HA.out.1 ⟨w5.heap.size,0,none⟩ 1 1 [.int .i64 ((k:Int)+1+N')] rfl rfl HA.out.2.1 (by simp[Value.oneCell']) (by decide) (by unfold maxLen;omega) (by omega) (by simp;omega) _ rfl ?_));intro g6 RF w6 kI Nz um RG;have HG:=al (ab kI Nz);clear kI Nz um RG;go_wp2_with fail;go_roundw
        case rel=>
         have hpl:dE l k ⟨D,A',B',C',N'⟩=true:=by
          unfold dE;rw[hlo.out,<-HO.out.2.2.1,HH.out,decide_eq_true h8];have:cj k ⟨D,A',B',C',N'⟩<=(l.length:Int):=by have:=HE.out;unfold cj;simp only;omega
          rw[decide_eq_true this];rfl
         have hmx: ∀e∈es,(k:Int)+1+N'<=e:=hmx.out;refine⟨k+1,by omega,by go_num,es++[(k:Int)+1+N'],⟨some ⟨g6,0,none⟩,RF,by rw[OC.out];rfl,?_,?_⟩,tY HO.out.2.1 hmx,?_,by rw[bH HX.out.1,HX.out.2.2.2.1,hpl];rfl,by simp;omega⟩
         ·have h9:=HG.out.1;rw[OC.out]at h9⊢;simpa using h9
         ·exact(HA.out.2.2.1.alloc Ra _).grown HG.out.2 (by simp;omega) (fun j hj=>(HA.out.2.2.2.1.lt j hj).1)
         ·rw[HO.out.2.2.1];exact xP HX.out.1 HH.out
        case measure=>simp[intOf];omega
     ·have UL:(8:Int)<(0:Int):=by omega
      go_wp2_with fail;go_ret
      refine⟨?_,let⟨_,_,_,_,hb⟩:=HO.out.1;hb⟩
      have hpl:dE l k ⟨D,A',B',C',N'⟩=false:=by unfold dE;rw[<-HO.out.2.2.1,decide_eq_false h8];rfl
      have:gz l=false:=by rw[Bool.eq_false_iff];intro hh;have h1:=dO hh (show k+1<=l.length by omega);rw[bH HX.out.1,hpl]at h1;simp at h1
      rw[this];rfl
    ·rw[List.concat_eq_append]at hes;obtain⟨g,hA5,hcz,hgl,hcap⟩:=(show mL w (.slice A5 es.length c5) (es'++[z]) W4 by rw[<-hes];exact hst).top;have hlen:es.length=es'.length+1:=by rw[hes];simp
     subst hA5;by_cases hzk:z<=(k:Int)
     ·have HO:=al (ab hst (ab hpw (ab hfl hes)));clear hst hpw hfl hes;rw[hlen];go_wp2_with fail
      go_round
      case rel=>
       have Yz:mL w (.slice (some ⟨g,0,none⟩) (es'.length+1) c5) (es'++[z]) W4:=by rw[<-hlen,<-HO.out.2.2.2];exact HO.out.1
       have YA:(es'++[z]).Pairwise (fun a b=>a≥b):=by rw[<-HO.out.2.2.2];exact HO.out.2.1
       refine⟨es',Yz.pop,(List.pairwise_append.1 YA).1,?_,by omega⟩;have h1:=HO.out.2.2.1;rw[HO.out.2.2.2,mw,List.filter_cons,ff (by simp;omega),List.filter_nil,gd]at h1;exact h1
      case measure=>simp[sliceLen]
     ·have OC:=al hes;have hall:es.filter (fun e=>decide ((k:Int)<e))=es:=Ia hpw (fun e he=>by rw[hes]at he;simp at he;omega);rw[hall]at hfl;have HLEN:=al hlen;have HO:=al (show mL w (.slice (some ⟨g,0,none⟩) (es'.length+1) c5) es W4/\es.Pairwise (fun a b=>a≥b)/\es=opens l k/\es.length<=k by rw[<-hlen];exact⟨hst,hpw,hfl,hle⟩);have xz:es.length<=es'.length+1:=by omega
      have hl2:es'.length+1<=es.length:=by omega
      rw[hlen];clear hst hpw hfl hes hall hlen;by_cases h8:es.length<=8
      ·have UL: ¬((8:Int)<((es'.length:Int)+1)):=by omega
       go_wp2_with fail;refine(BX W4 ⟨D,A',B',C',N'⟩).mono ?_;rintro e5 w5 ⟨rfl,gq⟩;have q4':=(gq.cell (p:=⟨B4,4,none⟩) (aE _ _ q4)).trans q4;have aau:=(gq.cell (p:=⟨g,es'.length,none⟩) hgl).trans hcz;have D8:=al (ab (HO.out.1.below gq) gq);clear gq
       cases hh:(⟨D,A',B',C',N'⟩:aH).holds with
       |false=>
        have HH:=al hh;clear hh;go_wp2_with fail;go_roundw
        case rel=>
         have hpl:dE l k ⟨D,A',B',C',N'⟩=true:=by unfold dE;rw[<-HO.out.2.2.1,HH.out,decide_eq_true h8];rfl
         exact⟨k+1,by omega,by go_num,es,D8.out.1,HO.out.2.1,by rw[HO.out.2.2.1];exact BL HX.out.1 HH.out,by rw[bH HX.out.1,HX.out.2.2.2.1,hpl];rfl,by omega⟩
        case measure=>simp[intOf];omega
       |true=>
        have hnb:=H.out.2.1 _ (dd HX.out.1) hh;simp only at hnb;have Yx:=hnb.1;have Yy:=hnb.2;have HH:=al hh;clear hh hnb;have hlo:=al (show jJ l.length (opens l k)=z by rw[<-HO.out.2.2.1,OC.out];simp[jJ]);by_cases hend:z<(k:Int)+1+N'
        ·have HE:=al hend;go_wp2_with fail;go_ret
         refine⟨?_,let⟨_,_,_,_,hb⟩:=D8.out.1;hb⟩
         have hpl:dE l k ⟨D,A',B',C',N'⟩=false:=by
          unfold dE;rw[hlo.out,HH.out];have: ¬cj k ⟨D,A',B',C',N'⟩<=z:=by have:=HE.out;unfold cj;simp only;omega
          rw[decide_eq_false this];simp
         have:gz l=false:=by rw[Bool.eq_false_iff];intro hh;have h1:=dO hh (show k+1<=l.length by omega);rw[bH HX.out.1,hpl]at h1;simp at h1
         rw[this];rfl
        ·have HE:=al hend;have KS:=D8.out.1;obtain⟨Ax,cx,Ua,OD,cK⟩:=KS;rw[HLEN.out]at OD;have hnews:=ef (an w5 (.cells #[.int .i64 ((k:Int)+1+N')] 3));have Ra:=cK.size;have HA:=al (ab (OD.alloc (.cells #[.int .i64 ((k:Int)+1+N')] 3)) (ab hnews (ab cK (ab OD H.out.2.2))));clear Ua OD cK hnews;go_wp2_with (at_builtin;go_loud (refine ew _ rfl _ _ 51 rfl w.heap.size 3 i0 _ 1 8 Tryz.underlying51 HA.out.2.2.2.2 hz0 hz1 hz2 rfl (by decide) _ (es'.length+1) _ rfl HA.out.1 ⟨w5.heap.size,0,none⟩ 1 1 [.int .i64 ((k:Int)+1+N')] rfl rfl HA.out.2.1 (by simp[Value.oneCell']) (by decide) (by unfold maxLen;omega) (by omega) (by simp;omega) _ rfl ?_));intro g6 RF w6 kI Nz um RG;have HG:=al (ab kI Nz);clear kI Nz um RG;go_wp2_with fail;go_roundw
         case rel=>
          have hpl:dE l k ⟨D,A',B',C',N'⟩=true:=by
           unfold dE;rw[hlo.out,<-HO.out.2.2.1,HH.out,decide_eq_true h8];have:cj k ⟨D,A',B',C',N'⟩<=z:=by have:=HE.out;unfold cj;simp only;omega
           rw[decide_eq_true this];rfl
          have hmx: ∀e∈es,(k:Int)+1+N'<=e:=(by rw[OC.out];exact DK (by rw[<-OC.out];exact HO.out.2.1) (by have:=HE.out;omega));refine⟨k+1,by omega,by go_num,es++[(k:Int)+1+N'],⟨some ⟨g6,0,none⟩,RF,by rw[OC.out];simp,?_,?_⟩,tY HO.out.2.1 hmx,?_,by rw[bH HX.out.1,HX.out.2.2.2.1,hpl];rfl,by simp;omega⟩
          ·have h9:=HG.out.1;rw[show(es++[(k:Int)+1+N']).length=es'.length+1+1 by simp[HLEN.out]];simpa using h9
          ·exact(HA.out.2.2.1.alloc Ra _).grown HG.out.2 (by simp;omega) (fun j hj=>(HA.out.2.2.2.1.lt j hj).1)
          ·rw[HO.out.2.2.1];exact xP HX.out.1 HH.out
         case measure=>simp[intOf];omega
      ·have UL:(8:Int)<((es'.length:Int)+1):=by omega
       go_wp2_with fail;go_ret
       refine⟨?_,let⟨_,_,_,_,hb⟩:=HO.out.1;hb⟩
       have hpl:dE l k ⟨D,A',B',C',N'⟩=false:=by unfold dE;rw[<-HO.out.2.2.1,decide_eq_false h8];rfl
       have:gz l=false:=by rw[Bool.eq_false_iff];intro hh;have h1:=dO hh (show k+1<=l.length by omega);rw[bH HX.out.1,hpl]at h1;simp at h1
       rw[this];rfl
  ·obtain rfl:k=l.length:=by omega
   have HX:=al (ab hst hnt);obtain⟨A0,c0',rfl,_,_⟩:=hst;clear hnt hpw hfl;go_wp2_with fail;go_ret
   exact⟨by rw[show gz l=true from HX.out.2];rfl,let⟨_,_,_,_,hb⟩:=HX.out.1;hb⟩
theorem l9{o:aH}(h:cA o=true)(hh:o.holds=true):0<=o.n/\o.n<=64:=by
 unfold cA at h;rw[List.all_eq_true]at h;have h3:=h 3 (List.mem_range.2 (by decide));unfold aH.holds at hh;rw[Bool.or_eq_true,beq_iff_eq,beq_iff_eq]at hh;rcases hh with hh|hh
 ·simp[hh,iU,AA,xN,aH.mP]at h3;omega
 ·simp[hh,iU,AA,xN,aH.mP]at h3;omega
theorem xY{o:aH}(h:bD o=true):1<=o.d/\o.d<=15:=by unfold bD at h;rw[mT]at h;exact of_decide_eq_true h.1
theorem kJ{l:List aH}{p:aH->Bool}{k:Nat}{x:aH}(hx:l[k]?=some x)(hp:p x=false):l.all p=false:=by rw[Bool.eq_false_iff];intro h;rw[List.all_eq_true]at h;rw[h x (List.mem_of_getElem? hx)]at hp;cases hp
def Gd(w:World)(l:List aH)(p:aH->Bool)(k:Nat)(wr:World):Prop:=(l.take k).all p=true/\Below w.heap.size w wr
theorem nY{l:List aH}{p:aH->Bool}{k:Nat}{x:aH}(h:(l.take k).all p=true)(hx:l[k]?=some x)(hp:p x=true):(l.take (k+1)).all p=true:=by rw[kt,hx,List.all_append,h];simp[hp]
theorem xZ(w:World)(F:Nat->Prop)(v:Value)(l:List aH)(h:gP w F v l)(hs:je w):
  Calls Tryz.prog 50 #[v] w fun e w'=>e=.returned (.int .i64 (opsE l))/\Below w.heap.size w w':=by
 obtain⟨A,c,rfl,hlc,hcm⟩:=h.slice;unfold maxLen at hcm;by_cases h64:64<l.length
 ·have HE:=al (show opsE l=23 by unfold opsE;rw[fi h64]);have RH:(64:Int)<(l.length:Int):=by omega
  clear h hs;go_enter Tryz.func50,Tryz.ntmps50;go_wp2_with fail;go_ret
  exact⟨by rw[HE.out];rfl,aw _ _⟩
 have hE:opsE l=if l.all bD=false then 11 else if l.all cA=false then 10 else if gz l=false then 11 else 0:=by unfold opsE;rw[ff h64]
 have RH: ¬((64:Int)<(l.length:Int)):=by omega
 have H:=al (ab h (ab hs hE));clear h hs hE;go_enter Tryz.func50,Tryz.ntmps50;go_wp2_with fail
 go_loopw [12] (fun i wr=> ∃k:Nat,k<=l.length/\i=.int .i64 (k:Int)/\Gd w l bD k wr) (fun i _=>l.length-(intOf i).toNat)
 case atStart=>exact⟨0,dj _,rfl,rfl,aw _ _⟩
 case round=>
  obtain⟨k,hk,rfl,hal,hbl⟩:=hrel;by_cases hlt:k<l.length
  ·obtain⟨x,hx⟩: ∃x,l[k]?=some x:=⟨_,ao hlt⟩;obtain⟨b,o,rfl,qL,c0,c1,c2,c3,c4⟩:=H.out.1.at_ hx;have dP:=aE _ _ c0;have d0:=(hbl.cell (p:=⟨b,o+k*5,none⟩) dP).trans c0;have d1:=(hbl.cell (p:=⟨b,o+k*5+1,none⟩) dP).trans c1;have d2:=(hbl.cell (p:=⟨b,o+k*5+2,none⟩) dP).trans c2;have d3:=(hbl.cell (p:=⟨b,o+k*5+3,none⟩) dP).trans c3;have d4:=(hbl.cell (p:=⟨b,o+k*5+4,none⟩) dP).trans c4;obtain⟨D,A',B',C',N'⟩:=x;simp only at d0 d1 d2 d3 d4;have hb4:=hbl.alloc hbl.size (.cells #[.int .i64 D,.int .i64 A',.int .i64 B',.int .i64 C',.int .i64 N'] 104);have HF:=al (Iq _ (H.out.2.1.below hb4) ⟨D,A',B',C',N'⟩);have HX:=al (ab hx (ab hal hb4));clear hx hal hbl c0 c1 c2 c3 c4 qL dP hb4;go_wp2_with fail;refine HF.out.mono ?_;rintro e w5 ⟨rfl,gq⟩;have rV:=al (HX.out.2.2.trans (gq.mono HX.out.2.2.size));clear gq HF
   cases hf:bD ⟨D,A',B',C',N'⟩with
   |true=>
    have HV:=al hf;clear hf;go_wp2_with fail;go_roundw
    case rel=>exact⟨k+1,by omega,by go_num,nY HX.out.2.1 HX.out.1 HV.out,rV.out⟩
    case measure=>simp[intOf];omega
   |false=>
    have HV:=al hf;clear hf;go_wp2_with fail;go_ret
    exact⟨by rw[H.out.2.2,fi (kJ HX.out.1 HV.out)];rfl,rV.out⟩
  ·obtain rfl:k=l.length:=by omega
   rw[ie]at hal;have HA:=al (ab hal hbl);clear hal hbl;go_wp2_with fail
   go_loopw [22] (fun i wr=> ∃k:Nat,k<=l.length/\i=.int .i64 (k:Int)/\Gd w l cA k wr) (fun i _=>l.length-(intOf i).toNat)
   case atStart=>exact⟨0,dj _,rfl,rfl,HA.out.2⟩
   case round=>
    obtain⟨k,hk,rfl,hal,hbl⟩:=hrel;by_cases hlt:k<l.length
    ·obtain⟨x,hx⟩: ∃x,l[k]?=some x:=⟨_,ao hlt⟩;obtain⟨b,o,rfl,qL,c0,c1,c2,c3,c4⟩:=H.out.1.at_ hx;have dP:=aE _ _ c0;have Uh:=xY (List.all_eq_true.1 HA.out.1 x (dd hx));have d0:=(hbl.cell (p:=⟨b,o+k*5,none⟩) dP).trans c0;have d1:=(hbl.cell (p:=⟨b,o+k*5+1,none⟩) dP).trans c1;have d2:=(hbl.cell (p:=⟨b,o+k*5+2,none⟩) dP).trans c2;have d3:=(hbl.cell (p:=⟨b,o+k*5+3,none⟩) dP).trans c3;have d4:=(hbl.cell (p:=⟨b,o+k*5+4,none⟩) dP).trans c4;obtain⟨D,A',B',C',N'⟩:=x;simp only at d0 d1 d2 d3 d4;have hb4:=hbl.alloc hbl.size (.cells #[.int .i64 D,.int .i64 A',.int .i64 B',.int .i64 C',.int .i64 N'] 104);have HF:=al (Iu _ (H.out.2.1.below hb4) ⟨D,A',B',C',N'⟩ Uh);have HX:=al (ab hx (ab hal hb4));clear hx hal hbl c0 c1 c2 c3 c4 qL dP hb4 Uh;go_wp2_with fail;refine HF.out.mono ?_;rintro e w5 ⟨rfl,gq⟩;have rV:=al (HX.out.2.2.trans (gq.mono HX.out.2.2.size));clear gq HF
     cases hf:cA ⟨D,A',B',C',N'⟩with
     |true=>
      have HV:=al hf;clear hf;go_wp2_with fail;go_roundw
      case rel=>exact⟨k+1,by omega,by go_num,nY HX.out.2.1 HX.out.1 HV.out,rV.out⟩
      case measure=>simp[intOf];omega
     |false=>
      have HV:=al hf;clear hf;go_wp2_with fail;go_ret
      exact⟨by rw[H.out.2.2,ff (by rw[HA.out.1];simp),fi (kJ HX.out.1 HV.out)];rfl,rV.out⟩
    ·obtain rfl:k=l.length:=by omega
     rw[ie]at hal;have HR:=al (ab hal hbl);have Qs:=Iw wr F (.slice A l.length c) l (cd.below H.out.1 hbl) (by omega) (fun o ho hh=>l9 (List.all_eq_true.1 hal o ho) hh);have HN:=al Qs;clear hal hbl Qs;go_wp2_with fail;refine HN.out.mono ?_;rintro e w6 ⟨rfl,iL⟩;have TJ:=al (HR.out.2.trans (iL.mono HR.out.2.size));clear iL HN
     cases hf:gz l with
     |true=>
      have HV:=al hf;clear hf;go_wp2_with fail;go_ret
      exact⟨by rw[H.out.2.2,ff (by rw[HA.out.1];simp),ff (by rw[HR.out.1];simp),ff (by rw[HV.out];simp)];rfl,TJ.out⟩
     |false=>
      have HV:=al hf;clear hf;go_wp2_with fail;go_ret
      exact⟨by rw[H.out.2.2,ff (by rw[HA.out.1];simp),ff (by rw[HR.out.1];simp),fi HV.out];rfl,TJ.out⟩
end Go.Proofs.YtagemonojdgbdaaGreatDoor
