import Derived.Test.YtagemonojdgbdaaGreatDoorF13
import Derived.Test.YtagemonojdgbdaaGreatDoorF14
import Derived.Test.YtagemonojdgbdaaGreatDoorF18
import Derived.OwnWalk
import Derived.LoopTactic
namespace Go.Proofs.YtagemonojdgbdaaGreatDoor
set_option maxRecDepth 100000
set_option maxHeartbeats 16000000
open Go.RowKit



def Gq:Nat->List UInt8
 |0=>[]
 |1=>[115,101,116]
 |2=>[99,111,112,121]
 |3=>[97,100,100]
 |4=>[115,117,98]
 |5=>[109,117,108]
 |6=>[108,101,115,115]
 |7=>[104,97,115]
 |8=>[103,101,116]
 |9=>[112,117,116]
 |10=>[100,101,108,101,116,101]
 |11=>[102,105,110,100]
 |12=>[99,111,117,110,116]
 |13=>[105,102]
 |14=>[108,111,111,112]
 |15=>[97,98,111,114,116]
 |_=>[]
def Ck(s:ByteArray)(d:Int):Prop:=s.toList.isEmpty=true↔ ¬(1<=d/\d<=15)
theorem Em(w:World)(d:Int):Calls Tryz.prog 160 #[.int .i64 d] w fun e w'=> ∃s:ByteArray,e=.returned (.string s)/\Ck s d/\Below w.heap.size w w':=by
 by_cases h:1<=d/\d<=15
 ·obtain⟨k,rfl⟩: ∃k:Nat,d=(k:Int):=⟨d.toNat,by omega⟩;have hk:1<=k/\k<=15:=by omega
  have h1: ¬(k:Int)<1:=by omega
  have h2: ¬(15:Int)<(k:Int):=by omega
  have i1:(0:Int)<=(k:Int):=by omega
  have i2:(k:Int)<16:=by omega
  have hg:(#[.string ⟨#[]⟩,.string ⟨#[115,101,116]⟩,.string ⟨#[99,111,112,121]⟩,.string ⟨#[97,100,100]⟩,.string ⟨#[115,117,98]⟩,.string ⟨#[109,117,108]⟩,.string ⟨#[108,101,115,115]⟩,.string ⟨#[104,97,115]⟩,.string ⟨#[103,101,116]⟩,.string ⟨#[112,117,116]⟩,.string ⟨#[100,101,108,101,116,101]⟩,.string ⟨#[102,105,110,100]⟩,.string ⟨#[99,111,117,110,116]⟩,.string ⟨#[105,102]⟩,.string ⟨#[108,111,111,112]⟩,.string ⟨#[97,98,111,114,116]⟩]:Array Value)[k]?=some (.string ⟨(Gq k).toArray⟩):=by
   have:k=1\/k=2\/k=3\/k=4\/k=5\/k=6\/k=7\/k=8\/k=9\/k=10\/k=11\/k=12\/k=13\/k=14\/k=15:=by omega
   rcases this with rfl|rfl|rfl|rfl|rfl|rfl|rfl|rfl|rfl|rfl|rfl|rfl|rfl|rfl|rfl<;>rfl
  have hne:Ck ⟨(Gq k).toArray⟩ (k:Int):=by
   have:(⟨(Gq k).toArray⟩:ByteArray).toList.isEmpty=false:=by
    have:k=1\/k=2\/k=3\/k=4\/k=5\/k=6\/k=7\/k=8\/k=9\/k=10\/k=11\/k=12\/k=13\/k=14\/k=15:=by omega
    rcases this with rfl|rfl|rfl|rfl|rfl|rfl|rfl|rfl|rfl|rfl|rfl|rfl|rfl|rfl|rfl<;>decide+kernel
   unfold Ck;rw[this];simp[h]
  have hc:(w.alloc (.cells #[.string ⟨#[]⟩,.string ⟨#[115,101,116]⟩,.string ⟨#[99,111,112,121]⟩,.string ⟨#[97,100,100]⟩,.string ⟨#[115,117,98]⟩,.string ⟨#[109,117,108]⟩,.string ⟨#[108,101,115,115]⟩,.string ⟨#[104,97,115]⟩,.string ⟨#[103,101,116]⟩,.string ⟨#[112,117,116]⟩,.string ⟨#[100,101,108,101,116,101]⟩,.string ⟨#[102,105,110,100]⟩,.string ⟨#[99,111,117,110,116]⟩,.string ⟨#[105,102]⟩,.string ⟨#[108,111,111,112]⟩,.string ⟨#[97,98,111,114,116]⟩] 9)).cell? ⟨w.heap.size,k,none⟩=some (.string ⟨(Gq k).toArray⟩):=by rw[<-hg,World.cell?];simp only[heap_alloc_new];rfl
  have HN:=al hne;clear h hg hne;go_enter Tryz.func160,Tryz.ntmps160;go_wp2_with fail;go_ret
  exact⟨_,rfl,HN.out,(aw _ _).alloc (aq _) _⟩
 ·have HN:=al h;by_cases h1:d<1
  ·clear h;go_enter Tryz.func160,Tryz.ntmps160;go_wp2_with fail;go_ret
   exact⟨_,rfl,show Ck ⟨#[]⟩ d from⟨fun _=>HN.out,fun _=>by decide+kernel⟩,(aw _ _).alloc (aq _) _⟩
  ·have h2:15<d:=by omega
   clear h;go_enter Tryz.func160,Tryz.ntmps160;go_wp2_with fail;go_ret
   exact⟨_,rfl,show Ck ⟨#[]⟩ d from⟨fun _=>HN.out,fun _=>by decide+kernel⟩,(aw _ _).alloc (aq _) _⟩
theorem LA(d:Int)(i:Nat):iU d i=(if d=1 then i==0||i==2 else if d=8\/d=11 then decide (i<3)else if d=10 then i==1 else if d=12 then true
 else if d=13 then i==0||i==3 else if d=14 then decide (2<=i)else if d=15 then i==0 else decide (i<2)):=rfl
theorem IG(w:World)(d:Int)(i:Nat)(hi:i<4):Calls Tryz.prog 161 #[.int .i64 d,.int .i64 (i:Int)] w fun e w'=>e=.returned (.bool (iU d i))/\w'=w:=by
 have hh:=LA d i;have hi4:i=0\/i=1\/i=2\/i=3:=by omega
 by_cases h1:d=1
 ·subst h1;simp at hh;rcases hi4 with rfl|rfl|rfl|rfl
  ·have H:=al hh;clear hh;go_enter Tryz.func161,Tryz.ntmps161;go_wp2_with fail;go_ret
   exact⟨by rw[H.out];rfl,rfl⟩
  ·have H:=al hh;clear hh;go_enter Tryz.func161,Tryz.ntmps161;go_wp2_with fail;go_ret
   exact⟨by rw[H.out];rfl,rfl⟩
  ·have H:=al hh;clear hh;go_enter Tryz.func161,Tryz.ntmps161;go_wp2_with fail;go_ret
   exact⟨by rw[H.out];rfl,rfl⟩
  ·have H:=al hh;clear hh;go_enter Tryz.func161,Tryz.ntmps161;go_wp2_with fail;go_ret
   exact⟨by rw[H.out];rfl,rfl⟩
 ·have n1:(d==1)=false:=by simpa using h1
  by_cases h8:d=8
  ·subst h8;simp at hh;rcases hi4 with rfl|rfl|rfl|rfl
   ·have H:=al hh;clear hh;go_enter Tryz.func161,Tryz.ntmps161;go_wp2_with fail;go_ret
    exact⟨by rw[H.out];rfl,rfl⟩
   ·have H:=al hh;clear hh;go_enter Tryz.func161,Tryz.ntmps161;go_wp2_with fail;go_ret
    exact⟨by rw[H.out];rfl,rfl⟩
   ·have H:=al hh;clear hh;go_enter Tryz.func161,Tryz.ntmps161;go_wp2_with fail;go_ret
    exact⟨by rw[H.out];rfl,rfl⟩
   ·have H:=al hh;clear hh;go_enter Tryz.func161,Tryz.ntmps161;go_wp2_with fail;go_ret
    exact⟨by rw[H.out];rfl,rfl⟩
  ·have n8:(d==8)=false:=by simpa using h8
   by_cases h11:d=11
   ·subst h11;simp at hh;rcases hi4 with rfl|rfl|rfl|rfl
    ·have H:=al hh;clear hh;go_enter Tryz.func161,Tryz.ntmps161;go_wp2_with fail;go_ret
     exact⟨by rw[H.out];rfl,rfl⟩
    ·have H:=al hh;clear hh;go_enter Tryz.func161,Tryz.ntmps161;go_wp2_with fail;go_ret
     exact⟨by rw[H.out];rfl,rfl⟩
    ·have H:=al hh;clear hh;go_enter Tryz.func161,Tryz.ntmps161;go_wp2_with fail;go_ret
     exact⟨by rw[H.out];rfl,rfl⟩
    ·have H:=al hh;clear hh;go_enter Tryz.func161,Tryz.ntmps161;go_wp2_with fail;go_ret
     exact⟨by rw[H.out];rfl,rfl⟩
   ·have n11:(d==11)=false:=by simpa using h11
    by_cases h10:d=10
    ·subst h10;simp at hh;rcases hi4 with rfl|rfl|rfl|rfl
     ·have H:=al hh;clear hh;go_enter Tryz.func161,Tryz.ntmps161;go_wp2_with fail;go_ret
      exact⟨by rw[H.out];rfl,rfl⟩
     ·have H:=al hh;clear hh;go_enter Tryz.func161,Tryz.ntmps161;go_wp2_with fail;go_ret
      exact⟨by rw[H.out];rfl,rfl⟩
     ·have H:=al hh;clear hh;go_enter Tryz.func161,Tryz.ntmps161;go_wp2_with fail;go_ret
      exact⟨by rw[H.out];rfl,rfl⟩
     ·have H:=al hh;clear hh;go_enter Tryz.func161,Tryz.ntmps161;go_wp2_with fail;go_ret
      exact⟨by rw[H.out];rfl,rfl⟩
    ·have n10:(d==10)=false:=by simpa using h10
     by_cases h12:d=12
     ·subst h12;simp at hh;rcases hi4 with rfl|rfl|rfl|rfl
      ·have H:=al hh;clear hh;go_enter Tryz.func161,Tryz.ntmps161;go_wp2_with fail;go_ret
       exact⟨by rw[H.out];rfl,rfl⟩
      ·have H:=al hh;clear hh;go_enter Tryz.func161,Tryz.ntmps161;go_wp2_with fail;go_ret
       exact⟨by rw[H.out];rfl,rfl⟩
      ·have H:=al hh;clear hh;go_enter Tryz.func161,Tryz.ntmps161;go_wp2_with fail;go_ret
       exact⟨by rw[H.out];rfl,rfl⟩
      ·have H:=al hh;clear hh;go_enter Tryz.func161,Tryz.ntmps161;go_wp2_with fail;go_ret
       exact⟨by rw[H.out];rfl,rfl⟩
     ·have n12:(d==12)=false:=by simpa using h12
      by_cases qM:d=13
      ·subst qM;simp at hh;rcases hi4 with rfl|rfl|rfl|rfl
       ·have H:=al hh;clear hh;go_enter Tryz.func161,Tryz.ntmps161;go_wp2_with fail;go_ret
        exact⟨by rw[H.out];rfl,rfl⟩
       ·have H:=al hh;clear hh;go_enter Tryz.func161,Tryz.ntmps161;go_wp2_with fail;go_ret
        exact⟨by rw[H.out];rfl,rfl⟩
       ·have H:=al hh;clear hh;go_enter Tryz.func161,Tryz.ntmps161;go_wp2_with fail;go_ret
        exact⟨by rw[H.out];rfl,rfl⟩
       ·have H:=al hh;clear hh;go_enter Tryz.func161,Tryz.ntmps161;go_wp2_with fail;go_ret
        exact⟨by rw[H.out];rfl,rfl⟩
      ·have n13:(d==13)=false:=by simpa using qM
       by_cases ni:d=14
       ·subst ni;simp at hh;rcases hi4 with rfl|rfl|rfl|rfl
        ·have H:=al hh;clear hh;go_enter Tryz.func161,Tryz.ntmps161;go_wp2_with fail;go_ret
         exact⟨by rw[H.out];rfl,rfl⟩
        ·have H:=al hh;clear hh;go_enter Tryz.func161,Tryz.ntmps161;go_wp2_with fail;go_ret
         exact⟨by rw[H.out];rfl,rfl⟩
        ·have H:=al hh;clear hh;go_enter Tryz.func161,Tryz.ntmps161;go_wp2_with fail;go_ret
         exact⟨by rw[H.out];rfl,rfl⟩
        ·have H:=al hh;clear hh;go_enter Tryz.func161,Tryz.ntmps161;go_wp2_with fail;go_ret
         exact⟨by rw[H.out];rfl,rfl⟩
       ·have n14:(d==14)=false:=by simpa using ni
        by_cases En:d=15
        ·subst En;simp at hh;rcases hi4 with rfl|rfl|rfl|rfl
         ·have H:=al hh;clear hh;go_enter Tryz.func161,Tryz.ntmps161;go_wp2_with fail;go_ret
          exact⟨by rw[H.out];rfl,rfl⟩
         ·have H:=al hh;clear hh;go_enter Tryz.func161,Tryz.ntmps161;go_wp2_with fail;go_ret
          exact⟨by rw[H.out];rfl,rfl⟩
         ·have H:=al hh;clear hh;go_enter Tryz.func161,Tryz.ntmps161;go_wp2_with fail;go_ret
          exact⟨by rw[H.out];rfl,rfl⟩
         ·have H:=al hh;clear hh;go_enter Tryz.func161,Tryz.ntmps161;go_wp2_with fail;go_ret
          exact⟨by rw[H.out];rfl,rfl⟩
        ·have n15:(d==15)=false:=by simpa using En
         simp[h1,h8,h11,h10,h12,qM,ni,En]at hh;clear h1 h8 h11 h10 h12 qM ni En;rcases hi4 with rfl|rfl|rfl|rfl
         ·have H:=al hh;clear hh;go_enter Tryz.func161,Tryz.ntmps161;go_wp2_with fail;go_ret
          exact⟨by rw[H.out];rfl,rfl⟩
         ·have H:=al hh;clear hh;go_enter Tryz.func161,Tryz.ntmps161;go_wp2_with fail;go_ret
          exact⟨by rw[H.out];rfl,rfl⟩
         ·have H:=al hh;clear hh;go_enter Tryz.func161,Tryz.ntmps161;go_wp2_with fail;go_ret
          exact⟨by rw[H.out];rfl,rfl⟩
         ·have H:=al hh;clear hh;go_enter Tryz.func161,Tryz.ntmps161;go_wp2_with fail;go_ret
          exact⟨by rw[H.out];rfl,rfl⟩
def aH.ref(o:aH):Value:=.agg #[.int .i64 o.d,.int .i64 o.a,.int .i64 o.b,.int .i64 o.c,.int .i64 o.n]
theorem Sb{w:World}{B:Nat}{o:aH}{t:TypeId}(h:w.heap[B]?=some (.cells #[.int .i64 o.d,.int .i64 o.a,.int .i64 o.b,.int .i64 o.c,.int .i64 o.n] t (0,0)))(i:Nat)(hi:i<4):w.cell? ⟨B,1+i,none⟩=some (.int .i64 (o.mP i)):=by
 have:i=0\/i=1\/i=2\/i=3:=by omega
 rcases this with rfl|rfl|rfl|rfl<;>simp[World.cell?,h,aH.mP]
theorem Cm{o:aH}(h: ¬(1<=o.d/\o.d<=15)):bD o=false:=by unfold bD;rw[decide_eq_false h];rfl
theorem Eo{o:aH}{i:Nat}(hi:i<4)(h1:iU o.d i=false)(h2:o.mP i≠0):bD o=false:=by unfold bD;rw[Bool.and_eq_false_iff];right;rw[Bool.eq_false_iff];intro h;rw[List.all_eq_true]at h;have:=h i (List.mem_range.2 hi);rw[h1]at this;simp at this;exact h2 this
theorem Ep{o:aH}(h:1<=o.d/\o.d<=15)(h2: ∀i,i<4->iU o.d i=false->o.mP i=0):bD o=true:=by
 unfold bD;rw[decide_eq_true h,Bool.true_and,List.all_eq_true];intro i hi;have hi:=List.mem_range.1 hi
 cases hh:iU o.d i with
 |true=>rfl
 |false=>simp[h2 i hi hh]
theorem Er(w:World)(o:aH):Calls Tryz.prog 129 #[o.ref] w fun e w'=>e=.returned (.bool (bD o))/\Below w.heap.size w w':=by
 unfold aH.ref;have hb1:Below w.heap.size w (w.alloc (.cells #[.int .i64 o.d,.int .i64 o.a,.int .i64 o.b,.int .i64 o.c,.int .i64 o.n] 247)):=(aw _ _).alloc (aq _) _;have k1:=an w (.cells #[.int .i64 o.d,.int .i64 o.a,.int .i64 o.b,.int .i64 o.c,.int .i64 o.n] 247);have zm:=al hb1;clear hb1;go_enter Tryz.func129,Tryz.ntmps129;go_wp2_with fail;generalize w.alloc (.cells #[.int .i64 o.d,.int .i64 o.a,.int .i64 o.b,.int .i64 o.c,.int .i64 o.n] 247)=w1 at k1 zm⊢;obtain⟨B,hB⟩: ∃B,w.heap.size=B:=⟨_,rfl⟩;rw[hB]at k1⊢;have HBQ:=al hB;clear hB;refine(Em w1 o.d).mono ?_;rintro e w2 ⟨s,rfl,hs,hb2⟩;have k2:=pw hb2 k1;have fR:=al (zm.out.trans (hb2.mono zm.out.size));clear hb2 k1;by_cases hd:1<=o.d/\o.d<=15
 ·have hs1:s.toList.isEmpty=false:=by rw[Bool.eq_false_iff];exact fun h=>hs.1 h hd
  clear hs;have HD:=al hd;have c0:w2.cell? ⟨B,0,none⟩=some (.int .i64 o.d):=by simp[World.cell?,k2]
  have K2:=al k2;clear hd k2;go_wp2_with fail
  go_loopw [3] (fun i wr=> ∃k:Nat,k<=4/\i=.int .i64 (k:Int)/\(∀j,j<k->iU o.d j=false->o.mP j=0)/\wr=w2) (fun i _=>4-(intOf i).toNat)
  case atStart=>exact⟨0,by omega,rfl,fun j h=>absurd h (by omega),rfl⟩
  case round=>
   obtain⟨k,hk,rfl,hal,hwr⟩:=hrel;subst hwr;have HA:=al hal;clear hal;by_cases hlt:k<4
   ·have ck:=Sb K2.out k hlt;have HC:=al ck;have aay:wr.cell? ⟨B,1+k,none⟩=some (.int .i64 (o.mP k)):=ck;have i1:(0:Int)<=(k:Int):=by omega
    have i2:(k:Int)<4:=by omega
    clear ck;go_wp2_with fail;refine(IG wr o.d k hlt).mono ?_;rintro e w3 ⟨rfl,rfl⟩;obtain⟨hb,TI⟩: ∃b,iU o.d k=b:=⟨_,rfl⟩;rw[TI];have HH:=al TI;clear TI
    cases hb with
    |true=>
     go_wp2_with fail;go_roundw
     case rel=>exact⟨k+1,by omega,by go_num,(fun j hj hh=>by
      rcases Nat.lt_or_ge j k with h|h
      ·exact HA.out j h hh
      ·have:j=k:=by omega
       subst this;rw[HH.out]at hh
       cases hh),trivial⟩
     case measure=>simp[intOf];omega
    |false=>
     by_cases hz:o.mP k=0
     ·have hz':(o.mP k !=0)=false:=by simpa using hz
      have HZ:=al hz;clear hz;go_wp2_with fail;go_roundw
      case rel=>exact⟨k+1,by omega,by go_num,(fun j hj hh=>by
       rcases Nat.lt_or_ge j k with h|h
       ·exact HA.out j h hh
       ·have:j=k:=by omega
        subst this
        exact HZ.out),trivial⟩
      case measure=>simp[intOf];omega
     ·have hz':(o.mP k !=0)=true:=by simpa using hz
      have HZ:=al (Eo hlt HH.out hz);clear hz;go_wp2_with fail;go_ret
      exact⟨by rw[HZ.out];rfl,fR.out⟩
   ·obtain rfl:k=4:=by omega
    have HY:=al (Ep HD.out HA.out);go_wp2_with fail;go_ret
    exact⟨by rw[HY.out];rfl,fR.out⟩
 ·have hs1:s.toList.isEmpty=true:=hs.2 hd;clear hs;have HF:=al (Cm hd);clear hd k2;go_wp2_with fail;go_ret
  exact⟨by rw[HF.out];rfl,fR.out⟩
theorem rZ(w:World)(o:aH):Calls Tryz.prog 131 #[o.ref] w fun e w'=>e=.returned (.bool o.holds)/\Below w.heap.size w w':=by
 unfold aH.ref;by_cases h:o.d=13
 ·have hh:o.holds=true:=by unfold aH.holds;rw[h];rfl
  have qM:(o.d==13)=true:=by simpa using h
  have HH:=al hh;clear hh h;go_enter Tryz.func131,Tryz.ntmps131;go_wp2_with fail;go_ret
  exact⟨by rw[HH.out];rfl,(aw _ _).alloc (aq _) _⟩
 ·have qM:(o.d==13)=false:=by simpa using h
  have hh:o.holds=(o.d==14):=by unfold aH.holds;rw[qM,Bool.false_or]
  have HH:=al hh;clear hh h;go_enter Tryz.func131,Tryz.ntmps131;go_wp2_with fail;go_ret
  exact⟨by rw[HH.out];rfl,(aw _ _).alloc (aq _) _⟩
def s8(o:aH):Prop:=0<=o.a/\(o.d=9->o.a<=4)/\(o.d≠9->o.a<=7)/\0<=o.b/\o.b<=7/\0<=o.n/\(o.d=1-> -1099511627776<=o.c/\o.c<=1099511627776)/\(o.d=8\/o.d=11->0<=o.c/\o.c<=3)/\
 (o.d=12->0<=o.c/\o.c<=3/\o.n<=1099511627776)/\(o.d=13->o.n<=64)/\(o.d=14->0<=o.c/\o.c<=16/\o.n<=64)
theorem wM{o:aH}(h:bD o=true):s8 o↔cA o=true:=by
 have hd:=xY h;obtain⟨d,a,b,c,n⟩:=o;simp only at hd;have:d=1\/d=2\/d=3\/d=4\/d=5\/d=6\/d=7\/d=8\/d=9\/d=10\/d=11\/d=12\/d=13\/d=14\/d=15:=by omega
 rcases this with rfl|rfl|rfl|rfl|rfl|rfl|rfl|rfl|rfl|rfl|rfl|rfl|rfl|rfl|rfl<;>
  simp[bD,cA,iU,AA,xN,aH.mP,List.range_succ,s8]at h⊢ <;>omega
theorem zD(w:World)(o:aH)(r:Bool)(hr:r=true↔s8 o):Calls Tryz.prog 130 #[o.ref] w fun e w'=>e=.returned (.bool r)/\Below w.heap.size w w':=by
 obtain⟨D,A,B,C,N⟩:=o;unfold aH.ref;unfold s8 at hr;simp only at hr⊢;by_cases h9:D=9
 ·subst h9;by_cases a0: ¬A<0
  ·skip
   by_cases a1: ¬4<A
   ·skip
    by_cases b0: ¬B<0
    ·skip
     by_cases b1: ¬7<B
     ·skip
      by_cases n0: ¬N<0
      ·skip
       obtain rfl:r=true:=hr.2 (by omega);clear hr;go_enter Tryz.func130,Tryz.ntmps130;go_wp2_with fail;go_ret
       exact⟨rfl,(aw _ _).alloc (aq _) _⟩
      ·skip
       obtain rfl:r=false:=ea.2 (fun h=>by have:=hr.1 h;omega);clear hr;go_enter Tryz.func130,Tryz.ntmps130;go_wp2_with fail;go_ret
       exact⟨rfl,(aw _ _).alloc (aq _) _⟩
     ·skip
      obtain rfl:r=false:=ea.2 (fun h=>by have:=hr.1 h;omega);clear hr;go_enter Tryz.func130,Tryz.ntmps130;go_wp2_with fail;go_ret
      exact⟨rfl,(aw _ _).alloc (aq _) _⟩
    ·skip
     obtain rfl:r=false:=ea.2 (fun h=>by have:=hr.1 h;omega);clear hr;go_enter Tryz.func130,Tryz.ntmps130;go_wp2_with fail;go_ret
     exact⟨rfl,(aw _ _).alloc (aq _) _⟩
   ·skip
    obtain rfl:r=false:=ea.2 (fun h=>by have:=hr.1 h;omega);clear hr;go_enter Tryz.func130,Tryz.ntmps130;go_wp2_with fail;go_ret
    exact⟨rfl,(aw _ _).alloc (aq _) _⟩
  ·skip
   obtain rfl:r=false:=ea.2 (fun h=>by have:=hr.1 h;omega);clear hr;go_enter Tryz.func130,Tryz.ntmps130;go_wp2_with fail;go_ret
   exact⟨rfl,(aw _ _).alloc (aq _) _⟩
 ·have n9:(D==9)=false:=by simpa using h9
  by_cases a0: ¬A<0
  ·skip
   by_cases a1: ¬7<A
   ·skip
    by_cases b0: ¬B<0
    ·skip
     by_cases b1: ¬7<B
     ·skip
      by_cases n0: ¬N<0
      ·skip
       by_cases h1:D=1
       ·subst h1;by_cases c0: -1099511627776<=C
        ·skip
         by_cases c1:C<=1099511627776
         ·skip
          obtain rfl:r=true:=hr.2 (by omega);clear hr;go_enter Tryz.func130,Tryz.ntmps130;go_wp2_with fail;go_ret
          exact⟨rfl,(aw _ _).alloc (aq _) _⟩
         ·skip
          obtain rfl:r=false:=ea.2 (fun h=>by have:=hr.1 h;omega);clear hr;go_enter Tryz.func130,Tryz.ntmps130;go_wp2_with fail;go_ret
          exact⟨rfl,(aw _ _).alloc (aq _) _⟩
        ·skip
         obtain rfl:r=false:=ea.2 (fun h=>by have:=hr.1 h;omega);clear hr;go_enter Tryz.func130,Tryz.ntmps130;go_wp2_with fail;go_ret
         exact⟨rfl,(aw _ _).alloc (aq _) _⟩
       ·have n1:(D==1)=false:=by simpa using h1
        by_cases h8:D=8
        ·subst h8;by_cases c0:0<=C
         ·skip
          by_cases c1:C<=3
          ·skip
           obtain rfl:r=true:=hr.2 (by omega);clear hr;go_enter Tryz.func130,Tryz.ntmps130;go_wp2_with fail;go_ret
           exact⟨rfl,(aw _ _).alloc (aq _) _⟩
          ·skip
           obtain rfl:r=false:=ea.2 (fun h=>by have:=hr.1 h;omega);clear hr;go_enter Tryz.func130,Tryz.ntmps130;go_wp2_with fail;go_ret
           exact⟨rfl,(aw _ _).alloc (aq _) _⟩
         ·skip
          obtain rfl:r=false:=ea.2 (fun h=>by have:=hr.1 h;omega);clear hr;go_enter Tryz.func130,Tryz.ntmps130;go_wp2_with fail;go_ret
          exact⟨rfl,(aw _ _).alloc (aq _) _⟩
        ·have n8:(D==8)=false:=by simpa using h8
         by_cases h11:D=11
         ·subst h11;by_cases c0:0<=C
          ·skip
           by_cases c1:C<=3
           ·skip
            obtain rfl:r=true:=hr.2 (by omega);clear hr;go_enter Tryz.func130,Tryz.ntmps130;go_wp2_with fail;go_ret
            exact⟨rfl,(aw _ _).alloc (aq _) _⟩
           ·skip
            obtain rfl:r=false:=ea.2 (fun h=>by have:=hr.1 h;omega);clear hr;go_enter Tryz.func130,Tryz.ntmps130;go_wp2_with fail;go_ret
            exact⟨rfl,(aw _ _).alloc (aq _) _⟩
          ·skip
           obtain rfl:r=false:=ea.2 (fun h=>by have:=hr.1 h;omega);clear hr;go_enter Tryz.func130,Tryz.ntmps130;go_wp2_with fail;go_ret
           exact⟨rfl,(aw _ _).alloc (aq _) _⟩
         ·have n11:(D==11)=false:=by simpa using h11
          by_cases h12:D=12
          ·subst h12;by_cases c0:0<=C
           ·skip
            by_cases c1:C<=3
            ·skip
             by_cases n1:N<=1099511627776
             ·skip
              obtain rfl:r=true:=hr.2 (by omega);clear hr;go_enter Tryz.func130,Tryz.ntmps130;go_wp2_with fail;go_ret
              exact⟨rfl,(aw _ _).alloc (aq _) _⟩
             ·skip
              obtain rfl:r=false:=ea.2 (fun h=>by have:=hr.1 h;omega);clear hr;go_enter Tryz.func130,Tryz.ntmps130;go_wp2_with fail;go_ret
              exact⟨rfl,(aw _ _).alloc (aq _) _⟩
            ·skip
             obtain rfl:r=false:=ea.2 (fun h=>by have:=hr.1 h;omega);clear hr;go_enter Tryz.func130,Tryz.ntmps130;go_wp2_with fail;go_ret
             exact⟨rfl,(aw _ _).alloc (aq _) _⟩
           ·skip
            obtain rfl:r=false:=ea.2 (fun h=>by have:=hr.1 h;omega);clear hr;go_enter Tryz.func130,Tryz.ntmps130;go_wp2_with fail;go_ret
            exact⟨rfl,(aw _ _).alloc (aq _) _⟩
          ·have n12:(D==12)=false:=by simpa using h12
           by_cases qM:D=13
           ·subst qM;by_cases n1:N<=64
            ·skip
             obtain rfl:r=true:=hr.2 (by omega);clear hr;go_enter Tryz.func130,Tryz.ntmps130;go_wp2_with fail;go_ret
             exact⟨rfl,(aw _ _).alloc (aq _) _⟩
            ·skip
             obtain rfl:r=false:=ea.2 (fun h=>by have:=hr.1 h;omega);clear hr;go_enter Tryz.func130,Tryz.ntmps130;go_wp2_with fail;go_ret
             exact⟨rfl,(aw _ _).alloc (aq _) _⟩
           ·have n13:(D==13)=false:=by simpa using qM
            by_cases ni:D=14
            ·subst ni;by_cases c0:0<=C
             ·skip
              by_cases c1:C<=16
              ·skip
               by_cases n1:N<=64
               ·skip
                obtain rfl:r=true:=hr.2 (by omega);clear hr;go_enter Tryz.func130,Tryz.ntmps130;go_wp2_with fail;go_ret
                exact⟨rfl,(aw _ _).alloc (aq _) _⟩
               ·skip
                obtain rfl:r=false:=ea.2 (fun h=>by have:=hr.1 h;omega);clear hr;go_enter Tryz.func130,Tryz.ntmps130;go_wp2_with fail;go_ret
                exact⟨rfl,(aw _ _).alloc (aq _) _⟩
              ·skip
               obtain rfl:r=false:=ea.2 (fun h=>by have:=hr.1 h;omega);clear hr;go_enter Tryz.func130,Tryz.ntmps130;go_wp2_with fail;go_ret
               exact⟨rfl,(aw _ _).alloc (aq _) _⟩
             ·skip
              obtain rfl:r=false:=ea.2 (fun h=>by have:=hr.1 h;omega);clear hr;go_enter Tryz.func130,Tryz.ntmps130;go_wp2_with fail;go_ret
              exact⟨rfl,(aw _ _).alloc (aq _) _⟩
            ·have n14:(D==14)=false:=by simpa using ni
             obtain rfl:r=true:=hr.2 (by omega);clear hr;go_enter Tryz.func130,Tryz.ntmps130;go_wp2_with fail;go_ret
             exact⟨rfl,(aw _ _).alloc (aq _) _⟩
      ·skip
       obtain rfl:r=false:=ea.2 (fun h=>by have:=hr.1 h;omega);clear hr;go_enter Tryz.func130,Tryz.ntmps130;go_wp2_with fail;go_ret
       exact⟨rfl,(aw _ _).alloc (aq _) _⟩
     ·skip
      obtain rfl:r=false:=ea.2 (fun h=>by have:=hr.1 h;omega);clear hr;go_enter Tryz.func130,Tryz.ntmps130;go_wp2_with fail;go_ret
      exact⟨rfl,(aw _ _).alloc (aq _) _⟩
    ·skip
     obtain rfl:r=false:=ea.2 (fun h=>by have:=hr.1 h;omega);clear hr;go_enter Tryz.func130,Tryz.ntmps130;go_wp2_with fail;go_ret
     exact⟨rfl,(aw _ _).alloc (aq _) _⟩
   ·skip
    obtain rfl:r=false:=ea.2 (fun h=>by have:=hr.1 h;omega);clear hr;go_enter Tryz.func130,Tryz.ntmps130;go_wp2_with fail;go_ret
    exact⟨rfl,(aw _ _).alloc (aq _) _⟩
  ·skip
   obtain rfl:r=false:=ea.2 (fun h=>by have:=hr.1 h;omega);clear hr;go_enter Tryz.func130,Tryz.ntmps130;go_wp2_with fail;go_ret
   exact⟨rfl,(aw _ _).alloc (aq _) _⟩
def JR(l:List aH)(i k:Nat):List Int:=((l.take k).zipIdx.filter (fun x=>x.1.holds&&decide ((i:Int)<cj x.2 x.1))).map (fun x=>cj x.2 x.1)
theorem LB(l:List aH)(i:Nat):JR l i 0=[]:=by simp[JR]
theorem LC{l:List aH}{i k:Nat}{x:aH}(h:l[k]?=some x):JR l i (k+1)=JR l i k++(if x.holds&&decide ((i:Int)<cj k x)then[cj k x]else[]):=by
 have hk:k<l.length:=(b8.1 h).1;unfold JR;rw[kt,h,List.zipIdx_append,mw,im];congr 1;have hl:(l.take k).length=k:=by rw[ke];omega
 simp only[Option.toList,List.zipIdx_cons,List.zipIdx_nil,hl,gn]
 cases hc:(x.holds&&decide ((i:Int)<cj k x))with
 |true=>simp[List.filter,hc]
 |false=>simp[List.filter,hc]
theorem Gs(l:List aH)(i:Nat):JR l i i=opens l i:=rfl
theorem wN(w:World)(F:Nat->Prop)(v:Value)(l:List aH)(h:gP w F v l):
  Calls Tryz.prog 87 #[v] w fun e w'=>e=.returned (.int .i64 (opsE l))/\Below w.heap.size w w':=by
 obtain⟨A,c,rfl,hlc,hcm⟩:=h.slice;unfold maxLen at hcm;by_cases h64:64<l.length
 ·have HE:=al (show opsE l=23 by unfold opsE;rw[fi h64]);have RH:(64:Int)<(l.length:Int):=by omega
  clear h;go_enter Tryz.func87,Tryz.ntmps87;go_wp2_with fail;go_ret
  exact⟨by rw[HE.out];rfl,aw _ _⟩
 have hE:opsE l=if l.all bD=false then 11 else if l.all cA=false then 10 else if gz l=false then 11 else 0:=by unfold opsE;rw[ff h64]
 have RH: ¬((64:Int)<(l.length:Int)):=by omega
 have H:=al (ab h hE);clear h hE;go_enter Tryz.func87,Tryz.ntmps87;go_wp2_with fail
 go_loopw [3] (fun i wr=> ∃k:Nat,k<=l.length/\i=.int .i64 (k:Int)/\Gd w l bD k wr) (fun i _=>l.length-(intOf i).toNat)
 case atStart=>exact⟨0,dj _,rfl,rfl,aw _ _⟩
 case round=>
  obtain⟨k,hk,rfl,hal,hbl⟩:=hrel;by_cases hlt:k<l.length
  ·obtain⟨x,hx⟩: ∃x,l[k]?=some x:=⟨_,ao hlt⟩;obtain⟨b,o,rfl,qL,c0,c1,c2,c3,c4⟩:=H.out.1.at_ hx;have dP:=aE _ _ c0;have d0:=(hbl.cell (p:=⟨b,o+k*5,none⟩) dP).trans c0;have d1:=(hbl.cell (p:=⟨b,o+k*5+1,none⟩) dP).trans c1;have d2:=(hbl.cell (p:=⟨b,o+k*5+2,none⟩) dP).trans c2;have d3:=(hbl.cell (p:=⟨b,o+k*5+3,none⟩) dP).trans c3;have d4:=(hbl.cell (p:=⟨b,o+k*5+4,none⟩) dP).trans c4;obtain⟨D,A',B',C',N'⟩:=x;simp only at d0 d1 d2 d3 d4;have HF:=al (Er wr ⟨D,A',B',C',N'⟩);have HX:=al (ab hx (ab hal hbl));clear hx hal hbl c0 c1 c2 c3 c4 qL dP;go_wp2_with fail;refine HF.out.mono ?_;rintro e w5 ⟨rfl,gq⟩;have rV:=al (HX.out.2.2.trans (gq.mono HX.out.2.2.size));clear gq HF
   cases hf:bD ⟨D,A',B',C',N'⟩with
   |true=>
    have HV:=al hf;clear hf;go_wp2_with fail;go_roundw
    case rel=>exact⟨k+1,by omega,by go_num,nY HX.out.2.1 HX.out.1 HV.out,rV.out⟩
    case measure=>simp[intOf];omega
   |false=>
    have HV:=al hf;clear hf;go_wp2_with fail;go_ret
    exact⟨by rw[H.out.2,fi (kJ HX.out.1 HV.out)];rfl,rV.out⟩
  ·obtain rfl:k=l.length:=by omega
   rw[ie]at hal;have HA:=al (ab hal hbl);clear hal hbl;go_wp2_with fail
   go_loopw [4] (fun i wr=> ∃k:Nat,k<=l.length/\i=.int .i64 (k:Int)/\Gd w l cA k wr) (fun i _=>l.length-(intOf i).toNat)
   case atStart=>exact⟨0,dj _,rfl,rfl,HA.out.2⟩
   case round=>
    obtain⟨k,hk,rfl,hal,hbl⟩:=hrel;by_cases hlt:k<l.length
    ·obtain⟨x,hx⟩: ∃x,l[k]?=some x:=⟨_,ao hlt⟩;obtain⟨b,o,rfl,qL,c0,c1,c2,c3,c4⟩:=H.out.1.at_ hx;have dP:=aE _ _ c0;have d0:=(hbl.cell (p:=⟨b,o+k*5,none⟩) dP).trans c0;have d1:=(hbl.cell (p:=⟨b,o+k*5+1,none⟩) dP).trans c1;have d2:=(hbl.cell (p:=⟨b,o+k*5+2,none⟩) dP).trans c2;have d3:=(hbl.cell (p:=⟨b,o+k*5+3,none⟩) dP).trans c3;have d4:=(hbl.cell (p:=⟨b,o+k*5+4,none⟩) dP).trans c4;have Vq:=List.all_eq_true.1 HA.out.1 x (dd hx);have hwr:=wM Vq;obtain⟨D,A',B',C',N'⟩:=x;simp only at d0 d1 d2 d3 d4;have HF:=al (zD wr ⟨D,A',B',C',N'⟩ (cA ⟨D,A',B',C',N'⟩) hwr.symm);clear Vq hwr;have HX:=al (ab hx (ab hal hbl));clear hx hal hbl c0 c1 c2 c3 c4 qL dP;go_wp2_with fail;refine HF.out.mono ?_;rintro e w5 ⟨rfl,gq⟩;have rV:=al (HX.out.2.2.trans (gq.mono HX.out.2.2.size));clear gq HF
     cases hf:cA ⟨D,A',B',C',N'⟩with
     |true=>
      have HV:=al hf;clear hf;go_wp2_with fail;go_roundw
      case rel=>exact⟨k+1,by omega,by go_num,nY HX.out.2.1 HX.out.1 HV.out,rV.out⟩
      case measure=>simp[intOf];omega
     |false=>
      have HV:=al hf;clear hf;go_wp2_with fail;go_ret
      exact⟨by rw[H.out.2,ff (by rw[HA.out.1];simp),fi (kJ HX.out.1 HV.out)];rfl,rV.out⟩
    ·obtain rfl:k=l.length:=by omega
     rw[ie]at hal;have HR:=al (ab hal hbl);clear hal hbl;go_wp2_with fail
     go_loopw [5,6,7,8] (fun i _ _ _ wr=> ∃k:Nat,k<=l.length/\i=.int .i64 (k:Int)/\cV l k=true/\Below w.heap.size w wr) (fun i _ _ _ _=>l.length-(intOf i).toNat)
     case atStart=>exact⟨0,dj _,rfl,rfl,HR.out.2⟩
     case round=>
      obtain⟨i,hi,rfl,hnt,hbl⟩:=hrel;have Vr:=al (ab hnt hbl);clear hnt hbl;by_cases hil:i<l.length
      ·obtain⟨xi,hxi⟩: ∃x,l[i]?=some x:=⟨_,ao hil⟩;have HXI:=al hxi;clear hxi;have aaz:(i:Int)<(l.length:Int):=by omega
       go_wp2_with fail
       go_loopw [6,7,8] (fun en dp kk wr=> ∃(k m:Nat) (es:List Int) (AE:Int),k<=i/\kk=.int .i64 (k:Int)/\es=JR l i k/\en=.int .i64 AE/\AE=es.foldl min (l.length:Int)/\dp=.int .i64 (m:Int)/\m=es.length/\m<=k/\(-100<=AE/\AE<=100)/\Below w.heap.size w wr) (fun _ _ kk _=>i-(intOf kk).toNat)
       case atStart=>exact⟨0,0,[],(l.length:Int),by omega,rfl,(LB _ _).symm,rfl,rfl,rfl,rfl,by omega,by omega,Vr.out.2⟩
       case round=>
        obtain⟨k,m,es,AE,hk,rfl,hes,rfl,hen,rfl,hm,hmk,hb,hbl⟩:=hrel;have HI:=al (ab hes (ab hen hm));clear hes hen hm;by_cases hki:k<i
        ·obtain⟨x,hx⟩: ∃x,l[k]?=some x:=⟨_,ao (by omega)⟩;obtain⟨b,o,rfl,qL,c0,c1,c2,c3,c4⟩:=H.out.1.at_ hx;have dP:=aE _ _ c0;have d0:=(hbl.cell (p:=⟨b,o+k*5,none⟩) dP).trans c0;have d1:=(hbl.cell (p:=⟨b,o+k*5+1,none⟩) dP).trans c1;have d2:=(hbl.cell (p:=⟨b,o+k*5+2,none⟩) dP).trans c2;have d3:=(hbl.cell (p:=⟨b,o+k*5+3,none⟩) dP).trans c3;have d4:=(hbl.cell (p:=⟨b,o+k*5+4,none⟩) dP).trans c4;have hsu:=LC (i:=i) hx;have hrx:=List.all_eq_true.1 HR.out.1 x (dd hx);have hk':(k:Int)<(i:Int):=by omega
         have i1:(0:Int)<=(k:Int):=by omega
         have i2:(k:Int)<(l.length:Int):=by omega
         have NH:x.holds=true->0<=x.n/\x.n<=64:=fun hh=>l9 hrx hh;obtain⟨D,A',B',C',N'⟩:=x;simp only at d0 d1 d2 d3 d4 NH;have HC:=al (rZ wr ⟨D,A',B',C',N'⟩);have HX:=al (ab hsu hbl);clear hx hsu hbl hrx c0 c1 c2 c3 c4 qL;go_wp2_with fail;refine HC.out.mono ?_;rintro e w5 ⟨rfl,gq⟩;have e4:=(gq.cell (p:=⟨b,o+k*5+4,none⟩) (aE _ _ d4)).trans d4;have rV:=al (HX.out.2.trans (gq.mono HX.out.2.size));clear gq HC d0 d1 d2 d3 d4 dP
         cases hh:aH.holds ⟨D,A',B',C',N'⟩with
         |true=>
          have hn:=NH hh;have HV:=al hh;clear hh NH;by_cases hge:(i:Int)<=(k:Int)+N'
          ·have HS:=al (show JR l i (k+1)=es++[(k:Int)+1+N'] by
            rw[HX.out.1,HV.out,<-HI.out.1,Bool.true_and,decide_eq_true (by unfold cj;simp only;omega)]
            rfl)
           by_cases hmin:(k:Int)+1+N'<=AE
           ·have RX:min AE ((k:Int)+1+N')=(k:Int)+1+N':=Int.min_eq_right hmin;have Y3:=al RX;go_wp2_with fail;go_roundw
            case rel=>
             refine⟨k+1,m+1,JR l i (k+1),(k:Int)+1+N',by omega,by go_num,rfl,by go_num,?_,by go_num,?_,by omega,by omega,rV.out⟩
             ·rw[HS.out,List.foldl_append,<-HI.out.2.1];exact Y3.out.symm
             ·rw[HS.out,gk,<-HI.out.2.2];rfl
            case measure=>simp[intOf];omega
           ·have RX:min AE ((k:Int)+1+N')=AE:=Int.min_eq_left (by omega);have Y3:=al RX;go_wp2_with fail;go_roundw
            case rel=>
             refine⟨k+1,m+1,JR l i (k+1),AE,by omega,by go_num,rfl,by go_num,?_,by go_num,?_,by omega,by omega,rV.out⟩
             ·rw[HS.out,List.foldl_append,<-HI.out.2.1];exact Y3.out.symm
             ·rw[HS.out,gk,<-HI.out.2.2];rfl
            case measure=>simp[intOf];omega
          ·have HS:=al (show JR l i (k+1)=es by
            rw[HX.out.1,HV.out,<-HI.out.1,Bool.true_and,decide_eq_false (by unfold cj;simp only;omega)]
            simp)
           go_wp2_with fail;go_roundw
           case rel=>exact⟨k+1,m,es,AE,by omega,by go_num,HS.out.symm,rfl,HI.out.2.1,rfl,HI.out.2.2,by omega,by omega,rV.out⟩
           case measure=>simp[intOf];omega
         |false=>
          have HS:=al (show JR l i (k+1)=es by
           rw[HX.out.1,hh,<-HI.out.1]
           simp)
          clear hh NH;go_wp2_with fail;go_roundw
          case rel=>exact⟨k+1,m,es,AE,by omega,by go_num,HS.out.symm,rfl,HI.out.2.1,rfl,HI.out.2.2,by omega,by omega,rV.out⟩
          case measure=>simp[intOf];omega
        ·obtain rfl:k=i:=by omega
         have hx:=HXI.out;have iX:=Hz (Nat.le_of_lt hil) Vr.out.1 es (HI.out.1.trans (Gs l k));rw[<-HI.out.2.1]at iX;have hsu:=bH hx;have hpl:dE l k xi=(decide (m<=8)&&(!xi.holds||decide (cj k xi<=AE))):=by unfold dE;rw[<-Gs,<-HI.out.1,<-HI.out.2.2,<-iX]
         obtain⟨b,o,rfl,qL,c0,c1,c2,c3,c4⟩:=H.out.1.at_ hx;have dP:=aE _ _ c0;have d0:=(hbl.cell (p:=⟨b,o+k*5,none⟩) dP).trans c0;have d1:=(hbl.cell (p:=⟨b,o+k*5+1,none⟩) dP).trans c1;have d2:=(hbl.cell (p:=⟨b,o+k*5+2,none⟩) dP).trans c2;have d3:=(hbl.cell (p:=⟨b,o+k*5+3,none⟩) dP).trans c3;have d4:=(hbl.cell (p:=⟨b,o+k*5+4,none⟩) dP).trans c4;have hrx:=List.all_eq_true.1 HR.out.1 xi (dd hx);have i1:(0:Int)<=(k:Int):=by omega
         have NH:xi.holds=true->0<=xi.n/\xi.n<=64:=fun hh=>l9 hrx hh;rw[Vr.out.1,Bool.true_and,hpl]at hsu;obtain⟨D,A',B',C',N'⟩:=xi;simp only at d0 d1 d2 d3 d4 NH;have HC:=al (rZ wr ⟨D,A',B',C',N'⟩);have HX:=al (ab hsu hbl);clear hx hsu hbl hrx c0 c1 c2 c3 c4 qL iX hpl;by_cases h8:m<=8
         ·have UL: ¬(8:Int)<(m:Int):=by omega
          go_wp2_with fail;refine HC.out.mono ?_;rintro e w5 ⟨rfl,gq⟩;have e4:=(gq.cell (p:=⟨b,o+k*5+4,none⟩) (aE _ _ d4)).trans d4;have rV:=al (HX.out.2.trans (gq.mono HX.out.2.size));clear gq HC d0 d1 d2 d3 d4 dP
          cases hh:aH.holds ⟨D,A',B',C',N'⟩with
          |true=>
           have hn:=NH hh;have HV:=al hh;clear hh NH;by_cases hle:(k:Int)+1+N'<=AE
           ·have HY:=al (show cV l (k+1)=true by rw[HX.out.1,HV.out,decide_eq_true h8,decide_eq_true (show cj k ⟨D,A',B',C',N'⟩<=AE from hle)];rfl);have Y4: ¬AE<(k:Int)+1+N':=by omega
            go_wp2_with fail;go_roundw
            case rel=>exact⟨k+1,by omega,by go_num,HY.out,rV.out⟩
            case measure=>simp[intOf];omega
           ·have HY:=al (show cV l (k+1)=false by rw[HX.out.1,HV.out,decide_eq_false (show ¬cj k ⟨D,A',B',C',N'⟩<=AE from hle)];simp);have Y4:AE<(k:Int)+1+N':=by omega
            go_wp2_with fail;go_ret
            refine⟨?_,rV.out⟩;rw[H.out.2,ff (by rw[HA.out.1];simp),ff (by rw[HR.out.1];simp),fi]
            ·rfl
            ·rw[Bool.eq_false_iff];intro hnb;have:=dO hnb (show k+1<=l.length by omega);rw[HY.out]at this;cases this
          |false=>
           have HY:=al (show cV l (k+1)=true by rw[HX.out.1,hh,decide_eq_true h8];rfl);clear hh NH;go_wp2_with fail;go_roundw
           case rel=>exact⟨k+1,by omega,by go_num,HY.out,rV.out⟩
           case measure=>simp[intOf];omega
         ·have UL:(8:Int)<(m:Int):=by omega
          have HY:=al (show cV l (k+1)=false by rw[HX.out.1,decide_eq_false h8];rfl);have rV:=al HX.out.2;clear NH;go_wp2_with fail;go_ret
          refine⟨?_,rV.out⟩;rw[H.out.2,ff (by rw[HA.out.1];simp),ff (by rw[HR.out.1];simp),fi]
          ·rfl
          ·rw[Bool.eq_false_iff];intro hnb;have:=dO hnb (show k+1<=l.length by omega);rw[HY.out]at this;cases this
      ·obtain rfl:i=l.length:=by omega
       have HY:=al (show opsE l=0 by rw[H.out.2,ff (by rw[HA.out.1];simp),ff (by rw[HR.out.1];simp),ff (by show ¬cV l l.length=false;rw[Vr.out.1];simp)]);go_wp2_with fail;go_ret
       exact⟨by rw[HY.out];rfl,Vr.out.2⟩
theorem Tryz.OX:(Tryz.prog.info? 247).map (fun i=>(i.zero,i.size,i.bytes))=some (some (.agg #[.int .i64 0,.int .i64 0,.int .i64 0,.int .i64 0,.int .i64 0]),5,40):=by kernel_rfl
theorem LD(l:List aH): ∀x∈l.map aH.cells,x.length=5:=by intro x hx;simp at hx;obtain⟨y,_,rfl⟩:=hx;rfl
theorem OY{l:List aH}{k:Nat}{x:aH}(h:l[k]?=some x):((l.take (k+1)).map aH.cells).flatten=((l.take k).map aH.cells).flatten++x.cells:=by rw[kt,h];simp
theorem wO(w:World)(G:Nat->Prop)(v:Value)(l:List aH)(h:gP w G v l)(hl:l.length<=1000):
  Calls Tryz.prog 88 #[v] w fun e w'=> ∃A c,e=.returned (.slice A l.length c)/\gP w' (fun k=>w.heap.size<=k) (.slice A l.length c) l/\Below w.heap.size w w':=by
 obtain⟨i2,hi,hz0,hz1,hz2⟩:=eC Tryz.OX;obtain⟨A,c,rfl,hlc,hcm⟩:=h.slice;unfold maxLen at hcm;have HI:=al hi;have H:=al h;clear hi h;go_enter Tryz.func88,Tryz.ntmps88;go_wp2_with fail
 go_loopw [3,4] (fun z i wr=> ∃k:Nat,k<=l.length/\i=.int .i64 (k:Int)/\wr.ownsRow w.heap.size 247 5 z k ((l.take k).map aH.cells).flatten/\Below w.heap.size w wr) (fun _ i _=>l.length-(intOf i).toNat)
 case atStart=>exact⟨0,dj _,rfl,ee _ _ _ _,aw _ _⟩
 case round=>
  obtain⟨k,hk,rfl,hown,hbl⟩:=hrel;obtain⟨Az,cz,rfl⟩:=ah hown;by_cases hlt:k<l.length
  ·obtain⟨x,hx⟩: ∃x,l[k]?=some x:=⟨_,ao hlt⟩;obtain⟨b,o,rfl,qL,c0,c1,c2,c3,c4⟩:=H.out.at_ hx;have dP:=aE _ _ c0;have Vs:=OY hx;have i1:(0:Int)<=(k:Int):=by omega
   have i2':(k:Int)<(l.length:Int):=by omega
   have hsz:=hbl.size;have hown2:=hown.alloc (.cells #[.int .i64 x.d,.int .i64 x.a,.int .i64 x.b,.int .i64 x.c,.int .i64 x.n] 247);have hnews:=ef (an wr (.cells #[.int .i64 x.d,.int .i64 x.a,.int .i64 x.b,.int .i64 x.c,.int .i64 x.n] 247));have HX:=al (ab hown2 (ab hnews (ab hbl Vs)));clear hown hown2 hnews Vs hx qL;go_upto_region 5 with fail;refine pb (S:=(fun w'=>Below w.heap.size w w')) (by kernel_rfl) HX.out.2.2.1.drew (fun pt=>?_);refine aM [0,1,2,3,4] ?_
   iterate 5 (refine bX (v:=?_) (fun w hSw=>?_) pt ?_;rotate_left;(go_simp;try with_reducible rfl);try simp only[ai,aj,ak,ar])
   refine aN ?_;refine fJ 5 (v:=?_) (fun w hSw=>?_) pt ?_;rotate_left
   ·have z0:=(hSw.cell (p:=⟨b,o+k*5,none⟩) dP).trans c0;go_simp;try with_reducible rfl
   try simp only[ai,aj,ak,ar]
   refine aM [6,7,8,9] ?_
   iterate 4 (refine bX (v:=?_) (fun w hSw=>?_) pt ?_;rotate_left;(go_simp;try with_reducible rfl);try simp only[ai,aj,ak,ar])
   refine aN ?_;refine fJ 10 (v:=?_) (fun w hSw=>?_) pt ?_;rotate_left
   ·have z1:=(hSw.cell (p:=⟨b,o+k*5+1,none⟩) dP).trans c1;go_simp;try with_reducible rfl
   try simp only[ai,aj,ak,ar]
   refine aM [11,12,13,14] ?_
   iterate 4 (refine bX (v:=?_) (fun w hSw=>?_) pt ?_;rotate_left;(go_simp;try with_reducible rfl);try simp only[ai,aj,ak,ar])
   refine aN ?_;refine fJ 15 (v:=?_) (fun w hSw=>?_) pt ?_;rotate_left
   ·have z2:=(hSw.cell (p:=⟨b,o+k*5+2,none⟩) dP).trans c2;go_simp;try with_reducible rfl
   try simp only[ai,aj,ak,ar]
   refine aM [16,17,18,19] ?_
   iterate 4 (refine bX (v:=?_) (fun w hSw=>?_) pt ?_;rotate_left;(go_simp;try with_reducible rfl);try simp only[ai,aj,ak,ar])
   refine aN ?_;refine fJ 20 (v:=?_) (fun w hSw=>?_) pt ?_;rotate_left
   ·have z3:=(hSw.cell (p:=⟨b,o+k*5+3,none⟩) dP).trans c3;go_simp;try with_reducible rfl
   try simp only[ai,aj,ak,ar]
   refine aM [21,22,23,24] ?_
   iterate 4 (refine bX (v:=?_) (fun w hSw=>?_) pt ?_;rotate_left;(go_simp;try with_reducible rfl);try simp only[ai,aj,ak,ar])
   refine aN ?_;refine fJ 25 (v:=?_) (fun w hSw=>?_) pt ?_;rotate_left
   ·have z4:=(hSw.cell (p:=⟨b,o+k*5+4,none⟩) dP).trans c4;go_simp;try with_reducible rfl
   try simp only[ai,aj,ak,ar]
   refine aM [26,27] ?_
   iterate 2 (refine bX (v:=?_) (fun w hSw=>?_) pt ?_;rotate_left;(go_simp;try with_reducible rfl);try simp only[ai,aj,ak,ar])
   refine aN ?_;refine aW 28 (fun K hK=>?_);go_simp;refine hK.out _ _ (HX.out.2.2.1.drew.alloc hsz _) ?_;clear hK K pt;intro pt
   try simp only[ai,aj,ak,ar]
   refine aW 29 (fun K hK=>?_)
   (refine step_append_lies _ (by rfl) _ _ 195 (by rfl) w.heap.size 247 i2 _ 5 40 Tryz.underlying195 HI.out hz0 hz1 hz2 (by rfl) (by decide) (.slice Az k cz) k _ (by rfl) HX.out.1 ⟨wr.heap.size,0,none⟩ 1 1 [.int .i64 x.d,.int .i64 x.a,.int .i64 x.b,.int .i64 x.c,.int .i64 x.n] (by rfl) (by rfl) HX.out.2.1 (by simp[Value.oneCell']) (by decide) (by unfold maxLen;omega) (by omega) (by simp;omega) (wr.heap.size+1) (by simp) ?_)
   intro g3 Cn wA dv bq lg OZ;refine hK.out _ _ (((HX.out.2.2.1.alloc hsz _).drew).grown bq (by simp;omega) (fun j hj=>(HX.out.1.lt j hj).1)) ?_;clear hK K pt;intro pt
   try simp only[ai,aj,ak,ar]
   refine fJ 30 (v:=?_) (fun w hSw=>?_) pt ?_;rotate_left
   ·go_simp;try with_reducible rfl
   try simp only[ai,aj,ak,ar]
   refine pf (by kernel_rfl) ?_ _;have Vt:=al (ab dv pt);clear dv bq lg pt c0 c1 c2 c3 c4;go_wp2_with fail;go_roundw
   case rel=>refine⟨k+1,by omega,by go_num,?_,Vt.out.2⟩;rw[HX.out.2.2.2];simpa[aH.cells]using Vt.out.1
   case measure=>simp[intOf];omega
  ·obtain rfl:k=l.length:=by omega
   rw[ie]at hown;have HO:=al (ab hown hbl);clear hown hbl;go_wp2_with fail;go_ret
   exact⟨Az,cz,rfl,cd.cP HO.out.1 (LD l) (by decide) (fun g hg=>(HO.out.1.lt g hg).1),HO.out.2⟩
end Go.Proofs.YtagemonojdgbdaaGreatDoor
