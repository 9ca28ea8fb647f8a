import Derived.Test.YtmkofmeojbcakaaGreatDoorC11
import Derived.Test.YtmkofmeojbcakaaGreatDoorC14
import Derived.Test.YtmkofmeojbcakaaGreatDoorC16
namespace Go.Proofs.YtmkofmeojbcakaaGreatDoor
open Go.Proofs.Tryz
set_option maxRecDepth 100000
set_option maxHeartbeats 16000000
open Go.RowKit


def Jh:Nat->List UInt8
 |0=>[]
 |1=>[115,101,116]
 |2=>[99,111,112,121]
 |3=>[97,100,100]
 |4=>[115,117,98]
 |5=>[109,117,108]
 |6=>[108,101,115,115]
 |7=>[104,97,115]
 |8=>[103,101,116]
 |9=>[112,117,116]
 |10=>[100,101,108,101,116,101]
 |11=>[102,105,110,100]
 |12=>[99,111,117,110,116]
 |13=>[105,102]
 |14=>[108,111,111,112]
 |15=>[97,98,111,114,116]
 |_=>[]
def D3(s:ByteArray)(d:Int):Prop:=s.toList.isEmpty=true↔ ¬(1<=d/\d<=15)
theorem Gh(w:World)(d:Int):Calls prog 126 #[.int .i64 d] w fun e w'=> ∃s:ByteArray,e=.returned (.string s)/\D3 s d/\Below w.heap.size w w':=by
 by_cases h:1<=d/\d<=15
 ·obtain⟨k,rfl⟩: ∃k:Nat,d=(k:Int):=⟨d.toNat,by omega⟩;have hk:1<=k/\k<=15:=by omega
  have h1: ¬(k:Int)<1:=by omega
  have h2: ¬(15:Int)<(k:Int):=by omega
  have i1:(0:Int)<=(k:Int):=by omega
  have i2:(k:Int)<16:=by omega
  have hg:(#[.string ⟨#[]⟩,.string ⟨#[115,101,116]⟩,.string ⟨#[99,111,112,121]⟩,.string ⟨#[97,100,100]⟩,.string ⟨#[115,117,98]⟩,.string ⟨#[109,117,108]⟩,.string ⟨#[108,101,115,115]⟩,.string ⟨#[104,97,115]⟩,.string ⟨#[103,101,116]⟩,.string ⟨#[112,117,116]⟩,.string ⟨#[100,101,108,101,116,101]⟩,.string ⟨#[102,105,110,100]⟩,.string ⟨#[99,111,117,110,116]⟩,.string ⟨#[105,102]⟩,.string ⟨#[108,111,111,112]⟩,.string ⟨#[97,98,111,114,116]⟩]:Array Value)[k]?=some (.string ⟨(Jh k).toArray⟩):=by
   have:k=1\/k=2\/k=3\/k=4\/k=5\/k=6\/k=7\/k=8\/k=9\/k=10\/k=11\/k=12\/k=13\/k=14\/k=15:=by omega
   rcases this with rfl|rfl|rfl|rfl|rfl|rfl|rfl|rfl|rfl|rfl|rfl|rfl|rfl|rfl|rfl<;>rfl
  have hne:D3 ⟨(Jh k).toArray⟩ (k:Int):=by
   have:(⟨(Jh k).toArray⟩:ByteArray).toList.isEmpty=false:=by
    have:k=1\/k=2\/k=3\/k=4\/k=5\/k=6\/k=7\/k=8\/k=9\/k=10\/k=11\/k=12\/k=13\/k=14\/k=15:=by omega
    rcases this with rfl|rfl|rfl|rfl|rfl|rfl|rfl|rfl|rfl|rfl|rfl|rfl|rfl|rfl|rfl<;>decide+kernel
   unfold D3;rw[this];simp[h]
  have hc:(w.alloc (.cells #[.string ⟨#[]⟩,.string ⟨#[115,101,116]⟩,.string ⟨#[99,111,112,121]⟩,.string ⟨#[97,100,100]⟩,.string ⟨#[115,117,98]⟩,.string ⟨#[109,117,108]⟩,.string ⟨#[108,101,115,115]⟩,.string ⟨#[104,97,115]⟩,.string ⟨#[103,101,116]⟩,.string ⟨#[112,117,116]⟩,.string ⟨#[100,101,108,101,116,101]⟩,.string ⟨#[102,105,110,100]⟩,.string ⟨#[99,111,117,110,116]⟩,.string ⟨#[105,102]⟩,.string ⟨#[108,111,111,112]⟩,.string ⟨#[97,98,111,114,116]⟩] 9)).cell? ⟨w.heap.size,k,none⟩=some (.string ⟨(Jh k).toArray⟩):=by rw[<-hg,World.cell?];simp only[heap_alloc_new];rfl
  have HN:=al hne;clear h hg hne;go_enter func126,ntmps126;go_wp2;go_ret
  exact⟨_,rfl,HN.o,(aw _ _).alloc (aE _) _⟩
 ·have HN:=al h;by_cases h1:d<1;rotate_left
  focus
   have h2:15<d:=by omega
  all_goals
   clear h;go_enter func126,ntmps126;go_wp2;go_ret
   exact⟨_,rfl,show D3 ⟨#[]⟩ d from⟨fun _=>HN.o,fun _=>by decide+kernel⟩,(aw _ _).alloc (aE _) _⟩
theorem NJ(d:Int)(i:Nat):ji d i=(if d=1 then i==0||i==2 else if d=8\/d=11 then decide (i<3)else if d=10 then i==1 else if d=12 then true
 else if d=13 then i==0||i==3 else if d=14 then decide (2<=i)else if d=15 then i==0 else decide (i<2)):=rfl
theorem KW(w:World)(d:Int)(i:Nat)(hi:i<4):Calls prog 127 #[.int .i64 d,.int .i64 (i:Int)] w fun e w'=>e=.returned (.bool (ji d i))/\w'=w:=by
 have hh:=NJ d i;have hi4:i=0\/i=1\/i=2\/i=3:=by omega
 by_cases h1:d=1
 focus
  subst h1;simp at hh
 rotate_left
 focus
  have n1:(d==1)=false:=by simpa using h1
  by_cases h8:d=8
  focus
   subst h8;simp at hh
  rotate_left
  focus
   have n8:(d==8)=false:=by simpa using h8
   by_cases h11:d=11
   focus
    subst h11;simp at hh
   rotate_left
   focus
    have n11:(d==11)=false:=by simpa using h11
    by_cases h10:d=10
    focus
     subst h10;simp at hh
    rotate_left
    focus
     have n10:(d==10)=false:=by simpa using h10
     by_cases h12:d=12
     focus
      subst h12;simp at hh
     rotate_left
     focus
      have n12:(d==12)=false:=by simpa using h12
      by_cases ve:d=13
      focus
       subst ve;simp at hh
      rotate_left
      focus
       have n13:(d==13)=false:=by simpa using ve
       by_cases tG:d=14
       focus
        subst tG;simp at hh
       rotate_left
       focus
        have n14:(d==14)=false:=by simpa using tG
        by_cases yU:d=15
        focus
         subst yU;simp at hh
        rotate_left
        focus
         have n15:(d==15)=false:=by simpa using yU
         simp[h1,h8,h11,h10,h12,ve,tG,yU]at hh;clear h1 h8 h11 h10 h12 ve tG yU
 all_goals
  rcases hi4 with rfl|rfl|rfl|rfl
  ·have H:=al hh;clear hh;go_enter func127,ntmps127;go_wp2;go_ret
   exact⟨by rw[H.o];rfl,rfl⟩
  ·have H:=al hh;clear hh;go_enter func127,ntmps127;go_wp2;go_ret
   exact⟨by rw[H.o];rfl,rfl⟩
  ·have H:=al hh;clear hh;go_enter func127,ntmps127;go_wp2;go_ret
   exact⟨by rw[H.o];rfl,rfl⟩
  ·have H:=al hh;clear hh;go_enter func127,ntmps127;go_wp2;go_ret
   exact⟨by rw[H.o];rfl,rfl⟩
def aO.ref(o:aO):Value:=.agg #[.int .i64 o.d,.int .i64 o.a,.int .i64 o.b,.int .i64 o.c,.int .i64 o.n]
theorem Vv{w:World}{B:Nat}{o:aO}{t:TypeId}(h:w.heap[B]?=some (.cells #[.int .i64 o.d,.int .i64 o.a,.int .i64 o.b,.int .i64 o.c,.int .i64 o.n] t (0,0)))(i:Nat)(hi:i<4):w.cell? ⟨B,1+i,none⟩=some (.int .i64 (o.mh i)):=by
 have:i=0\/i=1\/i=2\/i=3:=by omega
 rcases this with rfl|rfl|rfl|rfl<;>simp[World.cell?,h,aO.mh]
theorem D4{o:aO}(h: ¬(1<=o.d/\o.d<=15)):bJ o=false:=by unfold bJ;rw[decide_eq_false h];rfl
theorem Gi{o:aO}{i:Nat}(hi:i<4)(h1:ji o.d i=false)(h2:o.mh i≠0):bJ o=false:=by unfold bJ;rw[Bool.and_eq_false_iff];right;rw[Bool.eq_false_iff];intro h;rw[List.all_eq_true]at h;have:=h i (List.mem_range.2 hi);rw[h1]at this;simp at this;exact h2 this
theorem Gj{o:aO}(h:1<=o.d/\o.d<=15)(h2: ∀i,i<4->ji o.d i=false->o.mh i=0):bJ o=true:=by
 unfold bJ;rw[decide_eq_true h,Bool.true_and,List.all_eq_true];intro i hi;have hi:=List.mem_range.1 hi
 cases hh:ji o.d i with
 |true=>rfl
 |false=>simp[h2 i hi hh]
theorem Gk(w:World)(o:aO):Calls prog 85 #[o.ref] w fun e w'=>e=.returned (.bool (bJ o))/\Below w.heap.size w w':=by
 unfold aO.ref;have hb1:Below w.heap.size w (w.alloc (.cells #[.int .i64 o.d,.int .i64 o.a,.int .i64 o.b,.int .i64 o.c,.int .i64 o.n] 208)):=(aw _ _).alloc (aE _) _;have k1:=an w (.cells #[.int .i64 o.d,.int .i64 o.a,.int .i64 o.b,.int .i64 o.c,.int .i64 o.n] 208);have uB:=al hb1;clear hb1;go_enter func85,ntmps85;go_wp2_with fail;generalize w.alloc (.cells #[.int .i64 o.d,.int .i64 o.a,.int .i64 o.b,.int .i64 o.c,.int .i64 o.n] 208)=w1 at k1 uB⊢;obtain⟨B,hB⟩:=qt (w.heap.size);rw[hB]at k1⊢;have NK:=al hB;clear hB;refine(Gh w1 o.d).m ?_;rintro e w2 ⟨s,rfl,hs,hb2⟩;have k2:=pt hb2 k1;have fg:=al (uB.o.x (hb2.m uB.o.size));clear hb2 k1;by_cases hd:1<=o.d/\o.d<=15
 ·have hs1:s.toList.isEmpty=false:=by rw[Bool.eq_false_iff];exact fun h=>hs.1 h hd
  clear hs;have HD:=al hd;have c0:w2.cell? ⟨B,0,none⟩=some (.int .i64 o.d):=by simp[World.cell?,k2]
  have K2:=al k2;clear hd k2;go_wp2_with fail
  go_loopw [3] (fun i wr=> ∃k:Nat,k<=4/\i=.int .i64 (k:Int)/\(∀j,j<k->ji o.d j=false->o.mh j=0)/\wr=w2) (fun i _=>4-(intOf i).toNat)
  case atStart=>exact⟨0,by omega,rfl,fun j h=>absurd h (by omega),rfl⟩
  case round=>
   obtain⟨k,hk,rfl,hal,hwr⟩:=hrel;subst hwr;have HA:=al hal;clear hal;by_cases hlt:k<4
   ·have ck:=Vv K2.o k hlt;have HC:=al ck;have acC:wr.cell? ⟨B,1+k,none⟩=some (.int .i64 (o.mh k)):=ck;have i1:(0:Int)<=(k:Int):=by omega
    have i2:(k:Int)<4:=by omega
    clear ck;go_wp2_with fail;refine(KW wr o.d k hlt).m ?_;rintro e w3 ⟨rfl,rfl⟩;obtain⟨hb,Xu⟩:=qt (ji o.d k);rw[Xu];have HH:=al Xu;clear Xu
    cases hb with
    |true=>
     go_wp2_with fail;go_roundw
     case rel=>exact⟨k+1,by omega,by go_num,(fun j hj hh=>by
      rcases Nat.lt_or_ge j k with h|h
      ·exact HA.o j h hh
      ·have:j=k:=by omega
       subst this;rw[HH.o]at hh
       cases hh),trivial⟩
     case measure=>simp[intOf];omega
    |false=>
     by_cases hz:o.mh k=0
     ·have hz':(o.mh k !=0)=false:=by simpa using hz
      have HZ:=al hz;clear hz;go_wp2_with fail;go_roundw
      case rel=>exact⟨k+1,by omega,by go_num,(fun j hj hh=>by
       rcases Nat.lt_or_ge j k with h|h
       ·exact HA.o j h hh
       ·have:j=k:=by omega
        subst this
        exact HZ.o),trivial⟩
      case measure=>simp[intOf];omega
     ·have hz':(o.mh k !=0)=true:=by simpa using hz
      have HZ:=al (Gi hlt HH.o hz);clear hz;go_wp2_with fail;go_ret
      exact⟨by rw[HZ.o];rfl,fg.o⟩
   ·obtain rfl:k=4:=by omega
    have HY:=al (Gj HD.o HA.o);go_wp2_with fail;go_ret
    exact⟨by rw[HY.o];rfl,fg.o⟩
 ·have hs1:s.toList.isEmpty=true:=hs.2 hd;clear hs;have HF:=al (D4 hd);clear hd k2;go_wp2_with fail;go_ret
  exact⟨by rw[HF.o];rfl,fg.o⟩
theorem uF(w:World)(o:aO):Calls prog 87 #[o.ref] w fun e w'=>e=.returned (.bool o.holds)/\Below w.heap.size w w':=by
 unfold aO.ref;by_cases h:o.d=13
 focus
  have hh:o.holds=true:=by unfold aO.holds;rw[h];rfl
  have ve:(o.d==13)=true:=by simpa using h
 rotate_left
 focus
  have ve:(o.d==13)=false:=by simpa using h
  have hh:o.holds=(o.d==14):=by unfold aO.holds;rw[ve,Bool.false_or]
 all_goals
  have HH:=al hh;clear hh h;go_enter func87,ntmps87;go_wp2;go_ret
  exact⟨by rw[HH.o];rfl,(aw _ _).alloc (aE _) _⟩
def vH(o:aO):Prop:=0<=o.a/\(o.d=9->o.a<=4)/\(o.d≠9->o.a<=7)/\0<=o.b/\o.b<=7/\0<=o.n/\(o.d=1-> -1099511627776<=o.c/\o.c<=1099511627776)/\(o.d=8\/o.d=11->0<=o.c/\o.c<=3)/\
 (o.d=12->0<=o.c/\o.c<=3/\o.n<=1099511627776)/\(o.d=13->o.n<=64)/\(o.d=14->0<=o.c/\o.c<=16/\o.n<=64)
theorem y8{o:aO}(h:bJ o=true):vH o↔cw o=true:=by
 have hd:=tE h;obtain⟨d,a,b,c,n⟩:=o;simp only at hd;have:d=1\/d=2\/d=3\/d=4\/d=5\/d=6\/d=7\/d=8\/d=9\/d=10\/d=11\/d=12\/d=13\/d=14\/d=15:=by omega
 rcases this with rfl|rfl|rfl|rfl|rfl|rfl|rfl|rfl|rfl|rfl|rfl|rfl|rfl|rfl|rfl<;>
  simp[bJ,cw,ji,tv,rN,aO.mh,List.range_succ,vH]at h⊢ <;>omega
theorem BV(w:World)(o:aO)(r:Bool)(hr:r=true↔vH o):Calls prog 86 #[o.ref] w fun e w'=>e=.returned (.bool r)/\Below w.heap.size w w':=by
 obtain⟨D,A,B,C,N⟩:=o;unfold aO.ref;unfold vH at hr;simp only at hr⊢;by_cases h9:D=9
 ·subst h9;by_cases a0: ¬A<0
  ·skip
   by_cases a1: ¬4<A
   ·skip
    by_cases b0: ¬B<0
    ·skip
     by_cases b1: ¬7<B
     focus
      by_cases n0: ¬N<0
      focus
       obtain rfl:r=true:=hr.2 (by omega)
      rotate_left
      focus
       obtain rfl:r=false:=ee.2 (fun h=>by have:=hr.1 h;omega)
     rotate_left 2
     focus
      obtain rfl:r=false:=ee.2 (fun h=>by have:=hr.1 h;omega)
     all_goals
      clear hr;go_enter func86,ntmps86;go_wp2;go_ret
      exact⟨rfl,(aw _ _).alloc (aE _) _⟩
    ·skip
     obtain rfl:r=false:=ee.2 (fun h=>by have:=hr.1 h;omega);clear hr;go_enter func86,ntmps86;go_wp2;go_ret
     exact⟨rfl,(aw _ _).alloc (aE _) _⟩
   ·skip
    obtain rfl:r=false:=ee.2 (fun h=>by have:=hr.1 h;omega);clear hr;go_enter func86,ntmps86;go_wp2;go_ret
    exact⟨rfl,(aw _ _).alloc (aE _) _⟩
  ·skip
   obtain rfl:r=false:=ee.2 (fun h=>by have:=hr.1 h;omega);clear hr;go_enter func86,ntmps86;go_wp2;go_ret
   exact⟨rfl,(aw _ _).alloc (aE _) _⟩
 ·have n9:(D==9)=false:=by simpa using h9
  by_cases a0: ¬A<0
  ·skip
   by_cases a1: ¬7<A
   ·skip
    by_cases b0: ¬B<0
    ·skip
     by_cases b1: ¬7<B
     focus
      by_cases n0: ¬N<0
      focus
       by_cases h1:D=1
       focus
        subst h1;by_cases c0: -1099511627776<=C
        focus
         by_cases c1:C<=1099511627776
         focus
          obtain rfl:r=true:=hr.2 (by omega)
         rotate_left
         focus
          obtain rfl:r=false:=ee.2 (fun h=>by have:=hr.1 h;omega)
        rotate_left 2
        focus
         obtain rfl:r=false:=ee.2 (fun h=>by have:=hr.1 h;omega)
       rotate_left 3
       focus
        have n1:(D==1)=false:=by simpa using h1
        by_cases h8:D=8
        focus
         subst h8;by_cases c0:0<=C
         focus
          by_cases c1:C<=3
          focus
           obtain rfl:r=true:=hr.2 (by omega)
          rotate_left
          focus
           obtain rfl:r=false:=ee.2 (fun h=>by have:=hr.1 h;omega)
         rotate_left 2
         focus
          obtain rfl:r=false:=ee.2 (fun h=>by have:=hr.1 h;omega)
        rotate_left 3
        focus
         have n8:(D==8)=false:=by simpa using h8
         by_cases h11:D=11
         focus
          subst h11;by_cases c0:0<=C
          focus
           by_cases c1:C<=3
           focus
            obtain rfl:r=true:=hr.2 (by omega)
           rotate_left
           focus
            obtain rfl:r=false:=ee.2 (fun h=>by have:=hr.1 h;omega)
          rotate_left 2
          focus
           obtain rfl:r=false:=ee.2 (fun h=>by have:=hr.1 h;omega)
         rotate_left 3
         focus
          have n11:(D==11)=false:=by simpa using h11
          by_cases h12:D=12
          focus
           subst h12;by_cases c0:0<=C
           focus
            by_cases c1:C<=3
            focus
             by_cases n1:N<=1099511627776
             focus
              obtain rfl:r=true:=hr.2 (by omega)
             rotate_left
             focus
              obtain rfl:r=false:=ee.2 (fun h=>by have:=hr.1 h;omega)
            rotate_left 2
            focus
             obtain rfl:r=false:=ee.2 (fun h=>by have:=hr.1 h;omega)
           rotate_left 3
           focus
            obtain rfl:r=false:=ee.2 (fun h=>by have:=hr.1 h;omega)
          rotate_left 4
          focus
           have n12:(D==12)=false:=by simpa using h12
           by_cases ve:D=13
           focus
            subst ve;by_cases n1:N<=64
            focus
             obtain rfl:r=true:=hr.2 (by omega)
            rotate_left
            focus
             obtain rfl:r=false:=ee.2 (fun h=>by have:=hr.1 h;omega)
           rotate_left 2
           focus
            have n13:(D==13)=false:=by simpa using ve
            by_cases tG:D=14
            focus
             subst tG;by_cases c0:0<=C
             focus
              by_cases c1:C<=16
              focus
               by_cases n1:N<=64
               focus
                obtain rfl:r=true:=hr.2 (by omega)
               rotate_left
               focus
                obtain rfl:r=false:=ee.2 (fun h=>by have:=hr.1 h;omega)
              rotate_left 2
              focus
               obtain rfl:r=false:=ee.2 (fun h=>by have:=hr.1 h;omega)
             rotate_left 3
             focus
              obtain rfl:r=false:=ee.2 (fun h=>by have:=hr.1 h;omega)
            rotate_left 4
            focus
             have n14:(D==14)=false:=by simpa using tG
             obtain rfl:r=true:=hr.2 (by omega)
      rotate_left 20
      focus
       obtain rfl:r=false:=ee.2 (fun h=>by have:=hr.1 h;omega)
     rotate_left 21
     focus
      obtain rfl:r=false:=ee.2 (fun h=>by have:=hr.1 h;omega)
     all_goals
      clear hr;go_enter func86,ntmps86;go_wp2;go_ret
      exact⟨rfl,(aw _ _).alloc (aE _) _⟩
    ·skip
     obtain rfl:r=false:=ee.2 (fun h=>by have:=hr.1 h;omega);clear hr;go_enter func86,ntmps86;go_wp2;go_ret
     exact⟨rfl,(aw _ _).alloc (aE _) _⟩
   ·skip
    obtain rfl:r=false:=ee.2 (fun h=>by have:=hr.1 h;omega);clear hr;go_enter func86,ntmps86;go_wp2;go_ret
    exact⟨rfl,(aw _ _).alloc (aE _) _⟩
  ·skip
   obtain rfl:r=false:=ee.2 (fun h=>by have:=hr.1 h;omega);clear hr;go_enter func86,ntmps86;go_wp2;go_ret
   exact⟨rfl,(aw _ _).alloc (aE _) _⟩
def Mj(l:List aO)(i k:Nat):List Int:=((l.take k).zipIdx.filter (fun x=>x.1.holds&&decide ((i:Int)<cI x.2 x.1))).map (fun x=>cI x.2 x.1)
theorem NL(l:List aO)(i:Nat):Mj l i 0=[]:=by simp[Mj]
theorem NM{l:List aO}{i k:Nat}{x:aO}(h:l[k]?=some x):Mj l i (k+1)=Mj l i k++(if x.holds&&decide ((i:Int)<cI k x)then[cI k x]else[]):=by
 have hk:k<l.length:=(b8.1 h).1;unfold Mj;rw[iv,h,List.zipIdx_append,mw,gk];congr 1;have hl:(l.take k).length=k:=by rw[kh];omega
 simp only[Option.toList,List.zipIdx_cons,List.zipIdx_nil,hl,gx]
 cases hc:(x.holds&&decide ((i:Int)<cI k x))with
 |true=>simp[List.filter,hc]
 |false=>simp[List.filter,hc]
theorem Ji(l:List aO)(i:Nat):Mj l i i=opens l i:=rfl
theorem za(w:World)(F:Nat->Prop)(v:Value)(l:List aO)(h:gu w F v l):
  Calls prog 61 #[v] w fun e w'=>e=.returned (.int .i64 (opsE l))/\Below w.heap.size w w':=by
 obtain⟨A,c,rfl,hlc,hcm⟩:=h.slice;unfold maxLen at hcm;by_cases h64:64<l.length
 ·have HE:=al (show opsE l=23 by unfold opsE;rw[fi h64]);have Vo:(64:Int)<(l.length:Int):=by omega
  clear h;go_enter func61,ntmps61;go_wp2_with fail;go_ret
  exact⟨by rw[HE.o];rfl,aw _ _⟩
 have hE:opsE l=if l.all bJ=false then 11 else if l.all cw=false then 10 else if gK l=false then 11 else 0:=by unfold opsE;rw[ff h64]
 have Vo: ¬((64:Int)<(l.length:Int)):=by omega
 have H:=al (ab h hE);clear h hE;go_enter func61,ntmps61;go_wp2_with fail
 go_loopw [3] (fun i wr=> ∃k:Nat,k<=l.length/\i=.int .i64 (k:Int)/\Jd w l bJ k wr) (fun i _=>l.length-(intOf i).toNat)
 case atStart=>exact⟨0,dq _,rfl,rfl,aw _ _⟩
 case round=>
  obtain⟨k,hk,rfl,hal,hbl⟩:=hrel;by_cases hlt:k<l.length
  ·obtain⟨x,hx⟩: ∃x,l[k]?=some x:=⟨_,ao hlt⟩;obtain⟨b,o,rfl,qP,c0,c1,c2,c3,c4⟩:=H.o.1.at_ hx;have dI:=aq _ _ c0;have d0:=(hbl.cell (p:=⟨b,o+k*5,none⟩) dI).x c0;have d1:=(hbl.cell (p:=⟨b,o+k*5+1,none⟩) dI).x c1;have d2:=(hbl.cell (p:=⟨b,o+k*5+2,none⟩) dI).x c2;have d3:=(hbl.cell (p:=⟨b,o+k*5+3,none⟩) dI).x c3;have d4:=(hbl.cell (p:=⟨b,o+k*5+4,none⟩) dI).x c4;obtain⟨D,A',B',C',N'⟩:=x;simp only at d0 d1 d2 d3 d4;have HF:=al (Gk wr ⟨D,A',B',C',N'⟩);have HX:=al (ab hx (ab hal hbl));clear hx hal hbl c0 c1 c2 c3 c4 qP dI;go_wp2_with fail;refine HF.o.m ?_;rintro e w5 ⟨rfl,fR⟩;have uC:=al (HX.o.d.x (fR.m HX.o.d.size));clear fR HF
   cases hf:bJ ⟨D,A',B',C',N'⟩with
   |true=>
    have HV:=al hf;clear hf;go_wp2_with fail;go_roundw
    case rel=>exact⟨k+1,by omega,by go_num,pT HX.o.2.1 HX.o.1 HV.o,uC.o⟩
    case measure=>simp[intOf];omega
   |false=>
    have HV:=al hf;clear hf;go_wp2_with fail;go_ret
    exact⟨by rw[H.o.2,fi (lS HX.o.1 HV.o)];rfl,uC.o⟩
  ·obtain rfl:k=l.length:=by omega
   rw[gd]at hal;have HA:=al (ab hal hbl);clear hal hbl;go_wp2_with fail
   go_loopw [4] (fun i wr=> ∃k:Nat,k<=l.length/\i=.int .i64 (k:Int)/\Jd w l cw k wr) (fun i _=>l.length-(intOf i).toNat)
   case atStart=>exact⟨0,dq _,rfl,rfl,HA.o.2⟩
   case round=>
    obtain⟨k,hk,rfl,hal,hbl⟩:=hrel;by_cases hlt:k<l.length
    ·obtain⟨x,hx⟩: ∃x,l[k]?=some x:=⟨_,ao hlt⟩;obtain⟨b,o,rfl,qP,c0,c1,c2,c3,c4⟩:=H.o.1.at_ hx;have dI:=aq _ _ c0;have d0:=(hbl.cell (p:=⟨b,o+k*5,none⟩) dI).x c0;have d1:=(hbl.cell (p:=⟨b,o+k*5+1,none⟩) dI).x c1;have d2:=(hbl.cell (p:=⟨b,o+k*5+2,none⟩) dI).x c2;have d3:=(hbl.cell (p:=⟨b,o+k*5+3,none⟩) dI).x c3;have d4:=(hbl.cell (p:=⟨b,o+k*5+4,none⟩) dI).x c4;have YP:=List.all_eq_true.1 HA.o.1 x (de hx);have hwr:=y8 YP;obtain⟨D,A',B',C',N'⟩:=x;simp only at d0 d1 d2 d3 d4;have HF:=al (BV wr ⟨D,A',B',C',N'⟩ (cw ⟨D,A',B',C',N'⟩) hwr.symm);clear YP hwr;have HX:=al (ab hx (ab hal hbl));clear hx hal hbl c0 c1 c2 c3 c4 qP dI;go_wp2_with fail;refine HF.o.m ?_;rintro e w5 ⟨rfl,fR⟩;have uC:=al (HX.o.d.x (fR.m HX.o.d.size));clear fR HF
     cases hf:cw ⟨D,A',B',C',N'⟩with
     |true=>
      have HV:=al hf;clear hf;go_wp2_with fail;go_roundw
      case rel=>exact⟨k+1,by omega,by go_num,pT HX.o.2.1 HX.o.1 HV.o,uC.o⟩
      case measure=>simp[intOf];omega
     |false=>
      have HV:=al hf;clear hf;go_wp2_with fail;go_ret
      exact⟨by rw[H.o.2,ff (by rw[HA.o.1];simp),fi (lS HX.o.1 HV.o)];rfl,uC.o⟩
    ·obtain rfl:k=l.length:=by omega
     rw[gd]at hal;have HR:=al (ab hal hbl);clear hal hbl;go_wp2_with fail
     go_loopw [5,6,7,8] (fun i _ _ _ wr=> ∃k:Nat,k<=l.length/\i=.int .i64 (k:Int)/\dB l k=true/\Below w.heap.size w wr) (fun i _ _ _ _=>l.length-(intOf i).toNat)
     case atStart=>exact⟨0,dq _,rfl,rfl,HR.o.2⟩
     case round=>
      obtain⟨i,hi,rfl,hnt,hbl⟩:=hrel;have YQ:=al (ab hnt hbl);clear hnt hbl;by_cases hil:i<l.length
      ·obtain⟨xi,hxi⟩: ∃x,l[i]?=some x:=⟨_,ao hil⟩;have HXI:=al hxi;clear hxi;have acD:(i:Int)<(l.length:Int):=by omega
       go_wp2_with fail
       go_loopw [6,7,8] (fun en dp kk wr=> ∃(k m:Nat) (es:List Int) (CM:Int),k<=i/\kk=.int .i64 (k:Int)/\es=Mj l i k/\en=.int .i64 CM/\CM=es.foldl min (l.length:Int)/\dp=.int .i64 (m:Int)/\m=es.length/\m<=k/\(-100<=CM/\CM<=100)/\Below w.heap.size w wr) (fun _ _ kk _=>i-(intOf kk).toNat)
       case atStart=>exact⟨0,0,[],(l.length:Int),by omega,rfl,(NL _ _).symm,rfl,rfl,rfl,rfl,by omega,by omega,YQ.o.2⟩
       case round=>
        obtain⟨k,m,es,CM,hk,rfl,hes,rfl,hen,rfl,hm,hmk,hb,hbl⟩:=hrel;have HI:=al (ab hes (ab hen hm));clear hes hen hm;by_cases hki:k<i
        ·obtain⟨x,hx⟩: ∃x,l[k]?=some x:=⟨_,ao (by omega)⟩;obtain⟨b,o,rfl,qP,c0,c1,c2,c3,c4⟩:=H.o.1.at_ hx;have dI:=aq _ _ c0;have d0:=(hbl.cell (p:=⟨b,o+k*5,none⟩) dI).x c0;have d1:=(hbl.cell (p:=⟨b,o+k*5+1,none⟩) dI).x c1;have d2:=(hbl.cell (p:=⟨b,o+k*5+2,none⟩) dI).x c2;have d3:=(hbl.cell (p:=⟨b,o+k*5+3,none⟩) dI).x c3;have d4:=(hbl.cell (p:=⟨b,o+k*5+4,none⟩) dI).x c4;have hsu:=NM (i:=i) hx;have hrx:=List.all_eq_true.1 HR.o.1 x (de hx);have hk':(k:Int)<(i:Int):=by omega
         have i1:(0:Int)<=(k:Int):=by omega
         have i2:(k:Int)<(l.length:Int):=by omega
         have Qt:x.holds=true->0<=x.n/\x.n<=64:=fun hh=>nN hrx hh;obtain⟨D,A',B',C',N'⟩:=x;simp only at d0 d1 d2 d3 d4 Qt;have HC:=al (uF wr ⟨D,A',B',C',N'⟩);have HX:=al (ab hsu hbl);clear hx hsu hbl hrx c0 c1 c2 c3 c4 qP;go_wp2_with fail;refine HC.o.m ?_;rintro e w5 ⟨rfl,fR⟩;have e4:=(fR.cell (p:=⟨b,o+k*5+4,none⟩) (aq _ _ d4)).x d4;have uC:=al (HX.o.2.x (fR.m HX.o.2.size));clear fR HC d0 d1 d2 d3 d4 dI
         cases hh:aO.holds ⟨D,A',B',C',N'⟩with
         |true=>
          have hn:=Qt hh;have HV:=al hh;clear hh Qt;by_cases hge:(i:Int)<=(k:Int)+N'
          ·have HS:=al (show Mj l i (k+1)=es++[(k:Int)+1+N'] by
            rw[HX.o.1,HV.o,<-HI.o.1,Bool.true_and,decide_eq_true (by unfold cI;simp only;omega)]
            rfl)
           by_cases hmin:(k:Int)+1+N'<=CM
           ·have Vb:min CM ((k:Int)+1+N')=(k:Int)+1+N':=Int.min_eq_right hmin;have HMN:=al Vb;go_wp2_with fail;go_roundw
            case rel=>
             refine⟨k+1,m+1,Mj l i (k+1),(k:Int)+1+N',by omega,by go_num,rfl,by go_num,?_,by go_num,?_,by omega,by omega,uC.o⟩
             ·rw[HS.o,List.foldl_append,<-HI.o.2.1];exact HMN.o.symm
             ·rw[HS.o,fb,<-HI.o.d];rfl
            case measure=>simp[intOf];omega
           ·have Vb:min CM ((k:Int)+1+N')=CM:=Int.min_eq_left (by omega);have HMN:=al Vb;go_wp2_with fail;go_roundw
            case rel=>
             refine⟨k+1,m+1,Mj l i (k+1),CM,by omega,by go_num,rfl,by go_num,?_,by go_num,?_,by omega,by omega,uC.o⟩
             ·rw[HS.o,List.foldl_append,<-HI.o.2.1];exact HMN.o.symm
             ·rw[HS.o,fb,<-HI.o.d];rfl
            case measure=>simp[intOf];omega
          ·have HS:=al (show Mj l i (k+1)=es by
            rw[HX.o.1,HV.o,<-HI.o.1,Bool.true_and,decide_eq_false (by unfold cI;simp only;omega)]
            simp)
           go_wp2_with fail;go_roundw
           case rel=>exact⟨k+1,m,es,CM,by omega,by go_num,HS.o.symm,rfl,HI.o.2.1,rfl,HI.o.d,by omega,by omega,uC.o⟩
           case measure=>simp[intOf];omega
         |false=>
          have HS:=al (show Mj l i (k+1)=es by
           rw[HX.o.1,hh,<-HI.o.1]
           simp)
          clear hh Qt;go_wp2_with fail;go_roundw
          case rel=>exact⟨k+1,m,es,CM,by omega,by go_num,HS.o.symm,rfl,HI.o.2.1,rfl,HI.o.d,by omega,by omega,uC.o⟩
          case measure=>simp[intOf];omega
        ·obtain rfl:k=i:=by omega
         have hx:=HXI.o;have jo:=Ks (Nat.le_of_lt hil) YQ.o.1 es (HI.o.1.x (Ji l k));rw[<-HI.o.2.1]at jo;have hsu:=bX hx;have hpl:dV l k xi=(decide (m<=8)&&(!xi.holds||decide (cI k xi<=CM))):=by unfold dV;rw[<-Ji,<-HI.o.1,<-HI.o.d,<-jo]
         obtain⟨b,o,rfl,qP,c0,c1,c2,c3,c4⟩:=H.o.1.at_ hx;have dI:=aq _ _ c0;have d0:=(hbl.cell (p:=⟨b,o+k*5,none⟩) dI).x c0;have d1:=(hbl.cell (p:=⟨b,o+k*5+1,none⟩) dI).x c1;have d2:=(hbl.cell (p:=⟨b,o+k*5+2,none⟩) dI).x c2;have d3:=(hbl.cell (p:=⟨b,o+k*5+3,none⟩) dI).x c3;have d4:=(hbl.cell (p:=⟨b,o+k*5+4,none⟩) dI).x c4;have hrx:=List.all_eq_true.1 HR.o.1 xi (de hx);have i1:(0:Int)<=(k:Int):=by omega
         have Qt:xi.holds=true->0<=xi.n/\xi.n<=64:=fun hh=>nN hrx hh;rw[YQ.o.1,Bool.true_and,hpl]at hsu;obtain⟨D,A',B',C',N'⟩:=xi;simp only at d0 d1 d2 d3 d4 Qt;have HC:=al (uF wr ⟨D,A',B',C',N'⟩);have HX:=al (ab hsu hbl);clear hx hsu hbl hrx c0 c1 c2 c3 c4 qP jo hpl;by_cases h8:m<=8
         ·have YK: ¬(8:Int)<(m:Int):=by omega
          go_wp2_with fail;refine HC.o.m ?_;rintro e w5 ⟨rfl,fR⟩;have e4:=(fR.cell (p:=⟨b,o+k*5+4,none⟩) (aq _ _ d4)).x d4;have uC:=al (HX.o.2.x (fR.m HX.o.2.size));clear fR HC d0 d1 d2 d3 d4 dI
          cases hh:aO.holds ⟨D,A',B',C',N'⟩with
          |true=>
           have hn:=Qt hh;have HV:=al hh;clear hh Qt;by_cases hle:(k:Int)+1+N'<=CM
           ·have HY:=al (show dB l (k+1)=true by rw[HX.o.1,HV.o,decide_eq_true h8,decide_eq_true (show cI k ⟨D,A',B',C',N'⟩<=CM from hle)];rfl);have abe: ¬CM<(k:Int)+1+N':=by omega
            go_wp2_with fail;go_roundw
            case rel=>exact⟨k+1,by omega,by go_num,HY.o,uC.o⟩
            case measure=>simp[intOf];omega
           ·have HY:=al (show dB l (k+1)=false by rw[HX.o.1,HV.o,decide_eq_false (show ¬cI k ⟨D,A',B',C',N'⟩<=CM from hle)];simp);have abe:CM<(k:Int)+1+N':=by omega
            go_wp2_with fail;go_ret
            refine⟨?_,uC.o⟩;rw[H.o.2,ff (by rw[HA.o.1];simp),ff (by rw[HR.o.1];simp),fi]
            ·rfl
            ·rw[Bool.eq_false_iff];intro hnb;have:=eH hnb (show k+1<=l.length by omega);rw[HY.o]at this;cases this
          |false=>
           have HY:=al (show dB l (k+1)=true by rw[HX.o.1,hh,decide_eq_true h8];rfl);clear hh Qt;go_wp2_with fail;go_roundw
           case rel=>exact⟨k+1,by omega,by go_num,HY.o,uC.o⟩
           case measure=>simp[intOf];omega
         ·have YK:(8:Int)<(m:Int):=by omega
          have HY:=al (show dB l (k+1)=false by rw[HX.o.1,decide_eq_false h8];rfl);have uC:=al HX.o.2;clear Qt;go_wp2_with fail;go_ret
          refine⟨?_,uC.o⟩;rw[H.o.2,ff (by rw[HA.o.1];simp),ff (by rw[HR.o.1];simp),fi]
          ·rfl
          ·rw[Bool.eq_false_iff];intro hnb;have:=eH hnb (show k+1<=l.length by omega);rw[HY.o]at this;cases this
      ·obtain rfl:i=l.length:=by omega
       have HY:=al (show opsE l=0 by rw[H.o.2,ff (by rw[HA.o.1];simp),ff (by rw[HR.o.1];simp),ff (by show ¬dB l l.length=false;rw[YQ.o.1];simp)]);go_wp2_with fail;go_ret
       exact⟨by rw[HY.o];rfl,YQ.o.2⟩
theorem Tryz.RV:(prog.info? 208).map (fun i=>(i.zero,i.size,i.bytes))=some (some (.agg #[.int .i64 0,.int .i64 0,.int .i64 0,.int .i64 0,.int .i64 0]),5,40):=by kernel_rfl
theorem NN(l:List aO): ∀x∈l.map aO.cells,x.length=5:=by intro x hx;simp at hx;obtain⟨y,_,rfl⟩:=hx;rfl
theorem RX{l:List aO}{k:Nat}{x:aO}(h:l[k]?=some x):((l.take (k+1)).map aO.cells).flatten=((l.take k).map aO.cells).flatten++x.cells:=by rw[iv,h];simp
theorem zb(w:World)(G:Nat->Prop)(v:Value)(l:List aO)(h:gu w G v l)(hl:l.length<=1000):
  Calls prog 62 #[v] w fun e w'=> ∃A c,e=.returned (.slice A l.length c)/\gu w' (fun k=>w.heap.size<=k) (.slice A l.length c) l/\Below w.heap.size w w':=by
 obtain⟨i2,hi,hz0,hz1,hz2⟩:=ep Tryz.RV;obtain⟨A,c,rfl,hlc,hcm⟩:=h.slice;unfold maxLen at hcm;have HI:=al hi;have H:=al h;clear hi h;go_enter func62,ntmps62;go_wp2_with fail
 go_loopw [3,4] (fun z i wr=> ∃k:Nat,k<=l.length/\i=.int .i64 (k:Int)/\wr.ownsRow w.heap.size 208 5 z k ((l.take k).map aO.cells).flatten/\Below w.heap.size w wr) (fun _ i _=>l.length-(intOf i).toNat)
 case atStart=>exact⟨0,dq _,rfl,ea _ _ _ _,aw _ _⟩
 case round=>
  obtain⟨k,hk,rfl,hown,hbl⟩:=hrel;obtain⟨Az,cz,rfl⟩:=ag hown;by_cases hlt:k<l.length
  ·obtain⟨x,hx⟩: ∃x,l[k]?=some x:=⟨_,ao hlt⟩;obtain⟨b,o,rfl,qP,c0,c1,c2,c3,c4⟩:=H.o.at_ hx;have dI:=aq _ _ c0;have YR:=RX hx;have i1:(0:Int)<=(k:Int):=by omega
   have i2':(k:Int)<(l.length:Int):=by omega
   have hsz:=hbl.size;have hown2:=hown.alloc (.cells #[.int .i64 x.d,.int .i64 x.a,.int .i64 x.b,.int .i64 x.c,.int .i64 x.n] 208);have hnews:=eb (an wr (.cells #[.int .i64 x.d,.int .i64 x.a,.int .i64 x.b,.int .i64 x.c,.int .i64 x.n] 208));have HX:=al (ab hown2 (ab hnews (ab hbl YR)));clear hown hown2 hnews YR hx qP;go_upto_region 5 with fail;refine o0 (S:=(fun w'=>Below w.heap.size w w')) (by kernel_rfl) HX.o.d.1.drew (fun ph=>?_);refine aI [0,1,2,3,4] ?_
   iterate 5 (refine bO (v:=?_) (fun w hSw=>?_) ph ?_;rotate_left;(go_simp;try rfl);try simp only[ai,aj,ak,ar])
   refine aJ ?_;refine dR 5 (v:=?_) (fun w hSw=>?_) ph ?_;rotate_left
   ·have z0:=(hSw.cell (p:=⟨b,o+k*5,none⟩) dI).x c0;go_simp;try rfl
   try simp only[ai,aj,ak,ar]
   refine aI [6,7,8,9] ?_
   iterate 4 (refine bO (v:=?_) (fun w hSw=>?_) ph ?_;rotate_left;(go_simp;try rfl);try simp only[ai,aj,ak,ar])
   refine aJ ?_;refine dR 10 (v:=?_) (fun w hSw=>?_) ph ?_;rotate_left
   ·have z1:=(hSw.cell (p:=⟨b,o+k*5+1,none⟩) dI).x c1;go_simp;try rfl
   try simp only[ai,aj,ak,ar]
   refine aI [11,12,13,14] ?_
   iterate 4 (refine bO (v:=?_) (fun w hSw=>?_) ph ?_;rotate_left;(go_simp;try rfl);try simp only[ai,aj,ak,ar])
   refine aJ ?_;refine dR 15 (v:=?_) (fun w hSw=>?_) ph ?_;rotate_left
   ·have z2:=(hSw.cell (p:=⟨b,o+k*5+2,none⟩) dI).x c2;go_simp;try rfl
   try simp only[ai,aj,ak,ar]
   refine aI [16,17,18,19] ?_
   iterate 4 (refine bO (v:=?_) (fun w hSw=>?_) ph ?_;rotate_left;(go_simp;try rfl);try simp only[ai,aj,ak,ar])
   refine aJ ?_;refine dR 20 (v:=?_) (fun w hSw=>?_) ph ?_;rotate_left
   ·have z3:=(hSw.cell (p:=⟨b,o+k*5+3,none⟩) dI).x c3;go_simp;try rfl
   try simp only[ai,aj,ak,ar]
   refine aI [21,22,23,24] ?_
   iterate 4 (refine bO (v:=?_) (fun w hSw=>?_) ph ?_;rotate_left;(go_simp;try rfl);try simp only[ai,aj,ak,ar])
   refine aJ ?_;refine dR 25 (v:=?_) (fun w hSw=>?_) ph ?_;rotate_left
   ·have z4:=(hSw.cell (p:=⟨b,o+k*5+4,none⟩) dI).x c4;go_simp;try rfl
   try simp only[ai,aj,ak,ar]
   refine aI [26,27] ?_
   iterate 2 (refine bO (v:=?_) (fun w hSw=>?_) ph ?_;rotate_left;(go_simp;try rfl);try simp only[ai,aj,ak,ar])
   refine aJ ?_;refine aW 28 (fun K hK=>?_);go_simp;refine hK.o _ _ (HX.o.d.1.drew.alloc hsz _) ?_;clear hK K ph;intro ph
   try simp only[ai,aj,ak,ar]
   refine aW 29 (fun K hK=>?_)
   (refine step_append_lies _ (by rfl) _ _ 151 (by rfl) w.heap.size 208 i2 _ 5 40 underlying151 HI.o hz0 hz1 hz2 (by rfl) (by decide) (.slice Az k cz) k _ (by rfl) HX.o.1 ⟨wr.heap.size,0,none⟩ 1 1 [.int .i64 x.d,.int .i64 x.a,.int .i64 x.b,.int .i64 x.c,.int .i64 x.n] (by rfl) (by rfl) HX.o.2.1 (by simp[Value.oneCell']) (by decide) (by unfold maxLen;omega) (by omega) (by simp;omega) (wr.heap.size+1) (by simp) ?_)
   intro g3 D5 wA dJ bG ml RY;refine hK.o _ _ (((HX.o.d.1.alloc hsz _).drew).grown bG (by simp;omega) (fun j hj=>(HX.o.1.lt j hj).1)) ?_;clear hK K ph;intro ph
   try simp only[ai,aj,ak,ar]
   refine dR 30 (v:=?_) (fun w hSw=>?_) ph ?_;rotate_left
   ·go_simp;try rfl
   try simp only[ai,aj,ak,ar]
   refine pb (by kernel_rfl) ?_ _;have HG3:=al (ab dJ ph);clear dJ bG ml ph c0 c1 c2 c3 c4;go_wp2_with fail;go_roundw
   case rel=>refine⟨k+1,by omega,by go_num,?_,HG3.o.2⟩;rw[HX.o.t];simpa[aO.cells]using HG3.o.1
   case measure=>simp[intOf];omega
  ·obtain rfl:k=l.length:=by omega
   rw[gd]at hown;have HO:=al (ab hown hbl);clear hown hbl;go_wp2_with fail;go_ret
   exact⟨Az,cz,rfl,aS.aU HO.o.1 (NN l) (by decide) (fun g hg=>(HO.o.1.lt g hg).1),HO.o.2⟩
end Go.Proofs.YtmkofmeojbcakaaGreatDoor
