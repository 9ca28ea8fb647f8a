import Derived.Test.YtmkofmeojbcakaaGreatDoorC11
import Derived.Test.YtmkofmeojbcakaaGreatDoorC32
namespace Go.Proofs.YtmkofmeojbcakaaGreatDoor
open Go.Proofs.Tryz
set_option maxRecDepth 100000
set_option maxHeartbeats 16000000
open Go.RowKit
def ow(o:aO):List UInt8:=jB [o.d,o.a,o.b]++(encI [o.c]++jB [o.n])
def Cw(c:Cl):Int:=if c.wr then 1 else 0
def Hg(s:List UInt8):List UInt8:=lQ s.length++s
def kY(c:Cl):List UInt8:=jB [Cw c]++(encI [c.aM]++(Hg c.key++encI [c.lo,c.hi]))
def inside(e:FE):List UInt8:=jB [e.id,(e.ops.length:Int)]++(e.ops.flatMap ow++(jB [(e.args.length:Int)]++(encI e.args++(jB [(e.cls.length:Int)]++e.cls.flatMap kY))))
theorem AU(o:aO):(ow o).length<=50:=by unfold ow;have h1:=eD [o.d,o.a,o.b];have h2:=fN [o.c];have h3:=eD [o.n];simp only[fb,fm,ix]at *;omega
theorem AV(c:Cl):(kY c).length<=50+c.key.length:=by unfold kY Hg;have h1:=eD [Cw c];have h2:=fN [c.aM];have h3:=fN [c.lo,c.hi];have h4:=dv c.key.length;simp only[fb,fm,ix]at *;omega
theorem vR{α:Type}{f:α->List UInt8}{m:Nat}{l:List α}(h: ∀x∈l,(f x).length<=m):(l.flatMap f).length<=m*l.length:=by
 induction l with
 |nil=>simp
 |cons x l ih=>have h1:=h x (by simp);have h2:=ih (fun y hy=>h y (by simp[hy]));rw[List.flatMap_cons,fb,fm,Nat.mul_succ];omega
theorem rp{α:Type}{f:α->List UInt8}{l:List α}{k:Nat}{x:α}(h:l[k]?=some x):(l.take (k+1)).flatMap f=(l.take k).flatMap f++f x:=by rw[iv,h];simp
theorem EF(l:List aO)(k:Nat):((l.take k).flatMap ow).length<=50*k:=by
 have h1:=vR (f:=ow) (m:=50) (l:=l.take k) (fun x _=>AU x);have h2:(l.take k).length<=k:=by simp;omega
 exact da h1 (Nat.mul_le_mul_left 50 h2)
theorem EG(l:List Cl)(hl: ∀c∈l,c.key.length<=16)(k:Nat):((l.take k).flatMap kY).length<=66*k:=by
 have h1:=vR (f:=kY) (m:=66) (l:=l.take k) (fun x hx=>by have:=AV x;have:=hl x (List.mem_of_mem_take hx);omega);have h2:(l.take k).length<=k:=by simp;omega
 exact da h1 (Nat.mul_le_mul_left 66 h2)
structure FE.Good (e:FE):Prop where
 id0:0<=e.id
 id1:e.id<=1099511627776
 opl:e.ops.length<=64
 ops:opsE e.ops=0
 opb: ∀o∈e.ops,(0<=o.d/\o.d<=15)/\(0<=o.a/\o.a<=7)/\(0<=o.b/\o.b<=7)/\(-1099511627776<=o.c/\o.c<=1099511627776)/\(0<=o.n/\o.n<=1099511627776)
 arl:e.args.length<=8
 arb: ∀n∈e.args,-1099511627776<=n/\n<=1099511627776
 cll:e.cls.length<=64
 clo: ∀c∈e.cls,Ok c
 clf:eI e.cls e.cls
theorem LA{l:List aO}(h:opsE l=0):l.length<=64/\l.all bJ=true/\l.all cw=true/\gK l=true:=by
 unfold opsE at h;split at h
 ·simp at h
 ·split at h
  ·simp at h
  ·split at h
   ·simp at h
   ·split at h
    ·simp at h
    ·rename_i h1 h2 h3 h4;exact⟨by omega,by simpa using h2,by simpa using h3,by simpa using h4⟩
theorem Wi{o:aO}(h1:bJ o=true)(h2:cw o=true):(0<=o.d/\o.d<=15)/\(0<=o.a/\o.a<=7)/\(0<=o.b/\o.b<=7)/\(-1099511627776<=o.c/\o.c<=1099511627776)/\(0<=o.n/\o.n<=1099511627776):=by
 have hd:=tE h1
 have key: ∀i,i<4->(o.mh i=0)\/(tv o.d i<=o.mh i/\o.mh i<=rN o.d i):=by
  intro i hi;unfold bJ at h1;unfold cw at h2;rw[lx,List.all_eq_true]at h1;rw[List.all_eq_true]at h2;have a1:=h1.2 i (List.mem_range.2 hi);have a2:=h2 i (List.mem_range.2 hi)
  cases hh:ji o.d i with
  |true=>rw[hh]at a2;simp at a2;exact .inr a2
  |false=>rw[hh]at a1;simp at a1;exact .inl a1
 have k0:=key 0 (by decide);have k1:=key 1 (by decide);have k2:=key 2 (by decide);have k3:=key 3 (by decide);have e0:o.mh 0=o.a:=rfl;have e1:o.mh 1=o.b:=rfl;have e2:o.mh 2=o.c:=rfl;have e3:o.mh 3=o.n:=rfl;rw[e0]at k0;rw[e1]at k1;rw[e2]at k2;rw[e3]at k3;have l0:tv o.d 0=0/\rN o.d 0<=7:=by simp[tv,rN];split<;>omega
 have l1:tv o.d 1=0/\rN o.d 1=7:=by simp[tv,rN]
 have l2: -1099511627776<=tv o.d 2/\rN o.d 2<=1099511627776:=by
  simp[tv,rN];constructor
  ·split<;>omega
  ·split
   ·omega
   ·split<;>omega
 have l3:tv o.d 3=0/\rN o.d 3<=1099511627776:=by simp[tv,rN];split<;>omega
 refine⟨by omega,by omega,by omega,by omega,by omega⟩
theorem LB{l:List Cl}(h:su l=0):(∀c∈l,Ok c)/\eI l l/\l.length<=64:=by
 unfold su at h;split at h
 ·rename_i h1;exact absurd h h1
 ·rename_i h1;split at h
  ·simp at h
  ·rename_i h2;split at h
   ·rename_i h3;refine⟨?_,h3,?_⟩
    ·have h0:iH l=0:=by simpa using h1
     unfold iH at h0;split at h0
     ·rename_i c hc;have:=List.find?_some hc;simp at this;exact absurd h0 this
     ·rename_i hc;rw[List.find?_eq_none]at hc;intro c hcm;have:=hc c hcm;simpa[Ok]using this
    ·rcases Nat.lt_or_ge 64 l.length with h4|h4
     ·exact absurd ⟨l,h3,h4⟩ h2
     ·exact h4
   ·simp at h
theorem AX{e:FE}(h:jQ e=0):e.Good:=by
 unfold jQ at h;split at h
 ·rename_i h1;exact absurd h h1
 ·rename_i h1;have h0:lZ e=0:=by simpa using h1
  unfold lZ at h0;split at h0
  ·simp at h0
  ·rename_i hid;unfold uO at h0;split at h0
   ·rename_i h2;exact absurd h0 h2
   ·rename_i h2;have ho:opsE e.ops=0:=by simpa using h2
    unfold qD at h0;split at h0
    ·simp at h0
    ·rename_i ha;split at h0
     ·simp at h0
     ·rename_i hb;have hb':kX e.args=true:=by simpa using hb
      unfold kX at hb';rw[List.all_eq_true]at hb';obtain⟨o1,o2,o3,o4⟩:=LA ho;rw[List.all_eq_true]at o2 o3;obtain⟨c1,c2,c3⟩:=LB h;exact{id0:=by omega,id1:=by omega,opl:=o1,ops:=ho,opb:=fun o hm=>Wi (o2 o hm) (o3 o hm),arl:=by omega,arb:=fun n hn=>by have:=hb' n hn;rw[lx,decide_eq_true_iff,decide_eq_true_iff]at this;exact this,cll:=c3,clo:=c1,clf:=c2}
theorem Ok.vS{c:Cl}(h:Ok c):c.key.length<=16:=by
 rcases h.parts with⟨_,_,_,_,h5⟩|⟨_,_,h3,_⟩
 ·exact h5
 ·rw[h3];simp
def iq(w0:World)(K:Nat->Prop)(b:Nat)(bs:List UInt8)(w:World):Prop:=
 ∃F,nM w F b bs/\(∀k,F k->w0.heap.size<=k/\k<w.heap.size/\ ¬K k)/\Below w0.heap.size w0 w/\ ∀k,K k->k<w.heap.size
def Kept(K:Nat->Prop)(w w':World):Prop:= ∀k o,K k->w.heap[k]?=some o->w'.heap[k]?=some o
theorem Kept.cell{K:Nat->Prop}{w w':World}(h:Kept K w w'){p:Addr}{v:Value}(hp:K p.block)(hc:w.cell? p=some v):w'.cell? p=some v:=Fu (F:=K) (fun k o hk hb=>h k o hk hb) hp hc
theorem nM.alloc{w:World}{F:Nat->Prop}{b:Nat}{bs:List UInt8}(h:nM w F b bs)(o:Obj):nM (w.alloc o) F b bs:=by obtain⟨v,h1,h2,h3,h4⟩:=h;exact⟨v,by rw[Below.heap_alloc _ _ _ (Array.getElem?_eq_some_iff.1 h1).1];exact h1,h2,h3.alloc _,h4⟩
theorem iq.box{w0 w:World}{K:Nat->Prop}{b:Nat}{bs:List UInt8}(h:iq w0 K b bs w)(o:Obj):iq w0 (fun k=>K k\/k=w.heap.size) b bs (w.alloc o):=by
 obtain⟨F,h1,h2,h3,h4⟩:=h;refine⟨F,h1.alloc o,fun k hk=>⟨(h2 k hk).1,by have:=(h2 k hk).2.1;simp;omega,fun hh=>hh.elim (h2 k hk).2.2 (fun e=>by have:=(h2 k hk).2.1;omega)⟩,h3.alloc h3.size o,fun k hk=>?_⟩;rcases hk with hk|hk
 ·have:=h4 k hk;simp;omega
 ·subst hk;simp
theorem iq.less{w0 w:World}{K K':Nat->Prop}{b:Nat}{bs:List UInt8}(h:iq w0 K b bs w)(hK: ∀k,K' k->K k):iq w0 K' b bs w:=by obtain⟨F,h1,h2,h3,h4⟩:=h;exact⟨F,h1,fun k hk=>⟨(h2 k hk).1,(h2 k hk).2.1,fun hh=>(h2 k hk).2.2 (hK k hh)⟩,h3,fun k hk=>h4 k (hK k hk)⟩
theorem iq.bl{w0 w:World}{K:Nat->Prop}{b:Nat}{bs:List UInt8}(h:iq w0 K b bs w):Below w0.heap.size w0 w:=let⟨_,_,_,h3,_⟩:=h;h3
theorem iq.onto{w0 w w':World}{K F:Nat->Prop}{b:Nat}{bs':List UInt8}(h2: ∀k,F k->w0.heap.size<=k/\k<w.heap.size/\ ¬K k)(h3:Below w0.heap.size w0 w)(h4: ∀k,K k->k<w.heap.size)(hw:Mt w F b bs' w'):iq w0 K b bs' w'/\Kept K w w':=by
 obtain⟨ho,F',hw',hF'⟩:=hw;have hF0: ∀k,F' k->(F k\/w.heap.size<=k)/\k<w'.heap.size\/F' k:=fun k hk=>.inr hk;refine⟨⟨fun k=>F' k/\k<w'.heap.size,?_,fun k hk=>?_,?_,fun k hk=>cq (h4 k hk) ho.size⟩,fun k o hk hb=>ho.heap hb (fun hF=>(h2 k hF).2.2 hk)⟩
 ·obtain⟨v,a1,a2,a3,a4⟩:=hw';exact⟨v,a1,⟨a2,(bd.1 a1).1⟩,a3,fun g hg=>⟨a4 g hg,(a3.lt g hg).2⟩⟩
 ·refine⟨?_,hk.2,fun hK=>?_⟩
  ·rcases hF' k hk.1 with h|h
   ·exact(h2 k h).1
   ·exact da h3.size h
  ·rcases hF' k hk.1 with h|h
   ·exact(h2 k h).2.2 hK
   ·have:=h4 k hK;omega
 ·exact h3.x (ho.aG h3.size (fun k hk hF=>by have:=(h2 k hF).1;omega))
theorem AY{w:World}{g:Nat}{cs:Array Value}{t:TypeId}{ns:List Int}(h:w.heap[g]?=some (.cells cs t (0,0)))(hc:cs=(jc ns).toArray)(hl:ns.length<=maxLen):Rd w (fun k=>k=g) (.slice (some ⟨g,0,none⟩) ns.length ns.length) (jc ns):=by refine⟨_,_,_,rfl,by simp[jc],aE _,hl,fun _=>⟨g,0,rfl,rfl,fun j u hj=>?_⟩⟩;subst hc;simp only[gx,World.cell?,h];simpa using hj
theorem lf{w0 w:World}{K:Nat->Prop}{b X:Nat}{bs:List UInt8}(h:iq w0 K b bs w)(hX:w.cell? ⟨X,0,none⟩=some (.func (.func 30) #[.pointer (some ⟨b,0,none⟩)] #[]))(hXK:K X)(ns:List Int)(cs:Array Value)(hc:cs=(jc ns).toArray)(n:Nat)(hn:n=ns.length)(hl:ns.length<=100)
  (hok: ∀n∈ns,0<=n/\n<=9223372036854775807) (hlen:bs.length<=100000000):
  Calls prog 50 #[.slice (some ⟨w.heap.size,0,none⟩) n n,.pointer (some ⟨X,0,none⟩)] (w.alloc (.cells cs 3)) fun e w'=>e=.returned (.tuple #[])/\iq w0 K b (bs++jB ns) w'/\Kept K w w':=by
 subst hn;obtain⟨F,h1,h2,h3,h4⟩:=h;have hlt:w.heap.size<(w.alloc (.cells cs 3)).heap.size:=by simp
 refine(Lm _ F (fun k=>k=w.heap.size) b X bs _ _ _ ns (h1.alloc _) (aC hX _) (fun hF=>(h2 X hF).2.2 hXK) (AY (an _ _) hc (by simp[maxLen];omega)) (fun k hk hF=>by have:=(h2 k hF).2.1;omega) hok (by omega)).m ?_;rintro e w' ⟨rfl,hw⟩;obtain⟨k1,k2⟩:=iq.onto (K:=K) (fun k hk=>⟨(h2 k hk).1,by have:=(h2 k hk).2.1;omega,(h2 k hk).2.2⟩) (h3.alloc h3.size _) (fun k hk=>by have:=h4 k hk;omega) hw;exact⟨rfl,k1,fun k o hk hb=>k2 k o hk (by rw[Below.heap_alloc _ _ _ (h4 k hk)];exact hb)⟩
theorem sw{w0 w:World}{K:Nat->Prop}{b X:Nat}{bs:List UInt8}(h:iq w0 K b bs w)(hX:w.cell? ⟨X,0,none⟩=some (.func (.func 31) #[.pointer (some ⟨b,0,none⟩)] #[]))(hXK:K X)(ns:List Int)(cs:Array Value)(hc:cs=(jc ns).toArray)(n:Nat)(hn:n=ns.length)(hl:ns.length<=100)
  (hok: ∀n∈ns,-9223372036854775808<=n/\n<=9223372036854775807) (hlen:bs.length<=100000000):
  Calls prog 50 #[.slice (some ⟨w.heap.size,0,none⟩) n n,.pointer (some ⟨X,0,none⟩)] (w.alloc (.cells cs 3)) fun e w'=>e=.returned (.tuple #[])/\iq w0 K b (bs++encI ns) w'/\Kept K w w':=by
 subst hn;obtain⟨F,h1,h2,h3,h4⟩:=h;have hlt:w.heap.size<(w.alloc (.cells cs 3)).heap.size:=by simp
 refine(Ez _ F (fun k=>k=w.heap.size) b X bs _ _ _ ns (h1.alloc _) (aC hX _) (fun hF=>(h2 X hF).2.2 hXK) (AY (an _ _) hc (by simp[maxLen];omega)) (fun k hk hF=>by have:=(h2 k hF).2.1;omega) hok (by omega)).m ?_;rintro e w' ⟨rfl,hw⟩;obtain⟨k1,k2⟩:=iq.onto (K:=K) (fun k hk=>⟨(h2 k hk).1,by have:=(h2 k hk).2.1;omega,(h2 k hk).2.2⟩) (h3.alloc h3.size _) (fun k hk=>by have:=h4 k hk;omega) hw;exact⟨rfl,k1,fun k o hk hb=>k2 k o hk (by rw[Below.heap_alloc _ _ _ (h4 k hk)];exact hb)⟩
theorem SK{w0 w:World}{K G:Nat->Prop}{b X:Nat}{bs:List UInt8}(h:iq w0 K b bs w)(hX:w.cell? ⟨X,0,none⟩=some (.func (.func 31) #[.pointer (some ⟨b,0,none⟩)] #[]))(hXK:K X)(ns:List Int)(A:Option Addr)(n c:Nat)(hr:Rd w0 G (.slice A n c) (jc ns))(hl:ns.length<=100)
  (hok: ∀n∈ns,-9223372036854775808<=n/\n<=9223372036854775807) (hlen:bs.length<=100000000):
  Calls prog 50 #[.slice A n c,.pointer (some ⟨X,0,none⟩)] w fun e w'=>e=.returned (.tuple #[])/\iq w0 K b (bs++encI ns) w'/\Kept K w w':=by
 obtain⟨F,h1,h2,h3,h4⟩:=h;refine(Ez _ F (fun k=>G k/\k<w0.heap.size) b X bs _ _ _ ns h1 hX (fun hF=>(h2 X hF).2.2 hXK) (Rd.below hr.bound h3) (fun k hk hF=>by have:=(h2 k hF).1;have:=hk.2;omega) hok (by omega)).m ?_;rintro e w' ⟨rfl,hw⟩;obtain⟨k1,k2⟩:=iq.onto (K:=K) h2 h3 h4 hw;exact⟨rfl,k1,k2⟩
theorem EH{w0 w:World}{K:Nat->Prop}{b:Nat}{bs:List UInt8}(h:iq w0 K b bs w)(s:List UInt8)(hs:s.length<=65536)(hlen:bs.length<=100000000):
  Calls prog 32 #[.pointer (some ⟨b,0,none⟩),.string ⟨s.toArray⟩] w fun e w'=>e=.returned (.int .i64 0)/\iq w0 K b (bs++Hg s) w'/\Kept K w w':=by
 obtain⟨F,h1,h2,h3,h4⟩:=h;have e1:(⟨s.toArray⟩:ByteArray).size=s.length:=by simp[ByteArray.size]
 refine(Rx w F b bs h1 ⟨s.toArray⟩ (by rw[e1];exact hs) (by omega)).m ?_;rintro e w' ⟨rfl,ho,F',hw,hF'⟩;rw[e1]at hw;obtain⟨k1,k2⟩:=iq.onto (K:=K) h2 h3 h4 ⟨ho,F',hw,hF'⟩;exact⟨rfl,k1,k2⟩
theorem Ba(w:World)(k:Fn)(a b:Array Value):Calls prog 29 #[.func k a b] w fun e w'=>e=.returned (.func (.func 50) #[] #[.pointer (some ⟨w.heap.size,0,none⟩)])/\w'=w.alloc (.cells #[.func k a b] 105):=by
 go_enter func29,ntmps29;go_wp2;go_ret
 exact⟨rfl,rfl⟩
def sx(B X1 X2 b:Nat)(vo va vc:Value)(w:World):Prop:=
 w.cell? ⟨B,1,none⟩=some vo/\w.cell? ⟨B,2,none⟩=some va/\w.cell? ⟨B,3,none⟩=some vc/\w.cell? ⟨X1,0,none⟩=some (.func (.func 30) #[.pointer (some ⟨b,0,none⟩)] #[])/\w.cell? ⟨X2,0,none⟩=some (.func (.func 31) #[.pointer (some ⟨b,0,none⟩)] #[])
theorem sx.kept{B X1 X2 b:Nat}{vo va vc:Value}{w w':World}{K:Nat->Prop}(h:sx B X1 X2 b vo va vc w)(hk:Kept K w w')(hB:K B)(h1:K X1)(h2:K X2):sx B X1 X2 b vo va vc w':=
 ⟨hk.cell (p:=⟨B,1,none⟩) hB h.1,hk.cell (p:=⟨B,2,none⟩) hB h.2.1,hk.cell (p:=⟨B,3,none⟩) hB h.2.2.1,hk.cell (p:=⟨X1,0,none⟩) h1 h.2.2.2.1,hk.cell (p:=⟨X2,0,none⟩) h2 h.2.2.2.2⟩
theorem sx.alloc{B X1 X2 b:Nat}{vo va vc:Value}{w:World}(h:sx B X1 X2 b vo va vc w)(o:Obj):sx B X1 X2 b vo va vc (w.alloc o):=
 ⟨aC h.1 _,aC h.2.1 _,aC h.2.2.1 _,aC h.2.2.2.1 _,aC h.2.2.2.2 _⟩
def LC(e:FE)(w:World)(en:Ending)(w':World):Prop:=
 Below w.heap.size w w'/\((jQ e≠0/\en=.returned (.tuple #[.slice none 0 0,.int .i64 (jQ e)]))\/
  (jQ e=0/\ ∃A c,en=.returned (.tuple #[.slice A (kE (inside e)).length c,.int .i64 0])/\w'.ownsRow w.heap.size 5 1 (.slice A (kE (inside e)).length c) (kE (inside e)).length ((kE (inside e)).map B8)))
def abA(w1:World)(K:Nat->Prop)(B X1 X2 b:Nat)(vo va vc:Value)(bs:List UInt8)(l:List aO)(k:Nat)(wr:World):Prop:=iq w1 K b (bs++(l.take k).flatMap ow) wr/\sx B X1 X2 b vo va vc wr
def abB(w1:World)(K:Nat->Prop)(B X1 X2 b:Nat)(vo va vc:Value)(bs:List UInt8)(l:List Cl)(k:Nat)(wr:World):Prop:=iq w1 K b (bs++(l.take k).flatMap kY) wr/\sx B X1 X2 b vo va vc wr
theorem iq.start{w:World}{B:Nat}(hB:B<w.heap.size):iq w (fun k=>k=B) w.heap.size [] (w.alloc (.cells #[.slice none 0 0] 102)):=by refine⟨fun k=>k=w.heap.size,⟨.slice none 0 0,an _ _,rfl,ea _ _ _ _,fun g hg=>by simp[Value.ownBlock]at hg⟩,fun k hk=>⟨Nat.le_of_eq hk.symm,by simp;omega,fun e=>by omega⟩,(aw _ _).alloc (aE _) _,fun k hk=>by subst hk;simp;omega⟩
theorem jm(w:World)(G:Nat->Prop)(e:FE)(vo va vc:Value)(h:dD w G e vo va vc)(hs:gS w)(ht:kH w)(hcl:e.cls.length<=1000):
  Calls prog 11 #[Lu e vo va vc] w (LC e w):=by
 obtain⟨A1,c1,rfl,_,_⟩:=h.1.slice;obtain⟨A2,c2,rfl,MU,hca⟩:=tP h.2.1;obtain⟨AC,cC,hvc,_,_⟩:=h.2.2.1.slice;subst hvc;unfold Lu;have ek:=(aw w.heap.size w).alloc (aE _) (.cells #[.int .i64 e.id,.slice A1 e.ops.length c1,.slice A2 e.args.length c2,.slice AC e.cls.length cC] 46);have hfc:=jX _ G e _ _ _ (h.below ek) (hs.below ek) hcl;unfold Lu at hfc;obtain⟨r,hr⟩:=qt (jQ e);rw[hr]at hfc;have HE:=al (ab h (ab ht (ab hfc (ab hr ek))));clear h hs ht hfc hr;go_enter func11,ntmps11;go_upto_region 1 with fail;have g0:(w.alloc (.cells #[.int .i64 e.id,.slice A1 e.ops.length c1,.slice A2 e.args.length c2,.slice AC e.cls.length cC] 46)).cell? ⟨w.heap.size,0,none⟩=some (.int .i64 e.id):=by simp
 have g1:(w.alloc (.cells #[.int .i64 e.id,.slice A1 e.ops.length c1,.slice A2 e.args.length c2,.slice AC e.cls.length cC] 46)).cell? ⟨w.heap.size,1,none⟩=some (.slice A1 e.ops.length c1):=by simp
 have g2:(w.alloc (.cells #[.int .i64 e.id,.slice A1 e.ops.length c1,.slice A2 e.args.length c2,.slice AC e.cls.length cC] 46)).cell? ⟨w.heap.size,2,none⟩=some (.slice A2 e.args.length c2):=by simp
 have g3:(w.alloc (.cells #[.int .i64 e.id,.slice A1 e.ops.length c1,.slice A2 e.args.length c2,.slice AC e.cls.length cC] 46)).cell? ⟨w.heap.size,3,none⟩=some (.slice AC e.cls.length cC):=by simp
 generalize w.alloc (.cells #[.int .i64 e.id,.slice A1 e.ops.length c1,.slice A2 e.args.length c2,.slice AC e.cls.length cC] 46)=wb at g0 g1 g2 g3 ek HE⊢;obtain⟨B,hB⟩:=qt (w.heap.size);have NK:=al hB;rw[hB]at g0 g1 g2 g3⊢;clear hB ek;go_wp2_with fail;refine HE.o.d.1.m ?_;rintro en w1 ⟨rfl,hb1⟩;have uB:=al (HE.o.q.x (hb1.m HE.o.q.size));have f0:=(hb1.cell (p:=⟨B,0,none⟩) (aq _ _ g0)).x g0;have f1:=(hb1.cell (p:=⟨B,1,none⟩) (aq _ _ g1)).x g1;have f2:=(hb1.cell (p:=⟨B,2,none⟩) (aq _ _ g2)).x g2;have f3:=(hb1.cell (p:=⟨B,3,none⟩) (aq _ _ g3)).x g3;clear hb1 g0 g1 g2 g3;by_cases Wj:r=0
 ·subst Wj;have hgd:=AX HE.o.t.1;have b1:=hgd.id0;have b2:=hgd.id1;have b3:=hgd.opl;have b4:=hgd.arl;have b5:=hgd.cll;have HG:=al hgd;clear hgd;have hst:=iq.start (aq _ _ f0);have k0:=aC f0 (.cells #[.slice none 0 0] 102);have k1:=aC f1 (.cells #[.slice none 0 0] 102);have k2:=aC f2 (.cells #[.slice none 0 0] 102);have k3:=aC f3 (.cells #[.slice none 0 0] 102);have hBw:=aq _ _ f0;clear f0 f1 f2 f3;go_upto_region 5 with fail;generalize w1.alloc (.cells #[.slice none 0 0] 102)=w2 at hst k0 k1 k2 k3⊢;obtain⟨b,hb⟩:=qt (w1.heap.size);rw[hb]at hst hBw⊢;have HBb:=al hb;clear hb;have aag:=(hst.box (.cells #[(.func (.func 30) #[.pointer (some ⟨b,0,none⟩)] #[])] 105)).box (.cells #[(.func (.func 31) #[.pointer (some ⟨b,0,none⟩)] #[])] 105)
  have zi:sx B w2.heap.size (w2.alloc (.cells #[(.func (.func 30) #[.pointer (some ⟨b,0,none⟩)] #[])] 105)).heap.size b (.slice A1 e.ops.length c1) (.slice A2 e.args.length c2) (.slice AC e.cls.length cC) ((w2.alloc (.cells #[(.func (.func 30) #[.pointer (some ⟨b,0,none⟩)] #[])] 105)).alloc (.cells #[(.func (.func 31) #[.pointer (some ⟨b,0,none⟩)] #[])] 105)):=
   ⟨aC (aC k1 _) _,aC (aC k2 _) _,aC (aC k3 _) _,aC (by simp) _,by simp⟩
  have kk0:=aC (aC k0 (.cells #[(.func (.func 30) #[.pointer (some ⟨b,0,none⟩)] #[])] 105)) (.cells #[(.func (.func 31) #[.pointer (some ⟨b,0,none⟩)] #[])] 105);have HST:=al (ab aag zi);clear hst aag zi k0 k1 k2 k3;go_wp2_with fail;refine(Ba _ _ _ _).m ?_;rintro en w3 ⟨rfl,rfl⟩;go_wp2_with fail;refine(Ba _ _ _ _).m ?_;rintro en w4 ⟨rfl,hw4⟩;rw[<-hw4]at HST kk0;obtain⟨X1,hX1⟩:=qt (w2.heap.size);obtain⟨X2,QB⟩:=qt ((w2.alloc (.cells #[(.func (.func 30) #[.pointer (some ⟨b,0,none⟩)] #[])] 105)).heap.size);rw[hX1,QB]at HST;rw[hX1,QB];obtain⟨K,hK⟩: ∃K:Nat->Prop,(fun k=>(k=B\/k=X1)\/k=X2)=K:=⟨_,rfl⟩;have HK:=al (show K B/\K X1/\K X2 by rw[<-hK];exact⟨.inl (.inl rfl),.inl (.inr rfl),.inr rfl⟩);rw[hK]at HST;clear hw4 hX1 QB hK hBw;obtain⟨bs0,SL⟩: ∃x:List UInt8,x=[]:=⟨_,rfl⟩;have lV:=al (show iq w1 K b bs0 w4/\_ by rw[SL];exact HST.o);have hl0:bs0.length<=0:=by rw[SL];exact aE _
  have abC:=al SL;obtain⟨mN,mO,mP,jY,lg⟩:=HST.o.2;clear HST SL;go_wp2_with fail;refine(lf lV.o.1 jY ((ab HK.o.1 (ab HK.o.2.1 (ab HK.o.d trivial))).2.1) [e.id,(e.ops.length:Int)] _ rfl _ rfl (by simp) (fun n hn=>by simp at hn;rcases hn with rfl|rfl<;>omega) (by omega)).m ?_;rintro en w5 ⟨rfl,hS,dE⟩;have hC:=lV.o.2.kept dE (ab HK.o.1 (ab HK.o.2.1 (ab HK.o.d trivial))).1 (ab HK.o.1 (ab HK.o.2.1 (ab HK.o.d trivial))).2.1 (ab HK.o.1 (ab HK.o.2.1 (ab HK.o.d trivial))).2.2.1;clear mN mO mP jY lg;have aah:=dE.cell (p:=⟨B,0,none⟩) (HK.o.1) kk0;clear kk0;have kk0:=aah;clear aah;obtain⟨Wk,SM⟩:=qS (bs0++jB [e.id,(e.ops.length:Int)])
  have C4:Wk.length<=bs0.length+20:=by rw[SM,fb];have:=eD [e.id,(e.ops.length:Int)];simp only[fm,ix]at this;omega
  rw[<-SM]at hS;have abD:=al SM;have HS1:=al (ab hS hC);obtain⟨mN,mO,mP,jY,lg⟩:=hC;clear hS dE SM lV;clear kk0;go_wp2_with fail
  go_loopw [33] (fun i wr=> ∃k:Nat,k<=e.ops.length/\i=.int .i64 (k:Int)/\abA w1 K B X1 X2 b (.slice A1 e.ops.length c1) (.slice A2 e.args.length c2) (.slice AC e.cls.length cC) Wk e.ops k wr) (fun i _=>e.ops.length-(intOf i).toNat)
  case atStart=>exact⟨0,dq _,rfl,by simpa using HS1.o.1,HS1.o.2⟩
  case round=>
   obtain⟨k,hk,rfl,hE,hC⟩:=hrel;clear mN mO mP jY lg;obtain⟨mN,mO,mP,jY,lg⟩:=hC;by_cases hlt:k<e.ops.length
   ·obtain⟨x,hx⟩: ∃x,e.ops[k]?=some x:=⟨_,ao hlt⟩;obtain⟨bo,oo,XF,_,c0,d1,d2,d3,d4⟩:=HE.o.1.1.at_ hx;subst XF;have tX:Below w.heap.size w wr:=uB.o.x (hE.bl.m uB.o.size);have dI:=aq _ _ c0;have q0:=(tX.cell (p:=⟨bo,oo+k*5,none⟩) dI).x c0;have q1:=(tX.cell (p:=⟨bo,oo+k*5+1,none⟩) dI).x d1;have q2:=(tX.cell (p:=⟨bo,oo+k*5+2,none⟩) dI).x d2;have q3:=(tX.cell (p:=⟨bo,oo+k*5+3,none⟩) dI).x d3;have q4:=(tX.cell (p:=⟨bo,oo+k*5+4,none⟩) dI).x d4;have zh:=HG.o.opb x (de hx);obtain⟨D,A',B',C',N'⟩:=x;simp only at q0 q1 q2 q3 q4 zh;obtain⟨⟨o1,o2⟩,⟨o3,o4⟩,⟨o5,o6⟩,⟨o7,o8⟩,o9,o10⟩:=zh;have LD:=hE.box (.cells #[.int .i64 D,.int .i64 A',.int .i64 B',.int .i64 C',.int .i64 N'] 93);have Wl:sx B X1 X2 b _ _ _ (wr.alloc (.cells #[.int .i64 D,.int .i64 A',.int .i64 B',.int .i64 C',.int .i64 N'] 93)):=sx.alloc ⟨mN,mO,mP,jY,lg⟩ _;have t0:(wr.alloc (.cells #[.int .i64 D,.int .i64 A',.int .i64 B',.int .i64 C',.int .i64 N'] 93)).cell? ⟨wr.heap.size,0,none⟩=some (.int .i64 D):=by simp
    have t1:(wr.alloc (.cells #[.int .i64 D,.int .i64 A',.int .i64 B',.int .i64 C',.int .i64 N'] 93)).cell? ⟨wr.heap.size,1,none⟩=some (.int .i64 A'):=by simp
    have t2:(wr.alloc (.cells #[.int .i64 D,.int .i64 A',.int .i64 B',.int .i64 C',.int .i64 N'] 93)).cell? ⟨wr.heap.size,2,none⟩=some (.int .i64 B'):=by simp
    have t3:(wr.alloc (.cells #[.int .i64 D,.int .i64 A',.int .i64 B',.int .i64 C',.int .i64 N'] 93)).cell? ⟨wr.heap.size,3,none⟩=some (.int .i64 C'):=by simp
    have t4:(wr.alloc (.cells #[.int .i64 D,.int .i64 A',.int .i64 B',.int .i64 C',.int .i64 N'] 93)).cell? ⟨wr.heap.size,4,none⟩=some (.int .i64 N'):=by simp
    have hfl:=EF e.ops k;have HX:=al (ab hx (ab hk hE.bl));clear hx hE c0 d1 d2 d3 d4 tX dI;go_upto_region 10 with fail;clear q0 q1 q2 q3 q4 mN mO mP jY lg;generalize wr.alloc (.cells #[.int .i64 D,.int .i64 A',.int .i64 B',.int .i64 C',.int .i64 N'] 93)=w6 at LD Wl t0 t1 t2 t3 t4⊢;obtain⟨B9,hB9⟩:=qt (wr.heap.size);rw[hB9]at LD t0 t1 t2 t3 t4⊢;obtain⟨K9,Wm⟩: ∃K9:Nat->Prop,(fun k=>K k\/k=B9)=K9:=⟨_,rfl⟩;have cY:=al (show(K9 B/\K9 X1/\K9 X2/\K9 B9)/\ ∀k,K k->K9 k by rw[<-Wm];exact⟨⟨.inl HK.o.1,.inl HK.o.2.1,.inl HK.o.d,.inr rfl⟩,fun k hk=>.inl hk⟩);rw[Wm]at LD;obtain⟨bs2,SN⟩:=qS (Wk++(e.ops.take k).flatMap ow);have hl2:bs2.length<=Wk.length+3200:=by rw[SN,fb];omega
    rw[<-SN]at LD;have abE:=al SN;have HS2:=al (ab LD Wl);obtain⟨mN,mO,mP,jY,lg⟩:=Wl;clear LD SN Wm hB9 hfl;go_wp2_with fail;refine(lf HS2.o.1 jY ((cY.o.1).2.1) [D,A',B'] _ rfl _ rfl (by simp) (fun n hn=>by simp at hn;rcases hn with rfl|rfl|rfl<;>omega) (by omega)).m ?_;rintro en w7 ⟨rfl,hS,dE⟩;have hC:=HS2.o.2.kept dE (cY.o.1).1 (cY.o.1).2.1 (cY.o.1).2.2.1;clear mN mO mP jY lg;have qE:=dE.cell (p:=⟨B9,0,none⟩) (cY.o.1.2.2.2) t0;clear t0;have t0:=qE;clear qE;have qF:=dE.cell (p:=⟨B9,1,none⟩) (cY.o.1.2.2.2) t1;clear t1;have t1:=qF;clear qF;have qG:=dE.cell (p:=⟨B9,2,none⟩) (cY.o.1.2.2.2) t2;clear t2;have t2:=qG;clear qG;have qH:=dE.cell (p:=⟨B9,3,none⟩) (cY.o.1.2.2.2) t3;clear t3;have t3:=qH;clear qH;have qI:=dE.cell (p:=⟨B9,4,none⟩) (cY.o.1.2.2.2) t4;clear t4;have t4:=qI;clear qI;obtain⟨bs3,SP⟩:=qS (bs2++jB [D,A',B'])
    have hl3:bs3.length<=bs2.length+30:=by rw[SP,fb];have:=eD [D,A',B'];simp only[fm,ix]at this;omega
    rw[<-SP]at hS;have abF:=al SP;have HS3:=al (ab hS hC);obtain⟨mN,mO,mP,jY,lg⟩:=hC;clear hS dE SP HS2;go_wp2_with fail;refine(sw HS3.o.1 lg ((cY.o.1).2.2.1) [C'] _ rfl _ rfl (by simp) (fun n hn=>by simp at hn;subst hn;omega) (by omega)).m ?_;rintro en w8 ⟨rfl,hS,dE⟩;have hC:=HS3.o.2.kept dE (cY.o.1).1 (cY.o.1).2.1 (cY.o.1).2.2.1;clear mN mO mP jY lg;have qE:=dE.cell (p:=⟨B9,0,none⟩) (cY.o.1.2.2.2) t0;clear t0;have t0:=qE;clear qE;have qF:=dE.cell (p:=⟨B9,1,none⟩) (cY.o.1.2.2.2) t1;clear t1;have t1:=qF;clear qF;have qG:=dE.cell (p:=⟨B9,2,none⟩) (cY.o.1.2.2.2) t2;clear t2;have t2:=qG;clear qG;have qH:=dE.cell (p:=⟨B9,3,none⟩) (cY.o.1.2.2.2) t3;clear t3;have t3:=qH;clear qH;have qI:=dE.cell (p:=⟨B9,4,none⟩) (cY.o.1.2.2.2) t4;clear t4;have t4:=qI;clear qI;obtain⟨bs4,SQ⟩:=qS (bs3++encI [C'])
    have hl4:bs4.length<=bs3.length+10:=by rw[SQ,fb];have:=fN [C'];simp only[fm,ix]at this;omega
    rw[<-SQ]at hS;have abG:=al SQ;have HS4:=al (ab hS hC);obtain⟨mN,mO,mP,jY,lg⟩:=hC;clear hS dE SQ HS3;go_wp2_with fail;refine(lf HS4.o.1 jY ((cY.o.1).2.1) [N'] _ rfl _ rfl (by simp) (fun n hn=>by simp at hn;subst hn;omega) (by omega)).m ?_;rintro en w9 ⟨rfl,hS,dE⟩;have hC:=HS4.o.2.kept dE (cY.o.1).1 (cY.o.1).2.1 (cY.o.1).2.2.1;clear mN mO mP jY lg;have qE:=dE.cell (p:=⟨B9,0,none⟩) (cY.o.1.2.2.2) t0;clear t0;have t0:=qE;clear qE;have qF:=dE.cell (p:=⟨B9,1,none⟩) (cY.o.1.2.2.2) t1;clear t1;have t1:=qF;clear qF;have qG:=dE.cell (p:=⟨B9,2,none⟩) (cY.o.1.2.2.2) t2;clear t2;have t2:=qG;clear qG;have qH:=dE.cell (p:=⟨B9,3,none⟩) (cY.o.1.2.2.2) t3;clear t3;have t3:=qH;clear qH;have qI:=dE.cell (p:=⟨B9,4,none⟩) (cY.o.1.2.2.2) t4;clear t4;have t4:=qI;clear qI;obtain⟨bs5,SR⟩:=qS (bs4++jB [N'])
    have hl5:bs5.length<=bs4.length+10:=by rw[SR,fb];have:=eD [N'];simp only[fm,ix]at this;omega
    rw[<-SR]at hS;have abH:=al SR;have HS5:=al (ab hS hC);obtain⟨mN,mO,mP,jY,lg⟩:=hC;clear hS dE SR HS4;go_wp2_with fail;go_roundw
    case rel=>
     refine⟨k+1,by have:=HX.o.2.1;omega,by go_num,?_,HS5.o.2⟩;rw[rp HX.o.1];have h9:=HS5.o.1.less cY.o.2;have e9:bs5=Wk++((e.ops.take k).flatMap ow++ow ⟨D,A',B',C',N'⟩):=by rw[abH.o,abG.o,abF.o,abE.o];simp[ow]
     rw[e9]at h9;exact h9
    case measure=>simp[intOf];omega
   ·have hkl:k=e.ops.length:=by omega
    subst hkl;rw[gd]at hE;have hfl:=EF e.ops e.ops.length;rw[gd]at hfl;obtain⟨bs6,SS⟩:=qS (Wk++e.ops.flatMap ow);have hl6:bs6.length<=Wk.length+3200:=by rw[SS,fb];omega
    rw[<-SS]at hE;have abI:=al SS;have HS6:=al (show iq w1 K b bs6 wr/\sx B X1 X2 b _ _ _ wr from⟨hE,⟨mN,mO,mP,jY,lg⟩⟩);clear hE SS hfl HS1;go_wp2_with fail;refine(lf HS6.o.1 jY ((ab HK.o.1 (ab HK.o.2.1 (ab HK.o.d trivial))).2.1) [(e.args.length:Int)] _ rfl _ rfl (by simp) (fun n hn=>by simp at hn;subst hn;omega) (by omega)).m ?_;rintro en w11 ⟨rfl,hS,dE⟩;have hC:=HS6.o.2.kept dE (ab HK.o.1 (ab HK.o.2.1 (ab HK.o.d trivial))).1 (ab HK.o.1 (ab HK.o.2.1 (ab HK.o.d trivial))).2.1 (ab HK.o.1 (ab HK.o.2.1 (ab HK.o.d trivial))).2.2.1;clear mN mO mP jY lg;obtain⟨bs7,SU⟩:=qS (bs6++jB [(e.args.length:Int)])
    have hl7:bs7.length<=bs6.length+10:=by rw[SU,fb];have:=eD [(e.args.length:Int)];simp only[fm,ix]at this;omega
    rw[<-SU]at hS;have abJ:=al SU;have HS7:=al (ab hS hC);obtain⟨mN,mO,mP,jY,lg⟩:=hC;clear hS dE SU HS6;have aai:=HG.o.arb;have HAO:=al (SK HS7.o.1 lg HK.o.d e.args A2 e.args.length c2 (Rd.below HE.o.1.2.1 uB.o) (by omega) (fun n hn=>by have:=aai n hn;omega) (by omega));clear aai;go_wp2_with fail;refine(HAO.o).m ?_;rintro en w12 ⟨rfl,hS,dE⟩;have hC:=HS7.o.2.kept dE (ab HK.o.1 (ab HK.o.2.1 (ab HK.o.d trivial))).1 (ab HK.o.1 (ab HK.o.2.1 (ab HK.o.d trivial))).2.1 (ab HK.o.1 (ab HK.o.2.1 (ab HK.o.d trivial))).2.2.1;clear mN mO mP jY lg;obtain⟨bs8,SV⟩:=qS (bs7++encI e.args)
    have hl8:bs8.length<=bs7.length+80:=by rw[SV,fb];have:=fN e.args;omega
    rw[<-SV]at hS;have abK:=al SV;have HS8:=al (ab hS hC);obtain⟨mN,mO,mP,jY,lg⟩:=hC;clear hS dE SV HS7;go_wp2_with fail;refine(lf HS8.o.1 jY ((ab HK.o.1 (ab HK.o.2.1 (ab HK.o.d trivial))).2.1) [(e.cls.length:Int)] _ rfl _ rfl (by simp) (fun n hn=>by simp at hn;subst hn;omega) (by omega)).m ?_;rintro en w13 ⟨rfl,hS,dE⟩;have hC:=HS8.o.2.kept dE (ab HK.o.1 (ab HK.o.2.1 (ab HK.o.d trivial))).1 (ab HK.o.1 (ab HK.o.2.1 (ab HK.o.d trivial))).2.1 (ab HK.o.1 (ab HK.o.2.1 (ab HK.o.d trivial))).2.2.1;clear mN mO mP jY lg;obtain⟨Wn,SX⟩:=qS (bs8++jB [(e.cls.length:Int)])
    have hl9:Wn.length<=bs8.length+10:=by rw[SX,fb];have:=eD [(e.cls.length:Int)];simp only[fm,ix]at this;omega
    rw[<-SX]at hS;have abL:=al SX;have HS9:=al (ab hS hC);obtain⟨mN,mO,mP,jY,lg⟩:=hC;clear hS dE SX HS8;go_wp2_with fail
    go_loopw [76] (fun i wr=> ∃k:Nat,k<=e.cls.length/\i=.int .i64 (k:Int)/\abB w1 K B X1 X2 b (.slice A1 e.ops.length c1) (.slice A2 e.args.length c2) (.slice AC e.cls.length cC) Wn e.cls k wr) (fun i _=>e.cls.length-(intOf i).toNat)
    case atStart=>exact⟨0,dq _,rfl,by simpa using HS9.o.1,HS9.o.2⟩
    case round=>
     obtain⟨k,hk,rfl,hE,hC⟩:=hrel;clear mN mO mP jY lg;obtain⟨mN,mO,mP,jY,lg⟩:=hC;by_cases hlt:k<e.cls.length
     ·obtain⟨x,hx⟩: ∃x,e.cls[k]?=some x:=⟨_,ao hlt⟩;obtain⟨bo,oo,XF,_,c0,d1,d2,d3,d4⟩:=HE.o.1.2.2.1.at_ hx;subst XF;have tX:Below w.heap.size w wr:=uB.o.x (hE.bl.m uB.o.size);have dI:=aq _ _ c0;have q0:=(tX.cell (p:=⟨bo,oo+k*5,none⟩) dI).x c0;have q1:=(tX.cell (p:=⟨bo,oo+k*5+1,none⟩) dI).x d1;have q2:=(tX.cell (p:=⟨bo,oo+k*5+2,none⟩) dI).x d2;have q3:=(tX.cell (p:=⟨bo,oo+k*5+3,none⟩) dI).x d3;have q4:=(tX.cell (p:=⟨bo,oo+k*5+4,none⟩) dI).x d4;have zh:=HG.o.clo x (de hx);have hky:=zh.vS;have hft:=HE.o.1.2.2.2.2.2.2 x (de hx);obtain⟨D,A',B',C',N'⟩:=x;simp only at q0 q1 q2 q3 q4 hky;obtain⟨⟨o1,o2⟩,⟨o3,o4⟩,⟨o5,o6⟩,_⟩:=hft;simp only at o1 o2 o3 o4 o5 o6;have LD:=hE.box (.cells #[.bool D,.int .i64 A',.string ⟨B'.toArray⟩,.int .i64 C',.int .i64 N'] 107);have Wl:sx B X1 X2 b _ _ _ (wr.alloc (.cells #[.bool D,.int .i64 A',.string ⟨B'.toArray⟩,.int .i64 C',.int .i64 N'] 107)):=sx.alloc ⟨mN,mO,mP,jY,lg⟩ _;have t0:(wr.alloc (.cells #[.bool D,.int .i64 A',.string ⟨B'.toArray⟩,.int .i64 C',.int .i64 N'] 107)).cell? ⟨wr.heap.size,0,none⟩=some (.bool D):=by simp
      have t1:(wr.alloc (.cells #[.bool D,.int .i64 A',.string ⟨B'.toArray⟩,.int .i64 C',.int .i64 N'] 107)).cell? ⟨wr.heap.size,1,none⟩=some (.int .i64 A'):=by simp
      have t2:(wr.alloc (.cells #[.bool D,.int .i64 A',.string ⟨B'.toArray⟩,.int .i64 C',.int .i64 N'] 107)).cell? ⟨wr.heap.size,2,none⟩=some (.string ⟨B'.toArray⟩):=by simp
      have t3:(wr.alloc (.cells #[.bool D,.int .i64 A',.string ⟨B'.toArray⟩,.int .i64 C',.int .i64 N'] 107)).cell? ⟨wr.heap.size,3,none⟩=some (.int .i64 C'):=by simp
      have t4:(wr.alloc (.cells #[.bool D,.int .i64 A',.string ⟨B'.toArray⟩,.int .i64 C',.int .i64 N'] 107)).cell? ⟨wr.heap.size,4,none⟩=some (.int .i64 N'):=by simp
      have hfl:=EG e.cls (fun c hc=>(HG.o.clo c hc).vS) k;have HX:=al (ab hx (ab hk hE.bl));clear hx hE c0 d1 d2 d3 d4 tX dI zh;go_upto_region 20 with fail;clear q0 q1 q2 q3 q4 mN mO mP jY lg;generalize wr.alloc (.cells #[.bool D,.int .i64 A',.string ⟨B'.toArray⟩,.int .i64 C',.int .i64 N'] 107)=w14 at LD Wl t0 t1 t2 t3 t4⊢;obtain⟨B9,hB9⟩:=qt (wr.heap.size);rw[hB9]at LD t0 t1 t2 t3 t4⊢;obtain⟨K9,Wm⟩: ∃K9:Nat->Prop,(fun k=>K k\/k=B9)=K9:=⟨_,rfl⟩;have cY:=al (show(K9 B/\K9 X1/\K9 X2/\K9 B9)/\ ∀k,K k->K9 k by rw[<-Wm];exact⟨⟨.inl HK.o.1,.inl HK.o.2.1,.inl HK.o.d,.inr rfl⟩,fun k hk=>.inl hk⟩);rw[Wm]at LD;obtain⟨O2,JI⟩:=qS (Wn++(e.cls.take k).flatMap kY);have acP:O2.length<=Wn.length+4224:=by rw[JI,fb];omega
      rw[<-JI]at LD;have UC:=al JI;have LF:=al (ab LD Wl);obtain⟨mN,mO,mP,jY,lg⟩:=Wl;clear LD JI Wm hB9 hfl
      cases D with
      |true=>
       go_wp2_with fail;refine(lf LF.o.1 jY ((cY.o.1).2.1) [1] _ rfl _ rfl (by simp) (fun n hn=>by simp at hn;subst hn;omega) (by omega)).m ?_;rintro en w15 ⟨rfl,hS,dE⟩;have hC:=LF.o.2.kept dE (cY.o.1).1 (cY.o.1).2.1 (cY.o.1).2.2.1;clear mN mO mP jY lg;have qE:=dE.cell (p:=⟨B9,0,none⟩) (cY.o.1.2.2.2) t0;clear t0;have t0:=qE;clear qE;have qF:=dE.cell (p:=⟨B9,1,none⟩) (cY.o.1.2.2.2) t1;clear t1;have t1:=qF;clear qF;have qG:=dE.cell (p:=⟨B9,2,none⟩) (cY.o.1.2.2.2) t2;clear t2;have t2:=qG;clear qG;have qH:=dE.cell (p:=⟨B9,3,none⟩) (cY.o.1.2.2.2) t3;clear t3;have t3:=qH;clear qH;have qI:=dE.cell (p:=⟨B9,4,none⟩) (cY.o.1.2.2.2) t4;clear t4;have t4:=qI;clear qI;obtain⟨Hh,sy⟩:=qS (O2++jB [1])
       have abM:Hh.length<=O2.length+10:=by rw[sy,fb];have:=eD [1];simp only[fm,ix]at this;omega
       rw[<-sy]at hS;have O3:=al sy;have Hj:=al (ab hS hC);obtain⟨mN,mO,mP,jY,lg⟩:=hC;clear hS dE sy LF;go_wp2_with fail;refine(sw Hj.o.1 lg ((cY.o.1).2.2.1) [A'] _ rfl _ rfl (by simp) (fun n hn=>by simp at hn;subst hn;omega) (by omega)).m ?_;rintro en w16 ⟨rfl,hS,dE⟩;have hC:=Hj.o.2.kept dE (cY.o.1).1 (cY.o.1).2.1 (cY.o.1).2.2.1;clear mN mO mP jY lg;have qE:=dE.cell (p:=⟨B9,0,none⟩) (cY.o.1.2.2.2) t0;clear t0;have t0:=qE;clear qE;have qF:=dE.cell (p:=⟨B9,1,none⟩) (cY.o.1.2.2.2) t1;clear t1;have t1:=qF;clear qF;have qG:=dE.cell (p:=⟨B9,2,none⟩) (cY.o.1.2.2.2) t2;clear t2;have t2:=qG;clear qG;have qH:=dE.cell (p:=⟨B9,3,none⟩) (cY.o.1.2.2.2) t3;clear t3;have t3:=qH;clear qH;have qI:=dE.cell (p:=⟨B9,4,none⟩) (cY.o.1.2.2.2) t4;clear t4;have t4:=qI;clear qI;obtain⟨Hk,sA⟩:=qS (Hh++encI [A'])
       have hl12:Hk.length<=Hh.length+10:=by rw[sA,fb];have:=fN [A'];simp only[fm,ix]at this;omega
       rw[<-sA]at hS;have O4:=al sA;have Hm:=al (ab hS hC);obtain⟨mN,mO,mP,jY,lg⟩:=hC;clear hS dE sA Hj;have HTX:=al (EH Hm.o.1 B' (by omega) (by omega));go_wp2_with fail;refine(HTX.o).m ?_;rintro en w17 ⟨rfl,hS,dE⟩;have hC:=Hm.o.2.kept dE (cY.o.1).1 (cY.o.1).2.1 (cY.o.1).2.2.1;clear mN mO mP jY lg;have qE:=dE.cell (p:=⟨B9,0,none⟩) (cY.o.1.2.2.2) t0;clear t0;have t0:=qE;clear qE;have qF:=dE.cell (p:=⟨B9,1,none⟩) (cY.o.1.2.2.2) t1;clear t1;have t1:=qF;clear qF;have qG:=dE.cell (p:=⟨B9,2,none⟩) (cY.o.1.2.2.2) t2;clear t2;have t2:=qG;clear qG;have qH:=dE.cell (p:=⟨B9,3,none⟩) (cY.o.1.2.2.2) t3;clear t3;have t3:=qH;clear qH;have qI:=dE.cell (p:=⟨B9,4,none⟩) (cY.o.1.2.2.2) t4;clear t4;have t4:=qI;clear qI;obtain⟨Hn,sB⟩:=qS (Hk++Hg B')
       have abN:Hn.length<=Hk.length+26:=by rw[sB,fb];have:=dv B'.length;simp only[Hg,fb];omega
       rw[<-sB]at hS;have O5:=al sB;have Ho:=al (ab hS hC);obtain⟨mN,mO,mP,jY,lg⟩:=hC;clear hS dE sB Hm;go_wp2_with fail;refine(sw Ho.o.1 lg ((cY.o.1).2.2.1) [C',N'] _ rfl _ rfl (by simp) (fun n hn=>by simp at hn;rcases hn with rfl|rfl<;>omega) (by omega)).m ?_;rintro en w18 ⟨rfl,hS,dE⟩;have hC:=Ho.o.2.kept dE (cY.o.1).1 (cY.o.1).2.1 (cY.o.1).2.2.1;clear mN mO mP jY lg;have qE:=dE.cell (p:=⟨B9,0,none⟩) (cY.o.1.2.2.2) t0;clear t0;have t0:=qE;clear qE;have qF:=dE.cell (p:=⟨B9,1,none⟩) (cY.o.1.2.2.2) t1;clear t1;have t1:=qF;clear qF;have qG:=dE.cell (p:=⟨B9,2,none⟩) (cY.o.1.2.2.2) t2;clear t2;have t2:=qG;clear qG;have qH:=dE.cell (p:=⟨B9,3,none⟩) (cY.o.1.2.2.2) t3;clear t3;have t3:=qH;clear qH;have qI:=dE.cell (p:=⟨B9,4,none⟩) (cY.o.1.2.2.2) t4;clear t4;have t4:=qI;clear qI;obtain⟨O6,sD⟩:=qS (Hn++encI [C',N'])
       have abO:O6.length<=Hn.length+20:=by rw[sD,fb];have:=fN [C',N'];simp only[fm,ix]at this;omega
       rw[<-sD]at hS;have O7:=al sD;have O8:=al (ab hS hC);obtain⟨mN,mO,mP,jY,lg⟩:=hC;clear hS dE sD Ho;go_wp2_with fail;go_roundw
       case rel=>
        refine⟨k+1,by have:=HX.o.2.1;omega,by go_num,?_,O8.o.2⟩;rw[rp HX.o.1];have h9:=O8.o.1.less cY.o.2;have e9:O6=Wn++((e.cls.take k).flatMap kY++kY ⟨true,A',B',C',N'⟩):=by rw[O7.o,O5.o,O4.o,O3.o,UC.o];simp[kY,Cw]
        rw[e9]at h9;exact h9
       case measure=>simp[intOf];omega
      |false=>
       go_wp2_with fail;refine(lf LF.o.1 jY ((cY.o.1).2.1) [0] _ rfl _ rfl (by simp) (fun n hn=>by simp at hn;subst hn;omega) (by omega)).m ?_;rintro en w15 ⟨rfl,hS,dE⟩;have hC:=LF.o.2.kept dE (cY.o.1).1 (cY.o.1).2.1 (cY.o.1).2.2.1;clear mN mO mP jY lg;have qE:=dE.cell (p:=⟨B9,0,none⟩) (cY.o.1.2.2.2) t0;clear t0;have t0:=qE;clear qE;have qF:=dE.cell (p:=⟨B9,1,none⟩) (cY.o.1.2.2.2) t1;clear t1;have t1:=qF;clear qF;have qG:=dE.cell (p:=⟨B9,2,none⟩) (cY.o.1.2.2.2) t2;clear t2;have t2:=qG;clear qG;have qH:=dE.cell (p:=⟨B9,3,none⟩) (cY.o.1.2.2.2) t3;clear t3;have t3:=qH;clear qH;have qI:=dE.cell (p:=⟨B9,4,none⟩) (cY.o.1.2.2.2) t4;clear t4;have t4:=qI;clear qI;obtain⟨Hh,sy⟩:=qS (O2++jB [0])
       have abM:Hh.length<=O2.length+10:=by rw[sy,fb];have:=eD [0];simp only[fm,ix]at this;omega
       rw[<-sy]at hS;have O3:=al sy;have Hj:=al (ab hS hC);obtain⟨mN,mO,mP,jY,lg⟩:=hC;clear hS dE sy LF;go_wp2_with fail;refine(sw Hj.o.1 lg ((cY.o.1).2.2.1) [A'] _ rfl _ rfl (by simp) (fun n hn=>by simp at hn;subst hn;omega) (by omega)).m ?_;rintro en w16 ⟨rfl,hS,dE⟩;have hC:=Hj.o.2.kept dE (cY.o.1).1 (cY.o.1).2.1 (cY.o.1).2.2.1;clear mN mO mP jY lg;have qE:=dE.cell (p:=⟨B9,0,none⟩) (cY.o.1.2.2.2) t0;clear t0;have t0:=qE;clear qE;have qF:=dE.cell (p:=⟨B9,1,none⟩) (cY.o.1.2.2.2) t1;clear t1;have t1:=qF;clear qF;have qG:=dE.cell (p:=⟨B9,2,none⟩) (cY.o.1.2.2.2) t2;clear t2;have t2:=qG;clear qG;have qH:=dE.cell (p:=⟨B9,3,none⟩) (cY.o.1.2.2.2) t3;clear t3;have t3:=qH;clear qH;have qI:=dE.cell (p:=⟨B9,4,none⟩) (cY.o.1.2.2.2) t4;clear t4;have t4:=qI;clear qI;obtain⟨Hk,sA⟩:=qS (Hh++encI [A'])
       have hl12:Hk.length<=Hh.length+10:=by rw[sA,fb];have:=fN [A'];simp only[fm,ix]at this;omega
       rw[<-sA]at hS;have O4:=al sA;have Hm:=al (ab hS hC);obtain⟨mN,mO,mP,jY,lg⟩:=hC;clear hS dE sA Hj;have HTX:=al (EH Hm.o.1 B' (by omega) (by omega));go_wp2_with fail;refine(HTX.o).m ?_;rintro en w17 ⟨rfl,hS,dE⟩;have hC:=Hm.o.2.kept dE (cY.o.1).1 (cY.o.1).2.1 (cY.o.1).2.2.1;clear mN mO mP jY lg;have qE:=dE.cell (p:=⟨B9,0,none⟩) (cY.o.1.2.2.2) t0;clear t0;have t0:=qE;clear qE;have qF:=dE.cell (p:=⟨B9,1,none⟩) (cY.o.1.2.2.2) t1;clear t1;have t1:=qF;clear qF;have qG:=dE.cell (p:=⟨B9,2,none⟩) (cY.o.1.2.2.2) t2;clear t2;have t2:=qG;clear qG;have qH:=dE.cell (p:=⟨B9,3,none⟩) (cY.o.1.2.2.2) t3;clear t3;have t3:=qH;clear qH;have qI:=dE.cell (p:=⟨B9,4,none⟩) (cY.o.1.2.2.2) t4;clear t4;have t4:=qI;clear qI;obtain⟨Hn,sB⟩:=qS (Hk++Hg B')
       have abN:Hn.length<=Hk.length+26:=by rw[sB,fb];have:=dv B'.length;simp only[Hg,fb];omega
       rw[<-sB]at hS;have O5:=al sB;have Ho:=al (ab hS hC);obtain⟨mN,mO,mP,jY,lg⟩:=hC;clear hS dE sB Hm;go_wp2_with fail;refine(sw Ho.o.1 lg ((cY.o.1).2.2.1) [C',N'] _ rfl _ rfl (by simp) (fun n hn=>by simp at hn;rcases hn with rfl|rfl<;>omega) (by omega)).m ?_;rintro en w18 ⟨rfl,hS,dE⟩;have hC:=Ho.o.2.kept dE (cY.o.1).1 (cY.o.1).2.1 (cY.o.1).2.2.1;clear mN mO mP jY lg;have qE:=dE.cell (p:=⟨B9,0,none⟩) (cY.o.1.2.2.2) t0;clear t0;have t0:=qE;clear qE;have qF:=dE.cell (p:=⟨B9,1,none⟩) (cY.o.1.2.2.2) t1;clear t1;have t1:=qF;clear qF;have qG:=dE.cell (p:=⟨B9,2,none⟩) (cY.o.1.2.2.2) t2;clear t2;have t2:=qG;clear qG;have qH:=dE.cell (p:=⟨B9,3,none⟩) (cY.o.1.2.2.2) t3;clear t3;have t3:=qH;clear qH;have qI:=dE.cell (p:=⟨B9,4,none⟩) (cY.o.1.2.2.2) t4;clear t4;have t4:=qI;clear qI;obtain⟨O6,sD⟩:=qS (Hn++encI [C',N'])
       have abO:O6.length<=Hn.length+20:=by rw[sD,fb];have:=fN [C',N'];simp only[fm,ix]at this;omega
       rw[<-sD]at hS;have O7:=al sD;have O8:=al (ab hS hC);obtain⟨mN,mO,mP,jY,lg⟩:=hC;clear hS dE sD Ho;go_wp2_with fail;go_roundw
       case rel=>
        refine⟨k+1,by have:=HX.o.2.1;omega,by go_num,?_,O8.o.2⟩;rw[rp HX.o.1];have h9:=O8.o.1.less cY.o.2;have e9:O6=Wn++((e.cls.take k).flatMap kY++kY ⟨false,A',B',C',N'⟩):=by rw[O7.o,O5.o,O4.o,O3.o,UC.o];simp[kY,Cw]
        rw[e9]at h9;exact h9
       case measure=>simp[intOf];omega
     ·have hkl:k=e.cls.length:=by omega
      subst hkl;rw[gd]at hE;have hfl:=EG e.cls (fun c hc=>(HG.o.clo c hc).vS) e.cls.length;rw[gd]at hfl;have hin:Wn++e.cls.flatMap kY=inside e:=by rw[abL.o,abK.o,abJ.o,abI.o,abD.o,abC.o];simp[inside]
      have hil:(inside e).length<=100000:=by rw[<-hin,fb];omega
      rw[hin]at hE;have HIL:=al (ab hE hil);obtain⟨F,hwr,hF,hbl,_⟩:=hE;have HWB:=al (Ah wr F b (inside e) hwr (by omega));clear hwr hF hbl hin hfl hil;go_wp2_with fail;refine HWB.o.m ?_;rintro en w20 ⟨A9,c9,rfl,O9,qV⟩;rw[fa]at O9⊢;have Wo:Below w.heap.size w w20:=(uB.o.x (HIL.o.1.bl.m uB.o.size)).x (qV.m (uB.o.x (HIL.o.1.bl.m uB.o.size)).size);have HSL:=al (Ru w20 (fun _=>True) A9 (inside e).length c9 (inside e) (HE.o.2.1.below Wo) (Rd.aU O9 (fun _ _=>trivial)) (by have:=HIL.o.2;omega));have Wp:=al Wo;clear O9 qV Wo;go_wp2_with fail;refine HSL.o.m ?_;rintro en w21 ⟨ZZ,c10,rfl,Pb,Oq⟩;have HO:=al (ab Pb Oq);clear Pb Oq;go_wp2_with fail
      go_ret2
      exact⟨Wp.o.x (HO.o.2.m Wp.o.size),.inr ⟨HE.o.t.1,ZZ,c10,rfl,dM HO.o.1 (fun g hg=>da Wp.o.size (HO.o.1.lt g hg).1)⟩⟩
 ·have hrn:(r !=0)=true:=by simpa using Wj
  have HR:=al Wj;clear Wj;go_wp2_with fail
  go_ret2
  exact⟨uB.o,.inl ⟨by rw[HE.o.t.1];exact HR.o,by rw[HE.o.t.1];rfl⟩⟩
end Go.Proofs.YtmkofmeojbcakaaGreatDoor
