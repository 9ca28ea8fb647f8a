import Derived.Test.YtagemonojdgbdaaGreatDoorF14
import Derived.Test.YtagemonojdgbdaaGreatDoorF18
import Derived.Test.YtagemonojdgbdaaGreatDoorF26
namespace Go.Proofs.YtagemonojdgbdaaGreatDoor
set_option maxRecDepth 100000
set_option maxHeartbeats 16000000
open Go.RowKit
def Ch.cells(x:Ch):List Value:=[.int .i64 (x.aK:Int),.int .i64 x.v,.string ⟨x.k.toArray⟩,.bool x.add]
def wV(l:List Ch):List Value:=(l.map Ch.cells).flatten
theorem Pe(l m:List Ch):wV (l++m)=wV l++wV m:=by simp[wV]
theorem rD(l:List Ch): ∀y∈l.map Ch.cells,y.length=4:=by intro y hy;obtain⟨x,_,rfl⟩:=ep.1 hy;rfl
theorem Sn(l:List Ch): ∀u∈(l.map Ch.cells).flatten,u.oneCell'=true:=by intro u hu;obtain⟨y,hy,hu⟩:=List.mem_flatten.1 hu;obtain⟨x,_,rfl⟩:=ep.1 hy;simp only[Ch.cells,List.mem_cons,List.not_mem_nil,or_false]at hu;rcases hu with rfl|rfl|rfl|rfl<;>rfl
theorem Tryz.Sq:(Tryz.prog.info? 218).map (fun i=>(i.zero,i.size,i.bytes))=some (some (.agg #[.int .i64 0,.int .i64 0,.string ⟨#[]⟩,.bool false]),4,40):=by kernel_rfl
def sI(w:World)(v:Value):Option Rw->Prop
 |none=>v=.pointer none
 |some r=> ∃b,v=.pointer (some ⟨b,0,none⟩)/\w.heap[b]?=some (.cells #[.int .i64 r.a,.int .i64 r.b,.int .i64 r.c,.int .i64 r.d] 26 (0,0))
theorem jV(w:World)(base:Nat)(v vx:Value)(l m:List Ch)(F:Nat->Prop)(hown:w.ownsRow base 218 4 v l.length (wV l))(hr:cd 4 w F vx (m.map Ch.cells))(hl:l.length+m.length<=1000)(hb:base<=w.heap.size):
  Calls Tryz.prog 140 #[v,vx] w fun e w'=> ∃v',e=.returned v'/\w'.ownsRow base 218 4 v' (l++m).length (wV (l++m))/\Only (fun k=>v.ownBlock=some k) w w'/\(v'.ownBlock=v.ownBlock\/v'.ownBlock=some w.heap.size):=by
 obtain⟨i0,hi,hz0,hz1,hz2⟩:=eC Tryz.Sq;obtain⟨A,c,rfl⟩:=ah hown;obtain⟨A',n',c',rfl,_⟩:=id hr;have H:=al (ab hown (ab hr (ab hl hb)));clear hown hr hl hb;go_enter Tryz.func140,Tryz.ntmps140;go_wp2_with (at_builtin;go_loud (refine cO _ rfl _ _ 212 rfl base 218 i0 _ 4 40 Tryz.underlying212 hi hz0 hz1 hz2 rfl (by decide) _ l.length (wV l) rfl H.out.1 F _ (m.map Ch.cells) rfl H.out.2.1 (rD m) (Sn m) (by have:=H.out.2.2.1;simp;omega) (by have:=H.out.2.2.1;simp[maxLen];omega) H.out.2.2.2 ?_);intro v' w1 hown1 hgrow1 hat);go_ret
 refine⟨v',rfl,?_,Only.of_grownBy hgrow1,hat⟩;rw[Pe,gk];have h:=hown1;rw[fb]at h;exact h
theorem zN{w:World}{X:Nat}{x:Ch}{t:TypeId}(h:w.heap[X]?=some (.cells #[.int .i64 (x.aK:Int),.int .i64 x.v,.string ⟨x.k.toArray⟩,.bool x.add] t (0,0))):cd 4 w (fun _=>True) (.slice (some ⟨X,0,none⟩) 1 1) ([x].map Ch.cells):=by refine⟨_,1,1,rfl,rfl,aq _,by simp[maxLen],fun _=>⟨X,0,rfl,trivial,fun i y hi j u hj=>?_⟩⟩;have h1:=jl (k:=4) (xs:=[x].map Ch.cells) (rD [x]) i y hi j u hj;rw[World.cell?,h];have h2:(#[.int .i64 (x.aK:Int),.int .i64 x.v,.string ⟨x.k.toArray⟩,.bool x.add]:Array Value).toList=([x].map Ch.cells).flatten:=rfl;rw[<-h2]at h1;simpa using h1
def iO(k:List UInt8)(old now:Option Rw)(c:Nat):List Ch:=
 (match old with
  |some o=>[⟨c,o.aK c,k,false⟩]
  |none=>[])++(match now with
  |some n=>[⟨c,n.aK c,k,true⟩]
  |none=>[])
theorem oo{k:List UInt8}{old now:Option Rw}{c:Nat}(h: ∀o n,old=some o->now=some n->o.aK c≠n.aK c):JQ k old now c=iO k old now c:=by
 unfold JQ iO;split
 ·rename_i o n;rw[ff (h o n rfl rfl)];rfl
 ·rfl
 ·rfl
 ·rfl
def Zw(l:List Ch)(w:World)(e:Ending)(w':World):Prop:= ∃v,e=.returned v/\w'.ownsRow w.heap.size 218 4 v l.length (wV l)/\Below w.heap.size w w'
theorem I1(w:World)(k:List UInt8)(c:Nat)(hc:c<4)(nb:Nat)(n:Rw)(hn:w.heap[nb]?=some (.cells #[.int .i64 n.a,.int .i64 n.b,.int .i64 n.c,.int .i64 n.d] 26 (0,0))):Calls Tryz.prog 141 #[.int .i64 (c:Int),.string ⟨k.toArray⟩,.pointer none,.pointer (some ⟨nb,0,none⟩)] w (Zw (iO k none (some n) c) w):=by
 have i1:(0:Int)<=(c:Int):=by omega
 have i2:(c:Int)<4:=by omega
 have y0:=bw hn hc;obtain⟨y,hy⟩: ∃y,n.aK c=y:=⟨_,rfl⟩;rw[hy]at y0;have H:=al (ab hn hy);clear hn hy;go_enter Tryz.func141,Tryz.ntmps141;have hown0:w.ownsRow w.heap.size 218 4 (.slice none 0 0) ([]:List Ch).length (wV []):=ee _ _ _ _;have H0:=al (ab hown0 (aw w.heap.size w));clear hown0;have hb:=af w (.cells #[.int .i64 (c:Int),.int .i64 y,.string ⟨k.toArray⟩,.bool true] 218);have kx:=an w (.cells #[.int .i64 (c:Int),.int .i64 y,.string ⟨k.toArray⟩,.bool true] 218);have hown:=aX H0.out.1 hb;have HA:=al (ab (jV (w.alloc (.cells #[.int .i64 (c:Int),.int .i64 y,.string ⟨k.toArray⟩,.bool true] 218)) w.heap.size (.slice none 0 0) (.slice (some ⟨w.heap.size,0,none⟩) 1 1) [] [⟨c,y,k,true⟩] (fun _=>True) hown (zN kx) (by simp) (by have:=H0.out.2.size;have:=hb.size;omega)) hb);clear hb kx hown;go_wp2_with fail;refine HA.out.1.mono ?_;rintro e w2 ⟨v2,rfl,hown2,eo,L3⟩;obtain⟨A2,c2,rfl⟩:=ah hown2;have H2:=al (ab hown2 (show Below w.heap.size w w2 from(H0.out.2.trans (HA.out.2.mono H0.out.2.size)).trans (eo.aG (de H0.out.2.size HA.out.2.size) (fun k hk h=>?_))));rotate_left
 ·simp[Value.ownBlock]at h
 clear hown2 eo L3 HA;go_wp2_with fail;go_ret
 refine⟨_,rfl,?_,H2.out.2⟩;have h:=H2.out.1;unfold iO;simp only[H.out.2];exact h
theorem I2(w:World)(k:List UInt8)(c:Nat)(hc:c<4)(ob:Nat)(o:Rw)(ho:w.heap[ob]?=some (.cells #[.int .i64 o.a,.int .i64 o.b,.int .i64 o.c,.int .i64 o.d] 26 (0,0))):Calls Tryz.prog 141 #[.int .i64 (c:Int),.string ⟨k.toArray⟩,.pointer (some ⟨ob,0,none⟩),.pointer none] w (Zw (iO k (some o) none c) w):=by
 have i1:(0:Int)<=(c:Int):=by omega
 have i2:(c:Int)<4:=by omega
 have z0:=bw ho hc;obtain⟨x,hx⟩: ∃x,o.aK c=x:=⟨_,rfl⟩;rw[hx]at z0;have H:=al (ab ho hx);clear ho hx;go_enter Tryz.func141,Tryz.ntmps141;have hown0:w.ownsRow w.heap.size 218 4 (.slice none 0 0) ([]:List Ch).length (wV []):=ee _ _ _ _;have H0:=al (ab hown0 (aw w.heap.size w));clear hown0;have hb:=af w (.cells #[.int .i64 (c:Int),.int .i64 x,.string ⟨k.toArray⟩,.bool false] 218);have kx:=an w (.cells #[.int .i64 (c:Int),.int .i64 x,.string ⟨k.toArray⟩,.bool false] 218);have hown:=aX H0.out.1 hb;have HA:=al (ab (jV (w.alloc (.cells #[.int .i64 (c:Int),.int .i64 x,.string ⟨k.toArray⟩,.bool false] 218)) w.heap.size (.slice none 0 0) (.slice (some ⟨w.heap.size,0,none⟩) 1 1) [] [⟨c,x,k,false⟩] (fun _=>True) hown (zN kx) (by simp) (by have:=H0.out.2.size;have:=hb.size;omega)) hb);clear hb kx hown;go_wp2_with fail;refine HA.out.1.mono ?_;rintro e w1 ⟨v1,rfl,hown1,vO,iV⟩;obtain⟨A1,c1,rfl⟩:=ah hown1;have H1:=al (ab hown1 (show Below w.heap.size w w1 from HA.out.2.trans (vO.aG HA.out.2.size (fun k hk h=>by simp[Value.ownBlock]at h))));clear hown1 vO iV HA;go_wp2_with fail;go_ret
 refine⟨_,rfl,?_,H1.out.2⟩;have h:=H1.out.1;unfold iO;simp only[H.out.2];exact h
theorem I3(w:World)(k:List UInt8)(c:Nat)(hc:c<4)(ob:Nat)(o:Rw)(ho:w.heap[ob]?=some (.cells #[.int .i64 o.a,.int .i64 o.b,.int .i64 o.c,.int .i64 o.d] 26 (0,0)))(nb:Nat)(n:Rw)(hn:w.heap[nb]?=some (.cells #[.int .i64 n.a,.int .i64 n.b,.int .i64 n.c,.int .i64 n.d] 26 (0,0))):Calls Tryz.prog 141 #[.int .i64 (c:Int),.string ⟨k.toArray⟩,.pointer (some ⟨ob,0,none⟩),.pointer (some ⟨nb,0,none⟩)] w (Zw (iO k (some o) (some n) c) w):=by
 have i1:(0:Int)<=(c:Int):=by omega
 have i2:(c:Int)<4:=by omega
 have z0:=bw ho hc;obtain⟨x,hx⟩: ∃x,o.aK c=x:=⟨_,rfl⟩;rw[hx]at z0;have y0:=bw hn hc;obtain⟨y,hy⟩: ∃y,n.aK c=y:=⟨_,rfl⟩;rw[hy]at y0;have H:=al (ab ho (ab hx (ab hn hy)));clear ho hx hn hy;go_enter Tryz.func141,Tryz.ntmps141;have hown0:w.ownsRow w.heap.size 218 4 (.slice none 0 0) ([]:List Ch).length (wV []):=ee _ _ _ _;have H0:=al (ab hown0 (aw w.heap.size w));clear hown0;have hb:=af w (.cells #[.int .i64 (c:Int),.int .i64 x,.string ⟨k.toArray⟩,.bool false] 218);have kx:=an w (.cells #[.int .i64 (c:Int),.int .i64 x,.string ⟨k.toArray⟩,.bool false] 218);have hown:=aX H0.out.1 hb;have HA:=al (ab (jV (w.alloc (.cells #[.int .i64 (c:Int),.int .i64 x,.string ⟨k.toArray⟩,.bool false] 218)) w.heap.size (.slice none 0 0) (.slice (some ⟨w.heap.size,0,none⟩) 1 1) [] [⟨c,x,k,false⟩] (fun _=>True) hown (zN kx) (by simp) (by have:=H0.out.2.size;have:=hb.size;omega)) hb);clear hb kx hown;go_wp2_with fail;refine HA.out.1.mono ?_;rintro e w1 ⟨v1,rfl,hown1,vO,iV⟩;obtain⟨A1,c1,rfl⟩:=ah hown1;simp only[fs,iS,nx,gn]at hown1⊢;have H1:=al (ab hown1 (show Below w.heap.size w w1 from HA.out.2.trans (vO.aG HA.out.2.size (fun k hk h=>by simp[Value.ownBlock]at h))));clear hown1 vO iV HA;have y0:w1.cell? ⟨nb,c,none⟩=some (.int .i64 y):=(H1.out.2.cell (p:=⟨nb,c,none⟩) (aE w _ y0)).trans y0;have hb:=af w1 (.cells #[.int .i64 (c:Int),.int .i64 y,.string ⟨k.toArray⟩,.bool true] 218);have kx:=an w1 (.cells #[.int .i64 (c:Int),.int .i64 y,.string ⟨k.toArray⟩,.bool true] 218);have hown:=aX H1.out.1 hb;have HA:=al (ab (jV (w1.alloc (.cells #[.int .i64 (c:Int),.int .i64 y,.string ⟨k.toArray⟩,.bool true] 218)) w.heap.size (.slice A1 1 c1) (.slice (some ⟨w1.heap.size,0,none⟩) 1 1) [⟨c,x,k,false⟩] [⟨c,y,k,true⟩] (fun _=>True) hown (zN kx) (by simp) (by have:=H1.out.2.size;have:=hb.size;omega)) hb);clear hb kx hown;go_wp2_with fail;refine HA.out.1.mono ?_;rintro e w2 ⟨v2,rfl,hown2,eo,L3⟩;obtain⟨A2,c2,rfl⟩:=ah hown2;have H2:=al (ab hown2 (show Below w.heap.size w w2 from(H1.out.2.trans (HA.out.2.mono H1.out.2.size)).trans (eo.aG (de H1.out.2.size HA.out.2.size) (fun k hk h=>?_))));rotate_left
 ·have:=(H1.out.1.lt k h).1;omega
 clear hown2 eo L3 HA;go_wp2_with fail;go_ret
 refine⟨_,rfl,?_,H2.out.2⟩;have h:=H2.out.1;unfold iO;simp only[H.out.2.1,H.out.2.2.2];exact h
def Pf(l:List Ch)(w:World)(e:Ending)(w':World):Prop:= ∃v,e=.returned (.tuple #[v,.int .i64 0])/\w'.ownsRow w.heap.size 218 4 v l.length (wV l)/\Below w.heap.size w w'
theorem V6{o n:Rw}(h:o.a=n.a/\o.b=n.b/\o.c=n.c/\o.d=n.d):o=n:=by cases o;cases n;simp only at h;obtain⟨rfl,rfl,rfl,rfl⟩:=h;rfl
theorem GA{k:List UInt8}{o n:Rw}{c:Nat}(h:o.aK c=n.aK c):JQ k (some o) (some n) c=[]:=fi h
theorem GC{k:List UInt8}(o:Rw): ∀c,iF k (some o) (some o) c=[]
 |0=>rfl
 |c+1=>by rw[iF,GC o c,GA rfl];rfl
theorem EH(w:World)(k:List UInt8)(hk:1<=k.length/\k.length<=16)(nb:Nat)(n:Rw)(hn:w.heap[nb]?=some (.cells #[.int .i64 n.a,.int .i64 n.b,.int .i64 n.c,.int .i64 n.d] 26 (0,0))):Calls Tryz.prog 95 #[.string ⟨k.toArray⟩,.pointer none,.pointer (some ⟨nb,0,none⟩)] w (Pf (Lr k none (some n)) w):=by
 have EI:cQ k=0:=by unfold cQ;rw[ff (by omega)]
 have HC:=al (dm w k);rw[EI]at HC;have HH:=al hn;clear EI hk hn;go_enter Tryz.func95,Tryz.ntmps95;go_wp2_with fail;refine HC.out.mono ?_;rintro e w1 ⟨rfl,rfl⟩;clear HC;go_wp2_with fail;go_quiet(fail);go_wp2_with fail
 go_loopw [10,33] (fun v i wr=> ∃c:Nat,c<=4/\i=.int .i64 (c:Int)/\wr.ownsRow w.heap.size 218 4 v (iF k none (some n) c).length (wV (iF k none (some n) c))/\Below w.heap.size w wr) (fun _ i _=>4-(intOf i).toNat)
 case atStart=>exact⟨0,by decide,rfl,ee _ _ _ _,Only.aG ((oB (fun _=>False) w).drewN _) (aq _) (fun _ _ h=>h)⟩
 case round=>
  obtain⟨c,hc,rfl,hown,hb⟩:=hrel;obtain⟨A,cp,rfl⟩:=ah hown;by_cases hlt:c<4
  ·have i1:(0:Int)<=(c:Int):=by omega
   have i2:(c:Int)<4:=by omega
   have HW:=al (ab hown hb);have hlen:=qm k none (some n) c;obtain⟨N,hN⟩: ∃N,(iF k none (some n) c).length=N:=⟨_,rfl⟩;rw[hN]at hlen;have HN:=al (ab hN hlen);rw[hN];clear hown hlen hN;go_wp2_with fail;go_quiet(fail);have EJ: ∀n,Below w.heap.size w (wr.drewN n):=fun n=>Only.aG ((qe hb).drewN n) (aq _) (fun _ _ h=>h);go_wp2_with fail;refine(I1 _ k c hlt nb n (pw (EJ _) HH.out)).mono ?_;rintro e w2 ⟨v2,rfl,hown2,hb2⟩;obtain⟨A2,c2,rfl⟩:=ah hown2;obtain⟨M2,sF⟩: ∃M,(iO k none (some n) c).length=M:=⟨_,rfl⟩;have L4:M2<=2:=by rw[<-sF,<-oo (fun o n h1 h2=>by cases h1)];exact sY k none (some n) c
   have kj:cd 4 w2 (fun _=>True) (.slice A2 (iO k none (some n) c).length c2) ((iO k none (some n) c).map Ch.cells):=cd.cP hown2 (rD _) (by decide) (fun _ _=>trivial);have sf:w2.ownsRow w.heap.size 218 4 (.slice A (iF k none (some n) c).length cp) (iF k none (some n) c).length (wV (iF k none (some n) c)):=aX (bu HW.out.1 ((oB (fun _=>False) wr).drewN _) (fun _ _ h=>h)) hb2;have HA:=al (jV w2 w.heap.size _ _ (iF k none (some n) c) (iO k none (some n) c) (fun _=>True) sf kj (by rw[HN.out.1,sF];have:=HN.out.2;omega) (by have:=HW.out.2.size;have:=hb2.size;simp at this;omega));have fR:=al (show Below w.heap.size w w2 from(EJ _).trans (hb2.mono (EJ _).size));rw[HN.out.1]at HA;rw[sF]at HA;rw[sF];clear hown2 hb2 kj sf hb EJ sF L4 i1 i2;go_wp2_with fail;refine HA.out.mono ?_;rintro e w3 ⟨v3,rfl,dv,rX,lg⟩;obtain⟨A3,c3,rfl⟩:=ah dv
   have H3:=al (show w3.ownsRow w.heap.size 218 4 (.slice A3 (iF k none (some n) c++iO k none (some n) c).length c3) (iF k none (some n) (c+1)).length (wV (iF k none (some n) (c+1)))/\Below w.heap.size w w3 from by
    have e:iF k none (some n) (c+1)=iF k none (some n) c++iO k none (some n) c:=by rw[iF,oo (fun o n h1 h2=>by cases h1)]
    refine⟨by rw[e];exact dv,fR.out.trans (rX.aG fR.out.size (fun g hg h=>?_))⟩;have hlt:=(HW.out.1.lt g (by rw[HN.out.1];exact h)).1
    omega)
   clear dv rX lg HA;go_wp2_with fail;go_roundw
   case rel=>exact⟨c+1,by omega,by go_num,by rw[<-gk];exact H3.out.1,H3.out.2⟩
   case measure=>simp[intOf];omega
  ·obtain rfl:c=4:=by omega
   have HW:=al (ab hown hb);clear hown hb;go_wp2_with fail
   go_ret2
   exact⟨_,rfl,HW.out.1,HW.out.2⟩
theorem EK(w:World)(k:List UInt8)(hk:1<=k.length/\k.length<=16)(ob:Nat)(o:Rw)(ho:w.heap[ob]?=some (.cells #[.int .i64 o.a,.int .i64 o.b,.int .i64 o.c,.int .i64 o.d] 26 (0,0))):Calls Tryz.prog 95 #[.string ⟨k.toArray⟩,.pointer (some ⟨ob,0,none⟩),.pointer none] w (Pf (Lr k (some o) none) w):=by
 have EI:cQ k=0:=by unfold cQ;rw[ff (by omega)]
 have HC:=al (dm w k);rw[EI]at HC;have HH:=al ho;clear EI hk ho;go_enter Tryz.func95,Tryz.ntmps95;go_wp2_with fail;refine HC.out.mono ?_;rintro e w1 ⟨rfl,rfl⟩;clear HC;go_wp2_with fail;go_quiet(fail);go_wp2_with fail
 go_loopw [10,33] (fun v i wr=> ∃c:Nat,c<=4/\i=.int .i64 (c:Int)/\wr.ownsRow w.heap.size 218 4 v (iF k (some o) none c).length (wV (iF k (some o) none c))/\Below w.heap.size w wr) (fun _ i _=>4-(intOf i).toNat)
 case atStart=>exact⟨0,by decide,rfl,ee _ _ _ _,Only.aG ((oB (fun _=>False) w).drewN _) (aq _) (fun _ _ h=>h)⟩
 case round=>
  obtain⟨c,hc,rfl,hown,hb⟩:=hrel;obtain⟨A,cp,rfl⟩:=ah hown;by_cases hlt:c<4
  ·have i1:(0:Int)<=(c:Int):=by omega
   have i2:(c:Int)<4:=by omega
   have HW:=al (ab hown hb);have hlen:=qm k (some o) none c;obtain⟨N,hN⟩: ∃N,(iF k (some o) none c).length=N:=⟨_,rfl⟩;rw[hN]at hlen;have HN:=al (ab hN hlen);rw[hN];clear hown hlen hN;go_wp2_with fail;go_quiet(fail);have EJ: ∀n,Below w.heap.size w (wr.drewN n):=fun n=>Only.aG ((qe hb).drewN n) (aq _) (fun _ _ h=>h);go_wp2_with fail;refine(I2 _ k c hlt ob o (pw (EJ _) HH.out)).mono ?_;rintro e w2 ⟨v2,rfl,hown2,hb2⟩;obtain⟨A2,c2,rfl⟩:=ah hown2;obtain⟨M2,sF⟩: ∃M,(iO k (some o) none c).length=M:=⟨_,rfl⟩;have L4:M2<=2:=by rw[<-sF,<-oo (fun o n h1 h2=>by cases h2)];exact sY k (some o) none c
   have kj:cd 4 w2 (fun _=>True) (.slice A2 (iO k (some o) none c).length c2) ((iO k (some o) none c).map Ch.cells):=cd.cP hown2 (rD _) (by decide) (fun _ _=>trivial);have sf:w2.ownsRow w.heap.size 218 4 (.slice A (iF k (some o) none c).length cp) (iF k (some o) none c).length (wV (iF k (some o) none c)):=aX (bu HW.out.1 ((oB (fun _=>False) wr).drewN _) (fun _ _ h=>h)) hb2;have HA:=al (jV w2 w.heap.size _ _ (iF k (some o) none c) (iO k (some o) none c) (fun _=>True) sf kj (by rw[HN.out.1,sF];have:=HN.out.2;omega) (by have:=HW.out.2.size;have:=hb2.size;simp at this;omega));have fR:=al (show Below w.heap.size w w2 from(EJ _).trans (hb2.mono (EJ _).size));rw[HN.out.1]at HA;rw[sF]at HA;rw[sF];clear hown2 hb2 kj sf hb EJ sF L4 i1 i2;go_wp2_with fail;refine HA.out.mono ?_;rintro e w3 ⟨v3,rfl,dv,rX,lg⟩;obtain⟨A3,c3,rfl⟩:=ah dv
   have H3:=al (show w3.ownsRow w.heap.size 218 4 (.slice A3 (iF k (some o) none c++iO k (some o) none c).length c3) (iF k (some o) none (c+1)).length (wV (iF k (some o) none (c+1)))/\Below w.heap.size w w3 from by
    have e:iF k (some o) none (c+1)=iF k (some o) none c++iO k (some o) none c:=by rw[iF,oo (fun o n h1 h2=>by cases h2)]
    refine⟨by rw[e];exact dv,fR.out.trans (rX.aG fR.out.size (fun g hg h=>?_))⟩;have hlt:=(HW.out.1.lt g (by rw[HN.out.1];exact h)).1
    omega)
   clear dv rX lg HA;go_wp2_with fail;go_roundw
   case rel=>exact⟨c+1,by omega,by go_num,by rw[<-gk];exact H3.out.1,H3.out.2⟩
   case measure=>simp[intOf];omega
  ·obtain rfl:c=4:=by omega
   have HW:=al (ab hown hb);clear hown hb;go_wp2_with fail
   go_ret2
   exact⟨_,rfl,HW.out.1,HW.out.2⟩
theorem EL(w:World)(k:List UInt8)(hk:1<=k.length/\k.length<=16)(ob:Nat)(o:Rw)(ho:w.heap[ob]?=some (.cells #[.int .i64 o.a,.int .i64 o.b,.int .i64 o.c,.int .i64 o.d] 26 (0,0)))(nb:Nat)(n:Rw)(hn:w.heap[nb]?=some (.cells #[.int .i64 n.a,.int .i64 n.b,.int .i64 n.c,.int .i64 n.d] 26 (0,0))):Calls Tryz.prog 95 #[.string ⟨k.toArray⟩,.pointer (some ⟨ob,0,none⟩),.pointer (some ⟨nb,0,none⟩)] w (Pf (Lr k (some o) (some n)) w):=by
 have EI:cQ k=0:=by unfold cQ;rw[ff (by omega)]
 have HC:=al (dm w k);rw[EI]at HC;have HH:=al (ab ho hn);clear EI hk ho hn;go_enter Tryz.func95,Tryz.ntmps95;go_wp2_with fail;refine HC.out.mono ?_;rintro e w1 ⟨rfl,rfl⟩;clear HC;go_wp2_with fail;obtain⟨⟨x0,x1,x2,x3⟩,-⟩:=ct HH.out.1;obtain⟨⟨y0,y1,y2,y3⟩,-⟩:=ct HH.out.2;have heq:=fun(w:World)=>eq4 w o.a o.b o.c o.d n.a n.b n.c n.d;have hg:=Tryz.Sm;by_cases hq:o=n
 ·subst hq;go_quiet(fail);go_wp2_with fail
  go_ret2
  refine⟨_,rfl,?_,Only.aG ((oB (fun _=>False) w).drewN _) (aq _) (fun _ _ h=>h)⟩;unfold Lr;rw[GC];exact ee _ _ _ _
 ·have GD:(decide (o.a=n.a)&&(decide (o.b=n.b)&&(decide (o.c=n.c)&&decide (o.d=n.d))))=false:=by
   rw[Bool.eq_false_iff];intro h;simp only[mT,decide_eq_true_eq]at h;exact hq (V6 h)
  clear hq;go_quiet(fail);clear x0 x1 x2 x3 y0 y1 y2 y3 heq hg GD;go_wp2_with fail
  go_loopw [10,33] (fun v i wr=> ∃c:Nat,c<=4/\i=.int .i64 (c:Int)/\wr.ownsRow w.heap.size 218 4 v (iF k (some o) (some n) c).length (wV (iF k (some o) (some n) c))/\Below w.heap.size w wr) (fun _ i _=>4-(intOf i).toNat)
  case atStart=>exact⟨0,by decide,rfl,ee _ _ _ _,Only.aG ((oB (fun _=>False) w).drewN _) (aq _) (fun _ _ h=>h)⟩
  case round=>
   obtain⟨c,hc,rfl,hown,hb⟩:=hrel;obtain⟨A,cp,rfl⟩:=ah hown;by_cases hlt:c<4
   ·have i1:(0:Int)<=(c:Int):=by omega
    have i2:(c:Int)<4:=by omega
    have HW:=al (ab hown hb);have hlen:=qm k (some o) (some n) c;obtain⟨N,hN⟩: ∃N,(iF k (some o) (some n) c).length=N:=⟨_,rfl⟩;rw[hN]at hlen;have HN:=al (ab hN hlen);rw[hN];clear hown hlen hN;have z0:=bw (pw hb HH.out.1) hlt;have y0:=bw (pw hb HH.out.2) hlt;obtain⟨x,hx⟩: ∃x,o.aK c=x:=⟨_,rfl⟩;obtain⟨y,hy⟩: ∃y,n.aK c=y:=⟨_,rfl⟩;rw[hx]at z0;rw[hy]at y0;by_cases hxy:x=y
    ·subst hxy;have HE:=al (show o.aK c=n.aK c from hx.trans hy.symm);clear hx hy;go_wp2_with fail;go_quiet(fail);go_wp2_with fail;go_roundw
     case rel=>refine⟨c+1,by omega,by go_num,?_,Only.aG ((qe hb).drewN _) (aq _) (fun _ _ h=>h)⟩;rw[iF,GA HE.out,gd,<-HN.out.1];exact bu HW.out.1 ((oB (fun _=>False) wr).drewN _) (fun _ _ h=>h)
     case measure=>simp[intOf];omega
    ·have HE:=al (show o.aK c≠n.aK c from by rw[hx,hy];exact hxy);have Sr:(x==y)=false:=by simpa using hxy
     clear hx hy;go_wp2_with fail;go_quiet(fail);have EJ: ∀n,Below w.heap.size w (wr.drewN n):=fun n=>Only.aG ((qe hb).drewN n) (aq _) (fun _ _ h=>h);go_wp2_with fail;refine(I3 _ k c hlt ob o (pw (EJ _) HH.out.1) nb n (pw (EJ _) HH.out.2)).mono ?_;rintro e w2 ⟨v2,rfl,hown2,hb2⟩;obtain⟨A2,c2,rfl⟩:=ah hown2;obtain⟨M2,sF⟩: ∃M,(iO k (some o) (some n) c).length=M:=⟨_,rfl⟩;have L4:M2<=2:=by rw[<-sF,<-oo (fun o n h1 h2=>by cases h1;cases h2;exact HE.out)];exact sY k (some o) (some n) c
     have kj:cd 4 w2 (fun _=>True) (.slice A2 (iO k (some o) (some n) c).length c2) ((iO k (some o) (some n) c).map Ch.cells):=cd.cP hown2 (rD _) (by decide) (fun _ _=>trivial);have sf:w2.ownsRow w.heap.size 218 4 (.slice A (iF k (some o) (some n) c).length cp) (iF k (some o) (some n) c).length (wV (iF k (some o) (some n) c)):=aX (bu HW.out.1 ((oB (fun _=>False) wr).drewN _) (fun _ _ h=>h)) hb2;have HA:=al (jV w2 w.heap.size _ _ (iF k (some o) (some n) c) (iO k (some o) (some n) c) (fun _=>True) sf kj (by rw[HN.out.1,sF];have:=HN.out.2;omega) (by have:=HW.out.2.size;have:=hb2.size;simp at this;omega));have fR:=al (show Below w.heap.size w w2 from(EJ _).trans (hb2.mono (EJ _).size));rw[HN.out.1]at HA;rw[sF]at HA;rw[sF];clear z0 y0 hxy Sr hown2 hb2 kj sf hb EJ sF L4 i1 i2;go_wp2_with fail;refine HA.out.mono ?_;rintro e w3 ⟨v3,rfl,dv,rX,lg⟩;obtain⟨A3,c3,rfl⟩:=ah dv
     have H3:=al (show w3.ownsRow w.heap.size 218 4 (.slice A3 (iF k (some o) (some n) c++iO k (some o) (some n) c).length c3) (iF k (some o) (some n) (c+1)).length (wV (iF k (some o) (some n) (c+1)))/\Below w.heap.size w w3 from by
      have e:iF k (some o) (some n) (c+1)=iF k (some o) (some n) c++iO k (some o) (some n) c:=by rw[iF,oo (fun o n h1 h2=>by cases h1;cases h2;exact HE.out)]
      refine⟨by rw[e];exact dv,fR.out.trans (rX.aG fR.out.size (fun g hg h=>?_))⟩;have hlt:=(HW.out.1.lt g (by rw[HN.out.1];exact h)).1
      omega)
     clear dv rX lg HA;go_wp2_with fail;go_roundw
     case rel=>exact⟨c+1,by omega,by go_num,by rw[<-gk];exact H3.out.1,H3.out.2⟩
     case measure=>simp[intOf];omega
   ·obtain rfl:c=4:=by omega
    have HW:=al (ab hown hb);clear hown hb;go_wp2_with fail
    go_ret2
    exact⟨_,rfl,HW.out.1,HW.out.2⟩
theorem L5(a b:List UInt8):(⟨a.toArray⟩:ByteArray)++⟨b.toArray⟩=⟨(a++b).toArray⟩:=by apply ByteArray.ext;simp
def L6(n k:Nat):List Value:=List.replicate (8-k) (.int .u8 0)++(be k (n%256^k)).map B8
theorem Pg{n k:Nat}(hk:k<=8):(L6 n k).length=8:=by simp[L6,DA];omega
theorem Ph(n:Nat){k j:Nat}(hk:k+j=7):(L6 n k).toArray.setIfInBounds j (B8 (UInt8.ofNat (n/256^k%256)))=(L6 n (k+1)).toArray:=by
 have hj:8-k=j+1:=by omega
 have hj2:8-(k+1)=j:=by omega
 have hb:be (k+1) (n%256^(k+1))=UInt8.ofNat (n/256^k%256)::be k (n%256^k):=by
  rw[be];have h1:n%256^(k+1)/256^k=n/256^k%256:=by rw[Nat.pow_succ,Nat.mod_mul_right_div_self]
  have h2:n%256^(k+1)%256^k=n%256^k:=Nat.mod_mod_of_dvd _ (Nat.pow_dvd_pow 256 (by omega));rw[h1,h2]
 unfold L6;rw[hj,hj2,hb,List.replicate_succ',List.setIfInBounds_toArray];congr 1;rw[lk,List.set_append_right _ _ (by simp),List.length_replicate,Nat.sub_self];simp
theorem V7{w:World}{B:Nat}{a0 a1 a2 a3 a4 a5 a6 a7 v0 v1 v2 v3 v4 v5 v6 v7:Value}{t:TypeId}(h:w.heap[B]?=some (.cells #[a0,a1,a2,a3,a4,a5,a6,a7] t (0,0))):
  ((((((((w.setCell ⟨B,0,none⟩ v0).setCell ⟨B,1,none⟩ v1).setCell ⟨B,2,none⟩ v2).setCell ⟨B,3,none⟩ v3).setCell ⟨B,4,none⟩ v4).setCell ⟨B,5,none⟩ v5).setCell ⟨B,6,none⟩ v6).setCell ⟨B,7,none⟩ v7).heap[B]?=some (.cells #[v0,v1,v2,v3,v4,v5,v6,v7] t (0,0)):=by
 have h0:=dr w B 0 _ t v0 h;have h1:=dr _ B 1 _ t v1 h0;have h2:=dr _ B 2 _ t v2 h1;have h3:=dr _ B 3 _ t v3 h2;have h4:=dr _ B 4 _ t v4 h3;have h5:=dr _ B 5 _ t v5 h4;have h6:=dr _ B 6 _ t v6 h5;have h7:=dr _ B 7 _ t v7 h6;simpa using h7
theorem L8{α:Type}{l:List α}(h:l.length=8): ∃a b c d e f g i,l=[a,b,c,d,e,f,g,i]:=by
 match l,h with
 |[a,b,c,d,e,f,g,i],_=>exact⟨a,b,c,d,e,f,g,i,rfl⟩
theorem Ss(n:Int)(hn:I6 n):(L6 (n+9223372036854775808).toNat 8)=(pfx n).map B8:=by
 unfold L6 pfx;rw[Nat.mod_eq_of_lt]
 ·rfl
 ·have:=hn.1;have:=hn.2;rw[show(256:Nat)^8=18446744073709551616 by decide];omega
theorem I4(w:World)(n:Int)(hn:I6 n):Calls Tryz.prog 170 #[.int .i64 n] w fun e w'=>e=.returned (.agg ((pfx n).map B8).toArray)/\Below w.heap.size w w':=by
 obtain⟨N,hN⟩: ∃N,(n+9223372036854775808).toNat=N:=⟨_,rfl⟩;have hN2:N<18446744073709551616:=by have:=hn.1;have:=hn.2;omega
 have HW:=al (show IntKind.u64.wrap (IntKind.u64.wrap n+9223372036854775808)=(N:Int) by rw[IntKind.wrap_u64,IntKind.wrap_u64];have:=hn.1;have:=hn.2;omega);have HP:=al (Ss n hn);rw[hN]at HP;have hb0:=af w (.cells #[.int .u8 0,.int .u8 0,.int .u8 0,.int .u8 0,.int .u8 0,.int .u8 0,.int .u8 0,.int .u8 0] 281);have k0:=an w (.cells #[.int .u8 0,.int .u8 0,.int .u8 0,.int .u8 0,.int .u8 0,.int .u8 0,.int .u8 0,.int .u8 0] 281);go_enter Tryz.func170,Tryz.ntmps170;go_upto_region 1 with fail;generalize w.alloc (.cells #[.int .u8 0,.int .u8 0,.int .u8 0,.int .u8 0,.int .u8 0,.int .u8 0,.int .u8 0,.int .u8 0] 281)=w1 at hb0 k0⊢;obtain⟨R,hR⟩: ∃x,w.heap.size=x:=⟨_,rfl⟩;rw[hR]at k0⊢;have hb1:=af w1 (.cells #[.int .u8 0,.int .u8 0,.int .u8 0,.int .u8 0,.int .u8 0,.int .u8 0,.int .u8 0,.int .u8 0] 281);have k1:=an w1 (.cells #[.int .u8 0,.int .u8 0,.int .u8 0,.int .u8 0,.int .u8 0,.int .u8 0,.int .u8 0,.int .u8 0] 281);have Lv:=pw hb1 k0;go_upto_region 2 with fail;generalize w1.alloc (.cells #[.int .u8 0,.int .u8 0,.int .u8 0,.int .u8 0,.int .u8 0,.int .u8 0,.int .u8 0,.int .u8 0] 281)=w2 at hb1 k1 Lv⊢;obtain⟨B,hB⟩: ∃x,w1.heap.size=x:=⟨_,rfl⟩;rw[hB]at k1⊢;have hRB:R<B:=by have:=aO k0;omega
 have H:=al (show Below w.heap.size w w2/\w2.heap[B]?=some (.cells (L6 N 0).toArray 281 (0,0))/\w2.heap[R]?=some (.cells #[.int .u8 0,.int .u8 0,.int .u8 0,.int .u8 0,.int .u8 0,.int .u8 0,.int .u8 0,.int .u8 0] 281 (0,0))/\R<B/\w.heap.size<=R from
  ⟨hb0.trans (hb1.mono hb0.size),k1,Lv,hRB,by omega⟩)
 have HN:=al (ab hN hN2);clear hb0 k0 hR hb1 k1 Lv hB hRB hN hn;go_wp2_with fail
 go_loopw [4,9] (fun n i wr=> ∃k M:Nat,k<=8/\i=.int .i64 (k:Int)/\n=.int .u64 (M:Int)/\N/256^k=M/\wr.heap[B]?=some (.cells (L6 N k).toArray 281 (0,0))/\Only (fun k=>k=B) w2 wr) (fun _ i _=>8-(intOf i).toNat)
 case atStart=>exact⟨0,N,by decide,rfl,by rw[HW.out],by simp,H.out.2.1,oB _ _⟩
 case round=>
  obtain⟨k,M,hk,rfl,rfl,hMd,mO,vQ⟩:=hrel;by_cases hlt:k<8
  ·obtain⟨j,hj⟩: ∃j,k+j=7:=⟨7-k,by omega⟩;have hj2:(7:Int)-(k:Int)=(j:Int):=by omega
   have hM:N/256^k<18446744073709551616:=Nat.lt_of_le_of_lt (Nat.div_le_self _ _) HN.out.2;have L9:N/256^k/256=N/256^(k+1):=by rw[Nat.pow_succ,Nat.div_div_eq_div_mul]
   obtain⟨x,hx⟩: ∃x,B8 (UInt8.ofNat (N/256^k%256))=x:=⟨_,rfl⟩;have CF:=Ph N hj;rw[hMd]at hM L9 CF hx;obtain⟨d,hd⟩: ∃d,M%256=d:=⟨_,rfl⟩;have mR:d<256:=by omega
   have e1:bits .and .u64 (M:Int) 255=(d:Int):=by have:=u64_and_nat M 255 hM (by decide);rw[show((255:Nat):Int)=255 from rfl]at this;rw[this,<-hd];congr 1;exact Nat.and_two_pow_sub_one_eq_mod M 8
   have e2:(d:Int)%256=(d:Int):=by omega
   have e3:B8 (UInt8.ofNat d)=.int .u8 (d:Int):=by simp[B8];omega
   rw[hd]at CF hx;rw[e3]at CF;obtain⟨cv,hcv⟩: ∃v,(L6 N k).toArray[j]?=some v:=⟨_,ir (by simp[Pg hk];omega)⟩;have z0:wr.cell? ⟨B,j,none⟩=some cv:=by simp[World.cell?,mO,hcv]
   have z1:wr.frozen? ⟨B,j,none⟩=false:=by simp[World.frozen?,mO]
   have i1:(0:Int)<=(j:Int):=by omega
   have i2:(j:Int)<8:=by omega
   have hk7:k<=7:=by omega
   have HK:=al (show(wr.setCell ⟨B,j,none⟩ (.int .u8 (d:Int))).heap[B]?=some (.cells (L6 N (k+1)).toArray 281 (0,0))/\Only (fun k=>k=B) w2 (wr.setCell ⟨B,j,none⟩ (.int .u8 (d:Int)))/\M/256=N/256^(k+1)from by
    refine⟨?_,vQ.trans (aT wr B j _) (fun _ _ h=>h),L9⟩
    rw[heap_setCell_same wr B j _ _ (.int .u8 (d:Int)) mO,CF])
   clear mO vQ CF hcv L9 hMd hd hM hx e3 hj;go_wp2_with fail;go_roundw
   case rel=>exact⟨k+1,M/256,by omega,by go_num,by simp,HK.out.2.2.symm,HK.out.1,HK.out.2.1⟩
   case measure=>simp[intOf];omega
  ·obtain rfl:k=8:=by omega
   have kR:=vQ.heap H.out.2.2.1 (fun e=>by have:=H.out.2.2.2.1;omega);rw[HP.out]at mO;obtain⟨x0,x1,x2,x3,x4,x5,x6,x7,hl⟩:=L8 (bU n);have HL:=al hl;rw[hl]at mO;simp only[lx,kb,B8]at mO;have g0:wr.cell? ⟨B,0,none⟩=some (.int .u8 x0.toNat):=by simp[World.cell?,mO]
   have g1:wr.cell? ⟨B,1,none⟩=some (.int .u8 x1.toNat):=by simp[World.cell?,mO]
   have g2:wr.cell? ⟨B,2,none⟩=some (.int .u8 x2.toNat):=by simp[World.cell?,mO]
   have g3:wr.cell? ⟨B,3,none⟩=some (.int .u8 x3.toNat):=by simp[World.cell?,mO]
   have g4:wr.cell? ⟨B,4,none⟩=some (.int .u8 x4.toNat):=by simp[World.cell?,mO]
   have g5:wr.cell? ⟨B,5,none⟩=some (.int .u8 x5.toNat):=by simp[World.cell?,mO]
   have g6:wr.cell? ⟨B,6,none⟩=some (.int .u8 x6.toNat):=by simp[World.cell?,mO]
   have g7:wr.cell? ⟨B,7,none⟩=some (.int .u8 x7.toNat):=by simp[World.cell?,mO]
   have y0:wr.cell? ⟨R,0,none⟩=some (.int .u8 0):=by simp[World.cell?,kR]
   have y1:wr.cell? ⟨R,1,none⟩=some (.int .u8 0):=by simp[World.cell?,kR]
   have y2:wr.cell? ⟨R,2,none⟩=some (.int .u8 0):=by simp[World.cell?,kR]
   have y3:wr.cell? ⟨R,3,none⟩=some (.int .u8 0):=by simp[World.cell?,kR]
   have y4:wr.cell? ⟨R,4,none⟩=some (.int .u8 0):=by simp[World.cell?,kR]
   have y5:wr.cell? ⟨R,5,none⟩=some (.int .u8 0):=by simp[World.cell?,kR]
   have y6:wr.cell? ⟨R,6,none⟩=some (.int .u8 0):=by simp[World.cell?,kR]
   have y7:wr.cell? ⟨R,7,none⟩=some (.int .u8 0):=by simp[World.cell?,kR]
   have u0:wr.frozen? ⟨R,0,none⟩=false:=by simp[World.frozen?,kR]
   have u1:wr.frozen? ⟨R,1,none⟩=false:=by simp[World.frozen?,kR]
   have u2:wr.frozen? ⟨R,2,none⟩=false:=by simp[World.frozen?,kR]
   have u3:wr.frozen? ⟨R,3,none⟩=false:=by simp[World.frozen?,kR]
   have u4:wr.frozen? ⟨R,4,none⟩=false:=by simp[World.frozen?,kR]
   have u5:wr.frozen? ⟨R,5,none⟩=false:=by simp[World.frozen?,kR]
   have u6:wr.frozen? ⟨R,6,none⟩=false:=by simp[World.frozen?,kR]
   have u7:wr.frozen? ⟨R,7,none⟩=false:=by simp[World.frozen?,kR]
   have H6:=al (ab kR vQ);clear mO kR vQ hl;go_wp2_with fail;have sZ:=V7 (v0:=.int .u8 x0.toNat) (v1:=.int .u8 x1.toNat) (v2:=.int .u8 x2.toNat) (v3:=.int .u8 x3.toNat) (v4:=.int .u8 x4.toNat) (v5:=.int .u8 x5.toNat) (v6:=.int .u8 x6.toNat) (v7:=.int .u8 x7.toNat) H6.out.1;have ho:=(((((((aT wr R 0 (.int .u8 x0.toNat)).setCell (p:=⟨R,1,none⟩) (fun _=>rfl) (.int .u8 x1.toNat)).setCell (p:=⟨R,2,none⟩) (fun _=>rfl) (.int .u8 x2.toNat)).setCell (p:=⟨R,3,none⟩) (fun _=>rfl) (.int .u8 x3.toNat)).setCell (p:=⟨R,4,none⟩) (fun _=>rfl) (.int .u8 x4.toNat)).setCell (p:=⟨R,5,none⟩) (fun _=>rfl) (.int .u8 x5.toNat)).setCell (p:=⟨R,6,none⟩) (fun _=>rfl) (.int .u8 x6.toNat)).setCell (p:=⟨R,7,none⟩) (fun _=>rfl) (.int .u8 x7.toNat);have HO:=al (ab sZ ho);clear sZ ho;generalize ((((((((wr.setCell ⟨R,0,none⟩ (.int .u8 x0.toNat)).setCell ⟨R,1,none⟩ (.int .u8 x1.toNat)).setCell ⟨R,2,none⟩ (.int .u8 x2.toNat)).setCell ⟨R,3,none⟩ (.int .u8 x3.toNat)).setCell ⟨R,4,none⟩ (.int .u8 x4.toNat)).setCell ⟨R,5,none⟩ (.int .u8 x5.toNat)).setCell ⟨R,6,none⟩ (.int .u8 x6.toNat)).setCell ⟨R,7,none⟩ (.int .u8 x7.toNat))=w7 at HO⊢;refine dq (results_cell_row rfl _ _ _ _ _ _ _ rfl HO.out.1 Tryz.underlying281 rfl (by kernel_rfl)) rfl ⟨by rw[HL.out];rfl,?_⟩;exact H.out.1.trans ((H6.out.2.mono (T:=fun k=>k=B\/k=R) (fun _ _ h=>.inl h)).trans (HO.out.2.mono (T:=fun k=>k=B\/k=R) (fun _ _ h=>.inr h)) (fun _ _ h=>h)|>.aG H.out.1.size (fun k hk h=>by have:=H.out.2.2.2;omega))
theorem oq(w:World)(n:Int)(hn:I6 n):Calls Tryz.prog 142 #[.int .i64 n] w fun e w'=>e=.returned (.string ⟨(pfx n).toArray⟩)/\Below w.heap.size w w':=by
 have HC:=al (I4 w n hn);obtain⟨x0,x1,x2,x3,x4,x5,x6,x7,hl⟩:=L8 (bU n);rw[hl]at HC⊢;simp only[lx,kb,B8]at HC;have hc:=fun(w:World) (F:Nat->Prop) (A:Option Addr) (c:Nat) (h:Rd w F (.slice A 8 c) ([x0,x1,x2,x3,x4,x5,x6,x7].map B8))=>zC (P:=Tryz.prog) 118 9 5 Tryz.underlying118 Tryz.underlying5 Tryz.underlying9 h;have HV:=al hc;clear hl hn hc;go_enter Tryz.func142,Tryz.ntmps142;go_wp2_with fail;refine HC.out.mono ?_;rintro e w1 ⟨rfl,hb⟩;have hb1:=af w1 (.cells #[.int .u8 x0.toNat,.int .u8 x1.toNat,.int .u8 x2.toNat,.int .u8 x3.toNat,.int .u8 x4.toNat,.int .u8 x5.toNat,.int .u8 x6.toNat,.int .u8 x7.toNat] 281);have k1:=an w1 (.cells #[.int .u8 x0.toNat,.int .u8 x1.toNat,.int .u8 x2.toNat,.int .u8 x3.toNat,.int .u8 x4.toNat,.int .u8 x5.toNat,.int .u8 x6.toNat,.int .u8 x7.toNat] 281)
 have kj:Rd (w1.alloc (.cells #[.int .u8 x0.toNat,.int .u8 x1.toNat,.int .u8 x2.toNat,.int .u8 x3.toNat,.int .u8 x4.toNat,.int .u8 x5.toNat,.int .u8 x6.toNat,.int .u8 x7.toNat] 281)) (fun _=>True) (.slice (some ⟨w1.heap.size,0,none⟩) 8 8) ([x0,x1,x2,x3,x4,x5,x6,x7].map B8):=by refine⟨_,8,8,rfl,rfl,aq _,by simp[maxLen],fun _=>⟨_,0,rfl,trivial,fun j u hj=>?_⟩⟩;rw[World.cell?,k1];have h2:(#[.int .u8 x0.toNat,.int .u8 x1.toNat,.int .u8 x2.toNat,.int .u8 x3.toNat,.int .u8 x4.toNat,.int .u8 x5.toNat,.int .u8 x6.toNat,.int .u8 x7.toNat]:Array Value).toList=[x0,x1,x2,x3,x4,x5,x6,x7].map B8:=rfl;rw[<-h2]at hj;simpa using hj
 have hcv:=HV.out _ _ _ _ kj;have HB:=al (hb.trans (hb1.mono hb.size));clear hb hb1 k1 kj HC HV;go_wp2_with fail;go_ret
 exact⟨rfl,HB.out⟩
theorem EM(w:World)(v:Int)(k:List UInt8)(hv:I6 v)(hk:1<=k.length/\k.length<=16):Calls Tryz.prog 96 #[.agg #[.int .i64 v,.string ⟨k.toArray⟩]] w fun e w'=>e=.returned (.tuple #[.string ⟨(dB v k).toArray⟩,.int .i64 0])/\Below w.heap.size w w':=by
 have hb0:=af w (.cells #[.int .i64 v,.string ⟨k.toArray⟩] 216);have k0:=an w (.cells #[.int .i64 v,.string ⟨k.toArray⟩] 216);have EI:cQ k=0:=by unfold cQ;rw[ff (by omega)]
 go_enter Tryz.func96,Tryz.ntmps96;go_upto_region 1 with fail;generalize w.alloc (.cells #[.int .i64 v,.string ⟨k.toArray⟩] 216)=w1 at hb0 k0⊢;obtain⟨R,hR⟩: ∃x,w.heap.size=x:=⟨_,rfl⟩;rw[hR]at k0⊢;have z0:w1.cell? ⟨R,0,none⟩=some (.int .i64 v):=by simp[World.cell?,k0]
 have z1:w1.cell? ⟨R,1,none⟩=some (.string ⟨k.toArray⟩):=by simp[World.cell?,k0]
 have HC:=al (dm w1 k);rw[EI]at HC;have H0:=al (ab hb0 k0);have HV:=al hv;have HK:=al hk;clear hb0 k0 EI hv hk;go_wp2_with fail;refine HC.out.mono ?_;rintro e w2 ⟨rfl,hw2⟩;obtain rfl:w1=w2:=hw2;clear HC;go_wp2_with fail;have HP:=al (fun w=>oq w v HV.out);have hlen: ¬9223372036854775807<(pfx v).length+k.length:=by rw[bU];have:=HK.out;omega
 refine pb (S:=(fun W=>Below w1.heap.size w1 W/\W.cell? ⟨R,0,none⟩=some (.int .i64 v)/\W.cell? ⟨R,1,none⟩=some (.string ⟨k.toArray⟩))) (by kernel_rfl) ⟨(aw _ _).drew,z0,z1⟩ (fun pt=>?_);refine aM [0,1,3,4] ?_
 iterate 4 (refine bX (v:=?_) (fun wS hSw=>?_) pt ?_;rotate_left;(obtain⟨s0,s1,s2⟩:=hSw;go_simp;try with_reducible rfl);try simp only[ai,aj,ak,ar])
 refine aN ?_;refine aW 2 (fun K hK=>?_);go_simp;refine(HP.out _).mono ?_;rintro e wn ⟨rfl,cD⟩
 try go_simp
 refine hK.out _ _ (pC pt cD) ?_;clear hK K pt cD;intro pt
 try simp only[ai,aj,ak,ar]
 refine aM [5,6,7] ?_
 iterate 3 (refine bX (v:=?_) (fun wS hSw=>?_) pt ?_;rotate_left;(obtain⟨s0,s1,s2⟩:=hSw;go_simp;try with_reducible rfl);try simp only[ai,aj,ak,ar])
 refine aN ?_;refine pf (by kernel_rfl) ?_ _;obtain⟨hbz,-,-⟩:=pt;go_wp2_with fail
 go_ret2
 refine⟨?_,H0.out.1.trans (hbz.mono H0.out.1.size)⟩;unfold dB;rw[<-L5];rfl
end Go.Proofs.YtagemonojdgbdaaGreatDoor
