import Derived.Test.YtmkofmeojbcakaaGreatDoorC14
import Derived.Test.YtmkofmeojbcakaaGreatDoorC16
namespace Go.Proofs.YtmkofmeojbcakaaGreatDoor
open Go.Proofs.Tryz
set_option maxRecDepth 100000
set_option maxHeartbeats 16000000
open Go.RowKit
def Ch.cells(x:Ch):List Value:=[.int .i64 (x.aM:Int),.int .i64 x.v,.string ⟨x.k.toArray⟩,.bool x.add]
def zg(l:List Ch):List Value:=(l.map Ch.cells).flatten
theorem Sa(l m:List Ch):zg (l++m)=zg l++zg m:=by simp[zg]
theorem tK(l:List Ch): ∀y∈l.map Ch.cells,y.length=4:=by intro y hy;obtain⟨x,_,rfl⟩:=ew.1 hy;rfl
theorem VQ(l:List Ch): ∀u∈(l.map Ch.cells).flatten,u.oneCell'=true:=by intro u hu;obtain⟨y,hy,hu⟩:=List.mem_flatten.1 hu;obtain⟨x,_,rfl⟩:=ew.1 hy;simp only[Ch.cells,List.mem_cons,List.not_mem_nil,or_false]at hu;rcases hu with rfl|rfl|rfl|rfl<;>rfl
theorem Tryz.VR:(prog.info? 203).map (fun i=>(i.zero,i.size,i.bytes))=some (some (.agg #[.int .i64 0,.int .i64 0,.string ⟨#[]⟩,.bool false]),4,40):=by kernel_rfl
def vh(w:World)(v:Value):Option Rw->Prop
 |none=>v=.pointer none
 |some r=> ∃b,v=.pointer (some ⟨b,0,none⟩)/\w.heap[b]?=some (.cells #[.int .i64 r.a,.int .i64 r.b,.int .i64 r.c,.int .i64 r.d] 113 (0,0))
theorem kL(w:World)(base:Nat)(v vx:Value)(l m:List Ch)(F:Nat->Prop)(hown:w.ownsRow base 203 4 v l.length (zg l))(hr:aS 4 w F vx (m.map Ch.cells))(hl:l.length+m.length<=1000)(hb:base<=w.heap.size):
  Calls prog 122 #[v,vx] w fun e w'=> ∃v',e=.returned v'/\w'.ownsRow base 203 4 v' (l++m).length (zg (l++m))/\Only (fun k=>v.ownBlock=some k) w w'/\(v'.ownBlock=v.ownBlock\/v'.ownBlock=some w.heap.size):=by
 obtain⟨i0,hi,hz0,hz1,hz2⟩:=ep Tryz.VR;obtain⟨A,c,rfl⟩:=ag hown;obtain⟨A',n',c',rfl,_⟩:=id hr;have H:=al (ab hown (ab hr (ab hl hb)));clear hown hr hl hb;go_enter func122,ntmps122;go_wp2_with (at_builtin;go_loud (refine di _ rfl _ _ 197 rfl base 203 i0 _ 4 40 underlying197 hi hz0 hz1 hz2 rfl (by decide) _ l.length (zg l) rfl H.o.1 F _ (m.map Ch.cells) rfl H.o.2.1 (tK m) (VQ m) (by have:=H.o.d.1;simp;omega) (by have:=H.o.d.1;simp[maxLen];omega) H.o.t ?_);intro v' w1 hown1 hgrow1 hat);go_ret
 refine⟨v',rfl,?_,Only.of_grownBy hgrow1,hat⟩;rw[Sa,fb];have h:=hown1;rw[fa]at h;exact h
theorem Cg{w:World}{X:Nat}{x:Ch}{t:TypeId}(h:w.heap[X]?=some (.cells #[.int .i64 (x.aM:Int),.int .i64 x.v,.string ⟨x.k.toArray⟩,.bool x.add] t (0,0))):aS 4 w (fun _=>True) (.slice (some ⟨X,0,none⟩) 1 1) ([x].map Ch.cells):=by refine⟨_,1,1,rfl,rfl,aE _,by simp[maxLen],fun _=>⟨X,0,rfl,trivial,fun i y hi j u hj=>?_⟩⟩;have h1:=lI (k:=4) (xs:=[x].map Ch.cells) (tK [x]) i y hi j u hj;rw[World.cell?,h];have h2:(#[.int .i64 (x.aM:Int),.int .i64 x.v,.string ⟨x.k.toArray⟩,.bool x.add]:Array Value).toList=([x].map Ch.cells).flatten:=rfl;rw[<-h2]at h1;simpa using h1
def jl(k:List UInt8)(old now:Option Rw)(c:Nat):List Ch:=
 (match old with
  |some o=>[⟨c,o.aM c,k,false⟩]
  |none=>[])++(match now with
  |some n=>[⟨c,n.aM c,k,true⟩]
  |none=>[])
theorem pV{k:List UInt8}{old now:Option Rw}{c:Nat}(h: ∀o n,old=some o->now=some n->o.aM c≠n.aM c):Mh k old now c=jl k old now c:=by
 unfold Mh jl;split
 ·rename_i o n;rw[ff (h o n rfl rfl)];rfl
 ·rfl
 ·rfl
 ·rfl
def ChP(l:List Ch)(w:World)(e:Ending)(w':World):Prop:= ∃v,e=.returned v/\w'.ownsRow w.heap.size 203 4 v l.length (zg l)/\Below w.heap.size w w'
theorem K3(w:World)(k:List UInt8)(c:Nat)(hc:c<4)(nb:Nat)(n:Rw)(hn:w.heap[nb]?=some (.cells #[.int .i64 n.a,.int .i64 n.b,.int .i64 n.c,.int .i64 n.d] 113 (0,0))):Calls prog 123 #[.int .i64 (c:Int),.string ⟨k.toArray⟩,.pointer none,.pointer (some ⟨nb,0,none⟩)] w (ChP (jl k none (some n) c) w):=by
 have i1:(0:Int)<=(c:Int):=by omega
 have i2:(c:Int)<4:=by omega
 have y0:=eA hn hc;obtain⟨y,hy⟩:=qt (n.aM c);rw[hy]at y0;have H:=al (ab hn hy);clear hn hy;go_enter func123,ntmps123;have hown0:w.ownsRow w.heap.size 203 4 (.slice none 0 0) ([]:List Ch).length (zg []):=ea _ _ _ _;have H0:=al (ab hown0 (aw w.heap.size w));clear hown0;obtain⟨hb,kx⟩:=qn w (.cells #[.int .i64 (c:Int),.int .i64 y,.string ⟨k.toArray⟩,.bool true] 203);have hown:=aY H0.o.1 hb;have HA:=al (ab (kL (w.alloc (.cells #[.int .i64 (c:Int),.int .i64 y,.string ⟨k.toArray⟩,.bool true] 203)) w.heap.size (.slice none 0 0) (.slice (some ⟨w.heap.size,0,none⟩) 1 1) [] [⟨c,y,k,true⟩] (fun _=>True) hown (Cg kx) (by simp) (by have:=H0.o.2.size;have:=hb.size;omega)) hb);clear hb kx hown;go_wp2_with fail;refine HA.o.1.m ?_;rintro e w2 ⟨v2,rfl,hown2,dY,yV⟩;obtain⟨A2,c2,rfl⟩:=ag hown2;have H2:=al (ab hown2 (show Below w.heap.size w w2 from(H0.o.2.x (HA.o.2.m H0.o.2.size)).x (dY.aG (da H0.o.2.size HA.o.2.size) (fun k hk h=>?_))));rotate_left
 ·simp[Value.ownBlock]at h
 clear hown2 dY yV HA;go_wp2_with fail;go_ret
 refine⟨_,rfl,?_,H2.o.2⟩;have h:=H2.o.1;unfold jl;simp only[H.o.2];exact h
theorem K4(w:World)(k:List UInt8)(c:Nat)(hc:c<4)(ob:Nat)(o:Rw)(ho:w.heap[ob]?=some (.cells #[.int .i64 o.a,.int .i64 o.b,.int .i64 o.c,.int .i64 o.d] 113 (0,0))):Calls prog 123 #[.int .i64 (c:Int),.string ⟨k.toArray⟩,.pointer (some ⟨ob,0,none⟩),.pointer none] w (ChP (jl k (some o) none c) w):=by
 have i1:(0:Int)<=(c:Int):=by omega
 have i2:(c:Int)<4:=by omega
 have z0:=eA ho hc;obtain⟨x,hx⟩:=qt (o.aM c);rw[hx]at z0;have H:=al (ab ho hx);clear ho hx;go_enter func123,ntmps123;have hown0:w.ownsRow w.heap.size 203 4 (.slice none 0 0) ([]:List Ch).length (zg []):=ea _ _ _ _;have H0:=al (ab hown0 (aw w.heap.size w));clear hown0;obtain⟨hb,kx⟩:=qn w (.cells #[.int .i64 (c:Int),.int .i64 x,.string ⟨k.toArray⟩,.bool false] 203);have hown:=aY H0.o.1 hb;have HA:=al (ab (kL (w.alloc (.cells #[.int .i64 (c:Int),.int .i64 x,.string ⟨k.toArray⟩,.bool false] 203)) w.heap.size (.slice none 0 0) (.slice (some ⟨w.heap.size,0,none⟩) 1 1) [] [⟨c,x,k,false⟩] (fun _=>True) hown (Cg kx) (by simp) (by have:=H0.o.2.size;have:=hb.size;omega)) hb);clear hb kx hown;go_wp2_with fail;refine HA.o.1.m ?_;rintro e w1 ⟨v1,rfl,hown1,jq,jt⟩;obtain⟨A1,c1,rfl⟩:=ag hown1;have H1:=al (ab hown1 (show Below w.heap.size w w1 from HA.o.2.x (jq.aG HA.o.2.size (fun k hk h=>by simp[Value.ownBlock]at h))));clear hown1 jq jt HA;go_wp2_with fail;go_ret
 refine⟨_,rfl,?_,H1.o.2⟩;have h:=H1.o.1;unfold jl;simp only[H.o.2];exact h
theorem K6(w:World)(k:List UInt8)(c:Nat)(hc:c<4)(ob:Nat)(o:Rw)(ho:w.heap[ob]?=some (.cells #[.int .i64 o.a,.int .i64 o.b,.int .i64 o.c,.int .i64 o.d] 113 (0,0)))(nb:Nat)(n:Rw)(hn:w.heap[nb]?=some (.cells #[.int .i64 n.a,.int .i64 n.b,.int .i64 n.c,.int .i64 n.d] 113 (0,0))):Calls prog 123 #[.int .i64 (c:Int),.string ⟨k.toArray⟩,.pointer (some ⟨ob,0,none⟩),.pointer (some ⟨nb,0,none⟩)] w (ChP (jl k (some o) (some n) c) w):=by
 have i1:(0:Int)<=(c:Int):=by omega
 have i2:(c:Int)<4:=by omega
 have z0:=eA ho hc;obtain⟨x,hx⟩:=qt (o.aM c);rw[hx]at z0;have y0:=eA hn hc;obtain⟨y,hy⟩:=qt (n.aM c);rw[hy]at y0;have H:=al (ab ho (ab hx (ab hn hy)));clear ho hx hn hy;go_enter func123,ntmps123;have hown0:w.ownsRow w.heap.size 203 4 (.slice none 0 0) ([]:List Ch).length (zg []):=ea _ _ _ _;have H0:=al (ab hown0 (aw w.heap.size w));clear hown0;obtain⟨hb,kx⟩:=qn w (.cells #[.int .i64 (c:Int),.int .i64 x,.string ⟨k.toArray⟩,.bool false] 203);have hown:=aY H0.o.1 hb;have HA:=al (ab (kL (w.alloc (.cells #[.int .i64 (c:Int),.int .i64 x,.string ⟨k.toArray⟩,.bool false] 203)) w.heap.size (.slice none 0 0) (.slice (some ⟨w.heap.size,0,none⟩) 1 1) [] [⟨c,x,k,false⟩] (fun _=>True) hown (Cg kx) (by simp) (by have:=H0.o.2.size;have:=hb.size;omega)) hb);clear hb kx hown;go_wp2_with fail;refine HA.o.1.m ?_;rintro e w1 ⟨v1,rfl,hown1,jq,jt⟩;obtain⟨A1,c1,rfl⟩:=ag hown1;simp only[fs,fm,ix,gx]at hown1⊢;have H1:=al (ab hown1 (show Below w.heap.size w w1 from HA.o.2.x (jq.aG HA.o.2.size (fun k hk h=>by simp[Value.ownBlock]at h))));clear hown1 jq jt HA;have y0:w1.cell? ⟨nb,c,none⟩=some (.int .i64 y):=(H1.o.2.cell (p:=⟨nb,c,none⟩) (aq w _ y0)).x y0;obtain⟨hb,kx⟩:=qn w1 (.cells #[.int .i64 (c:Int),.int .i64 y,.string ⟨k.toArray⟩,.bool true] 203);have hown:=aY H1.o.1 hb;have HA:=al (ab (kL (w1.alloc (.cells #[.int .i64 (c:Int),.int .i64 y,.string ⟨k.toArray⟩,.bool true] 203)) w.heap.size (.slice A1 1 c1) (.slice (some ⟨w1.heap.size,0,none⟩) 1 1) [⟨c,x,k,false⟩] [⟨c,y,k,true⟩] (fun _=>True) hown (Cg kx) (by simp) (by have:=H1.o.2.size;have:=hb.size;omega)) hb);clear hb kx hown;go_wp2_with fail;refine HA.o.1.m ?_;rintro e w2 ⟨v2,rfl,hown2,dY,yV⟩;obtain⟨A2,c2,rfl⟩:=ag hown2;have H2:=al (ab hown2 (show Below w.heap.size w w2 from(H1.o.2.x (HA.o.2.m H1.o.2.size)).x (dY.aG (da H1.o.2.size HA.o.2.size) (fun k hk h=>?_))));rotate_left
 ·have:=(H1.o.1.lt k h).1;omega
 clear hown2 dY yV HA;go_wp2_with fail;go_ret
 refine⟨_,rfl,?_,H2.o.2⟩;have h:=H2.o.1;unfold jl;simp only[H.o.2.1,H.o.t];exact h
def Sb(l:List Ch)(w:World)(e:Ending)(w':World):Prop:= ∃v,e=.returned (.tuple #[v,.int .i64 0])/\w'.ownsRow w.heap.size 203 4 v l.length (zg l)/\Below w.heap.size w w'
theorem Zq{o n:Rw}(h:o.a=n.a/\o.b=n.b/\o.c=n.c/\o.d=n.d):o=n:=by cases o;cases n;simp only at h;obtain⟨rfl,rfl,rfl,rfl⟩:=h;rfl
theorem Js{k:List UInt8}{o n:Rw}{c:Nat}(h:o.aM c=n.aM c):Mh k (some o) (some n) c=[]:=fi h
theorem Jt{k:List UInt8}(o:Rw): ∀c,ja k (some o) (some o) c=[]
 |0=>rfl
 |c+1=>by rw[ja,Jt o c,Js rfl];rfl
theorem GC(w:World)(k:List UInt8)(hk:1<=k.length/\k.length<=16)(nb:Nat)(n:Rw)(hn:w.heap[nb]?=some (.cells #[.int .i64 n.a,.int .i64 n.b,.int .i64 n.c,.int .i64 n.d] 113 (0,0))):Calls prog 81 #[.string ⟨k.toArray⟩,.pointer none,.pointer (some ⟨nb,0,none⟩)] w (Sb (Nu k none (some n)) w):=by
 have Mm:dU k=0:=by unfold dU;rw[ff (by omega)]
 have HC:=al (ej w k);rw[Mm]at HC;have HH:=al hn;clear Mm hk hn;go_enter func81,ntmps81;go_wp2_with fail;refine HC.o.m ?_;rintro e w1 ⟨rfl,rfl⟩;clear HC;go_wp2_with fail;go_quiet(fail);go_wp2_with fail
 go_loopw [10,33] (fun v i wr=> ∃c:Nat,c<=4/\i=.int .i64 (c:Int)/\wr.ownsRow w.heap.size 203 4 v (ja k none (some n) c).length (zg (ja k none (some n) c))/\Below w.heap.size w wr) (fun _ i _=>4-(intOf i).toNat)
 case atStart=>exact⟨0,by decide,rfl,ea _ _ _ _,Only.aG ((ox (fun _=>False) w).drewN _) (aE _) (fun _ _ h=>h)⟩
 case round=>
  obtain⟨c,hc,rfl,hown,hb⟩:=hrel;obtain⟨A,cp,rfl⟩:=ag hown;by_cases hlt:c<4
  ·have i1:(0:Int)<=(c:Int):=by omega
   have i2:(c:Int)<4:=by omega
   have HW:=al (ab hown hb);have hlen:=rQ k none (some n) c;obtain⟨N,hN⟩:=qt ((ja k none (some n) c).length);rw[hN]at hlen;have HN:=al (ab hN hlen);rw[hN];clear hown hlen hN;go_wp2_with fail;go_quiet(fail);have zh: ∀n,Below w.heap.size w (wr.drewN n):=fun n=>Only.aG ((pw hb).drewN n) (aE _) (fun _ _ h=>h);go_wp2_with fail;refine(K3 _ k c hlt nb n (pt (zh _) HH.o)).m ?_;rintro e w2 ⟨v2,rfl,hown2,hb2⟩;obtain⟨A2,c2,rfl⟩:=ag hown2;obtain⟨M2,uV⟩:=qt ((jl k none (some n) c).length);have Oh:M2<=2:=by rw[<-uV,<-pV (fun o n h1 h2=>by cases h1)];exact vE k none (some n) c
   have iB:aS 4 w2 (fun _=>True) (.slice A2 (jl k none (some n) c).length c2) ((jl k none (some n) c).map Ch.cells):=aS.aU hown2 (tK _) (by decide) (fun _ _=>trivial);have uH:w2.ownsRow w.heap.size 203 4 (.slice A (ja k none (some n) c).length cp) (ja k none (some n) c).length (zg (ja k none (some n) c)):=aY (aT HW.o.1 ((ox (fun _=>False) wr).drewN _) (fun _ _ h=>h)) hb2;have HA:=al (kL w2 w.heap.size _ _ (ja k none (some n) c) (jl k none (some n) c) (fun _=>True) uH iB (by rw[HN.o.1,uV];have:=HN.o.2;omega) (by have:=HW.o.2.size;have:=hb2.size;simp at this;omega));have fg:=al (show Below w.heap.size w w2 from(zh _).x (hb2.m (zh _).size));rw[HN.o.1]at HA;rw[uV]at HA;rw[uV];clear hown2 hb2 iB uH hb zh uV Oh i1 i2;go_wp2_with fail;refine HA.o.m ?_;rintro e w3 ⟨v3,rfl,dJ,rA,ml⟩;obtain⟨A3,c3,rfl⟩:=ag dJ
   have H3:=al (show w3.ownsRow w.heap.size 203 4 (.slice A3 (ja k none (some n) c++jl k none (some n) c).length c3) (ja k none (some n) (c+1)).length (zg (ja k none (some n) (c+1)))/\Below w.heap.size w w3 from by
    have e:ja k none (some n) (c+1)=ja k none (some n) c++jl k none (some n) c:=by rw[ja,pV (fun o n h1 h2=>by cases h1)]
    refine⟨by rw[e];exact dJ,fg.o.x (rA.aG fg.o.size (fun g hg h=>?_))⟩;have hlt:=(HW.o.1.lt g (by rw[HN.o.1];exact h)).1
    omega)
   clear dJ rA ml HA;go_wp2_with fail;go_roundw
   case rel=>exact⟨c+1,by omega,by go_num,by rw[<-fb];exact H3.o.1,H3.o.2⟩
   case measure=>simp[intOf];omega
  ·obtain rfl:c=4:=by omega
   have HW:=al (ab hown hb);clear hown hb;go_wp2_with fail
   go_ret2
   exact⟨_,rfl,HW.o.1,HW.o.2⟩
theorem GD(w:World)(k:List UInt8)(hk:1<=k.length/\k.length<=16)(ob:Nat)(o:Rw)(ho:w.heap[ob]?=some (.cells #[.int .i64 o.a,.int .i64 o.b,.int .i64 o.c,.int .i64 o.d] 113 (0,0))):Calls prog 81 #[.string ⟨k.toArray⟩,.pointer (some ⟨ob,0,none⟩),.pointer none] w (Sb (Nu k (some o) none) w):=by
 have Mm:dU k=0:=by unfold dU;rw[ff (by omega)]
 have HC:=al (ej w k);rw[Mm]at HC;have HH:=al ho;clear Mm hk ho;go_enter func81,ntmps81;go_wp2_with fail;refine HC.o.m ?_;rintro e w1 ⟨rfl,rfl⟩;clear HC;go_wp2_with fail;go_quiet(fail);go_wp2_with fail
 go_loopw [10,33] (fun v i wr=> ∃c:Nat,c<=4/\i=.int .i64 (c:Int)/\wr.ownsRow w.heap.size 203 4 v (ja k (some o) none c).length (zg (ja k (some o) none c))/\Below w.heap.size w wr) (fun _ i _=>4-(intOf i).toNat)
 case atStart=>exact⟨0,by decide,rfl,ea _ _ _ _,Only.aG ((ox (fun _=>False) w).drewN _) (aE _) (fun _ _ h=>h)⟩
 case round=>
  obtain⟨c,hc,rfl,hown,hb⟩:=hrel;obtain⟨A,cp,rfl⟩:=ag hown;by_cases hlt:c<4
  ·have i1:(0:Int)<=(c:Int):=by omega
   have i2:(c:Int)<4:=by omega
   have HW:=al (ab hown hb);have hlen:=rQ k (some o) none c;obtain⟨N,hN⟩:=qt ((ja k (some o) none c).length);rw[hN]at hlen;have HN:=al (ab hN hlen);rw[hN];clear hown hlen hN;go_wp2_with fail;go_quiet(fail);have zh: ∀n,Below w.heap.size w (wr.drewN n):=fun n=>Only.aG ((pw hb).drewN n) (aE _) (fun _ _ h=>h);go_wp2_with fail;refine(K4 _ k c hlt ob o (pt (zh _) HH.o)).m ?_;rintro e w2 ⟨v2,rfl,hown2,hb2⟩;obtain⟨A2,c2,rfl⟩:=ag hown2;obtain⟨M2,uV⟩:=qt ((jl k (some o) none c).length);have Oh:M2<=2:=by rw[<-uV,<-pV (fun o n h1 h2=>by cases h2)];exact vE k (some o) none c
   have iB:aS 4 w2 (fun _=>True) (.slice A2 (jl k (some o) none c).length c2) ((jl k (some o) none c).map Ch.cells):=aS.aU hown2 (tK _) (by decide) (fun _ _=>trivial);have uH:w2.ownsRow w.heap.size 203 4 (.slice A (ja k (some o) none c).length cp) (ja k (some o) none c).length (zg (ja k (some o) none c)):=aY (aT HW.o.1 ((ox (fun _=>False) wr).drewN _) (fun _ _ h=>h)) hb2;have HA:=al (kL w2 w.heap.size _ _ (ja k (some o) none c) (jl k (some o) none c) (fun _=>True) uH iB (by rw[HN.o.1,uV];have:=HN.o.2;omega) (by have:=HW.o.2.size;have:=hb2.size;simp at this;omega));have fg:=al (show Below w.heap.size w w2 from(zh _).x (hb2.m (zh _).size));rw[HN.o.1]at HA;rw[uV]at HA;rw[uV];clear hown2 hb2 iB uH hb zh uV Oh i1 i2;go_wp2_with fail;refine HA.o.m ?_;rintro e w3 ⟨v3,rfl,dJ,rA,ml⟩;obtain⟨A3,c3,rfl⟩:=ag dJ
   have H3:=al (show w3.ownsRow w.heap.size 203 4 (.slice A3 (ja k (some o) none c++jl k (some o) none c).length c3) (ja k (some o) none (c+1)).length (zg (ja k (some o) none (c+1)))/\Below w.heap.size w w3 from by
    have e:ja k (some o) none (c+1)=ja k (some o) none c++jl k (some o) none c:=by rw[ja,pV (fun o n h1 h2=>by cases h2)]
    refine⟨by rw[e];exact dJ,fg.o.x (rA.aG fg.o.size (fun g hg h=>?_))⟩;have hlt:=(HW.o.1.lt g (by rw[HN.o.1];exact h)).1
    omega)
   clear dJ rA ml HA;go_wp2_with fail;go_roundw
   case rel=>exact⟨c+1,by omega,by go_num,by rw[<-fb];exact H3.o.1,H3.o.2⟩
   case measure=>simp[intOf];omega
  ·obtain rfl:c=4:=by omega
   have HW:=al (ab hown hb);clear hown hb;go_wp2_with fail
   go_ret2
   exact⟨_,rfl,HW.o.1,HW.o.2⟩
theorem GF(w:World)(k:List UInt8)(hk:1<=k.length/\k.length<=16)(ob:Nat)(o:Rw)(ho:w.heap[ob]?=some (.cells #[.int .i64 o.a,.int .i64 o.b,.int .i64 o.c,.int .i64 o.d] 113 (0,0)))(nb:Nat)(n:Rw)(hn:w.heap[nb]?=some (.cells #[.int .i64 n.a,.int .i64 n.b,.int .i64 n.c,.int .i64 n.d] 113 (0,0))):Calls prog 81 #[.string ⟨k.toArray⟩,.pointer (some ⟨ob,0,none⟩),.pointer (some ⟨nb,0,none⟩)] w (Sb (Nu k (some o) (some n)) w):=by
 have Mm:dU k=0:=by unfold dU;rw[ff (by omega)]
 have HC:=al (ej w k);rw[Mm]at HC;have HH:=al (ab ho hn);clear Mm hk ho hn;go_enter func81,ntmps81;go_wp2_with fail;refine HC.o.m ?_;rintro e w1 ⟨rfl,rfl⟩;clear HC;go_wp2_with fail;obtain⟨⟨x0,x1,x2,x3⟩,-⟩:=cL HH.o.1;obtain⟨⟨y0,y1,y2,y3⟩,-⟩:=cL HH.o.2;have heq:=fun(w:World)=>eq4 w o.a o.b o.c o.d n.a n.b n.c n.d;have hg:=Tryz.Vr;by_cases hq:o=n
 ·subst hq;go_quiet(fail);go_wp2_with fail
  go_ret2
  refine⟨_,rfl,?_,Only.aG ((ox (fun _=>False) w).drewN _) (aE _) (fun _ _ h=>h)⟩;unfold Nu;rw[Jt];exact ea _ _ _ _
 ·have Ju:(decide (o.a=n.a)&&(decide (o.b=n.b)&&(decide (o.c=n.c)&&decide (o.d=n.d))))=false:=by
   rw[Bool.eq_false_iff];intro h;simp only[lx,decide_eq_true_eq]at h;exact hq (Zq h)
  clear hq;go_quiet(fail);clear x0 x1 x2 x3 y0 y1 y2 y3 heq hg Ju;go_wp2_with fail
  go_loopw [10,33] (fun v i wr=> ∃c:Nat,c<=4/\i=.int .i64 (c:Int)/\wr.ownsRow w.heap.size 203 4 v (ja k (some o) (some n) c).length (zg (ja k (some o) (some n) c))/\Below w.heap.size w wr) (fun _ i _=>4-(intOf i).toNat)
  case atStart=>exact⟨0,by decide,rfl,ea _ _ _ _,Only.aG ((ox (fun _=>False) w).drewN _) (aE _) (fun _ _ h=>h)⟩
  case round=>
   obtain⟨c,hc,rfl,hown,hb⟩:=hrel;obtain⟨A,cp,rfl⟩:=ag hown;by_cases hlt:c<4
   ·have i1:(0:Int)<=(c:Int):=by omega
    have i2:(c:Int)<4:=by omega
    have HW:=al (ab hown hb);have hlen:=rQ k (some o) (some n) c;obtain⟨N,hN⟩:=qt ((ja k (some o) (some n) c).length);rw[hN]at hlen;have HN:=al (ab hN hlen);rw[hN];clear hown hlen hN;have z0:=eA (pt hb HH.o.1) hlt;have y0:=eA (pt hb HH.o.2) hlt;obtain⟨x,hx⟩:=qt (o.aM c);obtain⟨y,hy⟩:=qt (n.aM c);rw[hx]at z0;rw[hy]at y0;by_cases hxy:x=y
    ·subst hxy;have HE:=al (show o.aM c=n.aM c from hx.x hy.symm);clear hx hy;go_wp2_with fail;go_quiet(fail);go_wp2_with fail;go_roundw
     case rel=>refine⟨c+1,by omega,by go_num,?_,Only.aG ((pw hb).drewN _) (aE _) (fun _ _ h=>h)⟩;rw[ja,Js HE.o,gn,<-HN.o.1];exact aT HW.o.1 ((ox (fun _=>False) wr).drewN _) (fun _ _ h=>h)
     case measure=>simp[intOf];omega
    ·have HE:=al (show o.aM c≠n.aM c from by rw[hx,hy];exact hxy);have VS:(x==y)=false:=by simpa using hxy
     clear hx hy;go_wp2_with fail;go_quiet(fail);have zh: ∀n,Below w.heap.size w (wr.drewN n):=fun n=>Only.aG ((pw hb).drewN n) (aE _) (fun _ _ h=>h);go_wp2_with fail;refine(K6 _ k c hlt ob o (pt (zh _) HH.o.1) nb n (pt (zh _) HH.o.2)).m ?_;rintro e w2 ⟨v2,rfl,hown2,hb2⟩;obtain⟨A2,c2,rfl⟩:=ag hown2;obtain⟨M2,uV⟩:=qt ((jl k (some o) (some n) c).length);have Oh:M2<=2:=by rw[<-uV,<-pV (fun o n h1 h2=>by cases h1;cases h2;exact HE.o)];exact vE k (some o) (some n) c
     have iB:aS 4 w2 (fun _=>True) (.slice A2 (jl k (some o) (some n) c).length c2) ((jl k (some o) (some n) c).map Ch.cells):=aS.aU hown2 (tK _) (by decide) (fun _ _=>trivial);have uH:w2.ownsRow w.heap.size 203 4 (.slice A (ja k (some o) (some n) c).length cp) (ja k (some o) (some n) c).length (zg (ja k (some o) (some n) c)):=aY (aT HW.o.1 ((ox (fun _=>False) wr).drewN _) (fun _ _ h=>h)) hb2;have HA:=al (kL w2 w.heap.size _ _ (ja k (some o) (some n) c) (jl k (some o) (some n) c) (fun _=>True) uH iB (by rw[HN.o.1,uV];have:=HN.o.2;omega) (by have:=HW.o.2.size;have:=hb2.size;simp at this;omega));have fg:=al (show Below w.heap.size w w2 from(zh _).x (hb2.m (zh _).size));rw[HN.o.1]at HA;rw[uV]at HA;rw[uV];clear z0 y0 hxy VS hown2 hb2 iB uH hb zh uV Oh i1 i2;go_wp2_with fail;refine HA.o.m ?_;rintro e w3 ⟨v3,rfl,dJ,rA,ml⟩;obtain⟨A3,c3,rfl⟩:=ag dJ
     have H3:=al (show w3.ownsRow w.heap.size 203 4 (.slice A3 (ja k (some o) (some n) c++jl k (some o) (some n) c).length c3) (ja k (some o) (some n) (c+1)).length (zg (ja k (some o) (some n) (c+1)))/\Below w.heap.size w w3 from by
      have e:ja k (some o) (some n) (c+1)=ja k (some o) (some n) c++jl k (some o) (some n) c:=by rw[ja,pV (fun o n h1 h2=>by cases h1;cases h2;exact HE.o)]
      refine⟨by rw[e];exact dJ,fg.o.x (rA.aG fg.o.size (fun g hg h=>?_))⟩;have hlt:=(HW.o.1.lt g (by rw[HN.o.1];exact h)).1
      omega)
     clear dJ rA ml HA;go_wp2_with fail;go_roundw
     case rel=>exact⟨c+1,by omega,by go_num,by rw[<-fb];exact H3.o.1,H3.o.2⟩
     case measure=>simp[intOf];omega
   ·obtain rfl:c=4:=by omega
    have HW:=al (ab hown hb);clear hown hb;go_wp2_with fail
    go_ret2
    exact⟨_,rfl,HW.o.1,HW.o.2⟩
theorem Oi(a b:List UInt8):(⟨a.toArray⟩:ByteArray)++⟨b.toArray⟩=⟨(a++b).toArray⟩:=by apply ByteArray.ext;simp
def Oj(n k:Nat):List Value:=List.replicate (8-k) (.int .u8 0)++(be k (n%256^k)).map B8
theorem Sc{n k:Nat}(hk:k<=8):(Oj n k).length=8:=by simp[Oj,FC];omega
theorem Sd(n:Nat){k j:Nat}(hk:k+j=7):(Oj n k).toArray.setIfInBounds j (B8 (UInt8.ofNat (n/256^k%256)))=(Oj n (k+1)).toArray:=by
 have hj:8-k=j+1:=by omega
 have hj2:8-(k+1)=j:=by omega
 have hb:be (k+1) (n%256^(k+1))=UInt8.ofNat (n/256^k%256)::be k (n%256^k):=by
  rw[be];have h1:n%256^(k+1)/256^k=n/256^k%256:=by rw[Nat.pow_succ,Nat.mod_mul_right_div_self]
  have h2:n%256^(k+1)%256^k=n%256^k:=Nat.mod_mod_of_dvd _ (Nat.pow_dvd_pow 256 (by omega));rw[h1,h2]
 unfold Oj;rw[hj,hj2,hb,List.replicate_succ',List.setIfInBounds_toArray];congr 1;rw[kt,List.set_append_right _ _ (by simp),List.length_replicate,Nat.sub_self];simp
theorem Zr{w:World}{B:Nat}{a0 a1 a2 a3 a4 a5 a6 a7 v0 v1 v2 v3 v4 v5 v6 v7:Value}{t:TypeId}(h:w.heap[B]?=some (.cells #[a0,a1,a2,a3,a4,a5,a6,a7] t (0,0))):
  ((((((((w.setCell ⟨B,0,none⟩ v0).setCell ⟨B,1,none⟩ v1).setCell ⟨B,2,none⟩ v2).setCell ⟨B,3,none⟩ v3).setCell ⟨B,4,none⟩ v4).setCell ⟨B,5,none⟩ v5).setCell ⟨B,6,none⟩ v6).setCell ⟨B,7,none⟩ v7).heap[B]?=some (.cells #[v0,v1,v2,v3,v4,v5,v6,v7] t (0,0)):=by
 have h0:=db w B 0 _ t v0 h;have h1:=db _ B 1 _ t v1 h0;have h2:=db _ B 2 _ t v2 h1;have h3:=db _ B 3 _ t v3 h2;have h4:=db _ B 4 _ t v4 h3;have h5:=db _ B 5 _ t v5 h4;have h6:=db _ B 6 _ t v6 h5;have h7:=db _ B 7 _ t v7 h6;simpa using h7
theorem Ol{α:Type}{l:List α}(h:l.length=8): ∃a b c d e f g i,l=[a,b,c,d,e,f,g,i]:=by
 match l,h with
 |[a,b,c,d,e,f,g,i],_=>exact⟨a,b,c,d,e,f,g,i,rfl⟩
theorem VT(n:Int)(hn:I6 n):(Oj (n+9223372036854775808).toNat 8)=(pfx n).map B8:=by
 unfold Oj pfx;rw[Nat.mod_eq_of_lt]
 ·rfl
 ·have:=hn.1;have:=hn.2;rw[show(256:Nat)^8=18446744073709551616 by decide];omega
theorem K7(w:World)(n:Int)(hn:I6 n):Calls prog 152 #[.int .i64 n] w fun e w'=>e=.returned (.agg ((pfx n).map B8).toArray)/\Below w.heap.size w w':=by
 obtain⟨N,hN⟩:=qt ((n+9223372036854775808).toNat);have hN2:N<18446744073709551616:=by have:=hn.1;have:=hn.2;omega
 have HW:=al (show IntKind.u64.wrap (IntKind.u64.wrap n+9223372036854775808)=(N:Int) by rw[IntKind.wrap_u64,IntKind.wrap_u64];have:=hn.1;have:=hn.2;omega);have HP:=al (VT n hn);rw[hN]at HP;obtain⟨hb0,k0⟩:=qn w (.cells #[.int .u8 0,.int .u8 0,.int .u8 0,.int .u8 0,.int .u8 0,.int .u8 0,.int .u8 0,.int .u8 0] 263);go_enter func152,ntmps152;go_upto_region 1 with fail;generalize w.alloc (.cells #[.int .u8 0,.int .u8 0,.int .u8 0,.int .u8 0,.int .u8 0,.int .u8 0,.int .u8 0,.int .u8 0] 263)=w1 at hb0 k0⊢;obtain⟨R,hR⟩:=qt (w.heap.size);rw[hR]at k0⊢;obtain⟨hb1,k1⟩:=qn w1 (.cells #[.int .u8 0,.int .u8 0,.int .u8 0,.int .u8 0,.int .u8 0,.int .u8 0,.int .u8 0,.int .u8 0] 263);have Nz:=pt hb1 k0;go_upto_region 2 with fail;generalize w1.alloc (.cells #[.int .u8 0,.int .u8 0,.int .u8 0,.int .u8 0,.int .u8 0,.int .u8 0,.int .u8 0,.int .u8 0] 263)=w2 at hb1 k1 Nz⊢;obtain⟨B,hB⟩:=qt (w1.heap.size);rw[hB]at k1⊢;have hRB:R<B:=by have:=aQ k0;omega
 have H:=al (show Below w.heap.size w w2/\w2.heap[B]?=some (.cells (Oj N 0).toArray 263 (0,0))/\w2.heap[R]?=some (.cells #[.int .u8 0,.int .u8 0,.int .u8 0,.int .u8 0,.int .u8 0,.int .u8 0,.int .u8 0,.int .u8 0] 263 (0,0))/\R<B/\w.heap.size<=R from
  ⟨hb0.x (hb1.m hb0.size),k1,Nz,hRB,by omega⟩)
 have HN:=al (ab hN hN2);clear hb0 k0 hR hb1 k1 Nz hB hRB hN hn;go_wp2
 go_loopw [4,9] (fun n i wr=> ∃k M:Nat,k<=8/\i=.int .i64 (k:Int)/\n=.int .u64 (M:Int)/\N/256^k=M/\wr.heap[B]?=some (.cells (Oj N k).toArray 263 (0,0))/\Only (fun k=>k=B) w2 wr) (fun _ i _=>8-(intOf i).toNat)
 case atStart=>exact⟨0,N,by decide,rfl,by rw[HW.o],by simp,H.o.2.1,ox _ _⟩
 case round=>
  obtain⟨k,M,hk,rfl,rfl,hMd,oK,qR⟩:=hrel;by_cases hlt:k<8
  ·obtain⟨j,hj⟩: ∃j,k+j=7:=⟨7-k,by omega⟩;have hj2:(7:Int)-(k:Int)=(j:Int):=by omega
   have hM:N/256^k<18446744073709551616:=Nat.lt_of_le_of_lt (Nat.div_le_self _ _) HN.o.2;have Om:N/256^k/256=N/256^(k+1):=by rw[Nat.pow_succ,Nat.div_div_eq_div_mul]
   obtain⟨x,hx⟩:=qt (B8 (UInt8.ofNat (N/256^k%256)));have Eg:=Sd N hj;rw[hMd]at hM Om Eg hx;obtain⟨d,hd⟩:=qt (M%256);have oL:d<256:=by omega
   have e1:bits .and .u64 (M:Int) 255=(d:Int):=by have:=u64_and_nat M 255 hM (by decide);rw[show((255:Nat):Int)=255 from rfl]at this;rw[this,<-hd];congr 1;exact Nat.and_two_pow_sub_one_eq_mod M 8
   have e2:(d:Int)%256=(d:Int):=by omega
   have e3:B8 (UInt8.ofNat d)=.int .u8 (d:Int):=by simp[B8];omega
   rw[hd]at Eg hx;rw[e3]at Eg;obtain⟨cv,hcv⟩: ∃v,(Oj N k).toArray[j]?=some v:=⟨_,gC (by simp[Sc hk];omega)⟩;have z0:wr.cell? ⟨B,j,none⟩=some cv:=by simp[World.cell?,oK,hcv]
   have z1:wr.frozen? ⟨B,j,none⟩=false:=by simp[World.frozen?,oK]
   have i1:(0:Int)<=(j:Int):=by omega
   have i2:(j:Int)<8:=by omega
   have hk7:k<=7:=by omega
   have HK:=al (show(wr.setCell ⟨B,j,none⟩ (.int .u8 (d:Int))).heap[B]?=some (.cells (Oj N (k+1)).toArray 263 (0,0))/\Only (fun k=>k=B) w2 (wr.setCell ⟨B,j,none⟩ (.int .u8 (d:Int)))/\M/256=N/256^(k+1)from by
    refine⟨?_,qR.x (bj wr B j _) (fun _ _ h=>h),Om⟩
    rw[heap_setCell_same wr B j _ _ (.int .u8 (d:Int)) oK,Eg])
   clear oK qR Eg hcv Om hMd hd hM hx e3 hj;go_wp2;go_roundw
   case rel=>exact⟨k+1,M/256,by omega,by go_num,by simp,HK.o.d.symm,HK.o.1,HK.o.2.1⟩
   case measure=>simp[intOf];omega
  ·obtain rfl:k=8:=by omega
   have kR:=qR.heap H.o.d.1 (fun e=>by have:=H.o.t.1;omega);rw[HP.o]at oK;obtain⟨x0,x1,x2,x3,x4,x5,x6,x7,hl⟩:=Ol (cu n);have HL:=al hl;rw[hl]at oK;simp only[lp,kc,B8]at oK;have g0:wr.cell? ⟨B,0,none⟩=some (.int .u8 x0.toNat):=by simp[World.cell?,oK]
   have g1:wr.cell? ⟨B,1,none⟩=some (.int .u8 x1.toNat):=by simp[World.cell?,oK]
   have g2:wr.cell? ⟨B,2,none⟩=some (.int .u8 x2.toNat):=by simp[World.cell?,oK]
   have g3:wr.cell? ⟨B,3,none⟩=some (.int .u8 x3.toNat):=by simp[World.cell?,oK]
   have g4:wr.cell? ⟨B,4,none⟩=some (.int .u8 x4.toNat):=by simp[World.cell?,oK]
   have g5:wr.cell? ⟨B,5,none⟩=some (.int .u8 x5.toNat):=by simp[World.cell?,oK]
   have g6:wr.cell? ⟨B,6,none⟩=some (.int .u8 x6.toNat):=by simp[World.cell?,oK]
   have g7:wr.cell? ⟨B,7,none⟩=some (.int .u8 x7.toNat):=by simp[World.cell?,oK]
   have y0:wr.cell? ⟨R,0,none⟩=some (.int .u8 0):=by simp[World.cell?,kR]
   have y1:wr.cell? ⟨R,1,none⟩=some (.int .u8 0):=by simp[World.cell?,kR]
   have y2:wr.cell? ⟨R,2,none⟩=some (.int .u8 0):=by simp[World.cell?,kR]
   have y3:wr.cell? ⟨R,3,none⟩=some (.int .u8 0):=by simp[World.cell?,kR]
   have y4:wr.cell? ⟨R,4,none⟩=some (.int .u8 0):=by simp[World.cell?,kR]
   have y5:wr.cell? ⟨R,5,none⟩=some (.int .u8 0):=by simp[World.cell?,kR]
   have y6:wr.cell? ⟨R,6,none⟩=some (.int .u8 0):=by simp[World.cell?,kR]
   have y7:wr.cell? ⟨R,7,none⟩=some (.int .u8 0):=by simp[World.cell?,kR]
   have u0:wr.frozen? ⟨R,0,none⟩=false:=by simp[World.frozen?,kR]
   have u1:wr.frozen? ⟨R,1,none⟩=false:=by simp[World.frozen?,kR]
   have u2:wr.frozen? ⟨R,2,none⟩=false:=by simp[World.frozen?,kR]
   have u3:wr.frozen? ⟨R,3,none⟩=false:=by simp[World.frozen?,kR]
   have u4:wr.frozen? ⟨R,4,none⟩=false:=by simp[World.frozen?,kR]
   have u5:wr.frozen? ⟨R,5,none⟩=false:=by simp[World.frozen?,kR]
   have u6:wr.frozen? ⟨R,6,none⟩=false:=by simp[World.frozen?,kR]
   have u7:wr.frozen? ⟨R,7,none⟩=false:=by simp[World.frozen?,kR]
   have H6:=al (ab kR qR);clear oK kR qR hl;go_wp2;have vF:=Zr (v0:=.int .u8 x0.toNat) (v1:=.int .u8 x1.toNat) (v2:=.int .u8 x2.toNat) (v3:=.int .u8 x3.toNat) (v4:=.int .u8 x4.toNat) (v5:=.int .u8 x5.toNat) (v6:=.int .u8 x6.toNat) (v7:=.int .u8 x7.toNat) H6.o.1;have ho:=(((((((bj wr R 0 (.int .u8 x0.toNat)).setCell (p:=⟨R,1,none⟩) (fun _=>rfl) (.int .u8 x1.toNat)).setCell (p:=⟨R,2,none⟩) (fun _=>rfl) (.int .u8 x2.toNat)).setCell (p:=⟨R,3,none⟩) (fun _=>rfl) (.int .u8 x3.toNat)).setCell (p:=⟨R,4,none⟩) (fun _=>rfl) (.int .u8 x4.toNat)).setCell (p:=⟨R,5,none⟩) (fun _=>rfl) (.int .u8 x5.toNat)).setCell (p:=⟨R,6,none⟩) (fun _=>rfl) (.int .u8 x6.toNat)).setCell (p:=⟨R,7,none⟩) (fun _=>rfl) (.int .u8 x7.toNat);have HO:=al (ab vF ho);clear vF ho;generalize ((((((((wr.setCell ⟨R,0,none⟩ (.int .u8 x0.toNat)).setCell ⟨R,1,none⟩ (.int .u8 x1.toNat)).setCell ⟨R,2,none⟩ (.int .u8 x2.toNat)).setCell ⟨R,3,none⟩ (.int .u8 x3.toNat)).setCell ⟨R,4,none⟩ (.int .u8 x4.toNat)).setCell ⟨R,5,none⟩ (.int .u8 x5.toNat)).setCell ⟨R,6,none⟩ (.int .u8 x6.toNat)).setCell ⟨R,7,none⟩ (.int .u8 x7.toNat))=w7 at HO⊢;refine dr (results_cell_row rfl _ _ _ _ _ _ _ rfl HO.o.1 underlying263 rfl (by kernel_rfl)) rfl ⟨by rw[HL.o];rfl,?_⟩;exact H.o.1.x ((H6.o.2.mono (T:=fun k=>k=B\/k=R) (fun _ _ h=>.inl h)).x (HO.o.2.mono (T:=fun k=>k=B\/k=R) (fun _ _ h=>.inr h)) (fun _ _ h=>h)|>.aG H.o.1.size (fun k hk h=>by have:=H.o.t;omega))
theorem pW(w:World)(n:Int)(hn:I6 n):Calls prog 124 #[.int .i64 n] w fun e w'=>e=.returned (.string ⟨(pfx n).toArray⟩)/\Below w.heap.size w w':=by
 have HC:=al (K7 w n hn);obtain⟨x0,x1,x2,x3,x4,x5,x6,x7,hl⟩:=Ol (cu n);rw[hl]at HC⊢;simp only[lp,kc,B8]at HC;have hc:=fun(w:World) (F:Nat->Prop) (A:Option Addr) (c:Nat) (h:Rd w F (.slice A 8 c) ([x0,x1,x2,x3,x4,x5,x6,x7].map B8))=>BS (P:=prog) 41 9 5 underlying41 underlying5 underlying9 h;have HV:=al hc;clear hl hn hc;go_enter func124,ntmps124;go_wp2_with fail;refine HC.o.m ?_;rintro e w1 ⟨rfl,hb⟩;obtain⟨hb1,k1⟩:=qn w1 (.cells #[.int .u8 x0.toNat,.int .u8 x1.toNat,.int .u8 x2.toNat,.int .u8 x3.toNat,.int .u8 x4.toNat,.int .u8 x5.toNat,.int .u8 x6.toNat,.int .u8 x7.toNat] 263)
 have iB:Rd (w1.alloc (.cells #[.int .u8 x0.toNat,.int .u8 x1.toNat,.int .u8 x2.toNat,.int .u8 x3.toNat,.int .u8 x4.toNat,.int .u8 x5.toNat,.int .u8 x6.toNat,.int .u8 x7.toNat] 263)) (fun _=>True) (.slice (some ⟨w1.heap.size,0,none⟩) 8 8) ([x0,x1,x2,x3,x4,x5,x6,x7].map B8):=by refine⟨_,8,8,rfl,rfl,aE _,by simp[maxLen],fun _=>⟨_,0,rfl,trivial,fun j u hj=>?_⟩⟩;rw[World.cell?,k1];have h2:(#[.int .u8 x0.toNat,.int .u8 x1.toNat,.int .u8 x2.toNat,.int .u8 x3.toNat,.int .u8 x4.toNat,.int .u8 x5.toNat,.int .u8 x6.toNat,.int .u8 x7.toNat]:Array Value).toList=[x0,x1,x2,x3,x4,x5,x6,x7].map B8:=rfl;rw[<-h2]at hj;simpa using hj
 have hcv:=HV.o _ _ _ _ iB;have HB:=al (hb.x (hb1.m hb.size));clear hb hb1 k1 iB HC HV;go_wp2_with fail;go_ret
 exact⟨rfl,HB.o⟩
theorem GG(w:World)(v:Int)(k:List UInt8)(hv:I6 v)(hk:1<=k.length/\k.length<=16):Calls prog 82 #[.agg #[.int .i64 v,.string ⟨k.toArray⟩]] w fun e w'=>e=.returned (.tuple #[.string ⟨(dP v k).toArray⟩,.int .i64 0])/\Below w.heap.size w w':=by
 obtain⟨hb0,k0⟩:=qn w (.cells #[.int .i64 v,.string ⟨k.toArray⟩] 201);have Mm:dU k=0:=by unfold dU;rw[ff (by omega)]
 go_enter func82,ntmps82;go_upto_region 1 with fail;generalize w.alloc (.cells #[.int .i64 v,.string ⟨k.toArray⟩] 201)=w1 at hb0 k0⊢;obtain⟨R,hR⟩:=qt (w.heap.size);rw[hR]at k0⊢;have z0:w1.cell? ⟨R,0,none⟩=some (.int .i64 v):=by simp[World.cell?,k0]
 have z1:w1.cell? ⟨R,1,none⟩=some (.string ⟨k.toArray⟩):=by simp[World.cell?,k0]
 have HC:=al (ej w1 k);rw[Mm]at HC;have H0:=al (ab hb0 k0);have HV:=al hv;have HK:=al hk;clear hb0 k0 Mm hv hk;go_wp2_with fail;refine HC.o.m ?_;rintro e w2 ⟨rfl,hw2⟩;obtain rfl:w1=w2:=hw2;clear HC;go_wp2_with fail;have HP:=al (fun w=>pW w v HV.o);have hlen: ¬9223372036854775807<(pfx v).length+k.length:=by rw[cu];have:=HK.o;omega
 refine o0 (S:=(fun W=>Below w1.heap.size w1 W/\W.cell? ⟨R,0,none⟩=some (.int .i64 v)/\W.cell? ⟨R,1,none⟩=some (.string ⟨k.toArray⟩))) (by kernel_rfl) ⟨(aw _ _).drew,z0,z1⟩ (fun ph=>?_);refine aI [0,1,3,4] ?_
 iterate 4 (refine bO (v:=?_) (fun _ ⟨s0,s1,s2⟩=>?_) ph ?_;rotate_left;(go_simp;try rfl);try simp only[ai,aj,ak,ar])
 refine aJ ?_;refine aW 2 (fun K hK=>?_);go_simp;refine(HP.o _).m ?_;rintro e wn ⟨rfl,aR⟩
 try go_simp
 refine hK.o _ _ (tF ph aR) ?_;clear hK K ph aR;intro ph
 try simp only[ai,aj,ak,ar]
 refine aI [5,6,7] ?_
 iterate 3 (refine bO (v:=?_) (fun _ ⟨s0,s1,s2⟩=>?_) ph ?_;rotate_left;(go_simp;try rfl);try simp only[ai,aj,ak,ar])
 refine aJ ?_;refine pb (by kernel_rfl) ?_ _;obtain⟨hbz,-,-⟩:=ph;go_wp2_with fail
 go_ret2
 refine⟨?_,H0.o.1.x (hbz.m H0.o.1.size)⟩;unfold dP;rw[<-Oi];rfl
end Go.Proofs.YtmkofmeojbcakaaGreatDoor
