import Derived.Test.YtmkofmeojbcakaaGreatDoorC07
import Derived.Test.YtmkofmeojbcakaaGreatDoorC10
import Derived.Laws.BitsAllLaws
import Derived.Laws.BitsLemmas
import Derived.Lib.AppendStr
namespace Go.Proofs.YtmkofmeojbcakaaGreatDoor
open Go.Proofs.Tryz
set_option maxRecDepth 100000
set_option maxHeartbeats 16000000
open Go.RowKit
def nM(w:World)(F:Nat->Prop)(b:Nat)(bs:List UInt8):Prop:=
 ∃v,w.heap[b]?=some (.cells #[v] 102 (0,0))/\F b/\w.ownsRow 0 5 1 v bs.length (bs.map B8)/\(∀g,v.ownBlock=some g->F g)
theorem vD{wr w1:World}{row:Option Nat}{o1:Obj}(hgrow:(wr.alloc o1).grownBy w1 row):Only (fun k=>row=some k) wr w1:=
 ((ox _ wr).alloc o1).grown hgrow (fun _ hk _=>hk)
theorem BQ{wr w1:World}{F':Nat->Prop}{b L m c cap:Nat}{A A':Option Addr}{cur news:List UInt8}(hblk:wr.heap[b]?=some (.cells #[.slice A L c] 102 (0,0)))
  (hn:cur.length=L) (hm:news.length=m) (hne:(Value.slice A L c).ownBlock≠some b) (TY: ∀g,(Value.slice A L c).ownBlock=some g->F' g) (qP:F' b)
  (hown1:w1.ownsRow 0 5 1 (.slice A' (L+m) cap) (L+m) (cur.map B8++news.map B8)) (hgrow:Only (fun k=>(Value.slice A L c).ownBlock=some k) wr w1)
  (hat: ∀g,(Value.slice A' (L+m) cap).ownBlock=some g->(Value.slice A L c).ownBlock=some g\/wr.heap.size<=g):
  nM (w1.setCell ⟨b,0,none⟩ (.slice A' (L+m) cap)) (fun k=>F' k\/wr.heap.size<=k) b (cur++news)/\Only F' wr (w1.setCell ⟨b,0,none⟩ (.slice A' (L+m) cap)):=by
 have hb1:=hgrow.heap hblk hne;refine⟨⟨.slice A' (L+m) cap,?_,.inl qP,?_,?_⟩,?_⟩
 ·simp[World.setCell,Array.getElem?_modify,hb1]
 ·have h:=aT hown1 (Only.aN w1 b 0 (.slice A' (L+m) cap)) (fun k hk e=>by subst e;exact cN hown1 hb1 (by decide) hk);subst hn hm;simpa using h
 ·intro k hk;rcases hat k hk with h|h
  ·exact .inl (TY _ h)
  ·exact .inr h
 ·exact(hgrow.m (fun k _ h=>TY k h)).setCell (p:=⟨b,0,none⟩) (fun _=>qP) _
theorem pS(w:World)(F:Nat->Prop)(b:Nat)(bs:List UInt8)(h:nM w F b bs)(n:Nat)(hn:n<18446744073709551616)(hlen:bs.length<=1000000000):
  Calls prog 51 #[.pointer (some ⟨b,0,none⟩),.int .u64 n] w fun e w'=>e=.returned (.tuple #[])/\Only F w w'/\ ∃F',nM w' F' b (bs++lQ n)/\ ∀k,F' k->F k\/w.heap.size<=k:=by
 obtain⟨i0,hi,hz0,hz1,hz2⟩:=ep Tryz.I4;have HN:=al hn;clear hn;go_enter func51,ntmps51;go_wp2
 go_loopw [1] (fun v wr=> ∃(m:Nat) (pre:List UInt8) (F':Nat->Prop),v=.int .u64 m/\m<=n/\lQ n=pre++lQ m/\pre.length<=9/\nM wr F' b (bs++pre)/\Only F w wr/\ ∀k,F' k->F k\/w.heap.size<=k)
   (fun v _=>(intOf v).toNat)
 case atStart=>exact⟨n,[],F,rfl,aE _,rfl,by simp,by simpa using h,ox _ _,fun k hk=>.inl hk⟩
 case round=>
  obtain⟨m,pre,F',rfl,hm,hl,hpl,hwr,ho,hF'⟩:=hrel;obtain⟨v,hblk,qP,hown,TY⟩:=hwr;have hL:(bs++pre).length<=1000000009:=by simp;omega
  have HB:=al (ab hl (ab TY (ab qP hF')));generalize yX:bs++pre=cur at *;have YE:=al yX;clear yX;generalize hn:cur.length=L at *;have Qq:=al hn;obtain⟨A,c,rfl⟩:=ag hown;have hne:(Value.slice A L c).ownBlock≠some b:=cN hown hblk (by decide);have hc:=bK hblk;have hf:=dN hblk;have hbs:=(bd.1 hblk).1;have HW:=al (ab hblk (ab hown hne));clear hl hF' qP TY hn hblk hown hne;by_cases hge:128<=m
  ·have Vk:m<18446744073709551616:=Nat.lt_of_le_of_lt hm HN.o;obtain⟨d,hd⟩:=qt (m%128);have hd2:d<128:=by omega
   have e1:bits .and .u64 (m:Int) 127=(d:Int):=by have:=u64_and_nat m 127 Vk (by decide);rw[show((127:Nat):Int)=127 from rfl]at this;rw[this,<-hd];congr 1;exact Nat.and_two_pow_sub_one_eq_mod m 7
   have e2:(d:Int)%256=(d:Int):=by omega
   have e3:bits .or .u8 (d:Int) 128=((UInt8.ofNat (d+128)).toNat:Int):=by have:=u8_or_nat d 128 (by omega) (by decide);rw[show((128:Nat):Int)=128 from rfl]at this;rw[this,Nat.or_comm,nat_join 7 128 d (by decide) (by omega)];simp;omega
   have hy:lQ m=UInt8.ofNat (d+128)::lQ (m/128):=by rw[Vg hge Vk,hd]
   generalize UInt8.ofNat (d+128)=y at *;have HD:=al hy;clear hd Vk hy;have c1:L+1<=maxLen:=by simp only[maxLen];omega
   have c2:(L+1)*1<=140737488355328:=by omega
   have hown2:=HW.o.2.1.alloc (.cells #[B8 y] 5);have HC:=al (ab c1 (ab c2 hown2));clear c1 c2 hown2;go_wp2_with (at_builtin;refine eh _ rfl _ _ 41 rfl 0 5 i0 (.int .u8 0) 1 1 underlying41 hi hz0 hz1 hz2 rfl (by decide) (.slice A L c) L (cur.map B8) rfl HC.o.d ⟨wr.heap.size,0,none⟩ 1 1 [B8 y] rfl rfl (cell_one_new _ _ _) (by simp[B8,Value.oneCell']) (by decide) HC.o.1 HC.o.2.1 (dq _) (wr.heap.size+1) (by simp) ?_;intro g cap w1 hown1 hgrow hat hlt;have uB:=al ((vD hgrow).heap HW.o.1 HW.o.d);have hc1:=bK uB.o;have F6:=dN uB.o);go_roundw
   case rel=>
    obtain⟨hw2,dY⟩:=BQ (m:=1) (news:=[y]) HW.o.1 Qq.o rfl HW.o.d HB.o.2.1 HB.o.d.1 hown1 (vD hgrow) (fun k hk=>by injection hk with hk;subst hk;exact hat.imp_right (fun h=>by show wr.heap.size<=g;omega));have hl2:lQ n=(pre++[y])++lQ (m/128):=by rw[HB.o.1,HD.o];simp
    refine⟨m/128,pre++[y],fun k=>F' k\/wr.heap.size<=k,by simp,by omega,hl2,?_,?_,ho.x dY (fun i hi h=>?_),fun k hk=>?_⟩
    ·have h1:=dv n;have h2:=Rp (m/128);rw[hl2]at h1;simp at h1⊢;omega
    ·rw[<-kt,YE.o];exact hw2
    ·rcases HB.o.t i h with h|h
     ·exact h
     ·omega
    ·rcases hk with h|h
     ·exact HB.o.t k h
     ·exact .inr (by have:=ho.size;omega)
   case measure=>simp[intOf];omega
  ·have hlt:m<128:=by omega
   have hy:lQ m=[UInt8.ofNat m]:=Vf hlt;have e1:Value.int .u8 (m:Int)=B8 (UInt8.ofNat m):=by simp[B8];omega
   have E1:=al e1;clear e1;generalize UInt8.ofNat m=y at E1 hy;have c1:L+1<=maxLen:=by simp only[maxLen];omega
   have c2:(L+1)*1<=140737488355328:=by omega
   have hown2:=HW.o.2.1.alloc (.cells #[.int .u8 (m:Int)] 5);have HC:=al (ab c1 (ab c2 hown2));have HD:=al hy;clear c1 c2 hown2 hy;go_wp2_with (at_builtin;refine eh _ rfl _ _ 41 rfl 0 5 i0 (.int .u8 0) 1 1 underlying41 hi hz0 hz1 hz2 rfl (by decide) (.slice A L c) L (cur.map B8) rfl HC.o.d ⟨wr.heap.size,0,none⟩ 1 1 [.int .u8 (m:Int)] rfl rfl (cell_one_new _ _ _) (by simp[Value.oneCell']) (by decide) HC.o.1 HC.o.2.1 (dq _) (wr.heap.size+1) (by simp) ?_;intro g cap w1 hown1 hgrow hat hlt;have uB:=al ((vD hgrow).heap HW.o.1 HW.o.d);have hc1:=bK uB.o;have F6:=dN uB.o)
   go_end0
   rw[E1.o]at hown1;obtain⟨hw2,dY⟩:=BQ (m:=1) (news:=[y]) HW.o.1 Qq.o rfl HW.o.d HB.o.2.1 HB.o.d.1 hown1 (vD hgrow) (fun k hk=>by injection hk with hk;subst hk;exact hat.imp_right (fun h=>by show wr.heap.size<=g;omega));refine⟨rfl,ho.x dY (fun i hi h=>?_),fun k=>F' k\/wr.heap.size<=k,?_,fun k hk=>?_⟩
   ·rcases HB.o.t i h with h|h
    ·exact h
    ·omega
   ·rw[HB.o.1,HD.o,<-kt,YE.o];exact hw2
   ·rcases hk with h|h
    ·exact HB.o.t k h
    ·exact .inr (by have:=ho.size;omega)
theorem oW{P:Program}(w:World){ops:Array Oper}{rest:List Oper}{o:Oper}{a:Act}{Q:Exit->Act->World->Prop}(hgd:o.guard=none)(sl x:Operand)(t u:TypeId)
  (ho:o.op=.call {callee:=.builtin .append,args:= #[sl,x],argTypes:= #[t,u]})
  (base:Nat) (e:TypeId) (i:TypeInfo) (ht:P.underlying t=some (.slice e)) (hu:P.underlying u=some .string) (hi:P.info? e=some i) (hz:i.zero=some (.int .u8 0))
  (hsize:i.size=1) (hby:i.bytes=1)
  (v:Value) (n:Nat) (xs:List Value) (hs:a.eval sl=v) (hown:w.ownsRow base e 1 v n xs) (s:ByteArray) (hx:a.eval x=.string s)
  (h63:n+s.size<=maxLen) (hbytes:n+s.size<=140737488355328) (hbase:base<=w.heap.size)
  (h: ∀A' c' w',w'.ownsRow base e 1 (.slice A' (n+s.size) c') (n+s.size) (xs++s.data.toList.map B8)->w.grownBy w' v.ownBlock->((Value.slice A' (n+s.size) c').ownBlock=v.ownBlock\/(Value.slice A' (n+s.size) c').ownBlock=some w.heap.size)->wpList P ops Q rest (a.put o.dst (.slice A' (n+s.size) c')) w'):wpList P ops Q (o::rest) a w:=by
 refine wpList_plain hgd fun K hK=>?_;obtain⟨v',w',hr,h2,h3,h4⟩:=Lib.run_append_own_string (P:=P) w base t u o.type e i ht hu hi hz hsize hby v n xs hown s h63 hbytes hbase
 have hat:v'.ownBlock=v.ownBlock\/v'.ownBlock=some w.heap.size:=by
  have hsmall:n+s.size<=9223372036854775807:=by simp only[maxLen]at h63;omega
  rcases hown.2 with⟨rfl,rfl⟩|⟨g,cap,cur,rfl,hbg,hg,hnc,hcm,hcs,htake⟩
  ·by_cases hm:s.size=0
   ·left;rw[h4.2 ⟨rfl,hm⟩]
   ·right;have hr':=run_append_nil_string (P:=P) w t u o.type e i (.int .u8 0) ht hu hi hz s (by omega) (by omega) (by rw[hby];omega);rw[hr]at hr';injection hr' with e1 _;rw[e1];rfl
  ·by_cases hroom:n+s.size<=cap
   ·left;have hcs':cur.size=cap:=by simpa using hcs
    have hr':=Lib.run_append_room_string (P:=P) w t u o.type e i ht hu hi hsize g n cap cur hg s hroom (by omega);rw[hr]at hr';injection hr' with e1 _;rw[e1];rfl
   ·right;have holds: ∀j u,xs[j]?=some u->w.cell? ((⟨g,0,none⟩:Addr).add j)=some u:=hown.cells (g:=g) rfl;have hxl:xs.length=n:=by simpa using hown.1
    have hr':=Lib.run_append_grow_string (P:=P) w t u o.type e i (.int .u8 0) ht hu hi hz ⟨g,0,none⟩ n cap xs (by rw[hsize];simpa using hxl) holds s (by omega) (by omega) (by rw[hby];exact growslice_fits (by omega) (by omega));rw[hr]at hr';injection hr' with e1 _;rw[e1];rfl
 obtain⟨A',c',rfl⟩:=ag h2;unfold Oper.wp execOp;simp only[ho,resolve,invoke,builtin,Sem.run_bind,Sem.run_pure,Result.andThen_ok,List.map_toArray,lp,kc,hs,hx,hr];exact hK _ _ (h A' c' w' h2 h3 hat)
def F7(r:Int)(F:Nat->Prop)(b:Nat)(bs:List UInt8)(w:World)(e:Ending)(w':World):Prop:=
 e=.returned (.int .i64 r)/\Only F w w'/\ ∃F',nM w' F' b bs/\ ∀k,F' k->F k\/w.heap.size<=k
theorem Rv(w:World)(F:Nat->Prop)(b:Nat)(bs:List UInt8)(h:nM w F b bs)(n:Nat)(hn:n<9223372036854775808)(hlen:bs.length<=1000000000):
  Calls prog 30 #[.pointer (some ⟨b,0,none⟩),.int .i64 n] w (F7 0 F b (bs++lQ n) w):=by
 have H:=al h;have HN:=al hn;clear h;have hn':n<=9223372036854775807:=by omega
 clear hn;go_enter func30,ntmps30;go_wp2_with fail;refine(pS w F b bs H.o n (by have:=HN.o;omega) hlen).m ?_;rintro e w1 ⟨rfl,ho,F',hw,hF'⟩;go_wp2_with fail;go_ret
 exact⟨rfl,ho,F',hw,hF'⟩
theorem Rx(w:World)(F:Nat->Prop)(b:Nat)(bs:List UInt8)(h:nM w F b bs)(s:ByteArray)(hs:s.size<=65536)(hlen:bs.length<=1000000000):
  Calls prog 32 #[.pointer (some ⟨b,0,none⟩),.string s] w (F7 0 F b (bs++(lQ s.size++s.data.toList)) w):=by
 obtain⟨i0,hi,hz0,hz1,hz2⟩:=ep Tryz.I4;have H:=al h;clear h;go_enter func32,ntmps32;go_wp2_with fail;refine(pS w F b bs H.o s.size (by omega) hlen).m ?_;rintro e w1 ⟨rfl,ho,F',hw,hF'⟩;obtain⟨v,hblk,qP,hown,TY⟩:=hw;have hL:(bs++lQ s.size).length<=1000000010:=by have:=dv s.size;simp;omega
 have hass:bs++(lQ s.size++s.data.toList)=(bs++lQ s.size)++s.data.toList:=by simp
 have HB:=al (ab TY (ab qP hF'));generalize bs++lQ s.size=cur at *;have aa4:=al hass;generalize hn:cur.length=L at *;have Qq:=al hn;obtain⟨A,c,rfl⟩:=ag hown;have hne:(Value.slice A L c).ownBlock≠some b:=cN hown hblk (by decide);have hc:=bK hblk;have hf:=dN hblk;have c1:L+s.size<=maxLen:=by simp only[maxLen];omega
 have c2:L+s.size<=140737488355328:=by omega
 have HW:=al (ab hblk (ab hown (ab hne (ab c1 c2))));clear hF' qP TY hn hblk hown hne hass c1 c2;go_wp2_with (at_builtin;refine oW _ rfl _ _ 41 9 rfl 0 5 i0 underlying41 underlying9 hi hz0 hz1 hz2 (.slice A L c) L (cur.map B8) rfl HW.o.2.1 s rfl HW.o.t.1 HW.o.q (dq _) ?_;intro A' c' w2 hown2 hgrow hat;have uB:=al ((Only.of_grownBy hgrow).heap HW.o.1 HW.o.d.1);have hc1:=bK uB.o;have F6:=dN uB.o);go_ret
 obtain⟨hw2,dY⟩:=BQ (m:=s.size) (news:=s.data.toList) HW.o.1 Qq.o (by simp) HW.o.d.1 HB.o.1 HB.o.2.1 hown2 (Only.of_grownBy hgrow) (fun k hk=>by
  have hk':(Value.slice A' (L+s.size) c').ownBlock=some k:=hk;rcases hat with h|h
  ·exact .inl (h.symm.x hk')
  ·rw[hk']at h;injection h with h;exact .inr (by omega))
 refine⟨rfl,ho.x dY (fun i hi h=>?_),fun k=>F' k\/w1.heap.size<=k,by rw[aa4.o];exact hw2,fun k hk=>?_⟩
 ·rcases HB.o.d i h with h|h
  ·exact h
  ·omega
 ·rcases hk with h|h
  ·exact HB.o.d k h
  ·exact .inr (by have:=ho.size;omega)
theorem Ah(w:World)(F:Nat->Prop)(b:Nat)(bs:List UInt8)(h:nM w F b bs)(hlen:bs.length<=1000000000):
  Calls prog 34 #[.pointer (some ⟨b,0,none⟩)] w (I3 5 (bs.map B8) w):=by
 obtain⟨v,hblk,_,hown,_⟩:=h;obtain⟨A,c,rfl⟩:=ag hown;have hc:=bK hblk;have HR:=al (Rd.aU (F:=fun _=>True) hown (fun _ _=>trivial));clear hblk hown;go_enter func34,ntmps34;go_wp2_with fail;refine(lK _ _ _ _ HR.o (vX bs) (by simp;omega)).m ?_;rintro e w1 ⟨Ax,cx,rfl,hx,hbl⟩;have HX:=al (ab hx hbl);clear hx hbl;go_wp2_with fail;go_ret
 exact⟨Ax,cx,by simp,HX.o.1,HX.o.2⟩
def dC(w:World)(F:Nat->Prop)(b:Nat)(all:List UInt8)(pos:Nat):Prop:=
 ∃v,w.heap[b]?=some (.cells #[v,.int .i64 pos] 256 (0,0))/\F b/\pos<=all.length/\w.ownsRow 0 5 1 v all.length (all.map B8)/\(∀g,v.ownBlock=some g->F g/\g≠b)
section
variable{w w':World}{F S:Nat->Prop}{b:Nat}{all:List UInt8}{pos:Nat}
theorem dC.only(h:dC w F b all pos)(ho:Only S w w')(hd: ∀k,F k-> ¬S k):dC w' F b all pos:=by obtain⟨v,h1,h2,h3,h4,h5⟩:=h;exact⟨v,ho.heap h1 (hd b h2),h2,h3,aT h4 ho (fun g hg=>hd g (h5 g hg).1),h5⟩
theorem dC.below(h:dC w F b all pos)(hb:Below w.heap.size w w'):dC w' F b all pos:=h.only (oj hb fun _=>False) (fun _ _=>id)
theorem dC.bound(h:dC w F b all pos):dC w (fun k=>F k/\k<w.heap.size) b all pos:=by obtain⟨v,h1,h2,h3,h4,h5⟩:=h;exact⟨v,h1,⟨h2,(bd.1 h1).1⟩,h3,h4,fun g hg=>⟨⟨(h5 g hg).1,(h4.lt g hg).2⟩,(h5 g hg).2⟩⟩
theorem dC.set(h:dC w F b all pos)(p':Nat)(hp:p'<=all.length):dC (w.setCell ⟨b,1,none⟩ (.int .i64 p')) F b all p':=by obtain⟨v,h1,h2,h3,h4,h5⟩:=h;refine⟨v,?_,h2,hp,aT h4 (Only.aN w b 1 _) (fun g hg e=>(h5 g hg).2 e),h5⟩;simp[World.setCell,Array.getElem?_modify,h1]
theorem dC.at_(h:dC w F b all pos): ∃A c,w.cell? ⟨b,0,none⟩=some (.slice A all.length c)/\w.cell? ⟨b,1,none⟩=some (.int .i64 pos)/\w.frozen? ⟨b,1,none⟩=false/\b<w.heap.size/\pos<=all.length/\all.length<=c/\c<=maxLen/\
  ∀i x,all[i]?=some x-> ∃g,A=some ⟨g,0,none⟩/\w.cell? ⟨g,i,none⟩=some (B8 x):=by
 obtain⟨v,h1,h2,h3,h4,h5⟩:=h;obtain⟨A,c,rfl⟩:=ag h4;obtain⟨A',n',c',he,hl,hc,hm,hx⟩:=Rd.aU (F:=fun _=>True) h4 (fun _ _=>trivial);injection he with e1 e2 e3;subst e1 e2 e3;refine⟨A,c,by simp[World.cell?,h1],by simp[World.cell?,h1],by simp[World.frozen?,h1],(bd.1 h1).1,h3,hc,hm,fun i x hi=>?_⟩;have hlt:=(b8.1 hi).1;obtain⟨g,cap,hv,_,_⟩:=h4.form (by omega);injection hv with e1 _ _;subst e1;refine⟨g,rfl,?_⟩;rw[h4.cellAt i (by omega)];simp[hi]
end
theorem oX{w w':World}{n:Nat}(h:w.drewN n=w'):Only (fun _=>False) w w':=by rw[<-h];exact(ox _ _).drewN _
def Ry(F:Nat->Prop)(b:Nat)(all:List UInt8)(pos:Nat)(w:World)(e:Ending)(w':World):Prop:=
 Only (fun k=>k=b) w w'/\match yH 0 0 (all.drop pos)with
  |some (n,rest)=>e=.returned (.tuple #[.int .u64 n,.int .i64 0])/\ ∃p',rest=all.drop p'/\pos<=p'/\dC w' F b all p'
  |none=>e=.returned (.tuple #[.int .u64 0,.int .i64 11])/\ ∃p',dC w' F b all p'
theorem or_val{acc d k:Nat}(hk:k<=9)(ha:acc<128^k)(hd:d*128^k<18446744073709551616):
  IntKind.u64.wrap ((d:Int)*2^(7*k))=((d*128^k:Nat):Int)/\bits .or .u64 (acc:Int) ((d*128^k:Nat):Int)=((acc+d*128^k:Nat):Int):=by
 have e:(2:Nat)^(7*k)=128^k:=by rw[Nat.pow_mul]
 have ei:((d:Int)*2^(7*k))=((d*128^k:Nat):Int):=by
  rw[<-e]
  push_cast
  rfl
 have ha2:acc<18446744073709551616:=by
  have:(128:Nat)^k<=128^9:=Nat.pow_le_pow_right (by decide) hk;have h9:(128:Nat)^9=9223372036854775808:=by decide
  omega
 constructor
 ·rw[ei,IntKind.wrap_u64];omega
 ·rw[u64_or_nat acc _ ha2 hd,Nat.or_comm,nat_join (7*k) (d*128^k) acc (by rw[e];exact Nat.mul_mod_left _ _) (by rw[e];exact ha),Nat.add_comm]
theorem Nj{all:List UInt8}{p k acc:Nat}{x:UInt8}(h:all[p]?=some x):yH k acc (all.drop p)=if k=9/\1<x.toNat then none else if 128<=x.toNat then yH (k+1) (acc+(x.toNat-128)*128^k) (all.drop (p+1))
  else if x.toNat=0/\0<k then none else some (acc+x.toNat*128^k,all.drop (p+1)):=by
 have hlt:=(b8.1 h).1;have hx:all[p]=x:=(b8.1 h).2;rw[List.drop_eq_getElem_cons hlt,hx];rfl
theorem F8(w:World)(F:Nat->Prop)(b:Nat)(all:List UInt8)(pos:Nat)(h:dC w F b all pos):
  Calls prog 193 #[.pointer (some ⟨b,0,none⟩)] w (Ry F b all pos w):=by
 have H:=al h;clear h;go_enter func193,ntmps193;go_wp2
 go_step3
 go_wp2
 go_step3
 go_wp2
 go_loopw [4,5] (fun n s wr=> ∃k acc:Nat,k<=9/\acc<128^k/\n=.int .u64 acc/\s=.int .i64 (7*k:Nat)/\yH 0 0 (all.drop pos)=yH k acc (all.drop (pos+k))/\dC wr F b all (pos+k)/\Only (fun j=>j=b) w wr)
  (fun _ s _=>(70-intOf s).toNat)
 case atStart=>exact⟨0,0,by omega,by simp,rfl,rfl,rfl,H.o,ox _ _⟩
 case round=>
  obtain⟨k,acc,hk,hacc,rfl,rfl,iB,hr,ho⟩:=hrel;have HR:=al (ab hr (ab iB (ab ho hacc)));obtain⟨A,c,hc0,hc1,F6,hb,hpl,hcl,hcm,hcells⟩:=hr.at_;have HC:=al hcells;unfold maxLen at hcm;clear hr iB ho hcells hacc;generalize hp:pos+k=p at *;have HP:=al hp;clear hp;by_cases hlt:p<all.length
  ·obtain⟨x,hx⟩: ∃x,all[p]?=some x:=⟨_,ao hlt⟩;obtain⟨g,rfl,Xk⟩:=HC.o p x hx;have i1:(0:Int)<=(p:Int):=by omega
   have i2:(p:Int)<(all.length:Int):=by omega
   have YF:wr.cell? ⟨g,p,none⟩=some (.int .u8 (x.toNat:Int)):=Xk;have HX:=al (ab (Nj (k:=k) (acc:=acc) hx) x.toNat_lt);clear hx Xk;generalize Rz:x.toNat=xn at *;clear Rz;have YG:xn<256:=HX.o.2;go_wp2;go_quiet(fail);obtain⟨w1,hw1⟩:=qt (wr.drewN nq);rw[hw1];have hq1:=oX hw1;have d0:=hq1.cell hc0 id;have d1:=hq1.cell hc1 id;have dx:=hq1.cell YF id;have dz:w1.frozen? ⟨b,1,none⟩=false:=by rw[<-hw1];exact F6
   clear hw1;go_wp2;go_quiet(fail);obtain⟨w2,hw2⟩:=qt (w1.drewN nq);rw[hw2];have hq2:=oX hw2;have f1:=hq2.cell d1 id;have fz:w2.frozen? ⟨b,1,none⟩=false:=by rw[<-hw2];exact dz
   have dY:Only (fun _=>False) wr w2:=hq1.x hq2 (fun _ _ h=>h);have hr2:=(HR.o.1.only dY (fun _ _=>id)).set (p+1) (by omega)
   have FN:Only (fun j=>j=b) w (w2.setCell ⟨b,1,none⟩ (.int .i64 ((p+1:Nat):Int))):=
    HR.o.d.1.x ((Only.mono (T:=fun j=>j=b) dY (fun _ _ h=>h.elim)).setCell (p:=⟨b,1,none⟩) (fun _=>rfl) _) (fun _ _ h=>h)
   have TZ:((p+1:Nat):Int)=(p:Int)+1:=by omega
   rw[TZ]at hr2 FN;have HS:=al (ab hr2 FN);clear hw2 hq1 hq2 d0 d1 dx dz hc0 hc1 YF F6 dY hr2 FN TZ;by_cases hA:k=9/\1<xn
   ·obtain⟨rfl,hA⟩:=hA;have hfin:yH 0 0 (all.drop pos)=none:=by rw[HR.o.2.1,HX.o.1,fi ⟨rfl,hA⟩]
    have tD:=al hfin;clear hfin;go_wp2
    try rw[kn]
    go_ret2
    refine⟨HS.o.2,?_⟩;rw[tD.o];exact⟨rfl,_,HS.o.1⟩
   ·by_cases hB:128<=xn
    ·have I9:k<9:=by omega
     have hd:bits .and .u8 (xn:Int) 127=((xn-128:Nat):Int):=by have:=u8_and_nat xn 127 YG (by decide);rw[show((127:Nat):Int)=127 from rfl]at this;rw[this];congr 1;have:=Nat.and_two_pow_sub_one_eq_mod xn 7;simp at this;rw[this];omega
     have hdk:(xn-128)*128^k<128^(k+1):=by rw[Nat.pow_succ,Nat.mul_comm (128^k) 128];exact Nat.mul_lt_mul_of_pos_right (by omega) (Nat.pow_pos (by decide))
     have h9:(128:Nat)^(k+1)<=9223372036854775808:=by
      have h1:(128:Nat)^(k+1)<=128^9:=Nat.pow_le_pow_right (by decide) (by omega);have h2:(128:Nat)^9=9223372036854775808:=by decide
      omega
     obtain⟨e3,e4⟩:=or_val (d:=xn-128) hk HR.o.t (by omega);have hfin:yH 0 0 (all.drop pos)=yH (k+1) (acc+(xn-128)*128^k) (all.drop (p+1)):=by rw[HR.o.2.1,HX.o.1,ff hA,fi hB]
     have T3:acc+(xn-128)*128^k<128^(k+1):=by
      have:=HR.o.t;have e1:(128:Nat)^(k+1)=128*128^k:=by rw[Nat.pow_succ,Nat.mul_comm]
      have e2:(xn-128)*128^k<=127*128^k:=ef _ (by omega);omega
     have e2:IntKind.u64.wrap ((xn-128:Nat):Int)=((xn-128:Nat):Int):=by rw[IntKind.wrap_u64];omega
     generalize (xn-128)*128^k=m at *;generalize YH:acc+m=acc' at *;have tD:=al (ab hfin T3);generalize xn-128=d at *;clear hfin T3 YH hdk h9;go_wp2;go_roundw
     case rel=>
      refine⟨k+1,acc',by omega,tD.o.2,rfl,by simp;omega,?_,?_,HS.o.2⟩
      ·rw[tD.o.1,<-HP.o,gR]
      ·rw[<-gR,HP.o];exact HS.o.1
     case measure=>simp[intOf];omega
    ·by_cases hC:xn=0/\0<k
     ·have hfin:yH 0 0 (all.drop pos)=none:=by rw[HR.o.2.1,HX.o.1,ff hA,ff hB,fi hC]
      obtain⟨rfl,eQ⟩:=hC;have tD:=al hfin;clear hfin;by_cases I9:k=9
      focus
       subst I9
      rotate_left
      all_goals
       go_wp2
       try rw[kn]
       go_ret2
       refine⟨HS.o.2,?_⟩;rw[tD.o];exact⟨rfl,_,HS.o.1⟩
     ·have hxk:xn*128^k<18446744073709551616:=by
       by_cases I9:k=9
       ·subst I9;have h2:(128:Nat)^9=9223372036854775808:=by decide
        rw[h2];omega
       ·have h1:(128:Nat)^(k+1)<=128^9:=Nat.pow_le_pow_right (by decide) (by omega);have h2:(128:Nat)^9=9223372036854775808:=by decide
        have e1:(128:Nat)^(k+1)=128*128^k:=by rw[Nat.pow_succ,Nat.mul_comm]
        have e2:xn*128^k<=127*128^k:=ef _ (by omega);omega
      obtain⟨e3,e4⟩:=or_val (d:=xn) hk HR.o.t hxk;have hfin:yH 0 0 (all.drop pos)=some (acc+xn*128^k,all.drop (p+1)):=by rw[HR.o.2.1,HX.o.1,ff hA,ff hB,ff hC]
      have tD:=al hfin;have HE:=al (ab e3 e4);clear hfin e3 e4 hxk;by_cases I9:k=9
      ·subst I9;have hx1:xn=1:=by omega
       subst hx1;have e5:bits .or .u64 (acc:Int) 9223372036854775808=((acc+1*128^9:Nat):Int):=HE.o.2;generalize acc+1*128^9=v at *;go_wp2
       try rw[kn]
       go_ret2
       refine⟨HS.o.2,?_⟩;rw[tD.o];exact⟨rfl,p+1,rfl,by have:=HP.o;omega,HS.o.1⟩
      ·by_cases hx0:xn=0
       ·obtain rfl:k=0:=by omega
        subst hx0;have ha:=HR.o.t;simp at ha;subst ha;have e5:bits .or .u64 0 0=0:=by decide
        go_wp2
        try rw[kn]
        go_ret2
        refine⟨HS.o.2,?_⟩;rw[tD.o];exact⟨by simp,p+1,rfl,by have:=HP.o;omega,HS.o.1⟩
       ·have e3:=HE.o.1;have e4:=HE.o.2;clear HE HX;generalize xn*128^k=m at *;generalize acc+m=v at *;go_wp2
        try rw[kn]
        go_ret2
        refine⟨HS.o.2,?_⟩;rw[tD.o];exact⟨rfl,p+1,rfl,by have:=HP.o;omega,HS.o.1⟩
  ·obtain rfl:p=all.length:=by omega
   have hfin:yH 0 0 (all.drop pos)=none:=by rw[HR.o.2.1];simp[yH]
   have tD:=al hfin;clear hfin;have i2:decide ((all.length:Int)<(all.length:Int))=false:=by simp
   go_wp2;go_quiet(fail);obtain⟨w1,hw1⟩:=qt (wr.drewN nq);rw[hw1];have hq1:=oX hw1;have hr1:=HR.o.1.only hq1 (fun _ _=>id);have jq:=HR.o.d.1.x hq1 (fun _ _ h=>h.elim);have HS:=al (ab hr1 jq);clear hw1 hr1 jq hq1;go_wp2
   try rw[kn]
   go_ret2
   refine⟨HS.o.2,?_⟩;rw[tD.o];exact⟨rfl,_,HS.o.1⟩
end Go.Proofs.YtmkofmeojbcakaaGreatDoor
