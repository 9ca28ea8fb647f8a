import Derived.Test.YtagemonojdgbdaaGreatDoorF08
import Derived.Test.YtagemonojdgbdaaGreatDoorF11
import Derived.Laws.BitsAllLaws
import Derived.Laws.BitsLemmas
import Derived.Lib.AppendStr
namespace Go.Proofs.YtagemonojdgbdaaGreatDoor
set_option maxRecDepth 100000
set_option maxHeartbeats 16000000
open Go.RowKit
def wH(w:World)(F:Nat->Prop)(b:Nat)(bs:List UInt8):Prop:=
 ∃v,w.heap[b]?=some (.cells #[v] 188 (0,0))/\F b/\w.ownsRow 0 5 1 v bs.length (bs.map B8)/\(∀g,v.ownBlock=some g->F g)
theorem sQ{wr w1:World}{row:Option Nat}{o1:Obj}(hgrow:(wr.alloc o1).grownBy w1 row):Only (fun k=>row=some k) wr w1:=
 ((oB _ wr).alloc o1).grown hgrow (fun _ hk _=>hk)
theorem F9{wr w1:World}{F':Nat->Prop}{b L m c cap:Nat}{A A':Option Addr}{cur news:List UInt8}(hblk:wr.heap[b]?=some (.cells #[.slice A L c] 188 (0,0)))
  (hn:cur.length=L) (hm:news.length=m) (hne:(Value.slice A L c).ownBlock≠some b) (UE: ∀g,(Value.slice A L c).ownBlock=some g->F' g) (qL:F' b)
  (hown1:w1.ownsRow 0 5 1 (.slice A' (L+m) cap) (L+m) (cur.map B8++news.map B8)) (hgrow:Only (fun k=>(Value.slice A L c).ownBlock=some k) wr w1)
  (hat: ∀g,(Value.slice A' (L+m) cap).ownBlock=some g->(Value.slice A L c).ownBlock=some g\/wr.heap.size<=g):
  wH (w1.setCell ⟨b,0,none⟩ (.slice A' (L+m) cap)) (fun k=>F' k\/wr.heap.size<=k) b (cur++news)/\Only F' wr (w1.setCell ⟨b,0,none⟩ (.slice A' (L+m) cap)):=by
 have hb1:=hgrow.heap hblk hne;refine⟨⟨.slice A' (L+m) cap,?_,.inl qL,?_,?_⟩,?_⟩
 ·simp[World.setCell,Array.getElem?_modify,hb1]
 ·have h:=bu hown1 (Only.bp w1 b 0 (.slice A' (L+m) cap)) (fun k hk e=>by subst e;exact eD hown1 hb1 (by decide) hk);subst hn hm;simpa using h
 ·intro k hk;rcases hat k hk with h|h
  ·exact .inl (UE _ h)
  ·exact .inr h
 ·exact(hgrow.mono (fun k _ h=>UE k h)).setCell (p:=⟨b,0,none⟩) (fun _=>qL) _
theorem xU(w:World)(F:Nat->Prop)(b:Nat)(bs:List UInt8)(h:wH w F b bs)(n:Nat)(hn:n<18446744073709551616)(hlen:bs.length<=1000000000):
  Calls Tryz.prog 123 #[.pointer (some ⟨b,0,none⟩),.int .u64 n] w fun e w'=>e=.returned (.tuple #[])/\Only F w w'/\ ∃F',wH w' F' b (bs++oL n)/\ ∀k,F' k->F k\/w.heap.size<=k:=by
 obtain⟨i0,hi,hz0,hz1,hz2⟩:=eC Tryz.Qp;have HN:=al hn;clear hn;go_enter Tryz.func123,Tryz.ntmps123;go_wp2_with fail
 go_loopw [1] (fun v wr=> ∃(m:Nat) (pre:List UInt8) (F':Nat->Prop),v=.int .u64 m/\m<=n/\oL n=pre++oL m/\pre.length<=9/\wH wr F' b (bs++pre)/\Only F w wr/\ ∀k,F' k->F k\/w.heap.size<=k)
   (fun v _=>(intOf v).toNat)
 case atStart=>exact⟨n,[],F,rfl,aq _,rfl,by simp,by simpa using h,oB _ _,fun k hk=>.inl hk⟩
 case round=>
  obtain⟨m,pre,F',rfl,hm,hl,hpl,hwr,ho,hF'⟩:=hrel;obtain⟨v,hblk,qL,hown,UE⟩:=hwr;have hL:(bs++pre).length<=1000000009:=by simp;omega
  have HB:=al (ab hl (ab UE (ab qL hF')));generalize wI:bs++pre=cur at *;have UF:=al wI;clear wI;generalize hn:cur.length=L at *;have HLn:=al hn;obtain⟨A,c,rfl⟩:=ah hown;have hne:(Value.slice A L c).ownBlock≠some b:=eD hown hblk (by decide);have hc:=bO hblk;have hf:=fq hblk;have hbs:=(da.1 hblk).1;have HW:=al (ab hblk (ab hown hne));clear hl hF' qL UE hn hblk hown hne;by_cases hge:128<=m
  ·have RA:m<18446744073709551616:=Nat.lt_of_le_of_lt hm HN.out;obtain⟨d,hd⟩: ∃d,m%128=d:=⟨_,rfl⟩;have hd2:d<128:=by omega
   have e1:bits .and .u64 (m:Int) 127=(d:Int):=by have:=u64_and_nat m 127 RA (by decide);rw[show((127:Nat):Int)=127 from rfl]at this;rw[this,<-hd];congr 1;exact Nat.and_two_pow_sub_one_eq_mod m 7
   have e2:(d:Int)%256=(d:Int):=by omega
   have e3:bits .or .u8 (d:Int) 128=((UInt8.ofNat (d+128)).toNat:Int):=by have:=u8_or_nat d 128 (by omega) (by decide);rw[show((128:Nat):Int)=128 from rfl]at this;rw[this,Nat.or_comm,nat_join 7 128 d (by decide) (by omega)];simp;omega
   have hy:oL m=UInt8.ofNat (d+128)::oL (m/128):=by rw[Rv hge RA,hd]
   generalize UInt8.ofNat (d+128)=y at *;have HD:=al hy;clear hd RA hy;have c1:L+1<=maxLen:=by simp only[maxLen];omega
   have c2:(L+1)*1<=140737488355328:=by omega
   have hown2:=HW.out.2.1.alloc (.cells #[B8 y] 5);have HC:=al (ab c1 (ab c2 hown2));clear c1 c2 hown2;go_wp2_with (at_builtin;refine ew _ rfl _ _ 118 rfl 0 5 i0 (.int .u8 0) 1 1 Tryz.underlying118 hi hz0 hz1 hz2 rfl (by decide) (.slice A L c) L (cur.map B8) rfl HC.out.2.2 ⟨wr.heap.size,0,none⟩ 1 1 [B8 y] rfl rfl (cell_one_new _ _ _) (by simp[B8,Value.oneCell']) (by decide) HC.out.1 HC.out.2.1 (dj _) (wr.heap.size+1) (by simp) ?_;intro g cap w1 hown1 hgrow hat hlt;have zm:=al ((sQ hgrow).heap HW.out.1 HW.out.2.2);have hc1:=bO zm.out;have xV:=fq zm.out);go_roundw
   case rel=>
    obtain⟨hw2,eo⟩:=F9 (m:=1) (news:=[y]) HW.out.1 HLn.out rfl HW.out.2.2 HB.out.2.1 HB.out.2.2.1 hown1 (sQ hgrow) (fun k hk=>by injection hk with hk;subst hk;exact hat.imp_right (fun h=>by show wr.heap.size<=g;omega));have hl2:oL n=(pre++[y])++oL (m/128):=by rw[HB.out.1,HD.out];simp
    refine⟨m/128,pre++[y],fun k=>F' k\/wr.heap.size<=k,by simp,by omega,hl2,?_,?_,ho.trans eo (fun i hi h=>?_),fun k hk=>?_⟩
    ·have h1:=ic n;have h2:=Oq (m/128);rw[hl2]at h1;simp at h1⊢;omega
    ·rw[<-lk,UF.out];exact hw2
    ·rcases HB.out.2.2.2 i h with h|h
     ·exact h
     ·omega
    ·rcases hk with h|h
     ·exact HB.out.2.2.2 k h
     ·exact .inr (by have:=ho.size;omega)
   case measure=>simp[intOf];omega
  ·have hlt:m<128:=by omega
   have hy:oL m=[UInt8.ofNat m]:=Ru hlt;have e1:Value.int .u8 (m:Int)=B8 (UInt8.ofNat m):=by simp[B8];omega
   have E1:=al e1;clear e1;generalize UInt8.ofNat m=y at E1 hy;have c1:L+1<=maxLen:=by simp only[maxLen];omega
   have c2:(L+1)*1<=140737488355328:=by omega
   have hown2:=HW.out.2.1.alloc (.cells #[.int .u8 (m:Int)] 5);have HC:=al (ab c1 (ab c2 hown2));have HD:=al hy;clear c1 c2 hown2 hy;go_wp2_with (at_builtin;refine ew _ rfl _ _ 118 rfl 0 5 i0 (.int .u8 0) 1 1 Tryz.underlying118 hi hz0 hz1 hz2 rfl (by decide) (.slice A L c) L (cur.map B8) rfl HC.out.2.2 ⟨wr.heap.size,0,none⟩ 1 1 [.int .u8 (m:Int)] rfl rfl (cell_one_new _ _ _) (by simp[Value.oneCell']) (by decide) HC.out.1 HC.out.2.1 (dj _) (wr.heap.size+1) (by simp) ?_;intro g cap w1 hown1 hgrow hat hlt;have zm:=al ((sQ hgrow).heap HW.out.1 HW.out.2.2);have hc1:=bO zm.out;have xV:=fq zm.out)
   go_end0
   rw[E1.out]at hown1;obtain⟨hw2,eo⟩:=F9 (m:=1) (news:=[y]) HW.out.1 HLn.out rfl HW.out.2.2 HB.out.2.1 HB.out.2.2.1 hown1 (sQ hgrow) (fun k hk=>by injection hk with hk;subst hk;exact hat.imp_right (fun h=>by show wr.heap.size<=g;omega));refine⟨rfl,ho.trans eo (fun i hi h=>?_),fun k=>F' k\/wr.heap.size<=k,?_,fun k hk=>?_⟩
   ·rcases HB.out.2.2.2 i h with h|h
    ·exact h
    ·omega
   ·rw[HB.out.1,HD.out,<-lk,UF.out];exact hw2
   ·rcases hk with h|h
    ·exact HB.out.2.2.2 k h
    ·exact .inr (by have:=ho.size;omega)
def RB(r:Int)(F:Nat->Prop)(b:Nat)(bs:List UInt8)(w:World)(e:Ending)(w':World):Prop:=
 e=.returned (.int .i64 r)/\Only F w w'/\ ∃F',wH w' F' b bs/\ ∀k,F' k->F k\/w.heap.size<=k
theorem Ik(w:World)(F:Nat->Prop)(b:Nat)(bs:List UInt8)(h:wH w F b bs)(hlen:bs.length<=1000000000):
  Calls Tryz.prog 82 #[.pointer (some ⟨b,0,none⟩)] w (KE 5 (bs.map B8) w):=by
 obtain⟨v,hblk,_,hown,_⟩:=h;obtain⟨A,c,rfl⟩:=ah hown;have hc:=bO hblk;have HR:=al (Rd.cP (F:=fun _=>True) hown (fun _ _=>trivial));clear hblk hown;go_enter Tryz.func82,Tryz.ntmps82;go_wp2_with fail;refine(rT _ _ _ _ HR.out (JY bs) (by simp;omega)).mono ?_;rintro e w1 ⟨Ax,cx,rfl,hx,hbl⟩;have HX:=al (ab hx hbl);clear hx hbl;go_wp2_with fail;go_ret
 exact⟨Ax,cx,by simp,HX.out.1,HX.out.2⟩
def cX(w:World)(F:Nat->Prop)(b:Nat)(all:List UInt8)(pos:Nat):Prop:=
 ∃v,w.heap[b]?=some (.cells #[v,.int .i64 pos] 274 (0,0))/\F b/\pos<=all.length/\w.ownsRow 0 5 1 v all.length (all.map B8)/\(∀g,v.ownBlock=some g->F g/\g≠b)
section
variable{w w':World}{F S:Nat->Prop}{b:Nat}{all:List UInt8}{pos:Nat}
theorem cX.only(h:cX w F b all pos)(ho:Only S w w')(hd: ∀k,F k-> ¬S k):cX w' F b all pos:=by obtain⟨v,h1,h2,h3,h4,h5⟩:=h;exact⟨v,ho.heap h1 (hd b h2),h2,h3,bu h4 ho (fun g hg=>hd g (h5 g hg).1),h5⟩
theorem cX.below(h:cX w F b all pos)(hb:Below w.heap.size w w'):cX w' F b all pos:=h.only (oy hb fun _=>False) (fun _ _=>id)
theorem cX.bound(h:cX w F b all pos):cX w (fun k=>F k/\k<w.heap.size) b all pos:=by obtain⟨v,h1,h2,h3,h4,h5⟩:=h;exact⟨v,h1,⟨h2,(da.1 h1).1⟩,h3,h4,fun g hg=>⟨⟨(h5 g hg).1,(h4.lt g hg).2⟩,(h5 g hg).2⟩⟩
theorem cX.set(h:cX w F b all pos)(p':Nat)(hp:p'<=all.length):cX (w.setCell ⟨b,1,none⟩ (.int .i64 p')) F b all p':=by obtain⟨v,h1,h2,h3,h4,h5⟩:=h;refine⟨v,?_,h2,hp,bu h4 (Only.bp w b 1 _) (fun g hg e=>(h5 g hg).2 e),h5⟩;simp[World.setCell,Array.getElem?_modify,h1]
theorem cX.at_(h:cX w F b all pos): ∃A c,w.cell? ⟨b,0,none⟩=some (.slice A all.length c)/\w.cell? ⟨b,1,none⟩=some (.int .i64 pos)/\w.frozen? ⟨b,1,none⟩=false/\b<w.heap.size/\pos<=all.length/\all.length<=c/\c<=maxLen/\
  ∀i x,all[i]?=some x-> ∃g,A=some ⟨g,0,none⟩/\w.cell? ⟨g,i,none⟩=some (B8 x):=by
 obtain⟨v,h1,h2,h3,h4,h5⟩:=h;obtain⟨A,c,rfl⟩:=ah h4;obtain⟨A',n',c',he,hl,hc,hm,hx⟩:=Rd.cP (F:=fun _=>True) h4 (fun _ _=>trivial);injection he with e1 e2 e3;subst e1 e2 e3;refine⟨A,c,by simp[World.cell?,h1],by simp[World.cell?,h1],by simp[World.frozen?,h1],(da.1 h1).1,h3,hc,hm,fun i x hi=>?_⟩;have hlt:=(b8.1 hi).1;obtain⟨g,cap,hv,_,_⟩:=h4.form (by omega);injection hv with e1 _ _;subst e1;refine⟨g,rfl,?_⟩;rw[h4.cellAt i (by omega)];simp[hi]
end
theorem mY{w w':World}{n:Nat}(h:w.drewN n=w'):Only (fun _=>False) w w':=by rw[<-h];exact(oB _ _).drewN _
def Oz(F:Nat->Prop)(b:Nat)(all:List UInt8)(pos:Nat)(w:World)(e:Ending)(w':World):Prop:=
 Only (fun k=>k=b) w w'/\match vM 0 0 (all.drop pos)with
  |some (n,rest)=>e=.returned (.tuple #[.int .u64 n,.int .i64 0])/\ ∃p',rest=all.drop p'/\pos<=p'/\cX w' F b all p'
  |none=>e=.returned (.tuple #[.int .u64 0,.int .i64 11])/\ ∃p',cX w' F b all p'
theorem or_val{acc d k:Nat}(hk:k<=9)(ha:acc<128^k)(hd:d*128^k<18446744073709551616):
  IntKind.u64.wrap ((d:Int)*2^(7*k))=((d*128^k:Nat):Int)/\bits .or .u64 (acc:Int) ((d*128^k:Nat):Int)=((acc+d*128^k:Nat):Int):=by
 have e:(2:Nat)^(7*k)=128^k:=by rw[Nat.pow_mul]
 have ei:((d:Int)*2^(7*k))=((d*128^k:Nat):Int):=by
  rw[<-e]
  push_cast
  rfl
 have ha2:acc<18446744073709551616:=by
  have:(128:Nat)^k<=128^9:=Nat.pow_le_pow_right (by decide) hk;have h9:(128:Nat)^9=9223372036854775808:=by decide
  omega
 constructor
 ·rw[ei,IntKind.wrap_u64];omega
 ·rw[u64_or_nat acc _ ha2 hd,Nat.or_comm,nat_join (7*k) (d*128^k) acc (by rw[e];exact Nat.mul_mod_left _ _) (by rw[e];exact ha),Nat.add_comm]
theorem KM{all:List UInt8}{p k acc:Nat}{x:UInt8}(h:all[p]?=some x):vM k acc (all.drop p)=if k=9/\1<x.toNat then none else if 128<=x.toNat then vM (k+1) (acc+(x.toNat-128)*128^k) (all.drop (p+1))
  else if x.toNat=0/\0<k then none else some (acc+x.toNat*128^k,all.drop (p+1)):=by
 have hlt:=(b8.1 h).1;have hx:all[p]=x:=(b8.1 h).2;rw[List.drop_eq_getElem_cons hlt,hx];rfl
theorem D2(w:World)(F:Nat->Prop)(b:Nat)(all:List UInt8)(pos:Nat)(h:cX w F b all pos):
  Calls Tryz.prog 208 #[.pointer (some ⟨b,0,none⟩)] w (Oz F b all pos w):=by
 have H:=al h;clear h;go_enter Tryz.func208,Tryz.ntmps208;go_wp2_with fail
 go_step3
 go_wp2_with fail
 go_step3
 go_wp2_with fail
 go_loopw [4,5] (fun n s wr=> ∃k acc:Nat,k<=9/\acc<128^k/\n=.int .u64 acc/\s=.int .i64 (7*k:Nat)/\vM 0 0 (all.drop pos)=vM k acc (all.drop (pos+k))/\cX wr F b all (pos+k)/\Only (fun j=>j=b) w wr)
  (fun _ s _=>(70-intOf s).toNat)
 case atStart=>exact⟨0,0,by omega,by simp,rfl,rfl,rfl,H.out,oB _ _⟩
 case round=>
  obtain⟨k,acc,hk,hacc,rfl,rfl,kj,hr,ho⟩:=hrel;have HR:=al (ab hr (ab kj (ab ho hacc)));obtain⟨A,c,hc0,hc1,xV,hb,hpl,hcl,hcm,hcells⟩:=hr.at_;have HC:=al hcells;unfold maxLen at hcm;clear hr kj ho hcells hacc;generalize hp:pos+k=p at *;have HP:=al hp;clear hp;by_cases hlt:p<all.length
  ·obtain⟨x,hx⟩: ∃x,all[p]?=some x:=⟨_,ao hlt⟩;obtain⟨g,rfl,Tz⟩:=HC.out p x hx;have i1:(0:Int)<=(p:Int):=by omega
   have i2:(p:Int)<(all.length:Int):=by omega
   have UG:wr.cell? ⟨g,p,none⟩=some (.int .u8 (x.toNat:Int)):=Tz;have HX:=al (ab (KM (k:=k) (acc:=acc) hx) x.toNat_lt);clear hx Tz;generalize OA:x.toNat=xn at *;clear OA;have UH:xn<256:=HX.out.2;go_wp2_with fail;go_quiet(fail);obtain⟨w1,hw1⟩: ∃w1,wr.drewN nq=w1:=⟨_,rfl⟩;rw[hw1];have hq1:=mY hw1;have d0:=hq1.cell hc0 id;have d1:=hq1.cell hc1 id;have dx:=hq1.cell UG id;have dz:w1.frozen? ⟨b,1,none⟩=false:=by rw[<-hw1];exact xV
   clear hw1;go_wp2_with fail;go_quiet(fail);obtain⟨w2,hw2⟩: ∃w2,w1.drewN nq=w2:=⟨_,rfl⟩;rw[hw2];have hq2:=mY hw2;have f1:=hq2.cell d1 id;have fz:w2.frozen? ⟨b,1,none⟩=false:=by rw[<-hw2];exact dz
   have eo:Only (fun _=>False) wr w2:=hq1.trans hq2 (fun _ _ h=>h);have hr2:=(HR.out.1.only eo (fun _ _=>id)).set (p+1) (by omega)
   have DT:Only (fun j=>j=b) w (w2.setCell ⟨b,1,none⟩ (.int .i64 ((p+1:Nat):Int))):=
    HR.out.2.2.1.trans ((Only.mono (T:=fun j=>j=b) eo (fun _ _ h=>h.elim)).setCell (p:=⟨b,1,none⟩) (fun _=>rfl) _) (fun _ _ h=>h)
   have Qq:((p+1:Nat):Int)=(p:Int)+1:=by omega
   rw[Qq]at hr2 DT;have HS:=al (ab hr2 DT);clear hw2 hq1 hq2 d0 d1 dx dz hc0 hc1 UG xV eo hr2 DT Qq;by_cases hA:k=9/\1<xn
   ·obtain⟨rfl,hA⟩:=hA;have hfin:vM 0 0 (all.drop pos)=none:=by rw[HR.out.2.1,HX.out.1,fi ⟨rfl,hA⟩]
    have rp:=al hfin;clear hfin;go_wp2_with fail
    try rw[lp]
    go_ret2
    refine⟨HS.out.2,?_⟩;rw[rp.out];exact⟨rfl,_,HS.out.1⟩
   ·by_cases hB:128<=xn
    ·have F7:k<9:=by omega
     have hd:bits .and .u8 (xn:Int) 127=((xn-128:Nat):Int):=by have:=u8_and_nat xn 127 UH (by decide);rw[show((127:Nat):Int)=127 from rfl]at this;rw[this];congr 1;have:=Nat.and_two_pow_sub_one_eq_mod xn 7;simp at this;rw[this];omega
     have hdk:(xn-128)*128^k<128^(k+1):=by rw[Nat.pow_succ,Nat.mul_comm (128^k) 128];exact Nat.mul_lt_mul_of_pos_right (by omega) (Nat.pow_pos (by decide))
     have h9:(128:Nat)^(k+1)<=9223372036854775808:=by
      have h1:(128:Nat)^(k+1)<=128^9:=Nat.pow_le_pow_right (by decide) (by omega);have h2:(128:Nat)^9=9223372036854775808:=by decide
      omega
     obtain⟨e3,e4⟩:=or_val (d:=xn-128) hk HR.out.2.2.2 (by omega);have hfin:vM 0 0 (all.drop pos)=vM (k+1) (acc+(xn-128)*128^k) (all.drop (p+1)):=by rw[HR.out.2.1,HX.out.1,ff hA,fi hB]
     have Qr:acc+(xn-128)*128^k<128^(k+1):=by
      have:=HR.out.2.2.2;have e1:(128:Nat)^(k+1)=128*128^k:=by rw[Nat.pow_succ,Nat.mul_comm]
      have e2:(xn-128)*128^k<=127*128^k:=eb _ (by omega);omega
     have e2:IntKind.u64.wrap ((xn-128:Nat):Int)=((xn-128:Nat):Int):=by rw[IntKind.wrap_u64];omega
     generalize (xn-128)*128^k=m at *;generalize UI:acc+m=acc' at *;have rp:=al (ab hfin Qr);generalize xn-128=d at *;clear hfin Qr UI hdk h9;go_wp2_with fail;go_roundw
     case rel=>
      refine⟨k+1,acc',by omega,rp.out.2,rfl,by simp;omega,?_,?_,HS.out.2⟩
      ·rw[rp.out.1,<-HP.out,gO]
      ·rw[<-gO,HP.out];exact HS.out.1
     case measure=>simp[intOf];omega
    ·by_cases hC:xn=0/\0<k
     ·have hfin:vM 0 0 (all.drop pos)=none:=by rw[HR.out.2.1,HX.out.1,ff hA,ff hB,fi hC]
      obtain⟨rfl,dX⟩:=hC;have rp:=al hfin;clear hfin;by_cases F7:k=9
      ·subst F7;go_wp2_with fail
       try rw[lp]
       go_ret2
       refine⟨HS.out.2,?_⟩;rw[rp.out];exact⟨rfl,_,HS.out.1⟩
      ·go_wp2_with fail
       try rw[lp]
       go_ret2
       refine⟨HS.out.2,?_⟩;rw[rp.out];exact⟨rfl,_,HS.out.1⟩
     ·have hxk:xn*128^k<18446744073709551616:=by
       by_cases F7:k=9
       ·subst F7;have h2:(128:Nat)^9=9223372036854775808:=by decide
        rw[h2];omega
       ·have h1:(128:Nat)^(k+1)<=128^9:=Nat.pow_le_pow_right (by decide) (by omega);have h2:(128:Nat)^9=9223372036854775808:=by decide
        have e1:(128:Nat)^(k+1)=128*128^k:=by rw[Nat.pow_succ,Nat.mul_comm]
        have e2:xn*128^k<=127*128^k:=eb _ (by omega);omega
      obtain⟨e3,e4⟩:=or_val (d:=xn) hk HR.out.2.2.2 hxk;have hfin:vM 0 0 (all.drop pos)=some (acc+xn*128^k,all.drop (p+1)):=by rw[HR.out.2.1,HX.out.1,ff hA,ff hB,ff hC]
      have rp:=al hfin;have HE:=al (ab e3 e4);clear hfin e3 e4 hxk;by_cases F7:k=9
      ·subst F7;have hx1:xn=1:=by omega
       subst hx1;have e5:bits .or .u64 (acc:Int) 9223372036854775808=((acc+1*128^9:Nat):Int):=HE.out.2;generalize acc+1*128^9=v at *;go_wp2_with fail
       try rw[lp]
       go_ret2
       refine⟨HS.out.2,?_⟩;rw[rp.out];exact⟨rfl,p+1,rfl,by have:=HP.out;omega,HS.out.1⟩
      ·by_cases hx0:xn=0
       ·obtain rfl:k=0:=by omega
        subst hx0;have ha:=HR.out.2.2.2;simp at ha;subst ha;have e5:bits .or .u64 0 0=0:=by decide
        go_wp2_with fail
        try rw[lp]
        go_ret2
        refine⟨HS.out.2,?_⟩;rw[rp.out];exact⟨by simp,p+1,rfl,by have:=HP.out;omega,HS.out.1⟩
       ·have e3:=HE.out.1;have e4:=HE.out.2;clear HE HX;generalize xn*128^k=m at *;generalize acc+m=v at *;go_wp2_with fail
        try rw[lp]
        go_ret2
        refine⟨HS.out.2,?_⟩;rw[rp.out];exact⟨rfl,p+1,rfl,by have:=HP.out;omega,HS.out.1⟩
  ·obtain rfl:p=all.length:=by omega
   have hfin:vM 0 0 (all.drop pos)=none:=by rw[HR.out.2.1];simp[vM]
   have rp:=al hfin;clear hfin;have i2:decide ((all.length:Int)<(all.length:Int))=false:=by simp
   go_wp2_with fail;go_quiet(fail);obtain⟨w1,hw1⟩: ∃w1,wr.drewN nq=w1:=⟨_,rfl⟩;rw[hw1];have hq1:=mY hw1;have hr1:=HR.out.1.only hq1 (fun _ _=>id);have vO:=HR.out.2.2.1.trans hq1 (fun _ _ h=>h.elim);have HS:=al (ab hr1 vO);clear hw1 hr1 vO hq1;go_wp2_with fail
   try rw[lp]
   go_ret2
   refine⟨HS.out.2,?_⟩;rw[rp.out];exact⟨rfl,_,HS.out.1⟩
end Go.Proofs.YtagemonojdgbdaaGreatDoor
