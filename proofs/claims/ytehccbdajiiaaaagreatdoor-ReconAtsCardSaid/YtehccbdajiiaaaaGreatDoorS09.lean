import Derived.Test.YtehccbdajiiaaaaGreatDoorS07
import Derived.Test.YtehccbdajiiaaaaGreatDoorS08
import Derived.Laws.BitsAllLaws
import Derived.Laws.BitsLemmas
import Derived.Lib.AppendStr
import Derived.Lib.BufferRead
import Derived.WalkSmall
namespace Go.Proofs.YtehccbdajiiaaaaGreatDoor
open Go.Proofs.Tryz
set_option maxRecDepth 100000
set_option maxHeartbeats 16000000
open Go.RowKit
def zP(w:World)(F:Nat->Prop)(b:Nat)(a:List UInt8):Prop:=
 ∃v,w.heap[b]?=some (.cells #[v] 281 (0,0))/\F b/\w.ownsRow 0 5 1 v a.length (a.map B8)/\(∀g,v.ownBlock=some g->F g)
theorem vM{a w1:World}{b:Option Nat}{c:Obj}(d:(a.alloc c).grownBy w1 b):Only (fun k=>b=some k) a w1:=
 ((oE _ a).alloc c).grown d (fun _ a _=>a)
theorem Kk{e w1:World}{f:Nat->Prop}{b L m c a:Nat}{A d:Option Addr}{g news:List UInt8}(o:e.heap[b]?=some (.cells #[.slice A L c] 281 (0,0)))
  (r:g.length=L) (s:news.length=m) (q:(Value.slice A L c).ownBlock≠some b) (l: ∀h,(Value.slice A L c).ownBlock=some h->f h) (n:f b)
  (i:w1.ownsRow 0 5 1 (.slice d (L+m) a) (L+m) (g.map B8++news.map B8)) (j:Only (fun k=>(Value.slice A L c).ownBlock=some k) e w1)
  (p: ∀h,(Value.slice d (L+m) a).ownBlock=some h->(Value.slice A L c).ownBlock=some h\/e.heap.size<=h):
  zP (w1.setCell ⟨b,0,none⟩ (.slice d (L+m) a)) (fun k=>f k\/e.heap.size<=k) b (g++news)/\Only f e (w1.setCell ⟨b,0,none⟩ (.slice d (L+m) a)):=by
 have e:=j.heap o q;refine⟨⟨.slice d (L+m) a,?_,.inl n,?_,?_⟩,?_⟩
 ·simp[World.setCell,Array.getElem?_modify,e]
 ·have h:=aJ i (Only.aR w1 b 0 (.slice d (L+m) a)) (fun k a d=>by subst d;exact cD i e (by decide) a);subst r s;simpa using h
 ·intro k a;rcases p k a with h|h
  ·exact .inl (l _ h)
  ·exact .inr h
 ·exact(j.m (fun k _ h=>l k h)).setCell (p:=⟨b,0,none⟩) (fun _=>n) _
theorem Bk(w:World)(F:Nat->Prop)(b:Nat)(bs:List UInt8)(h:zP w F b bs)(n:Nat)(hn:n<18446744073709551616)(hlen:bs.length<=1000000000):
  Calls prog 222 #[rv b,.int .u64 n] w fun e w'=>e=.returned (.tuple #[])/\Only F w w'/\ ∃F',zP w' F' b (bs++oV n)/\ ∀k,F' k->F k\/w.heap.size<=k:=by
 obtain⟨i0,hi,hz0,hz1,hz2⟩:=eh Tryz.OT;have HN:=al hn;clear hn;go_enter func222,ntmps222;go_wp2
 go_loopw [1] (fun v wr=> ∃(m:Nat) (pre:List UInt8) (F':Nat->Prop),v=.int .u64 m/\m<=n/\oV n=pre++oV m/\pre.length<=9/\zP wr F' b (bs++pre)/\Only F w wr/\ ∀k,F' k->F k\/w.heap.size<=k)
   (fun v _=>(intOf v).toNat)
 case atStart=>exact⟨n,[],F,rfl,b8 _,rfl,by simp,by simpa using h,oE _ _,fun k hk=>.inl hk⟩
 case round=>
  obtain⟨m,pre,F',rfl,hm,hl,hpl,hwr,ho,hF'⟩:=hrel;obtain⟨v,hblk,uA,hown,hFv⟩:=hwr;have hL:(bs++pre).length<=1000000009:=by simp;omega
  have HB:=AI hl hFv uA hF';generalize zQ:bs++pre=cur at *;have aao:=al zQ;clear zQ;generalize hn:cur.length=L at *;have HLn:=al hn;obtain⟨A,c,rfl⟩:=ai hown;have hne:(Value.slice A L c).ownBlock≠some b:=cD hown hblk (by decide);have hc:=aL hblk;have hf:=bL hblk;have hbs:=(cq.1 hblk).1;have HW:=AF hblk hown hne;clear hl hF' uA hFv hn hblk hown hne;by_cases hge:128<=m
  ·have Xq:m<18446744073709551616:=Nat.lt_of_le_of_lt hm HN.o;obtain⟨d,hd⟩:=rk (m%128);have hd2:d<128:=by omega
   have e1:bits .and .u64 (m:Int) 127=(d:Int):=by have:=u64_and_nat m 127 Xq (by decide);rw[show((127:Nat):Int)=127 from rfl]at this;rw[this,<-hd];congr 1;exact Nat.and_two_pow_sub_one_eq_mod m 7
   have e2:(d:Int)%256=(d:Int):=by omega
   have e3:bits .or .u8 (d:Int) 128=((UInt8.ofNat (d+128)).toNat:Int):=by have:=u8_or_nat d 128 (by omega) (by decide);rw[show((128:Nat):Int)=128 from rfl]at this;rw[this,Nat.or_comm,nat_join 7 128 d (by decide) (by omega)];simp;omega
   have hy:oV m=UInt8.ofNat (d+128)::oV (m/128):=by rw[Xn hge Xq,hd]
   generalize UInt8.ofNat (d+128)=y at *;have HD:=al hy;clear hd Xq hy;have c1:L+1<=maxLen:=by simp only[maxLen];omega
   have c2:(L+1)*1<=140737488355328:=by omega
   have hown2:=HW.o.2.1.alloc (.cells #[B8 y] 5);have HC:=AF c1 c2 hown2;clear c1 c2 hown2;go_wp2_with (at_builtin;refine et _ rfl _ _ 53 rfl 0 5 i0 (.int .u8 0) 1 1 underlying53 hi hz0 hz1 hz2 rfl (by decide) (.slice A L c) L (cur.map B8) rfl HC.o.d ⟨wr.heap.size,0,none⟩ 1 1 [B8 y] rfl rfl (cell_one_new _ _ _) (by simp[B8,Value.oneCell']) (by decide) HC.o.1 HC.o.2.1 (dq _) (wr.heap.size+1) (by simp) ?_;intro g cap w1 hown1 hgrow hat hlt;have Kl:=al ((vM hgrow).heap HW.o.1 HW.o.d);have hc1:=aL Kl.o;have vN:=bL Kl.o);go_roundw
   case rel=>
    obtain⟨hw2,cj⟩:=Kk (m:=1) (news:=[y]) HW.o.1 HLn.o rfl HW.o.d HB.o.2.1 HB.o.d.1 hown1 (vM hgrow) (fun k hk=>by injection hk with hk;subst hk;exact hat.imp_right (fun h=>by show wr.heap.size<=g;omega));have hl2:oV n=(pre++[y])++oV (m/128):=by rw[HB.o.1,HD.o];simp
    refine⟨m/128,pre++[y],fun k=>F' k\/wr.heap.size<=k,by simp,by omega,hl2,?_,?_,ho.x cj (fun i hi h=>?_),fun k hk=>?_⟩
    ·have h1:=jc n;have h2:=Tj (m/128);rw[hl2]at h1;simp at h1⊢;omega
    ·rw[<-kh,aao.o];exact hw2
    ·rcases HB.o.t i h with h|h
     ·exact h
     ·omega
    ·rcases hk with h|h
     ·exact HB.o.t k h
     ·exact .inr (by have:=ho.size;omega)
   case measure=>simp[intOf];omega
  ·have hlt:m<128:=by omega
   have hy:oV m=[UInt8.ofNat m]:=Xm hlt;have e1:Value.int .u8 (m:Int)=B8 (UInt8.ofNat m):=by simp[B8];omega
   have E1:=al e1;clear e1;generalize UInt8.ofNat m=y at E1 hy;have c1:L+1<=maxLen:=by simp only[maxLen];omega
   have c2:(L+1)*1<=140737488355328:=by omega
   have hown2:=HW.o.2.1.alloc (.cells #[.int .u8 (m:Int)] 5);have HC:=AF c1 c2 hown2;have HD:=al hy;clear c1 c2 hown2 hy;go_wp2_with (at_builtin;refine et _ rfl _ _ 53 rfl 0 5 i0 (.int .u8 0) 1 1 underlying53 hi hz0 hz1 hz2 rfl (by decide) (.slice A L c) L (cur.map B8) rfl HC.o.d ⟨wr.heap.size,0,none⟩ 1 1 [.int .u8 (m:Int)] rfl rfl (cell_one_new _ _ _) (by simp[Value.oneCell']) (by decide) HC.o.1 HC.o.2.1 (dq _) (wr.heap.size+1) (by simp) ?_;intro g cap w1 hown1 hgrow hat hlt;have Kl:=al ((vM hgrow).heap HW.o.1 HW.o.d);have hc1:=aL Kl.o;have vN:=bL Kl.o)
   go_end0
   rw[E1.o]at hown1;obtain⟨hw2,cj⟩:=Kk (m:=1) (news:=[y]) HW.o.1 HLn.o rfl HW.o.d HB.o.2.1 HB.o.d.1 hown1 (vM hgrow) (fun k hk=>by injection hk with hk;subst hk;exact hat.imp_right (fun h=>by show wr.heap.size<=g;omega));refine⟨rfl,ho.x cj (fun i hi h=>?_),fun k=>F' k\/wr.heap.size<=k,?_,fun k hk=>?_⟩
   ·rcases HB.o.t i h with h|h
    ·exact h
    ·omega
   ·rw[HB.o.1,HD.o,<-kh,aao.o];exact hw2
   ·rcases hk with h|h
    ·exact HB.o.t k h
    ·exact .inr (by have:=ho.size;omega)
def Xr(r:Int)(F:Nat->Prop)(b:Nat)(c:List UInt8)(w:World)(e:Ending)(w':World):Prop:=
 e=.returned (rm r)/\Only F w w'/\ ∃a,zP w' a b c/\ ∀k,a k->F k\/w.heap.size<=k
theorem L5(w:World)(F:Nat->Prop)(b:Nat)(a:List UInt8)(l:zP w F b a)(i:a.length<=1000000000):
  Calls prog 180 #[rv b] w (Ki 5 (a.map B8) w):=by
 obtain⟨v,d,_,c,_⟩:=l;obtain⟨A,m,rfl⟩:=ai c;have k:=aL d;have f:=al (Rd.bO (F:=fun _=>True) c (fun _ _=>trivial));clear d c;go_enter func180,ntmps180;go_wp2_with fail;refine(jz _ _ _ _ f.o (tz a) (by simp;omega)).m ?_;rintro n j ⟨g,h,rfl,d,c⟩;have e:=AD d c;clear d c;go_wp2_with fail;go_ret
 exact⟨g,h,by simp,e.o.1,e.o.2⟩
def bt(w:World)(F:Nat->Prop)(b:Nat)(all:List UInt8)(pos:Nat):Prop:=
 ∃v,w.heap[b]?=some (.cells #[v,rm pos] 201 (0,0))/\F b/\pos<=all.length/\w.ownsRow 0 5 1 v all.length (all.map B8)/\(∀g,v.ownBlock=some g->F g/\g≠b)
section
variable{w w':World}{F S:Nat->Prop}{b:Nat}{all:List UInt8}{pos:Nat}
theorem bt.only(i:bt w F b all pos)(e:Only S w w')(a: ∀k,F k-> ¬S k):bt w' F b all pos:=by obtain⟨v,h,c,g,f,d⟩:=i;exact⟨v,e.heap h (a b c),c,g,aJ f e (fun g c=>a g (d g c).1),d⟩
theorem bt.below(h:bt w F b all pos)(a:Below w.heap.size w w'):bt w' F b all pos:=h.only (oB a fun _=>False) (fun _ _=>id)
theorem bt.bound(h:bt w F b all pos):bt w (fun k=>F k/\k<w.heap.size) b all pos:=by obtain⟨v,a,e,f,c,d⟩:=h;exact⟨v,a,⟨e,(cq.1 a).1⟩,f,c,fun g a=>⟨⟨(d g a).1,(c.lt g a).2⟩,(d g a).2⟩⟩
theorem bt.set(h:bt w F b all pos)(a:Nat)(e:a<=all.length):bt (w.setCell ⟨b,1,none⟩ (rm a)) F b all a:=by obtain⟨v,f,c,g,d,a⟩:=h;refine⟨v,?_,c,e,aJ d (Only.aR w b 1 _) (fun g c e=>(a g c).2 e),a⟩;simp[World.setCell,Array.getElem?_modify,f]
theorem bt.at_(h:bt w F b all pos): ∃A c,w.cell? ⟨b,0,none⟩=some (.slice A all.length c)/\w.cell? ⟨b,1,none⟩=some (rm pos)/\w.frozen? ⟨b,1,none⟩=false/\b<w.heap.size/\pos<=all.length/\all.length<=c/\c<=maxLen/\
  ∀i x,all[i]?=some x-> ∃g,A=some ⟨g,0,none⟩/\w.cell? ⟨g,i,none⟩=some (B8 x):=by
 obtain⟨v,h1,h2,h3,h4,h5⟩:=h;obtain⟨A,c,rfl⟩:=ai h4;obtain⟨A',n',c',he,hl,hc,hm,hx⟩:=Rd.bO (F:=fun _=>True) h4 (fun _ _=>trivial);injection he with e1 e2 e3;subst e1 e2 e3;refine⟨A,c,by simp[World.cell?,h1],by simp[World.cell?,h1],by simp[World.frozen?,h1],(cq.1 h1).1,h3,hc,hm,fun i x hi=>?_⟩;have hlt:=(aw.1 hi).1;obtain⟨g,cap,hv,_,_⟩:=h4.form (by omega);injection hv with e1 _ _;subst e1;refine⟨g,rfl,?_⟩;rw[h4.cellAt i (by omega)];simp[hi]
end
theorem mg{w w':World}{n:Nat}(h:w.drewN n=w'):Only (fun _=>False) w w':=by rw[<-h];exact(oE _ _).drewN _
def Tu(F:Nat->Prop)(b:Nat)(all:List UInt8)(pos:Nat)(w:World)(e:Ending)(w':World):Prop:=
 Only (fun k=>k=b) w w'/\match uy 0 0 (all.drop pos)with
  |some (n,rest)=>e=.returned (.tuple #[.int .u64 n,rm 0])/\ ∃a,rest=all.drop a/\pos<=a/\bt w' F b all a
  |none=>e=.returned (.tuple #[.int .u64 0,rm 11])/\ ∃a,bt w' F b all a
theorem or_val{acc d k:Nat}(c:k<=9)(e:acc<128^k)(b:d*128^k<18446744073709551616):
  IntKind.u64.wrap ((d:Int)*2^(7*k))=((d*128^k:Nat):Int)/\bits .or .u64 (acc:Int) ((d*128^k:Nat):Int)=((acc+d*128^k:Nat):Int):=by
 have g:(2:Nat)^(7*k)=128^k:=by rw[Nat.pow_mul]
 have f:((d:Int)*2^(7*k))=((d*128^k:Nat):Int):=by
  rw[<-g]
  push_cast
  rfl
 have a:acc<18446744073709551616:=by
  have:(128:Nat)^k<=128^9:=Nat.pow_le_pow_right (by decide) c;have c:(128:Nat)^9=9223372036854775808:=by decide
  omega
 constructor
 ·rw[f,IntKind.wrap_u64];omega
 ·rw[u64_or_nat acc _ a b,Nat.or_comm,nat_join (7*k) (d*128^k) acc (by rw[g];exact Nat.mul_mod_left _ _) (by rw[g];exact e),Nat.add_comm]
theorem OY{all:List UInt8}{p k acc:Nat}{x:UInt8}(h:all[p]?=some x):uy k acc (all.drop p)=if k=9/\1<x.toNat then none else if 128<=x.toNat then uy (k+1) (acc+(x.toNat-128)*128^k) (all.drop (p+1))
  else if x.toNat=0/\0<k then none else some (acc+x.toNat*128^k,all.drop (p+1)):=by
 have a:=(aw.1 h).1;have b:all[p]=x:=(aw.1 h).2;rw[List.drop_eq_getElem_cons a,b];rfl
theorem xI(w:World)(F:Nat->Prop)(b:Nat)(all:List UInt8)(pos:Nat)(h:bt w F b all pos):
  Calls prog 194 #[rv b] w (Tu F b all pos w):=by
 have H:=al h;clear h;go_enter func194,ntmps194;go_wp2
 go_step3
 go_wp2
 go_step3
 go_wp2
 go_loopw [4,5] (fun n s wr=> ∃k acc:Nat,k<=9/\acc<128^k/\n=.int .u64 acc/\s=rm (7*k:Nat)/\uy 0 0 (all.drop pos)=uy k acc (all.drop (pos+k))/\bt wr F b all (pos+k)/\Only (fun j=>j=b) w wr)
  (fun _ s _=>(70-intOf s).toNat)
 case atStart=>exact⟨0,0,by omega,by simp,rfl,rfl,rfl,H.o,oE _ _⟩
 case round=>
  obtain⟨k,acc,hk,hacc,rfl,rfl,fF,hr,ho⟩:=hrel;have HR:=AI hr fF ho hacc;obtain⟨A,c,hc0,hc1,vN,hb,hpl,hcl,hcm,hcells⟩:=hr.at_;have HC:=al hcells;unfold maxLen at hcm;clear hr fF ho hcells hacc;generalize hp:pos+k=p at *;have HP:=al hp;clear hp;by_cases hlt:p<all.length
  ·obtain⟨x,hx⟩: ∃x,all[p]?=some x:=⟨_,ao hlt⟩;obtain⟨g,rfl,ZO⟩:=HC.o p x hx;have i1:(0:Int)<=(p:Int):=by omega
   have i2:(p:Int)<(all.length:Int):=by omega
   have aap:wr.cell? ⟨g,p,none⟩=some (.int .u8 (x.toNat:Int)):=ZO;have HX:=AD (OY (k:=k) (acc:=acc) hx) x.toNat_lt;clear hx ZO;generalize Tv:x.toNat=xn at *;clear Tv;have aaq:xn<256:=HX.o.2;go_wp2;go_quiet(fail);obtain⟨w1,hw1⟩:=rk (wr.drewN nq);rw[hw1];have hq1:=mg hw1;have d0:=hq1.cell hc0 id;have d1:=hq1.cell hc1 id;have dx:=hq1.cell aap id;have dz:w1.frozen? ⟨b,1,none⟩=false:=by rw[<-hw1];exact vN
   clear hw1;go_wp2;go_quiet(fail);obtain⟨w2,hw2⟩:=rk (w1.drewN nq);rw[hw2];have hq2:=mg hw2;have f1:=hq2.cell d1 id;have fz:w2.frozen? ⟨b,1,none⟩=false:=by rw[<-hw2];exact dz
   have cj:Only (fun _=>False) wr w2:=hq1.x hq2 (fun _ _ h=>h);have hr2:=(HR.o.1.only cj (fun _ _=>id)).set (p+1) (by omega)
   have Hz:Only (fun j=>j=b) w (w2.setCell ⟨b,1,none⟩ (rm ((p+1:Nat):Int))):=
    HR.o.d.1.x ((Only.mono (T:=fun j=>j=b) cj (fun _ _ h=>h.elim)).setCell (p:=⟨b,1,none⟩) (fun _=>rfl) _) (fun _ _ h=>h)
   have EO:((p+1:Nat):Int)=(p:Int)+1:=by omega
   rw[EO]at hr2 Hz;have HS:=AD hr2 Hz;clear hw2 hq1 hq2 d0 d1 dx dz hc0 hc1 aap vN cj hr2 Hz EO;by_cases hA:k=9/\1<xn
   ·obtain⟨rfl,hA⟩:=hA;have hfin:uy 0 0 (all.drop pos)=none:=by rw[HR.o.2.1,HX.o.1,ff ⟨rfl,hA⟩]
    have tL:=al hfin;clear hfin;go_wp2
    try rw[gx]
    go_ret2
    refine⟨HS.o.2,?_⟩;rw[tL.o];exact⟨rfl,_,HS.o.1⟩
   ·by_cases hB:128<=xn
    ·have Kg:k<9:=by omega
     have hd:bits .and .u8 (xn:Int) 127=((xn-128:Nat):Int):=by have:=u8_and_nat xn 127 aaq (by decide);rw[show((127:Nat):Int)=127 from rfl]at this;rw[this];congr 1;have:=Nat.and_two_pow_sub_one_eq_mod xn 7;simp at this;rw[this];omega
     have hdk:(xn-128)*128^k<128^(k+1):=by rw[Nat.pow_succ,Nat.mul_comm (128^k) 128];exact Nat.mul_lt_mul_of_pos_right (by omega) (Nat.pow_pos (by decide))
     have h9:(128:Nat)^(k+1)<=9223372036854775808:=by
      have h1:(128:Nat)^(k+1)<=128^9:=Nat.pow_le_pow_right (by decide) (by omega);have h2:(128:Nat)^9=9223372036854775808:=by decide
      omega
     obtain⟨e3,e4⟩:=or_val (d:=xn-128) hk HR.o.t (by omega);have hfin:uy 0 0 (all.drop pos)=uy (k+1) (acc+(xn-128)*128^k) (all.drop (p+1)):=by rw[HR.o.2.1,HX.o.1,fb hA,ff hB]
     have VK:acc+(xn-128)*128^k<128^(k+1):=by
      have:=HR.o.t;have e1:(128:Nat)^(k+1)=128*128^k:=by rw[Nat.pow_succ,Nat.mul_comm]
      have e2:(xn-128)*128^k<=127*128^k:=ea _ (by omega);omega
     have e2:IntKind.u64.wrap ((xn-128:Nat):Int)=((xn-128:Nat):Int):=by rw[IntKind.wrap_u64];omega
     generalize (xn-128)*128^k=m at *;generalize aar:acc+m=acc' at *;have tL:=AD hfin VK;generalize xn-128=d at *;clear hfin VK aar hdk h9;go_wp2;go_roundw
     case rel=>
      refine⟨k+1,acc',by omega,tL.o.2,rfl,by simp;omega,?_,?_,HS.o.2⟩
      ·rw[tL.o.1,<-HP.o,gC]
      ·rw[<-gC,HP.o];exact HS.o.1
     case measure=>simp[intOf];omega
    ·by_cases hC:xn=0/\0<k
     ·have hfin:uy 0 0 (all.drop pos)=none:=by rw[HR.o.2.1,HX.o.1,fb hA,fb hB,ff hC]
      obtain⟨rfl,dN⟩:=hC;have tL:=al hfin;clear hfin;by_cases Kg:k=9
      focus
       subst Kg
      rotate_left
      all_goals
       go_wp2
       try rw[gx]
       go_ret2
       refine⟨HS.o.2,?_⟩;rw[tL.o];exact⟨rfl,_,HS.o.1⟩
     ·have hxk:xn*128^k<18446744073709551616:=by
       by_cases Kg:k=9
       ·subst Kg;have h2:(128:Nat)^9=9223372036854775808:=by decide
        rw[h2];omega
       ·have h1:(128:Nat)^(k+1)<=128^9:=Nat.pow_le_pow_right (by decide) (by omega);have h2:(128:Nat)^9=9223372036854775808:=by decide
        have e1:(128:Nat)^(k+1)=128*128^k:=by rw[Nat.pow_succ,Nat.mul_comm]
        have e2:xn*128^k<=127*128^k:=ea _ (by omega);omega
      obtain⟨e3,e4⟩:=or_val (d:=xn) hk HR.o.t hxk;have hfin:uy 0 0 (all.drop pos)=some (acc+xn*128^k,all.drop (p+1)):=by rw[HR.o.2.1,HX.o.1,fb hA,fb hB,fb hC]
      have tL:=al hfin;have HE:=AD e3 e4;clear hfin e3 e4 hxk;by_cases Kg:k=9
      ·subst Kg;have hx1:xn=1:=by omega
       subst hx1;have e5:bits .or .u64 (acc:Int) 9223372036854775808=((acc+1*128^9:Nat):Int):=HE.o.2;generalize acc+1*128^9=v at *;go_wp2
       try rw[gx]
       go_ret2
       refine⟨HS.o.2,?_⟩;rw[tL.o];exact⟨rfl,p+1,rfl,by have:=HP.o;omega,HS.o.1⟩
      ·by_cases hx0:xn=0
       ·obtain rfl:k=0:=by omega
        subst hx0;have ha:=HR.o.t;simp at ha;subst ha;have e5:bits .or .u64 0 0=0:=by decide
        go_wp2
        try rw[gx]
        go_ret2
        refine⟨HS.o.2,?_⟩;rw[tL.o];exact⟨by simp,p+1,rfl,by have:=HP.o;omega,HS.o.1⟩
       ·have e3:=HE.o.1;have e4:=HE.o.2;clear HE HX;generalize xn*128^k=m at *;generalize acc+m=v at *;go_wp2
        try rw[gx]
        go_ret2
        refine⟨HS.o.2,?_⟩;rw[tL.o];exact⟨rfl,p+1,rfl,by have:=HP.o;omega,HS.o.1⟩
  ·obtain rfl:p=all.length:=by omega
   have hfin:uy 0 0 (all.drop pos)=none:=by rw[HR.o.2.1];simp[uy]
   have tL:=al hfin;clear hfin;have i2:decide ((all.length:Int)<(all.length:Int))=false:=by simp
   go_wp2;go_quiet(fail);obtain⟨w1,hw1⟩:=rk (wr.drewN nq);rw[hw1];have hq1:=mg hw1;have hr1:=HR.o.1.only hq1 (fun _ _=>id);have je:=HR.o.d.1.x hq1 (fun _ _ h=>h.elim);have HS:=AD hr1 je;clear hw1 hr1 je hq1;go_wp2
   try rw[gx]
   go_ret2
   refine⟨HS.o.2,?_⟩;rw[tL.o];exact⟨rfl,_,HS.o.1⟩
def acq(F:Nat->Prop)(b:Nat)(all:List UInt8)(pos:Nat)(w:World)(e:Ending)(w':World):Prop:=
 Only (fun k=>k=b) w w'/\match CE (all.drop pos)with
  |some (n,rest)=>e=.returned (.tuple #[rm n,rm 0])/\ ∃a,rest=all.drop a/\pos<=a/\bt w' F b all a
  |none=>(∃c:Int,(c=10\/c=11)/\e=.returned (.tuple #[rm 0,rm c]))/\ ∃a,bt w' F b all a
theorem uB(w:World)(F:Nat->Prop)(b:Nat)(all:List UInt8)(pos:Nat)(h:bt w F b all pos):
  Calls prog 150 #[rv b] w (acq F b all pos w):=by
 have H:=al h;clear h;go_enter func150,ntmps150;go_wp2_with fail;refine(xI w F b all pos H.o).m ?_;rintro m l ⟨h,f⟩
 cases hg:uy 0 0 (all.drop pos)with
 |none=>
  rw[hg]at f;obtain⟨rfl,e,d⟩:=f;have a:CE (all.drop pos)=none:=by simp[CE,hg]
  have c:=al a;clear a hg;go_wp2_with fail
  go_ret2
  refine⟨h,?_⟩;rw[c.o];exact⟨⟨11,.inr rfl,rfl⟩,e,d⟩
 |some x=>
  obtain⟨n,j⟩:=x;rw[hg]at f;obtain⟨rfl,e,g,k,d⟩:=f;by_cases i:n<=9223372036854775807
  ·have a:CE (all.drop pos)=some (n,j):=by simp[CE,hg,i]
   have c:=AD a g;clear a hg g;go_wp2_with fail
   go_ret2
   refine⟨h,?_⟩;rw[c.o.1];exact⟨rfl,e,c.o.2,k,d⟩
  ·have a:CE (all.drop pos)=none:=by simp[CE,hg,i]
   have c:=al a;clear a hg g;go_wp2_with fail
   go_ret2
   refine⟨h,?_⟩;rw[c.o];exact⟨⟨10,.inl rfl,rfl⟩,e,d⟩
theorem CL(w:World)(F:Nat->Prop)(b:Nat)(all:List UInt8)(pos a:Nat)(h:bt w F b all pos)(f:a<=all.length):
  Calls prog 193 #[.agg #[rv b,rm a]] w fun e w'=>e=.returned (.tuple #[])/\Only (fun k=>k=b) w w'/\bt w' F b all a:=by
 have H:=al h;obtain⟨A,o,e,c,d,g,m,n,j,_⟩:=h.at_;have l:=aI c (.cells #[rv b,rm a] 295);have i:(w.alloc (.cells #[rv b,rm a] 295)).frozen? ⟨b,1,none⟩=false:=(World.frozen?_of_block (Below.heap_alloc w _ b g)).x d;clear h e c d;go_enter func193,ntmps193;go_wp2
 go_end0
 refine⟨rfl,?_,?_⟩
 ·exact(Only.setCell (oE (fun k=>k=b) w) (p:=⟨b,1,none⟩) (fun _=>rfl) _).alloc _
 ·exact(H.o.set a f).below ((bd _ _).alloc (b8 _) _)
def VL(F:Nat->Prop)(b:Nat)(all:List UInt8)(pos:Nat)(w:World)(e:Ending)(w':World):Prop:=
 Only (fun k=>k=b) w w'/\match CE (all.drop pos)with
  |some (n,rest)=>e=.returned (.tuple #[rm n,rm 0])/\ ∃a,rest=all.drop a/\pos<=a/\bt w' F b all a
  |none=>(∃a:Int,(a=10\/a=11)/\e=.returned (.tuple #[rm 0,rm a]))/\bt w' F b all pos
theorem OZ(w:World)(F:Nat->Prop)(b:Nat)(all:List UInt8)(pos:Nat)(l:bt w F b all pos):
  Calls prog 149 #[rv b,.func (.func 150) #[rv b] #[]] w (VL F b all pos w):=by
 have H:=al l;obtain⟨A,v,a,q,c,s,m,r,o,_⟩:=l.at_;clear l a c;go_enter func149,ntmps149;go_wp2_with fail;refine(uB w F b all pos H.o).m ?_;rintro u n ⟨d,c⟩
 cases hg:CE (all.drop pos)with
 |none=>
  rw[hg]at c;obtain⟨⟨k,j,rfl⟩,f,e⟩:=c;have a:=AD hg d;have p:(k !=0)=true:=by rcases j with rfl|rfl<;>rfl
  clear hg d;go_wp2_with fail;refine(CL n F b all f pos e m).m ?_;rintro u t ⟨rfl,h,g⟩;have i:=AD h g;clear h g;go_wp2_with fail
  go_ret2
  refine⟨a.o.2.x i.o.1 (fun _ _ l=>l),?_⟩;rw[a.o.1];exact⟨⟨k,j,rfl⟩,i.o.2⟩
 |some x=>
  obtain⟨j,i⟩:=x;rw[hg]at c;obtain⟨rfl,f,g,h,e⟩:=c;have a:=AF hg d g;clear hg d g;go_wp2_with fail
  go_ret2
  refine⟨a.o.2.1,?_⟩;rw[a.o.1];exact⟨rfl,f,a.o.d,h,e⟩
theorem Tw(w:World)(F:Nat->Prop)(b:Nat)(all:List UInt8)(pos:Nat)(h:bt w F b all pos):
  Calls prog 86 #[rv b] w (VL F b all pos w):=by
 have H:=al h;clear h;go_enter func86,ntmps86;go_wp2_with fail;refine(OZ w F b all pos H.o).m ?_;rintro j g d;have c:=al d;obtain⟨i,a⟩:=d
 cases hg:CE (all.drop pos)with
 |none=>
  rw[hg]at a;obtain⟨⟨e,h,rfl⟩,f⟩:=a;clear hg;go_wp2_with fail
  go_ret2
  exact c.o
 |some x=>
  obtain⟨n,e⟩:=x;rw[hg]at a;obtain⟨rfl,_⟩:=a;clear hg;go_wp2_with fail
  go_ret2
  exact c.o
theorem Km(w:World)(F:Nat->Prop)(b:Nat)(all:List UInt8)(pos:Nat)(h:bt w F b all pos):
  Calls prog 95 #[rv b] w fun e w'=>e=.returned (rm ((all.length-pos:Nat):Int))/\Only (fun _=>False) w w':=by
 obtain⟨A,j,d,c,i,g,e,f,a,_⟩:=h.at_;unfold maxLen at a;clear h;go_enter func95,ntmps95;go_wp2;go_quiet(fail);go_wp2;go_ret
 exact⟨by simp;omega,(oE _ _).drewN _⟩
theorem Xt{w:World}{F:Nat->Prop}{A:Option Addr}{n c:Nat}{xs:List Value}(k:Rd w F (.slice A n c) xs)(l m:Nat)(a:l+m<=n):
  Rd w F (.slice (if c=l then A else A.map (·.add (l*1))) m (c-l)) ((xs.drop l).take m):=by
 obtain⟨f,j,h,a,i,g,e,d⟩:=k;injection a with a e f;subst a e f;refine⟨_,m,c-l,rfl,by simp;omega,by omega,by omega,fun a=>?_⟩;obtain⟨b,o,f,a,e⟩:=d (by omega);subst f;rw[fb (by omega)];refine⟨b,o+l,?_,a,fun j u a=>?_⟩
 ·simp[Addr.add]
 ·rw[lP]at a;split at a
  ·rw[mw]at a;have:=e (l+j) u a;rw[gC];exact this
  ·cases a
theorem vO{P:Program}{w:World}{F:Nat->Prop}{A:Option Addr}{n c:Nat}{xs:List UInt8}(src dst e:TypeId)(hs:P.underlying src=some (.slice e))(he:P.underlying e=some (.int .u8))(hd:P.underlying dst=some .string)
  (h:Rd w F (.slice A n c) (xs.map B8)):(convert src dst (.slice A n c)).run P w=.ok (r7 xs) w:=by
 have hcells:=h.cells rfl;obtain⟨A',n',c',hv,hl,hc,hm,hx⟩:=h;injection hv with e1 e2 e3;subst e1 e2 e3;simp only[fa]at hl;subst hl;rcases A with _|a
 ·have:xs=[]:=by
   rcases Nat.eq_zero_or_pos xs.length with h0|h0
   ·exact de h0
   ·obtain⟨_,_,h,_⟩:=hx h0;cases h
  subst this;exact Lib.run_convert_nil_bytes w src dst e c hs he hd
 ·exact run_convert_bytes_back w src dst e a c xs hs he hd (fun j hj=>hcells a rfl j _ (by simp[hj,B8]))
theorem O0{P:Program}(t e:TypeId)(g:P.underlying t=some (.slice e))(b: ∀w,(sizeOf e).run P w=.ok 1 w)(A:Option Addr)(a c l h:Nat)(d:l<=h)(f:h<=c)(w:World):
  (Instr.slice t (.slice A a c) (some (rm (l:Int))) (some (rm (h:Int))) none).run P w=.ok (.slice (if c=l then A else A.map (·.add (l*1))) (h-l) (c-l)) w:=by
 simp[Instr.slice,run_underlying g,Instr.sliceBounds,run_sliceBound,d,f,b]
theorem bt.rd{w:World}{F:Nat->Prop}{b:Nat}{all:List UInt8}{pos:Nat}(h:bt w F b all pos): ∃A d,w.cell? ⟨b,0,none⟩=some (.slice A all.length d)/\Rd w (fun _=>True) (.slice A all.length d) (all.map B8):=by obtain⟨v,c,e,g,a,f⟩:=h;obtain⟨A,d,rfl⟩:=ai a;exact⟨A,d,by simp[World.cell?,c],Rd.bO a (fun _ _=>trivial)⟩
def O1(most:Nat)(F:Nat->Prop)(b:Nat)(all:List UInt8)(pos:Nat)(d:Bool)(w:World)(e:Ending)(w':World):Prop:=
 Only (fun k=>k=b) w w'/\match Hk most (all.drop pos)with
  |some (t,rest)=>e=.returned (.tuple #[r7 t,rm 0])/\ ∃a,rest=all.drop a/\pos<=a/\bt w' F b all a
  |none=>(∃c:Int,(c=10\/c=11\/c=23)/\e=.returned (.tuple #[.string ⟨#[]⟩,rm c]))/\ ∃a,(d=true->a=pos)/\bt w' F b all a
theorem O2(w:World)(F:Nat->Prop)(b:Nat)(all:List UInt8)(pos most:Nat)(h:bt w F b all pos)(Y:most<=65536):
  Calls prog 153 #[.agg #[rv b,rm most]] w (O1 most F b all pos false w):=by
 have e:=an w (tk b most);have c:Only (fun o=>o=b) w (w.alloc (tk b most)):=(oE _ _).alloc _;have d:=h.below ((bd w.heap.size w).alloc (b8 _) (tk b most));obtain⟨_,_,_,_,_,U,_⟩:=h.at_;have a:=AF e c d;clear e c d h;go_enter func153,ntmps153;go_wp2_with fail;generalize w.alloc (tk b most)=c at *;refine(uB c F b all pos a.o.d).m ?_;rintro e j ⟨c,s⟩;have H:w.heap.size≠b:=by omega
 have i:j.heap[w.heap.size]?=some (tk b most):=c.heap a.o.1 H;have d:Only (fun o=>o=b) w j:=a.o.2.1.x c (fun _ _ h=>h);have B:j.cell? ⟨w.heap.size,0,none⟩=some (rv b):=by simp[World.cell?,i]
 have u:j.cell? ⟨w.heap.size,1,none⟩=some (rm most):=by simp[World.cell?,i]
 have v:=AD i d;clear c i d a
 cases hg:CE (all.drop pos)with
 |none=>
  rw[hg]at s;obtain⟨⟨k,d,rfl⟩,a,g⟩:=s;have c:Hk most (all.drop pos)=none:=by simp[Hk,hg]
  have f:=al c;have l:(k !=0)=true:=by rcases d with rfl|rfl<;>rfl
  clear hg c;go_wp2_with fail
  go_ret2
  refine⟨v.o.2,?_⟩;rw[f.o];exact⟨⟨k,d.imp_right .inl,rfl⟩,a,(fun h=>by cases h),g⟩
 |some x=>
  obtain⟨n,E⟩:=x;rw[hg]at s;obtain⟨rfl,a,p,Hj,g⟩:=s;have P:=(vL hg).2;have f:=AD hg p;clear hg;by_cases S:n<=most
  ·obtain⟨M,N,r,t,C,i,Q,R,I,_⟩:=g.at_;have O:E.length=all.length-a:=by rw[p];simp
   unfold maxLen at I;clear p;go_wp2_with fail;refine(Km j F b all a g).m ?_;rintro e l ⟨rfl,d⟩;have q:((all.length-a:Nat):Int)=(all.length:Int)-(a:Int):=by omega
   rw[q];have D:=d.cell B id;have L:=d.cell u id;have z:=d.cell r id;have A:=d.cell t id;have m:=g.only d (fun _ _=>id)
   have y:l.frozen? ⟨b,1,none⟩=false:=by obtain⟨_,_,_,_,K,_⟩:=m.at_;exact K
   have x:Only (fun o=>o=b) w l:=v.o.2.x d (fun _ _ h=>h.elim);have k:=AD m x;clear q d m x B u r t C;by_cases T:n<=all.length-a
   ·have G:=k.o.1.rd;obtain⟨V,W,q,u⟩:=G;rw[z]at q;injection q with q;injection q with d _ m;subst d m;have m:=Xt u a n (by omega);have t:=O0 (P:=prog) 53 5 underlying53 (fun _=>by kernel_rfl) M all.length N a (a+n) (by omega) (by omega);rw[show a+n-a=n by omega]at t;have r:(all.map B8).drop a=((all.drop a).map B8):=by simp
    rw[r,<-mc]at m;generalize (if N=a then M else M.map (·.add (a*1)))=d at *;generalize N-a=x at *
    have J: ∀o,(convert 53 9 (.slice d n x)).run prog (l.drewN o)=.ok (r7 ((all.drop a).take n)) (l.drewN o):=fun o=>vO 53 9 5 underlying53 underlying5 underlying9 (m.drewN o)
    have c:Hk most (all.drop pos)=some ((all.drop a).take n,all.drop (a+n)):=by simp only[Hk,f.o.1];rw[ff (by omega),f.o.2];simp
    have d:=al c;generalize (all.drop a).take n=x at *;have B:((a+n:Nat):Int)=(a:Int)+(n:Int):=by omega
    rw[B]at t;clear c m u r;go_wp2_with fail;go_quiet(fail);obtain⟨C,r⟩:=rk (l.drewN nq);rw[r];have m:=mg r;have X:=m.cell D id;have Z:=m.cell A id;have xz:C.frozen? ⟨b,1,none⟩=false:=by rw[<-r];exact y
    have u:=(k.o.1.only m (fun _ _=>id)).set (a+n) (by omega);have x:Only (fun o=>o=b) w (C.setCell ⟨b,1,none⟩ (rm ((a+n:Nat):Int))):=Only.setCell (k.o.2.x m (fun _ _ h=>h.elim)) (p:=⟨b,1,none⟩) (fun _=>rfl) _;rw[B]at u x;have o:=AD u x;clear u x r J t D L z A y m;go_wp2_with fail
    go_ret2
    refine⟨o.o.2,?_⟩;rw[d.o];exact⟨rfl,a+n,rfl,by omega,o.o.1⟩
   ·have c:Hk most (all.drop pos)=none:=by
     simp only[Hk,f.o.1];rw[fb (by omega)]
    have d:=al c;clear c;go_wp2_with fail
    go_ret2
    refine⟨k.o.2,?_⟩;rw[d.o];exact⟨⟨11,.inr (.inl rfl),rfl⟩,a,(fun h=>by cases h),k.o.1⟩
  ·have c:Hk most (all.drop pos)=none:=by
    simp only[Hk,f.o.1];rw[fb (by omega)]
   have d:=al c;clear c p;go_wp2_with fail
   go_ret2
   refine⟨v.o.2,?_⟩;rw[d.o];exact⟨⟨23,.inr (.inr rfl),rfl⟩,a,(fun h=>by cases h),g⟩
theorem O3(w:World)(F:Nat->Prop)(b:Nat)(all:List UInt8)(pos most:Nat)(l:bt w F b all pos)(o:most<=65536):
  Calls prog 152 #[rv b,.func (.func 153) #[.agg #[rv b,rm most]] #[]] w (O1 most F b all pos true w):=by
 have H:=al l;obtain⟨A,y,a,r,c,t,m,s,p,_⟩:=l.at_;clear l a c;go_enter func152,ntmps152;go_wp2_with fail;refine(O2 w F b all pos most H.o o).m ?_;rintro v n ⟨d,c⟩
 cases hg:Hk most (all.drop pos)with
 |none=>
  rw[hg]at c;obtain⟨⟨k,j,rfl⟩,f,_,e⟩:=c;have a:=AD hg d;have q:(k !=0)=true:=by rcases j with rfl|rfl|rfl<;>rfl
  clear hg d;go_wp2_with fail;refine(CL n F b all f pos e m).m ?_;rintro v u ⟨rfl,h,g⟩;have i:=AD h g;clear h g;go_wp2_with fail
  go_ret2
  refine⟨a.o.2.x i.o.1 (fun _ _ l=>l),?_⟩;rw[a.o.1];exact⟨⟨k,j,rfl⟩,pos,fun _=>rfl,i.o.2⟩
 |some x=>
  obtain⟨j,i⟩:=x;rw[hg]at c;obtain⟨rfl,f,g,h,e⟩:=c;have a:=AF hg d g;clear hg d g;go_wp2_with fail
  go_ret2
  refine⟨a.o.2.1,?_⟩;rw[a.o.1];exact⟨rfl,f,a.o.d,h,e⟩
theorem Tx(w:World)(F:Nat->Prop)(b:Nat)(all:List UInt8)(pos most:Nat)(h:bt w F b all pos)(e:most<=65536):
  Calls prog 94 #[rv b,rm most] w (O1 most F b all pos true w):=by
 have H:=al h;clear h;go_enter func94,ntmps94;go_wp2_with fail;refine(O3 w F b all pos most H.o e).m ?_;rintro k h d;have c:=al d;obtain⟨j,a⟩:=d
 cases hg:Hk most (all.drop pos)with
 |none=>
  rw[hg]at a;obtain⟨⟨f,i,rfl⟩,g⟩:=a;clear hg;go_wp2_with fail
  go_ret2
  exact c.o
 |some x=>
  obtain⟨n,f⟩:=x;rw[hg]at a;obtain⟨rfl,_⟩:=a;clear hg;go_wp2_with fail
  go_ret2
  exact c.o
theorem Kn(w:World)(F:Nat->Prop)(v:Value)(all:List UInt8)(a:Rd w F v (all.map B8))(i:all.length<=140737488355328):
  Calls prog 58 #[v] w fun j w'=> ∃b,j=.returned (rv b)/\Below w.heap.size w w'/\bt w' (fun k=>w.heap.size<=k) b all 0:=by
 obtain⟨A,n,k,rfl,_⟩:=id a;have f:=al a;clear a;go_enter func58,ntmps58;go_wp2_with fail;refine(jz _ _ F _ f.o (tz all) (by simpa using i)).m ?_;rintro j e ⟨g,h,rfl,c,d⟩;rw[fa]at c⊢;have a:=AD c d;clear c d;go_wp2_with fail;go_ret
 have c:=a.o.2.size;refine⟨e.heap.size,rfl,a.o.2.alloc c _,.slice g all.length h,an _ _,c,dq _,dI (a.o.1.alloc _) (fun _ _=>dq _),fun g c=>⟨(a.o.1.lt g c).1,?_⟩⟩;have:=(a.o.1.lt g c).2;omega
def qx(n:Int):Nat:=if n<0 then 2*(-1-n).toNat+1 else 2*n.toNat
def O4(n:Nat):Int:=if n%2=1 then -1-((n/2:Nat):Int)else((n/2:Nat):Int)
theorem Ty(n:Int):O4 (qx n)=n:=by unfold O4 qx;split<;>split<;>omega
theorem O6{n:Int}(a: -9223372036854775808<=n)(a:n<=9223372036854775807):qx n<18446744073709551616:=by unfold qx;split<;>omega
def mR(a:List UInt8):Option (Int×List UInt8):=(uy 0 0 a).map fun x=>(O4 x.1,x.2)
theorem Xu(w:World)(F:Nat->Prop)(b:Nat)(a:List UInt8)(h:zP w F b a)(n:Int)(j: -9223372036854775808<=n)(i:n<=9223372036854775807)(e:a.length<=1000000000):
  Calls prog 179 #[rv b,rm n] w (Xr 0 F b (a++oV (qx n)) w):=by
 have H:=al h;have d:=O6 j i;clear h;by_cases f:n<0
 focus
  have c:=Bk w F b a H.o (qx n) d e;have l:((qx n:Nat):Int)=2*(-1-n)+1:=by unfold qx;rw[ff f];omega
 rotate_left
 focus
  have c:=Bk w F b a H.o (qx n) d e;have l:((qx n:Nat):Int)=2*n:=by unfold qx;rw[fb f];omega
 all_goals
  rw[l]at c;have g:=al c;clear c d l;go_enter func179,ntmps179;go_wp2_with fail;refine g.o.m ?_;rintro l m ⟨rfl,k,d,h,c⟩;go_wp2_with fail;go_ret
  exact⟨rfl,k,d,h,c⟩
def acs(F:Nat->Prop)(b:Nat)(all:List UInt8)(pos:Nat)(w:World)(e:Ending)(w':World):Prop:=
 Only (fun k=>k=b) w w'/\match mR (all.drop pos)with
  |some (n,rest)=>e=.returned (.tuple #[rm n,rm 0])/\ ∃a,rest=all.drop a/\pos<=a/\bt w' F b all a
  |none=>e=.returned (.tuple #[rm 0,rm 11])/\ ∃a,bt w' F b all a
theorem L6(w:World)(F:Nat->Prop)(b:Nat)(all:List UInt8)(pos:Nat)(h:bt w F b all pos):
  Calls prog 151 #[rv b] w (acs F b all pos w):=by
 have H:=al h;clear h;go_enter func151,ntmps151;go_wp2_with fail;refine(xI w F b all pos H.o).m ?_;rintro r m ⟨g,c⟩
 cases hg:uy 0 0 (all.drop pos)with
 |none=>
  rw[hg]at c;obtain⟨rfl,f,e⟩:=c;have a:=al (show mR (all.drop pos)=none by simp[mR,hg]);clear hg;go_wp2_with fail
  go_ret2
  refine⟨g,?_⟩;rw[a.o];exact⟨rfl,f,e⟩
 |some x=>
  obtain⟨n,i⟩:=x;rw[hg]at c;obtain⟨rfl,f,d,j,e⟩:=c
  have o:n<18446744073709551616:=by obtain⟨q,c,_,k,_⟩:=CD _ 0 0 n i (by omega) hg;simp at c k;omega
  have a:=AD (show mR (all.drop pos)=some (O4 n,i) by simp[mR,hg]) d;have p:=and_one_u64 (n:Int) (by omega) (by omega);clear hg d;by_cases d:n%2=1
  ·have l:(n:Int)%2=1:=by omega
   have h:=al (show O4 n= -1-(n:Int)/2 by unfold O4;rw[ff d];omega);clear d;go_wp2_with fail
   go_ret2
   refine⟨g,?_⟩;rw[a.o.1];refine⟨?_,f,a.o.2,j,e⟩;rw[h.o];rfl
  ·have l:((n:Int)%2==1)=false:=by simp;omega
   have h:=al (show O4 n=(n:Int)/2 by unfold O4;rw[fb d];omega);clear d;go_wp2_with fail
   go_ret2
   refine⟨g,?_⟩;rw[a.o.1];refine⟨?_,f,a.o.2,j,e⟩;rw[h.o];rfl
def aat(F:Nat->Prop)(b:Nat)(all:List UInt8)(pos:Nat)(w:World)(e:Ending)(w':World):Prop:=
 Only (fun k=>k=b) w w'/\match mR (all.drop pos)with
  |some (n,rest)=>e=.returned (.tuple #[rm n,rm 0])/\ ∃a,rest=all.drop a/\pos<=a/\bt w' F b all a
  |none=>e=.returned (.tuple #[rm 0,rm 11])/\bt w' F b all pos
theorem O7(w:World)(F:Nat->Prop)(b:Nat)(all:List UInt8)(pos:Nat)(j:bt w F b all pos):
  Calls prog 149 #[rv b,.func (.func 151) #[rv b] #[]] w (aat F b all pos w):=by
 have H:=al j;obtain⟨A,s,a,n,c,p,k,o,m,_⟩:=j.at_;clear j a c;go_enter func149,ntmps149;go_wp2_with fail;refine(L6 w F b all pos H.o).m ?_;rintro r l ⟨d,c⟩
 cases hg:mR (all.drop pos)with
 |none=>
  rw[hg]at c;obtain⟨rfl,f,e⟩:=c;have a:=AD hg d;clear hg d;go_wp2_with fail;refine(CL l F b all f pos e k).m ?_;rintro r q ⟨rfl,h,g⟩;have i:=AD h g;clear h g;go_wp2_with fail
  go_ret2
  refine⟨a.o.2.x i.o.1 (fun _ _ j=>j),?_⟩;rw[a.o.1];exact⟨rfl,i.o.2⟩
 |some x=>
  obtain⟨q,i⟩:=x;rw[hg]at c;obtain⟨rfl,f,g,h,e⟩:=c;have a:=AF hg d g;clear hg d g;go_wp2_with fail
  go_ret2
  refine⟨a.o.2.1,?_⟩;rw[a.o.1];exact⟨rfl,f,a.o.d,h,e⟩
theorem O8(w:World)(F:Nat->Prop)(b:Nat)(all:List UInt8)(pos:Nat)(h:bt w F b all pos):
  Calls prog 87 #[rv b] w (aat F b all pos w):=by
 have H:=al h;clear h;go_enter func87,ntmps87;go_wp2_with fail;refine(O7 w F b all pos H.o).m ?_;rintro h f d;have c:=al d;obtain⟨g,a⟩:=d
 cases hg:mR (all.drop pos)with
 |none=>
  rw[hg]at a;obtain⟨rfl,e⟩:=a;clear hg;go_wp2_with fail
  go_ret2
  exact c.o
 |some x=>
  obtain⟨n,e⟩:=x;rw[hg]at a;obtain⟨rfl,_⟩:=a;clear hg;go_wp2_with fail
  go_ret2
  exact c.o
def dO(r:Rw):List UInt8:=oV (qx r.a)++oV (qx r.b)++oV (qx r.c)++oV (qx r.d)
theorem oY(r:Rw):(dO r).length<=40:=by have a:=jc (qx r.a);have a:=jc (qx r.b);have a:=jc (qx r.c);have a:=jc (qx r.d);unfold dO;simp only[gr];omega
def iM{α:Type}(f:Nat->α)(i:Nat)(v:α):Nat->α:=fun j=>if j=i then v else f j
theorem fq{α:Type}(f:Nat->α)(i:Nat)(v:α):iM f i v i=v:=ff rfl
theorem ft{α:Type}(f:Nat->α){i j:Nat}(v:α)(h:j≠i):iM f i v j=f j:=fb h
structure Ch where
 aO:Nat
 v:Int
 k:List UInt8
 add:Bool
def NY(k:List UInt8)(old now:Option Rw)(c:Nat):List Ch:=
 match old,now with
 |some o,some n=>if o.aO c=n.aO c then[]else[⟨c,o.aO c,k,false⟩,⟨c,n.aO c,k,true⟩]
 |some o,none=>[⟨c,o.aO c,k,false⟩]
 |none,some n=>[⟨c,n.aO c,k,true⟩]
 |none,none=>[]
def jt(k:List UInt8)(old now:Option Rw):Nat->List Ch
 |0=>[]
 |c+1=>jt k old now c++NY k old now c
def L8(k:List UInt8)(old now:Option Rw):List Ch:=jt k old now 4
theorem vQ(k:List UInt8)(old now:Option Rw)(c:Nat):(NY k old now c).length<=2:=by unfold NY;cases old<;>cases now<;>simp;split<;>simp
theorem rS(k:List UInt8)(old now:Option Rw): ∀c,(jt k old now c).length<=2*c
 |0=>by simp[jt]
 |c+1=>by have a:=rS k old now c;have a:=vQ k old now c;simp only[jt,gr];omega
theorem TA{k:List UInt8}{old now:Option Rw}{c:Nat}{x:Ch}(h:x∈NY k old now c):x.aO=c/\x.k=k:=by
 unfold NY at h;split at h
 ·split at h
  ·simp at h
  ·simp only[List.mem_cons,List.not_mem_nil,or_false]at h;rcases h with rfl|rfl<;>exact⟨rfl,rfl⟩
 ·simp only[List.mem_cons,List.not_mem_nil,or_false]at h;subst h;exact⟨rfl,rfl⟩
 ·simp only[List.mem_cons,List.not_mem_nil,or_false]at h;subst h;exact⟨rfl,rfl⟩
 ·simp at h
theorem Ko{k:List UInt8}{old now:Option Rw}{x:Ch}: ∀{c:Nat},x∈jt k old now c->x.aO<c/\x.k=k
 |0,h=>by simp[jt]at h
 |c+1,h=>by
  rcases dr.1 h with h|h
  ·have:=Ko h;exact⟨by omega,this.2⟩
  ·have:=TA h;exact⟨by omega,this.2⟩
theorem TB{k:List UInt8}{old now:Option Rw}{c:Nat}{x:Ch}(b: ∀r,old=some r-> ∀c,I6 (r.aO c))(a: ∀r,now=some r-> ∀c,I6 (r.aO c))(h:x∈NY k old now c):I6 x.v:=by
 unfold NY at h;split at h
 ·split at h
  ·simp at h
  ·simp only[List.mem_cons,List.not_mem_nil,or_false]at h;rcases h with rfl|rfl
   ·exact b _ rfl _
   ·exact a _ rfl _
 ·simp only[List.mem_cons,List.not_mem_nil,or_false]at h;subst h;exact b _ rfl _
 ·simp only[List.mem_cons,List.not_mem_nil,or_false]at h;subst h;exact a _ rfl _
 ·simp at h
theorem Kp{k:List UInt8}{old now:Option Rw}{x:Ch}(b: ∀r,old=some r-> ∀c,I6 (r.aO c))(a: ∀r,now=some r-> ∀c,I6 (r.aO c)): ∀{c:Nat},x∈jt k old now c->I6 x.v
 |0,h=>by simp[jt]at h
 |c+1,h=>by
  rcases dr.1 h with h|h
  ·exact Kp b a h
  ·exact TB b a h
def ixC(k:List UInt8)(old now:Option Rw)(c:Nat)(l:List Pr):List Pr:=
 match old,now with
 |some o,some n=>if o.aO c=n.aO c then l else cO (dM (n.aO c) k,[]) (eZ (dM (o.aO c) k) l)
 |some o,none=>eZ (dM (o.aO c) k) l
 |none,some n=>cO (dM (n.aO c) k,[]) l
 |none,none=>l
def ly(a:Nat->List Pr)(x:Ch):Nat->List Pr:=iM a (x.aO+1) (if x.add then ins (dM x.v x.k,[]) (a (x.aO+1))else del (dM x.v x.k) (a (x.aO+1)))
theorem Xv(k:List UInt8)(old now:Option Rw)(c:Nat)(a:Nat->List Pr):(NY k old now c).foldl ly a=iM a (c+1) (ixC k old now c (a (c+1))):=by
 have b: ∀v:List Pr,v=a (c+1)->a=iM a (c+1) v:=by
  rintro v rfl
  funext j
  unfold iM;split
  ·rename_i h;rw[h]
  ·rfl
 unfold NY ixC;split
 ·split
  ·rename_i h;simp only[List.foldl_nil];exact b _ rfl
  ·rename_i h;simp only[List.foldl_cons,List.foldl_nil,ly,if_true,nf,if_false]
   funext j
   unfold iM;split
   ·rename_i e;rw[ff rfl,oQ,del_eq]
   ·rfl
 ·simp only[List.foldl_cons,List.foldl_nil,ly,nf,if_false,del_eq]
 ·simp only[List.foldl_cons,List.foldl_nil,ly,if_true,oQ]
 ·simp only[List.foldl_nil];exact b _ rfl
theorem Ia(k:List UInt8)(old now:Option Rw)(a:Nat->List Pr): ∀c,(jt k old now c).foldl ly a=fun i=>if 1<=i/\i<=c then ixC k old now (i-1) (a i)else a i
 |0=>by
  funext i
  simp only[jt,List.foldl_nil];rw[fb (by omega)]
 |c+1=>by
  rw[jt,List.foldl_append,Ia k old now a c,Xv]
  funext i
  unfold iM;by_cases h:i=c+1
  ·subst h;rw[ff rfl,fb (show ¬(1<=c+1/\c+1<=c) by omega),ff (show 1<=c+1/\c+1<=c+1 by omega)];rfl
  ·rw[fb h];show(if 1<=i/\i<=c then _ else _)=_;by_cases a:1<=i/\i<=c
   ·rw[ff a,ff ⟨a.1,by omega⟩]
   ·rw[fb a,fb (by omega)]
theorem mh{α:Type}(p:List UInt8×α): ∀l:List (List UInt8×α),(cO p l).length<=l.length+1
 |[]=>by simp[cO]
 |q::l=>by
  have:=mh p l;simp only[cO];split
  ·simp only[gn];omega
  ·split
   ·simp only[gn];omega
   ·simp only[gn];omega
theorem oZ{α:Type}(k:List UInt8): ∀l:List (List UInt8×α),(eZ k l).length<=l.length
 |[]=>by simp[eZ]
 |q::l=>by
  have:=oZ k l;simp only[eZ];split
  ·simp only[gn];omega
  ·split
   ·simp only[gn];omega
   ·simp only[gn];omega
theorem O9(a:Nat->List Pr)(x:Ch)(i n:Nat)(h:(a i).length<=n):(ly a x i).length<=n+1:=by
 unfold ly iM;split
 ·rename_i e;subst e;split
  ·rw[oQ];have:=mh (dM x.v x.k,([]:List UInt8)) (a (x.aO+1));omega
  ·rw[del_eq];have:=oZ (dM x.v x.k) (a (x.aO+1));omega
 ·omega
theorem xJ(i:Nat): ∀(b:List Ch) (a:Nat->List Pr) (n:Nat),(a i).length<=n->(b.foldl ly a i).length<=n+b.length
 |[],a,n,h=>by simpa using h
 |x::b,a,n,h=>by have:=xJ i b (ly a x) (n+1) (O9 a x i n h);simp only[List.foldl_cons,gn];omega
def fc(l:az)(i:Nat):List Pr:=if i=0 then l.map (qg dO)else tu (i-1) l
theorem EP{l:az}{k:List UInt8}{r:Rw}(h:dR l)(c:RowsFit l)(b: ∀d,I6 (r.aO d))(i:Nat)(hi:i<5):
  (L8 k (aA k l) (some r)).foldl ly (iM (fc l) 0 (ins (k,dO r) (fc l 0))) i=fc (cO (k,r) l) i:=by
 unfold L8;rw[Ia];show(if 1<=i/\i<=4 then _ else _)=_;by_cases a:i=0
 ·subst a;rw[fb (by omega),fq];show ins (qg dO (k,r)) (l.map (qg dO))=_;rw[J3];rfl
 ·rw[ff ⟨by omega,by omega⟩,ft _ _ a];unfold fc;rw[fb a,fb a];unfold ixC
  cases hl:aA k l with
  |none=>simp only;exact Oi (p:=(k,r)) h c b hl
  |some o=>
   simp only;split
   ·rename_i e;exact SN h c b hl e
   ·exact J6 h c b hl
theorem Pb{l:az}{k:List UInt8}{r:Rw}(h:dR l)(b:RowsFit l)(c:aA k l=some r)(i:Nat)(hi:i<5):
  (L8 k (some r) none).foldl ly (iM (fc l) 0 (del k (fc l 0))) i=fc (eZ k l) i:=by
 unfold L8;rw[Ia];show(if 1<=i/\i<=4 then _ else _)=_;by_cases a:i=0
 ·subst a;rw[fb (by omega),fq];unfold fc;rw[ff rfl,ff rfl,J4]
 ·rw[ff ⟨by omega,by omega⟩,ft _ _ a];unfold fc;rw[fb a,fb a];unfold ixC;simp only;exact Oj h b c
theorem fR{l:az}(h:dR l)(a:RowsFit l)(i:Nat):(fc l i).length=l.length:=by
 unfold fc;split
 ·rw[fa]
 ·exact J5 h a
end Go.Proofs.YtehccbdajiiaaaaGreatDoor
