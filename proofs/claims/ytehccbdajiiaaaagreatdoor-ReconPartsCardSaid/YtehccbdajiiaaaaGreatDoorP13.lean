import Derived.Test.YtehccbdajiiaaaaGreatDoorP08
import Derived.Test.YtehccbdajiiaaaaGreatDoorP12
import Derived.Laws.BitsAllLaws
import Derived.Laws.BitsLemmas
import Derived.Lib.AppendStr
import Derived.Lib.BufferRead
import Derived.WalkSmall
namespace Go.Proofs.YtehccbdajiiaaaaGreatDoor
open Go.Proofs.Tryz
set_option maxRecDepth 100000
set_option maxHeartbeats 16000000
open Go.RowKit
def yT(w:World)(F:Nat->Prop)(b:Nat)(a:List UInt8):Prop:=
 ∃v,w.heap[b]?=some (.cells #[v] 281 (0,0))/\F b/\w.ownsRow 0 5 1 v a.length (a.map B8)/\(∀g,v.ownBlock=some g->F g)
theorem uX{a w1:World}{b:Option Nat}{c:Obj}(d:(a.alloc c).grownBy w1 b):Only (fun k=>b=some k) a w1:=
 ((oT _ a).alloc c).grown d (fun _ e _=>e)
theorem JI{e w1:World}{f:Nat->Prop}{b L m c a:Nat}{A d:Option Addr}{g news:List UInt8}(q:e.heap[b]?=some (.cells #[.slice A L c] 281 (0,0)))
  (t:g.length=L) (u:news.length=m) (s:(Value.slice A L c).ownBlock≠some b) (o: ∀h,(Value.slice A L c).ownBlock=some h->f h) (p:f b)
  (l:w1.ownsRow 0 5 1 (.slice d (L+m) a) (L+m) (g.map B8++news.map B8)) (j:Only (fun k=>(Value.slice A L c).ownBlock=some k) e w1)
  (r: ∀h,(Value.slice d (L+m) a).ownBlock=some h->(Value.slice A L c).ownBlock=some h\/e.heap.size<=h):
  yT (w1.setCell ⟨b,0,none⟩ (.slice d (L+m) a)) (fun k=>f k\/e.heap.size<=k) b (g++news)/\Only f e (w1.setCell ⟨b,0,none⟩ (.slice d (L+m) a)):=by
 have n:=j.heap q s;refine⟨⟨.slice d (L+m) a,?_,.inl p,?_,?_⟩,?_⟩
 ·simp[World.setCell,Array.getElem?_modify,n]
 ·have i:=aQ l (Only.aR w1 b 0 (.slice d (L+m) a)) (fun k h v=>by subst v;exact cw l n (by decide) h);subst t u;simpa using i
 ·intro k h;rcases r k h with i|i
  ·exact .inl (o _ i)
  ·exact .inr i
 ·exact(j.m (fun k _ i=>o k i)).setCell (p:=⟨b,0,none⟩) (fun _=>p) _
theorem AJ(w:World)(F:Nat->Prop)(b:Nat)(o:List UInt8)(l:yT w F b o)(n:Nat)(i:n<18446744073709551616)(aa:o.length<=1000000000):
  Calls prog 222 #[r7 b,.int .u64 n] w fun e w'=>e=.returned (.tuple #[])/\Only F w w'/\ ∃h,yT w' h b (o++oD n)/\ ∀k,h k->F k\/w.heap.size<=k:=by
 obtain⟨S,y,P,Q,O⟩:=ef Tryz.N3;have HN:=al i;clear i;go_enter func222,ntmps222;go_wp2_with fail
 go_loopw [1] (fun v wr=> ∃(m:Nat) (f:List UInt8) (h:Nat->Prop),v=.int .u64 m/\m<=n/\oD n=f++oD m/\f.length<=9/\yT wr h b (o++f)/\Only F w wr/\ ∀k,h k->F k\/w.heap.size<=k)
   (fun v _=>(intOf v).toNat)
 case atStart=>exact⟨n,[],F,rfl,b8 _,rfl,by simp,by simpa using l,oT _ _,fun k a=>.inl a⟩
 case round=>
  obtain⟨m,f,h,rfl,Y,t,ad,V,z,p⟩:=hrel;obtain⟨v,g,s,j,r⟩:=V;have hL:(o++f).length<=1000000009:=by simp;omega
  have d:=AN t r s p;generalize c:o++f=E at *;have R:=al c;clear c;generalize i:E.length=L at *;have N:=al i;obtain⟨A,c,rfl⟩:=ar j;have q:(Value.slice A L c).ownBlock≠some b:=cw j g (by decide);have hc:=aB g;have hf:=bj g;have am:=(cq.1 g).1;have e:=AM g j q;clear t p s r i g j q;by_cases X:128<=m
  ·have g:m<18446744073709551616:=Nat.lt_of_le_of_lt Y HN.o;obtain⟨B,i⟩:=rl (m%128);have ac:B<128:=by omega
   have I:bits .and .u64 (m:Int) 127=(B:Int):=by have:=u64_and_nat m 127 g (by decide);rw[show((127:Nat):Int)=127 from rfl]at this;rw[this,<-i];congr 1;exact Nat.and_two_pow_sub_one_eq_mod m 7
   have e2:(B:Int)%256=(B:Int):=by omega
   have e3:bits .or .u8 (B:Int) 128=((UInt8.ofNat (B+128)).toNat:Int):=by have:=u8_or_nat B 128 (by omega) (by decide);rw[show((128:Nat):Int)=128 from rfl]at this;rw[this,Nat.or_comm,nat_join 7 128 B (by decide) (by omega)];simp;omega
   have p:oD m=UInt8.ofNat (B+128)::oD (m/128):=by rw[V5 X g,i]
   generalize UInt8.ofNat (B+128)=K at *;have J:=al p;clear i g p;have t:L+1<=maxLen:=by simp only[maxLen];omega
   have u:(L+1)*1<=140737488355328:=by omega
   have r:=e.o.2.1.alloc (.cells #[B8 K] 5);have j:=AM t u r;clear t u r;go_wp2_with (at_builtin;refine ep _ rfl _ _ 53 rfl 0 5 S (.int .u8 0) 1 1 underlying53 y P Q O rfl (by decide) (.slice A L c) L (E.map B8) rfl j.o.d ⟨wr.heap.size,0,none⟩ 1 1 [B8 K] rfl rfl (cell_one_new _ _ _) (by simp[B8,Value.oneCell']) (by decide) j.o.1 j.o.2.1 (dq _) (wr.heap.size+1) (by simp) ?_;intro g U w1 x q C G;have s:=al ((uX q).heap e.o.1 e.o.d);have W:=aB s.o;have Z:=bj s.o);go_roundw
   case rel=>
    obtain⟨D,H⟩:=JI (m:=1) (news:=[K]) e.o.1 N.o rfl e.o.d d.o.2.1 d.o.d.1 x (uX q) (fun k a=>by injection a with a;subst a;exact C.imp_right (fun l=>by show wr.heap.size<=g;omega));have M:oD n=(f++[K])++oD (m/128):=by rw[d.o.1,J.o];simp
    refine⟨m/128,f++[K],fun k=>h k\/wr.heap.size<=k,by simp,by omega,M,?_,?_,z.x H (fun i y l=>?_),fun k a=>?_⟩
    ·have T:=ja n;have h2:=R5 (m/128);rw[M]at T;simp at T⊢;omega
    ·rw[<-lz,R.o];exact D
    ·rcases d.o.t i l with l|l
     ·exact l
     ·omega
    ·rcases a with l|l
     ·exact d.o.t k l
     ·exact .inr (by have:=z.size;omega)
   case measure=>simp[intOf];omega
  ·have G:m<128:=by omega
   have p:oD m=[UInt8.ofNat m]:=V4 G;have I:Value.int .u8 (m:Int)=B8 (UInt8.ofNat m):=by simp[B8];omega
   have B:=al I;clear I;generalize UInt8.ofNat m=K at B p;have t:L+1<=maxLen:=by simp only[maxLen];omega
   have u:(L+1)*1<=140737488355328:=by omega
   have r:=e.o.2.1.alloc (.cells #[.int .u8 (m:Int)] 5);have j:=AM t u r;have J:=al p;clear t u r p;go_wp2_with (at_builtin;refine ep _ rfl _ _ 53 rfl 0 5 S (.int .u8 0) 1 1 underlying53 y P Q O rfl (by decide) (.slice A L c) L (E.map B8) rfl j.o.d ⟨wr.heap.size,0,none⟩ 1 1 [.int .u8 (m:Int)] rfl rfl (cell_one_new _ _ _) (by simp[Value.oneCell']) (by decide) j.o.1 j.o.2.1 (dq _) (wr.heap.size+1) (by simp) ?_;intro g U w1 x q C G;have s:=al ((uX q).heap e.o.1 e.o.d);have W:=aB s.o;have Z:=bj s.o)
   go_end0
   rw[B.o]at x;obtain⟨D,H⟩:=JI (m:=1) (news:=[K]) e.o.1 N.o rfl e.o.d d.o.2.1 d.o.d.1 x (uX q) (fun k a=>by injection a with a;subst a;exact C.imp_right (fun l=>by show wr.heap.size<=g;omega));refine⟨rfl,z.x H (fun i y l=>?_),fun k=>h k\/wr.heap.size<=k,?_,fun k a=>?_⟩
   ·rcases d.o.t i l with l|l
    ·exact l
    ·omega
   ·rw[d.o.1,J.o,<-lz,R.o];exact D
   ·rcases a with l|l
    ·exact d.o.t k l
    ·exact .inr (by have:=z.size;omega)
def Wd(r:Int)(F:Nat->Prop)(b:Nat)(c:List UInt8)(w:World)(e:Ending)(w':World):Prop:=
 e=.returned (rv r)/\Only F w w'/\ ∃a,yT w' a b c/\ ∀k,a k->F k\/w.heap.size<=k
theorem Lp(w:World)(F:Nat->Prop)(b:Nat)(a:List UInt8)(l:yT w F b a)(i:a.length<=1000000000):
  Calls prog 180 #[r7 b] w (JE 5 (a.map B8) w):=by
 obtain⟨v,d,_,c,_⟩:=l;obtain⟨A,m,rfl⟩:=ar c;have k:=aB d;have f:=al (Rd.bO (F:=fun _=>True) c (fun _ _=>trivial));clear d c;go_enter func180,ntmps180;go_wp2_with fail;refine(jr _ _ _ _ f.o (sD a) (by simp;omega)).m ?_;rintro n j ⟨g,h,rfl,d,c⟩;have e:=AI d c;clear d c;go_wp2_with fail;go_ret
 exact⟨g,h,by simp,e.o.1,e.o.2⟩
def bp(w:World)(F:Nat->Prop)(b:Nat)(all:List UInt8)(pos:Nat):Prop:=
 ∃v,w.heap[b]?=some (.cells #[v,rv pos] 201 (0,0))/\F b/\pos<=all.length/\w.ownsRow 0 5 1 v all.length (all.map B8)/\(∀g,v.ownBlock=some g->F g/\g≠b)
section
variable{w w':World}{F S:Nat->Prop}{b:Nat}{all:List UInt8}{pos:Nat}
theorem bp.only(l:bp w F b all pos)(e:Only S w w')(a: ∀k,F k-> ¬S k):bp w' F b all pos:=by obtain⟨v,i,c,g,h,d⟩:=l;exact⟨v,e.heap i (a b c),c,g,aQ h e (fun j f=>a j (d j f).1),d⟩
theorem bp.below(h:bp w F b all pos)(a:Below w.heap.size w w'):bp w' F b all pos:=h.only (oS a fun _=>False) (fun _ _=>id)
theorem bp.bound(i:bp w F b all pos):bp w (fun k=>F k/\k<w.heap.size) b all pos:=by obtain⟨v,e,f,g,d,c⟩:=i;exact⟨v,e,⟨f,(cq.1 e).1⟩,g,d,fun h a=>⟨⟨(c h a).1,(d.lt h a).2⟩,(c h a).2⟩⟩
theorem bp.set(k:bp w F b all pos)(a:Nat)(e:a<=all.length):bp (w.setCell ⟨b,1,none⟩ (rv a)) F b all a:=by obtain⟨v,h,d,i,g,c⟩:=k;refine⟨v,?_,d,e,aQ g (Only.aR w b 1 _) (fun l f j=>(c l f).2 j),c⟩;simp[World.setCell,Array.getElem?_modify,h]
theorem bp.at_(y:bp w F b all pos): ∃A f,w.cell? ⟨b,0,none⟩=some (.slice A all.length f)/\w.cell? ⟨b,1,none⟩=some (rv pos)/\w.frozen? ⟨b,1,none⟩=false/\b<w.heap.size/\pos<=all.length/\all.length<=f/\f<=maxLen/\
  ∀m x,all[m]?=some x-> ∃l,A=some ⟨l,0,none⟩/\w.cell? ⟨l,m,none⟩=some (B8 x):=by
 obtain⟨z,a,q,h,c,u⟩:=y;obtain⟨A,f,rfl⟩:=ar c;obtain⟨r,t,v,g,p,k,j,s⟩:=Rd.bO (F:=fun _=>True) c (fun _ _=>trivial);injection g with d i e;subst d i e;refine⟨A,f,by simp[World.cell?,a],by simp[World.cell?,a],by simp[World.frozen?,a],(cq.1 a).1,h,k,j,fun m x e=>?_⟩;have o:=(bd.1 e).1;obtain⟨l,n,i,_,_⟩:=c.form (by omega);injection i with d _ _;subst d;refine⟨l,rfl,?_⟩;rw[c.cellAt m (by omega)];simp[e]
end
theorem lY{w w':World}{n:Nat}(h:w.drewN n=w'):Only (fun _=>False) w w':=by rw[<-h];exact(oT _ _).drewN _
def Sn(F:Nat->Prop)(b:Nat)(all:List UInt8)(pos:Nat)(w:World)(e:Ending)(w':World):Prop:=
 Only (fun k=>k=b) w w'/\match tO 0 0 (all.drop pos)with
  |some (n,rest)=>e=.returned (.tuple #[.int .u64 n,rv 0])/\ ∃a,rest=all.drop a/\pos<=a/\bp w' F b all a
  |none=>e=.returned (.tuple #[.int .u64 0,rv 11])/\ ∃a,bp w' F b all a
theorem or_val{acc d k:Nat}(f:k<=9)(e:acc<128^k)(b:d*128^k<18446744073709551616):
  IntKind.u64.wrap ((d:Int)*2^(7*k))=((d*128^k:Nat):Int)/\bits .or .u64 (acc:Int) ((d*128^k:Nat):Int)=((acc+d*128^k:Nat):Int):=by
 have g:(2:Nat)^(7*k)=128^k:=by rw[Nat.pow_mul]
 have c:((d:Int)*2^(7*k))=((d*128^k:Nat):Int):=by
  rw[<-g]
  push_cast
  rfl
 have a:acc<18446744073709551616:=by
  have:(128:Nat)^k<=128^9:=Nat.pow_le_pow_right (by decide) f;have h:(128:Nat)^9=9223372036854775808:=by decide
  omega
 constructor
 ·rw[c,IntKind.wrap_u64];omega
 ·rw[u64_or_nat acc _ a b,Nat.or_comm,nat_join (7*k) (d*128^k) acc (by rw[g];exact Nat.mul_mod_left _ _) (by rw[g];exact e),Nat.add_comm]
theorem Ob{all:List UInt8}{p k acc:Nat}{x:UInt8}(h:all[p]?=some x):tO k acc (all.drop p)=if k=9/\1<x.toNat then none else if 128<=x.toNat then tO (k+1) (acc+(x.toNat-128)*128^k) (all.drop (p+1))
  else if x.toNat=0/\0<k then none else some (acc+x.toNat*128^k,all.drop (p+1)):=by
 have a:=(bd.1 h).1;have b:all[p]=x:=(bd.1 h).2;rw[List.drop_eq_getElem_cons a,b];rfl
theorem xg(w:World)(F:Nat->Prop)(b:Nat)(all:List UInt8)(pos:Nat)(h:bp w F b all pos):
  Calls prog 194 #[.pointer (some ⟨b,0,none⟩)] w (Sn F b all pos w):=by
 have H:=al h;clear h;go_enter func194,ntmps194;go_wp2_with fail
 go_step3
 go_wp2_with fail
 go_step3
 go_wp2_with fail
 go_loopw [4,5] (fun n s wr=> ∃k acc:Nat,k<=9/\acc<128^k/\n=.int .u64 acc/\s=.int .i64 (7*k:Nat)/\tO 0 0 (all.drop pos)=tO k acc (all.drop (pos+k))/\bp wr F b all (pos+k)/\Only (fun j=>j=b) w wr)
  (fun _ s _=>(70-intOf s).toNat)
 case atStart=>exact⟨0,0,by omega,by simp,rfl,rfl,rfl,H.o,oT _ _⟩
 case round=>
  obtain⟨k,acc,hk,hacc,rfl,rfl,fD,hr,ho⟩:=hrel;have HR:=al (ab hr (ab fD (ab ho hacc)));obtain⟨A,c,hc0,hc1,uY,hb,hpl,hcl,hcm,hcells⟩:=hr.at_;have HC:=al hcells;unfold maxLen at hcm;clear hr fD ho hcells hacc;generalize hp:pos+k=p at *;have HP:=al hp;clear hp;by_cases hlt:p<all.length
  ·obtain⟨x,hx⟩: ∃x,all[p]?=some x:=⟨_,ao hlt⟩;obtain⟨g,rfl,RF⟩:=HC.o p x hx;have i1:(0:Int)<=(p:Int):=by omega
   have i2:(p:Int)<(all.length:Int):=by omega
   have Z3:wr.cell? ⟨g,p,none⟩=some (.int .u8 (x.toNat:Int)):=RF;have HX:=al (ab (Ob (k:=k) (acc:=acc) hx) x.toNat_lt);clear hx RF;generalize Sq:x.toNat=xn at *;clear Sq;have Z4:xn<256:=HX.o.2;go_wp2_with fail;go_quiet(fail);obtain⟨w1,hw1⟩:=rl (wr.drewN nq);rw[hw1];have hq1:=lY hw1;have d0:=hq1.cell hc0 id;have d1:=hq1.cell hc1 id;have dx:=hq1.cell Z3 id;have dz:w1.frozen? ⟨b,1,none⟩=false:=by rw[<-hw1];exact uY
   clear hw1;go_wp2_with fail;go_quiet(fail);obtain⟨w2,hw2⟩:=rl (w1.drewN nq);rw[hw2];have hq2:=lY hw2;have f1:=hq2.cell d1 id;have fz:w2.frozen? ⟨b,1,none⟩=false:=by rw[<-hw2];exact dz
   have cN:Only (fun _=>False) wr w2:=hq1.x hq2 (fun _ _ h=>h);have hr2:=(HR.o.1.only cN (fun _ _=>id)).set (p+1) (by omega)
   have Gk:Only (fun j=>j=b) w (w2.setCell ⟨b,1,none⟩ (.int .i64 ((p+1:Nat):Int))):=
    HR.o.d.1.x ((Only.mono (T:=fun j=>j=b) cN (fun _ _ h=>h.elim)).setCell (p:=⟨b,1,none⟩) (fun _=>rfl) _) (fun _ _ h=>h)
   have Eh:((p+1:Nat):Int)=(p:Int)+1:=by omega
   rw[Eh]at hr2 Gk;have HS:=al (ab hr2 Gk);clear hw2 hq1 hq2 d0 d1 dx dz hc0 hc1 Z3 uY cN hr2 Gk Eh;by_cases hA:k=9/\1<xn
   ·obtain⟨rfl,hA⟩:=hA;have hfin:tO 0 0 (all.drop pos)=none:=by rw[HR.o.2.1,HX.o.1,fi ⟨rfl,hA⟩]
    have sN:=al hfin;clear hfin;go_wp2_with fail
    try rw[fs]
    go_ret2
    refine⟨HS.o.2,?_⟩;rw[sN.o];exact⟨rfl,_,HS.o.1⟩
   ·by_cases hB:128<=xn
    ·have Ju:k<9:=by omega
     have hd:bits .and .u8 (xn:Int) 127=((xn-128:Nat):Int):=by have:=u8_and_nat xn 127 Z4 (by decide);rw[show((127:Nat):Int)=127 from rfl]at this;rw[this];congr 1;have:=Nat.and_two_pow_sub_one_eq_mod xn 7;simp at this;rw[this];omega
     have hdk:(xn-128)*128^k<128^(k+1):=by rw[Nat.pow_succ,Nat.mul_comm (128^k) 128];exact Nat.mul_lt_mul_of_pos_right (by omega) (Nat.pow_pos (by decide))
     have h9:(128:Nat)^(k+1)<=9223372036854775808:=by
      have h1:(128:Nat)^(k+1)<=128^9:=Nat.pow_le_pow_right (by decide) (by omega);have h2:(128:Nat)^9=9223372036854775808:=by decide
      omega
     obtain⟨e3,e4⟩:=or_val (d:=xn-128) hk HR.o.t (by omega);have hfin:tO 0 0 (all.drop pos)=tO (k+1) (acc+(xn-128)*128^k) (all.drop (p+1)):=by rw[HR.o.2.1,HX.o.1,ff hA,fi hB]
     have UJ:acc+(xn-128)*128^k<128^(k+1):=by
      have:=HR.o.t;have e1:(128:Nat)^(k+1)=128*128^k:=by rw[Nat.pow_succ,Nat.mul_comm]
      have e2:(xn-128)*128^k<=127*128^k:=dy _ (by omega);omega
     have e2:IntKind.u64.wrap ((xn-128:Nat):Int)=((xn-128:Nat):Int):=by rw[IntKind.wrap_u64];omega
     generalize (xn-128)*128^k=m at *;generalize Z5:acc+m=acc' at *;have sN:=al (ab hfin UJ);generalize xn-128=d at *;clear hfin UJ Z5 hdk h9;go_wp2_with fail;go_roundw
     case rel=>
      refine⟨k+1,acc',by omega,sN.o.2,rfl,by simp;omega,?_,?_,HS.o.2⟩
      ·rw[sN.o.1,<-HP.o,gO]
      ·rw[<-gO,HP.o];exact HS.o.1
     case measure=>simp[intOf];omega
    ·by_cases hC:xn=0/\0<k
     ·have hfin:tO 0 0 (all.drop pos)=none:=by rw[HR.o.2.1,HX.o.1,ff hA,ff hB,fi hC]
      obtain⟨rfl,ed⟩:=hC;have sN:=al hfin;clear hfin;by_cases Ju:k=9
      focus
       subst Ju
      rotate_left
      all_goals
       go_wp2_with fail
       try rw[fs]
       go_ret2
       refine⟨HS.o.2,?_⟩;rw[sN.o];exact⟨rfl,_,HS.o.1⟩
     ·have hxk:xn*128^k<18446744073709551616:=by
       by_cases Ju:k=9
       ·subst Ju;have h2:(128:Nat)^9=9223372036854775808:=by decide
        rw[h2];omega
       ·have h1:(128:Nat)^(k+1)<=128^9:=Nat.pow_le_pow_right (by decide) (by omega);have h2:(128:Nat)^9=9223372036854775808:=by decide
        have e1:(128:Nat)^(k+1)=128*128^k:=by rw[Nat.pow_succ,Nat.mul_comm]
        have e2:xn*128^k<=127*128^k:=dy _ (by omega);omega
      obtain⟨e3,e4⟩:=or_val (d:=xn) hk HR.o.t hxk;have hfin:tO 0 0 (all.drop pos)=some (acc+xn*128^k,all.drop (p+1)):=by rw[HR.o.2.1,HX.o.1,ff hA,ff hB,ff hC]
      have sN:=al hfin;have HE:=al (ab e3 e4);clear hfin e3 e4 hxk;by_cases Ju:k=9
      ·subst Ju;have hx1:xn=1:=by omega
       subst hx1;have e5:bits .or .u64 (acc:Int) 9223372036854775808=((acc+1*128^9:Nat):Int):=HE.o.2;generalize acc+1*128^9=v at *;go_wp2_with fail
       try rw[fs]
       go_ret2
       refine⟨HS.o.2,?_⟩;rw[sN.o];exact⟨rfl,p+1,rfl,by have:=HP.o;omega,HS.o.1⟩
      ·by_cases hx0:xn=0
       ·obtain rfl:k=0:=by omega
        subst hx0;have ha:=HR.o.t;simp at ha;subst ha;have e5:bits .or .u64 0 0=0:=by decide
        go_wp2_with fail
        try rw[fs]
        go_ret2
        refine⟨HS.o.2,?_⟩;rw[sN.o];exact⟨by simp,p+1,rfl,by have:=HP.o;omega,HS.o.1⟩
       ·have e3:=HE.o.1;have e4:=HE.o.2;clear HE HX;generalize xn*128^k=m at *;generalize acc+m=v at *;go_wp2_with fail
        try rw[fs]
        go_ret2
        refine⟨HS.o.2,?_⟩;rw[sN.o];exact⟨rfl,p+1,rfl,by have:=HP.o;omega,HS.o.1⟩
  ·obtain rfl:p=all.length:=by omega
   have hfin:tO 0 0 (all.drop pos)=none:=by rw[HR.o.2.1];simp[tO]
   have sN:=al hfin;clear hfin;have i2:decide ((all.length:Int)<(all.length:Int))=false:=by simp
   go_wp2_with fail;go_quiet(fail);obtain⟨w1,hw1⟩:=rl (wr.drewN nq);rw[hw1];have hq1:=lY hw1;have hr1:=HR.o.1.only hq1 (fun _ _=>id);have je:=HR.o.d.1.x hq1 (fun _ _ h=>h.elim);have HS:=al (ab hr1 je);clear hw1 hr1 je hq1;go_wp2_with fail
   try rw[fs]
   go_ret2
   refine⟨HS.o.2,?_⟩;rw[sN.o];exact⟨rfl,_,HS.o.1⟩
def aca(F:Nat->Prop)(b:Nat)(all:List UInt8)(pos:Nat)(w:World)(e:Ending)(w':World):Prop:=
 Only (fun k=>k=b) w w'/\match BW (all.drop pos)with
  |some (n,rest)=>e=.returned (.tuple #[rv n,rv 0])/\ ∃a,rest=all.drop a/\pos<=a/\bp w' F b all a
  |none=>(∃c:Int,(c=10\/c=11)/\e=.returned (.tuple #[rv 0,rv c]))/\ ∃a,bp w' F b all a
theorem tV(w:World)(F:Nat->Prop)(b:Nat)(all:List UInt8)(pos:Nat)(h:bp w F b all pos):
  Calls prog 150 #[r7 b] w (aca F b all pos w):=by
 have H:=al h;clear h;go_enter func150,ntmps150;go_wp2_with fail;refine(xg w F b all pos H.o).m ?_;rintro m l ⟨h,f⟩
 cases hg:tO 0 0 (all.drop pos)with
 |none=>
  rw[hg]at f;obtain⟨rfl,e,d⟩:=f;have a:BW (all.drop pos)=none:=by simp[BW,hg]
  have c:=al a;clear a hg;go_wp2_with fail
  go_ret2
  refine⟨h,?_⟩;rw[c.o];exact⟨⟨11,.inr rfl,rfl⟩,e,d⟩
 |some x=>
  obtain⟨n,j⟩:=x;rw[hg]at f;obtain⟨rfl,e,g,k,d⟩:=f;by_cases i:n<=9223372036854775807
  ·have a:BW (all.drop pos)=some (n,j):=by simp[BW,hg,i]
   have c:=AI a g;clear a hg g;go_wp2_with fail
   go_ret2
   refine⟨h,?_⟩;rw[c.o.1];exact⟨rfl,e,c.o.2,k,d⟩
  ·have a:BW (all.drop pos)=none:=by simp[BW,hg,i]
   have c:=al a;clear a hg g;go_wp2_with fail
   go_ret2
   refine⟨h,?_⟩;rw[c.o];exact⟨⟨10,.inl rfl,rfl⟩,e,d⟩
theorem Cn(w:World)(F:Nat->Prop)(b:Nat)(all:List UInt8)(pos a:Nat)(h:bp w F b all pos)(f:a<=all.length):
  Calls prog 193 #[.agg #[r7 b,rv a]] w fun e w'=>e=.returned (.tuple #[])/\Only (fun k=>k=b) w w'/\bp w' F b all a:=by
 have H:=al h;obtain⟨A,o,e,c,d,g,i,l,m,_⟩:=h.at_;have j:=aJ c (.cells #[r7 b,rv a] 295);have n:(w.alloc (.cells #[r7 b,rv a] 295)).frozen? ⟨b,1,none⟩=false:=(World.frozen?_of_block (Below.heap_alloc w _ b g)).x d;clear h e c d;go_enter func193,ntmps193;go_wp2_with fail
 go_end0
 refine⟨rfl,?_,?_⟩
 ·exact(Only.setCell (oT (fun k=>k=b) w) (p:=⟨b,1,none⟩) (fun _=>rfl) _).alloc _
 ·exact(H.o.set a f).below ((aw _ _).alloc (b8 _) _)
def UK(F:Nat->Prop)(b:Nat)(all:List UInt8)(pos:Nat)(w:World)(e:Ending)(w':World):Prop:=
 Only (fun k=>k=b) w w'/\match BW (all.drop pos)with
  |some (n,rest)=>e=.returned (.tuple #[rv n,rv 0])/\ ∃a,rest=all.drop a/\pos<=a/\bp w' F b all a
  |none=>(∃a:Int,(a=10\/a=11)/\e=.returned (.tuple #[rv 0,rv a]))/\bp w' F b all pos
theorem Oc(w:World)(F:Nat->Prop)(b:Nat)(all:List UInt8)(pos:Nat)(l:bp w F b all pos):
  Calls prog 149 #[r7 b,.func (.func 150) #[r7 b] #[]] w (UK F b all pos w):=by
 have H:=al l;obtain⟨A,v,a,r,c,t,m,p,q,_⟩:=l.at_;clear l a c;go_enter func149,ntmps149;go_wp2_with fail;refine(tV w F b all pos H.o).m ?_;rintro u n ⟨c,d⟩
 cases hg:BW (all.drop pos)with
 |none=>
  rw[hg]at d;obtain⟨⟨i,k,rfl⟩,f,e⟩:=d;have a:=AI hg c;have o:(i !=0)=true:=by rcases k with rfl|rfl<;>rfl
  clear hg c;go_wp2_with fail;refine(Cn n F b all f pos e m).m ?_;rintro u s ⟨rfl,h,g⟩;have j:=AI h g;clear h g;go_wp2_with fail
  go_ret2
  refine⟨a.o.2.x j.o.1 (fun _ _ l=>l),?_⟩;rw[a.o.1];exact⟨⟨i,k,rfl⟩,j.o.2⟩
 |some x=>
  obtain⟨j,i⟩:=x;rw[hg]at d;obtain⟨rfl,f,g,h,e⟩:=d;have a:=AM hg c g;clear hg c g;go_wp2_with fail
  go_ret2
  refine⟨a.o.2.1,?_⟩;rw[a.o.1];exact⟨rfl,f,a.o.d,h,e⟩
theorem Sr(w:World)(F:Nat->Prop)(b:Nat)(all:List UInt8)(pos:Nat)(h:bp w F b all pos):
  Calls prog 86 #[r7 b] w (UK F b all pos w):=by
 have H:=al h;clear h;go_enter func86,ntmps86;go_wp2_with fail;refine(Oc w F b all pos H.o).m ?_;rintro j g d;have c:=al d;obtain⟨i,a⟩:=d
 cases hg:BW (all.drop pos)with
 |none=>
  rw[hg]at a;obtain⟨⟨f,h,rfl⟩,e⟩:=a;clear hg;go_wp2_with fail
  go_ret2
  exact c.o
 |some x=>
  obtain⟨n,e⟩:=x;rw[hg]at a;obtain⟨rfl,_⟩:=a;clear hg;go_wp2_with fail
  go_ret2
  exact c.o
theorem JK(w:World)(F:Nat->Prop)(b:Nat)(all:List UInt8)(pos:Nat)(h:bp w F b all pos):
  Calls prog 95 #[r7 b] w fun e w'=>e=.returned (rv ((all.length-pos:Nat):Int))/\Only (fun _=>False) w w':=by
 obtain⟨A,j,e,f,i,g,c,d,a,_⟩:=h.at_;unfold maxLen at a;clear h;go_enter func95,ntmps95;go_wp2_with fail;go_quiet(fail);go_wp2_with fail;go_ret
 exact⟨by simp;omega,(oT _ _).drewN _⟩
theorem We{w:World}{F:Nat->Prop}{A:Option Addr}{n c:Nat}{xs:List Value}(s:Rd w F (.slice A n c) xs)(l m:Nat)(p:l+m<=n):
  Rd w F (.slice (if c=l then A else A.map (·.add (l*1))) m (c-l)) ((xs.drop l).take m):=by
 obtain⟨k,o,j,d,i,q,h,e⟩:=s;injection d with a g f;subst a g f;refine⟨_,m,c-l,rfl,by simp;omega,by omega,by omega,fun a=>?_⟩;obtain⟨b,r,a,f,g⟩:=e (by omega);subst a;rw[ff (by omega)];refine⟨b,r+l,?_,f,fun t u a=>?_⟩
 ·simp[Addr.add]
 ·rw[mu]at a;split at a
  ·rw[mv]at a;have:=g (l+t) u a;rw[gO];exact this
  ·cases a
theorem uZ{P:Program}{w:World}{F:Nat->Prop}{A:Option Addr}{n c:Nat}{xs:List UInt8}(a b e:TypeId)(h:P.underlying a=some (.slice e))(f:P.underlying e=some (.int .u8))(g:P.underlying b=some .string)
  (p:Rd w F (.slice A n c) (xs.map B8)):(convert a b (.slice A n c)).run P w=.ok (sd xs) w:=by
 have i:=p.cells rfl;obtain⟨r,s,q,o,d,u,t,k⟩:=p;injection o with j m l;subst j m l;simp only[eS]at d;subst d;rcases A with _|j
 ·have:xs=[]:=by
   rcases Nat.eq_zero_or_pos xs.length with d|d
   ·exact de d
   ·obtain⟨_,_,p,_⟩:=k d;cases p
  subst this;exact Lib.run_convert_nil_bytes w a b e c h f g
 ·exact run_convert_bytes_back w a b e j c xs h f g (fun l d=>i j rfl l _ (by simp[d,B8]))
theorem Od{P:Program}(t e:TypeId)(g:P.underlying t=some (.slice e))(a: ∀w,(sizeOf e).run P w=.ok 1 w)(A:Option Addr)(b c l h:Nat)(d:l<=h)(f:h<=c)(w:World):
  (Instr.slice t (.slice A b c) (some (rv (l:Int))) (some (rv (h:Int))) none).run P w=.ok (.slice (if c=l then A else A.map (·.add (l*1))) (h-l) (c-l)) w:=by
 simp[Instr.slice,run_underlying g,Instr.sliceBounds,run_sliceBound,d,f,a]
theorem bp.rd{w:World}{F:Nat->Prop}{b:Nat}{all:List UInt8}{pos:Nat}(h:bp w F b all pos): ∃A d,w.cell? ⟨b,0,none⟩=some (.slice A all.length d)/\Rd w (fun _=>True) (.slice A all.length d) (all.map B8):=by obtain⟨v,c,e,f,a,g⟩:=h;obtain⟨A,d,rfl⟩:=ar a;exact⟨A,d,by simp[World.cell?,c],Rd.bO a (fun _ _=>trivial)⟩
def Oe(most:Nat)(F:Nat->Prop)(b:Nat)(all:List UInt8)(pos:Nat)(d:Bool)(w:World)(e:Ending)(w':World):Prop:=
 Only (fun k=>k=b) w w'/\match Gl most (all.drop pos)with
  |some (t,rest)=>e=.returned (.tuple #[sd t,rv 0])/\ ∃a,rest=all.drop a/\pos<=a/\bp w' F b all a
  |none=>(∃c:Int,(c=10\/c=11\/c=23)/\e=.returned (.tuple #[.string ⟨#[]⟩,rv c]))/\ ∃a,(d=true->a=pos)/\bp w' F b all a
theorem Og(w:World)(F:Nat->Prop)(b:Nat)(all:List UInt8)(pos most:Nat)(h:bp w F b all pos)(Z:most<=65536):
  Calls prog 153 #[.agg #[r7 b,rv most]] w (Oe most F b all pos false w):=by
 have e:=an w (tn b most);have c:Only (fun o=>o=b) w (w.alloc (tn b most)):=(oT _ _).alloc _;have d:=h.below ((aw w.heap.size w).alloc (b8 _) (tn b most));obtain⟨_,_,_,_,_,hb,_⟩:=h.at_;have a:=AM e c d;clear e c d h;go_enter func153,ntmps153;go_wp2_with fail;generalize w.alloc (tn b most)=c at *;refine(tV c F b all pos a.o.d).m ?_;rintro e m ⟨c,s⟩;have H:w.heap.size≠b:=by omega
 have i:m.heap[w.heap.size]?=some (tn b most):=c.heap a.o.1 H;have d:Only (fun o=>o=b) w m:=a.o.2.1.x c (fun _ _ h=>h);have A:m.cell? ⟨w.heap.size,0,none⟩=some (r7 b):=by simp[World.cell?,i]
 have u:m.cell? ⟨w.heap.size,1,none⟩=some (rv most):=by simp[World.cell?,i]
 have v:=AI i d;clear c i d a
 cases hg:BW (all.drop pos)with
 |none=>
  rw[hg]at s;obtain⟨⟨d,j,rfl⟩,a,f⟩:=s;have c:Gl most (all.drop pos)=none:=by simp[Gl,hg]
  have g:=al c;have k:(d !=0)=true:=by rcases j with rfl|rfl<;>rfl
  clear hg c;go_wp2_with fail
  go_ret2
  refine⟨v.o.2,?_⟩;rw[g.o];exact⟨⟨d,j.imp_right .inl,rfl⟩,a,(fun h=>by cases h),f⟩
 |some x=>
  obtain⟨n,E⟩:=x;rw[hg]at s;obtain⟨rfl,a,p,W,f⟩:=s;have S:=(uW hg).2;have g:=AI hg p;clear hg;by_cases R:n<=most
  ·obtain⟨N,M,q,t,C,i,O,P,G,_⟩:=f.at_;have Q:E.length=all.length-a:=by rw[p];simp
   unfold maxLen at G;clear p;go_wp2_with fail;refine(JK m F b all a f).m ?_;rintro e k ⟨rfl,d⟩;have r:((all.length-a:Nat):Int)=(all.length:Int)-(a:Int):=by omega
   rw[r];have y:=d.cell A id;have K:=d.cell u id;have B:=d.cell q id;have z:=d.cell t id;have l:=f.only d (fun _ _=>id)
   have D:k.frozen? ⟨b,1,none⟩=false:=by obtain⟨_,_,_,_,L,_⟩:=l.at_;exact L
   have x:Only (fun o=>o=b) w k:=v.o.2.x d (fun _ _ h=>h.elim);have j:=AI l x;clear r d l x A u q t C;by_cases T:n<=all.length-a
   ·have J:=j.o.1.rd;obtain⟨X,U,q,t⟩:=J;rw[B]at q;injection q with q;injection q with l _ d;subst l d;have l:=We t a n (by omega);have u:=Od (P:=prog) 53 5 underlying53 (fun _=>by kernel_rfl) N all.length M a (a+n) (by omega) (by omega);rw[show a+n-a=n by omega]at u;have r:(all.map B8).drop a=((all.drop a).map B8):=by simp
    rw[r,<-mc]at l;generalize (if M=a then N else N.map (·.add (a*1)))=d at *;generalize M-a=x at *
    have I: ∀o,(convert 53 9 (.slice d n x)).run prog (k.drewN o)=.ok (.string ⟨((all.drop a).take n).toArray⟩) (k.drewN o):=fun o=>uZ 53 9 5 underlying53 underlying5 underlying9 (l.drewN o)
    have c:Gl most (all.drop pos)=some ((all.drop a).take n,all.drop (a+n)):=by simp only[Gl,g.o.1];rw[fi (by omega),g.o.2];simp
    have d:=al c;generalize (all.drop a).take n=x at *;have A:((a+n:Nat):Int)=(a:Int)+(n:Int):=by omega
    rw[A]at u;clear c l t r;go_wp2_with fail;go_quiet(fail);obtain⟨C,r⟩:=rl (k.drewN nq);rw[r];have l:=lY r;have V:=l.cell y id;have Y:=l.cell z id;have xz:C.frozen? ⟨b,1,none⟩=false:=by rw[<-r];exact D
    have t:=(j.o.1.only l (fun _ _=>id)).set (a+n) (by omega);have x:Only (fun o=>o=b) w (C.setCell ⟨b,1,none⟩ (rv ((a+n:Nat):Int))):=Only.setCell (j.o.2.x l (fun _ _ h=>h.elim)) (p:=⟨b,1,none⟩) (fun _=>rfl) _;rw[A]at t x;have o:=AI t x;clear t x r I u y K B z D l;go_wp2_with fail
    go_ret2
    refine⟨o.o.2,?_⟩;rw[d.o];exact⟨rfl,a+n,rfl,by omega,o.o.1⟩
   ·have c:Gl most (all.drop pos)=none:=by
     simp only[Gl,g.o.1];rw[ff (by omega)]
    have d:=al c;clear c;go_wp2_with fail
    go_ret2
    refine⟨j.o.2,?_⟩;rw[d.o];exact⟨⟨11,.inr (.inl rfl),rfl⟩,a,(fun h=>by cases h),j.o.1⟩
  ·have c:Gl most (all.drop pos)=none:=by
    simp only[Gl,g.o.1];rw[ff (by omega)]
   have d:=al c;clear c p;go_wp2_with fail
   go_ret2
   refine⟨v.o.2,?_⟩;rw[d.o];exact⟨⟨23,.inr (.inr rfl),rfl⟩,a,(fun h=>by cases h),f⟩
theorem Oh(w:World)(F:Nat->Prop)(b:Nat)(all:List UInt8)(pos most:Nat)(l:bp w F b all pos)(n:most<=65536):
  Calls prog 152 #[r7 b,.func (.func 153) #[.agg #[r7 b,rv most]] #[]] w (Oe most F b all pos true w):=by
 have H:=al l;obtain⟨A,y,a,s,c,u,m,q,r,_⟩:=l.at_;clear l a c;go_enter func152,ntmps152;go_wp2_with fail;refine(Og w F b all pos most H.o n).m ?_;rintro v o ⟨c,d⟩
 cases hg:Gl most (all.drop pos)with
 |none=>
  rw[hg]at d;obtain⟨⟨i,k,rfl⟩,f,_,e⟩:=d;have a:=AI hg c;have p:(i !=0)=true:=by rcases k with rfl|rfl|rfl<;>rfl
  clear hg c;go_wp2_with fail;refine(Cn o F b all f pos e m).m ?_;rintro v t ⟨rfl,h,g⟩;have j:=AI h g;clear h g;go_wp2_with fail
  go_ret2
  refine⟨a.o.2.x j.o.1 (fun _ _ l=>l),?_⟩;rw[a.o.1];exact⟨⟨i,k,rfl⟩,pos,fun _=>rfl,j.o.2⟩
 |some x=>
  obtain⟨j,i⟩:=x;rw[hg]at d;obtain⟨rfl,f,g,h,e⟩:=d;have a:=AM hg c g;clear hg c g;go_wp2_with fail
  go_ret2
  refine⟨a.o.2.1,?_⟩;rw[a.o.1];exact⟨rfl,f,a.o.d,h,e⟩
theorem Ss(w:World)(F:Nat->Prop)(b:Nat)(all:List UInt8)(pos most:Nat)(h:bp w F b all pos)(e:most<=65536):
  Calls prog 94 #[r7 b,rv most] w (Oe most F b all pos true w):=by
 have H:=al h;clear h;go_enter func94,ntmps94;go_wp2_with fail;refine(Oh w F b all pos most H.o e).m ?_;rintro k h d;have c:=al d;obtain⟨j,a⟩:=d
 cases hg:Gl most (all.drop pos)with
 |none=>
  rw[hg]at a;obtain⟨⟨g,i,rfl⟩,f⟩:=a;clear hg;go_wp2_with fail
  go_ret2
  exact c.o
 |some x=>
  obtain⟨n,f⟩:=x;rw[hg]at a;obtain⟨rfl,_⟩:=a;clear hg;go_wp2_with fail
  go_ret2
  exact c.o
theorem JL(w:World)(F:Nat->Prop)(v:Value)(all:List UInt8)(a:Rd w F v (all.map B8))(e:all.length<=140737488355328):
  Calls prog 58 #[v] w fun k w'=> ∃b,k=.returned (r7 b)/\Below w.heap.size w w'/\bp w' (fun c=>w.heap.size<=c) b all 0:=by
 obtain⟨A,n,l,rfl,_⟩:=id a;have g:=al a;clear a;go_enter func58,ntmps58;go_wp2_with fail;refine(jr _ _ F _ g.o (sD all) (by simpa using e)).m ?_;rintro k f ⟨h,i,rfl,c,d⟩;rw[eS]at c⊢;have a:=AI c d;clear c d;go_wp2_with fail;go_ret
 have c:=a.o.2.size;refine⟨f.heap.size,rfl,a.o.2.alloc c _,.slice h all.length i,an _ _,c,dq _,dF (a.o.1.alloc _) (fun _ _=>dq _),fun j d=>⟨(a.o.1.lt j d).1,?_⟩⟩;have:=(a.o.1.lt j d).2;omega
def qf(n:Int):Nat:=if n<0 then 2*(-1-n).toNat+1 else 2*n.toNat
def Oi(n:Nat):Int:=if n%2=1 then -1-((n/2:Nat):Int)else((n/2:Nat):Int)
theorem Su(n:Int):Oi (qf n)=n:=by unfold Oi qf;split<;>split<;>omega
theorem Oj{n:Int}(b: -9223372036854775808<=n)(a:n<=9223372036854775807):qf n<18446744073709551616:=by unfold qf;split<;>omega
def mL(a:List UInt8):Option (Int×List UInt8):=(tO 0 0 a).map fun x=>(Oi x.1,x.2)
theorem Wf(w:World)(F:Nat->Prop)(b:Nat)(a:List UInt8)(c:yT w F b a)(n:Int)(h: -9223372036854775808<=n)(g:n<=9223372036854775807)(e:a.length<=1000000000):
  Calls prog 179 #[r7 b,rv n] w (Wd 0 F b (a++oD (qf n)) w):=by
 have H:=al c;have d:=Oj h g;clear c;by_cases f:n<0
 focus
  have c:=AJ w F b a H.o (qf n) d e;have l:((qf n:Nat):Int)=2*(-1-n)+1:=by unfold qf;rw[fi f];omega
 rotate_left
 focus
  have c:=AJ w F b a H.o (qf n) d e;have l:((qf n:Nat):Int)=2*n:=by unfold qf;rw[ff f];omega
 all_goals
  rw[l]at c;have k:=al c;clear c d l;go_enter func179,ntmps179;go_wp2_with fail;refine k.o.m ?_;rintro l m ⟨rfl,j,d,i,c⟩;go_wp2_with fail;go_ret
  exact⟨rfl,j,d,i,c⟩
def acd(F:Nat->Prop)(b:Nat)(all:List UInt8)(pos:Nat)(w:World)(e:Ending)(w':World):Prop:=
 Only (fun k=>k=b) w w'/\match mL (all.drop pos)with
  |some (n,rest)=>e=.returned (.tuple #[rv n,rv 0])/\ ∃a,rest=all.drop a/\pos<=a/\bp w' F b all a
  |none=>e=.returned (.tuple #[rv 0,rv 11])/\ ∃a,bp w' F b all a
theorem Lq(w:World)(F:Nat->Prop)(b:Nat)(all:List UInt8)(pos:Nat)(h:bp w F b all pos):
  Calls prog 151 #[r7 b] w (acd F b all pos w):=by
 have H:=al h;clear h;go_enter func151,ntmps151;go_wp2_with fail;refine(xg w F b all pos H.o).m ?_;rintro r p ⟨g,a⟩
 cases hg:tO 0 0 (all.drop pos)with
 |none=>
  rw[hg]at a;obtain⟨rfl,f,d⟩:=a;have c:=al (show mL (all.drop pos)=none by simp[mL,hg]);clear hg;go_wp2_with fail
  go_ret2
  refine⟨g,?_⟩;rw[c.o];exact⟨rfl,f,d⟩
 |some x=>
  obtain⟨n,i⟩:=x;rw[hg]at a;obtain⟨rfl,f,e,j,d⟩:=a
  have o:n<18446744073709551616:=by obtain⟨q,a,_,k,_⟩:=BV _ 0 0 n i (by omega) hg;simp at a k;omega
  have c:=AI (show mL (all.drop pos)=some (Oi n,i) by simp[mL,hg]) e;have m:=and_one_u64 (n:Int) (by omega) (by omega);clear hg e;by_cases e:n%2=1
  ·have l:(n:Int)%2=1:=by omega
   have h:=al (show Oi n= -1-(n:Int)/2 by unfold Oi;rw[fi e];omega);clear e;go_wp2_with fail
   go_ret2
   refine⟨g,?_⟩;rw[c.o.1];refine⟨?_,f,c.o.2,j,d⟩;rw[h.o];rfl
  ·have l:((n:Int)%2==1)=false:=by simp;omega
   have h:=al (show Oi n=(n:Int)/2 by unfold Oi;rw[ff e];omega);clear e;go_wp2_with fail
   go_ret2
   refine⟨g,?_⟩;rw[c.o.1];refine⟨?_,f,c.o.2,j,d⟩;rw[h.o];rfl
def Z7(F:Nat->Prop)(b:Nat)(all:List UInt8)(pos:Nat)(w:World)(e:Ending)(w':World):Prop:=
 Only (fun k=>k=b) w w'/\match mL (all.drop pos)with
  |some (n,rest)=>e=.returned (.tuple #[rv n,rv 0])/\ ∃a,rest=all.drop a/\pos<=a/\bp w' F b all a
  |none=>e=.returned (.tuple #[rv 0,rv 11])/\bp w' F b all pos
theorem Ol(w:World)(F:Nat->Prop)(b:Nat)(all:List UInt8)(pos:Nat)(j:bp w F b all pos):
  Calls prog 149 #[r7 b,.func (.func 151) #[r7 b] #[]] w (Z7 F b all pos w):=by
 have H:=al j;obtain⟨A,s,a,o,c,q,k,m,n,_⟩:=j.at_;clear j a c;go_enter func149,ntmps149;go_wp2_with fail;refine(Lq w F b all pos H.o).m ?_;rintro r l ⟨c,d⟩
 cases hg:mL (all.drop pos)with
 |none=>
  rw[hg]at d;obtain⟨rfl,f,e⟩:=d;have a:=AI hg c;clear hg c;go_wp2_with fail;refine(Cn l F b all f pos e k).m ?_;rintro r p ⟨rfl,h,g⟩;have i:=AI h g;clear h g;go_wp2_with fail
  go_ret2
  refine⟨a.o.2.x i.o.1 (fun _ _ j=>j),?_⟩;rw[a.o.1];exact⟨rfl,i.o.2⟩
 |some x=>
  obtain⟨p,i⟩:=x;rw[hg]at d;obtain⟨rfl,f,g,h,e⟩:=d;have a:=AM hg c g;clear hg c g;go_wp2_with fail
  go_ret2
  refine⟨a.o.2.1,?_⟩;rw[a.o.1];exact⟨rfl,f,a.o.d,h,e⟩
theorem Om(w:World)(F:Nat->Prop)(b:Nat)(all:List UInt8)(pos:Nat)(h:bp w F b all pos):
  Calls prog 87 #[r7 b] w (Z7 F b all pos w):=by
 have H:=al h;clear h;go_enter func87,ntmps87;go_wp2_with fail;refine(Ol w F b all pos H.o).m ?_;rintro h f d;have c:=al d;obtain⟨g,a⟩:=d
 cases hg:mL (all.drop pos)with
 |none=>
  rw[hg]at a;obtain⟨rfl,e⟩:=a;clear hg;go_wp2_with fail
  go_ret2
  exact c.o
 |some x=>
  obtain⟨n,e⟩:=x;rw[hg]at a;obtain⟨rfl,_⟩:=a;clear hg;go_wp2_with fail
  go_ret2
  exact c.o
def fX(r:Rw):List UInt8:=oD (qf r.a)++oD (qf r.b)++oD (qf r.c)++oD (qf r.d)
theorem rF(r:Rw):(fX r).length<=40:=by have b:=ja (qf r.a);have c:=ja (qf r.b);have d:=ja (qf r.c);have a:=ja (qf r.d);unfold fX;simp only[gk];omega
def iH{α:Type}(f:Nat->α)(i:Nat)(v:α):Nat->α:=fun j=>if j=i then v else f j
theorem fc{α:Type}(f:Nat->α)(i:Nat)(v:α):iH f i v i=v:=fi rfl
theorem fe{α:Type}(f:Nat->α){i j:Nat}(v:α)(h:j≠i):iH f i v j=f j:=ff h
structure Ch where
 aL:Nat
 v:Int
 k:List UInt8
 add:Bool
def MW(k:List UInt8)(old now:Option Rw)(c:Nat):List Ch:=
 match old,now with
 |some o,some n=>if o.aL c=n.aL c then[]else[⟨c,o.aL c,k,false⟩,⟨c,n.aL c,k,true⟩]
 |some o,none=>[⟨c,o.aL c,k,false⟩]
 |none,some n=>[⟨c,n.aL c,k,true⟩]
 |none,none=>[]
def jl(k:List UInt8)(old now:Option Rw):Nat->List Ch
 |0=>[]
 |c+1=>jl k old now c++MW k old now c
def Lr(k:List UInt8)(old now:Option Rw):List Ch:=jl k old now 4
theorem vg(k:List UInt8)(old now:Option Rw)(c:Nat):(MW k old now c).length<=2:=by unfold MW;cases old<;>cases now<;>simp;split<;>simp
theorem rG(k:List UInt8)(old now:Option Rw): ∀c,(jl k old now c).length<=2*c
 |0=>by simp[jl]
 |c+1=>by have a:=rG k old now c;have b:=vg k old now c;simp only[jl,gk];omega
theorem Sw{k:List UInt8}{old now:Option Rw}{c:Nat}{x:Ch}(h:x∈MW k old now c):x.aL=c/\x.k=k:=by
 unfold MW at h;split at h
 ·split at h
  ·simp at h
  ·simp only[List.mem_cons,List.not_mem_nil,or_false]at h;rcases h with rfl|rfl<;>exact⟨rfl,rfl⟩
 ·simp only[List.mem_cons,List.not_mem_nil,or_false]at h;subst h;exact⟨rfl,rfl⟩
 ·simp only[List.mem_cons,List.not_mem_nil,or_false]at h;subst h;exact⟨rfl,rfl⟩
 ·simp at h
theorem JM{k:List UInt8}{old now:Option Rw}{x:Ch}: ∀{c:Nat},x∈jl k old now c->x.aL<c/\x.k=k
 |0,h=>by simp[jl]at h
 |c+1,h=>by
  rcases dr.1 h with h|h
  ·have:=JM h;exact⟨by omega,this.2⟩
  ·have:=Sw h;exact⟨by omega,this.2⟩
theorem Sy{k:List UInt8}{old now:Option Rw}{c:Nat}{x:Ch}(a: ∀r,old=some r-> ∀c,I6 (r.aL c))(b: ∀r,now=some r-> ∀c,I6 (r.aL c))(h:x∈MW k old now c):I6 x.v:=by
 unfold MW at h;split at h
 ·split at h
  ·simp at h
  ·simp only[List.mem_cons,List.not_mem_nil,or_false]at h;rcases h with rfl|rfl
   ·exact a _ rfl _
   ·exact b _ rfl _
 ·simp only[List.mem_cons,List.not_mem_nil,or_false]at h;subst h;exact a _ rfl _
 ·simp only[List.mem_cons,List.not_mem_nil,or_false]at h;subst h;exact b _ rfl _
 ·simp at h
theorem JN{k:List UInt8}{old now:Option Rw}{x:Ch}(a: ∀r,old=some r-> ∀c,I6 (r.aL c))(b: ∀r,now=some r-> ∀c,I6 (r.aL c)): ∀{c:Nat},x∈jl k old now c->I6 x.v
 |0,h=>by simp[jl]at h
 |c+1,h=>by
  rcases dr.1 h with h|h
  ·exact JN a b h
  ·exact Sy a b h
def Z8(k:List UInt8)(old now:Option Rw)(c:Nat)(l:List Pr):List Pr:=
 match old,now with
 |some o,some n=>if o.aL c=n.aL c then l else cK (dI (n.aL c) k,[]) (eU (dI (o.aL c) k) l)
 |some o,none=>eU (dI (o.aL c) k) l
 |none,some n=>cK (dI (n.aL c) k,[]) l
 |none,none=>l
def lg(a:Nat->List Pr)(x:Ch):Nat->List Pr:=iH a (x.aL+1) (if x.add then ins (dI x.v x.k,[]) (a (x.aL+1))else del (dI x.v x.k) (a (x.aL+1)))
theorem Wh(k:List UInt8)(old now:Option Rw)(c:Nat)(a:Nat->List Pr):(MW k old now c).foldl lg a=iH a (c+1) (Z8 k old now c (a (c+1))):=by
 have b: ∀v:List Pr,v=a (c+1)->a=iH a (c+1) v:=by
  rintro v rfl
  funext j
  unfold iH;split
  ·rename_i h;rw[h]
  ·rfl
 unfold MW Z8;split
 ·split
  ·rename_i h;simp only[List.foldl_nil];exact b _ rfl
  ·rename_i h;simp only[List.foldl_cons,List.foldl_nil,lg,if_true,my,if_false]
   funext j
   unfold iH;split
   ·rename_i e;rw[fi rfl,ou,del_eq]
   ·rfl
 ·simp only[List.foldl_cons,List.foldl_nil,lg,my,if_false,del_eq]
 ·simp only[List.foldl_cons,List.foldl_nil,lg,if_true,ou]
 ·simp only[List.foldl_nil];exact b _ rfl
theorem GN(k:List UInt8)(old now:Option Rw)(a:Nat->List Pr): ∀c,(jl k old now c).foldl lg a=fun i=>if 1<=i/\i<=c then Z8 k old now (i-1) (a i)else a i
 |0=>by
  funext i
  simp only[jl,List.foldl_nil];rw[ff (by omega)]
 |c+1=>by
  rw[jl,List.foldl_append,GN k old now a c,Wh]
  funext i
  unfold iH;by_cases h:i=c+1
  ·subst h;rw[fi rfl,ff (show ¬(1<=c+1/\c+1<=c) by omega),fi (show 1<=c+1/\c+1<=c+1 by omega)];rfl
  ·rw[ff h];show(if 1<=i/\i<=c then _ else _)=_;by_cases b:1<=i/\i<=c
   ·rw[fi b,fi ⟨b.1,by omega⟩]
   ·rw[ff b,ff (by omega)]
theorem lZ{α:Type}(p:List UInt8×α): ∀l:List (List UInt8×α),(cK p l).length<=l.length+1
 |[]=>by simp[cK]
 |q::l=>by
  have:=lZ p l;simp only[cK];split
  ·simp only[jj];omega
  ·split
   ·simp only[jj];omega
   ·simp only[jj];omega
theorem oK{α:Type}(k:List UInt8): ∀l:List (List UInt8×α),(eU k l).length<=l.length
 |[]=>by simp[eU]
 |q::l=>by
  have:=oK k l;simp only[eU];split
  ·simp only[jj];omega
  ·split
   ·simp only[jj];omega
   ·simp only[jj];omega
theorem Oo(a:Nat->List Pr)(x:Ch)(i n:Nat)(h:(a i).length<=n):(lg a x i).length<=n+1:=by
 unfold lg iH;split
 ·rename_i e;subst e;split
  ·rw[ou];have:=lZ (dI x.v x.k,([]:List UInt8)) (a (x.aL+1));omega
  ·rw[del_eq];have:=oK (dI x.v x.k) (a (x.aL+1));omega
 ·omega
theorem xj(i:Nat): ∀(xs:List Ch) (a:Nat->List Pr) (n:Nat),(a i).length<=n->(xs.foldl lg a i).length<=n+xs.length
 |[],a,n,h=>by simpa using h
 |x::xs,a,n,h=>by have:=xj i xs (lg a x) (n+1) (Oo a x i n h);simp only[List.foldl_cons,jj];omega
def fA(l:az)(i:Nat):List Pr:=if i=0 then l.map (yH fX)else sA (i-1) l
theorem Ei{l:az}{k:List UInt8}{r:Rw}(h:dK l)(c:RowsFit l)(b: ∀d,I6 (r.aL d))(i:Nat)(hi:i<5):
  (Lr k (ay k l) (some r)).foldl lg (iH (fA l) 0 (ins (k,fX r) (fA l 0))) i=fA (cK (k,r) l) i:=by
 unfold Lr;rw[GN];show(if 1<=i/\i<=4 then _ else _)=_;by_cases a:i=0
 ·subst a;rw[ff (by omega),fc];show ins (yH fX (k,r)) (l.map (yH fX))=_;rw[Jh];rfl
 ·rw[fi ⟨by omega,by omega⟩,fe _ _ a];unfold fA;rw[ff a,ff a];unfold Z8
  cases hl:ay k l with
  |none=>simp only;exact Nc (p:=(k,r)) h c b hl
  |some o=>
   simp only;split
   ·rename_i e;exact Rx h c b hl e
   ·exact Jk h c b hl
theorem Oq{l:az}{k:List UInt8}{r:Rw}(h:dK l)(c:RowsFit l)(b:ay k l=some r)(i:Nat)(hi:i<5):
  (Lr k (some r) none).foldl lg (iH (fA l) 0 (del k (fA l 0))) i=fA (eU k l) i:=by
 unfold Lr;rw[GN];show(if 1<=i/\i<=4 then _ else _)=_;by_cases a:i=0
 ·subst a;rw[ff (by omega),fc];unfold fA;rw[fi rfl,fi rfl,Ji]
 ·rw[fi ⟨by omega,by omega⟩,fe _ _ a];unfold fA;rw[ff a,ff a];unfold Z8;simp only;exact Ng h c b
theorem gA{l:az}(h:dK l)(a:RowsFit l)(i:Nat):(fA l i).length=l.length:=by
 unfold fA;split
 ·rw[eS]
 ·exact Jj h a
end Go.Proofs.YtehccbdajiiaaaaGreatDoor
