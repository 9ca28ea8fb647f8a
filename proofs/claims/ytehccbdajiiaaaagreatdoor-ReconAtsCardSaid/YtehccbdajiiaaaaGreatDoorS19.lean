import Derived.Test.YtehccbdajiiaaaaGreatDoorS07
import Derived.Test.YtehccbdajiiaaaaGreatDoorS08
import Derived.OwnWalk
import Derived.StillTailTactics
import Derived.Deep.Cut
import Derived.LoopTactic
namespace Go.Proofs.YtehccbdajiiaaaaGreatDoor
open Go.Proofs.Tryz
set_option maxRecDepth 100000
set_option maxHeartbeats 16000000
open Go.RowKit
def gZ(w:World):Prop:= ∀i:Nat,i<16->w.cell? ⟨1,i,none⟩=some (.int .u32 (xB i:Int))
theorem gZ.below{w w':World}(h:gZ w)(b:Below w.heap.size w w'):gZ w':=fun i a=>(b.cell (p:=⟨1,i,none⟩) (aq _ _ (h i a))).x (h i a)
theorem u32_xor{a b:Nat}(d:a<4294967296)(c:b<4294967296):bits BinOp.xor IntKind.u32 (a:Int) (b:Int)=((a^^^b:Nat):Int):=by
 have h:=CH d c;show IntKind.u32.wrap ((BitVec.ofInt 32 (a:Int)^^^BitVec.ofInt 32 (b:Int)).toNat:Int)=_;rw[BitVec.toNat_xor];have c:(BitVec.ofInt 32 (a:Int)).toNat=a:=by simp;omega
 have d:(BitVec.ofInt 32 (b:Int)).toNat=b:=by simp;omega
 rw[c,d];unfold IntKind.wrap;simp[IntKind.bits,IntKind.signed];omega
theorem Mz{a:Nat}(b:a<4294967296):bits BinOp.and IntKind.u32 (a:Int) 15=((a%16:Nat):Int):=by
 show IntKind.u32.wrap ((BitVec.ofInt 32 (a:Int)&&&BitVec.ofInt 32 15).toNat:Int)=_;rw[BitVec.toNat_and];have b:(BitVec.ofInt 32 (a:Int)).toNat=a:=by simp;omega
 have c:(BitVec.ofInt 32 (15:Int)).toNat=15:=by decide
 rw[b,c];have b:=Nat.and_two_pow_sub_one_eq_mod a 4;simp at b;rw[b];unfold IntKind.wrap;simp[IntKind.bits,IntKind.signed];omega
def halves:Nat->Nat->Nat
 |0,r=>r
 |n+1,r=>crh (halves n r)
theorem BH{r:Nat}(h:r<4294967296): ∀n,halves n r<4294967296
 |0=>h
 |n+1=>Ht (BH h n)
theorem IJ(w:World)(F:Nat->Prop)(r:Nat)(A:Option Addr)(n c:Nat)(xs:List UInt8)(e:gZ w)(s:r<4294967296)(a:Rd w F (.slice A n c) (xs.map B8)):
  Calls prog 192 #[.int .u32 (r:Int),.slice A n c] w fun C b=>C=.returned (.int .u32 (CG r xs:Int))/\w=b:=by
 obtain⟨g,t,b⟩:xs.length=n/\n<=maxLen/\ ∀j x,xs[j]?=some x-> ∃m o,A=some ⟨m,o,none⟩/\w.cell? ⟨m,o+j,none⟩=some (.int .u8 (x.toNat:Int)):=by obtain⟨H,K,I,u,l,G,L,B⟩:=a;injection u with d f h;subst d f h;simp at l;refine⟨l,by omega,fun j x d=>?_⟩;have f:=(aw.1 d).1;obtain⟨m,o,C,_,v⟩:=B (by omega);exact⟨m,o,C,v j (B8 x) (by simp[d])⟩
 subst g;unfold maxLen at t;have j:=AF e b a;clear e b a;go_enter func192,ntmps192;go_wp2
 go_step3
 go_wp2
 go_step3
 go_wp2
 go_loop [0,10] (fun q i=> ∃k:Nat,k<=xs.length/\i=rm (k:Int)/\q=.int .u32 (CG r (xs.take k):Int)) (fun _ i=>xs.length-(intOf i).toNat)
 case atStart=>exact⟨0,dq _,rfl,rfl⟩
 case round=>
  obtain⟨k,N,rfl,rfl⟩:=hrel;have b:=CI (xs.take k) s;by_cases f:k<xs.length
  ·obtain⟨x,a⟩: ∃x,xs[k]?=some x:=⟨_,ao f⟩;obtain⟨m,o,rfl,O⟩:=j.o.2.1 k x a;have D:=x.toNat_lt;have d:CG r (xs.take (k+1))=Xo (CG r (xs.take k)) x:=by rw[gO,a];simp[CG]
   obtain⟨q,e⟩:=rk (CG r (xs.take k));rw[e]at b d⊢;have p:=u32_xor b (show x.toNat<4294967296 by omega);have y:=AF a d e;clear a d e;go_wp2
   go_loop [0,7] (fun z i=> ∃h:Nat,h<=2/\i=rm (h:Int)/\z=.int .u32 (halves h (q^^^x.toNat):Int)) (fun _ i=>2-(intOf i).toNat)
   case atStart=>exact⟨0,by omega,rfl,rfl⟩
   case round=>
    obtain⟨h,M,rfl,rfl⟩:=hrel;by_cases P:h<2
    ·have i:=BH (CH b (show x.toNat<4294967296 by omega)) h;have a:halves (h+1) (q^^^x.toNat)=crh (halves h (q^^^x.toNat)):=rfl;obtain⟨z,d⟩:=rk (halves h (q^^^x.toNat));rw[d]at i a⊢;have J:=Mz i;have E:=j.o.1 (z%16) (Nat.mod_lt _ (by decide));have e:=u32_xor (show z/16<4294967296 by omega) (OP (z%16) (Nat.mod_lt _ (by decide)));have g:=AD a e;clear a d p e;go_wp2
     go_round
     case rel=>refine⟨h+1,by omega,by go_num,?_⟩;rw[g.o.1,show((z:Int)/16)=((z/16:Nat):Int) by omega,g.o.2];rfl
     case measure=>simp[intOf];omega
    ·obtain rfl:h=2:=by omega
     go_wp2
     go_round
     case rel=>refine⟨k+1,by omega,by go_num,?_⟩;rw[y.o.2.1];rfl
     case measure=>simp[intOf];omega
  ·obtain rfl:k=xs.length:=by omega
   rw[gE]at b⊢;go_wp2
   try rw[gx]
   go_ret
   exact⟨rfl,rfl⟩
theorem T6{n:Nat}(h:n<4294967296):4294967295^^^n=4294967295-n:=by
 apply Nat.eq_of_testBit_eq;intro i;have b:=Nat.testBit_two_pow_sub_succ (n:=32) (x:=n) h i;have a:(2:Nat)^32-(n+1)=4294967295-n:=by omega
 rw[a]at b;have a:=Nat.testBit_two_pow_sub_one 32 i;have c:(2:Nat)^32-1=4294967295:=by decide
 rw[c]at a;rw[Nat.testBit_xor,b,a];by_cases a:i<32
 ·simp[a]
 ·have:n.testBit i=false:=Nat.testBit_lt_two_pow (da (show n<2^32 from h) (Nat.pow_le_pow_right (by decide) (by omega)));simp[a,this]
theorem X4(w:World)(F:Nat->Prop)(A:Option Addr)(n c:Nat)(xs:List UInt8)(d:gZ w)(f:Rd w F (.slice A n c) (xs.map B8)):
  Calls prog 147 #[.slice A n c] w fun g a=>g=.returned (rm (ZQ xs:Int))/\w=a:=by
 have e:=IJ w F 4294967295 A n c xs d (by omega) f;have b:=CI xs (r:=4294967295) (by omega);have a:=u32_xor (a:=4294967295) (by omega) b;rw[T6 b]at a;have j:bits BinOp.xor IntKind.u32 IntKind.u32.max (CG 4294967295 xs:Int)=(ZQ xs:Int):=a;have i:=OQ xs;have h:IntKind.u32.signed=false:=rfl;clear a b;go_enter func147,ntmps147;go_wp2_with fail;refine e.m ?_;rintro g a ⟨rfl,rfl⟩;go_wp2_with fail;go_ret
 exact⟨rfl,rfl⟩
def Qe(xs:List UInt8)(w:World)(a:Ending)(w':World):Prop:=
 ∃A c,a=.returned (.slice A xs.length c)/\w'.ownsRow w.heap.size 5 1 (.slice A xs.length c) xs.length (xs.map B8)/\Below w.heap.size w w'
theorem MA(v:Value)(xs:List UInt8)(F:Nat->Prop)(w:World)(a:Rd w F v (xs.map B8))(b:xs.length<=140737488355328):
  Calls prog 46 #[v] w (Qe xs w):=by
 refine(jz v (xs.map B8) F w a (tz xs) (by simpa using b)).m ?_;rintro e c ⟨A,d,rfl,a,b⟩;rw[fa]at a⊢;exact⟨A,d,rfl,a,b⟩
def jK(k s:Nat):Nat:=s/256^k
theorem MB{s:Nat}: ∀k,k<4->(four s).take (k+1)=(four s).take k++[UInt8.ofNat (jK k s%256)]:=by
 intro k a
 match k,a with
 |0,_=>simp[four,jK]
 |1,_=>simp[four,jK]
 |2,_=>simp[four,jK]
 |3,_=>simp[four,jK]
theorem IK{a:Nat}(b:a<9223372036854775808):bits BinOp.and IntKind.i64 (a:Int) 255=((a%256:Nat):Int):=by
 show IntKind.i64.wrap ((BitVec.ofInt 64 (a:Int)&&&BitVec.ofInt 64 255).toNat:Int)=_;rw[BitVec.toNat_and];have b:(BitVec.ofInt 64 (a:Int)).toNat=a:=by simp;omega
 have c:(BitVec.ofInt 64 (255:Int)).toNat=255:=by decide
 rw[b,c];have h:=Nat.and_two_pow_sub_one_eq_mod a 8;simp at h;rw[h];unfold IntKind.wrap;simp[IntKind.bits,IntKind.signed];omega
theorem T8(w:World)(F:Nat->Prop)(A:Option Addr)(n c:Nat)(xs:List UInt8)(ht:gZ w)(hx:Rd w F (.slice A n c) (xs.map B8))(hl:xs.length<=1000000):
  Calls prog 84 #[.slice A n c] w (Qe (gF xs) w):=by
 obtain⟨i0,hi,hz0,hz1,hz2⟩:=eh Tryz.OT
 obtain rfl:xs.length=n:=by obtain⟨A',n',c',hv,hl,h1,h2,h3⟩:=hx;injection hv with e1 e2 e3;simpa[e2]using hl
 have hS:=X4 w F A xs.length c xs ht hx;have hcl:=OQ xs;obtain⟨s,hs⟩:=rk (ZQ xs);rw[hs]at hS hcl;have HX:=AF hx ht hs;clear hx ht hs;go_enter func84,ntmps84;go_wp2_with fail;refine hS.m ?_;rintro e w1 ⟨rfl,rfl⟩;have HI:=al hi;clear hi hS;go_upto_region 3 with(at_make;go_loud (refine wpList_make_own _ rfl _ _ 53 rfl w.heap.size 5 i0 _ 1 underlying53 HI.o hz0 hz1 _ _ _ (xs.length+4) rfl rfl (by push_cast;rfl) (by rw[hz2];omega) (by unfold maxLen;omega) (b8 _) ?_);intro w2 hrow2 hg2);have X5:=hrow2;have hx2:Rd w2 F (.slice A xs.length c) (xs.map B8):=HX.o.1.below ((Only.of_grownBy hg2).below (fun k _ h=>by cases h));have HR:=AF hrow2 hg2 hx2;clear hrow2 X5 hg2 hx2;go_wp2_with (at_builtin;go_loud (refine ja _ rfl _ _ 53 rfl w.heap.size 5 i0 (.int .u8 0) 1 underlying53 HI.o hz0 hz1 hz2 rfl _ 0 [] rfl HR.o.1 F _ (xs.map B8) rfl HR.o.d (tz xs) (by simp;omega) (by simp[maxLen];omega) HR.o.2.1.size ?_);intro v' w1 hown1 hgrow1 _);have lY:Below w.heap.size w w1:=((Only.of_grownBy HR.o.2.1).below (fun k _ h=>by cases h)).grown hgrow1 HR.o.2.1.size (fun k hk=>by have h2:some w.heap.size=some k:=hk;injection h2 with h2;omega);have H1:=AD hown1 lY;clear hown1 hgrow1 lY
 go_loopw [3,4,14] (fun z v i wr=> ∃k:Nat,k<=4/\i=rm (k:Int)/\z=rm (jK k s:Int)/\wr.ownsRow w.heap.size 5 1 v (xs.length+k) ((xs++(four s).take k).map B8)/\Below w.heap.size w wr) (fun _ _ i _=>4-(intOf i).toNat)
 case atStart=>exact⟨0,by omega,rfl,by simp[jK],by simpa using H1.o.1,H1.o.2⟩
 case round=>
  obtain⟨k,hk,rfl,rfl,hown,hbl⟩:=hrel;by_cases hlt:k<4
  ·have hr1:jK k s<4294967296:=Nat.lt_of_le_of_lt (Nat.div_le_self _ _) hcl;have hr2:jK (k+1) s=jK k s/256:=by unfold jK;rw[Nat.pow_succ,Nat.div_div_eq_div_mul]
   have hft:=MB (s:=s) k hlt;obtain⟨q,hq⟩:=rk (jK k s);rw[hq]at hr1 hr2 hft⊢;have ha:=IK (a:=q) (by omega);have hown':=hown.alloc (.cells #[.int .u8 ((q:Int)%256)] 5);have hnews:=eb (an wr (.cells #[.int .u8 ((q:Int)%256)] 5));have HO:=AN hown' hbl hr2 hft hq hnews;clear hown hown' hbl hr2 hft hq hnews;have hm0:0<=(q:Int)%256:=by omega
   have kg:(q:Int)%256<256:=by omega
   go_wp2_with (at_builtin;go_loud (refine et _ rfl _ _ 53 rfl w.heap.size 5 i0 _ 1 1 underlying53 HI.o hz0 hz1 hz2 rfl (by decide) _ (xs.length+k) _ rfl HO.o.1 ⟨wr.heap.size,0,none⟩ 1 1 [.int .u8 ((q:Int)%256)] rfl rfl HO.o.q.2 (by simp[Value.oneCell']) (by decide) (by unfold maxLen;omega) (by omega) (by have:=HO.o.2.1.size;simp;omega) _ rfl ?_);intro g2 cap w2' hown2 hgrow2 Ab acP);go_roundw
   case rel=>
    refine⟨k+1,by omega,by go_num,?_,?_,?_⟩
    ·rw[HO.o.d.1];go_num
    ·rw[HO.o.t.1];simpa[B8,gC]using hown2
    ·exact(HO.o.2.1.alloc HO.o.2.1.size _).grown hgrow2 (by have:=HO.o.2.1.size;simp;omega) (fun j hj=>(HO.o.1.lt j hj).1)
   case measure=>simp[intOf];omega
  ·obtain rfl:k=4:=by omega
   have HO:=AD hown hbl;clear hown hbl;go_wp2_with fail;go_ret
   obtain⟨A',c',hv⟩:=ai HO.o.1;subst hv;have h4:(four s).take 4=four s:=rfl;have hl4:(gF xs).length=xs.length+4:=oX xs;refine⟨A',c',by rw[hl4];rfl,?_,HO.o.2⟩;have:=HO.o.1;rw[h4,<-HX.o.d]at this;rw[hl4];exact this
theorem IL(w:World)(F G:Nat->Prop)(i j:Value)(xs ys:List UInt8)(t:Rd w F i (xs.map B8))(p:Rd w G j (ys.map B8)):
  Calls prog 83 #[i,j] w (fJ (xs=ys) w):=by
 obtain⟨N,M,O,rfl,d,I,r,c⟩:=t;obtain⟨A,D,C,rfl,a,v,o,b⟩:=p;simp only[fa]at d a;subst d a;unfold maxLen at r o;have n:=al c;have g:=al b;clear c b;by_cases a:xs.length=ys.length
 ·rw[<-a];have b:=al a;clear a;go_enter func83,ntmps83;go_wp2
  go_loopw [13] (fun d c=> ∃k:Nat,k<=xs.length/\d=rm (k:Int)/\xs.take k=ys.take k/\ ∃u,c=w.drewN u) (fun d _=>xs.length-(intOf d).toNat)
  case atStart=>exact⟨0,dq _,rfl,rfl,0,rfl⟩
  case round=>
   obtain⟨k,E,rfl,c,u,rfl⟩:=hrel;have l:=al c;clear c;by_cases f:k<xs.length
   ·obtain⟨x,c⟩: ∃x,xs[k]?=some x:=⟨_,ao f⟩;obtain⟨y,e⟩: ∃y,ys[k]?=some y:=⟨_,ao (by rw[<-b.o];exact f)⟩;obtain⟨K,L,rfl,_,m⟩:=n.o (by omega);obtain⟨q,s,rfl,_,h⟩:=g.o (by rw[<-b.o];omega);have J:w.cell? ⟨K,L+k,none⟩=some (.int .u8 (x.toNat:Int)):=m k (B8 x) (by simp[c]);have z:w.cell? ⟨q,s+k,none⟩=some (.int .u8 (y.toNat:Int)):=h k (B8 y) (by simp[e]);have H:(0:Int)<=(k:Int):=by omega
    have B:(k:Int)<(xs.length:Int):=by omega
    have d:=AD c e;clear m h n g c e;go_wp2;by_cases c:x=y
    ·subst c;go_quiet(fail);go_wp2;go_roundw
     case rel=>exact⟨k+1,by omega,by go_num,by rw[gO,gO,d.o.1,d.o.2,l.o],_,rfl⟩
     case measure=>simp[intOf];omega
    ·have e:((x.toNat:Int) !=(y.toNat:Int))=true:=by
      have:x.toNat≠y.toNat:=fun h=>c (UInt8.toNat_inj.1 h);simp;omega
     have g:=al c;clear c;go_quiet(fail);go_wp2;go_ret
     refine fJ.no (fun h=>g.o ?_) (below_drewN (below_drewN (bd _ _) _) _);have c:=d.o.1;rw[h,d.o.2]at c;injection c with c;exact c.symm
   ·obtain rfl:k=xs.length:=by omega
    go_wp2;go_ret
    refine fJ.yes ?_ (below_drewN (bd _ _) _);have:=l.o;rw[gE,b.o,gE]at this;exact this
 ·have e:((xs.length:Int) !=(ys.length:Int))=true:=by simp;omega
  have b:=al a;clear a;go_enter func83,ntmps83;go_wp2;go_ret
  exact fJ.no (fun h=>b.o (by rw[h])) (bd _ _)
theorem Rd.head{w:World}{F:Nat->Prop}{A:Option Addr}{n c:Nat}{xs:List UInt8}(j:Rd w F (.slice A n c) (xs.map B8)){m:Nat}(a:m<=n):Rd w F (.slice A m c) ((xs.take m).map B8):=by obtain⟨f,i,h,b,g,e,a,d⟩:=j;injection b with b e f;subst b e f;simp at g;refine⟨A,m,c,rfl,by simp;omega,by omega,a,fun a=>?_⟩;obtain⟨e,o,f,a,b⟩:=d (by omega);refine⟨e,o,f,a,fun j u a=>b j u ?_⟩;have b:=(aw.1 a).1;rw[mc,List.getElem?_take_of_lt (by simp at b;omega)]at a;exact a
def abb(xs:List UInt8)(w:World)(e:Ending)(w':World):Prop:=
 Below w.heap.size w w'/\((∃a A c,xs=gF a/\e=.returned (.tuple #[.slice A a.length c,rm 0])/\w'.ownsRow w.heap.size 5 1 (.slice A a.length c) a.length (a.map B8))\/
  ((∀a,xs≠gF a)/\e=.returned (.tuple #[.slice none 0 0,rm (if xs.length<4 then 11 else 12)])))
theorem T9(w:World)(F:Nat->Prop)(v:Value)(xs:List UInt8)(d:gZ w)(a:Rd w F v (xs.map B8))(z:xs.length<=1000000):
  Calls prog 56 #[v] w (abb xs w):=by
 obtain⟨A,r,q,rfl,b,p,i,c⟩:=a;have a:Rd w F (.slice A r q) (xs.map B8):=⟨A,r,q,rfl,b,p,i,c⟩;obtain rfl:xs.length=r:=by simpa using b
 clear b c;unfold maxLen at i;have f:=AD a d;clear a d;by_cases h:xs.length<4
 ·have b:(xs.length:Int)<4:=by omega
  go_enter func56,ntmps56;go_wp2_with fail
  go_ret2
  refine⟨bd _ _,.inr ⟨fun a k=>?_,by rw[ff h];rfl⟩⟩;have:=eE List.length k;rw[oX]at this;omega
 ·go_enter func56,ntmps56;go_wp2_with fail;have c:=f.o.1.head (m:=xs.length-4) (by omega);obtain⟨a,d⟩:=rk (xs.take (xs.length-4));have e:xs.length-4=a.length:=by rw[<-d];simp
  rw[d]at c;rw[e]at c⊢;refine(T8 w F A a.length q a f.o.2 c (by omega)).m ?_;rintro s m ⟨x,y,rfl,g,j⟩;have b:=AI g j c d;clear g j c d;have l:=al e;clear e;go_wp2_with fail;refine(IL m F (fun _=>True) _ _ xs (gF a) (f.o.1.below b.o.2.1) (Rd.bO b.o.1 (fun _ _=>trivial))).m ?_;rintro s g ⟨B,e,rfl,d⟩;have c:=AD e d;clear e d
  cases B with
  |false=>
   go_wp2_with fail
   go_ret2
   refine⟨b.o.2.1.x (c.o.2.m b.o.2.1.size),.inr ⟨fun d k=>?_,by rw[fb h];rfl⟩⟩
   have e:xs=gF a:=by
    have j:a=d:=by rw[<-b.o.t,k,oX];simp[gF]
    rw[j];exact k
   have:=c.o.1.2 e;cases this
  |true=>
   have k:=al (c.o.1.1 rfl)
   have d:a.length<=140737488355328:=by have t:=l.o;omega
   have e:=MA (.slice A a.length q) a F g ((b.o.d.1.below b.o.2.1).below c.o.2) d;clear d;go_wp2_with fail;refine e.m ?_;clear e;rintro s u ⟨o,n,rfl,j,e⟩;have d:=AD j e;clear j e;go_wp2_with fail
   go_ret2
   have e:Below w.heap.size w g:=b.o.2.1.x (c.o.2.m b.o.2.1.size);refine⟨e.x (d.o.2.m e.size),.inl ⟨a,o,n,k.o,rfl,?_⟩⟩;have:=dI d.o.1 (base':=w.heap.size) (fun g a=>dd e.size (d.o.1.lt g a).1);simpa using this
end Go.Proofs.YtehccbdajiiaaaaGreatDoor
