import Derived.Test.YtmkofmeojbcakaaGreatDoorC07
import Derived.Test.YtmkofmeojbcakaaGreatDoorC10
import Derived.OwnWalk
import Derived.StillTailTactics
import Derived.Deep.Cut
import Derived.LoopTactic
namespace Go.Proofs.YtmkofmeojbcakaaGreatDoor
open Go.Proofs.Tryz
set_option maxRecDepth 100000
set_option maxHeartbeats 16000000
open Go.RowKit
def kH(w:World):Prop:= ∀i:Nat,i<16->w.cell? ⟨1,i,none⟩=some (.int .u32 (xy i:Int))
theorem kH.below{w w':World}(h:kH w)(hb:Below w.heap.size w w'):kH w':=fun i hi=>(hb.cell (p:=⟨1,i,none⟩) (aq _ _ (h i hi))).x (h i hi)
theorem u32_xor{a b:Nat}(ha:a<4294967296)(hb:b<4294967296):bits BinOp.xor IntKind.u32 (a:Int) (b:Int)=((a^^^b:Nat):Int):=by
 have h:=BO ha hb;show IntKind.u32.wrap ((BitVec.ofInt 32 (a:Int)^^^BitVec.ofInt 32 (b:Int)).toNat:Int)=_;rw[BitVec.toNat_xor];have e1:(BitVec.ofInt 32 (a:Int)).toNat=a:=by simp;omega
 have e2:(BitVec.ofInt 32 (b:Int)).toNat=b:=by simp;omega
 rw[e1,e2];unfold IntKind.wrap;simp[IntKind.bits,IntKind.signed];omega
theorem KE{a:Nat}(ha:a<4294967296):bits BinOp.and IntKind.u32 (a:Int) 15=((a%16:Nat):Int):=by
 show IntKind.u32.wrap ((BitVec.ofInt 32 (a:Int)&&&BitVec.ofInt 32 15).toNat:Int)=_;rw[BitVec.toNat_and];have e1:(BitVec.ofInt 32 (a:Int)).toNat=a:=by simp;omega
 have e2:(BitVec.ofInt 32 (15:Int)).toNat=15:=by decide
 rw[e1,e2];have yU:=Nat.and_two_pow_sub_one_eq_mod a 4;simp at yU;rw[yU];unfold IntKind.wrap;simp[IntKind.bits,IntKind.signed];omega
def halves:Nat->Nat->Nat
 |0,r=>r
 |n+1,r=>YD (halves n r)
theorem Ag{r:Nat}(h:r<4294967296): ∀n,halves n r<4294967296
 |0=>h
 |n+1=>FX (Ag h n)
theorem F4(w:World)(F:Nat->Prop)(r:Nat)(A:Option Addr)(n c:Nat)(xs:List UInt8)(ht:kH w)(hr:r<4294967296)(hx:Rd w F (.slice A n c) (xs.map B8)):
  Calls prog 73 #[.int .u32 (r:Int),.slice A n c] w fun e w'=>e=.returned (.int .u32 (BN r xs:Int))/\w=w':=by
 obtain⟨hn,hm,hat⟩:xs.length=n/\n<=maxLen/\ ∀j x,xs[j]?=some x-> ∃b o,A=some ⟨b,o,none⟩/\w.cell? ⟨b,o+j,none⟩=some (.int .u8 (x.toNat:Int)):=by obtain⟨A',n',c',hv,hl,h1,h2,h3⟩:=hx;injection hv with e1 e2 e3;subst e1 e2 e3;simp at hl;refine⟨hl,by omega,fun j x hj=>?_⟩;have hlt:=(b8.1 hj).1;obtain⟨b,o,e,_,hu⟩:=h3 (by omega);exact⟨b,o,e,hu j (B8 x) (by simp[hj])⟩
 subst hn;unfold maxLen at hm;have HT:=al (ab ht (ab hat hx));clear ht hat hx;go_enter func73,ntmps73;go_wp2
 go_step3
 go_wp2
 go_step3
 go_wp2
 go_loop [0,10] (fun q i=> ∃k:Nat,k<=xs.length/\i=.int .i64 (k:Int)/\q=.int .u32 (BN r (xs.take k):Int)) (fun _ i=>xs.length-(intOf i).toNat)
 case atStart=>exact⟨0,dq _,rfl,rfl⟩
 case round=>
  obtain⟨k,hk,rfl,rfl⟩:=hrel;have hq:=BP (xs.take k) hr;by_cases hlt:k<xs.length
  ·obtain⟨x,hxk⟩: ∃x,xs[k]?=some x:=⟨_,ao hlt⟩;obtain⟨b,o,rfl,hc⟩:=HT.o.2.1 k x hxk;have hx8:=x.toNat_lt;have htk:BN r (xs.take (k+1))=Ve (BN r (xs.take k)) x:=by rw[iv,hxk];simp[BN]
   obtain⟨q,hqe⟩:=qt (BN r (xs.take k));rw[hqe]at hq htk⊢;have hx1:=u32_xor hq (show x.toNat<4294967296 by omega);have HK:=al (ab hxk (ab htk hqe));clear hxk htk hqe;go_wp2
   go_loop [0,7] (fun z i=> ∃h:Nat,h<=2/\i=.int .i64 (h:Int)/\z=.int .u32 (halves h (q^^^x.toNat):Int)) (fun _ i=>2-(intOf i).toNat)
   case atStart=>exact⟨0,by omega,rfl,rfl⟩
   case round=>
    obtain⟨h,hh,rfl,rfl⟩:=hrel;by_cases Xm:h<2
    ·have hz:=Ag (BO hq (show x.toNat<4294967296 by omega)) h;have hs:halves (h+1) (q^^^x.toNat)=YD (halves h (q^^^x.toNat)):=rfl;obtain⟨z,hze⟩:=qt (halves h (q^^^x.toNat));rw[hze]at hz hs⊢;have ha:=KE hz;have hcn:=HT.o.1 (z%16) (Nat.mod_lt _ (by decide));have hxx:=u32_xor (show z/16<4294967296 by omega) (Nc (z%16) (Nat.mod_lt _ (by decide)));have HS:=al (ab hs hxx);clear hs hze hx1 hxx;go_wp2
     go_round
     case rel=>refine⟨h+1,by omega,by go_num,?_⟩;rw[HS.o.1,show((z:Int)/16)=((z/16:Nat):Int) by omega,HS.o.2];rfl
     case measure=>simp[intOf];omega
    ·obtain rfl:h=2:=by omega
     go_wp2
     go_round
     case rel=>refine⟨k+1,by omega,by go_num,?_⟩;rw[HK.o.2.1];rfl
     case measure=>simp[intOf];omega
  ·obtain rfl:k=xs.length:=by omega
   rw[gd]at hq⊢;go_wp2
   try rw[kn]
   go_ret
   exact⟨rfl,rfl⟩
theorem Rt{n:Nat}(h:n<4294967296):4294967295^^^n=4294967295-n:=by
 apply Nat.eq_of_testBit_eq;intro i;have h1:=Nat.testBit_two_pow_sub_succ (n:=32) (x:=n) h i;have h2:(2:Nat)^32-(n+1)=4294967295-n:=by omega
 rw[h2]at h1;have h3:=Nat.testBit_two_pow_sub_one 32 i;have h4:(2:Nat)^32-1=4294967295:=by decide
 rw[h4]at h3;rw[Nat.testBit_xor,h1,h3];by_cases hi:i<32
 ·simp[hi]
 ·have:n.testBit i=false:=Nat.testBit_lt_two_pow (cq (show n<2^32 from h) (Nat.pow_le_pow_right (by decide) (by omega)));simp[hi,this]
theorem Vh(w:World)(F:Nat->Prop)(A:Option Addr)(n c:Nat)(xs:List UInt8)(ht:kH w)(hx:Rd w F (.slice A n c) (xs.map B8)):
  Calls prog 52 #[.slice A n c] w fun e w'=>e=.returned (.int .i64 (Xq xs:Int))/\w=w':=by
 have hT:=F4 w F 4294967295 A n c xs ht (by omega) hx;have hl:=BP xs (r:=4294967295) (by omega);have hz0:=u32_xor (a:=4294967295) (by omega) hl;rw[Rt hl]at hz0;have hz:bits BinOp.xor IntKind.u32 IntKind.u32.max (BN 4294967295 xs:Int)=(Xq xs:Int):=hz0;have hcl:=Nf xs;have hsg:IntKind.u32.signed=false:=rfl;clear hz0 hl;go_enter func52,ntmps52;go_wp2_with fail;refine hT.m ?_;rintro e w1 ⟨rfl,rfl⟩;go_wp2_with fail;go_ret
 exact⟨rfl,rfl⟩
def Vi(xs:List UInt8)(w:World)(en:Ending)(w':World):Prop:=
 ∃A c,en=.returned (.slice A xs.length c)/\w'.ownsRow w.heap.size 5 1 (.slice A xs.length c) xs.length (xs.map B8)/\Below w.heap.size w w'
def jv(k s:Nat):Nat:=s/256^k
theorem KF{s:Nat}: ∀k,k<4->(four s).take (k+1)=(four s).take k++[UInt8.ofNat (jv k s%256)]:=by
 intro k hk
 match k,hk with
 |0,_=>simp[four,jv]
 |1,_=>simp[four,jv]
 |2,_=>simp[four,jv]
 |3,_=>simp[four,jv]
theorem F5{a:Nat}(ha:a<9223372036854775808):bits BinOp.and IntKind.i64 (a:Int) 255=((a%256:Nat):Int):=by
 show IntKind.i64.wrap ((BitVec.ofInt 64 (a:Int)&&&BitVec.ofInt 64 255).toNat:Int)=_;rw[BitVec.toNat_and];have e1:(BitVec.ofInt 64 (a:Int)).toNat=a:=by simp;omega
 have e2:(BitVec.ofInt 64 (255:Int)).toNat=255:=by decide
 rw[e1,e2];have h:=Nat.and_two_pow_sub_one_eq_mod a 8;simp at h;rw[h];unfold IntKind.wrap;simp[IntKind.bits,IntKind.signed];omega
theorem Ru(w:World)(F:Nat->Prop)(A:Option Addr)(n c:Nat)(xs:List UInt8)(ht:kH w)(hx:Rd w F (.slice A n c) (xs.map B8))(hl:xs.length<=1000000):
  Calls prog 33 #[.slice A n c] w (Vi (kE xs) w):=by
 obtain⟨i0,hi,hz0,hz1,hz2⟩:=ep Tryz.I4
 obtain rfl:xs.length=n:=by obtain⟨A',n',c',hv,hl,h1,h2,h3⟩:=hx;injection hv with e1 e2 e3;simpa[e2]using hl
 have hS:=Vh w F A xs.length c xs ht hx;have hcl:=Nf xs;obtain⟨s,hs⟩:=qt (Xq xs);rw[hs]at hS hcl;have HX:=al (ab hx (ab ht hs));clear hx ht hs;go_enter func33,ntmps33;go_wp2_with fail;refine hS.m ?_;rintro e w1 ⟨rfl,rfl⟩;have HI:=al hi;clear hi hS;go_upto_region 3 with(at_make;go_loud (refine wpList_make_own _ rfl _ _ 41 rfl w.heap.size 5 i0 _ 1 underlying41 HI.o hz0 hz1 _ _ _ (xs.length+4) rfl rfl (by push_cast;rfl) (by rw[hz2];omega) (by unfold maxLen;omega) (aE _) ?_);intro w2 hrow2 hg2);have Vj:=hrow2;have hx2:Rd w2 F (.slice A xs.length c) (xs.map B8):=HX.o.1.below ((Only.of_grownBy hg2).below (fun k _ h=>by cases h));have HR:=al (ab hrow2 (ab hg2 hx2));clear hrow2 Vj hg2 hx2;go_wp2_with (at_builtin;go_loud (refine iJ _ rfl _ _ 41 rfl w.heap.size 5 i0 (.int .u8 0) 1 underlying41 HI.o hz0 hz1 hz2 rfl _ 0 [] rfl HR.o.1 F _ (xs.map B8) rfl HR.o.d (vX xs) (by simp;omega) (by simp[maxLen];omega) HR.o.2.1.size ?_);intro v' w1 hown1 hgrow1 _);have nC:Below w.heap.size w w1:=((Only.of_grownBy HR.o.2.1).below (fun k _ h=>by cases h)).grown hgrow1 HR.o.2.1.size (fun k hk=>by have h2:some w.heap.size=some k:=hk;injection h2 with h2;omega);have H1:=al (ab hown1 nC);clear hown1 hgrow1 nC
 go_loopw [3,4,14] (fun z v i wr=> ∃k:Nat,k<=4/\i=.int .i64 (k:Int)/\z=.int .i64 (jv k s:Int)/\wr.ownsRow w.heap.size 5 1 v (xs.length+k) ((xs++(four s).take k).map B8)/\Below w.heap.size w wr) (fun _ _ i _=>4-(intOf i).toNat)
 case atStart=>exact⟨0,by omega,rfl,by simp[jv],by simpa using H1.o.1,H1.o.2⟩
 case round=>
  obtain⟨k,hk,rfl,rfl,hown,hbl⟩:=hrel;by_cases hlt:k<4
  ·have hr1:jv k s<4294967296:=Nat.lt_of_le_of_lt (Nat.div_le_self _ _) hcl;have hr2:jv (k+1) s=jv k s/256:=by unfold jv;rw[Nat.pow_succ,Nat.div_div_eq_div_mul]
   have hft:=KF (s:=s) k hlt;obtain⟨q,hq⟩:=qt (jv k s);rw[hq]at hr1 hr2 hft⊢;have ha:=F5 (a:=q) (by omega);have hown':=hown.alloc (.cells #[.int .u8 ((q:Int)%256)] 5);have hnews:=eb (an wr (.cells #[.int .u8 ((q:Int)%256)] 5));have HO:=al (ab hown' (ab hbl (ab hr2 (ab hft (ab hq hnews)))));clear hown hown' hbl hr2 hft hq hnews;have hm0:0<=(q:Int)%256:=by omega
   have jo:(q:Int)%256<256:=by omega
   go_wp2_with (at_builtin;go_loud (refine eh _ rfl _ _ 41 rfl w.heap.size 5 i0 _ 1 1 underlying41 HI.o hz0 hz1 hz2 rfl (by decide) _ (xs.length+k) _ rfl HO.o.1 ⟨wr.heap.size,0,none⟩ 1 1 [.int .u8 ((q:Int)%256)] rfl rfl HO.o.q.2 (by simp[Value.oneCell']) (by decide) (by unfold maxLen;omega) (by omega) (by have:=HO.o.2.1.size;simp;omega) _ rfl ?_);intro g2 cap w2' hown2 hgrow2 yV aa3);go_roundw
   case rel=>
    refine⟨k+1,by omega,by go_num,?_,?_,?_⟩
    ·rw[HO.o.d.1];go_num
    ·rw[HO.o.t.1];simpa[B8,gR]using hown2
    ·exact(HO.o.2.1.alloc HO.o.2.1.size _).grown hgrow2 (by have:=HO.o.2.1.size;simp;omega) (fun j hj=>(HO.o.1.lt j hj).1)
   case measure=>simp[intOf];omega
  ·obtain rfl:k=4:=by omega
   have HO:=al (ab hown hbl);clear hown hbl;go_wp2_with fail;go_ret
   obtain⟨A',c',hv⟩:=ag HO.o.1;subst hv;have h4:(four s).take 4=four s:=rfl;have hl4:(kE xs).length=xs.length+4:=DK xs;refine⟨A',c',by rw[hl4];rfl,?_,HO.o.2⟩;have:=HO.o.1;rw[h4,<-HX.o.d]at this;rw[hl4];exact this
end Go.Proofs.YtmkofmeojbcakaaGreatDoor
