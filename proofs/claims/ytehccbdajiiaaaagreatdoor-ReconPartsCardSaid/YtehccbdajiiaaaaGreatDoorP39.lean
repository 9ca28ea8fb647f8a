import Derived.Test.YtehccbdajiiaaaaGreatDoorP22
import Derived.Test.YtehccbdajiiaaaaGreatDoorP38
namespace Go.Proofs.YtehccbdajiiaaaaGreatDoor
open Go.Proofs.Tryz
set_option maxRecDepth 100000
set_option maxHeartbeats 16000000
open Go.RowKit
def oW(l:List UInt8):Nat:=l.foldl (fun n b=>n*256+b.toNat) 0
theorem Bl(l:List UInt8)(b:UInt8):oW (l++[b])=oW l*256+b.toNat:=by simp[oW]
theorem Kl: ∀(k n:Nat) (a:Nat),n<256^k->(be k n).foldl (fun n b=>n*256+b.toNat) a=a*256^k+n
 |0,n,a,h=>by
  have:n=0:=by omega
  simp[be,this]
 |k+1,n,a,h=>by
  rw[be,List.foldl_cons,Kl k (n%256^k) _ (Nat.mod_lt _ (Nat.pow_pos (by decide)))];have c:n/256^k<256:=by rw[Nat.div_lt_iff_lt_mul (Nat.pow_pos (by decide))];rw[Nat.pow_succ]at h;omega
  have b:(UInt8.ofNat (n/256^k)).toNat=n/256^k:=by simp;omega
  have d:=Nat.div_add_mod n (256^k);rw[b,Nat.add_mul,Nat.pow_succ,<-Nat.mul_assoc,Nat.mul_right_comm,Nat.mul_comm (n/256^k)];omega
theorem CW: ∀(l:List UInt8) (k:Nat),oW (l.take k)<256^k
 |l,0=>by simp[oW]
 |l,k+1=>by
  have a:=CW l k;by_cases h:k<l.length
  ·rw[ir,List.getElem?_eq_getElem h,Option.toList_some,Bl,Nat.pow_succ];have:=l[k].toNat_lt;omega
  ·rw[gE (by omega)]at a⊢;rw[Nat.pow_succ];omega
theorem Qk{n:Int}(h:I6 n):(oW (pfx n):Int)=n+9223372036854775808:=by unfold oW pfx;have b:=h.1;have a:=h.2;rw[Kl 8 _ 0 (by rw[show(256:Nat)^8=18446744073709551616 by decide];omega)];omega
theorem u64_or{a b:Nat}(d:a<72057594037927936)(c:b<256):bits BinOp.or IntKind.u64 ((a*256:Nat):Int) (b:Int)=((a*256+b:Nat):Int):=by have h:=u64_or_nat (a*256) b (by omega) (by omega);rw[h];congr 1;have:=Nat.two_pow_add_eq_or_of_lt (i:=8) (b:=b) (by simpa using c) a;simp only[Nat.reducePow]at this;rw[Nat.mul_comm,<-this]
theorem Mn(w:World)(a:List UInt8)(d:a.length=8):Calls prog 278 #[.agg (a.map B8).toArray] w fun e b=>e=.returned (rv ((oW a:Int)-9223372036854775808))/\Below w.heap.size w b:=by
 obtain⟨c,b⟩:=rk w (.cells (a.map B8).toArray 346)
 have r:=al (show wrap64 (IntKind.u64.wrap ((oW a:Int)-9223372036854775808))=(oW a:Int)-9223372036854775808 by
  have:=CW a 8;rw[gE (by omega),show(256:Nat)^8=18446744073709551616 by decide]at this;rw[IntKind.wrap_u64];unfold wrap64
  omega)
 have H:=AI d c;clear d c;go_enter func278,ntmps278;go_upto_region 1 with fail;generalize w.alloc (.cells (a.map B8).toArray 346)=c at H b⊢;generalize w.heap.size=B at b⊢;have o:=al b;clear b;go_wp2_with fail
 go_loopw [3,5] (fun n i wr=> ∃k:Nat,k<=8/\i=rv (k:Int)/\n=.int .u64 ((oW (a.take k):Nat):Int)/\wr=c) (fun _ i _=>8-(intOf i).toNat)
 case atStart=>exact⟨0,by decide,rfl,rfl,rfl⟩
 case round=>
  obtain⟨k,s,rfl,rfl,rfl⟩:=hrel;by_cases j:k<8
  ·obtain⟨x,c⟩: ∃x,a[k]?=some x:=⟨_,ao (by rw[H.o.1];exact j)⟩;have b:oW (a.take (k+1))=oW (a.take k)*256+x.toNat:=by rw[ir,c,Option.toList_some,Bl]
   have g:=CW a k;have f:oW (a.take k)<72057594037927936:=da g (Nat.pow_le_pow_right (by decide:256>0) (by omega:k<=7))
   have l:wr.cell? ⟨B,k,none⟩=some (.int .u8 (x.toNat:Int)):=by simp only[World.cell?,o.o];simp[c,B8]
   obtain⟨M,h⟩:=rl (oW (a.take k));obtain⟨X,e⟩:=rl (x.toNat);have p:X<256:=by rw[<-e];exact x.toNat_lt
   rw[h]at b f⊢;rw[e]at b l;have u:IntKind.u64.wrap ((M:Int)*256)=((M*256:Nat):Int):=by rw[IntKind.wrap_u64];omega
   have d:=u64_or f p;rw[Int.natCast_mul]at d;have q:=al d;have y:IntKind.u64.wrap (X:Int)=(X:Int):=by rw[IntKind.wrap_u64];omega
   have m:=al b;have v:(0:Int)<=(k:Int):=by omega
   have t:(k:Int)<8:=by omega
   clear b g c h e d;go_wp2_with fail;go_roundw
   case rel=>refine⟨k+1,by omega,by go_num,?_,trivial⟩;rw[m.o];exact ew (Value.int .u64) q.o
   case measure=>simp[intOf];omega
  ·obtain rfl:k=8:=by omega
   rw[gE (by rw[H.o.1];decide)];go_wp2_with fail;go_ret
   refine⟨?_,H.o.2⟩;show Ending.returned (.int .i64 (wrap64 (IntKind.u64.wrap ((oW a:Int)-9223372036854775808))))=_;rw[r.o]
theorem Fw(w:World)(k:List UInt8)(d:k.length<=1000):Calls prog 279 #[sd k] w fun e a=>e=.returned (sd k)/\Below w.heap.size w a:=by
 have H:=al (Any.stringslite_Clone Tryz.Qj ⟨k.toArray⟩ w (by show k.toArray.size<=_;simp;omega));go_enter func279,ntmps279;go_wp2_with fail;refine H.o.m ?_;rintro e c ⟨rfl,a⟩;have b:=al a;clear a;go_wp2_with fail;go_ret
 exact⟨rfl,b.o⟩
theorem X5{w:World}{B:Nat}{c b h g f d e a:Value}{t:TypeId}(i:w.heap[B]?=some (.cells #[c,b,h,g,f,d,e,a] t (0,0))):
  w.cell? ⟨B,0,none⟩=some c/\w.cell? ⟨B,1,none⟩=some b/\w.cell? ⟨B,2,none⟩=some h/\w.cell? ⟨B,3,none⟩=some g/\w.cell? ⟨B,4,none⟩=some f/\w.cell? ⟨B,5,none⟩=some d/\w.cell? ⟨B,6,none⟩=some e/\w.cell? ⟨B,7,none⟩=some a:=by
 refine⟨?_,?_,?_,?_,?_,?_,?_,?_⟩<;>simp[World.cell?,i]
def Ql(a:List UInt8)(k:Nat):List Value:=(a.take k).map B8++List.replicate (8-k) (.int .u8 0)
theorem TS{a:List UInt8}(h:a.length=8){k:Nat}(b:k<=8):(Ql a k).length=8:=by simp[Ql];omega
theorem TT{a:List UInt8}{k:Nat}{x:UInt8}(h:a.length=8)(d:k<8)(b:a[k]?=some x):(Ql a k).toArray.setIfInBounds k (B8 x)=(Ql a (k+1)).toArray:=by obtain⟨j,c⟩: ∃j,8-k=j+1:=⟨7-k,by omega⟩;unfold Ql;rw[c,show 8-(k+1)=j by omega,ir,b,List.replicate_succ,List.setIfInBounds_toArray];congr 1;rw[List.set_append_right _ _ (by simp;omega)];simp[show k-min k a.length=0 by omega]
def ac7(v:Int)(k:List UInt8)(w:World)(e:Ending)(w':World):Prop:=e=.returned (.tuple #[.agg #[rv v,sd k],rv 0])/\Below w.heap.size w w'
theorem IH(w:World)(v:Int)(k:List UInt8)(hv:I6 v)(hk:1<=k.length/\k.length<=16):Calls prog 254 #[.string ⟨(dI v k).toArray⟩] w (ac7 v k w):=by
 obtain⟨s,hs⟩: ∃s:ByteArray,⟨(dI v k).toArray⟩=s:=⟨_,rfl⟩;have hsz:s.size=8+k.length:=by rw[<-hs];show(dI v k).toArray.size=_;simp[dI,cg]
 have hex:s.extract 8 s.size=⟨k.toArray⟩:=by rw[hsz,<-hs];apply ByteArray.ext;simp[dI,cg]
 have JC: ∀(i:Nat) (x:UInt8) (h:i<s.size),(pfx v)[i]?=some x->s[i]'h=x:=by
  intro i x h hx;subst hs;have h8:i<(pfx v).length:=(bd.1 hx).1;show(dI v k).toArray[i]=x;have h2:(dI v k)[i]?=some x:=by unfold dI;rw[kt h8];exact hx
  simpa using(bd.1 h2).2
 have g1: ¬(s.size:Int)<8:=by omega
 have g2:(8:Int)<=(s.size:Int):=by omega
 rw[hs];have HC:=al (dU w k);have HX:=al (ab hsz (ab JC (ab hv hk)));clear hsz JC hs hv hk;obtain⟨hb0,k0⟩:=rk w (.cells #[.int .i64 0,.string ⟨#[]⟩] 273);go_enter func254,ntmps254;go_upto_region 1 with fail;generalize w.alloc (.cells #[.int .i64 0,.string ⟨#[]⟩] 273)=w1 at hb0 k0⊢;obtain⟨R,hR⟩:=rl (w.heap.size);rw[hR]at k0⊢;have HC:=al (dU w1 k);rw[vC HX.o.t]at HC;have HB:=al (ab hb0 (ab k0 hR));clear hb0 k0 hR;go_wp2_with fail;refine HC.o.m ?_;rintro e w2 ⟨rfl,rfl⟩;obtain⟨hb1,k1⟩:=rk w1 (.cells #[.int .u8 0,.int .u8 0,.int .u8 0,.int .u8 0,.int .u8 0,.int .u8 0,.int .u8 0,.int .u8 0] 346);have O0:=qS hb1 HB.o.2.1;go_upto_region 4 with fail;generalize w1.alloc (.cells #[.int .u8 0,.int .u8 0,.int .u8 0,.int .u8 0,.int .u8 0,.int .u8 0,.int .u8 0,.int .u8 0] 346)=w2 at hb1 k1 O0⊢;obtain⟨B,hB⟩:=rl (w1.heap.size);rw[hB]at k1⊢
 have H:=al (show Below w.heap.size w w2/\w2.heap[B]?=some (.cells (Ql (pfx v) 0).toArray 346 (0,0))/\w2.heap[R]?=some (.cells #[.int .i64 0,.string ⟨#[]⟩] 273 (0,0))/\R<B from
  ⟨HB.o.1.x (hb1.m HB.o.1.size),k1,O0,by have:=aP HB.o.2.1;omega⟩)
 clear hb1 k1 O0 hB HC;go_wp2_with fail
 go_loopw [16] (fun i wr=> ∃j:Nat,j<=8/\i=.int .i64 (j:Int)/\wr.heap[B]?=some (.cells (Ql (pfx v) j).toArray 346 (0,0))/\Only (fun k=>k=B) w2 wr) (fun i _=>8-(intOf i).toNat)
 case atStart=>exact⟨0,by decide,rfl,H.o.2.1,oT _ _⟩
 case round=>
  obtain⟨j,hj,rfl,oo,ua⟩:=hrel;by_cases hlt:j<8
  ·obtain⟨x,hx⟩: ∃x,(pfx v)[j]?=some x:=⟨_,ao (by rw[cg];exact hlt)⟩;have bG: ∀h,s[j]'h=x:=fun h=>HX.o.2.1 j x h hx;obtain⟨cv,hcv⟩: ∃c,(Ql (pfx v) j).toArray[j]?=some c:=⟨_,gd (by simp[TS (cg v) hj];omega)⟩;have z0:wr.cell? ⟨B,j,none⟩=some cv:=by simp[World.cell?,oo,hcv]
   have z1:wr.frozen? ⟨B,j,none⟩=false:=by simp[World.frozen?,oo]
   have i1:(0:Int)<=(j:Int):=by omega
   have i2:(j:Int)<8:=by omega
   have i3:(j:Int)<(s.size:Int):=by omega
   have HK:=al (show(wr.setCell ⟨B,j,none⟩ (B8 x)).heap[B]?=some (.cells (Ql (pfx v) (j+1)).toArray 346 (0,0))/\Only (fun k=>k=B) w2 (wr.setCell ⟨B,j,none⟩ (B8 x))from
    ⟨by rw[heap_setCell_same wr B j _ _ (B8 x) oo,TT (cg v) hlt hx],ua.x (bg wr B j _) (fun _ _ h=>h)⟩)
   clear oo ua hcv hx;go_wp2_with fail;go_roundw
   case rel=>exact⟨j+1,by omega,by go_num,HK.o.1,HK.o.2⟩
   case measure=>simp[intOf];omega
  ·obtain rfl:j=8:=by omega
   have kR:=ua.heap H.o.d.1 (fun e=>by have:=H.o.t;omega);have hb3:Below w.heap.size w wr:=H.o.1.x (ua.aI H.o.1.size (fun k hk e=>by have:=HB.o.d;have:=H.o.t;omega));have e8:Ql (pfx v) 8=(pfx v).map B8:=by simp[Ql,gE (show(pfx v).length<=8 by rw[cg];decide)]
   have HG:=al (fun W=>Mn W (pfx v) (cg v));have hun:(oW (pfx v):Int)-9223372036854775808=v:=by rw[Qk HX.o.d.1];omega
   rw[hun]at HG;rw[e8]at oo;obtain⟨x0,x1,x2,x3,x4,x5,x6,x7,hl⟩:=O5 (cg v);rw[hl]at oo HG;have HW:=al (ab oo (ab kR hb3));clear kR hb3 e8 hun hl ua oo;go_wp2_with fail;have KR:=al HW.o.2.1;have X6:=al (show w.heap.size<=R/\B≠R from⟨Nat.le_of_eq HB.o.d,fun e=>by have:=H.o.t;omega⟩);refine pw (S:=(fun W=>Below w.heap.size w W/\W.heap[B]?=some (.cells #[B8 x0,B8 x1,B8 x2,B8 x3,B8 x4,B8 x5,B8 x6,B8 x7] 346 (0,0)))) (by kernel_rfl) ⟨HW.o.d.drew,HW.o.1⟩ (fun qt=>?_);refine ml 0 (v:=?_) (fun wS hSw=>?_) qt ?_;rotate_left
   ·obtain⟨s0,s1⟩:=hSw;obtain⟨z0,z1,z2,z3,z4,z5,z6,z7⟩:=X5 s1;go_simp;try with_reducible rfl
   try simp only[ah,ai,aj,ak]
   refine bq [2,3] ?_
   iterate 2 (refine ek (v:=?_) (fun wS hSw=>?_) qt ?_;rotate_left;(obtain⟨s0,s1⟩:=hSw;go_simp;try with_reducible rfl);try simp only[ah,ai,aj,ak])
   refine bt ?_;refine bC 1 (fun K hK=>?_);go_simp;refine(HG.o _).m ?_;rintro e wn ⟨rfl,dm⟩;have KR:=al (qS dm KR.o)
   try go_simp
   refine hK.o _ _ (⟨qt.1.x (dm.m qt.1.size),qS dm qt.2⟩) ?_;clear hK K qt dm;intro qt
   try simp only[ah,ai,aj,ak]
   refine bC 4 (fun K hK=>?_);go_simp;refine(Fw _ k (by have:=HX.o.q;omega)).m ?_;rintro e wn ⟨rfl,dm⟩;have KR:=al (qS dm KR.o)
   try go_simp
   refine hK.o _ _ (⟨qt.1.x (dm.m qt.1.size),qS dm qt.2⟩) ?_;clear hK K qt dm;intro qt
   try simp only[ah,ai,aj,ak]
   refine ml 5 (v:=?_) (fun wS hSw=>?_) qt ?_;rotate_left
   ·obtain⟨s0,s1⟩:=hSw;go_simp;try with_reducible rfl
   try simp only[ah,ai,aj,ak]
   refine bC 6 (fun K hK=>?_);obtain⟨c0,c1,f0,f1⟩:=ft KR.o;go_simp;refine hK.o _ _ (⟨(qt.1.setCell (p:=⟨R,0,none⟩) X6.o.1 _).setCell (p:=⟨R,1,none⟩) X6.o.1 _,(bg _ R 1 _).heap ((bg _ R 0 _).heap qt.2 X6.o.2) X6.o.2⟩) ?_;clear hK K qt c0 c1 f0 f1;intro qt
   try simp only[ah,ai,aj,ak]
   have kp:=OS (v0:=.int .i64 v) (v1:=.string ⟨k.toArray⟩) KR.o;generalize (wn.setCell ⟨R,0,none⟩ (.int .i64 v)).setCell ⟨R,1,none⟩ (.string ⟨k.toArray⟩)=wz at kp qt⊢;refine ml 7 (v:=?_) (fun wS hSw=>?_) qt ?_;rotate_left
   ·obtain⟨s0,s1⟩:=hSw;go_simp;try with_reducible rfl
   try simp only[ah,ai,aj,ak]
   refine qe (by kernel_rfl) ?_ _;have HZ:=al (ab qt.1 kp);clear qt kp;go_wp2_with fail;refine dj (ax rfl _ _ _ _ _ _ _ rfl HZ.o.2 underlying273 rfl (by kernel_rfl)) rfl ⟨rfl,HZ.o.1⟩
theorem Mo(w:World)(lo hi:Int)(b:I6 lo)(a:I6 hi)(d:lo<=hi):Calls prog 230 #[rv lo,rv hi] w fun h c=>h=.returned (.tuple #[.string ⟨(pfx lo).toArray⟩,.string ⟨(DD hi).toArray⟩,rv 0])/\Below w.heap.size w c:=by
 have j: ¬hi<lo:=by omega
 have H:=AI b a;clear b a d;by_cases c:hi<9223372036854775807
 ·have i:wrap64 (hi+1)=hi+1:=by unfold wrap64;have:=H.o.2.1;omega
  have b:=AI c (show DD hi=pfx (hi+1) by unfold DD;rw[fi c]);go_enter func230,ntmps230;go_wp2_with fail;refine(pF w (hi+1) ⟨by have:=H.o.2.1;omega,by have:=b.o.1;omega⟩).m ?_;rintro h f ⟨rfl,a⟩;have e:=al a;clear a;go_wp2_with fail;refine(pF f lo H.o.1).m ?_;rintro h g ⟨rfl,a⟩;have d:=al (e.o.x (a.m e.o.size));clear a;go_wp2_with fail
  go_ret3
  exact⟨by rw[b.o.2];rfl,d.o⟩
 ·have b:=al (show DD hi=[] by unfold DD;rw[ff c]);go_enter func230,ntmps230;go_wp2_with fail;refine(pF w lo H.o.1).m ?_;rintro h g ⟨rfl,a⟩;have d:=al a;clear a;go_wp2_with fail
  go_ret3
  exact⟨by rw[b.o];rfl,d.o⟩
def mU(w:World)(X T:Nat)(lo hi a:List UInt8):Prop:=w.heap[X]?=some (.cells #[r7 T,sd lo,sd hi,sd a] 354 (0,0))
theorem mU.cells{w:World}{X T:Nat}{lo hi a:List UInt8}(h:mU w X T lo hi a):w.cell? ⟨X,0,none⟩=some (r7 T)/\w.cell? ⟨X,2,none⟩=some (sd hi)/\w.cell? ⟨X,3,none⟩=some (sd a)/\w.frozen? ⟨X,3,none⟩=false:=by unfold mU at h;refine⟨?_,?_,?_,?_⟩<;>simp[World.cell?,World.frozen?,h]
theorem Km{k:List UInt8}(h:k≠[]): ¬(⟨k.toArray⟩:ByteArray)=⟨#[]⟩:=fun e=>h (by injection e with e;simpa using e)
theorem Mq(w:World)(T:Nat)(lo hi:List UInt8)(h:hi=[]\/ ¬hi<lo):Calls prog 231 #[r7 T,sd lo,sd hi] w fun e a=>
  ∃X,e=.returned (.tuple #[r7 X,rv 0])/\w.heap.size<=X/\mU a X T lo hi lo/\Below w.heap.size w a:=by
 obtain⟨a,b⟩:=rk w (.cells #[r7 T,sd lo,sd hi,sd lo] 354);have H:=AI b a;clear b a;by_cases g:hi=[]
 ·subst g;go_enter func231,ntmps231;go_wp2_with fail
  go_ret2
  exact⟨_,rfl,b8 _,H.o.1,H.o.2⟩
 ·have c:Op.bytesLess hi lo=false:=by rw[bytesLess_eq];simpa using h.resolve_left g
  have b:=Km g;have a: ¬hi.toArray= #[]:=fun e=>g (by simpa using e);have d:(hi==[])=false:=beq_eq_false_iff_ne.2 g;go_enter func231,ntmps231;go_wp2_with fail
  go_ret2
  exact⟨_,rfl,b8 _,H.o.1,H.o.2⟩
def abp(X T:Nat)(lo hi:List UInt8)(c:Option Pr)(w:World)(e:Ending)(w':World):Prop:=
 match c with
 |none=>e=.returned (.tuple #[.string ⟨#[]⟩,.string ⟨#[]⟩,.bool false])/\Below w.heap.size w w'
 |some p=>e=.returned (.tuple #[sd p.1,sd p.2,.bool true])/\mU w' X T lo hi (p.1++[0])/\Only (fun k=>k=X) w w'
def tH(hi a:List UInt8)(l:List Pr):Option Pr:=(ceil a l).filter (jO hi)
theorem II(w:World)(X T o:Nat)(l:List Pr)(F:Nat->Nat->Prop)(lo hi a:List UInt8)(j:mU w X T lo hi a)(d:bM w T o l F)(b: ∀p∈l,p.1.length<=1000):
  Calls prog 233 #[r7 X] w (abp X T lo hi (tH hi a l) w):=by
 obtain⟨c,-,e,-⟩:=j.cells;have H:=AM j d b;clear j d b;go_enter func233,ntmps233;go_wp2_with fail;refine pw (S:=(fun W=>Below w.heap.size w W/\W.cell? ⟨X,0,none⟩=some (r7 T)/\W.cell? ⟨X,3,none⟩=some (sd a))) (by kernel_rfl) ⟨(aw _ _).drew,c,e⟩ (fun b=>?_);refine bq [0,1,2,3,4,5,6,7] ?_
 iterate 8 (refine ek (v:=?_) (fun _ ⟨h,i,k⟩=>?_) b ?_;rotate_left;(go_simp;try rfl);try simp only[xT])
 refine bt ?_;refine bC 8 (fun K f=>?_);go_simp;refine(JW _ T o l F a (H.o.2.1.below b.1)).m ?_;rintro n d ⟨rfl,g⟩
 try go_simp
 refine f.o _ _ (sQ b g) ?_;clear f K b g;intro b
 try simp only[xT]
 refine bq [9,10,11,12,13,14,15] ?_
 iterate 7 (refine ek (v:=?_) (fun _ ⟨h,i,k⟩=>?_) b ?_;rotate_left;(go_simp;try rfl);try simp only[xT])
 refine bt ?_;refine qe (by kernel_rfl) ?_ _;have f:=al b.1;clear b c e
 cases hc:ceil a l with
 |none=>
  have c:=al (show tH hi a l=none by unfold tH;rw[hc];rfl);unfold YX kOf vOf;simp only[oj];clear hc;go_wp2_with fail
  go_ret3
  rw[c.o];exact⟨rfl,f.o⟩
 |some p=>
  have k:p.1.length<=1000:=H.o.d p (by
   have:=pj a l;rw[hc]at this
   exact sB (List.mem_of_head? this.symm))
  have e:=qS f.o H.o.1;obtain⟨-,y,q,u⟩:=mU.cells (show mU d X T lo hi a from e);have t:=al e;unfold YX kOf vOf;simp only[oe,Option.map_some,Option.getD_some,if_true];obtain⟨b,h⟩:=p;simp only at k;have v: ¬9223372036854775807<b.length+1:=by omega
  have g:=al (show mU (d.setCell ⟨X,3,none⟩ (.string ⟨(b++[0]).toArray⟩)) X T lo hi (b++[0])/\Only (fun i=>i=X) w (d.setCell ⟨X,3,none⟩ (.string ⟨(b++[0]).toArray⟩))from
   ⟨by have:=dd d X 3 _ _ (.string ⟨(b++[0]).toArray⟩) e;simpa[mU]using this,(oS f.o _).x (bg d X 3 _) (fun _ _ j=>j)⟩)
  have p:=O3 b [0];clear e;by_cases i:hi=[]
  ·subst i;have c:=al (show tH [] a l=some (b,h) by unfold tH;rw[hc];rfl);clear hc;go_wp2_with fail
   go_ret3
   rw[c.o];exact⟨rfl,g.o⟩
  ·have x:=Km i;have r: ¬hi.toArray= #[]:=fun n=>i (by simpa using n);have s:(hi==[])=false:=beq_eq_false_iff_ne.2 i;by_cases e:b<hi
   ·have m:Op.bytesLess b hi=true:=by rw[bytesLess_eq];simpa using e
    have c:=al (show tH hi a l=some (b,h) by unfold tH;rw[hc];simp[Option.filter,jO,e]);clear hc;go_wp2_with fail
    go_ret3
    rw[c.o];exact⟨rfl,g.o⟩
   ·have m:Op.bytesLess b hi=false:=by rw[bytesLess_eq];simpa using e
    have c:=al (show tH hi a l=none by unfold tH;rw[hc];simp[Option.filter,jO,e,i]);clear hc;go_wp2_with fail
    go_ret3
    rw[c.o];exact⟨rfl,f.o⟩
end Go.Proofs.YtehccbdajiiaaaaGreatDoor
