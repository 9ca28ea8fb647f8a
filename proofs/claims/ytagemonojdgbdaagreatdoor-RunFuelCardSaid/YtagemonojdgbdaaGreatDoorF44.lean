import Derived.Test.YtagemonojdgbdaaGreatDoorF28
import Derived.Test.YtagemonojdgbdaaGreatDoorF43
namespace Go.Proofs.YtagemonojdgbdaaGreatDoor
set_option maxRecDepth 100000
set_option maxHeartbeats 16000000
open Go.RowKit
def nM(l:List UInt8):Nat:=l.foldl (fun n b=>n*256+b.toNat) 0
theorem yK(l:List UInt8)(b:UInt8):nM (l++[b])=nM l*256+b.toNat:=by simp[nM]
theorem G1: ∀(k n:Nat) (a:Nat),n<256^k->(be k n).foldl (fun n b=>n*256+b.toNat) a=a*256^k+n
 |0,n,a,h=>by
  have:n=0:=by omega
  simp[be,this]
 |k+1,n,a,h=>by
  rw[be,List.foldl_cons,G1 k (n%256^k) _ (Nat.mod_lt _ (Nat.pow_pos (by decide)))];have h1:n/256^k<256:=by rw[Nat.div_lt_iff_lt_mul (Nat.pow_pos (by decide))];rw[Nat.pow_succ]at h;omega
  have h2:(UInt8.ofNat (n/256^k)).toNat=n/256^k:=by simp;omega
  have h3:=Nat.div_add_mod n (256^k);rw[h2,Nat.add_mul,Nat.pow_succ,<-Nat.mul_assoc,Nat.mul_right_comm,Nat.mul_comm (n/256^k)];omega
theorem Au: ∀(l:List UInt8) (k:Nat),nM (l.take k)<256^k
 |l,0=>by simp[nM]
 |l,k+1=>by
  have ih:=Au l k;by_cases h:k<l.length
  ·rw[kt,List.getElem?_eq_getElem h,Option.toList_some,yK,Nat.pow_succ];have:=l[k].toNat_lt;omega
  ·rw[gC (by omega)]at ih⊢;rw[Nat.pow_succ];omega
theorem MT{n:Int}(h:I6 n):(nM (pfx n):Int)=n+9223372036854775808:=by unfold nM pfx;have h1:=h.1;have h2:=h.2;rw[G1 8 _ 0 (by rw[show(256:Nat)^8=18446744073709551616 by decide];omega)];omega
theorem u64_or{a b:Nat}(ha:a<72057594037927936)(hb:b<256):bits BinOp.or IntKind.u64 ((a*256:Nat):Int) (b:Int)=((a*256+b:Nat):Int):=by have h:=u64_or_nat (a*256) b (by omega) (by omega);rw[h];congr 1;have:=Nat.two_pow_add_eq_or_of_lt (i:=8) (b:=b) (by simpa using hb) a;simp only[Nat.reducePow]at this;rw[Nat.mul_comm,<-this]
theorem Ju(w:World)(bs:List UInt8)(hl:bs.length=8):Calls Tryz.prog 261 #[.agg (bs.map B8).toArray] w fun e w'=>e=.returned (.int .i64 ((nM bs:Int)-9223372036854775808))/\Below w.heap.size w w':=by
 have hb0:=af w (.cells (bs.map B8).toArray 281);have k0:=an w (.cells (bs.map B8).toArray 281)
 have HW:=al (show wrap64 (IntKind.u64.wrap ((nM bs:Int)-9223372036854775808))=(nM bs:Int)-9223372036854775808 by
  have:=Au bs 8;rw[gC (by omega),show(256:Nat)^8=18446744073709551616 by decide]at this;rw[IntKind.wrap_u64];unfold wrap64
  omega)
 have H:=al (ab hl hb0);clear hl hb0;go_enter Tryz.func261,Tryz.ntmps261;go_upto_region 1 with fail;generalize w.alloc (.cells (bs.map B8).toArray 281)=w1 at H k0⊢;generalize w.heap.size=B at k0⊢;have HK:=al k0;clear k0;go_wp2_with fail
 go_loopw [3,5] (fun n i wr=> ∃k:Nat,k<=8/\i=.int .i64 (k:Int)/\n=.int .u64 ((nM (bs.take k):Nat):Int)/\wr=w1) (fun _ i _=>8-(intOf i).toNat)
 case atStart=>exact⟨0,by decide,rfl,rfl,rfl⟩
 case round=>
  obtain⟨k,hk,rfl,rfl,rfl⟩:=hrel;by_cases hlt:k<8
  ·obtain⟨x,hx⟩: ∃x,bs[k]?=some x:=⟨_,ao (by rw[H.out.1];exact hlt)⟩;have hs:nM (bs.take (k+1))=nM (bs.take k)*256+x.toNat:=by rw[kt,hx,Option.toList_some,yK]
   have hb:=Au bs k;have hb2:nM (bs.take k)<72057594037927936:=cq hb (Nat.pow_le_pow_right (by decide:256>0) (by omega:k<=7))
   have z0:wr.cell? ⟨B,k,none⟩=some (.int .u8 (x.toNat:Int)):=by simp only[World.cell?,HK.out];simp[hx,B8]
   obtain⟨M,hM⟩: ∃M,nM (bs.take k)=M:=⟨_,rfl⟩;obtain⟨X,hX⟩: ∃X,x.toNat=X:=⟨_,rfl⟩;have TS:X<256:=by rw[<-hX];exact x.toNat_lt
   rw[hM]at hs hb2⊢;rw[hX]at hs z0;have e1:IntKind.u64.wrap ((M:Int)*256)=((M*256:Nat):Int):=by rw[IntKind.wrap_u64];omega
   have e2:=u64_or hb2 TS;rw[Int.natCast_mul]at e2;have HE:=al e2;have e3:IntKind.u64.wrap (X:Int)=(X:Int):=by rw[IntKind.wrap_u64];omega
   have HS:=al hs;have i1:(0:Int)<=(k:Int):=by omega
   have i2:(k:Int)<8:=by omega
   clear hs hb hx hM hX e2;go_wp2_with fail;go_roundw
   case rel=>refine⟨k+1,by omega,by go_num,?_,trivial⟩;rw[HS.out];exact eL (Value.int .u64) HE.out
   case measure=>simp[intOf];omega
  ·obtain rfl:k=8:=by omega
   rw[gC (by rw[H.out.1];decide)];go_wp2_with fail;go_ret
   refine⟨?_,H.out.2⟩;show Ending.returned (.int .i64 (wrap64 (IntKind.u64.wrap ((nM bs:Int)-9223372036854775808))))=_;rw[HW.out]
theorem Df(w:World)(k:List UInt8)(hk:k.length<=1000):Calls Tryz.prog 262 #[.string ⟨k.toArray⟩] w fun e w'=>e=.returned (.string ⟨k.toArray⟩)/\Below w.heap.size w w':=by
 have H:=al (Any.stringslite_Clone Tryz.MR ⟨k.toArray⟩ w (by show k.toArray.size<=_;simp;omega));go_enter Tryz.func262,Tryz.ntmps262;go_wp2_with fail;refine H.out.mono ?_;rintro e w1 ⟨rfl,hb⟩;have HB:=al hb;clear hb;go_wp2_with fail;go_ret
 exact⟨rfl,HB.out⟩
theorem Tb{w:World}{B:Nat}{a0 a1 a2 a3 a4 a5 a6 a7:Value}{t:TypeId}(h:w.heap[B]?=some (.cells #[a0,a1,a2,a3,a4,a5,a6,a7] t (0,0))):
  w.cell? ⟨B,0,none⟩=some a0/\w.cell? ⟨B,1,none⟩=some a1/\w.cell? ⟨B,2,none⟩=some a2/\w.cell? ⟨B,3,none⟩=some a3/\w.cell? ⟨B,4,none⟩=some a4/\w.cell? ⟨B,5,none⟩=some a5/\w.cell? ⟨B,6,none⟩=some a6/\w.cell? ⟨B,7,none⟩=some a7:=by
 refine⟨?_,?_,?_,?_,?_,?_,?_,?_⟩<;>simp[World.cell?,h]
def MU(bs:List UInt8)(k:Nat):List Value:=(bs.take k).map B8++List.replicate (8-k) (.int .u8 0)
theorem PN{bs:List UInt8}(h:bs.length=8){k:Nat}(hk:k<=8):(MU bs k).length=8:=by simp[MU];omega
theorem PO{bs:List UInt8}{k:Nat}{x:UInt8}(h:bs.length=8)(hk:k<8)(hx:bs[k]?=some x):(MU bs k).toArray.setIfInBounds k (B8 x)=(MU bs (k+1)).toArray:=by obtain⟨j,hj⟩: ∃j,8-k=j+1:=⟨7-k,by omega⟩;unfold MU;rw[hj,show 8-(k+1)=j by omega,kt,hx,List.replicate_succ,List.setIfInBounds_toArray];congr 1;rw[List.set_append_right _ _ (by simp;omega)];simp[show k-min k bs.length=0 by omega]
def Z9(v:Int)(k:List UInt8)(w:World)(e:Ending)(w':World):Prop:=e=.returned (.tuple #[.agg #[.int .i64 v,.string ⟨k.toArray⟩],.int .i64 0])/\Below w.heap.size w w'
theorem Fu(w:World)(v:Int)(k:List UInt8)(hv:I6 v)(hk:1<=k.length/\k.length<=16):Calls Tryz.prog 238 #[.string ⟨(dB v k).toArray⟩] w (Z9 v k w):=by
 obtain⟨s,hs⟩: ∃s:ByteArray,⟨(dB v k).toArray⟩=s:=⟨_,rfl⟩;have hsz:s.size=8+k.length:=by rw[<-hs];show(dB v k).toArray.size=_;simp[dB,bU]
 have hex:s.extract 8 s.size=⟨k.toArray⟩:=by rw[hsz,<-hs];apply ByteArray.ext;simp[dB,bU]
 have Gb: ∀(i:Nat) (x:UInt8) (h:i<s.size),(pfx v)[i]?=some x->s[i]'h=x:=by
  intro i x h hx;subst hs;have h8:i<(pfx v).length:=(b8.1 hx).1;show(dB v k).toArray[i]=x;have h2:(dB v k)[i]?=some x:=by unfold dB;rw[lr h8];exact hx
  simpa using(b8.1 h2).2
 have g1: ¬(s.size:Int)<8:=by omega
 have g2:(8:Int)<=(s.size:Int):=by omega
 rw[hs];have HC:=al (dm w k);have HX:=al (ab hsz (ab Gb (ab hv hk)));clear hsz Gb hs hv hk;have hb0:=af w (.cells #[.int .i64 0,.string ⟨#[]⟩] 216);have k0:=an w (.cells #[.int .i64 0,.string ⟨#[]⟩] 216);go_enter Tryz.func238,Tryz.ntmps238;go_upto_region 1 with fail;generalize w.alloc (.cells #[.int .i64 0,.string ⟨#[]⟩] 216)=w1 at hb0 k0⊢;obtain⟨R,hR⟩: ∃x,w.heap.size=x:=⟨_,rfl⟩;rw[hR]at k0⊢;have HC:=al (dm w1 k);rw[tq HX.out.2.2.2]at HC;have HB:=al (ab hb0 (ab k0 hR));clear hb0 k0 hR;go_wp2_with fail;refine HC.out.mono ?_;rintro e w2 ⟨rfl,rfl⟩;have hb1:=af w1 (.cells #[.int .u8 0,.int .u8 0,.int .u8 0,.int .u8 0,.int .u8 0,.int .u8 0,.int .u8 0,.int .u8 0] 281);have k1:=an w1 (.cells #[.int .u8 0,.int .u8 0,.int .u8 0,.int .u8 0,.int .u8 0,.int .u8 0,.int .u8 0,.int .u8 0] 281);have Lv:=pw hb1 HB.out.2.1;go_upto_region 4 with fail;generalize w1.alloc (.cells #[.int .u8 0,.int .u8 0,.int .u8 0,.int .u8 0,.int .u8 0,.int .u8 0,.int .u8 0,.int .u8 0] 281)=w2 at hb1 k1 Lv⊢;obtain⟨B,hB⟩: ∃x,w1.heap.size=x:=⟨_,rfl⟩;rw[hB]at k1⊢
 have H:=al (show Below w.heap.size w w2/\w2.heap[B]?=some (.cells (MU (pfx v) 0).toArray 281 (0,0))/\w2.heap[R]?=some (.cells #[.int .i64 0,.string ⟨#[]⟩] 216 (0,0))/\R<B from
  ⟨HB.out.1.trans (hb1.mono HB.out.1.size),k1,Lv,by have:=aO HB.out.2.1;omega⟩)
 clear hb1 k1 Lv hB HC;go_wp2_with fail
 go_loopw [16] (fun i wr=> ∃j:Nat,j<=8/\i=.int .i64 (j:Int)/\wr.heap[B]?=some (.cells (MU (pfx v) j).toArray 281 (0,0))/\Only (fun k=>k=B) w2 wr) (fun i _=>8-(intOf i).toNat)
 case atStart=>exact⟨0,by decide,rfl,H.out.2.1,oB _ _⟩
 case round=>
  obtain⟨j,hj,rfl,mO,vQ⟩:=hrel;by_cases hlt:j<8
  ·obtain⟨x,hx⟩: ∃x,(pfx v)[j]?=some x:=⟨_,ao (by rw[bU];exact hlt)⟩;have cK: ∀h,s[j]'h=x:=fun h=>HX.out.2.1 j x h hx;obtain⟨cv,hcv⟩: ∃c,(MU (pfx v) j).toArray[j]?=some c:=⟨_,ir (by simp[PN (bU v) hj];omega)⟩;have z0:wr.cell? ⟨B,j,none⟩=some cv:=by simp[World.cell?,mO,hcv]
   have z1:wr.frozen? ⟨B,j,none⟩=false:=by simp[World.frozen?,mO]
   have i1:(0:Int)<=(j:Int):=by omega
   have i2:(j:Int)<8:=by omega
   have i3:(j:Int)<(s.size:Int):=by omega
   have HK:=al (show(wr.setCell ⟨B,j,none⟩ (B8 x)).heap[B]?=some (.cells (MU (pfx v) (j+1)).toArray 281 (0,0))/\Only (fun k=>k=B) w2 (wr.setCell ⟨B,j,none⟩ (B8 x))from
    ⟨by rw[heap_setCell_same wr B j _ _ (B8 x) mO,PO (bU v) hlt hx],vQ.trans (aT wr B j _) (fun _ _ h=>h)⟩)
   clear mO vQ hcv hx;go_wp2_with fail;go_roundw
   case rel=>exact⟨j+1,by omega,by go_num,HK.out.1,HK.out.2⟩
   case measure=>simp[intOf];omega
  ·obtain rfl:j=8:=by omega
   have kR:=vQ.heap H.out.2.2.1 (fun e=>by have:=H.out.2.2.2;omega);have hb3:Below w.heap.size w wr:=H.out.1.trans (vQ.aG H.out.1.size (fun k hk e=>by have:=HB.out.2.2;have:=H.out.2.2.2;omega));have e8:MU (pfx v) 8=(pfx v).map B8:=by simp[MU,gC (show(pfx v).length<=8 by rw[bU];decide)]
   have HG:=al (fun W=>Ju W (pfx v) (bU v));have hun:(nM (pfx v):Int)-9223372036854775808=v:=by rw[MT HX.out.2.2.1];omega
   rw[hun]at HG;rw[e8]at mO;obtain⟨x0,x1,x2,x3,x4,x5,x6,x7,hl⟩:=L8 (bU v);rw[hl]at mO HG;have HW:=al (ab mO (ab kR hb3));clear kR hb3 e8 hun hl vQ mO;go_wp2_with fail;have KR:=al HW.out.2.1;have X3:=al (show w.heap.size<=R/\B≠R from⟨Nat.le_of_eq HB.out.2.2,fun e=>by have:=H.out.2.2.2;omega⟩);refine pb (S:=(fun W=>Below w.heap.size w W/\W.heap[B]?=some (.cells #[B8 x0,B8 x1,B8 x2,B8 x3,B8 x4,B8 x5,B8 x6,B8 x7] 281 (0,0)))) (by kernel_rfl) ⟨HW.out.2.2.drew,HW.out.1⟩ (fun pt=>?_);refine fJ 0 (v:=?_) (fun wS hSw=>?_) pt ?_;rotate_left
   ·obtain⟨s0,s1⟩:=hSw;obtain⟨z0,z1,z2,z3,z4,z5,z6,z7⟩:=Tb s1;go_simp;try with_reducible rfl
   try simp only[ai,aj,ak,ar]
   refine aM [2,3] ?_
   iterate 2 (refine bX (v:=?_) (fun wS hSw=>?_) pt ?_;rotate_left;(obtain⟨s0,s1⟩:=hSw;go_simp;try with_reducible rfl);try simp only[ai,aj,ak,ar])
   refine aN ?_;refine aW 1 (fun K hK=>?_);go_simp;refine(HG.out _).mono ?_;rintro e wn ⟨rfl,cD⟩;have KR:=al (pw cD KR.out)
   try go_simp
   refine hK.out _ _ (⟨pt.1.trans (cD.mono pt.1.size),pw cD pt.2⟩) ?_;clear hK K pt cD;intro pt
   try simp only[ai,aj,ak,ar]
   refine aW 4 (fun K hK=>?_);go_simp;refine(Df _ k (by have:=HX.out.2.2.2.2;omega)).mono ?_;rintro e wn ⟨rfl,cD⟩;have KR:=al (pw cD KR.out)
   try go_simp
   refine hK.out _ _ (⟨pt.1.trans (cD.mono pt.1.size),pw cD pt.2⟩) ?_;clear hK K pt cD;intro pt
   try simp only[ai,aj,ak,ar]
   refine fJ 5 (v:=?_) (fun wS hSw=>?_) pt ?_;rotate_left
   ·obtain⟨s0,s1⟩:=hSw;go_simp;try with_reducible rfl
   try simp only[ai,aj,ak,ar]
   refine aW 6 (fun K hK=>?_);obtain⟨c0,c1,f0,f1⟩:=eW KR.out;go_simp;refine hK.out _ _ (⟨(pt.1.setCell (p:=⟨R,0,none⟩) X3.out.1 _).setCell (p:=⟨R,1,none⟩) X3.out.1 _,(aT _ R 1 _).heap ((aT _ R 0 _).heap pt.2 X3.out.2) X3.out.2⟩) ?_;clear hK K pt c0 c1 f0 f1;intro pt
   try simp only[ai,aj,ak,ar]
   have kp:=Le (v0:=.int .i64 v) (v1:=.string ⟨k.toArray⟩) KR.out;generalize (wn.setCell ⟨R,0,none⟩ (.int .i64 v)).setCell ⟨R,1,none⟩ (.string ⟨k.toArray⟩)=wz at kp pt⊢;refine fJ 7 (v:=?_) (fun wS hSw=>?_) pt ?_;rotate_left
   ·obtain⟨s0,s1⟩:=hSw;go_simp;try with_reducible rfl
   try simp only[ai,aj,ak,ar]
   refine pf (by kernel_rfl) ?_ _;have HZ:=al (ab pt.1 kp);clear pt kp;go_wp2_with fail;refine dq (aC rfl _ _ _ _ _ _ _ rfl HZ.out.2 Tryz.underlying216 rfl (by kernel_rfl)) rfl ⟨rfl,HZ.out.1⟩
theorem Jv(w:World)(lo hi:Int)(h1:I6 lo)(h2:I6 hi)(h:lo<=hi):Calls Tryz.prog 215 #[.int .i64 lo,.int .i64 hi] w fun e w'=>e=.returned (.tuple #[.string ⟨(pfx lo).toArray⟩,.string ⟨(Bw hi).toArray⟩,.int .i64 0])/\Below w.heap.size w w':=by
 have g1: ¬hi<lo:=by omega
 have H:=al (ab h1 h2);clear h1 h2 h;by_cases g2:hi<9223372036854775807
 ·have e1:wrap64 (hi+1)=hi+1:=by unfold wrap64;have:=H.out.2.1;omega
  have HT:=al (ab g2 (show Bw hi=pfx (hi+1) by unfold Bw;rw[fi g2]));go_enter Tryz.func215,Tryz.ntmps215;go_wp2_with fail;refine(oq w (hi+1) ⟨by have:=H.out.2.1;omega,by have:=HT.out.1;omega⟩).mono ?_;rintro e w1 ⟨rfl,hb1⟩;have HB:=al hb1;clear hb1;go_wp2_with fail;refine(oq w1 lo H.out.1).mono ?_;rintro e w2 ⟨rfl,hb2⟩;have fR:=al (HB.out.trans (hb2.mono HB.out.size));clear hb2;go_wp2_with fail
  go_ret3
  exact⟨by rw[HT.out.2];rfl,fR.out⟩
 ·have HT:=al (show Bw hi=[] by unfold Bw;rw[ff g2]);go_enter Tryz.func215,Tryz.ntmps215;go_wp2_with fail;refine(oq w lo H.out.1).mono ?_;rintro e w2 ⟨rfl,hb2⟩;have fR:=al hb2;clear hb2;go_wp2_with fail
  go_ret3
  exact⟨by rw[HT.out];rfl,fR.out⟩
def lT(w:World)(X T:Nat)(lo hi at_:List UInt8):Prop:=w.heap[X]?=some (.cells #[.pointer (some ⟨T,0,none⟩),.string ⟨lo.toArray⟩,.string ⟨hi.toArray⟩,.string ⟨at_.toArray⟩] 346 (0,0))
theorem lT.cells{w:World}{X T:Nat}{lo hi at_:List UInt8}(h:lT w X T lo hi at_):w.cell? ⟨X,0,none⟩=some (.pointer (some ⟨T,0,none⟩))/\w.cell? ⟨X,2,none⟩=some (.string ⟨hi.toArray⟩)/\w.cell? ⟨X,3,none⟩=some (.string ⟨at_.toArray⟩)/\w.frozen? ⟨X,3,none⟩=false:=by unfold lT at h;refine⟨?_,?_,?_,?_⟩<;>simp[World.cell?,World.frozen?,h]
theorem G3{k:List UInt8}(h:k≠[]): ¬(⟨k.toArray⟩:ByteArray)=⟨#[]⟩:=fun e=>h (by injection e with e;simpa using e)
theorem Jw(w:World)(T:Nat)(lo hi:List UInt8)(h:hi=[]\/ ¬hi<lo):Calls Tryz.prog 216 #[.pointer (some ⟨T,0,none⟩),.string ⟨lo.toArray⟩,.string ⟨hi.toArray⟩] w fun e w'=>
  ∃X,e=.returned (.tuple #[.pointer (some ⟨X,0,none⟩),.int .i64 0])/\w.heap.size<=X/\lT w' X T lo hi lo/\Below w.heap.size w w':=by
 have hb:=af w (.cells #[.pointer (some ⟨T,0,none⟩),.string ⟨lo.toArray⟩,.string ⟨hi.toArray⟩,.string ⟨lo.toArray⟩] 346);have k0:=an w (.cells #[.pointer (some ⟨T,0,none⟩),.string ⟨lo.toArray⟩,.string ⟨hi.toArray⟩,.string ⟨lo.toArray⟩] 346);have H:=al (ab k0 hb);clear k0 hb;by_cases g:hi=[]
 ·subst g;go_enter Tryz.func216,Tryz.ntmps216;go_wp2_with fail
  go_ret2
  exact⟨_,rfl,aq _,H.out.1,H.out.2⟩
 ·have g1:Op.bytesLess hi lo=false:=by rw[bytesLess_eq];simpa using h.resolve_left g
  have g2:=G3 g;have g3: ¬hi.toArray= #[]:=fun e=>g (by simpa using e);have g4:(hi==[])=false:=beq_eq_false_iff_ne.2 g;go_enter Tryz.func216,Tryz.ntmps216;go_wp2_with fail
  go_ret2
  exact⟨_,rfl,aq _,H.out.1,H.out.2⟩
def W6(X T:Nat)(lo hi:List UInt8)(c:Option Pr)(w:World)(e:Ending)(w':World):Prop:=
 match c with
 |none=>e=.returned (.tuple #[.string ⟨#[]⟩,.string ⟨#[]⟩,.bool false])/\Below w.heap.size w w'
 |some p=>e=.returned (.tuple #[.string ⟨p.1.toArray⟩,.string ⟨p.2.toArray⟩,.bool true])/\lT w' X T lo hi (p.1++[0])/\Only (fun k=>k=X) w w'
def rL(hi at_:List UInt8)(l:List Pr):Option Pr:=(ceil at_ l).filter (jk hi)
theorem Fv(w:World)(X T o:Nat)(l:List Pr)(F:Nat->Nat->Prop)(lo hi at_:List UInt8)(h:lT w X T lo hi at_)(ht:bC w T o l F)(hl: ∀p∈l,p.1.length<=1000):
  Calls Tryz.prog 218 #[.pointer (some ⟨X,0,none⟩)] w (W6 X T lo hi (rL hi at_ l) w):=by
 obtain⟨c0,-,c3,-⟩:=h.cells;have H:=al (ab h (ab ht hl));clear h ht hl;go_enter Tryz.func218,Tryz.ntmps218;go_wp2_with fail;refine pb (S:=(fun W=>Below w.heap.size w W/\W.cell? ⟨X,0,none⟩=some (.pointer (some ⟨T,0,none⟩))/\W.cell? ⟨X,3,none⟩=some (.string ⟨at_.toArray⟩))) (by kernel_rfl) ⟨(aw _ _).drew,c0,c3⟩ (fun pt=>?_);refine aM [0,1,2,3,4,5,6,7] ?_
 iterate 8 (refine bX (v:=?_) (fun wS hSw=>?_) pt ?_;rotate_left;(obtain⟨s0,s1,s2⟩:=hSw;go_simp;try with_reducible rfl);try simp only[ai,aj,ak,ar])
 refine aN ?_;refine aW 8 (fun K hK=>?_);go_simp;refine(Gm _ T o l F at_ (H.out.2.1.below pt.1)).mono ?_;rintro e wn ⟨rfl,cD⟩
 try go_simp
 refine hK.out _ _ (pC pt cD) ?_;clear hK K pt cD;intro pt
 try simp only[ai,aj,ak,ar]
 refine aM [9,10,11,12,13,14,15] ?_
 iterate 7 (refine bX (v:=?_) (fun wS hSw=>?_) pt ?_;rotate_left;(obtain⟨s0,s1,s2⟩:=hSw;go_simp;try with_reducible rfl);try simp only[ai,aj,ak,ar])
 refine aN ?_;refine pf (by kernel_rfl) ?_ _;have HB:=al pt.1;clear pt c0 c3
 cases hc:ceil at_ l with
 |none=>
  have HX:=al (show rL hi at_ l=none by unfold rL;rw[hc];rfl);unfold TQ Vi Vj;simp only[mv];clear hc;go_wp2_with fail
  go_ret3
  rw[HX.out];exact⟨rfl,HB.out⟩
 |some p=>
  have hpl:p.1.length<=1000:=H.out.2.2 p (by
   have:=nU at_ l;rw[hc]at this
   exact qV (List.mem_of_head? this.symm))
  have hX:=pw HB.out H.out.1;obtain⟨-,c2,c3b,f3⟩:=lT.cells (show lT wn X T lo hi at_ from hX);have HK:=al hX;unfold TQ Vi Vj;simp only[me,Option.map_some,ns,if_true];obtain⟨pk,pv⟩:=p;simp only at hpl;have hz: ¬9223372036854775807<pk.length+1:=by omega
  have HO:=al (show lT (wn.setCell ⟨X,3,none⟩ (.string ⟨(pk++[0]).toArray⟩)) X T lo hi (pk++[0])/\Only (fun k=>k=X) w (wn.setCell ⟨X,3,none⟩ (.string ⟨(pk++[0]).toArray⟩))from
   ⟨by have:=dr wn X 3 _ _ (.string ⟨(pk++[0]).toArray⟩) hX;simpa[lT]using this,(oy HB.out _).trans (aT wn X 3 _) (fun _ _ h=>h)⟩)
  have hap:=L5 pk [0];clear hX;by_cases g:hi=[]
  ·subst g;have HX:=al (show rL [] at_ l=some (pk,pv) by unfold rL;rw[hc];rfl);clear hc;go_wp2_with fail
   go_ret3
   rw[HX.out];exact⟨rfl,HO.out⟩
  ·have g2:=G3 g;have g3: ¬hi.toArray= #[]:=fun e=>g (by simpa using e);have g4:(hi==[])=false:=beq_eq_false_iff_ne.2 g;by_cases gl:pk<hi
   ·have g1:Op.bytesLess pk hi=true:=by rw[bytesLess_eq];simpa using gl
    have HX:=al (show rL hi at_ l=some (pk,pv) by unfold rL;rw[hc];simp[Option.filter,jk,gl]);clear hc;go_wp2_with fail
    go_ret3
    rw[HX.out];exact⟨rfl,HO.out⟩
   ·have g1:Op.bytesLess pk hi=false:=by rw[bytesLess_eq];simpa using gl
    have HX:=al (show rL hi at_ l=none by unfold rL;rw[hc];simp[Option.filter,jk,gl,g]);clear hc;go_wp2_with fail
    go_ret3
    rw[HX.out];exact⟨rfl,HB.out⟩
end Go.Proofs.YtagemonojdgbdaaGreatDoor
