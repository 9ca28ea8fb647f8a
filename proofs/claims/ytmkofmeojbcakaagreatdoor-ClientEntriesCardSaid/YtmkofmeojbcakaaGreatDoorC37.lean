import Derived.Test.YtmkofmeojbcakaaGreatDoorC08
import Derived.Test.YtmkofmeojbcakaaGreatDoorC23
import Derived.Test.YtmkofmeojbcakaaGreatDoorC35
namespace Go.Proofs.YtmkofmeojbcakaaGreatDoor
open Go.Proofs.Tryz
set_option maxRecDepth 100000
set_option maxHeartbeats 16000000
open Go.RowKit
def pB(l:List UInt8):Nat:=l.foldl (fun n b=>n*256+b.toNat) 0
theorem Be(l:List UInt8)(b:UInt8):pB (l++[b])=pB l*256+b.toNat:=by simp[pB]
theorem JO: ∀(k n:Nat) (a:Nat),n<256^k->(be k n).foldl (fun n b=>n*256+b.toNat) a=a*256^k+n
 |0,n,a,h=>by
  have:n=0:=by omega
  simp[be,this]
 |k+1,n,a,h=>by
  rw[be,List.foldl_cons,JO k (n%256^k) _ (Nat.mod_lt _ (Nat.pow_pos (by decide)))];have h1:n/256^k<256:=by rw[Nat.div_lt_iff_lt_mul (Nat.pow_pos (by decide))];rw[Nat.pow_succ]at h;omega
  have h2:(UInt8.ofNat (n/256^k)).toNat=n/256^k:=by simp;omega
  have h3:=Nat.div_add_mod n (256^k);rw[h2,Nat.add_mul,Nat.pow_succ,<-Nat.mul_assoc,Nat.mul_right_comm,Nat.mul_comm (n/256^k)];omega
theorem CB: ∀(l:List UInt8) (k:Nat),pB (l.take k)<256^k
 |l,0=>by simp[pB]
 |l,k+1=>by
  have ih:=CB l k;by_cases h:k<l.length
  ·rw[iv,List.getElem?_eq_getElem h,Option.toList_some,Be,Nat.pow_succ];have:=l[k].toNat_lt;omega
  ·rw[gE (by omega)]at ih⊢;rw[Nat.pow_succ];omega
theorem Po{n:Int}(h:I6 n):(pB (pfx n):Int)=n+9223372036854775808:=by unfold pB pfx;have h1:=h.1;have h2:=h.2;rw[JO 8 _ 0 (by rw[show(256:Nat)^8=18446744073709551616 by decide];omega)];omega
theorem u64_or{a b:Nat}(ha:a<72057594037927936)(hb:b<256):bits BinOp.or IntKind.u64 ((a*256:Nat):Int) (b:Int)=((a*256+b:Nat):Int):=by have h:=u64_or_nat (a*256) b (by omega) (by omega);rw[h];congr 1;have:=Nat.two_pow_add_eq_or_of_lt (i:=8) (b:=b) (by simpa using hb) a;simp only[Nat.reducePow]at this;rw[Nat.mul_comm,<-this]
theorem LM(w:World)(bs:List UInt8)(hl:bs.length=8):Calls prog 247 #[.agg (bs.map B8).toArray] w fun e w'=>e=.returned (.int .i64 ((pB bs:Int)-9223372036854775808))/\Below w.heap.size w w':=by
 obtain⟨hb0,k0⟩:=qn w (.cells (bs.map B8).toArray 263)
 have HW:=al (show wrap64 (IntKind.u64.wrap ((pB bs:Int)-9223372036854775808))=(pB bs:Int)-9223372036854775808 by
  have:=CB bs 8;rw[gE (by omega),show(256:Nat)^8=18446744073709551616 by decide]at this;rw[IntKind.wrap_u64];unfold wrap64
  omega)
 have H:=al (ab hl hb0);clear hl hb0;go_enter func247,ntmps247;go_upto_region 1 with fail;generalize w.alloc (.cells (bs.map B8).toArray 263)=w1 at H k0⊢;generalize w.heap.size=B at k0⊢;have HK:=al k0;clear k0;go_wp2
 go_loopw [3,5] (fun n i wr=> ∃k:Nat,k<=8/\i=.int .i64 (k:Int)/\n=.int .u64 ((pB (bs.take k):Nat):Int)/\wr=w1) (fun _ i _=>8-(intOf i).toNat)
 case atStart=>exact⟨0,by decide,rfl,rfl,rfl⟩
 case round=>
  obtain⟨k,hk,rfl,rfl,rfl⟩:=hrel;by_cases hlt:k<8
  ·obtain⟨x,hx⟩: ∃x,bs[k]?=some x:=⟨_,ao (by rw[H.o.1];exact hlt)⟩;have hs:pB (bs.take (k+1))=pB (bs.take k)*256+x.toNat:=by rw[iv,hx,Option.toList_some,Be]
   have hb:=CB bs k;have hb2:pB (bs.take k)<72057594037927936:=cq hb (Nat.pow_le_pow_right (by decide:256>0) (by omega:k<=7))
   have z0:wr.cell? ⟨B,k,none⟩=some (.int .u8 (x.toNat:Int)):=by simp only[World.cell?,HK.o];simp[hx,B8]
   obtain⟨M,hM⟩:=qt (pB (bs.take k));obtain⟨X,hX⟩:=qt (x.toNat);have QB:X<256:=by rw[<-hX];exact x.toNat_lt
   rw[hM]at hs hb2⊢;rw[hX]at hs z0;have e1:IntKind.u64.wrap ((M:Int)*256)=((M*256:Nat):Int):=by rw[IntKind.wrap_u64];omega
   have e2:=u64_or hb2 QB;rw[Int.natCast_mul]at e2;have HE:=al e2;have e3:IntKind.u64.wrap (X:Int)=(X:Int):=by rw[IntKind.wrap_u64];omega
   have HS:=al hs;have i1:(0:Int)<=(k:Int):=by omega
   have i2:(k:Int)<8:=by omega
   clear hs hb hx hM hX e2;go_wp2;go_roundw
   case rel=>refine⟨k+1,by omega,by go_num,?_,trivial⟩;rw[HS.o];exact eM (Value.int .u64) HE.o
   case measure=>simp[intOf];omega
  ·obtain rfl:k=8:=by omega
   rw[gE (by rw[H.o.1];decide)];go_wp2;go_ret
   refine⟨?_,H.o.2⟩;show Ending.returned (.int .i64 (wrap64 (IntKind.u64.wrap ((pB bs:Int)-9223372036854775808))))=_;rw[HW.o]
theorem EU(w:World)(k:List UInt8)(hk:k.length<=1000):Calls prog 248 #[.string ⟨k.toArray⟩] w fun e w'=>e=.returned (.string ⟨k.toArray⟩)/\Below w.heap.size w w':=by
 have H:=al (Any.stringslite_Clone Tryz.Ph ⟨k.toArray⟩ w (by show k.toArray.size<=_;simp;omega));go_enter func248,ntmps248;go_wp2_with fail;refine H.o.m ?_;rintro e w1 ⟨rfl,hb⟩;have HB:=al hb;clear hb;go_wp2_with fail;go_ret
 exact⟨rfl,HB.o⟩
theorem WA{w:World}{B:Nat}{a0 a1 a2 a3 a4 a5 a6 a7:Value}{t:TypeId}(h:w.heap[B]?=some (.cells #[a0,a1,a2,a3,a4,a5,a6,a7] t (0,0))):
  w.cell? ⟨B,0,none⟩=some a0/\w.cell? ⟨B,1,none⟩=some a1/\w.cell? ⟨B,2,none⟩=some a2/\w.cell? ⟨B,3,none⟩=some a3/\w.cell? ⟨B,4,none⟩=some a4/\w.cell? ⟨B,5,none⟩=some a5/\w.cell? ⟨B,6,none⟩=some a6/\w.cell? ⟨B,7,none⟩=some a7:=by
 refine⟨?_,?_,?_,?_,?_,?_,?_,?_⟩<;>simp[World.cell?,h]
def Pp(bs:List UInt8)(k:Nat):List Value:=(bs.take k).map B8++List.replicate (8-k) (.int .u8 0)
theorem S5{bs:List UInt8}(h:bs.length=8){k:Nat}(hk:k<=8):(Pp bs k).length=8:=by simp[Pp];omega
theorem S6{bs:List UInt8}{k:Nat}{x:UInt8}(h:bs.length=8)(hk:k<8)(hx:bs[k]?=some x):(Pp bs k).toArray.setIfInBounds k (B8 x)=(Pp bs (k+1)).toArray:=by obtain⟨j,hj⟩: ∃j,8-k=j+1:=⟨7-k,by omega⟩;unfold Pp;rw[hj,show 8-(k+1)=j by omega,iv,hx,List.replicate_succ,List.setIfInBounds_toArray];congr 1;rw[List.set_append_right _ _ (by simp;omega)];simp[show k-min k bs.length=0 by omega]
def abT(v:Int)(k:List UInt8)(w:World)(e:Ending)(w':World):Prop:=e=.returned (.tuple #[.agg #[.int .i64 v,.string ⟨k.toArray⟩],.int .i64 0])/\Below w.heap.size w w'
theorem Hy(w:World)(v:Int)(k:List UInt8)(hv:I6 v)(hk:1<=k.length/\k.length<=16):Calls prog 227 #[.string ⟨(dP v k).toArray⟩] w (abT v k w):=by
 obtain⟨s,hs⟩: ∃s:ByteArray,⟨(dP v k).toArray⟩=s:=⟨_,rfl⟩;have hsz:s.size=8+k.length:=by rw[<-hs];show(dP v k).toArray.size=_;simp[dP,cu]
 have hex:s.extract 8 s.size=⟨k.toArray⟩:=by rw[hsz,<-hs];apply ByteArray.ext;simp[dP,cu]
 have Jb: ∀(i:Nat) (x:UInt8) (h:i<s.size),(pfx v)[i]?=some x->s[i]'h=x:=by
  intro i x h hx;subst hs;have h8:i<(pfx v).length:=(b8.1 hx).1;show(dP v k).toArray[i]=x;have h2:(dP v k)[i]?=some x:=by unfold dP;rw[lr h8];exact hx
  simpa using(b8.1 h2).2
 have g1: ¬(s.size:Int)<8:=by omega
 have g2:(8:Int)<=(s.size:Int):=by omega
 rw[hs];have HC:=al (ej w k);have HX:=al (ab hsz (ab Jb (ab hv hk)));clear hsz Jb hs hv hk;obtain⟨hb0,k0⟩:=qn w (.cells #[.int .i64 0,.string ⟨#[]⟩] 201);go_enter func227,ntmps227;go_upto_region 1 with fail;generalize w.alloc (.cells #[.int .i64 0,.string ⟨#[]⟩] 201)=w1 at hb0 k0⊢;obtain⟨R,hR⟩:=qt (w.heap.size);rw[hR]at k0⊢;have HC:=al (ej w1 k);rw[vM HX.o.t]at HC;have HB:=al (ab hb0 (ab k0 hR));clear hb0 k0 hR;go_wp2_with fail;refine HC.o.m ?_;rintro e w2 ⟨rfl,rfl⟩;obtain⟨hb1,k1⟩:=qn w1 (.cells #[.int .u8 0,.int .u8 0,.int .u8 0,.int .u8 0,.int .u8 0,.int .u8 0,.int .u8 0,.int .u8 0] 263);have Nz:=pt hb1 HB.o.2.1;go_upto_region 4 with fail;generalize w1.alloc (.cells #[.int .u8 0,.int .u8 0,.int .u8 0,.int .u8 0,.int .u8 0,.int .u8 0,.int .u8 0,.int .u8 0] 263)=w2 at hb1 k1 Nz⊢;obtain⟨B,hB⟩:=qt (w1.heap.size);rw[hB]at k1⊢
 have H:=al (show Below w.heap.size w w2/\w2.heap[B]?=some (.cells (Pp (pfx v) 0).toArray 263 (0,0))/\w2.heap[R]?=some (.cells #[.int .i64 0,.string ⟨#[]⟩] 201 (0,0))/\R<B from
  ⟨HB.o.1.x (hb1.m HB.o.1.size),k1,Nz,by have:=aQ HB.o.2.1;omega⟩)
 clear hb1 k1 Nz hB HC;go_wp2_with fail
 go_loopw [16] (fun i wr=> ∃j:Nat,j<=8/\i=.int .i64 (j:Int)/\wr.heap[B]?=some (.cells (Pp (pfx v) j).toArray 263 (0,0))/\Only (fun k=>k=B) w2 wr) (fun i _=>8-(intOf i).toNat)
 case atStart=>exact⟨0,by decide,rfl,H.o.2.1,ox _ _⟩
 case round=>
  obtain⟨j,hj,rfl,oK,qR⟩:=hrel;by_cases hlt:j<8
  ·obtain⟨x,hx⟩: ∃x,(pfx v)[j]?=some x:=⟨_,ao (by rw[cu];exact hlt)⟩;have ek: ∀h,s[j]'h=x:=fun h=>HX.o.2.1 j x h hx;obtain⟨cv,hcv⟩: ∃c,(Pp (pfx v) j).toArray[j]?=some c:=⟨_,gC (by simp[S5 (cu v) hj];omega)⟩;have z0:wr.cell? ⟨B,j,none⟩=some cv:=by simp[World.cell?,oK,hcv]
   have z1:wr.frozen? ⟨B,j,none⟩=false:=by simp[World.frozen?,oK]
   have i1:(0:Int)<=(j:Int):=by omega
   have i2:(j:Int)<8:=by omega
   have i3:(j:Int)<(s.size:Int):=by omega
   have HK:=al (show(wr.setCell ⟨B,j,none⟩ (B8 x)).heap[B]?=some (.cells (Pp (pfx v) (j+1)).toArray 263 (0,0))/\Only (fun k=>k=B) w2 (wr.setCell ⟨B,j,none⟩ (B8 x))from
    ⟨by rw[heap_setCell_same wr B j _ _ (B8 x) oK,S6 (cu v) hlt hx],qR.x (bj wr B j _) (fun _ _ h=>h)⟩)
   clear oK qR hcv hx;go_wp2_with fail;go_roundw
   case rel=>exact⟨j+1,by omega,by go_num,HK.o.1,HK.o.2⟩
   case measure=>simp[intOf];omega
  ·obtain rfl:j=8:=by omega
   have kR:=qR.heap H.o.d.1 (fun e=>by have:=H.o.t;omega);have hb3:Below w.heap.size w wr:=H.o.1.x (qR.aG H.o.1.size (fun k hk e=>by have:=HB.o.d;have:=H.o.t;omega));have e8:Pp (pfx v) 8=(pfx v).map B8:=by simp[Pp,gE (show(pfx v).length<=8 by rw[cu];decide)]
   have HG:=al (fun W=>LM W (pfx v) (cu v));have hun:(pB (pfx v):Int)-9223372036854775808=v:=by rw[Po HX.o.d.1];omega
   rw[hun]at HG;rw[e8]at oK;obtain⟨x0,x1,x2,x3,x4,x5,x6,x7,hl⟩:=Ol (cu v);rw[hl]at oK HG;have HW:=al (ab oK (ab kR hb3));clear kR hb3 e8 hun hl qR oK;go_wp2_with fail;have KR:=al HW.o.2.1;have HRB:=al (show w.heap.size<=R/\B≠R from⟨Nat.le_of_eq HB.o.d,fun e=>by have:=H.o.t;omega⟩);refine o0 (S:=(fun W=>Below w.heap.size w W/\W.heap[B]?=some (.cells #[B8 x0,B8 x1,B8 x2,B8 x3,B8 x4,B8 x5,B8 x6,B8 x7] 263 (0,0)))) (by kernel_rfl) ⟨HW.o.d.drew,HW.o.1⟩ (fun ph=>?_);refine dR 0 (v:=?_) (fun wS hSw=>?_) ph ?_;rotate_left
   ·obtain⟨s0,s1⟩:=hSw;obtain⟨z0,z1,z2,z3,z4,z5,z6,z7⟩:=WA s1;go_simp;try rfl
   try simp only[ai,aj,ak,ar]
   refine aI [2,3] ?_
   iterate 2 (refine bO (v:=?_) (fun _ ⟨s0,s1⟩=>?_) ph ?_;rotate_left;(go_simp;try rfl);try simp only[ai,aj,ak,ar])
   refine aJ ?_;refine aW 1 (fun K hK=>?_);go_simp;refine(HG.o _).m ?_;rintro e wn ⟨rfl,aR⟩;have KR:=al (pt aR KR.o)
   try go_simp
   refine hK.o _ _ (⟨ph.1.x (aR.m ph.1.size),pt aR ph.2⟩) ?_;clear hK K ph aR;intro ph
   try simp only[ai,aj,ak,ar]
   refine aW 4 (fun K hK=>?_);go_simp;refine(EU _ k (by have:=HX.o.q;omega)).m ?_;rintro e wn ⟨rfl,aR⟩;have KR:=al (pt aR KR.o)
   try go_simp
   refine hK.o _ _ (⟨ph.1.x (aR.m ph.1.size),pt aR ph.2⟩) ?_;clear hK K ph aR;intro ph
   try simp only[ai,aj,ak,ar]
   refine dR 5 (v:=?_) (fun wS hSw=>?_) ph ?_;rotate_left
   ·obtain⟨s0,s1⟩:=hSw;go_simp;try rfl
   try simp only[ai,aj,ak,ar]
   refine aW 6 (fun K hK=>?_);obtain⟨c0,c1,f0,f1⟩:=fx KR.o;go_simp;refine hK.o _ _ (⟨(ph.1.setCell (p:=⟨R,0,none⟩) HRB.o.1 _).setCell (p:=⟨R,1,none⟩) HRB.o.1 _,(bj _ R 1 _).heap ((bj _ R 0 _).heap ph.2 HRB.o.2) HRB.o.2⟩) ?_;clear hK K ph c0 c1 f0 f1;intro ph
   try simp only[ai,aj,ak,ar]
   have kp:=N9 (v0:=.int .i64 v) (v1:=.string ⟨k.toArray⟩) KR.o;generalize (wn.setCell ⟨R,0,none⟩ (.int .i64 v)).setCell ⟨R,1,none⟩ (.string ⟨k.toArray⟩)=wz at kp ph⊢;refine dR 7 (v:=?_) (fun wS hSw=>?_) ph ?_;rotate_left
   ·obtain⟨s0,s1⟩:=hSw;go_simp;try rfl
   try simp only[ai,aj,ak,ar]
   refine pb (by kernel_rfl) ?_ _;have HZ:=al (ab ph.1 kp);clear ph kp;go_wp2_with fail;refine dr (aB rfl _ _ _ _ _ _ _ rfl HZ.o.2 underlying201 rfl (by kernel_rfl)) rfl ⟨rfl,HZ.o.1⟩
theorem LN(w:World)(lo hi:Int)(h1:I6 lo)(h2:I6 hi)(h:lo<=hi):Calls prog 211 #[.int .i64 lo,.int .i64 hi] w fun e w'=>e=.returned (.tuple #[.string ⟨(pfx lo).toArray⟩,.string ⟨(Di hi).toArray⟩,.int .i64 0])/\Below w.heap.size w w':=by
 have g1: ¬hi<lo:=by omega
 have H:=al (ab h1 h2);clear h1 h2 h;by_cases g2:hi<9223372036854775807
 ·have e1:wrap64 (hi+1)=hi+1:=by unfold wrap64;have:=H.o.2.1;omega
  have HT:=al (ab g2 (show Di hi=pfx (hi+1) by unfold Di;rw[fi g2]));go_enter func211,ntmps211;go_wp2_with fail;refine(pW w (hi+1) ⟨by have:=H.o.2.1;omega,by have:=HT.o.1;omega⟩).m ?_;rintro e w1 ⟨rfl,hb1⟩;have HB:=al hb1;clear hb1;go_wp2_with fail;refine(pW w1 lo H.o.1).m ?_;rintro e w2 ⟨rfl,hb2⟩;have fg:=al (HB.o.x (hb2.m HB.o.size));clear hb2;go_wp2_with fail
  go_ret3
  exact⟨by rw[HT.o.2];rfl,fg.o⟩
 ·have HT:=al (show Di hi=[] by unfold Di;rw[ff g2]);go_enter func211,ntmps211;go_wp2_with fail;refine(pW w lo H.o.1).m ?_;rintro e w2 ⟨rfl,hb2⟩;have fg:=al hb2;clear hb2;go_wp2_with fail
  go_ret3
  exact⟨by rw[HT.o];rfl,fg.o⟩
def mR(w:World)(X T:Nat)(lo hi at_:List UInt8):Prop:=w.heap[X]?=some (.cells #[.pointer (some ⟨T,0,none⟩),.string ⟨lo.toArray⟩,.string ⟨hi.toArray⟩,.string ⟨at_.toArray⟩] 334 (0,0))
theorem mR.cells{w:World}{X T:Nat}{lo hi at_:List UInt8}(h:mR w X T lo hi at_):w.cell? ⟨X,0,none⟩=some (.pointer (some ⟨T,0,none⟩))/\w.cell? ⟨X,2,none⟩=some (.string ⟨hi.toArray⟩)/\w.cell? ⟨X,3,none⟩=some (.string ⟨at_.toArray⟩)/\w.frozen? ⟨X,3,none⟩=false:=by unfold mR at h;refine⟨?_,?_,?_,?_⟩<;>simp[World.cell?,World.frozen?,h]
theorem JP{k:List UInt8}(h:k≠[]): ¬(⟨k.toArray⟩:ByteArray)=⟨#[]⟩:=fun e=>h (by injection e with e;simpa using e)
theorem LO(w:World)(T:Nat)(lo hi:List UInt8)(h:hi=[]\/ ¬hi<lo):Calls prog 212 #[.pointer (some ⟨T,0,none⟩),.string ⟨lo.toArray⟩,.string ⟨hi.toArray⟩] w fun e w'=>
  ∃X,e=.returned (.tuple #[.pointer (some ⟨X,0,none⟩),.int .i64 0])/\w.heap.size<=X/\mR w' X T lo hi lo/\Below w.heap.size w w':=by
 obtain⟨hb,k0⟩:=qn w (.cells #[.pointer (some ⟨T,0,none⟩),.string ⟨lo.toArray⟩,.string ⟨hi.toArray⟩,.string ⟨lo.toArray⟩] 334);have H:=al (ab k0 hb);clear k0 hb;by_cases g:hi=[]
 ·subst g;go_enter func212,ntmps212;go_wp2
  go_ret2
  exact⟨_,rfl,aE _,H.o.1,H.o.2⟩
 ·have g1:Op.bytesLess hi lo=false:=by rw[bytesLess_eq];simpa using h.resolve_left g
  have g2:=JP g;have g3: ¬hi.toArray= #[]:=fun e=>g (by simpa using e);have g4:(hi==[])=false:=beq_eq_false_iff_ne.2 g;go_enter func212,ntmps212;go_wp2
  go_ret2
  exact⟨_,rfl,aE _,H.o.1,H.o.2⟩
def aar(X T:Nat)(lo hi:List UInt8)(c:Option Pr)(w:World)(e:Ending)(w':World):Prop:=
 match c with
 |none=>e=.returned (.tuple #[.string ⟨#[]⟩,.string ⟨#[]⟩,.bool false])/\Below w.heap.size w w'
 |some p=>e=.returned (.tuple #[.string ⟨p.1.toArray⟩,.string ⟨p.2.toArray⟩,.bool true])/\mR w' X T lo hi (p.1++[0])/\Only (fun k=>k=X) w w'
def uj(hi at_:List UInt8)(l:List Pr):Option Pr:=(ceil at_ l).filter (jG hi)
theorem Hz(w:World)(X T o:Nat)(l:List Pr)(F:Nat->Nat->Prop)(lo hi at_:List UInt8)(h:mR w X T lo hi at_)(ht:bM w T o l F)(hl: ∀p∈l,p.1.length<=1000):
  Calls prog 214 #[.pointer (some ⟨X,0,none⟩)] w (aar X T lo hi (uj hi at_ l) w):=by
 obtain⟨c0,-,c3,-⟩:=h.cells;have H:=al (ab h (ab ht hl));clear h ht hl;go_enter func214,ntmps214;go_wp2_with fail;refine o0 (S:=(fun W=>Below w.heap.size w W/\W.cell? ⟨X,0,none⟩=some (.pointer (some ⟨T,0,none⟩))/\W.cell? ⟨X,3,none⟩=some (.string ⟨at_.toArray⟩))) (by kernel_rfl) ⟨(aw _ _).drew,c0,c3⟩ (fun ph=>?_);refine aI [0,1,2,3,4,5,6,7] ?_
 iterate 8 (refine bO (v:=?_) (fun _ ⟨s0,s1,s2⟩=>?_) ph ?_;rotate_left;(go_simp;try rfl);try simp only[ai,aj,ak,ar])
 refine aJ ?_;refine aW 8 (fun K hK=>?_);go_simp;refine(Jr _ T o l F at_ (H.o.2.1.below ph.1)).m ?_;rintro e wn ⟨rfl,aR⟩
 try go_simp
 refine hK.o _ _ (tF ph aR) ?_;clear hK K ph aR;intro ph
 try simp only[ai,aj,ak,ar]
 refine aI [9,10,11,12,13,14,15] ?_
 iterate 7 (refine bO (v:=?_) (fun _ ⟨s0,s1,s2⟩=>?_) ph ?_;rotate_left;(go_simp;try rfl);try simp only[ai,aj,ak,ar])
 refine aJ ?_;refine pb (by kernel_rfl) ?_ _;have HB:=al ph.1;clear ph c0 c3
 cases hc:ceil at_ l with
 |none=>
  have HX:=al (show uj hi at_ l=none by unfold uj;rw[hc];rfl);unfold XB Zk Zl;simp only[lP];clear hc;go_wp2_with fail
  go_ret3
  rw[HX.o];exact⟨rfl,HB.o⟩
 |some p=>
  have hpl:p.1.length<=1000:=H.o.d p (by
   have:=pN at_ l;rw[hc]at this
   exact sX (List.mem_of_head? this.symm))
  have hX:=pt HB.o H.o.1;obtain⟨-,c2,c3b,f3⟩:=mR.cells (show mR wn X T lo hi at_ from hX);have HK:=al hX;unfold XB Zk Zl;simp only[lz,Option.map_some,Option.getD_some,if_true];obtain⟨pk,pv⟩:=p;simp only at hpl;have hz: ¬9223372036854775807<pk.length+1:=by omega
  have HO:=al (show mR (wn.setCell ⟨X,3,none⟩ (.string ⟨(pk++[0]).toArray⟩)) X T lo hi (pk++[0])/\Only (fun k=>k=X) w (wn.setCell ⟨X,3,none⟩ (.string ⟨(pk++[0]).toArray⟩))from
   ⟨by have:=db wn X 3 _ _ (.string ⟨(pk++[0]).toArray⟩) hX;simpa[mR]using this,(oj HB.o _).x (bj wn X 3 _) (fun _ _ h=>h)⟩)
  have hap:=Oi pk [0];clear hX;by_cases g:hi=[]
  ·subst g;have HX:=al (show uj [] at_ l=some (pk,pv) by unfold uj;rw[hc];rfl);clear hc;go_wp2_with fail
   go_ret3
   rw[HX.o];exact⟨rfl,HO.o⟩
  ·have g2:=JP g;have g3: ¬hi.toArray= #[]:=fun e=>g (by simpa using e);have g4:(hi==[])=false:=beq_eq_false_iff_ne.2 g;by_cases gl:pk<hi
   ·have g1:Op.bytesLess pk hi=true:=by rw[bytesLess_eq];simpa using gl
    have HX:=al (show uj hi at_ l=some (pk,pv) by unfold uj;rw[hc];simp[Option.filter,jG,gl]);clear hc;go_wp2_with fail
    go_ret3
    rw[HX.o];exact⟨rfl,HO.o⟩
   ·have g1:Op.bytesLess pk hi=false:=by rw[bytesLess_eq];simpa using gl
    have HX:=al (show uj hi at_ l=none by unfold uj;rw[hc];simp[Option.filter,jG,gl,g]);clear hc;go_wp2_with fail
    go_ret3
    rw[HX.o];exact⟨rfl,HB.o⟩
end Go.Proofs.YtmkofmeojbcakaaGreatDoor
