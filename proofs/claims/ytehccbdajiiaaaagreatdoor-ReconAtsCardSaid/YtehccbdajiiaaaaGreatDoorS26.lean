import Derived.Test.YtehccbdajiiaaaaGreatDoorS21
import Derived.Test.YtehccbdajiiaaaaGreatDoorS25
namespace Go.Proofs.YtehccbdajiiaaaaGreatDoor
open Go.Proofs.Tryz
set_option maxRecDepth 100000
set_option maxHeartbeats 16000000
open Go.RowKit
def pz(l:List UInt8):Nat:=l.foldl (fun n b=>n*256+b.toNat) 0
theorem BP(l:List UInt8)(b:UInt8):pz (l++[b])=pz l*256+b.toNat:=by simp[pz]
theorem KZ: ∀(k n:Nat) (a:Nat),n<256^k->(be k n).foldl (fun n b=>n*256+b.toNat) a=a*256^k+n
 |0,n,a,h=>by
  have:n=0:=by omega
  simp[be,this]
 |k+1,n,a,h=>by
  rw[be,List.foldl_cons,KZ k (n%256^k) _ (Nat.mod_lt _ (Nat.pow_pos (by decide)))];have d:n/256^k<256:=by rw[Nat.div_lt_iff_lt_mul (Nat.pow_pos (by decide))];rw[Nat.pow_succ]at h;omega
  have b:(UInt8.ofNat (n/256^k)).toNat=n/256^k:=by simp;omega
  have c:=Nat.div_add_mod n (256^k);rw[b,Nat.add_mul,Nat.pow_succ,<-Nat.mul_assoc,Nat.mul_right_comm,Nat.mul_comm (n/256^k)];omega
theorem Dj: ∀(l:List UInt8) (k:Nat),pz (l.take k)<256^k
 |l,0=>by simp[pz]
 |l,k+1=>by
  have a:=Dj l k;by_cases h:k<l.length
  ·rw[gO,List.getElem?_eq_getElem h,Option.toList_some,BP,Nat.pow_succ];have:=l[k].toNat_lt;omega
  ·rw[fm (by omega)]at a⊢;rw[Nat.pow_succ];omega
theorem Qv{n:Int}(h:I6 n):(pz (pfx n):Int)=n+9223372036854775808:=by unfold pz pfx;have b:=h.1;have a:=h.2;rw[KZ 8 _ 0 (by rw[show(256:Nat)^8=18446744073709551616 by decide];omega)];omega
theorem u64_or{a b:Nat}(d:a<72057594037927936)(c:b<256):bits BinOp.or IntKind.u64 ((a*256:Nat):Int) (b:Int)=((a*256+b:Nat):Int):=by have h:=u64_or_nat (a*256) b (by omega) (by omega);rw[h];congr 1;have:=Nat.two_pow_add_eq_or_of_lt (i:=8) (b:=b) (by simpa using c) a;simp only[Nat.reducePow]at this;rw[Nat.mul_comm,<-this]
theorem M0(w:World)(a:List UInt8)(d:a.length=8):Calls prog 278 #[.agg (a.map B8).toArray] w fun e b=>e=.returned (rm ((pz a:Int)-9223372036854775808))/\Below w.heap.size w b:=by
 obtain⟨c,b⟩:=rj w (.cells (a.map B8).toArray 346)
 have r:=al (show wrap64 (IntKind.u64.wrap ((pz a:Int)-9223372036854775808))=(pz a:Int)-9223372036854775808 by
  have:=Dj a 8;rw[fm (by omega),show(256:Nat)^8=18446744073709551616 by decide]at this;rw[IntKind.wrap_u64];unfold wrap64
  omega)
 have H:=AD d c;clear d c;go_enter func278,ntmps278;go_upto_region 1 with fail;generalize w.alloc (.cells (a.map B8).toArray 346)=c at H b⊢;generalize w.heap.size=B at b⊢;have q:=al b;clear b;go_wp2_with fail
 go_loopw [3,5] (fun n i wr=> ∃k:Nat,k<=8/\i=rm (k:Int)/\n=.int .u64 ((pz (a.take k):Nat):Int)/\wr=c) (fun _ i _=>8-(intOf i).toNat)
 case atStart=>exact⟨0,by decide,rfl,rfl,rfl⟩
 case round=>
  obtain⟨k,t,rfl,rfl,rfl⟩:=hrel;by_cases j:k<8
  ·obtain⟨x,d⟩: ∃x,a[k]?=some x:=⟨_,ao (by rw[H.o.1];exact j)⟩;have b:pz (a.take (k+1))=pz (a.take k)*256+x.toNat:=by rw[gO,d,Option.toList_some,BP]
   have g:=Dj a k;have f:pz (a.take k)<72057594037927936:=da g (Nat.pow_le_pow_right (by decide:256>0) (by omega:k<=7))
   have p:wr.cell? ⟨B,k,none⟩=some (.int .u8 (x.toNat:Int)):=by simp only[World.cell?,q.o];simp[d,B8]
   obtain⟨M,h⟩:=rk (pz (a.take k));obtain⟨X,e⟩:=rk (x.toNat);have o:X<256:=by rw[<-e];exact x.toNat_lt
   rw[h]at b f⊢;rw[e]at b p;have y:IntKind.u64.wrap ((M:Int)*256)=((M*256:Nat):Int):=by rw[IntKind.wrap_u64];omega
   have c:=u64_or f o;rw[Int.natCast_mul]at c;have l:=al c;have s:IntKind.u64.wrap (X:Int)=(X:Int):=by rw[IntKind.wrap_u64];omega
   have m:=al b;have v:(0:Int)<=(k:Int):=by omega
   have u:(k:Int)<8:=by omega
   clear b g d h e c;go_wp2_with fail;go_roundw
   case rel=>refine⟨k+1,by omega,by go_num,?_,trivial⟩;rw[m.o];exact eE (Value.int .u64) l.o
   case measure=>simp[intOf];omega
  ·obtain rfl:k=8:=by omega
   rw[fm (by rw[H.o.1];decide)];go_wp2_with fail;go_ret
   refine⟨?_,H.o.2⟩;show Ending.returned (.int .i64 (wrap64 (IntKind.u64.wrap ((pz a:Int)-9223372036854775808))))=_;rw[r.o]
theorem FO(w:World)(k:List UInt8)(c:k.length<=1000):Calls prog 279 #[r7 k] w fun e a=>e=.returned (r7 k)/\Below w.heap.size w a:=by
 have H:=al (Any.stringslite_Clone Tryz.Qg ⟨k.toArray⟩ w (by show k.toArray.size<=_;simp;omega));go_enter func279,ntmps279;go_wp2_with fail;refine H.o.m ?_;rintro e d ⟨rfl,a⟩;have b:=al a;clear a;go_wp2_with fail;go_ret
 exact⟨rfl,b.o⟩
theorem Ym{w:World}{B:Nat}{d c e f b a g h:Value}{t:TypeId}(i:w.heap[B]?=some (.cells #[d,c,e,f,b,a,g,h] t (0,0))):
  w.cell? ⟨B,0,none⟩=some d/\w.cell? ⟨B,1,none⟩=some c/\w.cell? ⟨B,2,none⟩=some e/\w.cell? ⟨B,3,none⟩=some f/\w.cell? ⟨B,4,none⟩=some b/\w.cell? ⟨B,5,none⟩=some a/\w.cell? ⟨B,6,none⟩=some g/\w.cell? ⟨B,7,none⟩=some h:=by
 refine⟨?_,?_,?_,?_,?_,?_,?_,?_⟩<;>simp[World.cell?,i]
def Qw(a:List UInt8)(k:Nat):List Value:=(a.take k).map B8++List.replicate (8-k) (.int .u8 0)
theorem Uu{a:List UInt8}(h:a.length=8){k:Nat}(b:k<=8):(Qw a k).length=8:=by simp[Qw];omega
theorem Uv{a:List UInt8}{k:Nat}{x:UInt8}(h:a.length=8)(d:k<8)(c:a[k]?=some x):(Qw a k).toArray.setIfInBounds k (B8 x)=(Qw a (k+1)).toArray:=by obtain⟨j,b⟩: ∃j,8-k=j+1:=⟨7-k,by omega⟩;unfold Qw;rw[b,show 8-(k+1)=j by omega,gO,c,List.replicate_succ,List.setIfInBounds_toArray];congr 1;rw[List.set_append_right _ _ (by simp;omega)];simp[show k-min k a.length=0 by omega]
def ac3(v:Int)(k:List UInt8)(w:World)(e:Ending)(w':World):Prop:=e=.returned (.tuple #[.agg #[rm v,r7 k],rm 0])/\Below w.heap.size w w'
theorem Jc(w:World)(v:Int)(k:List UInt8)(hv:I6 v)(hk:1<=k.length/\k.length<=16):Calls prog 254 #[.string ⟨(dM v k).toArray⟩] w (ac3 v k w):=by
 obtain⟨s,hs⟩: ∃s:ByteArray,⟨(dM v k).toArray⟩=s:=⟨_,rfl⟩;have hsz:s.size=8+k.length:=by rw[<-hs];show(dM v k).toArray.size=_;simp[dM,cu]
 have hex:s.extract 8 s.size=⟨k.toArray⟩:=by rw[hsz,<-hs];apply ByteArray.ext;simp[dM,cu]
 have Ky: ∀(i:Nat) (x:UInt8) (h:i<s.size),(pfx v)[i]?=some x->s[i]'h=x:=by
  intro i x h hx;subst hs;have h8:i<(pfx v).length:=(aw.1 hx).1;show(dM v k).toArray[i]=x;have h2:(dM v k)[i]?=some x:=by unfold dM;rw[lk h8];exact hx
  simpa using(aw.1 h2).2
 have g1: ¬(s.size:Int)<8:=by omega
 have g2:(8:Int)<=(s.size:Int):=by omega
 rw[hs];have HC:=al (eB w k);have HX:=al (ab hsz (ab Ky (ab hv hk)));clear hsz Ky hs hv hk;obtain⟨hb0,k0⟩:=rj w (.cells #[.int .i64 0,.string ⟨#[]⟩] 273);go_enter func254,ntmps254;go_upto_region 1 with fail;generalize w.alloc (.cells #[.int .i64 0,.string ⟨#[]⟩] 273)=w1 at hb0 k0⊢;obtain⟨R,hR⟩:=rk (w.heap.size);rw[hR]at k0⊢;have HC:=al (eB w1 k);rw[wh HX.o.t]at HC;have HB:=al (ab hb0 (ab k0 hR));clear hb0 k0 hR;go_wp2_with fail;refine HC.o.m ?_;rintro e w2 ⟨rfl,rfl⟩;obtain⟨hb1,k1⟩:=rj w1 (.cells #[.int .u8 0,.int .u8 0,.int .u8 0,.int .u8 0,.int .u8 0,.int .u8 0,.int .u8 0,.int .u8 0] 346);have PR:=qt hb1 HB.o.2.1;go_upto_region 4 with fail;generalize w1.alloc (.cells #[.int .u8 0,.int .u8 0,.int .u8 0,.int .u8 0,.int .u8 0,.int .u8 0,.int .u8 0,.int .u8 0] 346)=w2 at hb1 k1 PR⊢;obtain⟨B,hB⟩:=rk (w1.heap.size);rw[hB]at k1⊢
 have H:=al (show Below w.heap.size w w2/\w2.heap[B]?=some (.cells (Qw (pfx v) 0).toArray 346 (0,0))/\w2.heap[R]?=some (.cells #[.int .i64 0,.string ⟨#[]⟩] 273 (0,0))/\R<B from
  ⟨HB.o.1.x (hb1.m HB.o.1.size),k1,PR,by have:=aM HB.o.2.1;omega⟩)
 clear hb1 k1 PR hB HC;go_wp2_with fail
 go_loopw [16] (fun i wr=> ∃j:Nat,j<=8/\i=.int .i64 (j:Int)/\wr.heap[B]?=some (.cells (Qw (pfx v) j).toArray 346 (0,0))/\Only (fun k=>k=B) w2 wr) (fun i _=>8-(intOf i).toNat)
 case atStart=>exact⟨0,by decide,rfl,H.o.2.1,oE _ _⟩
 case round=>
  obtain⟨j,hj,rfl,oO,uH⟩:=hrel;by_cases hlt:j<8
  ·obtain⟨x,hx⟩: ∃x,(pfx v)[j]?=some x:=⟨_,ao (by rw[cu];exact hlt)⟩;have bQ: ∀h,s[j]'h=x:=fun h=>HX.o.2.1 j x h hx;obtain⟨cv,hcv⟩: ∃c,(Qw (pfx v) j).toArray[j]?=some c:=⟨_,fl (by simp[Uu (cu v) hj];omega)⟩;have z0:wr.cell? ⟨B,j,none⟩=some cv:=by simp[World.cell?,oO,hcv]
   have z1:wr.frozen? ⟨B,j,none⟩=false:=by simp[World.frozen?,oO]
   have i1:(0:Int)<=(j:Int):=by omega
   have i2:(j:Int)<8:=by omega
   have i3:(j:Int)<(s.size:Int):=by omega
   have HK:=al (show(wr.setCell ⟨B,j,none⟩ (B8 x)).heap[B]?=some (.cells (Qw (pfx v) (j+1)).toArray 346 (0,0))/\Only (fun k=>k=B) w2 (wr.setCell ⟨B,j,none⟩ (B8 x))from
    ⟨by rw[heap_setCell_same wr B j _ _ (B8 x) oO,Uv (cu v) hlt hx],uH.x (bg wr B j _) (fun _ _ h=>h)⟩)
   clear oO uH hcv hx;go_wp2_with fail;go_roundw
   case rel=>exact⟨j+1,by omega,by go_num,HK.o.1,HK.o.2⟩
   case measure=>simp[intOf];omega
  ·obtain rfl:j=8:=by omega
   have kR:=uH.heap H.o.d.1 (fun e=>by have:=H.o.t;omega);have hb3:Below w.heap.size w wr:=H.o.1.x (uH.aH H.o.1.size (fun k hk e=>by have:=HB.o.d;have:=H.o.t;omega));have e8:Qw (pfx v) 8=(pfx v).map B8:=by simp[Qw,fm (show(pfx v).length<=8 by rw[cu];decide)]
   have HG:=al (fun W=>M0 W (pfx v) (cu v));have hun:(pz (pfx v):Int)-9223372036854775808=v:=by rw[Qv HX.o.d.1];omega
   rw[hun]at HG;rw[e8]at oO;obtain⟨x0,x1,x2,x3,x4,x5,x6,x7,hl⟩:=PX (cu v);rw[hl]at oO HG;have HW:=al (ab oO (ab kR hb3));clear kR hb3 e8 hun hl uH oO;go_wp2_with fail;have KR:=al HW.o.2.1;have Yn:=al (show w.heap.size<=R/\B≠R from⟨Nat.le_of_eq HB.o.d,fun e=>by have:=H.o.t;omega⟩);refine pt (S:=(fun W=>Below w.heap.size w W/\W.heap[B]?=some (.cells #[B8 x0,B8 x1,B8 x2,B8 x3,B8 x4,B8 x5,B8 x6,B8 x7] 346 (0,0)))) (by kernel_rfl) ⟨HW.o.d.drew,HW.o.1⟩ (fun qn=>?_);refine lA 0 (v:=?_) (fun wS hSw=>?_) qn ?_;rotate_left
   ·obtain⟨s0,s1⟩:=hSw;obtain⟨z0,z1,z2,z3,z4,z5,z6,z7⟩:=Ym s1;go_simp;try with_reducible rfl
   try simp only[aj,ak,ar,au]
   refine bj [2,3] ?_
   iterate 2 (refine dZ (v:=?_) (fun wS hSw=>?_) qn ?_;rotate_left;(obtain⟨s0,s1⟩:=hSw;go_simp;try with_reducible rfl);try simp only[aj,ak,ar,au])
   refine bq ?_;refine bA 1 (fun K hK=>?_);go_simp;refine(HG.o _).m ?_;rintro e wn ⟨rfl,dB⟩;have KR:=al (qt dB KR.o)
   try go_simp
   refine hK.o _ _ (⟨qn.1.x (dB.m qn.1.size),qt dB qn.2⟩) ?_;clear hK K qn dB;intro qn
   try simp only[aj,ak,ar,au]
   refine bA 4 (fun K hK=>?_);go_simp;refine(FO _ k (by have:=HX.o.q;omega)).m ?_;rintro e wn ⟨rfl,dB⟩;have KR:=al (qt dB KR.o)
   try go_simp
   refine hK.o _ _ (⟨qn.1.x (dB.m qn.1.size),qt dB qn.2⟩) ?_;clear hK K qn dB;intro qn
   try simp only[aj,ak,ar,au]
   refine lA 5 (v:=?_) (fun wS hSw=>?_) qn ?_;rotate_left
   ·obtain⟨s0,s1⟩:=hSw;go_simp;try with_reducible rfl
   try simp only[aj,ak,ar,au]
   refine bA 6 (fun K hK=>?_);obtain⟨c0,c1,f0,f1⟩:=fE KR.o;go_simp;refine hK.o _ _ (⟨(qn.1.setCell (p:=⟨R,0,none⟩) Yn.o.1 _).setCell (p:=⟨R,1,none⟩) Yn.o.1 _,(bg _ R 1 _).heap ((bg _ R 0 _).heap qn.2 Yn.o.2) Yn.o.2⟩) ?_;clear hK K qn c0 c1 f0 f1;intro qn
   try simp only[aj,ak,ar,au]
   have kp:=PH (v0:=.int .i64 v) (v1:=.string ⟨k.toArray⟩) KR.o;generalize (wn.setCell ⟨R,0,none⟩ (.int .i64 v)).setCell ⟨R,1,none⟩ (.string ⟨k.toArray⟩)=wz at kp qn⊢;refine lA 7 (v:=?_) (fun wS hSw=>?_) qn ?_;rotate_left
   ·obtain⟨s0,s1⟩:=hSw;go_simp;try with_reducible rfl
   try simp only[aj,ak,ar,au]
   refine pw (by kernel_rfl) ?_ _;have HZ:=al (ab qn.1 kp);clear qn kp;go_wp2_with fail;refine dj (ax rfl _ _ _ _ _ _ _ rfl HZ.o.2 underlying273 rfl (by kernel_rfl)) rfl ⟨rfl,HZ.o.1⟩
theorem M3(w:World)(lo hi:Int)(a:I6 lo)(b:I6 hi)(d:lo<=hi):Calls prog 230 #[rm lo,rm hi] w fun h c=>h=.returned (.tuple #[.string ⟨(pfx lo).toArray⟩,.string ⟨(En hi).toArray⟩,rm 0])/\Below w.heap.size w c:=by
 have i: ¬hi<lo:=by omega
 have H:=AD a b;clear a b d;by_cases c:hi<9223372036854775807
 ·have j:wrap64 (hi+1)=hi+1:=by unfold wrap64;have:=H.o.2.1;omega
  have b:=AD c (show En hi=pfx (hi+1) by unfold En;rw[ff c]);go_enter func230,ntmps230;go_wp2_with fail;refine(pU w (hi+1) ⟨by have:=H.o.2.1;omega,by have:=b.o.1;omega⟩).m ?_;rintro h g ⟨rfl,a⟩;have e:=al a;clear a;go_wp2_with fail;refine(pU g lo H.o.1).m ?_;rintro h f ⟨rfl,a⟩;have d:=al (e.o.x (a.m e.o.size));clear a;go_wp2_with fail
  go_ret3
  exact⟨by rw[b.o.2];rfl,d.o⟩
 ·have b:=al (show En hi=[] by unfold En;rw[fb c]);go_enter func230,ntmps230;go_wp2_with fail;refine(pU w lo H.o.1).m ?_;rintro h f ⟨rfl,a⟩;have d:=al a;clear a;go_wp2_with fail
  go_ret3
  exact⟨by rw[b.o];rfl,d.o⟩
def ng(w:World)(X T:Nat)(lo hi a:List UInt8):Prop:=w.heap[X]?=some (.cells #[rv T,r7 lo,r7 hi,r7 a] 354 (0,0))
theorem ng.cells{w:World}{X T:Nat}{lo hi a:List UInt8}(h:ng w X T lo hi a):w.cell? ⟨X,0,none⟩=some (rv T)/\w.cell? ⟨X,2,none⟩=some (r7 hi)/\w.cell? ⟨X,3,none⟩=some (r7 a)/\w.frozen? ⟨X,3,none⟩=false:=by unfold ng at h;refine⟨?_,?_,?_,?_⟩<;>simp[World.cell?,World.frozen?,h]
theorem K1{k:List UInt8}(h:k≠[]): ¬(⟨k.toArray⟩:ByteArray)=⟨#[]⟩:=fun e=>h (by injection e with e;simpa using e)
theorem M4(w:World)(T:Nat)(lo hi:List UInt8)(h:hi=[]\/ ¬hi<lo):Calls prog 231 #[rv T,r7 lo,r7 hi] w fun e a=>
  ∃X,e=.returned (.tuple #[rv X,rm 0])/\w.heap.size<=X/\ng a X T lo hi lo/\Below w.heap.size w a:=by
 obtain⟨a,b⟩:=rj w (.cells #[rv T,r7 lo,r7 hi,r7 lo] 354);have H:=AD b a;clear b a;by_cases g:hi=[]
 ·subst g;go_enter func231,ntmps231;go_wp2_with fail
  go_ret2
  exact⟨_,rfl,b8 _,H.o.1,H.o.2⟩
 ·have d:Op.bytesLess hi lo=false:=by rw[bytesLess_eq];simpa using h.resolve_left g
  have a:=K1 g;have c: ¬hi.toArray= #[]:=fun e=>g (by simpa using e);have b:(hi==[])=false:=beq_eq_false_iff_ne.2 g;go_enter func231,ntmps231;go_wp2_with fail
  go_ret2
  exact⟨_,rfl,b8 _,H.o.1,H.o.2⟩
def abn(X T:Nat)(lo hi:List UInt8)(c:Option Pr)(w:World)(e:Ending)(w':World):Prop:=
 match c with
 |none=>e=.returned (.tuple #[.string ⟨#[]⟩,.string ⟨#[]⟩,.bool false])/\Below w.heap.size w w'
 |some p=>e=.returned (.tuple #[r7 p.1,r7 p.2,.bool true])/\ng w' X T lo hi (p.1++[0])/\Only (fun k=>k=X) w w'
def ub(hi a:List UInt8)(l:List Pr):Option Pr:=(ceil a l).filter (jV hi)
theorem Jd(w:World)(X T o:Nat)(l:List Pr)(F:Nat->Nat->Prop)(lo hi a:List UInt8)(j:ng w X T lo hi a)(b:bM w T o l F)(c: ∀p∈l,p.1.length<=1000):
  Calls prog 233 #[rv X] w (abn X T lo hi (ub hi a l) w):=by
 obtain⟨g,-,f,-⟩:=j.cells;have H:=AF j b c;clear j b c;go_enter func233,ntmps233;go_wp2_with fail;refine pt (S:=(fun W=>Below w.heap.size w W/\W.cell? ⟨X,0,none⟩=some (rv T)/\W.cell? ⟨X,3,none⟩=some (r7 a))) (by kernel_rfl) ⟨(bd _ _).drew,g,f⟩ (fun b=>?_);refine bj [0,1,2,3,4,5,6,7] ?_
 iterate 8 (refine dZ (v:=?_) (fun _ ⟨h,k,i⟩=>?_) b ?_;rotate_left;(go_simp;try rfl);try simp only[xr])
 refine bq ?_;refine bA 8 (fun K c=>?_);go_simp;refine(KJ _ T o l F a (H.o.2.1.below b.1)).m ?_;rintro n d ⟨rfl,e⟩
 try go_simp
 refine c.o _ _ (tQ b e) ?_;clear c K b e;intro b
 try simp only[xr]
 refine bj [9,10,11,12,13,14,15] ?_
 iterate 7 (refine dZ (v:=?_) (fun _ ⟨h,k,i⟩=>?_) b ?_;rotate_left;(go_simp;try rfl);try simp only[xr])
 refine bq ?_;refine pw (by kernel_rfl) ?_ _;have e:=al b.1;clear b g f
 cases hc:ceil a l with
 |none=>
  have c:=al (show ub hi a l=none by unfold ub;rw[hc];rfl);unfold Z0 kOf vOf;simp only[nx];clear hc;go_wp2_with fail
  go_ret3
  rw[c.o];exact⟨rfl,e.o⟩
 |some p=>
  have k:p.1.length<=1000:=H.o.d p (by
   have:=pL a l;rw[hc]at this
   exact tv (List.mem_of_head? this.symm))
  have f:=qt e.o H.o.1;obtain⟨-,s,q,u⟩:=ng.cells (show ng d X T lo hi a from f);have y:=al f;unfold Z0 kOf vOf;simp only[mT,Option.map_some,oy,if_true];obtain⟨b,h⟩:=p;simp only at k;have x: ¬9223372036854775807<b.length+1:=by omega
  have g:=al (show ng (d.setCell ⟨X,3,none⟩ (.string ⟨(b++[0]).toArray⟩)) X T lo hi (b++[0])/\Only (fun i=>i=X) w (d.setCell ⟨X,3,none⟩ (.string ⟨(b++[0]).toArray⟩))from
   ⟨by have:=dp d X 3 _ _ (.string ⟨(b++[0]).toArray⟩) f;simpa[ng]using this,(oB e.o _).x (bg d X 3 _) (fun _ _ j=>j)⟩)
  have p:=PV b [0];clear f;by_cases i:hi=[]
  ·subst i;have c:=al (show ub [] a l=some (b,h) by unfold ub;rw[hc];rfl);clear hc;go_wp2_with fail
   go_ret3
   rw[c.o];exact⟨rfl,g.o⟩
  ·have r:=K1 i;have t: ¬hi.toArray= #[]:=fun n=>i (by simpa using n);have v:(hi==[])=false:=beq_eq_false_iff_ne.2 i;by_cases f:b<hi
   ·have m:Op.bytesLess b hi=true:=by rw[bytesLess_eq];simpa using f
    have c:=al (show ub hi a l=some (b,h) by unfold ub;rw[hc];simp[Option.filter,jV,f]);clear hc;go_wp2_with fail
    go_ret3
    rw[c.o];exact⟨rfl,g.o⟩
   ·have m:Op.bytesLess b hi=false:=by rw[bytesLess_eq];simpa using f
    have c:=al (show ub hi a l=none by unfold ub;rw[hc];simp[Option.filter,jV,f,i]);clear hc;go_wp2_with fail
    go_ret3
    rw[c.o];exact⟨rfl,e.o⟩
end Go.Proofs.YtehccbdajiiaaaaGreatDoor
