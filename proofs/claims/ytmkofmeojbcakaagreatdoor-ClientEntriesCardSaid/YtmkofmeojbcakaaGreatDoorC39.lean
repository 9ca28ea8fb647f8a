import Derived.Test.YtmkofmeojbcakaaGreatDoorC24
import Derived.Test.YtmkofmeojbcakaaGreatDoorC27
import Derived.Test.YtmkofmeojbcakaaGreatDoorC38
namespace Go.Proofs.YtmkofmeojbcakaaGreatDoor
open Go.Proofs.Tryz
set_option maxRecDepth 100000
set_option maxHeartbeats 16000000
open Go.RowKit
section
open Go.RowKit Go.Maps Go.WideShapes
end
section
open Go.Shelf Go.RowKit Go.Lib Go.Sort
def Ic(a b:List UInt8):Int:=if a<b then -1 else if b<a then 1 else 0
abbrev uk (x y:Int×List UInt8):Int:=if Lib.compareInt x.1 y.1=0 then Ic x.2 y.2 else Lib.compareInt x.1 y.1
instance (x y:Int×List UInt8):Decidable (yI x y):=by unfold yI;exact inferInstance
theorem Bh(a b:List UInt8):a<b\/a=b\/b<a:=by
 by_cases h1:a<b
 ·exact .inl h1
 ·by_cases h2:b<a
  ·exact .inr (.inr h2)
  ·exact .inr (.inl (List.le_antisymm (List.not_lt.1 h2) (List.not_lt.1 h1)))
theorem ltF(x y:Int×List UInt8):ltOf uk x y=decide (yI x y):=by
 unfold ltOf uk yI Lib.compareInt Ic;by_cases h1:x.1<y.1
 ·simp[h1]
 ·by_cases h2:y.1<x.1
  ·have: ¬x.1=y.1:=by omega
   simp[h1,h2,this]
  ·have:x.1=y.1:=by omega
   by_cases h3:x.2<y.2
   ·simp[this,h3]
   ·by_cases h4:y.2<x.2<;>simp[this,h3,h4]
theorem yI.trans{x y z:Int×List UInt8}(h1:yI x y)(h2:yI y z):yI x z:=by
 unfold yI at *;rcases h1 with h1|⟨h1,h1'⟩
 ·rcases h2 with h2|⟨h2,_⟩<;>exact .inl (by omega)
 ·rcases h2 with h2|⟨h2,h2'⟩
  ·exact .inl (by omega)
  ·exact .inr ⟨by omega,List.lt_trans h1' h2'⟩
abbrev yI.x:=@yI.trans
theorem yI.total(x y:Int×List UInt8):yI x y\/x=y\/yI y x:=by
 unfold yI;rcases Int.lt_trichotomy x.1 y.1 with h|h|h
 ·exact .inl (.inl h)
 ·rcases Bh x.2 y.2 with h'|h'|h'
  ·exact .inl (.inr ⟨h,h'⟩)
  ·exact .inr (.inl (Prod.ext h h'))
  ·exact .inr (.inr (.inr ⟨h.symm,h'⟩))
 ·exact .inr (.inr (.inl h))
theorem yI.irrefl(x:Int×List UInt8): ¬yI x x:=by
 rintro(h|⟨_,h⟩)
 ·omega
 ·exact aL _ h
theorem abU:SWO (ltOf uk) where
 irrefl x:=by rw[ltF];simp[yI.irrefl]
 trans x y z h1 h2:=by rw[ltF]at *;simp at *;exact h1.x h2
 ntrans x y z h1 h2:=by
  rw[ltF]at *;simp only[decide_eq_false_iff_not]at *;intro h;rcases yI.total y x with h3|h3|h3
  ·exact h2 (by first|exact h3.x h|exact h)
  ·subst h3;exact h2 h
  ·exact h1 h3
theorem S9(a b:List UInt8):Ic a b=if Op.bytesLess a b then -1 else if(!a==b)&&!Op.bytesLess a b then 1 else 0:=by
 unfold Ic;rw[bytesLess_eq];by_cases h1:a<b
 ·simp[h1]
 ·rcases Bh a b with h|h|h
  ·exact absurd h h1
  ·subst h;simp[h1]
  ·have: ¬a=b:=fun e=>by subst e;exact h1 h
   simp[h1,h,this]
def Gr(w w':World):Prop:= ∃q os,w'=grow (w.drewN q) os
section
variable{w w':World}
theorem Gr.refl(w:World):Gr w w:=⟨0,#[],by simp[grow];rfl⟩
theorem Gr.alloc(h:Gr w w')(o:Obj):Gr w (w'.alloc o):=by obtain⟨q,os,rfl⟩:=h;exact⟨q,os++ #[o],by rw[alloc_eq_grow,grow_grow]⟩
theorem Gr.drew(h:Gr w w'):Gr w w'.drew:=by obtain⟨q,os,rfl⟩:=h;exact⟨q+1,os,rfl⟩
theorem Gr.trans{w2:World}(h:Gr w w')(h2:Gr w' w2):Gr w w2:=by obtain⟨q,os,rfl⟩:=h;obtain⟨q2,os2,rfl⟩:=h2;exact⟨q+q2,os++os2,by rw[<-grow_grow,<-World.drewN_drewN];rfl⟩
abbrev Gr.x:=@Gr.trans
end
theorem Bi(k:List UInt8)(w:World):Calls prog 205 #[.string ⟨k.toArray⟩] w fun e w'=>e=.returned (.bool false)/\w'=w:=by
 go_enter func205,ntmps205;go_wp2;go_ret
 simp
theorem LR(a b:List UInt8)(w:World):Calls prog 237 #[.string ⟨a.toArray⟩,.string ⟨b.toArray⟩] w fun e w'=>e=.returned (.int .i64 (Ic a b))/\w'=w:=by
 have h1:=fun W=>Bi a W;have h2:=fun W=>Bi b W;go_enter func237,ntmps237;go_wp2_with fail;refine(h1 _).m ?_;rintro e w' ⟨rfl,rfl⟩;go_wp2_with fail;refine(h2 _).m ?_;rintro e w' ⟨rfl,rfl⟩;go_wp2_with fail
 all_goals go_ret
 all_goals rw[S9]
 all_goals clear h1 h2
 all_goals refine⟨eM Ending.returned (eM (Value.int IntKind.i64) ?_),rfl⟩
 all_goals simp[*]
def abV(w:World)(a b:Int)(i:Value)(w':World):Prop:= ∃k:Nat,k<=2/\i=.int .i64 (k:Int)/\(1<=k->a=0)/\(2<=k->b=0)/\w'=w
theorem EY(w:World)(g:Nat)(a b:Int)(t:TypeId)(h:w.heap[g]?=some (.cells #[.int .i64 a,.int .i64 b] t (0,0))):Calls prog 236 #[.slice (some ⟨g,0,none⟩) 2 2] w fun e w'=>e=.returned (.int .i64 (if a=0 then b else a))/\w'=w:=by
 have z0:w.cell? ⟨g,0,none⟩=some (.int .i64 a):=by simp[World.cell?,h]
 have z1:w.cell? ⟨g,1,none⟩=some (.int .i64 b):=by simp[World.cell?,h]
 clear h;go_enter func236,ntmps236;go_wp2
 go_loopw [7] (fun i w'=>abV w a b i w') (fun i _=>2-(intOf i).toNat)
 case atStart=>exact⟨0,by omega,rfl,fun h=>by omega,fun h=>by omega,rfl⟩
 case round=>
  obtain⟨k,hk,rfl,ha,hb,rfl⟩:=hrel;by_cases hk2:k=2
  ·subst hk2;obtain rfl:=ha (by omega);obtain rfl:=hb (by omega);clear ha hb;go_wp2;go_ret
   exact⟨rfl,rfl⟩
  ·by_cases eQ:k=0
   ·subst eQ;clear ha hb hk2;by_cases ha:a=0
    ·subst ha;go_wp2;go_roundw
     case rel=>exact⟨1,by omega,rfl,fun _=>rfl,fun h=>by omega,rfl⟩
     case measure=>simp[intOf]
    ·have HA:=al ha;go_wp2;go_ret
     exact⟨rfl,rfl⟩
   ·have:k=1:=by omega
    subst this;obtain rfl:=ha (by omega);clear ha hb hk2 eQ;by_cases ha:b=0
    ·subst ha;go_wp2;go_roundw
     case rel=>exact⟨2,by omega,rfl,fun _=>rfl,fun _=>rfl,rfl⟩
     case measure=>simp[intOf]
    ·have HA:=al ha;go_wp2;go_ret
     exact⟨rfl,rfl⟩
def CQ(x:Int×List UInt8):List Value:=[.int .i64 x.1,.string ⟨x.2.toArray⟩]
theorem Pt{w W:World}{p1 p2 p3 p4:Addr}{v1 v2 v3 v4:Value}(h:Gr w W/\W.cell? p1=some v1/\W.cell? p2=some v2/\W.cell? p3=some v3/\W.cell? p4=some v4)(o:Obj):Gr w (W.alloc o)/\(W.alloc o).cell? p1=some v1/\(W.alloc o).cell? p2=some v2/\(W.alloc o).cell? p3=some v3/\(W.alloc o).cell? p4=some v4:=
 have hb:=ae W o
 ⟨h.1.alloc o,(hb.cell (aq _ _ h.2.1)).x h.2.1,(hb.cell (aq _ _ h.2.2.1)).x h.2.2.1,(hb.cell (aq _ _ h.2.2.2.1)).x h.2.2.2.1,(hb.cell (aq _ _ h.2.2.2.2)).x h.2.2.2.2⟩
theorem LS(x y:Int×List UInt8)(w:World):Calls prog 216 #[.agg #[.int .i64 x.1,.string ⟨x.2.toArray⟩],.agg #[.int .i64 y.1,.string ⟨y.2.toArray⟩]] w fun e w'=>e=.returned (.int .i64 (uk x y))/\Gr w w':=by
 obtain⟨a,k⟩:=x;obtain⟨b,j⟩:=y;have hG:=((Gr.refl w).alloc (.cells #[.int .i64 a,.string ⟨k.toArray⟩] 201)).alloc (.cells #[.int .i64 b,.string ⟨j.toArray⟩] 201);have kP:=an w (.cells #[.int .i64 a,.string ⟨k.toArray⟩] 201);obtain⟨hb2,kQ⟩:=qn (w.alloc (.cells #[.int .i64 a,.string ⟨k.toArray⟩] 201)) (.cells #[.int .i64 b,.string ⟨j.toArray⟩] 201);have kP2:=pt hb2 kP;rw[show(w.alloc (.cells #[.int .i64 a,.string ⟨k.toArray⟩] 201)).heap.size=w.heap.size+1 by simp]at kQ;clear kP hb2;have z0:((w.alloc (.cells #[.int .i64 a,.string ⟨k.toArray⟩] 201)).alloc (.cells #[.int .i64 b,.string ⟨j.toArray⟩] 201)).cell? ⟨w.heap.size,0,none⟩=some (.int .i64 a):=by unfold World.cell?;rw[kP2];rfl
 have z1:((w.alloc (.cells #[.int .i64 a,.string ⟨k.toArray⟩] 201)).alloc (.cells #[.int .i64 b,.string ⟨j.toArray⟩] 201)).cell? ⟨w.heap.size,1,none⟩=some (.string ⟨k.toArray⟩):=by unfold World.cell?;rw[kP2];rfl
 have z2:((w.alloc (.cells #[.int .i64 a,.string ⟨k.toArray⟩] 201)).alloc (.cells #[.int .i64 b,.string ⟨j.toArray⟩] 201)).cell? ⟨w.heap.size+1,0,none⟩=some (.int .i64 b):=by unfold World.cell?;rw[kQ];rfl
 have z3:((w.alloc (.cells #[.int .i64 a,.string ⟨k.toArray⟩] 201)).alloc (.cells #[.int .i64 b,.string ⟨j.toArray⟩] 201)).cell? ⟨w.heap.size+1,1,none⟩=some (.string ⟨j.toArray⟩):=by unfold World.cell?;rw[kQ];rfl
 have HZ:=al (ab hG (ab z0 (ab z1 (ab z2 z3))));have hcI:=fun W'=>AnyG.cmp_Compare_int Tryz.OC a b W';change ∀W',Calls prog 95 _ _ _ at hcI;have HI:=al hcI;have hcS:=fun W'=>LR k j W';have HS:=al hcS;clear hG z0 z1 z2 z3 kP2 kQ hcI hcS;by_cases he:a=b/\k=j
 ·obtain⟨rfl,rfl⟩:=he;have HC:=al (show uk (a,k) (a,k)=0 by simp[uk,Lib.compareInt,Ic,aL]);go_enter func216,ntmps216;go_wp2_with fail;go_ret
  rw[HC.o];exact⟨rfl,HZ.o.1⟩
 ·skip
  obtain⟨r1,hr1⟩:=qt (Lib.compareInt a b);obtain⟨r2,hr2⟩:=qt (Ic k j);rw[hr1]at HI;rw[hr2]at HS;have HC:=al (show uk (a,k) (b,j)=if r1=0 then r2 else r1 by unfold uk;simp only[hr1,hr2]);clear hr1 hr2;rcases Classical.em (a=b)with hab|hab
  ·subst hab;have hkj: ¬k=j:=fun e=>he ⟨rfl,e⟩;clear he;go_enter func216,ntmps216;go_upto_region 3 with fail;have hZ:=HZ.o;generalize ((w.alloc (.cells #[.int .i64 a,.string ⟨k.toArray⟩] 201)).alloc (.cells #[.int .i64 a,.string ⟨j.toArray⟩] 201))=w2 at hZ⊢;obtain⟨P,hP⟩:=qt (w.heap.size);rw[hP]at hZ⊢;clear hP HZ;refine o0 (S:=(fun W=>Gr w W/\W.cell? ⟨P,0,none⟩=some (.int .i64 a)/\W.cell? ⟨P,1,none⟩=some (.string ⟨k.toArray⟩)/\W.cell? ⟨P+1,0,none⟩=some (.int .i64 a)/\W.cell? ⟨P+1,1,none⟩=some (.string ⟨j.toArray⟩))) (by kernel_rfl) ⟨hZ.1.drew,hZ.2⟩ (fun ph=>?_);refine aI [0,1,2,3,5,6,7,8] ?_
   iterate 8 (refine bO (v:=?_) (fun _ ⟨s0,s1,s2,s3,s4⟩=>?_) ph ?_;rotate_left;(go_simp;try rfl);try simp only[ai,aj,ak,ar])
   refine aJ ?_;refine aW 4 (fun K hK=>?_);go_simp;refine(HI.o _).m ?_;rintro e wn ⟨rfl,rfl⟩
   try go_simp
   refine hK.o _ _ (ph) ?_;clear hK K ph;intro ph
   try simp only[ai,aj,ak,ar]
   refine aW 9 (fun K hK=>?_);go_simp;refine(HS.o _).m ?_;rintro e wn ⟨rfl,rfl⟩
   try go_simp
   refine hK.o _ _ (ph) ?_;clear hK K ph;intro ph
   try simp only[ai,aj,ak,ar]
   refine aW 10 (fun K hK=>?_);go_simp;refine hK.o _ _ (Pt ph _) ?_;clear hK K ph;intro ph
   try simp only[ai,aj,ak,ar]
   refine aW 11 (fun K hK=>?_);go_simp;refine(EY (w2.alloc (.cells #[.int .i64 r1,.int .i64 r2] 3)).drew w2.heap.size r1 r2 3 (an w2 _)).m ?_;rintro e wn ⟨rfl,rfl⟩
   try go_simp
   refine hK.o _ _ (ph) ?_;clear hK K ph;intro ph
   try simp only[ai,aj,ak,ar]
   refine dR 12 (v:=?_) (fun wS hSw=>?_) ph ?_;rotate_left
   ·obtain⟨s0,s1,s2,s3,s4⟩:=hSw;go_simp;try rfl
   try simp only[ai,aj,ak,ar]
   refine pb (by kernel_rfl) ?_ _;have HB:=al ph.1;clear ph;obtain⟨R,hR⟩: ∃R,(if r1=0 then r2 else r1)=R:=⟨_,rfl⟩;rw[hR]at HC⊢;clear hR;go_wp2_with fail;go_ret
   rw[HC.o];exact⟨rfl,HB.o⟩
  ·clear he;go_enter func216,ntmps216;go_upto_region 3 with fail;have hZ:=HZ.o;generalize ((w.alloc (.cells #[.int .i64 a,.string ⟨k.toArray⟩] 201)).alloc (.cells #[.int .i64 b,.string ⟨j.toArray⟩] 201))=w2 at hZ⊢;obtain⟨P,hP⟩:=qt (w.heap.size);rw[hP]at hZ⊢;clear hP HZ;refine o0 (S:=(fun W=>Gr w W/\W.cell? ⟨P,0,none⟩=some (.int .i64 a)/\W.cell? ⟨P,1,none⟩=some (.string ⟨k.toArray⟩)/\W.cell? ⟨P+1,0,none⟩=some (.int .i64 b)/\W.cell? ⟨P+1,1,none⟩=some (.string ⟨j.toArray⟩))) (by kernel_rfl) ⟨hZ.1.drew,hZ.2⟩ (fun ph=>?_);refine aI [0,1,2,3,5,6,7,8] ?_
   iterate 8 (refine bO (v:=?_) (fun _ ⟨s0,s1,s2,s3,s4⟩=>?_) ph ?_;rotate_left;(go_simp;try rfl);try simp only[ai,aj,ak,ar])
   refine aJ ?_;refine aW 4 (fun K hK=>?_);go_simp;refine(HI.o _).m ?_;rintro e wn ⟨rfl,rfl⟩
   try go_simp
   refine hK.o _ _ (ph) ?_;clear hK K ph;intro ph
   try simp only[ai,aj,ak,ar]
   refine aW 9 (fun K hK=>?_);go_simp;refine(HS.o _).m ?_;rintro e wn ⟨rfl,rfl⟩
   try go_simp
   refine hK.o _ _ (ph) ?_;clear hK K ph;intro ph
   try simp only[ai,aj,ak,ar]
   refine aW 10 (fun K hK=>?_);go_simp;refine hK.o _ _ (Pt ph _) ?_;clear hK K ph;intro ph
   try simp only[ai,aj,ak,ar]
   refine aW 11 (fun K hK=>?_);go_simp;refine(EY (w2.alloc (.cells #[.int .i64 r1,.int .i64 r2] 3)).drew w2.heap.size r1 r2 3 (an w2 _)).m ?_;rintro e wn ⟨rfl,rfl⟩
   try go_simp
   refine hK.o _ _ (ph) ?_;clear hK K ph;intro ph
   try simp only[ai,aj,ak,ar]
   refine dR 12 (v:=?_) (fun wS hSw=>?_) ph ?_;rotate_left
   ·obtain⟨s0,s1,s2,s3,s4⟩:=hSw;go_simp;try rfl
   try simp only[ai,aj,ak,ar]
   refine pb (by kernel_rfl) ?_ _;have HB:=al ph.1;clear ph;obtain⟨R,hR⟩: ∃R,(if r1=0 then r2 else r1)=R:=⟨_,rfl⟩;rw[hR]at HC⊢;clear hR;go_wp2_with fail;go_ret
   rw[HC.o];exact⟨rfl,HB.o⟩
theorem Ie(x y:Int×List UInt8)(w:World):Calls prog 190 #[.agg #[.int .i64 x.1,.string ⟨x.2.toArray⟩],.agg #[.int .i64 y.1,.string ⟨y.2.toArray⟩]] w fun e w'=>e=.returned (.int .i64 (uk x y))/\Gr w w':=by
 obtain⟨a,k⟩:=x;obtain⟨b,j⟩:=y;have HC:=al (fun W=>LS (a,k) (b,j) W);obtain⟨R,hR⟩:=qt (uk (a,k) (b,j));rw[hR]at HC⊢;have hG:=((Gr.refl w).alloc (.cells #[.int .i64 a,.string ⟨k.toArray⟩] 293)).alloc (.cells #[.int .i64 b,.string ⟨j.toArray⟩] 293);have HG:=al hG;clear hR hG;go_enter func190,ntmps190;go_wp2_with fail;refine(HC.o _).m ?_;rintro e w' ⟨rfl,hg⟩;have HG2:=al (HG.o.x hg);clear hg HG;go_wp2_with fail;go_ret
 exact⟨rfl,HG2.o⟩
theorem WD(blk off size:Nat)(w:World):CmpLays prog 190 #[] CQ 2 uk blk off size w:=
 fun _ _ _ _ x y=>Ie x y _
end
section
open Go.Shelf Go.RowKit Go.Lib Go.Sort
theorem Ta(l:List (Int×List UInt8)): ∀x∈l.map CQ,x.length=2:=by intro x hx;obtain⟨y,_,rfl⟩:=ew.1 hx;rfl
theorem zx{w:World}{base g cap:Nat}{l:List (Int×List UInt8)}(h:w.ownsRow base 293 2 (.slice (some ⟨g,0,none⟩) l.length cap) l.length (l.map CQ).flatten):HoldsK CQ 2 w g 0 l.toArray:=by
 intro t ht;rw[size_flatK]at ht;rw[get_flatK _ _ _ _ ht];simp at ht;have hd:t/2<l.length:=(Nat.div_lt_iff_lt_mul (by decide)).2 ht;have h1:l[t/2]?=some l[t/2]:=ao hd;have h2:=lI (Ta l) (t/2) (CQ l[t/2]) (by simp[h1]) (t%2);have hm:t/2*2+t%2=t:=by omega
 rw[hm]at h2;have h3:=h.cellAt t (by omega);have h4:=h.frozenAt t;have he:l.toArray[t/2]! =l[t/2]:=by simp[hd]
 rw[he]
 have hs:(CQ l[t/2])[t%2]?=some (CQ l[t/2])[t%2]!:=by rcases Nat.mod_two_eq_zero_or_one t with h0|h0<;>rw[h0]<;>rfl
 rw[h2 _ hs]at h3;rw[gx];exact⟨h3,h4⟩
def aaw(w:World)(v:Value)(s:List (Int×List UInt8)):Prop:=
 ∃A c,v=.slice A s.length c/\s.length<=c/\c<=maxLen/\ ∀i x,s[i]?=some x-> ∃g,A=some ⟨g,0,none⟩/\w.cell? ⟨g,i*2,none⟩=some (.int .i64 x.1)/\w.cell? ⟨g,i*2+1,none⟩=some (.string ⟨x.2.toArray⟩)
theorem zy{w:World}{g cap:Nat}{d:Array (Int×List UInt8)}(h:HoldsK CQ 2 w g 0 d)(h1:d.size<=cap)(h2:cap<=maxLen):aaw w (.slice (some ⟨g,0,none⟩) d.size cap) d.toList:=by
 refine⟨_,_,by simp,by simpa using h1,h2,fun i x hx=>⟨g,rfl,?_⟩⟩;have hi:i<d.size:=by have:=(b8.1 hx).1;simpa using this
 have e:d[i]! =x:=by simp[hi]at hx;subst hx;simp[hi]
 have c0:=(h.cell hi (show 0<2 by omega)).1;have c1:=(h.cell hi (show 1<2 by omega)).1;rw[e]at c0 c1;refine⟨?_,?_⟩
 ·rw[show(⟨g,i*2,none⟩:Addr)=⟨g,0+i*2+0,none⟩ by congr 1;omega];exact c0
 ·rw[show(⟨g,i*2+1,none⟩:Addr)=⟨g,0+i*2+1,none⟩ by congr 1;omega];exact c1
theorem Tb{d:Array (Int×List UInt8)}(h:SortedIn (ltOf uk) 0 d.size d)(hn:d.toList.Nodup):d.toList.Pairwise yI:=by
 rw[List.pairwise_iff_getElem];intro i j hi hj hij;have:=h i j (dq _) hij (by simpa using hj);rw[ltF]at this;simp only[decide_eq_false_iff_not]at this;simp at hi hj;simp[hi,hj]at this;rcases yI.total d.toList[i] d.toList[j]with h1|h1|h1
 ·exact h1
 ·exact absurd ((List.getElem_inj hn).1 h1) (by omega)
 ·simp at h1;exact absurd h1 this
def WE(w:World)(v:Value)(l:List (Int×List UInt8))(e:Ending)(w':World):Prop:=e=.returned (.tuple #[])/\ ∃s,s.Perm l/\s.Pairwise yI/\aaw w' v s/\Only (fun k=>v.ownBlock=some k) w w'
theorem LU(w:World)(base:Nat)(v:Value)(l:List (Int×List UInt8))(h:w.ownsRow base 293 2 v l.length (l.map CQ).flatten)(hn:l.Nodup)(hl:l.length<=1000000):
  Calls prog 189 #[v,.func (.func 190) #[] #[]] w (WE w v l):=by
 rcases h.2 with⟨rfl,h0⟩|⟨g,cap,cur,rfl,_,hg,h1,hc,hs,ht⟩
 ·have:l=[]:=dj h0;subst this;have hcon:=AnyF.slices_SortFunc_none Tryz.OE none 0 (.func (.func 190) #[] #[]) w;change Calls prog 189 _ _ _ at hcon;refine hcon.m ?_;rintro e w1 ⟨rfl,rfl⟩;exact⟨rfl,[],List.Perm.refl _,et,⟨_,_,rfl,aE _,by unfold maxLen;omega,fun i x hx=>by simp at hx⟩,ox _ _⟩
 ·have eg: ∀args w,(callFunc 190 args).run prog w=.ok (.enter 190 args) w:=enters_of func190 (by kernel_rfl) rfl;have hH:=zx h;have hblk:g<w.heap.size:=(bd.1 hg).1;have hcon:=AnyQ.slices_SortFunc Tryz.OE 2 (by intro w;kernel_rfl) (by intro w;kernel_rfl) CQ (fun _=>rfl) (fun x v hv=>by simp[CQ]at hv;rcases hv with rfl|rfl<;>rfl) uk abU 190 #[] g 0 cap l.toArray w eg (WD g 0 l.toArray.size w) hH hblk (by simp;omega);change Calls prog 189 _ _ _ at hcon;simp only[nF]at hcon;refine hcon.m ?_;rintro e w1 ⟨rfl,d',n,os,hp,hs,hw1⟩;have hsz:d'.size=l.length:=by simpa using hp.1
  have sM:Only (fun b=>b=g) w w1:=by rw[hw1];exact ot CQ 2 w g 0 n d' os
  have hH1:HoldsK CQ 2 w1 g 0 d':=by rw[hw1];exact holdsK_sortWorldK_c CQ 2 w g 0 l.toArray d' n os hH hblk (by simpa using hp.1)
  have hperm:d'.toList.Perm l:=by
   have h2:=hp.2.2;have e1:d'.extract 0 l.length=d':=by simp[<-hsz]
   have e2:l.toArray.extract 0 l.length=l.toArray:=by simp
   rw[e1,e2]at h2;exact h2
  have iB:=zy hH1 (by omega) hc;rw[hsz]at iB;exact⟨rfl,d'.toList,hperm,Tb (by rw[hsz];simpa using hs) (hperm.nodup_iff.2 hn),iB,sM.m (fun i _ e=>by rw[e];rfl)⟩
end
section
open Go.RowKit Go.Maps Go.WideShapes
theorem Tryz.WG:(prog.info? 293).map (fun i=>(i.zero,i.size,i.bytes))=some (some (.agg #[.int .i64 0,.string ⟨#[]⟩]),2,24):=by kernel_rfl
theorem Pv{w:World}{base n c:Nat}{A:Option Addr}{ks:List (List UInt8)}(h:w.ownsRow base 9 1 (.slice A n c) n (ks.map EX)){j:Nat}{k:List UInt8}(hj:ks[j]?=some k): ∃g,A=some ⟨g,0,none⟩/\w.cell? ⟨g,j,none⟩=some (.string ⟨k.toArray⟩):=by
 have hlt:=(b8.1 hj).1;have hn:ks.length=n:=by have:=h.1;simpa using this
 rcases h.2 with⟨e,h0⟩|⟨g,cap,cur,e,_⟩
 ·omega
 ·injection e with e _ _;subst e;exact⟨g,rfl,(h.cellAt j (by omega)).x (by simp[hj,EX])⟩
def WH(w:World)(mb nb r:Nat)(g:Value->Option Value)(c:Nat)(lo hi:Int)(wl:tN)(xs:List (Int×List UInt8))(v:Value)(wr:World):Prop:=
 ∃kl dn,uZ wr mb r nb g kl/\(dn++kl).Perm (wl.map Prod.fst)/\wr.ownsRow w.heap.size 293 2 v (xs++dn.filterMap (bF wl c lo hi)).length ((xs++dn.filterMap (bF wl c lo hi)).map CQ).flatten/\Below w.heap.size w wr
theorem uZ.own_ne{w:World}{b r n base:Nat}{g:Value->Option Value}{ks:List (List UInt8)}{e:TypeId}{size m:Nat}{v:Value}{xs:List Value}(h:uZ w b r n g ks)(ho:w.ownsRow base e size v m xs):v.ownBlock≠some r:=by obtain⟨D,left,cnt,hr,-⟩:=h;exact fun e=>(row_ne_iter ho hr) e.symm
theorem WI{wl:tN}{l:ax}{c:Nat}{lo hi:Int}{dn kl:List (List UInt8)}(hw:fc wl)(h:fc l)(hf:RowsFit l)(hp:(dn++kl).Perm (wl.map Prod.fst)):((cV c lo hi l).filterMap (aF wl l c)++dn.filterMap (bF wl c lo hi)).length<=(bY wl l).length:=by have h1:=(DM (c:=c) (lo:=lo) (hi:=hi) hw h hf hp).length_eq;rw[List.filterMap_append]at h1;simp only[fb,fa]at h1⊢;have h2:=List.length_filter_le (Dj c lo hi) (bY wl l);omega
theorem Ig{l:ax}{c:Nat}{lo hi:Int}(h:fc l):((l.filter (Dj c lo hi)).map fun q=>(q.2.aM c,q.1)).Nodup:=by unfold List.Nodup;rw[List.pairwise_map];exact List.Pairwise.imp (R:=fun a b:List UInt8×Rw=>a.1<b.1) (fun{a b} h e=>by injection e with _ e;rw[e]at h;exact aL _ h) (h.filter _)
def abW(w:World)(M:Nat)(s:List (Int×List UInt8))(v i:Value)(wr:World):Prop:=
 ∃j,j<=M/\i=.int .i64 (j:Int)/\wr.ownsRow w.heap.size 9 1 v j ((s.take j).map fun x=>EX x.2)/\Below w.heap.size w wr
theorem Tc{j n:Nat}(h:j<n)(hn:n<=1024):wrap64 ((j:Int)+1)=((j+1:Nat):Int):=by unfold wrap64;omega
theorem WJ{j n:Nat}(h:j<n)(hn:n<=1024):n-(intOf (Value.int IntKind.i64 (wrap64 ((j:Int)+1)))).toNat<n-(intOf (Value.int IntKind.i64 (j:Int))).toNat:=by rw[Tc h hn];simp only[intOf,jj];omega
def LtN(a b:Nat):Prop:=a<b
def abX(w:World)(c n:Nat)(A:Option Addr)(cp:Nat)(ks:List (List UInt8))(wl:tN)(l:ax)(v i:Value)(wr:World):Prop:=
 ∃j,j<=n/\i=.int .i64 (j:Int)/\wr.ownsRow w.heap.size 293 2 v ((ks.take j).filterMap (aF wl l c)).length (((ks.take j).filterMap (aF wl l c)).map CQ).flatten/\wr.ownsRow w.heap.size 9 1 (.slice A n cp) n (ks.map EX)/\Below w.heap.size w wr
theorem Ih(w:World)(B T o:Nat)(most:Int)(l:ax)(wl:tN)(FT:Nat->Nat->Prop)(FB:Nat->Prop)(c m:Nat)(lo hi:Int)(h:ig w B T most o l wl FT FB)(qi: ∀b q,FT b q->b<w.heap.size)(hc:c<4)(hlo:I6 lo)(hhi:I6 hi)(hle:lo<=hi)(hm:m<=1000)
  (hv:(bY wl l).length<=1024):Calls Tryz.prog 142 #[.pointer (some ⟨B,0,none⟩),.int .i64 (c:Int),.int .i64 lo,.int .i64 hi,.int .i64 (m:Int)] w (Bg ((cV c lo hi (bY wl l)).take m) w):=by
 obtain⟨i0,hi0,hz0,hz1,hz2⟩:=ep Tryz.WG;have HI:=al (ab hi0 (ab hz0 (ab hz1 hz2)));obtain⟨i1,hi1,hy0,hy1,hy2⟩:=ep Tryz.Ps;have HJ:=al (ab hi1 (ab hy0 (ab hy1 hy2)));clear hi0 hz0 hz1 hz2 hi1 hy0 hy1 hy2;obtain⟨mb,nb,g,FR,hW,-,-,-⟩:=h;have g1:=hW.blk;have d0:w.cell? ⟨B,0,none⟩=some (.pointer (some ⟨T,0,none⟩)):=by simp[World.cell?,g1]
 have hll:l.length<=1024:=by have:=hW.tab.len;have:=hW.tab.Jw;omega
 have uQ:=al (yw w T o most l FT c m lo hi hW.tab qi hc hlo hhi hle (by omega));have HH:=al (ab hW (ab qi (ab hc (ab hlo (ab hhi (ab hle (ab hm (ab hv (ab hll g1)))))))));clear hW qi hc hlo hhi hle hm hv hll g1;go_enter Tryz.func142,Tryz.ntmps142;go_wp2_with fail
 go_step3
 go_wp2_with fail;refine uQ.out.mono ?_;rintro e w1 ⟨A0,c0,rfl,-,hb1⟩;clear uQ;go_upto_region 6 with fail;have g1:=pt hb1 HH.out.2.2.2.2.2.2.2.2.2;have z0:w1.cell? ⟨B,0,none⟩=some (.pointer (some ⟨T,0,none⟩)):=by simp[World.cell?,g1]
 have HL:=al (show ∀W,Below w1.heap.size w1 W->Calls Tryz.prog 56 #[.pointer (some ⟨T,0,none⟩)] W fun e w'=>e=.returned (.int .i64 (l.length:Int))/\W=w' from fun W hb=>tL W T o most l FT ((HH.out.1.tab.below hb1).below hb))
 have HF:=al (show ∀W,Below w1.heap.size w1 W->Calls Tryz.prog 187 #[.pointer (some ⟨T,0,none⟩),.int .i64 (c:Int),.int .i64 lo,.int .i64 hi,.int .i64 (l.length:Int)] W (Bg (cV c lo hi l) W)from fun W hb=>by
  obtain⟨-,-,-,hup,hfit,-⟩:=HH.out.1.tab;rw[<-gE (zP (c:=c) (lo:=lo) (hi:=hi) hup hfit)]
  exact yw W T o most l FT c l.length lo hi ((HH.out.1.tab.below hb1).below hb) (fun b q hq=>by have:=HH.out.2.1 b q hq;have:=hb1.size;have:=hb.size;omega) HH.out.2.2.1 HH.out.2.2.2.1 HH.out.2.2.2.2.1 HH.out.2.2.2.2.2.1 (by have:=HH.out.2.2.2.2.2.2.2.2.1;omega))
 have H1:=al (ab hb1 g1);clear hb1 g1 d0;refine o0 (S:=(fun W=>Below w1.heap.size w1 W/\W.cell? ⟨B,0,none⟩=some (.pointer (some ⟨T,0,none⟩)))) (by kernel_rfl) ⟨(aw _ _).drew,z0⟩ (fun ph=>?_);refine aI [0,1,2,3,4,5,6,7,8,9,10] ?_
 iterate 11 (refine bO (v:=?_) (fun wS hSw=>?_) ph ?_;rotate_left;(obtain⟨s0,s1⟩:=hSw;go_simp;try with_reducible rfl);try simp only[ai,aj,ak,ar])
 refine aJ ?_;refine aW 11 (fun K hK=>?_);go_simp;refine(HL.out _ ph.1).mono ?_;rintro e wn ⟨rfl,rfl⟩
 try go_simp
 refine hK.out _ _ (ph) ?_;clear hK K ph;intro ph
 try simp only[ai,aj,ak,ar]
 refine aW 12 (fun K hK=>?_);go_simp;refine(HF.out _ ph.1).mono ?_;rintro e wn ⟨A,cp,rfl,hown,aR⟩;have HO:=al (dM (base':=w.heap.size) hown (fun g hg=>by have:=(hown.lt g hg).1;have:=H1.out.1.size;have:=ph.1.size;omega));clear hown
 try go_simp
 refine hK.out _ _ (gN ph aR) ?_;clear hK K ph aR;intro ph
 try simp only[ai,aj,ak,ar]
 refine aI [13,14,15,16,17] ?_
 iterate 5 (refine bO (v:=?_) (fun wS hSw=>?_) ph ?_;rotate_left;(obtain⟨s0,s1⟩:=hSw;go_simp;try with_reducible rfl);try simp only[ai,aj,ak,ar])
 refine aJ ?_;refine pb (by kernel_rfl) ?_ _;have HB:=al ph.1;clear ph z0
 rename World=>w2
 have hb2:Below w.heap.size w w2:=H1.out.1.trans (HB.out.mono H1.out.1.size);obtain⟨ks,hks⟩:=qt (cV c lo hi l);rw[hks]at HO⊢;obtain⟨n,hn⟩:=qt (ks.length);rw[hn]at HO⊢
 have hmem: ∀k∈ks,∃r,au k l=some r:=by obtain⟨-,-,-,hup,hfit,-⟩:=HH.out.1.tab;intro k hk;rw[<-hks]at hk;obtain⟨r,hr,_⟩:=(jS hup hfit).1 hk;exact⟨r,(aD hup).2 hr⟩
 have hkl: ∀k∈ks,1<=k.length/\k.length<=16:=by obtain⟨-,-,-,hup,hfit,sH,-⟩:=HH.out.1.tab;intro k hk;rw[<-hks]at hk;obtain⟨r,hr,_⟩:=(jS hup hfit).1 hk;exact sH _ hr
 have oC:n<=1024:=by obtain⟨-,-,-,hup,hfit,-⟩:=HH.out.1.tab;have:=zP (c:=c) (lo:=lo) (hi:=hi) hup hfit;rw[hks,hn]at this;have:=HH.out.2.2.2.2.2.2.2.2.1;omega
 have HK:=al (ab hks (ab hn (ab hmem (ab hkl (ab oC hb2)))));clear hks hn hmem hkl oC hb2 HB HL HF;go_wp2_with fail
 go_step3
 go_wp2_with fail
 go_loopw [16,66] (fun v i wr=>abX w c n A cp ks wl l v i wr) (fun _ i _=>n-(intOf i).toNat)
 case atStart=>exact⟨0,dq _,rfl,ea _ _ _ _,HO.out,HK.out.2.2.2.2.2⟩
 case round=>
  obtain⟨j,hj,rfl,hown,Td,hbr⟩:=hrel
  rename World=>wr
  by_cases hlt:j<n
  ·have HN:=al (show LtN j n from hlt);obtain⟨k,hk⟩: ∃k,ks[j]?=some k:=⟨_,ao (by rw[HK.out.2.1];exact hlt)⟩;obtain⟨g0,rfl,zk⟩:=Pv Td hk;have hmk:=de hk;obtain⟨⟨ra,rb,rc,rd⟩,hr⟩:=HK.out.2.2.1 k hmk;have hkk:=HK.out.2.2.2.1 k hmk;have TX:=pt hbr HH.out.2.2.2.2.2.2.2.2.2;have z0:wr.cell? ⟨B,0,none⟩=some (.pointer (some ⟨T,0,none⟩)):=by simp[World.cell?,TX]
   have z1:wr.cell? ⟨B,1,none⟩=some (.map (some mb)):=by simp[World.cell?,TX]
   have WK:=HH.out.1.only (pw hbr) (fun h=>h) (fun h=>h) (fun _ _ h=>h) (fun _ _ _ h=>h);have HM:=al (ab WK.map (Gg (k:=k) (by simp[maxLen];omega)));have HG:=al (tM wr T o most l FT k WK.tab hkk);unfold nU at HG;rw[hr]at HG;have hwr:=WK.wr k
   have htk:(ks.take (j+1)).filterMap (aF wl l c)=(ks.take j).filterMap (aF wl l c)++(aF wl l c k).toList:=by rw[iv,hk,List.filterMap_append];cases hz:aF wl l c k<;>simp[hz]
   have HT:=al (ab htk (ab hown (ab Td (ab hbr hr))));clear hmk hkk TX WK htk hown Td hbr hr hk;obtain⟨gv,Cj⟩:=qt (g (.string ⟨k.toArray⟩));rw[Cj]at hwr
   cases hq:au k wl with
   |some x=>
    rw[hq]at hwr
    cases gv with
    |none=>exact hwr.elim
    |some v0=>
     have HA:=al (show aF wl l c k=none by unfold aF;rw[hq];rfl);clear hwr hq;go_wp2_with (first|(at_lookup;go_loud (refine eX (key:=.string ⟨k.toArray⟩) _ rfl _ _ 166 rfl yZ Tryz.underlying166 (Tryz.pd _) rfl HM.out.1 rfl HM.out.2 v0 true (by rw[Cj];rfl) (by rw[Cj];rfl) ?_))|fail);go_roundw
     case rel=>exact⟨j+1,HN.out,eM _ (Tc HN.out HK.out.2.2.2.2.1),by rw[HT.out.1,HA.out];simpa using HT.out.2.1,HT.out.2.2.1,HT.out.2.2.2.1⟩
     case measure=>exact WJ HN.out HK.out.2.2.2.2.1
   |none=>
    rw[hq]at hwr
    cases gv with
    |some v=>exact hwr.elim
    |none=>
     have HA:=al (show aF wl l c k=some ((Rw.mk ra rb rc rd).aM c,k) by unfold aF;rw[hq,HT.out.2.2.2.2];rfl);clear hwr hq;unfold Rw.val at HG;go_wp2_with (first|(at_lookup;go_loud (refine eX (key:=.string ⟨k.toArray⟩) _ rfl _ _ 166 rfl yZ Tryz.underlying166 (Tryz.pd _) rfl HM.out.1 rfl HM.out.2 (.pointer none) false (by rw[Cj];rfl) (by rw[Cj];rfl) ?_))|fail);refine HG.out.mono ?_;rintro e w3 ⟨rfl,hb3⟩;clear HG;go_upto_region 17 with fail;obtain⟨dI,kw⟩:=qn w3 (.cells #[.int .i64 ra,.int .i64 rb,.int .i64 rc,.int .i64 rd] 113);generalize w3.alloc (.cells #[.int .i64 ra,.int .i64 rb,.int .i64 rc,.int .i64 rd] 113)=w4 at dI kw⊢
     have hzc:w4.cell? ⟨w3.heap.size,c,none⟩=some (.int .i64 ((Rw.mk ra rb rc rd).aM c)):=by have:=HH.out.2.2.1;rcases(show c=0\/c=1\/c=2\/c=3 by omega)with rfl|rfl|rfl|rfl<;>(unfold World.cell?;rw[kw];rfl)
     obtain⟨cv,hcv⟩:=qt ((Rw.mk ra rb rc rd).aM c);rw[hcv]at hzc HA;have i1:(0:Int)<=(c:Int):=by omega
     have i2:(c:Int)<4:=by have:=HH.out.2.2.1;omega
     have hb4:Below wr.heap.size wr w4:=hb3.trans (dI.mono hb3.size);obtain⟨V,hV⟩:=qt (w3.heap.size);rw[hV]at hzc⊢;have H4:=al (ab hb4 (HT.out.2.2.2.1.trans (hb4.mono HT.out.2.2.2.1.size)));clear kw dI hb3 hcv hV hb4;obtain⟨xs,hxs⟩:=qt ((ks.take j).filterMap (aF wl l c))
     have hxl:xs.length<=1024:=by have h1:=List.length_filterMap_le (aF wl l c) (ks.take j);rw[hxs,kh]at h1;have:=HK.out.2.2.2.2.1;omega
     have aR:=ae w4 (.cells #[.int .i64 cv,.string ⟨k.toArray⟩] 293);have WL:=H4.out.1.trans (aR.mono H4.out.1.size);have eZ:=aT HT.out.2.1 (pw WL) (fun _ _ h=>h);have EZ:=aT HT.out.2.2.1 (pw WL) (fun _ _ h=>h);rw[hxs]at eZ;obtain⟨La,Pw⟩:=qt (xs.length);rw[Pw]at eZ hxl;obtain⟨A1,c1,rfl⟩:=ag eZ;have E0:=al (ab eZ (ab EZ (ab (H4.out.2.trans (aR.mono H4.out.2.size)) (ab (eb (an w4 (.cells #[.int .i64 cv,.string ⟨k.toArray⟩] 293))) (ab hxs (ab Pw hxl))))));have hs4:=H4.out.2.size;clear eZ EZ aR WL hxs Pw hxl;go_wp2_with (at_builtin;go_loud (refine eh _ rfl _ _ 291 rfl w.heap.size 293 i0 _ 2 24 Tryz.underlying291 HI.out.1 HI.out.2.1 HI.out.2.2.1 HI.out.2.2.2 rfl (by decide) (.slice A1 La c1) La _ rfl E0.out.1 ⟨w4.heap.size,0,none⟩ 1 1 [.int .i64 cv,.string ⟨k.toArray⟩] rfl rfl E0.out.2.2.2.1 (by simp[Value.oneCell']) (by decide) (by have:=E0.out.2.2.2.2.2.2;unfold maxLen;omega) (by have:=E0.out.2.2.2.2.2.2;omega) (by simp;omega) _ rfl ?_);intro g2 cap2 w7 hown1 hgrow1 jt qg;have HP:=al (ab hown1 (ab hgrow1 jt));clear hown1 hgrow1 jt qg);have hjn:=HN.out;have fU:=HK.out.2.2.2.2.1;unfold LtN at hjn;obtain⟨eZ,EZ,aax,-,hxs,Pw,hxl⟩:=E0.out;obtain⟨hown1,hgrow1,jt⟩:=HP.out;refine⟨⟨j+1,hjn,eM _ (Tc hjn fU),?_,?_,?_⟩,WJ hjn fU⟩
     ·rw[HT.out.1,HA.out,hxs];have:(xs++(some (cv,k)).toList).length=La+1:=by simp[Pw]
      rw[this];simpa[CQ]using hown1
     ·exact EZ.kept hgrow1 (.inr (fun e=>iI EZ eZ (by decide) (rfl:Value.ownBlock (.slice (some ⟨g0,0,none⟩) n cp)=some g0) e.symm))
     ·exact aax.grown hgrow1 aax.size (fun q hq=>(eZ.lt q hq).1)
  ·have hjn:j=n:=by omega
   subst hjn;have htk:ks.take j=ks:=gE (by rw[HK.out.2.1];exact aE _);rw[htk]at hown;obtain⟨xs,hxs⟩:=qt (ks.filterMap (aF wl l c));rw[hxs]at hown;have TX:=pt hbr HH.out.2.2.2.2.2.2.2.2.2;have z1:wr.cell? ⟨B,1,none⟩=some (.map (some mb)):=by simp[World.cell?,TX]
   have WK:=HH.out.1.only (pw hbr) (fun h=>h) (fun h=>h) (fun _ _ h=>h) (fun _ _ _ h=>h);have HR:=al (ab hown (ab hbr (ab hxs WK)));clear hown Td hbr htk hxs TX WK hlt;go_wp2_with (at_range;go_loud (refine pg _ rfl _ 166 rfl Tryz.underlying166 rfl HR.out.2.2.2.map (wl.map Prod.fst) (fun k _=>HR.out.2.2.2.Um k) (kF HR.out.2.2.2.up) (fun k hk=>by have:=(HR.out.2.2.2.VX k hk).2;unfold maxLen;omega) ?_);intro w5 hrg fR;have H5:=al (ab hrg fR);clear hrg fR)
   go_frame
   go_loopw [16] (fun v wy=>WH w mb nb wr.heap.size g c lo hi wl xs v wy) (fun _ wy=>wy.rangeLeft mb wr.heap.size)
   case atStart=>exact⟨wl.map Prod.fst,[],H5.out.1,by simp,by simpa using aT HR.out.1 (pw H5.out.2) (fun _ _ h=>h),HR.out.2.1.trans (H5.out.2.mono HR.out.2.1.size)⟩
   case round=>
    obtain⟨kl,dn,hrg,XQ,hown,hbr⟩:=hrel
    rename World=>wy
    have HY:=al (ab XQ (ab hown (ab hbr hrg)));clear XQ hown hbr;go_wp2_with (at_next;refine qz _ rfl _ rfl rfl hrg ?_ ?_)
    ·intro eQ;subst eQ;have XQ:=HY.out.1;rw[gn]at XQ;obtain⟨zs,hzs⟩:=qt (xs++dn.filterMap (bF wl c lo hi));have hup:=HH.out.1.tab.up;have hfit:=HH.out.1.tab.fit;have hap:=DM (c:=c) (lo:=lo) (hi:=hi) HH.out.1.up hup hfit XQ;rw[HK.out.1,HR.out.2.2.1,hzs]at hap;have hvu:=fJ (wl:=wl) hup
     have hzl:zs.length<=1024:=by have h1:=hap.length_eq;rw[fa]at h1;have h2:=List.length_filter_le (Dj c lo hi) (bY wl l);have:=HH.out.2.2.2.2.2.2.2.1;omega
     have hown:=HY.out.2.1;rw[hzs]at hown;have HS:=al (LU wy w.heap.size u16 zs hown (hap.nodup_iff.2 (Ig hvu)) (by omega));have hfo: ∀s:List (Int×List UInt8),s.Perm zs->s.Pairwise yI->s.map Prod.snd=cV c lo hi (bY wl l):=fun s h1 h2=>Ni hvu (Kz HH.out.1.up hup hfit HH.out.1.fit) h2 (h1.trans hap);have HF:=al (ab hfo (ab hzl hown));clear XQ hzs hup hfit hap hvu hzl hown hfo hrg;go_wp2_with fail;refine HS.out.mono ?_;rintro e w6 ⟨rfl,s,hp,hs,⟨A5,c5,rfl,hsc,hcm,hat⟩,sM⟩;have hsl:s.length<=1024:=by rw[hp.length_eq];exact HF.out.2.1
     have fC:Below w.heap.size w w6:=HY.out.2.2.1.trans (sM.aG HY.out.2.2.1.size (fun q hq e=>by have:=(HF.out.2.2.lt q e).1;omega));obtain⟨N,hN⟩:=qt (s.length);have YR:=HF.out.1 s hp hs;rw[hN]at hsc hsl⊢;have H6:=al (ab YR (ab hat (ab fC (ab hN (ab hsl (ab hsc hcm))))));have jo:=HH.out.2.2.2.2.2.2.1;clear hp hs YR hat fC hN sM HS;go_wp2_with fail;obtain⟨M,hM⟩:=qt (min m N);have e1:min (m:Int) (N:Int)=(M:Int):=by omega
     have e2:max (M:Int) 0=(M:Int):=by omega
     have e3:((M:Int)).toNat=M:=by omega
     rw[e1,e2,e3];have HM:=al (ab hM (show M<=1000 from by omega));clear hM e1 e2 e3
     go_loopw [25,149] (fun v i wy=>abW w6 M s v i wy) (fun _ i _=>M-(intOf i).toNat)
     case atStart=>exact⟨0,dq _,rfl,ea _ _ _ _,aw _ _⟩
     case round=>
      obtain⟨i,acQ,rfl,hown,hbr⟩:=hrel
      rename World=>wz
      by_cases hlt:i<M
      ·have HN:=al (show LtN i M from hlt);obtain⟨⟨cv,k⟩,hx⟩: ∃x,s[i]?=some x:=⟨_,ao (by rw[H6.out.2.2.2.1];have:=HM.out.1;omega)⟩;obtain⟨g5,rfl,y0,y1⟩:=H6.out.2.1 i _ hx;have t0:wz.cell? ⟨g5,i*2,none⟩=some (.int .i64 cv):=(hbr.cell (aq _ _ y0)).trans y0;have t1:wz.cell? ⟨g5,i*2+1,none⟩=some (.string ⟨k.toArray⟩):=(hbr.cell (aq _ _ y1)).trans y1;have HZ:=al (ab hx (ab hown hbr));clear hx hown hbr y0 y1;go_upto_region 29 with fail;obtain⟨dI,kw⟩:=qn wz (.cells #[.int .i64 cv,.string ⟨k.toArray⟩] 293);generalize wz.alloc (.cells #[.int .i64 cv,.string ⟨k.toArray⟩] 293)=w8 at dI kw⊢;obtain⟨V,hV⟩:=qt (wz.heap.size);rw[hV]at kw⊢;have t2:w8.cell? ⟨V,1,none⟩=some (.string ⟨k.toArray⟩):=by simp[World.cell?,kw]
       have aR:=ae w8 (.cells #[.string ⟨k.toArray⟩] 9);have qV:=dI.trans (aR.mono dI.size);have eZ:=aT HZ.out.2.1 (pw qV) (fun _ _ h=>h);obtain⟨A7,c7,rfl⟩:=ag eZ;have Px:=HZ.out.2.2.trans (qV.mono HZ.out.2.2.size);have E0:=al (ab eZ (ab (eb (an w8 (.cells #[.string ⟨k.toArray⟩] 9))) (ab Px (ab hlt HM.out.2))));have hs8:w6.heap.size<=w8.heap.size:=da HZ.out.2.2.size dI.size;clear eZ aR qV Px dI kw hV;go_wp2_with (at_builtin;go_loud (refine eh _ rfl _ _ 219 rfl w6.heap.size 9 i1 _ 1 16 Tryz.underlying219 HJ.out.1 HJ.out.2.1 HJ.out.2.2.1 HJ.out.2.2.2 rfl (by decide) (.slice A7 i c7) i _ rfl E0.out.1 ⟨w8.heap.size,0,none⟩ 1 1 [.string ⟨k.toArray⟩] rfl rfl E0.out.2.1 (by simp[Value.oneCell']) (by decide) (by have:=E0.out.2.2.2.2;unfold maxLen;omega) (by have:=E0.out.2.2.2.2;omega) (by simp;omega) _ rfl ?_);intro g2 cap2 w7 hown1 hgrow1 jt qg;have HP:=al (ab hown1 (ab hgrow1 jt));clear hown1 hgrow1 jt qg);have fU:=HM.out.2;have XR:=HN.out;unfold LtN at XR;obtain⟨eZ,-,Px,-⟩:=E0.out;obtain⟨hown1,hgrow1,jt⟩:=HP.out;refine⟨⟨i+1,XR,eM _ (Tc XR (by omega)),?_,Px.grown hgrow1 Px.size (fun q hq=>(eZ.lt q hq).1)⟩,WJ XR (by omega)⟩;rw[iv,HZ.out.1,gk];simpa[EX]using hown1
      ·have XR:i=M:=by omega
       subst XR;obtain⟨A7,c7,rfl⟩:=ag hown;have HZ:=al (ab hown hbr);clear hown hbr;go_wp2_with fail;rw[kn]
       go_ret2
       have htk:(cV c lo hi (bY wl l)).take m=(s.take i).map Prod.snd:=by
        rw[<-H6.out.1,<-me];congr 1;have h1:=HM.out.1;have h2:=H6.out.2.2.2.1;by_cases hmN:m<=N
        ·rw[show m=i by omega]
        ·rw[gE (by omega),gE (by omega)]
       have hlen:((s.take i).map Prod.snd).length=i:=by rw[fa,kh];have h1:=HM.out.1;have h2:=H6.out.2.2.2.1;omega
       refine⟨A7,c7,?_,?_,H6.out.2.2.1.trans (HZ.out.2.mono H6.out.2.2.1.size)⟩
       ·rw[htk,hlen];rfl
       ·rw[htk,hlen,List.map_map];exact dM HZ.out.1 (fun q hq=>da H6.out.2.2.1.size (HZ.out.1.lt q hq).1)
    ·intro l1 l2 k v w2 Cm Me hrg2 hlt dY Ox hen;have hbr:=HY.out.2.2.1;have Wj:=HR.out.2.1.size;have hb2:Below w.heap.size w w2:=hbr.trans (dY.aG hbr.size (fun j hj e=>by omega));have hW2:=HH.out.1.only (pw hb2) (fun h=>h) (fun h=>h) (fun _ _ h=>h) (fun _ _ _ h=>h);have hwr:=hW2.wr k;rw[Me]at hwr;have hown2:=aT HY.out.2.1 dY (fun q hq e=>(HY.out.2.2.2.own_ne HY.out.2.1) (by rw[hq,e]))
     have WM:((dn++[k])++(l1++l2)).Perm (wl.map Prod.fst):=by have h1:=HY.out.1;rw[Cm]at h1;refine List.Perm.trans ?_ h1;simpa using List.Perm.append_left dn (List.perm_middle (a:=k) (l₁:=l1) (l₂:=l2)).symm
     have hfl:(xs++dn.filterMap (bF wl c lo hi)).length<=1024:=by obtain⟨-,-,-,hup,hfit,-⟩:=HH.out.1.tab;have h1:=WI (c:=c) (lo:=lo) (hi:=hi) HH.out.1.up hup hfit HY.out.1;rw[HK.out.1,HR.out.2.2.1]at h1;have:=HH.out.2.2.2.2.2.2.2.1;omega
     have hmb: ¬mb=wr.heap.size:=fun e=>by have:=HH.out.1.map.lt;omega
     cases hq:au k wl with
     |none=>rw[hq]at hwr;exact hwr.elim
     |some x=>
      rw[hq]at hwr;have HC:=al (ab hrg2 (ab hlt (ab hb2 (ab hown2 (ab WM (ab hfl hmb))))))
      cases x with
      |none=>obtain rfl:=hwr.1;have HD:=al (show bF wl c lo hi k=none by unfold bF;rw[hq]);clear hq hwr hW2 hbr Wj hb2 hown2 WM hfl hmb Cm hrg hrg2 hlt dY Ox Me;go_wp2_with fail;exact⟨⟨l1++l2,dn++[k],HC.out.1,HC.out.2.2.2.2.1,by rw[List.filterMap_append];simpa[HD.out]using HC.out.2.2.2.1,HC.out.2.2.1⟩,HC.out.2.1⟩
      |some r=>
       obtain⟨⟨b,rfl,BR⟩,Qx⟩:=hwr;obtain⟨ra,rb,rc,rd⟩:=r;have hc4:=HH.out.2.2.1
       have hzc:w2.cell? ⟨b,c,none⟩=some (.int .i64 ((Rw.mk ra rb rc rd).aM c)):=by rcases(show c=0\/c=1\/c=2\/c=3 by omega)with rfl|rfl|rfl|rfl<;>(unfold World.cell?;rw[BR];rfl)
       obtain⟨cv,hcv⟩:=qt ((Rw.mk ra rb rc rd).aM c);have Oo:bF wl c lo hi k=if lo<=cv/\cv<=hi then some (cv,k)else none:=by unfold bF;rw[hq];simp only[hcv]
       rw[hcv]at hzc;have i1:(0:Int)<=(c:Int):=by omega
       have i2:(c:Int)<4:=by omega
       clear hq hW2 hbr Wj hb2 hown2 WM hfl hmb Cm hrg hrg2 hlt dY Ox Me hcv BR Qx hc4;by_cases q1:lo<=cv
       ·by_cases q2:cv<=hi
        ·rw[fi ⟨q1,q2⟩]at Oo;have HD:=al Oo;clear Oo;obtain⟨zs,hzs⟩:=qt (xs++dn.filterMap (bF wl c lo hi));have aR:=ae w2 (.cells #[.int .i64 cv,.string ⟨k.toArray⟩] 293);have eZ:=aT HC.out.2.2.2.1 (pw aR) (fun _ _ h=>h);have hxl:=HC.out.2.2.2.2.2.1;rw[hzs]at eZ hxl;obtain⟨La,Pw⟩:=qt (zs.length);rw[Pw]at eZ hxl;obtain⟨A1,c1,rfl⟩:=ag eZ;have Py:=HC.out.2.2.1.trans (aR.mono HC.out.2.2.1.size);have E0:=al (ab eZ (ab (eb (an w2 (.cells #[.int .i64 cv,.string ⟨k.toArray⟩] 293))) (ab hzs (ab Pw (ab hxl (ab aR Py))))));have hs4:=HC.out.2.2.1.size;clear eZ aR hzs Pw hxl Py;go_wp2_with (at_builtin;go_loud (refine eh _ rfl _ _ 291 rfl w.heap.size 293 i0 _ 2 24 Tryz.underlying291 HI.out.1 HI.out.2.1 HI.out.2.2.1 HI.out.2.2.2 rfl (by decide) (.slice A1 La c1) La _ rfl E0.out.1 ⟨w2.heap.size,0,none⟩ 1 1 [.int .i64 cv,.string ⟨k.toArray⟩] rfl rfl E0.out.2.1 (by simp[Value.oneCell']) (by decide) (by have:=E0.out.2.2.2.2.1;unfold maxLen;omega) (by have:=E0.out.2.2.2.2.1;omega) (by simp;omega) _ rfl ?_);intro g2 cap2 w7 hown1 hgrow1 jt qg;have HP:=al (ab hown1 (ab hgrow1 jt));clear hown1 hgrow1 jt qg);obtain⟨eZ,-,hzs,Pw,hxl,aR,Py⟩:=E0.out;obtain⟨hown1,hgrow1,jt⟩:=HP.out;have hr4:=HC.out.1.only (pw aR) (fun h=>h) (fun h=>h);have hg4:=Only.of_grownBy hgrow1;have aay: ¬(Value.slice A1 La c1).ownBlock=some mb:=fun e=>by have:=(eZ.lt mb e).1;have:=HH.out.1.map.lt;omega
         have aaz: ¬(Value.slice A1 La c1).ownBlock=some wr.heap.size:=hr4.own_ne eZ;refine⟨⟨l1++l2,dn++[k],hr4.only hg4 aay aaz,HC.out.2.2.2.2.1,?_,Py.grown hgrow1 Py.size (fun q hq=>(eZ.lt q hq).1)⟩,?_⟩
         ·rw[List.filterMap_append,<-kt,hzs,show[k].filterMap (bF wl c lo hi)=[(cv,k)] by simp[HD.out],show(zs++[(cv,k)]).length=La+1 by simp[Pw]];simpa[CQ]using hown1
         ·rw[hr4.left hg4 aay aaz,HC.out.1.left (pw aR) (fun h=>h) (fun h=>h)];exact HC.out.2.1
        ·rw[ff (fun h=>q2 h.2)]at Oo;have HD:=al Oo;clear Oo;go_wp2_with fail;exact⟨⟨l1++l2,dn++[k],HC.out.1,HC.out.2.2.2.2.1,by rw[List.filterMap_append];simpa[HD.out]using HC.out.2.2.2.1,HC.out.2.2.1⟩,HC.out.2.1⟩
       ·rw[ff (fun h=>q1 h.1)]at Oo;have HD:=al Oo;clear Oo;go_wp2_with fail;exact⟨⟨l1++l2,dn++[k],HC.out.1,HC.out.2.2.2.2.1,by rw[List.filterMap_append];simpa[HD.out]using HC.out.2.2.2.1,HC.out.2.2.1⟩,HC.out.2.1⟩
end
end Go.Proofs.YtmkofmeojbcakaaGreatDoor
