import Derived.Test.YtehccbdajiiaaaaGreatDoorP08
import Derived.Test.YtehccbdajiiaaaaGreatDoorP12
import Derived.OwnWalk
import Derived.StillTailTactics
import Derived.Deep.Cut
import Derived.LoopTactic
namespace Go.Proofs.YtehccbdajiiaaaaGreatDoor
open Go.Proofs.Tryz
set_option maxRecDepth 100000
set_option maxHeartbeats 16000000
open Go.RowKit
def iz(w:World):Prop:= ∀i:Nat,i<16->w.cell? ⟨1,i,none⟩=some (.int .u32 (wN i:Int))
theorem iz.below{w w':World}(h:iz w)(b:Below w.heap.size w w'):iz w':=fun i a=>(b.cell (p:=⟨1,i,none⟩) (aq _ _ (h i a))).x (h i a)
theorem u32_xor{a b:Nat}(d:a<4294967296)(c:b<4294967296):bits BinOp.xor IntKind.u32 (a:Int) (b:Int)=((a^^^b:Nat):Int):=by
 have h:=B0 d c;show IntKind.u32.wrap ((BitVec.ofInt 32 (a:Int)^^^BitVec.ofInt 32 (b:Int)).toNat:Int)=_;rw[BitVec.toNat_xor];have e:(BitVec.ofInt 32 (a:Int)).toNat=a:=by simp;omega
 have f:(BitVec.ofInt 32 (b:Int)).toNat=b:=by simp;omega
 rw[e,f];unfold IntKind.wrap;simp[IntKind.bits,IntKind.signed];omega
theorem LU{a:Nat}(e:a<4294967296):bits BinOp.and IntKind.u32 (a:Int) 15=((a%16:Nat):Int):=by
 show IntKind.u32.wrap ((BitVec.ofInt 32 (a:Int)&&&BitVec.ofInt 32 15).toNat:Int)=_;rw[BitVec.toNat_and];have c:(BitVec.ofInt 32 (a:Int)).toNat=a:=by simp;omega
 have d:(BitVec.ofInt 32 (15:Int)).toNat=15:=by decide
 rw[c,d];have b:=Nat.and_two_pow_sub_one_eq_mod a 4;simp at b;rw[b];unfold IntKind.wrap;simp[IntKind.bits,IntKind.signed];omega
def halves:Nat->Nat->Nat
 |0,r=>r
 |n+1,r=>ZM (halves n r)
theorem Bf{r:Nat}(h:r<4294967296): ∀n,halves n r<4294967296
 |0=>h
 |n+1=>Gu (Bf h n)
theorem Hu(w:World)(F:Nat->Prop)(r:Nat)(A:Option Addr)(n c:Nat)(xs:List UInt8)(e:iz w)(t:r<4294967296)(a:Rd w F (.slice A n c) (xs.map B8)):
  Calls prog 192 #[.int .u32 (r:Int),.slice A n c] w fun D b=>D=.returned (.int .u32 (BZ r xs:Int))/\w=b:=by
 obtain⟨g,v,b⟩:xs.length=n/\n<=maxLen/\ ∀j x,xs[j]?=some x-> ∃p o,A=some ⟨p,o,none⟩/\w.cell? ⟨p,o+j,none⟩=some (.int .u8 (x.toNat:Int)):=by obtain⟨N,I,L,B,l,O,K,y⟩:=a;injection B with f d h;subst f d h;simp at l;refine⟨l,by omega,fun j x d=>?_⟩;have f:=(bd.1 d).1;obtain⟨p,o,D,_,C⟩:=y (by omega);exact⟨p,o,D,C j (B8 x) (by simp[d])⟩
 subst g;unfold maxLen at v;have j:=AM e b a;clear e b a;go_enter func192,ntmps192;go_wp2_with fail
 go_step3
 go_wp2_with fail
 go_step3
 go_wp2_with fail
 go_loop [0,10] (fun q i=> ∃k:Nat,k<=xs.length/\i=rv (k:Int)/\q=.int .u32 (BZ r (xs.take k):Int)) (fun _ i=>xs.length-(intOf i).toNat)
 case atStart=>exact⟨0,dq _,rfl,rfl⟩
 case round=>
  obtain⟨k,H,rfl,rfl⟩:=hrel;have b:=Ca (xs.take k) t;by_cases f:k<xs.length
  ·obtain⟨x,a⟩: ∃x,xs[k]?=some x:=⟨_,ao f⟩;obtain⟨p,o,rfl,Q⟩:=j.o.2.1 k x a;have G:=x.toNat_lt;have e:BZ r (xs.take (k+1))=V6 (BZ r (xs.take k)) x:=by rw[ir,a];simp[BZ]
   obtain⟨q,d⟩:=rl (BZ r (xs.take k));rw[d]at b e⊢;have s:=u32_xor b (show x.toNat<4294967296 by omega);have u:=AM a e d;clear a e d;go_wp2_with fail
   go_loop [0,7] (fun z i=> ∃h:Nat,h<=2/\i=rv (h:Int)/\z=.int .u32 (halves h (q^^^x.toNat):Int)) (fun _ i=>2-(intOf i).toNat)
   case atStart=>exact⟨0,by omega,rfl,rfl⟩
   case round=>
    obtain⟨h,P,rfl,rfl⟩:=hrel;by_cases J:h<2
    ·have m:=Bf (B0 b (show x.toNat<4294967296 by omega)) h;have a:halves (h+1) (q^^^x.toNat)=ZM (halves h (q^^^x.toNat)):=rfl;obtain⟨z,d⟩:=rl (halves h (q^^^x.toNat));rw[d]at m a⊢;have M:=LU m;have E:=j.o.1 (z%16) (Nat.mod_lt _ (by decide));have e:=u32_xor (show z/16<4294967296 by omega) (NL (z%16) (Nat.mod_lt _ (by decide)));have g:=AI a e;clear a d s e;go_wp2_with fail
     go_round
     case rel=>refine⟨h+1,by omega,by go_num,?_⟩;rw[g.o.1,show((z:Int)/16)=((z/16:Nat):Int) by omega,g.o.2];rfl
     case measure=>simp[intOf];omega
    ·obtain rfl:h=2:=by omega
     go_wp2_with fail
     go_round
     case rel=>refine⟨k+1,by omega,by go_num,?_⟩;rw[u.o.2.1];rfl
     case measure=>simp[intOf];omega
  ·obtain rfl:k=xs.length:=by omega
   rw[gn]at b⊢;go_wp2_with fail
   try rw[fs]
   go_ret
   exact⟨rfl,rfl⟩
theorem Tb{n:Nat}(h:n<4294967296):4294967295^^^n=4294967295-n:=by
 apply Nat.eq_of_testBit_eq;intro i;have a:=Nat.testBit_two_pow_sub_succ (n:=32) (x:=n) h i;have e:(2:Nat)^32-(n+1)=4294967295-n:=by omega
 rw[e]at a;have b:=Nat.testBit_two_pow_sub_one 32 i;have d:(2:Nat)^32-1=4294967295:=by decide
 rw[d]at b;rw[Nat.testBit_xor,a,b];by_cases c:i<32
 ·simp[c]
 ·have:n.testBit i=false:=Nat.testBit_lt_two_pow (da (show n<2^32 from h) (Nat.pow_le_pow_right (by decide) (by omega)));simp[c,this]
theorem WY(w:World)(F:Nat->Prop)(A:Option Addr)(n c:Nat)(xs:List UInt8)(f:iz w)(e:Rd w F (.slice A n c) (xs.map B8)):
  Calls prog 147 #[.slice A n c] w fun g a=>g=.returned (rv (YM xs:Int))/\w=a:=by
 have d:=Hu w F 4294967295 A n c xs f (by omega) e;have b:=Ca xs (r:=4294967295) (by omega);have a:=u32_xor (a:=4294967295) (by omega) b;rw[Tb b]at a;have j:bits BinOp.xor IntKind.u32 IntKind.u32.max (BZ 4294967295 xs:Int)=(YM xs:Int):=a;have i:=NM xs;have h:IntKind.u32.signed=false:=rfl;clear a b;go_enter func147,ntmps147;go_wp2_with fail;refine d.m ?_;rintro g a ⟨rfl,rfl⟩;go_wp2_with fail;go_ret
 exact⟨rfl,rfl⟩
def Px(xs:List UInt8)(w:World)(a:Ending)(w':World):Prop:=
 ∃A c,a=.returned (.slice A xs.length c)/\w'.ownsRow w.heap.size 5 1 (.slice A xs.length c) xs.length (xs.map B8)/\Below w.heap.size w w'
theorem LV(v:Value)(xs:List UInt8)(F:Nat->Prop)(w:World)(c:Rd w F v (xs.map B8))(d:xs.length<=140737488355328):
  Calls prog 46 #[v] w (Px xs w):=by
 refine(jr v (xs.map B8) F w c (sD xs) (by simpa using d)).m ?_;rintro g e ⟨A,f,rfl,a,b⟩;rw[eS]at a⊢;exact⟨A,f,rfl,a,b⟩
def jF(k s:Nat):Nat:=s/256^k
theorem LW{s:Nat}: ∀k,k<4->(four s).take (k+1)=(four s).take k++[UInt8.ofNat (jF k s%256)]:=by
 intro k a
 match k,a with
 |0,_=>simp[four,jF]
 |1,_=>simp[four,jF]
 |2,_=>simp[four,jF]
 |3,_=>simp[four,jF]
theorem Hv{a:Nat}(d:a<9223372036854775808):bits BinOp.and IntKind.i64 (a:Int) 255=((a%256:Nat):Int):=by
 show IntKind.i64.wrap ((BitVec.ofInt 64 (a:Int)&&&BitVec.ofInt 64 255).toNat:Int)=_;rw[BitVec.toNat_and];have c:(BitVec.ofInt 64 (a:Int)).toNat=a:=by simp;omega
 have b:(BitVec.ofInt 64 (255:Int)).toNat=255:=by decide
 rw[c,b];have h:=Nat.and_two_pow_sub_one_eq_mod a 8;simp at h;rw[h];unfold IntKind.wrap;simp[IntKind.bits,IntKind.signed];omega
theorem Td(w:World)(F:Nat->Prop)(A:Option Addr)(n c:Nat)(xs:List UInt8)(d:iz w)(a:Rd w F (.slice A n c) (xs.map B8))(E:xs.length<=1000000):
  Calls prog 84 #[.slice A n c] w (Px (gw xs) w):=by
 obtain⟨o,f,j,l,g⟩:=ef Tryz.N3
 obtain rfl:xs.length=n:=by obtain⟨G,P,B,r,E,S,q,V⟩:=a;injection r with R L N;simpa[L]using E
 have b:=WY w F A xs.length c xs d a;have x:=NM xs;obtain⟨s,e⟩:=rl (YM xs);rw[e]at b x;have D:=AM a d e;clear a d e;go_enter func84,ntmps84;go_wp2_with fail;refine b.m ?_;rintro W H ⟨rfl,rfl⟩;have m:=al f;clear f b;go_upto_region 3 with(at_make;go_loud (refine wpList_make_own _ rfl _ _ 53 rfl w.heap.size 5 o _ 1 underlying53 m.o j l _ _ _ (xs.length+4) rfl rfl (by push_cast;rfl) (by rw[g];omega) (by unfold maxLen;omega) (b8 _) ?_);intro b a d);have f:=a;have e:Rd b F (.slice A xs.length c) (xs.map B8):=D.o.1.below ((Only.of_grownBy d).below (fun k _ h=>by cases h));have b:=AM a d e;clear a f d e;go_wp2_with (at_builtin;go_loud (refine iY _ rfl _ _ 53 rfl w.heap.size 5 o (.int .u8 0) 1 underlying53 m.o j l g rfl _ 0 [] rfl b.o.1 F _ (xs.map B8) rfl b.o.d (sD xs) (by simp;omega) (by simp[maxLen];omega) b.o.2.1.size ?_);intro e H d a _);have e:Below w.heap.size w H:=((Only.of_grownBy b.o.2.1).below (fun k _ h=>by cases h)).grown a b.o.2.1.size (fun k C=>by have q:some w.heap.size=some k:=C;injection q with q;omega);have y:=AI d e;clear d a e
 go_loopw [3,4,14] (fun z v i wr=> ∃k:Nat,k<=4/\i=rv (k:Int)/\z=rv (jF k s:Int)/\wr.ownsRow w.heap.size 5 1 v (xs.length+k) ((xs++(four s).take k).map B8)/\Below w.heap.size w wr) (fun _ _ i _=>4-(intOf i).toNat)
 case atStart=>exact⟨0,by omega,rfl,by simp[jF],by simpa using y.o.1,y.o.2⟩
 case round=>
  obtain⟨k,C,rfl,rfl,d,e⟩:=hrel;by_cases K:k<4
  ·have J:jF k s<4294967296:=Nat.lt_of_le_of_lt (Nat.div_le_self _ _) x;have f:jF (k+1) s=jF k s/256:=by unfold jF;rw[Nat.pow_succ,Nat.div_div_eq_div_mul]
   have h:=LW (s:=s) k K;obtain⟨I,p⟩:=rl (jF k s);rw[p]at J f h⊢;have M:=Hv (a:=I) (by omega);have t:=d.alloc (.cells #[.int .u8 ((I:Int)%256)] 5);have u:=eb (an wr (.cells #[.int .u8 ((I:Int)%256)] 5));have a:=By t e f h p u;clear d t e f h p u;have t:0<=(I:Int)%256:=by omega
   have T:(I:Int)%256<256:=by omega
   go_wp2_with (at_builtin;go_loud (refine ep _ rfl _ _ 53 rfl w.heap.size 5 o _ 1 1 underlying53 m.o j l g rfl (by decide) _ (xs.length+k) _ rfl a.o.1 ⟨wr.heap.size,0,none⟩ 1 1 [.int .u8 ((I:Int)%256)] rfl rfl a.o.q.2 (by simp[Value.oneCell']) (by decide) (by unfold maxLen;omega) (by omega) (by have:=a.o.2.1.size;simp;omega) _ rfl ?_);intro U p u h f Q O);go_roundw
   case rel=>
    refine⟨k+1,by omega,by go_num,?_,?_,?_⟩
    ·rw[a.o.d.1];go_num
    ·rw[a.o.t.1];simpa[B8,gO]using h
    ·exact(a.o.2.1.alloc a.o.2.1.size _).grown f (by have:=a.o.2.1.size;simp;omega) (fun h f=>(a.o.1.lt h f).1)
   case measure=>simp[intOf];omega
  ·obtain rfl:k=4:=by omega
   have a:=AI d e;clear d e;go_wp2_with fail;go_ret
   obtain⟨G,B,r⟩:=ar a.o.1;subst r;have e:(four s).take 4=four s:=rfl;have d:(gw xs).length=xs.length+4:=rA xs;refine⟨G,B,by rw[d];rfl,?_,a.o.2⟩;have:=a.o.1;rw[e,<-D.o.d]at this;rw[d];exact this
theorem Hw(w:World)(F G:Nat->Prop)(l n:Value)(xs ys:List UInt8)(t:Rd w F l (xs.map B8))(u:Rd w G n (ys.map B8)):
  Calls prog 83 #[l,n] w (eD (xs=ys) w):=by
 obtain⟨O,P,N,rfl,d,K,s,c⟩:=t;obtain⟨H,B,J,rfl,a,z,p,b⟩:=u;simp only[eS]at d a;subst d a;unfold maxLen at s p;have j:=al c;have g:=al b;clear c b;by_cases a:xs.length=ys.length
 ·rw[<-a];have b:=al a;clear a;go_enter func83,ntmps83;go_wp2_with fail
  go_loopw [13] (fun i wr=> ∃k:Nat,k<=xs.length/\i=rv (k:Int)/\xs.take k=ys.take k/\ ∃v,wr=w.drewN v) (fun i _=>xs.length-(intOf i).toNat)
  case atStart=>exact⟨0,dq _,rfl,rfl,0,rfl⟩
  case round=>
   obtain⟨k,A,rfl,c,v,rfl⟩:=hrel;have m:=al c;clear c;by_cases h:k<xs.length
   ·obtain⟨x,e⟩: ∃x,xs[k]?=some x:=⟨_,ao h⟩;obtain⟨y,c⟩: ∃y,ys[k]?=some y:=⟨_,ao (by rw[<-b.o];exact h)⟩;obtain⟨M,L,rfl,_,o⟩:=j.o (by omega);obtain⟨r,q,rfl,_,f⟩:=g.o (by rw[<-b.o];omega);have C:w.cell? ⟨M,L+k,none⟩=some (.int .u8 (x.toNat:Int)):=o k (B8 x) (by simp[e]);have I:w.cell? ⟨r,q+k,none⟩=some (.int .u8 (y.toNat:Int)):=f k (B8 y) (by simp[c]);have E:(0:Int)<=(k:Int):=by omega
    have D:(k:Int)<(xs.length:Int):=by omega
    have d:=AI e c;clear o f j g e c;go_wp2_with fail;by_cases c:x=y
    ·subst c;go_quiet(fail);go_wp2_with fail;go_roundw
     case rel=>exact⟨k+1,by omega,by go_num,by rw[ir,ir,d.o.1,d.o.2,m.o],_,rfl⟩
     case measure=>simp[intOf];omega
    ·have f:((x.toNat:Int) !=(y.toNat:Int))=true:=by
      have:x.toNat≠y.toNat:=fun e=>c (UInt8.toNat_inj.1 e);simp;omega
     have g:=al c;clear c;go_quiet(fail);go_wp2_with fail;go_ret
     refine eD.no (fun e=>g.o ?_) (below_drewN (below_drewN (aw _ _) _) _);have c:=d.o.1;rw[e,d.o.2]at c;injection c with c;exact c.symm
   ·obtain rfl:k=xs.length:=by omega
    go_wp2_with fail;go_ret
    refine eD.yes ?_ (below_drewN (aw _ _) _);have:=m.o;rw[gn,b.o,gn]at this;exact this
 ·have f:((xs.length:Int) !=(ys.length:Int))=true:=by simp;omega
  have b:=al a;clear a;go_enter func83,ntmps83;go_wp2_with fail;go_ret
  exact eD.no (fun e=>b.o (by rw[e])) (aw _ _)
theorem Rd.head{w:World}{F:Nat->Prop}{A:Option Addr}{n c:Nat}{xs:List UInt8}(t:Rd w F (.slice A n c) (xs.map B8)){m:Nat}(p:m<=n):Rd w F (.slice A m c) ((xs.take m).map B8):=by obtain⟨k,o,j,h,d,l,e,f⟩:=t;injection h with a g b;subst a g b;simp at d;refine⟨A,m,c,rfl,by simp;omega,by omega,e,fun a=>?_⟩;obtain⟨s,q,r,g,i⟩:=f (by omega);refine⟨s,q,r,g,fun b u a=>i b u ?_⟩;have b:=(bd.1 a).1;rw[mc,List.getElem?_take_of_lt (by simp at b;omega)]at a;exact a
def aaJ(xs:List UInt8)(w:World)(e:Ending)(w':World):Prop:=
 Below w.heap.size w w'/\((∃a A c,xs=gw a/\e=.returned (.tuple #[.slice A a.length c,rv 0])/\w'.ownsRow w.heap.size 5 1 (.slice A a.length c) a.length (a.map B8))\/
  ((∀a,xs≠gw a)/\e=.returned (.tuple #[.slice none 0 0,rv (if xs.length<4 then 11 else 12)])))
theorem Te(w:World)(F:Nat->Prop)(v:Value)(xs:List UInt8)(d:iz w)(a:Rd w F v (xs.map B8))(y:xs.length<=1000000):
  Calls prog 56 #[v] w (aaJ xs w):=by
 obtain⟨A,r,q,rfl,b,p,j,c⟩:=a;have a:Rd w F (.slice A r q) (xs.map B8):=⟨A,r,q,rfl,b,p,j,c⟩;obtain rfl:xs.length=r:=by simpa using b
 clear b c;unfold maxLen at j;have f:=AI a d;clear a d;by_cases i:xs.length<4
 ·have b:(xs.length:Int)<4:=by omega
  go_enter func56,ntmps56;go_wp2_with fail
  go_ret2
  refine⟨aw _ _,.inr ⟨fun a l=>?_,by rw[fi i];rfl⟩⟩;have:=ew List.length l;rw[rA]at this;omega
 ·go_enter func56,ntmps56;go_wp2_with fail;have c:=f.o.1.head (m:=xs.length-4) (by omega);obtain⟨a,d⟩:=rl (xs.take (xs.length-4));have e:xs.length-4=a.length:=by rw[<-d];simp
  rw[d]at c;rw[e]at c⊢;refine(Td w F A a.length q a f.o.2 c (by omega)).m ?_;rintro s o ⟨x,t,rfl,g,h⟩;have b:=AN g h c d;clear g h c d;have k:=al e;clear e;go_wp2_with fail;refine(Hw o F (fun _=>True) _ _ xs (gw a) (f.o.1.below b.o.2.1) (Rd.bO b.o.1 (fun _ _=>trivial))).m ?_;rintro s h ⟨C,e,rfl,d⟩;have c:=AI e d;clear e d
  cases C with
  |false=>
   go_wp2_with fail
   go_ret2
   refine⟨b.o.2.1.x (c.o.2.m b.o.2.1.size),.inr ⟨fun d l=>?_,by rw[ff i];rfl⟩⟩
   have e:xs=gw a:=by
    have g:a=d:=by rw[<-b.o.t,l,rA];simp[gw]
    rw[g];exact l
   have:=c.o.1.2 e;cases this
  |true=>
   have l:=al (c.o.1.1 rfl)
   have d:a.length<=140737488355328:=by have u:=k.o;omega
   have e:=LV (.slice A a.length q) a F h ((b.o.d.1.below b.o.2.1).below c.o.2) d;clear d;go_wp2_with fail;refine e.m ?_;clear e;rintro s z ⟨n,m,rfl,g,d⟩;have e:=AI g d;clear g d;go_wp2_with fail
   go_ret2
   have d:Below w.heap.size w h:=b.o.2.1.x (c.o.2.m b.o.2.1.size);refine⟨d.x (e.o.2.m d.size),.inl ⟨a,n,m,l.o,rfl,?_⟩⟩;have:=dF e.o.1 (base':=w.heap.size) (fun B g=>dp d.size (e.o.1.lt B g).1);simpa using this
end Go.Proofs.YtehccbdajiiaaaaGreatDoor
