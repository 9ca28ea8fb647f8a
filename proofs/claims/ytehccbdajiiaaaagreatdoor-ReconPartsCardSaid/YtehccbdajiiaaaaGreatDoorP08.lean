import Derived.Test.YtehccbdajiiaaaaGreatDoorP01
import Derived.WalkKit
namespace Go.Proofs.YtehccbdajiiaaaaGreatDoor
set_option maxRecDepth 100000
def mJ:Nat->Nat->List UInt8
 |0,n=>[UInt8.ofNat n]
 |f+1,n=>if n<128 then[UInt8.ofNat n]else UInt8.ofNat (n%128+128)::mJ f (n/128)
def oD(n:Nat):List UInt8:=mJ 9 n
theorem V4{m:Nat}(h:m<128):oD m=[UInt8.ofNat m]:=by simp[oD,mJ,h]
theorem KS(f:Nat): ∀n,n<128^(f+1)->mJ (f+1) n=mJ f n:=by
 induction f with
 |zero=>intro n h;simp[mJ]at h⊢;omega
 |succ f a=>
  intro n h;rw[mJ]
  conv=>rhs;rw[mJ]
  split
  ·rfl
  ·rw[a (n/128) (by rw[Nat.div_lt_iff_lt_mul (by decide)];rw[Nat.pow_succ]at h;exact h)]
theorem V5{m:Nat}(h:128<=m)(a:m<18446744073709551616):oD m=UInt8.ofNat (m%128+128)::oD (m/128):=by unfold oD;rw[mJ,if_neg (by omega),<-KS 8 (m/128) (by rw[Nat.div_lt_iff_lt_mul (by decide)];simp;omega)]
theorem ja(m:Nat):(oD m).length<=10:=by
 have: ∀f n,(mJ f n).length<=f+1:=by
  intro f
  induction f with
  |zero=>intro n;simp[mJ]
  |succ f a=>intro n;rw[mJ];split<;>simp;exact a _
 exact this 9 m
theorem R5(m:Nat):1<=(oD m).length:=by unfold oD;rw[mJ];split<;>simp
def tO:Nat->Nat->List UInt8->Option (Nat×List UInt8)
 |_,_,[]=>none
 |k,acc,b::rest=>if k=9/\1<b.toNat then none else if 128<=b.toNat then tO (k+1) (acc+(b.toNat-128)*128^k) rest
  else if b.toNat=0/\0<k then none else some (acc+b.toNat*128^k,rest)
theorem R6(f:Nat): ∀(k acc m:Nat) (a:List UInt8),k+f=9->m<2^(64-7*k)->(k=0\/0<m)->tO k acc (mJ f m++a)=some (acc+m*128^k,a):=by
 induction f with
 |zero=>
  intro k acc m a h c d;have g:k=9:=by omega
  subst g;simp at c;have b:(UInt8.ofNat m).toNat=m:=by simp;omega
  simp only[mJ,List.singleton_append,tO,b];rw[if_neg (by omega),if_neg (by omega),if_neg (by omega)]
 |succ f i=>
  intro k acc m a h c d;rw[mJ];split
  ·rename_i j;have b:(UInt8.ofNat m).toNat=m:=by simp;omega
   simp only[List.singleton_append,tO,b];rw[if_neg (by omega),if_neg (by omega),if_neg (by omega)]
  ·rename_i j;have b:(UInt8.ofNat (m%128+128)).toNat=m%128+128:=by simp;omega
   simp only[List.cons_append,tO,b];rw[if_neg (by omega),if_pos (by omega),i (k+1) _ (m/128) a (by omega) ?_ (.inr (by omega))]
   ·congr 2;have:m=m%128+128*(m/128):=by omega
    rw[Nat.add_sub_cancel,Nat.pow_succ,Nat.add_assoc];congr 1
    conv=>rhs;rw[this]
    rw[Nat.add_mul,Nat.mul_comm (128^k) 128,<-Nat.mul_assoc,Nat.mul_comm 128 (m/128)]
   ·rw[Nat.div_lt_iff_lt_mul (by decide)];have e:64-7*k=64-7*(k+1)+7:=by omega
    rw[e,Nat.pow_add]at c;exact c
theorem BV: ∀(c:List UInt8) (k acc n:Nat) (b:List UInt8),k<=9->tO k acc c=some (n,b)->
  ∃t,n=acc+t*128^k/\c=mJ (9-k) t++b/\t<2^(64-7*k)/\(k=0\/0<t):=by
 intro c
 induction c with
 |nil=>intro k acc n b m h;simp[tO]at h
 |cons d c o=>
  intro k acc n b m h;rw[tO]at h;split at h
  ·cases h
  ·rename_i A;have u:=d.toNat_lt;split at h
   ·rename_i j;have e:k≠9:=by omega
    obtain⟨a,i,f,x,w⟩:=o (k+1) _ n b (by omega) h;have v:0<a:=by omega
    refine⟨(d.toNat-128)+128*a,?_,?_,?_,.inr (by omega)⟩
    ·rw[i,Nat.pow_succ,Nat.add_mul,Nat.add_assoc,Nat.mul_comm (128^k) 128,<-Nat.mul_assoc,Nat.mul_comm a 128]
    ·have q:9-k=(9-(k+1))+1:=by omega
     rw[q,mJ,if_neg (by omega),f];have l:(d.toNat-128+128*a)/128=a:=by omega
     have p:(d.toNat-128+128*a)%128+128=d.toNat:=by omega
     rw[l,p];simp
    ·have g:64-7*k=64-7*(k+1)+7:=by omega
     rw[g,Nat.pow_add];have:(2:Nat)^7=128:=rfl;omega
   ·rename_i j;split at h
    ·cases h
    ·rename_i z;injection h with h;injection h with s r;subst r;refine⟨d.toNat,s.symm,?_,?_,by omega⟩
     ·have y:UInt8.ofNat d.toNat=d:=by simp
      cases hf:9-k with
      |zero=>simp[mJ]
      |succ B=>rw[mJ,if_pos (by omega)];simp
     ·by_cases e:k=9
      ·subst e;simp;omega
      ·have:(2:Nat)^7<=2^(64-7*k):=Nat.pow_le_pow_right (by decide) (by omega);omega
def BW(a:List UInt8):Option (Nat×List UInt8):=match tO 0 0 a with
 |some (n,r)=>if n<=9223372036854775807 then some (n,r)else none
 |none=>none
theorem uW{a b:List UInt8}{n:Nat}(h:BW a=some (n,b)):a=oD n++b/\n<=9223372036854775807:=by
 unfold BW at h
 cases hg:tO 0 0 a with
 |none=>rw[hg]at h;cases h
 |some x=>
  rw[hg]at h;obtain⟨m,r⟩:=x;dsimp only at h;split at h
  ·rename_i e;injection h with h;injection h with f d;subst f d;obtain⟨i,c,g,_,_⟩:=BV a 0 0 m r (by decide) hg;simp at c;subst c;exact⟨g,e⟩
  ·cases h
def UC(p:List UInt8):List UInt8:=oD p.length++p
def Gl(most:Nat)(a:List UInt8):Option (List UInt8×List UInt8):=match BW a with
 |some (n,r)=>if n<=most/\n<=r.length then some (r.take n,r.drop n)else none
 |none=>none
theorem R7{most:Nat}{a t b:List UInt8}(h:Gl most a=some (t,b)):a=UC t++b/\t.length<=most:=by
 unfold Gl at h
 cases hg:BW a with
 |none=>rw[hg]at h;cases h
 |some x=>
  rw[hg]at h;obtain⟨m,r⟩:=x;dsimp only at h;split at h
  ·rename_i f;injection h with h;injection h with e d;subst e d;have c:(r.take m).length=m:=by simp;omega
   obtain⟨g,_⟩:=uW hg;refine⟨?_,by omega⟩;unfold UC;rw[c,List.append_assoc,List.take_append_drop];exact g
  ·cases h
section
variable{α:Type}
theorem Ad{l:List (List UInt8×α)}(h:dK l):l.Nodup:=List.Pairwise.imp (R:=fun a b:List UInt8×α=>a.1<b.1) (fun{a b} h e=>by rw[e]at h;exact aM _ h) h
theorem Gm{a b:List (List UInt8×α)}(d:dK a)(c:dK b)(h: ∀k,ay k a=ay k b):a=b:=by refine mH d c ((List.perm_ext_iff_of_nodup (Ad d) (Ad c)).2 fun q=>?_);obtain⟨k,r⟩:=q;rw[<-aD d,<-aD c,h k]
theorem Gn{q:List UInt8×α}{l:List (List UInt8×α)}(h:dK (q::l))(k:List UInt8):ay k (q::l)=if k=q.1 then some q.2 else ay k l:=by
 split
 ·rename_i e;subst e;exact(aD h).2 (by simp)
 ·rename_i e;have c:=(List.pairwise_cons.1 h).2
  cases hk:ay k l with
  |none=>
   rw[aU h];intro p a b;rcases List.mem_cons.1 a with rfl|a
   ·exact e b.symm
   ·exact(aU c).1 hk p a b
  |some r=>exact(aD h).2 (by simp[(aD c).1 hk])
theorem gS{l:List (List UInt8×α)}(h:dK l):(l.map Prod.fst).Nodup:=by unfold List.Nodup;rw[List.pairwise_map];exact List.Pairwise.imp (R:=fun a b:List UInt8×α=>a.1<b.1) (fun{a b} h e=>by rw[e]at h;exact aM _ h) h
theorem wC{l:List (List UInt8×α)}(h:dK l)(k:List UInt8):(ay k l).isSome=true↔k∈l.map Prod.fst:=by
 rw[List.mem_map]
 cases hk:ay k l with
 |none=>simp only[Option.isSome_none,Bool.false_eq_true,false_iff];rintro⟨q,a,rfl⟩;exact(aU h).1 hk q a rfl
 |some r=>exact⟨fun _=>⟨_,(aD h).1 hk,rfl⟩,fun _=>rfl⟩
end
def kH(l:az)(q:List UInt8×Option Rw):az:=match q.2 with
 |some r=>cK (q.1,r) l
 |none=>eU q.1 l
def aY(wl:List (List UInt8×Option Rw))(l:az):az:=wl.foldl kH l
theorem ry{l:az}(h:dK l)(q:List UInt8×Option Rw):dK (kH l q):=by
 unfold kH;split
 ·exact eX h
 ·exact fR h
theorem wD{l:az}(h:dK l)(q:List UInt8×Option Rw)(k:List UInt8):ay k (kH l q)=if k=q.1 then q.2 else ay k l:=by
 unfold kH;split
 ·rename_i e;rw[mG h,e]
 ·rename_i e;rw[vR h,e]
theorem cy: ∀{wl:List (List UInt8×Option Rw)} {l:az},dK l->dK (aY wl l)
 |[],_,h=>h
 |q::wl,_,h=>cy (wl:=wl) (ry h q)
theorem dG: ∀{wl:List (List UInt8×Option Rw)} {l:az},dK wl->dK l-> ∀k,ay k (aY wl l)=(ay k wl).getD (ay k l)
 |[],_,_,_,_=>rfl
 |q::wl,l,hw,h,k=>by
  have a:=(List.pairwise_cons.1 hw);have d:=dG a.2 (ry h q) k;show ay k (aY wl (kH l q))=_;rw[d,Gn hw,wD h];by_cases e:k=q.1
  ·rw[if_pos e,if_pos e,(aU a.2).2 (fun p b c=>by have:=a.1 p b;rw[c,e]at this;exact aM _ this)];rfl
  ·rw[if_neg e,if_neg e]
theorem KT{wl:List (List UInt8×Option Rw)}{l:az}(a:dK wl)(h:dK l)(k:List UInt8)(r:Rw):aY (cK (k,some r) wl) l=cK (k,r) (aY wl l):=by refine Gm (cy h) (eX (cy h)) fun x=>?_;rw[dG (eX a) h,mG a,mG (cy h),dG a h];simp only;split<;>rfl
theorem KU{wl:List (List UInt8×Option Rw)}{l:az}(a:dK wl)(h:dK l)(k:List UInt8):aY (cK (k,none) wl) l=eU k (aY wl l):=by refine Gm (cy h) (fR (cy h)) fun x=>?_;rw[dG (eX a) h,mG a,vR (cy h),dG a h];simp only;split<;>rfl
theorem KV{wl:List (List UInt8×Option Rw)}{l:az}{q:List UInt8×Rw}(b:dK wl)(h:dK l)(c:q∈aY wl l):(q.1,some q.2)∈wl\/q∈l:=by
 have a:=(aD (cy h)).2 c;rw[dG b h]at a
 cases hk:ay q.1 wl with
 |none=>rw[hk]at a;exact .inr ((aD h).1 a)
 |some x=>rw[hk]at a;simp at a;subst a;exact .inl ((aD b).1 hk)
theorem KW{wl:List (List UInt8×Option Rw)}{l:az}(c:dK wl)(h:dK l)(b:RowsFit l)(a: ∀q∈wl,∀r,q.2=some r-> ∀e,I6 (r.aL e)):RowsFit (aY wl l):=fun q d e=>(KV c h d).elim (fun h=>a _ h _ rfl e) (fun h=>b q h e)
def dQ(l:az)(q:List UInt8×Option Rw):Int:=if(ay q.1 l).isSome then(if q.2.isSome then 0 else -1)else(if q.2.isSome then 1 else 0)
def yM(l:az):List (List UInt8×Option Rw)->Int
 |[]=>0
 |q::wl=>dQ l q+yM l wl
theorem Ae{l:az}(h:dK l)(q:List UInt8×Option Rw):((kH l q).length:Int)=l.length+dQ l q:=by
 obtain⟨k,x⟩:=q;unfold kH dQ
 cases x with
 |some r=>simp only[Option.isSome_some,if_true];rw[kE h];split<;>simp
 |none=>
  simp only[Option.isSome_none]
  cases hk:ay k l with
  |none=>rw[gU hk];simp
  |some r=>have:=qX hk;simp;omega
theorem Ag{l:az}(h:dK l)(q:List UInt8×Option Rw): ∀(wl:List (List UInt8×Option Rw)),(∀p∈wl,p.1≠q.1)->yM (kH l q) wl=yM l wl
 |[],_=>rfl
 |p::wl,hn=>by rw[yM,yM,Ag h q wl (fun x a=>hn x (by simp[a]))];unfold dQ;rw[wD h,if_neg (hn p (by simp))]
theorem Ah: ∀{wl:List (List UInt8×Option Rw)} {l:az},dK wl->dK l->((aY wl l).length:Int)=l.length+yM l wl
 |[],_,_,_=>by simp[aY,yM]
 |q::wl,l,hw,h=>by have a:=(List.pairwise_cons.1 hw);have c:=Ah a.2 (ry h q);show((aY wl (kH l q)).length:Int)=_;rw[c,Ae h,Ag h q wl (fun p b e=>by have:=a.1 p b;rw[e]at this;exact aM _ this),yM];omega
def kI(wl:List (List UInt8×Option Rw))(l:az):List (List UInt8)->Int
 |[]=>0
 |k::ks=>(match ay k wl with
  |some x=>dQ l (k,x)
  |none=>0)+kI wl l ks
theorem wH(wl:List (List UInt8×Option Rw))(l:az)(k:List UInt8)(b:List (List UInt8)): ∀a,kI wl l (a++k::b)=kI wl l [k]+kI wl l (a++b)
 |[]=>by simp[kI]
 |x::a=>by have c:=wH wl l k b a;simp only[List.cons_append,kI]at c⊢;omega
theorem D2{wl:List (List UInt8×Option Rw)}{l:az}(b:dK wl): ∀a:List (List UInt8×Option Rw),(∀q∈a,q∈wl)->kI wl l (a.map Prod.fst)=yM l a
 |[],_=>rfl
 |q::a,h=>by rw[List.map_cons,kI,yM,D2 b a (fun x a=>h x (by simp[a])),(aD b).2 (h q (by simp))]
theorem wI{wl:List (List UInt8×Option Rw)}{l:az}(a:dK wl)(h:dK l):((aY wl l).length:Int)=l.length+kI wl l (wl.map Prod.fst):=by rw[Ah a h,D2 a wl (fun _ h=>h)]
def aF(wl:List (List UInt8×Option Rw))(l:az)(c:Nat)(k:List UInt8):Option (Int×List UInt8):=if(ay k wl).isSome then none else(ay k l).map fun r=>(r.aL c,k)
def bF(wl:List (List UInt8×Option Rw))(c:Nat)(lo hi:Int)(k:List UInt8):Option (Int×List UInt8):=match ay k wl with
 |some (some r)=>if lo<=r.aL c/\r.aL c<=hi then some (r.aL c,k)else none
 |_=>none
def yN(a b:Int×List UInt8):Prop:=a.1<b.1\/a.1=b.1/\a.2<b.2
theorem NK{c:Nat}{lo hi:Int}{l:az}{ps:List (Int×List UInt8)}(k:dK l)(d:RowsFit l)(j:ps.Pairwise yN)(b:ps.Perm ((l.filter (DF c lo hi)).map fun q=>(q.2.aL c,q.1))):ps.map Prod.snd=cO c lo hi l:=by
 have a: ∀p∈ps,I6 p.1:=fun p e=>by obtain⟨q,h,rfl⟩:=List.mem_map.1 (b.mem_iff.1 e);exact d q (List.mem_filter.1 h).1 c
 have i:(ps.map fun p=>((dI p.1 p.2,[]):Pr))=sA c (l.filter (DF c lo hi)):=by
  refine BK (k.filter _) (d.filter _) ?_ ?_
  ·unfold Up;rw[List.pairwise_map];refine List.Pairwise.imp_of_mem (fun{n m} g f e=>?_) j;exact(Rv (a n g) (a m f)).2 e
  ·have:=b.map fun p=>((dI p.1 p.2,[]):Pr);rw[List.map_map]at this;exact this
 unfold cO;rw[<-i,List.map_map];exact List.map_congr_left fun p _=>(ov p.1 p.2).symm
theorem sG{α β:Type}{f:α->Option β}{g:β->α}(a: ∀e d,f e=some d->g d=e): ∀{l:List α},l.Nodup->(l.filterMap f).Nodup
 |[],_=>by simp
 |e::l,h=>by
  have b:=List.nodup_cons.1 h;have c:=sG a b.2
  cases hf:f e with
  |none=>rw[List.filterMap_cons_none hf];exact c
  |some d=>rw[List.filterMap_cons_some hf,List.nodup_cons];refine⟨fun i=>?_,c⟩;obtain⟨x,j,k⟩:=List.mem_filterMap.1 i;have i:=a e d hf;have e:=a x d k;exact b.1 (by rw[<-i,e];exact j)
theorem Gp{wl:List (List UInt8×Option Rw)}{l:az}{c:Nat}{k:List UInt8}{p:Int×List UInt8}(h:aF wl l c k=some p):p.2=k:=by
 unfold aF at h;split at h
 ·cases h
 ·obtain⟨r,_,rfl⟩:=Option.map_eq_some_iff.1 h;rfl
theorem Gq{wl:List (List UInt8×Option Rw)}{c:Nat}{lo hi:Int}{k:List UInt8}{p:Int×List UInt8}(h:bF wl c lo hi k=some p):p.2=k:=by
 unfold bF at h;split at h
 ·split at h
  ·injection h with h;rw[<-h]
  ·cases h
 ·cases h
theorem D3{wl:List (List UInt8×Option Rw)}{l:az}{c:Nat}{lo hi:Int}{ks:List (List UInt8)}(o:dK wl)(i:dK l)(n:RowsFit l)(q:ks.Perm (wl.map Prod.fst)):
  ((cO c lo hi l).filterMap (aF wl l c)++ks.filterMap (bF wl c lo hi)).Perm (((aY wl l).filter (DF c lo hi)).map fun F=>(F.2.aL c,F.1)):=by
 have y:(cO c lo hi l).Nodup:=by
  unfold cO;have s:=(fh c (i.filter (DF c lo hi)) (n.filter _)).map fun w:Pr=>w.1.drop 8;rw[List.map_map]at s;refine s.nodup_iff.2 ?_;have p:((fun w:Pr=>w.1.drop 8)∘ni c)=Prod.fst:=by funext F;exact ov _ _
  rw[p];exact gS (i.filter _)
 refine(List.perm_ext_iff_of_nodup ?_ ?_).2 fun w=>?_
 ·rw[List.nodup_append];refine⟨sG (g:=Prod.snd) (fun v x=>Gp) y,sG (g:=Prod.snd) (fun v x=>Gq) (q.nodup_iff.2 (gS o)),fun v C x z p=>?_⟩;obtain⟨E,_,a⟩:=List.mem_filterMap.1 C;obtain⟨I,_,g⟩:=List.mem_filterMap.1 z;have b:=Gp a;have j:=Gq g;subst p;rw[<-b]at a;rw[<-j]at g;unfold aF at a;unfold bF at g
  cases e:ay v.2 wl with
  |none=>rw[e]at g;cases g
  |some G=>rw[e]at a;simp at a
 ·unfold List.Nodup;rw[List.pairwise_map];exact List.Pairwise.imp (R:=fun v x:List UInt8×Rw=>v.1<x.1) (fun{v x} i p=>by injection p with _ p;rw[p]at i;exact aM _ i) ((cy i).filter _)
 ·obtain⟨H,u⟩:=w;have m: ∀r,ay u (aY wl l)=some r↔(u,r)∈aY wl l:=fun r=>aD (cy i);have k:=dG o i u;rw[List.mem_append,List.mem_filterMap,List.mem_filterMap,List.mem_map];constructor
  ·rintro(⟨E,t,a⟩|⟨E,t,a⟩)
   ·have b:=Gp a;simp only at b;subst b;obtain⟨r,d,D,A⟩:=(kg i n).1 t;unfold aF at a
    cases e:ay u wl with
    |some G=>rw[e]at a;simp at a
    |none=>rw[e,(aD i).2 d]at a;simp at a;refine⟨(u,r),List.mem_filter.2 ⟨(m r).1 (by rw[k,e,(aD i).2 d];rfl),by simp[DF,D,A]⟩,by rw[<-a]⟩
   ·have b:=Gq a;simp only at b;subst b;unfold bF at a;split at a
    ·rename_i r e;split at a
     ·rename_i d;injection a with a;injection a with a;exact⟨(u,r),List.mem_filter.2 ⟨(m r).1 (by rw[k,e];rfl),by simp[DF,d.1,d.2]⟩,by rw[<-a]⟩
     ·cases a
    ·cases a
  ·rintro⟨⟨h,r⟩,e,p⟩;injection p with b j;simp only at b j;subst j;obtain⟨B,d⟩:=List.mem_filter.1 e;have f:=(m r).2 B;unfold DF at d;simp only[Bool.and_eq_true,decide_eq_true_eq]at d;rw[k]at f
   cases hz:ay h wl with
   |none=>rw[hz]at f;left;refine⟨h,(kg i n).2 ⟨r,(aD i).1 f,d⟩,?_⟩;unfold aF;rw[hz,show ay h l=some r from f];simp[b]
   |some E=>rw[hz]at f;simp at f;subst f;right;refine⟨h,q.mem_iff.2 ((wC o h).1 (by rw[hz];rfl)),?_⟩;unfold bF;rw[hz];rw[b]at d;simp[d.1,d.2,b]
theorem rz{α:Type}{l:List (List UInt8×α)}(h:dK l)(p:List UInt8×α->Bool)(k:List UInt8):ay k (l.filter p)=(ay k l).bind fun x=>if p (k,x)=true then some x else none:=by
 cases a:ay k l with
 |none=>show _=none;rw[aU (h.filter p)];intro q c g;exact(aU h).1 a q (List.mem_filter.1 c).1 g
 |some x=>
  have e:=(aD h).1 a;simp only[Option.bind_some];split
  ·rename_i b;exact(aD (h.filter p)).2 (List.mem_filter.2 ⟨e,b⟩)
  ·rename_i b;rw[aU (h.filter p)];intro q c g;obtain⟨f,d⟩:=List.mem_filter.1 c;obtain⟨i,y⟩:=q;simp only at g;subst g;rw[(aD h).2 f]at a;injection a with a;rw[a]at d;exact b d
def jb(b:Bool)(wl:List (List UInt8×Option Rw)):List (List UInt8×Option Rw):=wl.filter fun q=>q.2.isSome==b
theorem Jv{b:Bool}{wl:List (List UInt8×Option Rw)}(h:dK wl):dK (jb b wl):=h.filter _
theorem D4{wl:List (List UInt8×Option Rw)}{l:az}(a:dK wl)(h:dK l):aY (jb true wl) (aY (jb false wl) l)=aY wl l:=by
 refine Gm (cy (cy h)) (cy h) fun k=>?_;rw[dG (Jv a) (cy h),dG (Jv a) h,dG a h];unfold jb;rw[rz a,rz a]
 cases ay k wl with
 |none=>rfl
 |some x=>cases x<;>rfl
theorem wJ(wl:List (List UInt8×Option Rw))(q:List UInt8×Option Rw)(l:az):aY (wl++[q]) l=kH (aY wl l) q:=by unfold aY;rw[List.foldl_append];rfl
theorem sH{wl:List (List UInt8×Option Rw)}{n:Nat}{q:List UInt8×Option Rw}(a:wl[n]?=some q)(b:Bool):jb b (wl.take (n+1))=if q.2.isSome=b then jb b (wl.take n)++[q]else jb b (wl.take n):=by
 rw[List.take_add_one,a];unfold jb;rw[List.filter_append];by_cases e:q.2.isSome=b
 ·rw[if_pos e];simp[e]
 ·rw[if_neg e];have:(q.2.isSome==b)=false:=by simpa using e
  simp only[Option.toList_some,List.filter_cons,this,Bool.false_eq_true,if_false,List.filter_nil,List.append_nil]
theorem yO{l:az}(h:dK l){q:List UInt8×Option Rw}(a:q.2.isSome=true):l.length<=(kH l q).length:=by have:=Ae h q;unfold dQ at this;rw[a]at this;split at this<;>simp at this<;>omega
theorem wK: ∀{wl:List (List UInt8×Option Rw)} {l:az},dK l->(∀q∈wl,q.2.isSome=true)->l.length<=(aY wl l).length
 |[],_,_,_=>Nat.le_refl _
 |q::_,_,h,hq=>Nat.le_trans (yO h (hq q (by simp))) (wK (ry h q) (fun x a=>hq x (by simp[a])))
theorem KX{wl:List (List UInt8×Option Rw)}: ∀q∈jb true wl,q.2.isSome=true:=fun q a=>by
 have:=(List.mem_filter.1 a).2;simpa using this
theorem R8{wl:List (List UInt8×Option Rw)}{l:az}(h:dK l)(n:Nat):(aY (jb true (wl.take n)) l).length<=(aY (jb true wl) l).length:=by
 have e:jb true wl=jb true (wl.take n)++jb true (wl.drop n):=by unfold jb;rw[<-List.filter_append,List.take_append_drop]
 rw[e];unfold aY;rw[List.foldl_append];exact wK (cy (wl:=jb true (wl.take n)) h) (fun q a=>KX q a)
structure aX where
 d:Int
 a:Int
 b:Int
 c:Int
 n:Int
 deriving DecidableEq
namespace aX
def holds(o:aX):Bool:=o.d==13||o.d==14
def tP(o:aX)(i:Nat):Int:=if i=0 then o.a else if i=1 then o.b else if i=2 then o.c else o.n
end aX
def oF(d:Int)(i:Nat):Bool:=
 if d=1 then i==0||i==2 else if d=8\/d=11 then decide (i<3)else if d=10 then i==1 else if d=12 then true
 else if d=13 then i==0||i==3 else if d=14 then decide (2<=i)else if d=15 then i==0 else decide (i<2)
def D5(d:Int)(i:Nat):Int:=if i=2/\d=1 then -1099511627776 else 0
def BX(d:Int)(i:Nat):Int:=
 if i=0 then(if d=9 then 4 else 7)else if i=1 then 7 else if i=2 then(if d=1 then 1099511627776 else if d=14 then 16 else 3)else(if d=12 then 1099511627776 else 64)
def eY(o:aX):Bool:=decide (1<=o.d/\o.d<=15)&&(List.range 4).all (fun i=>oF o.d i||o.tP i==0)
def eZ(o:aX):Bool:=(List.range 4).all (fun i=>!oF o.d i||(decide (D5 o.d i<=o.tP i)&&decide (o.tP i<=BX o.d i)))
def eF(k:Nat)(o:aX):Int:=(k:Int)+1+o.n
def opens(l:List aX)(i:Nat):List Int:=((l.take i).zipIdx.filter (fun x=>x.1.holds&&decide ((i:Int)<eF x.2 x.1))).map (fun x=>eF x.2 x.1)
def mg(a:Nat)(b:List Int):Int:=b.getLast?.getD (a:Int)
def eK(l:List aX)(i:Nat)(o:aX):Bool:=decide ((opens l i).length<=8)&&(!o.holds||decide (eF i o<=mg l.length (opens l i)))
def ic(l:List aX)(k:Nat):Bool:=(List.range k).all (fun i=>match l[i]? with|some o=>eK l i o|none=>true)
def jk(l:List aX):Bool:=ic l l.length
def opsE(l:List aX):Int:=
 if 64<l.length then 23 else if l.all eY=false then 11 else if l.all eZ=false then 10 else if jk l=false then 11 else 0
theorem cu{l:List aX}{k:Nat}{o:aX}(h:l[k]?=some o):ic l (k+1)=(ic l k&&eK l k o):=by unfold ic;rw[List.range_succ,List.all_append];simp[h]
theorem gu{l:List aX}{k m:Nat}(h:ic l m=true)(b:k<=m):ic l k=true:=by unfold ic at h⊢;rw[List.all_eq_true]at h⊢;intro i a;exact h i (List.mem_range.2 (by have:=List.mem_range.1 a;omega))
theorem Gs(l:List aX):opens l 0=[]:=by simp[opens]
theorem qC{l:List aX}{k:Nat}{o:aX}(h:l[k]?=some o):
  opens l (k+1)=(opens l k).filter (fun g=>decide ((k:Int)+1<g))++(if o.holds=true/\((k:Int)+1<eF k o)then[eF k o]else[]):=by
 unfold opens;have e:=(List.getElem?_eq_some_iff.1 h).1;have b:l.take (k+1)=l.take k++[o]:=by rw[List.take_add_one,h];rfl
 have d:(l.take k).length=k:=by simp;omega
 rw[b,List.zipIdx_append,List.filter_append,List.map_append,d];congr 1
 ·rw[List.filter_map,List.filter_filter];congr 1;apply List.filter_congr;intro x _;simp only[Function.comp];rw[Bool.eq_iff_iff];simp only[Bool.and_eq_true,decide_eq_true_eq];constructor
  ·rintro⟨b,a⟩;refine⟨by push_cast at a;exact a,b,by push_cast at a;omega⟩
  ·rintro⟨b,a,f⟩;exact⟨a,by push_cast;exact b⟩
 ·simp only[List.zipIdx_cons,List.zipIdx_nil,List.filter_cons,List.filter_nil,Nat.zero_add]
  push_cast
  by_cases c:o.holds=true/\((k:Int)+1<eF k o)
  ·simp[c.1,c.2]
  ·rw[if_neg c];split
   ·rename_i a;simp at a;exact absurd a c
   ·rfl
theorem Ai{a:List Int}{p:Int->Bool}(h:a.Pairwise (fun c b=>c≥b)):(a.filter p).Pairwise (fun c b=>c≥b):=h.filter _
theorem D6{l:List aX}: ∀k,k<=l.length->ic l k=true->(opens l k).Pairwise (fun s t=>s≥t)/\ ∀g∈opens l k,(k:Int)<g/\g<=(l.length:Int)
 |0,_,_=>by simp[Gs]
 |k+1,hk,h=>by
  obtain⟨p,o⟩: ∃p,l[k]?=some p:=⟨_,List.getElem?_eq_getElem (by omega)⟩;rw[cu o,Bool.and_eq_true]at h;obtain⟨c,n⟩:=D6 k (by omega) h.1;rw[qC o];have e:=h.2;unfold eK at e;rw[Bool.and_eq_true,Bool.or_eq_true]at e
  have i:p.holds=true->(∀g∈opens l k,eF k p<=g)/\eF k p<=(l.length:Int):=by
   intro q
   have b:eF k p<=mg l.length (opens l k):=by
    rcases e.2 with b|b
    ·rw[q]at b;simp at b
    ·exact of_decide_eq_true b
   unfold mg at b
   cases hl:(opens l k).getLast? with
   |none=>rw[List.getLast?_eq_none_iff]at hl;rw[hl]at b⊢;simp at b⊢;exact b
   |some z=>
    rw[hl]at b;simp at b;obtain⟨u,j⟩:=List.getLast?_eq_some_iff.1 hl;have v:=n z (by rw[j];simp);refine⟨fun g d=>?_,by omega⟩;rw[j]at d c;rw[List.pairwise_append]at c;rcases List.mem_append.1 d with a|a
    ·have:=c.2.2 g a z (by simp);omega
    ·simp at a;omega
  constructor
  ·split
   ·rename_i f;rw[List.pairwise_append];refine⟨Ai c,by simp,?_⟩;intro s r t m;simp at m;subst m;exact(i f.1).1 s (List.mem_filter.1 r).1
   ·rw[List.append_nil];exact Ai c
  ·intro g d;rcases List.mem_append.1 d with a|a
   ·rw[List.mem_filter]at a;have:=n g a.1;have w:=of_decide_eq_true a.2
    push_cast
    omega
   ·split at a
    ·rename_i f;simp at a;subst a;have:=(i f.1).2
     push_cast
     omega
    ·simp at a
theorem D7{l:List aX}{k:Nat}{o:aX}(h:l[k]?=some o)(a:o.holds=false):(opens l k).filter (fun e=>decide (((k+1:Nat):Int)<e))=opens l (k+1):=by rw[qC h,if_neg (by rw[a];simp),List.append_nil];rfl
theorem Aj{l:List aX}{k:Nat}{o:aX}(h:l[k]?=some o)(b:o.holds=true):(opens l k++[eF k o]).filter (fun e=>decide (((k+1:Nat):Int)<e))=opens l (k+1):=by
 rw[qC h,List.filter_append];congr 1;simp only[List.filter_cons,List.filter_nil]
 push_cast
 by_cases a:(k:Int)+1<eF k o
 ·simp[b,a]
 ·simp[b,a]
theorem KY{a:List Int}{k:Int}(h:(a).Pairwise (fun c b=>c≥b))(f: ∀e,a.getLast?=some e->k<e):a.filter (fun e=>decide (k<e))=a:=by
 rw[List.filter_eq_self];intro x b
 cases hg:a.getLast? with
 |none=>rw[List.getLast?_eq_none_iff]at hg;rw[hg]at b;simp at b
 |some z=>
  obtain⟨g,d⟩:=List.getLast?_eq_some_iff.1 hg;have e:=f z hg;rw[d]at h b;rw[List.pairwise_append]at h;rcases List.mem_append.1 b with c|c
  ·have:=h.2.2 x c z (by simp);simp;omega
  ·simp at c;subst c;simpa using e
theorem wM{a:List Int}{x:Int}(h:a.Pairwise (fun c f=>c≥f))(d: ∀e∈a,x<=e):(a++[x]).Pairwise (fun c f=>c≥f):=by rw[List.pairwise_append];refine⟨h,by simp,?_⟩;intro c e f b;simp at b;subst b;exact d c e
theorem Gt{b:List Int}{x y:Int}(h:(b++[y]).Pairwise (fun c a=>c≥a))(d:x<=y): ∀e∈b++[y],x<=e:=by
 rw[List.pairwise_append]at h;intro e c;rcases List.mem_append.1 c with a|a
 ·have:=h.2.2 e a y (by simp);omega
 ·simp at a;omega
def nib:List Nat:=[0x00000000,0x1db71064,0x3b6e20c8,0x26d930ac,0x76dc4190,0x6b6b51f4,0x4db26158,0x5005713c,0xedb88320,0xf00f9344,0xd6d6a3e8,0xcb61b38c,0x9b64c2b0,0x86d3d2d4,0xa00ae278,0xbdbdf21c]
def wN(i:Nat):Nat:=nib.getD i 0
def ZM(r:Nat):Nat:=r/16^^^wN (r%16)
def V6(r:Nat)(x:UInt8):Nat:=ZM (ZM (r^^^x.toNat))
def BZ(r:Nat)(xs:List UInt8):Nat:=xs.foldl V6 r
def YM(xs:List UInt8):Nat:=4294967295-BZ 4294967295 xs
def four(s:Nat):List UInt8:=[UInt8.ofNat (s%256),UInt8.ofNat (s/256%256),UInt8.ofNat (s/65536%256),UInt8.ofNat (s/16777216%256)]
def gw(xs:List UInt8):List UInt8:=xs++four (YM xs)
theorem NL: ∀i,i<16->wN i<4294967296:=by decide
theorem B0{a b:Nat}(c:a<4294967296)(d:b<4294967296):a^^^b<4294967296:=Nat.xor_lt_two_pow (n:=32) c d
theorem Gu{r:Nat}(h:r<4294967296):ZM r<4294967296:=B0 (by omega) (NL _ (by omega))
theorem R9{r:Nat}(h:r<4294967296)(x:UInt8):V6 r x<4294967296:=Gu (Gu (B0 h (by have:=x.toNat_lt;omega)))
theorem Ca: ∀{r:Nat} (xs:List UInt8),r<4294967296->BZ r xs<4294967296
 |_,[],h=>h
 |_,x::xs,h=>Ca xs (R9 h x)
theorem NM(xs:List UInt8):YM xs<4294967296:=by unfold YM;omega
theorem NN(s:Nat):(four s).length=4:=rfl
theorem rA(xs:List UInt8):(gw xs).length=xs.length+4:=by simp[gw,NN]
end Go.Proofs.YtehccbdajiiaaaaGreatDoor
