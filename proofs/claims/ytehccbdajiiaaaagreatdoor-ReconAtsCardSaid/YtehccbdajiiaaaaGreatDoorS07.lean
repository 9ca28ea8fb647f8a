import Derived.Test.YtehccbdajiiaaaaGreatDoorS01
import Derived.WalkKit
namespace Go.Proofs.YtehccbdajiiaaaaGreatDoor
set_option maxRecDepth 100000
def mP:Nat->Nat->List UInt8
 |0,n=>[UInt8.ofNat n]
 |f+1,n=>if n<128 then[UInt8.ofNat n]else UInt8.ofNat (n%128+128)::mP f (n/128)
def oV(n:Nat):List UInt8:=mP 9 n
theorem Xm{m:Nat}(h:m<128):oV m=[UInt8.ofNat m]:=by simp[oV,mP,h]
theorem LV(f:Nat): ∀n,n<128^(f+1)->mP (f+1) n=mP f n:=by
 induction f with
 |zero=>intro n h;simp[mP]at h⊢;omega
 |succ f a=>
  intro n h;rw[mP]
  conv=>rhs;rw[mP]
  split
  ·rfl
  ·rw[a (n/128) (by rw[Nat.div_lt_iff_lt_mul (by decide)];rw[Nat.pow_succ]at h;exact h)]
theorem Xn{m:Nat}(h:128<=m)(a:m<18446744073709551616):oV m=UInt8.ofNat (m%128+128)::oV (m/128):=by unfold oV;rw[mP,if_neg (by omega),<-LV 8 (m/128) (by rw[Nat.div_lt_iff_lt_mul (by decide)];simp;omega)]
theorem jc(m:Nat):(oV m).length<=10:=by
 have: ∀f n,(mP f n).length<=f+1:=by
  intro f
  induction f with
  |zero=>intro n;simp[mP]
  |succ f a=>intro n;rw[mP];split<;>simp;exact a _
 exact this 9 m
theorem Tj(m:Nat):1<=(oV m).length:=by unfold oV;rw[mP];split<;>simp
def uy:Nat->Nat->List UInt8->Option (Nat×List UInt8)
 |_,_,[]=>none
 |k,acc,b::rest=>if k=9/\1<b.toNat then none else if 128<=b.toNat then uy (k+1) (acc+(b.toNat-128)*128^k) rest
  else if b.toNat=0/\0<k then none else some (acc+b.toNat*128^k,rest)
theorem Tk(j:Nat): ∀(k c m:Nat) (a:List UInt8),k+j=9->m<2^(64-7*k)->(k=0\/0<m)->uy k c (mP j m++a)=some (c+m*128^k,a):=by
 induction j with
 |zero=>
  intro k c m a g d i;have e:k=9:=by omega
  subst e;simp at d;have b:(UInt8.ofNat m).toNat=m:=by simp;omega
  simp only[mP,List.singleton_append,uy,b];rw[if_neg (by omega),if_neg (by omega),if_neg (by omega)]
 |succ j f=>
  intro k c m a g d i;rw[mP];split
  ·rename_i l;have b:(UInt8.ofNat m).toNat=m:=by simp;omega
   simp only[List.singleton_append,uy,b];rw[if_neg (by omega),if_neg (by omega),if_neg (by omega)]
  ·rename_i l;have b:(UInt8.ofNat (m%128+128)).toNat=m%128+128:=by simp;omega
   simp only[List.cons_append,uy,b];rw[if_neg (by omega),if_pos (by omega),f (k+1) _ (m/128) a (by omega) ?_ (.inr (by omega))]
   ·congr 2;have:m=m%128+128*(m/128):=by omega
    rw[Nat.add_sub_cancel,Nat.pow_succ,Nat.add_assoc];congr 1
    conv=>rhs;rw[this]
    rw[Nat.add_mul,Nat.mul_comm (128^k) 128,<-Nat.mul_assoc,Nat.mul_comm 128 (m/128)]
   ·rw[Nat.div_lt_iff_lt_mul (by decide)];have h:64-7*k=64-7*(k+1)+7:=by omega
    rw[h,Nat.pow_add]at d;exact d
theorem CD: ∀(c:List UInt8) (k d n:Nat) (b:List UInt8),k<=9->uy k d c=some (n,b)->
  ∃u,n=d+u*128^k/\c=mP (9-k) u++b/\u<2^(64-7*k)/\(k=0\/0<u):=by
 intro c
 induction c with
 |nil=>intro k d n b j h;simp[uy]at h
 |cons e c p=>
  intro k d n b j h;rw[uy]at h;split at h
  ·cases h
  ·rename_i A;have w:=e.toNat_lt;split at h
   ·rename_i l;have f:k≠9:=by omega
    obtain⟨a,q,g,y,v⟩:=p (k+1) _ n b (by omega) h;have x:0<a:=by omega
    refine⟨(e.toNat-128)+128*a,?_,?_,?_,.inr (by omega)⟩
    ·rw[q,Nat.pow_succ,Nat.add_mul,Nat.add_assoc,Nat.mul_comm (128^k) 128,<-Nat.mul_assoc,Nat.mul_comm a 128]
    ·have r:9-k=(9-(k+1))+1:=by omega
     rw[r,mP,if_neg (by omega),g];have o:(e.toNat-128+128*a)/128=a:=by omega
     have s:(e.toNat-128+128*a)%128+128=e.toNat:=by omega
     rw[o,s];simp
    ·have m:64-7*k=64-7*(k+1)+7:=by omega
     rw[m,Nat.pow_add];have:(2:Nat)^7=128:=rfl;omega
   ·rename_i l;split at h
    ·cases h
    ·rename_i z;injection h with h;injection h with i t;subst t;refine⟨e.toNat,i.symm,?_,?_,by omega⟩
     ·have B:UInt8.ofNat e.toNat=e:=by simp
      cases hf:9-k with
      |zero=>simp[mP]
      |succ C=>rw[mP,if_pos (by omega)];simp
     ·by_cases f:k=9
      ·subst f;simp;omega
      ·have:(2:Nat)^7<=2^(64-7*k):=Nat.pow_le_pow_right (by decide) (by omega);omega
def CE(a:List UInt8):Option (Nat×List UInt8):=match uy 0 0 a with
 |some (n,r)=>if n<=9223372036854775807 then some (n,r)else none
 |none=>none
theorem vL{a b:List UInt8}{n:Nat}(h:CE a=some (n,b)):a=oV n++b/\n<=9223372036854775807:=by
 unfold CE at h
 cases hg:uy 0 0 a with
 |none=>rw[hg]at h;cases h
 |some x=>
  rw[hg]at h;obtain⟨m,r⟩:=x;dsimp only at h;split at h
  ·rename_i g;injection h with h;injection h with f e;subst f e;obtain⟨i,c,d,_,_⟩:=CD a 0 0 m r (by decide) hg;simp at c;subst c;exact⟨d,g⟩
  ·cases h
def VI(p:List UInt8):List UInt8:=oV p.length++p
def Hk(most:Nat)(a:List UInt8):Option (List UInt8×List UInt8):=match CE a with
 |some (n,r)=>if n<=most/\n<=r.length then some (r.take n,r.drop n)else none
 |none=>none
theorem Tm{most:Nat}{a t b:List UInt8}(h:Hk most a=some (t,b)):a=VI t++b/\t.length<=most:=by
 unfold Hk at h
 cases hg:CE a with
 |none=>rw[hg]at h;cases h
 |some x=>
  rw[hg]at h;obtain⟨m,r⟩:=x;dsimp only at h;split at h
  ·rename_i f;injection h with h;injection h with e d;subst e d;have c:(r.take m).length=m:=by simp;omega
   obtain⟨g,_⟩:=vL hg;refine⟨?_,by omega⟩;unfold VI;rw[c,List.append_assoc,List.take_append_drop];exact g
  ·cases h
section
variable{α:Type}
theorem Bc{l:List (List UInt8×α)}(h:dR l):l.Nodup:=List.Pairwise.imp (R:=fun a b:List UInt8×α=>a.1<b.1) (fun{a b} h e=>by rw[e]at h;exact aN _ h) h
theorem Hm{a b:List (List UInt8×α)}(c:dR a)(d:dR b)(h: ∀k,aA k a=aA k b):a=b:=by refine mO c d ((List.perm_ext_iff_of_nodup (Bc c) (Bc d)).2 fun q=>?_);obtain⟨k,r⟩:=q;rw[<-aD c,<-aD d,h k]
theorem Hn{q:List UInt8×α}{l:List (List UInt8×α)}(h:dR (q::l))(k:List UInt8):aA k (q::l)=if k=q.1 then some q.2 else aA k l:=by
 split
 ·rename_i e;subst e;exact(aD h).2 (by simp)
 ·rename_i e;have b:=(List.pairwise_cons.1 h).2
  cases hk:aA k l with
  |none=>
   rw[aU h];intro p a c;rcases List.mem_cons.1 a with rfl|a
   ·exact e c.symm
   ·exact(aU b).1 hk p a c
  |some r=>exact(aD h).2 (by simp[(aD b).1 hk])
theorem gW{l:List (List UInt8×α)}(h:dR l):(l.map Prod.fst).Nodup:=by unfold List.Nodup;rw[List.pairwise_map];exact List.Pairwise.imp (R:=fun a b:List UInt8×α=>a.1<b.1) (fun{a b} h e=>by rw[e]at h;exact aN _ h) h
theorem xp{l:List (List UInt8×α)}(h:dR l)(k:List UInt8):(aA k l).isSome=true↔k∈l.map Prod.fst:=by
 rw[List.mem_map]
 cases hk:aA k l with
 |none=>simp only[Option.isSome_none,Bool.false_eq_true,false_iff];rintro⟨q,a,rfl⟩;exact(aU h).1 hk q a rfl
 |some r=>exact⟨fun _=>⟨_,(aD h).1 hk,rfl⟩,fun _=>rfl⟩
end
def lh(l:az)(q:List UInt8×Option Rw):az:=match q.2 with
 |some r=>cO (q.1,r) l
 |none=>eZ q.1 l
def aW(wl:List (List UInt8×Option Rw))(l:az):az:=wl.foldl lh l
theorem rP{l:az}(h:dR l)(q:List UInt8×Option Rw):dR (lh l q):=by
 unfold lh;split
 ·exact fk h
 ·exact gi h
theorem xq{l:az}(h:dR l)(q:List UInt8×Option Rw)(k:List UInt8):aA k (lh l q)=if k=q.1 then q.2 else aA k l:=by
 unfold lh;split
 ·rename_i e;rw[mN h,e]
 ·rename_i e;rw[wV h,e]
theorem cE: ∀{wl:List (List UInt8×Option Rw)} {l:az},dR l->dR (aW wl l)
 |[],_,h=>h
 |q::wl,_,h=>cE (wl:=wl) (rP h q)
theorem dJ: ∀{a:List (List UInt8×Option Rw)} {l:az},dR a->dR l-> ∀k,aA k (aW a l)=(aA k a).getD (aA k l)
 |[],_,_,_,_=>rfl
 |q::a,l,hw,h,k=>by
  have b:=(List.pairwise_cons.1 hw);have c:=dJ b.2 (rP h q) k;show aA k (aW a (lh l q))=_;rw[c,Hn hw,xq h];by_cases e:k=q.1
  ·rw[if_pos e,if_pos e,(aU b.2).2 (fun p a c=>by have:=b.1 p a;rw[c,e]at this;exact aN _ this)];rfl
  ·rw[if_neg e,if_neg e]
theorem LW{wl:List (List UInt8×Option Rw)}{l:az}(a:dR wl)(h:dR l)(k:List UInt8)(r:Rw):aW (cO (k,some r) wl) l=cO (k,r) (aW wl l):=by refine Hm (cE h) (fk (cE h)) fun x=>?_;rw[dJ (fk a) h,mN a,mN (cE h),dJ a h];simp only;split<;>rfl
theorem LX{wl:List (List UInt8×Option Rw)}{l:az}(a:dR wl)(h:dR l)(k:List UInt8):aW (cO (k,none) wl) l=eZ k (aW wl l):=by refine Hm (cE h) (gi (cE h)) fun x=>?_;rw[dJ (fk a) h,mN a,wV (cE h),dJ a h];simp only;split<;>rfl
theorem LY{wl:List (List UInt8×Option Rw)}{l:az}{q:List UInt8×Rw}(b:dR wl)(h:dR l)(c:q∈aW wl l):(q.1,some q.2)∈wl\/q∈l:=by
 have a:=(aD (cE h)).2 c;rw[dJ b h]at a
 cases hk:aA q.1 wl with
 |none=>rw[hk]at a;exact .inr ((aD h).1 a)
 |some x=>rw[hk]at a;simp at a;subst a;exact .inl ((aD b).1 hk)
theorem LZ{wl:List (List UInt8×Option Rw)}{l:az}(b:dR wl)(h:dR l)(c:RowsFit l)(a: ∀q∈wl,∀r,q.2=some r-> ∀e,I6 (r.aO e)):RowsFit (aW wl l):=fun q d e=>(LY b h d).elim (fun h=>a _ h _ rfl e) (fun h=>c q h e)
def dQ(l:az)(q:List UInt8×Option Rw):Int:=if(aA q.1 l).isSome then(if q.2.isSome then 0 else -1)else(if q.2.isSome then 1 else 0)
def zJ(l:az):List (List UInt8×Option Rw)->Int
 |[]=>0
 |q::wl=>dQ l q+zJ l wl
theorem Bd{l:az}(h:dR l)(q:List UInt8×Option Rw):((lh l q).length:Int)=l.length+dQ l q:=by
 obtain⟨k,x⟩:=q;unfold lh dQ
 cases x with
 |some r=>simp only[Option.isSome_some,if_true];rw[lg h];split<;>simp
 |none=>
  simp only[Option.isSome_none]
  cases hk:aA k l with
  |none=>rw[ic hk];simp
  |some r=>have:=rL hk;simp;omega
theorem Be{l:az}(h:dR l)(q:List UInt8×Option Rw): ∀(a:List (List UInt8×Option Rw)),(∀p∈a,p.1≠q.1)->zJ (lh l q) a=zJ l a
 |[],_=>rfl
 |p::a,hn=>by rw[zJ,zJ,Be h q a (fun x a=>hn x (by simp[a]))];unfold dQ;rw[xq h,if_neg (hn p (by simp))]
theorem Bf: ∀{a:List (List UInt8×Option Rw)} {l:az},dR a->dR l->((aW a l).length:Int)=l.length+zJ l a
 |[],_,_,_=>by simp[aW,zJ]
 |q::a,l,hw,h=>by have b:=(List.pairwise_cons.1 hw);have c:=Bf b.2 (rP h q);show((aW a (lh l q)).length:Int)=_;rw[c,Bd h,Be h q a (fun p a e=>by have:=b.1 p a;rw[e]at this;exact aN _ this),zJ];omega
def lj(wl:List (List UInt8×Option Rw))(l:az):List (List UInt8)->Int
 |[]=>0
 |k::ks=>(match aA k wl with
  |some x=>dQ l (k,x)
  |none=>0)+lj wl l ks
theorem xt(wl:List (List UInt8×Option Rw))(l:az)(k:List UInt8)(b:List (List UInt8)): ∀a,lj wl l (a++k::b)=lj wl l [k]+lj wl l (a++b)
 |[]=>by simp[lj]
 |x::a=>by have c:=xt wl l k b a;simp only[List.cons_append,lj]at c⊢;omega
theorem EE{wl:List (List UInt8×Option Rw)}{l:az}(b:dR wl): ∀a:List (List UInt8×Option Rw),(∀q∈a,q∈wl)->lj wl l (a.map Prod.fst)=zJ l a
 |[],_=>rfl
 |q::a,h=>by rw[List.map_cons,lj,zJ,EE b a (fun x a=>h x (by simp[a])),(aD b).2 (h q (by simp))]
theorem xu{wl:List (List UInt8×Option Rw)}{l:az}(a:dR wl)(h:dR l):((aW wl l).length:Int)=l.length+lj wl l (wl.map Prod.fst):=by rw[Bf a h,EE a wl (fun _ h=>h)]
def aF(wl:List (List UInt8×Option Rw))(l:az)(c:Nat)(k:List UInt8):Option (Int×List UInt8):=if(aA k wl).isSome then none else(aA k l).map fun r=>(r.aO c,k)
def bF(wl:List (List UInt8×Option Rw))(c:Nat)(lo hi:Int)(k:List UInt8):Option (Int×List UInt8):=match aA k wl with
 |some (some r)=>if lo<=r.aO c/\r.aO c<=hi then some (r.aO c,k)else none
 |_=>none
def zK(a b:Int×List UInt8):Prop:=a.1<b.1\/a.1=b.1/\a.2<b.2
theorem OO{c:Nat}{lo hi:Int}{l:az}{ps:List (Int×List UInt8)}(h:dR l)(d:RowsFit l)(g:ps.Pairwise zK)(b:ps.Perm ((l.filter (Eo c lo hi)).map fun q=>(q.2.aO c,q.1))):ps.map Prod.snd=cU c lo hi l:=by
 have a: ∀p∈ps,I6 p.1:=fun p e=>by obtain⟨q,f,rfl⟩:=List.mem_map.1 (b.mem_iff.1 e);exact d q (List.mem_filter.1 f).1 c
 have f:(ps.map fun p=>((dM p.1 p.2,[]):Pr))=tu c (l.filter (Eo c lo hi)):=by
  refine Cw (h.filter _) (d.filter _) ?_ ?_
  ·unfold Up;rw[List.pairwise_map];refine List.Pairwise.imp_of_mem (fun{j i} e h d=>?_) g;exact(SM (a j e) (a i h)).2 d
  ·have:=b.map fun p=>((dM p.1 p.2,[]):Pr);rw[List.map_map]at this;exact this
 unfold cU;rw[<-f,List.map_map];exact List.map_congr_left fun p _=>(oU p.1 p.2).symm
theorem tD{α β:Type}{f:α->Option β}{g:β->α}(a: ∀e d,f e=some d->g d=e): ∀{l:List α},l.Nodup->(l.filterMap f).Nodup
 |[],_=>by simp
 |e::l,h=>by
  have c:=List.nodup_cons.1 h;have b:=tD a c.2
  cases hf:f e with
  |none=>rw[List.filterMap_cons_none hf];exact b
  |some d=>rw[List.filterMap_cons_some hf,List.nodup_cons];refine⟨fun f=>?_,b⟩;obtain⟨x,b,i⟩:=List.mem_filterMap.1 f;have f:=a e d hf;have e:=a x d i;exact c.1 (by rw[<-f,e];exact b)
theorem Ho{wl:List (List UInt8×Option Rw)}{l:az}{c:Nat}{k:List UInt8}{p:Int×List UInt8}(h:aF wl l c k=some p):p.2=k:=by
 unfold aF at h;split at h
 ·cases h
 ·obtain⟨r,_,rfl⟩:=Option.map_eq_some_iff.1 h;rfl
theorem Hp{wl:List (List UInt8×Option Rw)}{c:Nat}{lo hi:Int}{k:List UInt8}{p:Int×List UInt8}(h:bF wl c lo hi k=some p):p.2=k:=by
 unfold bF at h;split at h
 ·split at h
  ·injection h with h;rw[<-h]
  ·cases h
 ·cases h
theorem EF{wl:List (List UInt8×Option Rw)}{l:az}{c:Nat}{lo hi:Int}{ks:List (List UInt8)}(m:dR wl)(i:dR l)(o:RowsFit l)(t:ks.Perm (wl.map Prod.fst)):
  ((cU c lo hi l).filterMap (aF wl l c)++ks.filterMap (bF wl c lo hi)).Perm (((aW wl l).filter (Eo c lo hi)).map fun E=>(E.2.aO c,E.1)):=by
 have y:(cU c lo hi l).Nodup:=by
  unfold cU;have q:=(fx c (i.filter (Eo c lo hi)) (o.filter _)).map fun x:Pr=>x.1.drop 8;rw[List.map_map]at q;refine q.nodup_iff.2 ?_;have p:((fun x:Pr=>x.1.drop 8)∘nC c)=Prod.fst:=by funext E;exact oU _ _
  rw[p];exact gW (i.filter _)
 refine(List.perm_ext_iff_of_nodup ?_ ?_).2 fun x=>?_
 ·rw[List.nodup_append];refine⟨tD (g:=Prod.snd) (fun v w=>Ho) y,tD (g:=Prod.snd) (fun v w=>Hp) (t.nodup_iff.2 (gW m)),fun v A w D p=>?_⟩;obtain⟨F,_,a⟩:=List.mem_filterMap.1 A;obtain⟨H,_,g⟩:=List.mem_filterMap.1 D;have b:=Ho a;have j:=Hp g;subst p;rw[<-b]at a;rw[<-j]at g;unfold aF at a;unfold bF at g
  cases e:aA v.2 wl with
  |none=>rw[e]at g;cases g
  |some G=>rw[e]at a;simp at a
 ·unfold List.Nodup;rw[List.pairwise_map];exact List.Pairwise.imp (R:=fun v w:List UInt8×Rw=>v.1<w.1) (fun{v w} i p=>by injection p with _ p;rw[p]at i;exact aN _ i) ((cE i).filter _)
 ·obtain⟨I,u⟩:=x;have n: ∀r,aA u (aW wl l)=some r↔(u,r)∈aW wl l:=fun r=>aD (cE i);have k:=dJ m i u;rw[List.mem_append,List.mem_filterMap,List.mem_filterMap,List.mem_map];constructor
  ·rintro(⟨F,s,a⟩|⟨F,s,a⟩)
   ·have b:=Ho a;simp only at b;subst b;obtain⟨r,d,C,z⟩:=(kI i o).1 s;unfold aF at a
    cases e:aA u wl with
    |some G=>rw[e]at a;simp at a
    |none=>rw[e,(aD i).2 d]at a;simp at a;refine⟨(u,r),List.mem_filter.2 ⟨(n r).1 (by rw[k,e,(aD i).2 d];rfl),by simp[Eo,C,z]⟩,by rw[<-a]⟩
   ·have b:=Hp a;simp only at b;subst b;unfold bF at a;split at a
    ·rename_i r e;split at a
     ·rename_i d;injection a with a;injection a with a;exact⟨(u,r),List.mem_filter.2 ⟨(n r).1 (by rw[k,e];rfl),by simp[Eo,d.1,d.2]⟩,by rw[<-a]⟩
     ·cases a
    ·cases a
  ·rintro⟨⟨h,r⟩,e,p⟩;injection p with b j;simp only at b j;subst j;obtain⟨B,d⟩:=List.mem_filter.1 e;have f:=(n r).2 B;unfold Eo at d;simp only[Bool.and_eq_true,decide_eq_true_eq]at d;rw[k]at f
   cases hz:aA h wl with
   |none=>rw[hz]at f;left;refine⟨h,(kI i o).2 ⟨r,(aD i).1 f,d⟩,?_⟩;unfold aF;rw[hz,show aA h l=some r from f];simp[b]
   |some F=>rw[hz]at f;simp at f;subst f;right;refine⟨h,t.mem_iff.2 ((xp m h).1 (by rw[hz];rfl)),?_⟩;unfold bF;rw[hz];rw[b]at d;simp[d.1,d.2,b]
theorem rQ{α:Type}{l:List (List UInt8×α)}(h:dR l)(p:List UInt8×α->Bool)(k:List UInt8):aA k (l.filter p)=(aA k l).bind fun x=>if p (k,x)=true then some x else none:=by
 cases a:aA k l with
 |none=>show _=none;rw[aU (h.filter p)];intro q c g;exact(aU h).1 a q (List.mem_filter.1 c).1 g
 |some x=>
  have f:=(aD h).1 a;simp only[Option.bind_some];split
  ·rename_i b;exact(aD (h.filter p)).2 (List.mem_filter.2 ⟨f,b⟩)
  ·rename_i b;rw[aU (h.filter p)];intro q c g;obtain⟨e,d⟩:=List.mem_filter.1 c;obtain⟨i,y⟩:=q;simp only at g;subst g;rw[(aD h).2 e]at a;injection a with a;rw[a]at d;exact b d
def jd(b:Bool)(wl:List (List UInt8×Option Rw)):List (List UInt8×Option Rw):=wl.filter fun q=>q.2.isSome==b
theorem Kh{b:Bool}{wl:List (List UInt8×Option Rw)}(h:dR wl):dR (jd b wl):=h.filter _
theorem EG{wl:List (List UInt8×Option Rw)}{l:az}(a:dR wl)(h:dR l):aW (jd true wl) (aW (jd false wl) l)=aW wl l:=by
 refine Hm (cE (cE h)) (cE h) fun k=>?_;rw[dJ (Kh a) (cE h),dJ (Kh a) h,dJ a h];unfold jd;rw[rQ a,rQ a]
 cases aA k wl with
 |none=>rfl
 |some x=>cases x<;>rfl
theorem xx(wl:List (List UInt8×Option Rw))(q:List UInt8×Option Rw)(l:az):aW (wl++[q]) l=lh (aW wl l) q:=by unfold aW;rw[List.foldl_append];rfl
theorem tF{wl:List (List UInt8×Option Rw)}{n:Nat}{q:List UInt8×Option Rw}(a:wl[n]?=some q)(b:Bool):jd b (wl.take (n+1))=if q.2.isSome=b then jd b (wl.take n)++[q]else jd b (wl.take n):=by
 rw[List.take_add_one,a];unfold jd;rw[List.filter_append];by_cases e:q.2.isSome=b
 ·rw[if_pos e];simp[e]
 ·rw[if_neg e];have:(q.2.isSome==b)=false:=by simpa using e
  simp only[Option.toList_some,List.filter_cons,this,Bool.false_eq_true,if_false,List.filter_nil,List.append_nil]
theorem zL{l:az}(h:dR l){q:List UInt8×Option Rw}(a:q.2.isSome=true):l.length<=(lh l q).length:=by have:=Bd h q;unfold dQ at this;rw[a]at this;split at this<;>simp at this<;>omega
theorem xy: ∀{a:List (List UInt8×Option Rw)} {l:az},dR l->(∀q∈a,q.2.isSome=true)->l.length<=(aW a l).length
 |[],_,_,_=>Nat.le_refl _
 |q::_,_,h,hq=>Nat.le_trans (zL h (hq q (by simp))) (xy (rP h q) (fun x a=>hq x (by simp[a])))
theorem L3{wl:List (List UInt8×Option Rw)}: ∀q∈jd true wl,q.2.isSome=true:=fun q a=>by
 have:=(List.mem_filter.1 a).2;simpa using this
theorem Tp{wl:List (List UInt8×Option Rw)}{l:az}(h:dR l)(n:Nat):(aW (jd true (wl.take n)) l).length<=(aW (jd true wl) l).length:=by
 have e:jd true wl=jd true (wl.take n)++jd true (wl.drop n):=by unfold jd;rw[<-List.filter_append,List.take_append_drop]
 rw[e];unfold aW;rw[List.foldl_append];exact xy (cE (wl:=jd true (wl.take n)) h) (fun q hq=>L3 q hq)
structure aX where
 d:Int
 a:Int
 b:Int
 c:Int
 n:Int
 deriving DecidableEq
namespace aX
def holds(o:aX):Bool:=o.d==13||o.d==14
def uz(o:aX)(i:Nat):Int:=if i=0 then o.a else if i=1 then o.b else if i=2 then o.c else o.n
end aX
def oW(d:Int)(i:Nat):Bool:=
 if d=1 then i==0||i==2 else if d=8\/d=11 then decide (i<3)else if d=10 then i==1 else if d=12 then true
 else if d=13 then i==0||i==3 else if d=14 then decide (2<=i)else if d=15 then i==0 else decide (i<2)
def EH(d:Int)(i:Nat):Int:=if i=2/\d=1 then -1099511627776 else 0
def CF(d:Int)(i:Nat):Int:=
 if i=0 then(if d=9 then 4 else 7)else if i=1 then 7 else if i=2 then(if d=1 then 1099511627776 else if d=14 then 16 else 3)else(if d=12 then 1099511627776 else 64)
def fo(o:aX):Bool:=decide (1<=o.d/\o.d<=15)&&(List.range 4).all (fun i=>oW o.d i||o.uz i==0)
def fp(o:aX):Bool:=(List.range 4).all (fun i=>!oW o.d i||(decide (EH o.d i<=o.uz i)&&decide (o.uz i<=CF o.d i)))
def eN(k:Nat)(o:aX):Int:=(k:Int)+1+o.n
def opens(l:List aX)(i:Nat):List Int:=((l.take i).zipIdx.filter (fun x=>x.1.holds&&decide ((i:Int)<eN x.2 x.1))).map (fun x=>eN x.2 x.1)
def mB(a:Nat)(b:List Int):Int:=b.getLast?.getD (a:Int)
def eU(l:List aX)(i:Nat)(o:aX):Bool:=decide ((opens l i).length<=8)&&(!o.holds||decide (eN i o<=mB l.length (opens l i)))
def iw(l:List aX)(k:Nat):Bool:=(List.range k).all (fun i=>match l[i]? with|some o=>eU l i o|none=>true)
def jr(l:List aX):Bool:=iw l l.length
def opsE(l:List aX):Int:=
 if 64<l.length then 23 else if l.all fo=false then 11 else if l.all fp=false then 10 else if jr l=false then 11 else 0
theorem cz{l:List aX}{k:Nat}{o:aX}(h:l[k]?=some o):iw l (k+1)=(iw l k&&eU l k o):=by unfold iw;rw[List.range_succ,List.all_append];simp[h]
theorem gD{l:List aX}{k m:Nat}(h:iw l m=true)(a:k<=m):iw l k=true:=by unfold iw at h⊢;rw[List.all_eq_true]at h⊢;intro i a;exact h i (List.mem_range.2 (by have:=List.mem_range.1 a;omega))
theorem Hq(l:List aX):opens l 0=[]:=by simp[opens]
theorem qR{l:List aX}{k:Nat}{o:aX}(h:l[k]?=some o):
  opens l (k+1)=(opens l k).filter (fun g=>decide ((k:Int)+1<g))++(if o.holds=true/\((k:Int)+1<eN k o)then[eN k o]else[]):=by
 unfold opens;have e:=(List.getElem?_eq_some_iff.1 h).1;have b:l.take (k+1)=l.take k++[o]:=by rw[List.take_add_one,h];rfl
 have d:(l.take k).length=k:=by simp;omega
 rw[b,List.zipIdx_append,List.filter_append,List.map_append,d];congr 1
 ·rw[List.filter_map,List.filter_filter];congr 1;apply List.filter_congr;intro x _;simp only[Function.comp];rw[Bool.eq_iff_iff];simp only[Bool.and_eq_true,decide_eq_true_eq];constructor
  ·rintro⟨b,a⟩;refine⟨by push_cast at a;exact a,b,by push_cast at a;omega⟩
  ·rintro⟨b,a,f⟩;exact⟨a,by push_cast;exact b⟩
 ·simp only[List.zipIdx_cons,List.zipIdx_nil,List.filter_cons,List.filter_nil,Nat.zero_add]
  push_cast
  by_cases c:o.holds=true/\((k:Int)+1<eN k o)
  ·simp[c.1,c.2]
  ·rw[if_neg c];split
   ·rename_i a;simp at a;exact absurd a c
   ·rfl
theorem Bg{a:List Int}{p:Int->Bool}(h:a.Pairwise (fun c b=>c≥b)):(a.filter p).Pairwise (fun c b=>c≥b):=h.filter _
theorem EI{l:List aX}: ∀k,k<=l.length->iw l k=true->(opens l k).Pairwise (fun s t=>s≥t)/\ ∀g∈opens l k,(k:Int)<g/\g<=(l.length:Int)
 |0,_,_=>by simp[Hq]
 |k+1,hk,h=>by
  obtain⟨p,m⟩: ∃p,l[k]?=some p:=⟨_,List.getElem?_eq_getElem (by omega)⟩;rw[cz m,Bool.and_eq_true]at h;obtain⟨c,n⟩:=EI k (by omega) h.1;rw[qR m];have e:=h.2;unfold eU at e;rw[Bool.and_eq_true,Bool.or_eq_true]at e
  have i:p.holds=true->(∀g∈opens l k,eN k p<=g)/\eN k p<=(l.length:Int):=by
   intro r
   have b:eN k p<=mB l.length (opens l k):=by
    rcases e.2 with b|b
    ·rw[r]at b;simp at b
    ·exact of_decide_eq_true b
   unfold mB at b
   cases hl:(opens l k).getLast? with
   |none=>rw[List.getLast?_eq_none_iff]at hl;rw[hl]at b⊢;simp at b⊢;exact b
   |some z=>
    rw[hl]at b;simp at b;obtain⟨v,j⟩:=List.getLast?_eq_some_iff.1 hl;have u:=n z (by rw[j];simp);refine⟨fun g d=>?_,by omega⟩;rw[j]at d c;rw[List.pairwise_append]at c;rcases List.mem_append.1 d with a|a
    ·have:=c.2.2 g a z (by simp);omega
    ·simp at a;omega
  constructor
  ·split
   ·rename_i f;rw[List.pairwise_append];refine⟨Bg c,by simp,?_⟩;intro s q t o;simp at o;subst o;exact(i f.1).1 s (List.mem_filter.1 q).1
   ·rw[List.append_nil];exact Bg c
  ·intro g d;rcases List.mem_append.1 d with a|a
   ·rw[List.mem_filter]at a;have:=n g a.1;have w:=of_decide_eq_true a.2
    push_cast
    omega
   ·split at a
    ·rename_i f;simp at a;subst a;have:=(i f.1).2
     push_cast
     omega
    ·simp at a
theorem EJ{l:List aX}{k:Nat}{o:aX}(h:l[k]?=some o)(a:o.holds=false):(opens l k).filter (fun e=>decide (((k+1:Nat):Int)<e))=opens l (k+1):=by rw[qR h,if_neg (by rw[a];simp),List.append_nil];rfl
theorem Bh{l:List aX}{k:Nat}{o:aX}(h:l[k]?=some o)(b:o.holds=true):(opens l k++[eN k o]).filter (fun e=>decide (((k+1:Nat):Int)<e))=opens l (k+1):=by
 rw[qR h,List.filter_append];congr 1;simp only[List.filter_cons,List.filter_nil]
 push_cast
 by_cases a:(k:Int)+1<eN k o
 ·simp[b,a]
 ·simp[b,a]
theorem L4{a:List Int}{k:Int}(h:(a).Pairwise (fun c b=>c≥b))(c: ∀e,a.getLast?=some e->k<e):a.filter (fun e=>decide (k<e))=a:=by
 rw[List.filter_eq_self];intro x b
 cases hg:a.getLast? with
 |none=>rw[List.getLast?_eq_none_iff]at hg;rw[hg]at b;simp at b
 |some z=>
  obtain⟨d,a⟩:=List.getLast?_eq_some_iff.1 hg;have d:=c z hg;rw[a]at h b;rw[List.pairwise_append]at h;rcases List.mem_append.1 b with a|a
  ·have:=h.2.2 x a z (by simp);simp;omega
  ·simp at a;subst a;simpa using d
theorem xA{a:List Int}{x:Int}(h:a.Pairwise (fun b e=>b≥e))(d: ∀c∈a,x<=c):(a++[x]).Pairwise (fun b e=>b≥e):=by rw[List.pairwise_append];refine⟨h,by simp,?_⟩;intro b c e a;simp at a;subst a;exact d b c
theorem Hs{a:List Int}{x y:Int}(h:(a++[y]).Pairwise (fun c b=>c≥b))(b:x<=y): ∀e∈a++[y],x<=e:=by
 rw[List.pairwise_append]at h;intro e a;rcases List.mem_append.1 a with a|a
 ·have:=h.2.2 e a y (by simp);omega
 ·simp at a;omega
def nib:List Nat:=[0x00000000,0x1db71064,0x3b6e20c8,0x26d930ac,0x76dc4190,0x6b6b51f4,0x4db26158,0x5005713c,0xedb88320,0xf00f9344,0xd6d6a3e8,0xcb61b38c,0x9b64c2b0,0x86d3d2d4,0xa00ae278,0xbdbdf21c]
def xB(i:Nat):Nat:=nib.getD i 0
def crh(r:Nat):Nat:=r/16^^^xB (r%16)
def Xo(r:Nat)(x:UInt8):Nat:=crh (crh (r^^^x.toNat))
def CG(r:Nat)(xs:List UInt8):Nat:=xs.foldl Xo r
def ZQ(xs:List UInt8):Nat:=4294967295-CG 4294967295 xs
def four(s:Nat):List UInt8:=[UInt8.ofNat (s%256),UInt8.ofNat (s/256%256),UInt8.ofNat (s/65536%256),UInt8.ofNat (s/16777216%256)]
def gF(xs:List UInt8):List UInt8:=xs++four (ZQ xs)
theorem OP: ∀i,i<16->xB i<4294967296:=by decide
theorem CH{a b:Nat}(d:a<4294967296)(c:b<4294967296):a^^^b<4294967296:=Nat.xor_lt_two_pow (n:=32) d c
theorem Ht{r:Nat}(h:r<4294967296):crh r<4294967296:=CH (by omega) (OP _ (by omega))
theorem Tq{r:Nat}(h:r<4294967296)(x:UInt8):Xo r x<4294967296:=Ht (Ht (CH h (by have:=x.toNat_lt;omega)))
theorem CI: ∀{r:Nat} (a:List UInt8),r<4294967296->CG r a<4294967296
 |_,[],h=>h
 |_,x::a,h=>CI a (Tq h x)
theorem OQ(xs:List UInt8):ZQ xs<4294967296:=by unfold ZQ;omega
theorem OS(s:Nat):(four s).length=4:=rfl
theorem oX(xs:List UInt8):(gF xs).length=xs.length+4:=by simp[gF,OS]
end Go.Proofs.YtehccbdajiiaaaaGreatDoor
