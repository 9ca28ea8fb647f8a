import Derived.Test.YtagemonojdgbdaaGreatDoorF03
import Derived.WalkKit
namespace Go.Proofs.YtagemonojdgbdaaGreatDoor
set_option maxRecDepth 100000
structure aH where
 d:Int
 a:Int
 b:Int
 c:Int
 n:Int
 deriving DecidableEq
namespace aH
def holds(o:aH):Bool:=o.d==13||o.d==14
def mP(o:aH)(i:Nat):Int:=if i=0 then o.a else if i=1 then o.b else if i=2 then o.c else o.n
end aH
def iU(d:Int)(i:Nat):Bool:=
 if d=1 then i==0||i==2 else if d=8\/d=11 then decide (i<3)else if d=10 then i==1 else if d=12 then true
 else if d=13 then i==0||i==3 else if d=14 then decide (2<=i)else if d=15 then i==0 else decide (i<2)
def AA(d:Int)(i:Nat):Int:=if i=2/\d=1 then -1099511627776 else 0
def xN(d:Int)(i:Nat):Int:=
 if i=0 then(if d=9 then 4 else 7)else if i=1 then 7 else if i=2 then(if d=1 then 1099511627776 else if d=14 then 16 else 3)else(if d=12 then 1099511627776 else 64)
def bD(o:aH):Bool:=decide (1<=o.d/\o.d<=15)&&(List.range 4).all (fun i=>iU o.d i||o.mP i==0)
def cA(o:aH):Bool:=(List.range 4).all (fun i=>!iU o.d i||(decide (AA o.d i<=o.mP i)&&decide (o.mP i<=xN o.d i)))
def cj(k:Nat)(o:aH):Int:=(k:Int)+1+o.n
def opens(l:List aH)(i:Nat):List Int:=((l.take i).zipIdx.filter (fun x=>x.1.holds&&decide ((i:Int)<cj x.2 x.1))).map (fun x=>cj x.2 x.1)
def jJ(len:Nat)(es:List Int):Int:=es.getLast?.getD (len:Int)
def dE(l:List aH)(i:Nat)(o:aH):Bool:=decide ((opens l i).length<=8)&&(!o.holds||decide (cj i o<=jJ l.length (opens l i)))
def cV(l:List aH)(k:Nat):Bool:=(List.range k).all (fun i=>match l[i]? with|some o=>dE l i o|none=>true)
def gz(l:List aH):Bool:=cV l l.length
def opsE(l:List aH):Int:=
 if 64<l.length then 23 else if l.all bD=false then 11 else if l.all cA=false then 10 else if gz l=false then 11 else 0
theorem bH{l:List aH}{k:Nat}{o:aH}(h:l[k]?=some o):cV l (k+1)=(cV l k&&dE l k o):=by unfold cV;rw[List.range_succ,List.all_append];simp[h]
theorem dO{l:List aH}{k m:Nat}(h:cV l m=true)(hk:k<=m):cV l k=true:=by unfold cV at h⊢;rw[List.all_eq_true]at h⊢;intro i hi;exact h i (List.mem_range.2 (by have:=List.mem_range.1 hi;omega))
theorem DJ(l:List aH):opens l 0=[]:=by simp[opens]
theorem pB{l:List aH}{k:Nat}{o:aH}(h:l[k]?=some o):
  opens l (k+1)=(opens l k).filter (fun e=>decide ((k:Int)+1<e))++(if o.holds=true/\((k:Int)+1<cj k o)then[cj k o]else[]):=by
 unfold opens;have hlt:=(List.getElem?_eq_some_iff.1 h).1;have h1:l.take (k+1)=l.take k++[o]:=by rw[List.take_add_one,h];rfl
 have hlk:(l.take k).length=k:=by simp;omega
 rw[h1,List.zipIdx_append,List.filter_append,List.map_append,hlk];congr 1
 ·rw[List.filter_map,List.filter_filter];congr 1;apply List.filter_congr;intro x _;simp only[Function.comp];rw[Bool.eq_iff_iff];simp only[Bool.and_eq_true,decide_eq_true_eq];constructor
  ·rintro⟨h1,h2⟩;refine⟨by push_cast at h2;exact h2,h1,by push_cast at h2;omega⟩
  ·rintro⟨h1,h2,h3⟩;exact⟨h2,by push_cast;exact h1⟩
 ·simp only[List.zipIdx_cons,List.zipIdx_nil,List.filter_cons,List.filter_nil,Nat.zero_add]
  push_cast
  by_cases hh:o.holds=true/\((k:Int)+1<cj k o)
  ·simp[hh.1,hh.2]
  ·rw[if_neg hh];split
   ·rename_i h2;simp at h2;exact absurd h2 hh
   ·rfl
theorem xO{es:List Int}{p:Int->Bool}(h:es.Pairwise (fun a b=>a≥b)):(es.filter p).Pairwise (fun a b=>a≥b):=h.filter _
theorem tX{l:List aH}: ∀k,k<=l.length->cV l k=true->(opens l k).Pairwise (fun a b=>a≥b)/\ ∀e∈opens l k,(k:Int)<e/\e<=(l.length:Int)
 |0,_,_=>by simp[DJ]
 |k+1,hk,h=>by
  obtain⟨o,ho⟩: ∃o,l[k]?=some o:=⟨_,List.getElem?_eq_getElem (by omega)⟩;rw[bH ho,Bool.and_eq_true]at h;obtain⟨h1,h2⟩:=tX k (by omega) h.1;rw[pB ho];have hp:=h.2;unfold dE at hp;rw[Bool.and_eq_true,Bool.or_eq_true]at hp
  have hend:o.holds=true->(∀e∈opens l k,cj k o<=e)/\cj k o<=(l.length:Int):=by
   intro hh
   have h3:cj k o<=jJ l.length (opens l k):=by
    rcases hp.2 with h3|h3
    ·rw[hh]at h3;simp at h3
    ·exact of_decide_eq_true h3
   unfold jJ at h3
   cases hl:(opens l k).getLast? with
   |none=>rw[List.getLast?_eq_none_iff]at hl;rw[hl]at h3⊢;simp at h3⊢;exact h3
   |some z=>
    rw[hl]at h3;simp at h3;obtain⟨ys,hys⟩:=List.getLast?_eq_some_iff.1 hl;have hz:=h2 z (by rw[hys];simp);refine⟨fun e he=>?_,by omega⟩;rw[hys]at he h1;rw[List.pairwise_append]at h1;rcases List.mem_append.1 he with h4|h4
    ·have:=h1.2.2 e h4 z (by simp);omega
    ·simp at h4;omega
  constructor
  ·split
   ·rename_i hc;rw[List.pairwise_append];refine⟨xO h1,by simp,?_⟩;intro a ha b hb;simp at hb;subst hb;exact(hend hc.1).1 a (List.mem_filter.1 ha).1
   ·rw[List.append_nil];exact xO h1
  ·intro e he;rcases List.mem_append.1 he with h4|h4
   ·rw[List.mem_filter]at h4;have:=h2 e h4.1;have h5:=of_decide_eq_true h4.2
    push_cast
    omega
   ·split at h4
    ·rename_i hc;simp at h4;subst h4;have:=(hend hc.1).2
     push_cast
     omega
    ·simp at h4
theorem Hz{l:List aH}{k:Nat}(hk:k<=l.length)(h:cV l k=true): ∀es,es=opens l k->es.foldl min (l.length:Int)=jJ l.length es:=by
 intro es hes;obtain⟨h1,h2⟩:=tX k hk h;rw[<-hes]at h1 h2
 have key: ∀(es:List Int) (m:Int),es.Pairwise (fun a b=>a≥b)->(∀e∈es,e<=m)->es.foldl min m=es.getLast?.getD m:=by
  intro es
  induction es with
  |nil=>intro m _ _;rfl
  |cons e es ih=>
   intro m hp hm;rw[List.pairwise_cons]at hp;rw[List.foldl_cons,Int.min_eq_right (hm e (by simp)),ih e hp.2 (fun x hx=>hp.1 x hx)]
   cases es with
   |nil=>rfl
   |cons y ys=>simp[List.getLast?_cons_cons];rw[List.getLast?_cons];simp
 exact key es _ h1 (fun e he=>(h2 e he).2)
theorem BL{l:List aH}{k:Nat}{o:aH}(h:l[k]?=some o)(ho:o.holds=false):(opens l k).filter (fun e=>decide (((k+1:Nat):Int)<e))=opens l (k+1):=by rw[pB h,if_neg (by rw[ho];simp),List.append_nil];rfl
theorem xP{l:List aH}{k:Nat}{o:aH}(h:l[k]?=some o)(ho:o.holds=true):(opens l k++[cj k o]).filter (fun e=>decide (((k+1:Nat):Int)<e))=opens l (k+1):=by
 rw[pB h,List.filter_append];congr 1;simp only[List.filter_cons,List.filter_nil]
 push_cast
 by_cases hh:(k:Int)+1<cj k o
 ·simp[ho,hh]
 ·simp[ho,hh]
theorem Ia{es:List Int}{k:Int}(h:(es).Pairwise (fun a b=>a≥b))(hl: ∀e,es.getLast?=some e->k<e):es.filter (fun e=>decide (k<e))=es:=by
 rw[List.filter_eq_self];intro x hx
 cases hg:es.getLast? with
 |none=>rw[List.getLast?_eq_none_iff]at hg;rw[hg]at hx;simp at hx
 |some z=>
  obtain⟨ys,hys⟩:=List.getLast?_eq_some_iff.1 hg;have hz:=hl z hg;rw[hys]at h hx;rw[List.pairwise_append]at h;rcases List.mem_append.1 hx with h4|h4
  ·have:=h.2.2 x h4 z (by simp);simp;omega
  ·simp at h4;subst h4;simpa using hz
theorem tY{es:List Int}{x:Int}(h:es.Pairwise (fun a b=>a≥b))(hx: ∀e∈es,x<=e):(es++[x]).Pairwise (fun a b=>a≥b):=by rw[List.pairwise_append];refine⟨h,by simp,?_⟩;intro a ha b hb;simp at hb;subst hb;exact hx a ha
theorem DK{es:List Int}{x y:Int}(h:(es++[y]).Pairwise (fun a b=>a≥b))(hx:x<=y): ∀e∈es++[y],x<=e:=by
 rw[List.pairwise_append]at h;intro e he;rcases List.mem_append.1 he with h4|h4
 ·have:=h.2.2 e h4 y (by simp);omega
 ·simp at h4;omega

def lC:Nat->Nat->List UInt8
 |0,n=>[UInt8.ofNat n]
 |f+1,n=>if n<128 then[UInt8.ofNat n]else UInt8.ofNat (n%128+128)::lC f (n/128)
def oL(n:Nat):List UInt8:=lC 9 n
theorem Ru{m:Nat}(h:m<128):oL m=[UInt8.ofNat m]:=by simp[oL,lC,h]
theorem Ib(f:Nat): ∀n,n<128^(f+1)->lC (f+1) n=lC f n:=by
 induction f with
 |zero=>intro n h;simp[lC]at h⊢;omega
 |succ f ih=>
  intro n h;rw[lC]
  conv=>rhs;rw[lC]
  split
  ·rfl
  ·rw[ih (n/128) (by rw[Nat.div_lt_iff_lt_mul (by decide)];rw[Nat.pow_succ]at h;exact h)]
theorem Rv{m:Nat}(h:128<=m)(h2:m<18446744073709551616):oL m=UInt8.ofNat (m%128+128)::oL (m/128):=by unfold oL;rw[lC,if_neg (by omega),<-Ib 8 (m/128) (by rw[Nat.div_lt_iff_lt_mul (by decide)];simp;omega)]
theorem ic(m:Nat):(oL m).length<=10:=by
 have: ∀f n,(lC f n).length<=f+1:=by
  intro f
  induction f with
  |zero=>intro n;simp[lC]
  |succ f ih=>intro n;rw[lC];split<;>simp;exact ih _
 exact this 9 m
theorem Oq(m:Nat):1<=(oL m).length:=by unfold oL;rw[lC];split<;>simp
def vM:Nat->Nat->List UInt8->Option (Nat×List UInt8)
 |_,_,[]=>none
 |k,acc,b::rest=>if k=9/\1<b.toNat then none else if 128<=b.toNat then vM (k+1) (acc+(b.toNat-128)*128^k) rest
  else if b.toNat=0/\0<k then none else some (acc+b.toNat*128^k,rest)
theorem Ot(f:Nat): ∀(k acc m:Nat) (rest:List UInt8),k+f=9->m<2^(64-7*k)->(k=0\/0<m)->vM k acc (lC f m++rest)=some (acc+m*128^k,rest):=by
 induction f with
 |zero=>
  intro k acc m rest hk hm hp;have F7:k=9:=by omega
  subst F7;simp at hm;have hb:(UInt8.ofNat m).toNat=m:=by simp;omega
  simp only[lC,List.singleton_append,vM,hb];rw[if_neg (by omega),if_neg (by omega),if_neg (by omega)]
 |succ f ih=>
  intro k acc m rest hk hm hp;rw[lC];split
  ·rename_i h;have hb:(UInt8.ofNat m).toNat=m:=by simp;omega
   simp only[List.singleton_append,vM,hb];rw[if_neg (by omega),if_neg (by omega),if_neg (by omega)]
  ·rename_i h;have hb:(UInt8.ofNat (m%128+128)).toNat=m%128+128:=by simp;omega
   simp only[List.cons_append,vM,hb];rw[if_neg (by omega),if_pos (by omega),ih (k+1) _ (m/128) rest (by omega) ?_ (.inr (by omega))]
   ·congr 2;have:m=m%128+128*(m/128):=by omega
    rw[Nat.add_sub_cancel,Nat.pow_succ,Nat.add_assoc];congr 1
    conv=>rhs;rw[this]
    rw[Nat.add_mul,Nat.mul_comm (128^k) 128,<-Nat.mul_assoc,Nat.mul_comm 128 (m/128)]
   ·rw[Nat.div_lt_iff_lt_mul (by decide)];have h7:64-7*k=64-7*(k+1)+7:=by omega
    rw[h7,Nat.pow_add]at hm;exact hm
theorem Ou: ∀(bs:List UInt8) (k acc n:Nat) (rest:List UInt8),k<=9->vM k acc bs=some (n,rest)->
  ∃m,n=acc+m*128^k/\bs=lC (9-k) m++rest/\m<2^(64-7*k)/\(k=0\/0<m):=by
 intro bs
 induction bs with
 |nil=>intro k acc n rest hk h;simp[vM]at h
 |cons b bs ih=>
  intro k acc n rest hk h;rw[vM]at h;split at h
  ·cases h
  ·rename_i h1;have aai:=b.toNat_lt;split at h
   ·rename_i h2;have F7:k≠9:=by omega
    obtain⟨m',hn,hbs,hm',hp'⟩:=ih (k+1) _ n rest (by omega) h;have hm0:0<m':=by omega
    refine⟨(b.toNat-128)+128*m',?_,?_,?_,.inr (by omega)⟩
    ·rw[hn,Nat.pow_succ,Nat.add_mul,Nat.add_assoc,Nat.mul_comm (128^k) 128,<-Nat.mul_assoc,Nat.mul_comm m' 128]
    ·have e9:9-k=(9-(k+1))+1:=by omega
     rw[e9,lC,if_neg (by omega),hbs];have e1:(b.toNat-128+128*m')/128=m':=by omega
     have e2:(b.toNat-128+128*m')%128+128=b.toNat:=by omega
     rw[e1,e2];simp
    ·have h7:64-7*k=64-7*(k+1)+7:=by omega
     rw[h7,Nat.pow_add];have:(2:Nat)^7=128:=rfl;omega
   ·rename_i h2;split at h
    ·cases h
    ·rename_i h3;injection h with h;injection h with h4 h5;subst h5;refine⟨b.toNat,h4.symm,?_,?_,by omega⟩
     ·have hb:UInt8.ofNat b.toNat=b:=by simp
      cases hf:9-k with
      |zero=>simp[lC]
      |succ f=>rw[lC,if_pos (by omega)];simp
     ·by_cases F7:k=9
      ·subst F7;simp;omega
      ·have:(2:Nat)^7<=2^(64-7*k):=Nat.pow_le_pow_right (by decide) (by omega);omega

section
variable{α:Type}
theorem xQ{l:List (List UInt8×α)}(h:ez l):l.Nodup:=List.Pairwise.imp (R:=fun a b:List UInt8×α=>a.1<b.1) (fun{a b} h e=>by rw[e]at h;exact aJ _ h) h
theorem Ks{a b:List (List UInt8×α)}(ha:ez a)(hb:ez b)(h: ∀k,au k a=au k b):a=b:=by refine nT ha hb ((List.perm_ext_iff_of_nodup (xQ ha) (xQ hb)).2 fun q=>?_);obtain⟨k,r⟩:=q;rw[<-aB ha,<-aB hb,h k]
theorem DL{q:List UInt8×α}{l:List (List UInt8×α)}(h:ez (q::l))(k:List UInt8):au k (q::l)=if k=q.1 then some q.2 else au k l:=by
 split
 ·rename_i e;subst e;exact(aB h).2 (by simp)
 ·rename_i e;have h':=(List.pairwise_cons.1 h).2
  cases hk:au k l with
  |none=>
   rw[aU h];intro p hp e';rcases List.mem_cons.1 hp with rfl|hp
   ·exact e e'.symm
   ·exact(aU h').1 hk p hp e'
  |some r=>exact(aB h).2 (by simp[(aB h').1 hk])
theorem jK{l:List (List UInt8×α)}(h:ez l):(l.map Prod.fst).Nodup:=by unfold List.Nodup;rw[List.pairwise_map];exact List.Pairwise.imp (R:=fun a b:List UInt8×α=>a.1<b.1) (fun{a b} h e=>by rw[e]at h;exact aJ _ h) h
theorem tZ{l:List (List UInt8×α)}(h:ez l)(k:List UInt8):(au k l).isSome=true↔k∈l.map Prod.fst:=by
 rw[List.mem_map]
 cases hk:au k l with
 |none=>simp only[Option.isSome_none,Bool.false_eq_true,false_iff];rintro⟨q,hq,rfl⟩;exact(aU h).1 hk q hq rfl
 |some r=>exact⟨fun _=>⟨_,(aB h).1 hk,rfl⟩,fun _=>rfl⟩
end
def oQ(l:av)(q:List UInt8×Option Rw):av:=match q.2 with
 |some r=>bE (q.1,r) l
 |none=>fp q.1 l
def bI(wl:List (List UInt8×Option Rw))(l:av):av:=wl.foldl oQ l
theorem ua{l:av}(h:ez l)(q:List UInt8×Option Rw):ez (oQ l q):=by
 unfold oQ;split
 ·exact dR h
 ·exact fX h
theorem ub{l:av}(h:ez l)(q:List UInt8×Option Rw)(k:List UInt8):au k (oQ l q)=if k=q.1 then q.2 else au k l:=by
 unfold oQ;split
 ·rename_i e;rw[lA h,e]
 ·rename_i e;rw[tQ h,e]
theorem fu: ∀{wl:List (List UInt8×Option Rw)} {l:av},ez l->ez (bI wl l)
 |[],_,h=>h
 |q::wl,_,h=>fu (wl:=wl) (ua h q)
theorem fw: ∀{wl:List (List UInt8×Option Rw)} {l:av},ez wl->ez l-> ∀k,au k (bI wl l)=(au k wl).getD (au k l)
 |[],_,_,_,_=>rfl
 |q::wl,l,hw,h,k=>by
  have hw':=(List.pairwise_cons.1 hw);have ih:=fw hw'.2 (ua h q) k;show au k (bI wl (oQ l q))=_;rw[ih,DL hw,ub h];by_cases e:k=q.1
  ·rw[if_pos e,if_pos e,(aU hw'.2).2 (fun p hp e'=>by have:=hw'.1 p hp;rw[e',e]at this;exact aJ _ this)];rfl
  ·rw[if_neg e,if_neg e]
theorem Ic{wl:List (List UInt8×Option Rw)}{l:av}(hw:ez wl)(h:ez l)(k:List UInt8)(r:Rw):bI (bE (k,some r) wl) l=bE (k,r) (bI wl l):=by refine Ks (fu h) (dR (fu h)) fun x=>?_;rw[fw (dR hw) h,lA hw,lA (fu h),fw hw h];simp only;split<;>rfl
theorem Ie{wl:List (List UInt8×Option Rw)}{l:av}(hw:ez wl)(h:ez l)(k:List UInt8):bI (bE (k,none) wl) l=fp k (bI wl l):=by refine Ks (fu h) (fX (fu h)) fun x=>?_;rw[fw (dR hw) h,lA hw,tQ (fu h),fw hw h];simp only;split<;>rfl
theorem Ig{wl:List (List UInt8×Option Rw)}{l:av}{q:List UInt8×Rw}(hw:ez wl)(h:ez l)(hq:q∈bI wl l):(q.1,some q.2)∈wl\/q∈l:=by
 have h1:=(aB (fu h)).2 hq;rw[fw hw h]at h1
 cases hk:au q.1 wl with
 |none=>rw[hk]at h1;exact .inr ((aB h).1 h1)
 |some x=>rw[hk]at h1;simp at h1;subst h1;exact .inl ((aB hw).1 hk)
theorem Ih{wl:List (List UInt8×Option Rw)}{l:av}(hw:ez wl)(h:ez l)(hf:RowsFit l)(hwf: ∀q∈wl,∀r,q.2=some r-> ∀c,I6 (r.aK c)):RowsFit (bI wl l):=fun q hq c=>(Ig hw h hq).elim (fun h=>hwf _ h _ rfl c) (fun h=>hf q h c)
def dQ(l:av)(q:List UInt8×Option Rw):Int:=if(au q.1 l).isSome then(if q.2.isSome then 0 else -1)else(if q.2.isSome then 1 else 0)
def wu(l:av):List (List UInt8×Option Rw)->Int
 |[]=>0
 |q::wl=>dQ l q+wu l wl
theorem Ii{l:av}(h:ez l)(q:List UInt8×Option Rw):((oQ l q).length:Int)=l.length+dQ l q:=by
 obtain⟨k,x⟩:=q;unfold oQ dQ
 cases x with
 |some r=>simp only[Option.isSome_some,if_true];rw[jH h];split<;>simp
 |none=>
  simp only[Option.isSome_none]
  cases hk:au k l with
  |none=>rw[gY hk];simp
  |some r=>have:=tR hk;simp;omega
theorem xR{l:av}(h:ez l)(q:List UInt8×Option Rw): ∀(wl:List (List UInt8×Option Rw)),(∀p∈wl,p.1≠q.1)->wu (oQ l q) wl=wu l wl
 |[],_=>rfl
 |p::wl,hn=>by rw[wu,wu,xR h q wl (fun x hx=>hn x (by simp[hx]))];unfold dQ;rw[ub h,if_neg (hn p (by simp))]
theorem xS: ∀{wl:List (List UInt8×Option Rw)} {l:av},ez wl->ez l->((bI wl l).length:Int)=l.length+wu l wl
 |[],_,_,_=>by simp[bI,wu]
 |q::wl,l,hw,h=>by have hw':=(List.pairwise_cons.1 hw);have ih:=xS hw'.2 (ua h q);show((bI wl (oQ l q)).length:Int)=_;rw[ih,Ii h,xR h q wl (fun p hp e=>by have:=hw'.1 p hp;rw[e]at this;exact aJ _ this),wu];omega
def jL(wl:List (List UInt8×Option Rw))(l:av):List (List UInt8)->Int
 |[]=>0
 |k::ks=>(match au k wl with
  |some x=>dQ l (k,x)
  |none=>0)+jL wl l ks
theorem uf(wl:List (List UInt8×Option Rw))(l:av)(k:List UInt8)(l2:List (List UInt8)): ∀l1,jL wl l (l1++k::l2)=jL wl l [k]+jL wl l (l1++l2)
 |[]=>by simp[jL]
 |x::l1=>by have ih:=uf wl l k l2 l1;simp only[List.cons_append,jL]at ih⊢;omega
theorem BM{wl:List (List UInt8×Option Rw)}{l:av}(hw:ez wl): ∀ws:List (List UInt8×Option Rw),(∀q∈ws,q∈wl)->jL wl l (ws.map Prod.fst)=wu l ws
 |[],_=>rfl
 |q::ws,h=>by rw[List.map_cons,jL,wu,BM hw ws (fun x hx=>h x (by simp[hx])),(aB hw).2 (h q (by simp))]
theorem ug{wl:List (List UInt8×Option Rw)}{l:av}(hw:ez wl)(h:ez l):((bI wl l).length:Int)=l.length+jL wl l (wl.map Prod.fst):=by rw[xS hw h,BM hw wl (fun _ h=>h)]
def aF(wl:List (List UInt8×Option Rw))(l:av)(c:Nat)(k:List UInt8):Option (Int×List UInt8):=if(au k wl).isSome then none else(au k l).map fun r=>(r.aK c,k)
def bF(wl:List (List UInt8×Option Rw))(c:Nat)(lo hi:Int)(k:List UInt8):Option (Int×List UInt8):=match au k wl with
 |some (some r)=>if lo<=r.aK c/\r.aK c<=hi then some (r.aK c,k)else none
 |_=>none
def vN(a b:Int×List UInt8):Prop:=a.1<b.1\/a.1=b.1/\a.2<b.2
theorem Kt{c:Nat}{lo hi:Int}{l:av}{ps:List (Int×List UInt8)}(h:ez l)(hf:RowsFit l)(hs:ps.Pairwise vN)(hp:ps.Perm ((l.filter (Bx c lo hi)).map fun q=>(q.2.aK c,q.1))):ps.map Prod.snd=cJ c lo hi l:=by
 have hfit: ∀p∈ps,I6 p.1:=fun p hp'=>by obtain⟨q,hq,rfl⟩:=List.mem_map.1 (hp.mem_iff.1 hp');exact hf q (List.mem_filter.1 hq).1 c
 have h1:(ps.map fun p=>((dB p.1 p.2,[]):Pr))=qU c (l.filter (Bx c lo hi)):=by
  refine za (h.filter _) (hf.filter _) ?_ ?_
  ·unfold Up;rw[List.pairwise_map];refine List.Pairwise.imp_of_mem (fun{a b} ha hb hab=>?_) hs;exact(N0 (hfit a ha) (hfit b hb)).2 hab
  ·have:=hp.map fun p=>((dB p.1 p.2,[]):Pr);rw[List.map_map]at this;exact this
 unfold cJ;rw[<-h1,List.map_map];exact List.map_congr_left fun p _=>(mW p.1 p.2).symm
theorem qY{α β:Type}{f:α->Option β}{g:β->α}(hg: ∀a b,f a=some b->g b=a): ∀{l:List α},l.Nodup->(l.filterMap f).Nodup
 |[],_=>by simp
 |a::l,h=>by
  have h':=List.nodup_cons.1 h;have ih:=qY hg h'.2
  cases hf:f a with
  |none=>rw[List.filterMap_cons_none hf];exact ih
  |some b=>rw[List.filterMap_cons_some hf,List.nodup_cons];refine⟨fun hb=>?_,ih⟩;obtain⟨x,hx,e⟩:=List.mem_filterMap.1 hb;have e1:=hg a b hf;have e2:=hg x b e;exact h'.1 (by rw[<-e1,e2];exact hx)
theorem DM{wl:List (List UInt8×Option Rw)}{l:av}{c:Nat}{k:List UInt8}{p:Int×List UInt8}(h:aF wl l c k=some p):p.2=k:=by
 unfold aF at h;split at h
 ·cases h
 ·obtain⟨r,_,rfl⟩:=Option.map_eq_some_iff.1 h;rfl
theorem DN{wl:List (List UInt8×Option Rw)}{c:Nat}{lo hi:Int}{k:List UInt8}{p:Int×List UInt8}(h:bF wl c lo hi k=some p):p.2=k:=by
 unfold bF at h;split at h
 ·split at h
  ·injection h with h;rw[<-h]
  ·cases h
 ·cases h
theorem BN{wl:List (List UInt8×Option Rw)}{l:av}{c:Nat}{lo hi:Int}{ks:List (List UInt8)}(hw:ez wl)(h:ez l)(hf:RowsFit l)(hk:ks.Perm (wl.map Prod.fst)):
  ((cJ c lo hi l).filterMap (aF wl l c)++ks.filterMap (bF wl c lo hi)).Perm (((bI wl l).filter (Bx c lo hi)).map fun q=>(q.2.aK c,q.1)):=by
 have hfn:(cJ c lo hi l).Nodup:=by
  unfold cJ;have hp:=(eP c (h.filter (Bx c lo hi)) (hf.filter _)).map fun p:Pr=>p.1.drop 8;rw[List.map_map]at hp;refine hp.nodup_iff.2 ?_;have e:((fun p:Pr=>p.1.drop 8)∘l6 c)=Prod.fst:=by funext q;exact mW _ _
  rw[e];exact jK (h.filter _)
 refine(List.perm_ext_iff_of_nodup ?_ ?_).2 fun p=>?_
 ·rw[List.nodup_append];refine⟨qY (g:=Prod.snd) (fun a b=>DM) hfn,qY (g:=Prod.snd) (fun a b=>DN) (hk.nodup_iff.2 (jK hw)),fun a ha b hb e=>?_⟩;obtain⟨x,_,ex⟩:=List.mem_filterMap.1 ha;obtain⟨y,_,ey⟩:=List.mem_filterMap.1 hb;have e1:=DM ex;have e2:=DN ey;subst e;rw[<-e1]at ex;rw[<-e2]at ey;unfold aF at ex;unfold bF at ey
  cases hq:au a.2 wl with
  |none=>rw[hq]at ey;cases ey
  |some z=>rw[hq]at ex;simp at ex
 ·unfold List.Nodup;rw[List.pairwise_map];exact List.Pairwise.imp (R:=fun a b:List UInt8×Rw=>a.1<b.1) (fun{a b} h e=>by injection e with _ e;rw[e]at h;exact aJ _ h) ((fu h).filter _)
 ·obtain⟨v,k⟩:=p;have hv: ∀r,au k (bI wl l)=some r↔(k,r)∈bI wl l:=fun r=>aB (fu h);have hvl:=fw hw h k;rw[List.mem_append,List.mem_filterMap,List.mem_filterMap,List.mem_map];constructor
  ·rintro(⟨x,hx,ex⟩|⟨x,hx,ex⟩)
   ·have e1:=DM ex;simp only at e1;subst e1;obtain⟨r,hr,h1,h2⟩:=(jz h hf).1 hx;unfold aF at ex
    cases hq:au k wl with
    |some z=>rw[hq]at ex;simp at ex
    |none=>rw[hq,(aB h).2 hr]at ex;simp at ex;refine⟨(k,r),List.mem_filter.2 ⟨(hv r).1 (by rw[hvl,hq,(aB h).2 hr];rfl),by simp[Bx,h1,h2]⟩,by rw[<-ex]⟩
   ·have e1:=DN ex;simp only at e1;subst e1;unfold bF at ex;split at ex
    ·rename_i r hq;split at ex
     ·rename_i hr;injection ex with ex;injection ex with ex;exact⟨(k,r),List.mem_filter.2 ⟨(hv r).1 (by rw[hvl,hq];rfl),by simp[Bx,hr.1,hr.2]⟩,by rw[<-ex]⟩
     ·cases ex
    ·cases ex
  ·rintro⟨⟨k',r⟩,hq,e⟩;injection e with e1 e2;simp only at e1 e2;subst e2;obtain⟨hm,hr⟩:=List.mem_filter.1 hq;have h3:=(hv r).2 hm;unfold Bx at hr;simp only[Bool.and_eq_true,decide_eq_true_eq]at hr;rw[hvl]at h3
   cases hz:au k' wl with
   |none=>rw[hz]at h3;left;refine⟨k',(jz h hf).2 ⟨r,(aB h).1 h3,hr⟩,?_⟩;unfold aF;rw[hz,show au k' l=some r from h3];simp[e1]
   |some x=>rw[hz]at h3;simp at h3;subst h3;right;refine⟨k',hk.mem_iff.2 ((tZ hw k').1 (by rw[hz];rfl)),?_⟩;unfold bF;rw[hz];rw[e1]at hr;simp[hr.1,hr.2,e1]
end Go.Proofs.YtagemonojdgbdaaGreatDoor
