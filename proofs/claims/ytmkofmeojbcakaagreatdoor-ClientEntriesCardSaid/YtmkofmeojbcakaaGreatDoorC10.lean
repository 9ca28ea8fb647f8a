import Derived.Test.YtmkofmeojbcakaaGreatDoorC03
import Derived.WalkKit
namespace Go.Proofs.YtmkofmeojbcakaaGreatDoor
set_option maxRecDepth 100000
structure aO where
 d:Int
 a:Int
 b:Int
 c:Int
 n:Int
 deriving DecidableEq
namespace aO
def holds(o:aO):Bool:=o.d==13||o.d==14
def mh(o:aO)(i:Nat):Int:=if i=0 then o.a else if i=1 then o.b else if i=2 then o.c else o.n
end aO
def ji(d:Int)(i:Nat):Bool:=
 if d=1 then i==0||i==2 else if d=8\/d=11 then decide (i<3)else if d=10 then i==1 else if d=12 then true
 else if d=13 then i==0||i==3 else if d=14 then decide (2<=i)else if d=15 then i==0 else decide (i<2)
def tv(d:Int)(i:Nat):Int:=if i=2/\d=1 then -1099511627776 else 0
def rN(d:Int)(i:Nat):Int:=
 if i=0 then(if d=9 then 4 else 7)else if i=1 then 7 else if i=2 then(if d=1 then 1099511627776 else if d=14 then 16 else 3)else(if d=12 then 1099511627776 else 64)
def bJ(o:aO):Bool:=decide (1<=o.d/\o.d<=15)&&(List.range 4).all (fun i=>ji o.d i||o.mh i==0)
def cw(o:aO):Bool:=(List.range 4).all (fun i=>!ji o.d i||(decide (tv o.d i<=o.mh i)&&decide (o.mh i<=rN o.d i)))
def cI(k:Nat)(o:aO):Int:=(k:Int)+1+o.n
def opens(l:List aO)(i:Nat):List Int:=((l.take i).zipIdx.filter (fun x=>x.1.holds&&decide ((i:Int)<cI x.2 x.1))).map (fun x=>cI x.2 x.1)
def kv(len:Nat)(es:List Int):Int:=es.getLast?.getD (len:Int)
def dV(l:List aO)(i:Nat)(o:aO):Bool:=decide ((opens l i).length<=8)&&(!o.holds||decide (cI i o<=kv l.length (opens l i)))
def dB(l:List aO)(k:Nat):Bool:=(List.range k).all (fun i=>match l[i]? with|some o=>dV l i o|none=>true)
def gK(l:List aO):Bool:=dB l l.length
def opsE(l:List aO):Int:=
 if 64<l.length then 23 else if l.all bJ=false then 11 else if l.all cw=false then 10 else if gK l=false then 11 else 0
theorem bX{l:List aO}{k:Nat}{o:aO}(h:l[k]?=some o):dB l (k+1)=(dB l k&&dV l k o):=by unfold dB;rw[List.range_succ,List.all_append];simp[h]
theorem eH{l:List aO}{k m:Nat}(h:dB l m=true)(hk:k<=m):dB l k=true:=by unfold dB at h⊢;rw[List.all_eq_true]at h⊢;intro i hi;exact h i (List.mem_range.2 (by have:=List.mem_range.1 hi;omega))
theorem FV(l:List aO):opens l 0=[]:=by simp[opens]
theorem qQ{l:List aO}{k:Nat}{o:aO}(h:l[k]?=some o):
  opens l (k+1)=(opens l k).filter (fun e=>decide ((k:Int)+1<e))++(if o.holds=true/\((k:Int)+1<cI k o)then[cI k o]else[]):=by
 unfold opens;have hlt:=(List.getElem?_eq_some_iff.1 h).1;have h1:l.take (k+1)=l.take k++[o]:=by rw[List.take_add_one,h];rfl
 have hlk:(l.take k).length=k:=by simp;omega
 rw[h1,List.zipIdx_append,List.filter_append,List.map_append,hlk];congr 1
 ·rw[List.filter_map,List.filter_filter];congr 1;apply List.filter_congr;intro x _;simp only[Function.comp];rw[Bool.eq_iff_iff];simp only[Bool.and_eq_true,decide_eq_true_eq];constructor
  ·rintro⟨h1,h2⟩;refine⟨by push_cast at h2;exact h2,h1,by push_cast at h2;omega⟩
  ·rintro⟨h1,h2,h3⟩;exact⟨h2,by push_cast;exact h1⟩
 ·simp only[List.zipIdx_cons,List.zipIdx_nil,List.filter_cons,List.filter_nil,Nat.zero_add]
  push_cast
  by_cases hh:o.holds=true/\((k:Int)+1<cI k o)
  ·simp[hh.1,hh.2]
  ·rw[if_neg hh];split
   ·rename_i h2;simp at h2;exact absurd h2 hh
   ·rfl
theorem Ab{es:List Int}{p:Int->Bool}(h:es.Pairwise (fun a b=>a≥b)):(es.filter p).Pairwise (fun a b=>a≥b):=h.filter _
theorem xu{l:List aO}: ∀k,k<=l.length->dB l k=true->(opens l k).Pairwise (fun a b=>a≥b)/\ ∀e∈opens l k,(k:Int)<e/\e<=(l.length:Int)
 |0,_,_=>by simp[FV]
 |k+1,hk,h=>by
  obtain⟨o,ho⟩: ∃o,l[k]?=some o:=⟨_,List.getElem?_eq_getElem (by omega)⟩;rw[bX ho,Bool.and_eq_true]at h;obtain⟨h1,h2⟩:=xu k (by omega) h.1;rw[qQ ho];have hp:=h.2;unfold dV at hp;rw[Bool.and_eq_true,Bool.or_eq_true]at hp
  have hend:o.holds=true->(∀e∈opens l k,cI k o<=e)/\cI k o<=(l.length:Int):=by
   intro hh
   have h3:cI k o<=kv l.length (opens l k):=by
    rcases hp.2 with h3|h3
    ·rw[hh]at h3;simp at h3
    ·exact of_decide_eq_true h3
   unfold kv at h3
   cases hl:(opens l k).getLast? with
   |none=>rw[List.getLast?_eq_none_iff]at hl;rw[hl]at h3⊢;simp at h3⊢;exact h3
   |some z=>
    rw[hl]at h3;simp at h3;obtain⟨ys,hys⟩:=List.getLast?_eq_some_iff.1 hl;have hz:=h2 z (by rw[hys];simp);refine⟨fun e he=>?_,by omega⟩;rw[hys]at he h1;rw[List.pairwise_append]at h1;rcases List.mem_append.1 he with h4|h4
    ·have:=h1.2.2 e h4 z (by simp);omega
    ·simp at h4;omega
  constructor
  ·split
   ·rename_i hc;rw[List.pairwise_append];refine⟨Ab h1,by simp,?_⟩;intro a ha b hb;simp at hb;subst hb;exact(hend hc.1).1 a (List.mem_filter.1 ha).1
   ·rw[List.append_nil];exact Ab h1
  ·intro e he;rcases List.mem_append.1 he with h4|h4
   ·rw[List.mem_filter]at h4;have:=h2 e h4.1;have h5:=of_decide_eq_true h4.2
    push_cast
    omega
   ·split at h4
    ·rename_i hc;simp at h4;subst h4;have:=(hend hc.1).2
     push_cast
     omega
    ·simp at h4
theorem Ks{l:List aO}{k:Nat}(hk:k<=l.length)(h:dB l k=true): ∀es,es=opens l k->es.foldl min (l.length:Int)=kv l.length es:=by
 intro es hes;obtain⟨h1,h2⟩:=xu k hk h;rw[<-hes]at h1 h2
 have key: ∀(es:List Int) (m:Int),es.Pairwise (fun a b=>a≥b)->(∀e∈es,e<=m)->es.foldl min m=es.getLast?.getD m:=by
  intro es
  induction es with
  |nil=>intro m _ _;rfl
  |cons e es ih=>
   intro m hp hm;rw[List.pairwise_cons]at hp;rw[List.foldl_cons,Int.min_eq_right (hm e (by simp)),ih e hp.2 (fun x hx=>hp.1 x hx)]
   cases es with
   |nil=>rfl
   |cons y ys=>simp[List.getLast?_cons_cons];rw[List.getLast?_cons];simp
 exact key es _ h1 (fun e he=>(h2 e he).2)
theorem DJ{l:List aO}{k:Nat}{o:aO}(h:l[k]?=some o)(ho:o.holds=false):(opens l k).filter (fun e=>decide (((k+1:Nat):Int)<e))=opens l (k+1):=by rw[qQ h,if_neg (by rw[ho];simp),List.append_nil];rfl
theorem Ac{l:List aO}{k:Nat}{o:aO}(h:l[k]?=some o)(ho:o.holds=true):(opens l k++[cI k o]).filter (fun e=>decide (((k+1:Nat):Int)<e))=opens l (k+1):=by
 rw[qQ h,List.filter_append];congr 1;simp only[List.filter_cons,List.filter_nil]
 push_cast
 by_cases hh:(k:Int)+1<cI k o
 ·simp[ho,hh]
 ·simp[ho,hh]
theorem Kt{es:List Int}{k:Int}(h:(es).Pairwise (fun a b=>a≥b))(hl: ∀e,es.getLast?=some e->k<e):es.filter (fun e=>decide (k<e))=es:=by
 rw[List.filter_eq_self];intro x hx
 cases hg:es.getLast? with
 |none=>rw[List.getLast?_eq_none_iff]at hg;rw[hg]at hx;simp at hx
 |some z=>
  obtain⟨ys,hys⟩:=List.getLast?_eq_some_iff.1 hg;have hz:=hl z hg;rw[hys]at h hx;rw[List.pairwise_append]at h;rcases List.mem_append.1 hx with h4|h4
  ·have:=h.2.2 x h4 z (by simp);simp;omega
  ·simp at h4;subst h4;simpa using hz
theorem xx{es:List Int}{x:Int}(h:es.Pairwise (fun a b=>a≥b))(hx: ∀e∈es,x<=e):(es++[x]).Pairwise (fun a b=>a≥b):=by rw[List.pairwise_append];refine⟨h,by simp,?_⟩;intro a ha b hb;simp at hb;subst hb;exact hx a ha
theorem FW{es:List Int}{x y:Int}(h:(es++[y]).Pairwise (fun a b=>a≥b))(hx:x<=y): ∀e∈es++[y],x<=e:=by
 rw[List.pairwise_append]at h;intro e he;rcases List.mem_append.1 he with h4|h4
 ·have:=h.2.2 e h4 y (by simp);omega
 ·simp at h4;omega
def nib:List Nat:=[0x00000000,0x1db71064,0x3b6e20c8,0x26d930ac,0x76dc4190,0x6b6b51f4,0x4db26158,0x5005713c,0xedb88320,0xf00f9344,0xd6d6a3e8,0xcb61b38c,0x9b64c2b0,0x86d3d2d4,0xa00ae278,0xbdbdf21c]
def xy(i:Nat):Nat:=nib.getD i 0
def YD(r:Nat):Nat:=r/16^^^xy (r%16)
def Ve(r:Nat)(x:UInt8):Nat:=YD (YD (r^^^x.toNat))
def BN(r:Nat)(xs:List UInt8):Nat:=xs.foldl Ve r
def Xq(xs:List UInt8):Nat:=4294967295-BN 4294967295 xs
def four(s:Nat):List UInt8:=[UInt8.ofNat (s%256),UInt8.ofNat (s/256%256),UInt8.ofNat (s/65536%256),UInt8.ofNat (s/16777216%256)]
def kE(xs:List UInt8):List UInt8:=xs++four (Xq xs)
theorem Nc: ∀i,i<16->xy i<4294967296:=by decide
theorem BO{a b:Nat}(ha:a<4294967296)(hb:b<4294967296):a^^^b<4294967296:=Nat.xor_lt_two_pow (n:=32) ha hb
theorem FX{r:Nat}(h:r<4294967296):YD r<4294967296:=BO (by omega) (Nc _ (by omega))
theorem Ro{r:Nat}(h:r<4294967296)(x:UInt8):Ve r x<4294967296:=FX (FX (BO h (by have:=x.toNat_lt;omega)))
theorem BP: ∀{r:Nat} (xs:List UInt8),r<4294967296->BN r xs<4294967296
 |_,[],h=>h
 |_,x::xs,h=>BP xs (Ro h x)
theorem Nf(xs:List UInt8):Xq xs<4294967296:=by unfold Xq;omega
theorem Ng(s:Nat):(four s).length=4:=rfl
theorem DK(xs:List UInt8):(kE xs).length=xs.length+4:=by simp[kE,Ng]
def mH:Nat->Nat->List UInt8
 |0,n=>[UInt8.ofNat n]
 |f+1,n=>if n<128 then[UInt8.ofNat n]else UInt8.ofNat (n%128+128)::mH f (n/128)
def lQ(n:Nat):List UInt8:=mH 9 n
theorem Vf{m:Nat}(h:m<128):lQ m=[UInt8.ofNat m]:=by simp[lQ,mH,h]
theorem Ku(f:Nat): ∀n,n<128^(f+1)->mH (f+1) n=mH f n:=by
 induction f with
 |zero=>intro n h;simp[mH]at h⊢;omega
 |succ f ih=>
  intro n h;rw[mH]
  conv=>rhs;rw[mH]
  split
  ·rfl
  ·rw[ih (n/128) (by rw[Nat.div_lt_iff_lt_mul (by decide)];rw[Nat.pow_succ]at h;exact h)]
theorem Vg{m:Nat}(h:128<=m)(h2:m<18446744073709551616):lQ m=UInt8.ofNat (m%128+128)::lQ (m/128):=by unfold lQ;rw[mH,if_neg (by omega),<-Ku 8 (m/128) (by rw[Nat.div_lt_iff_lt_mul (by decide)];simp;omega)]
theorem dv(m:Nat):(lQ m).length<=10:=by
 have: ∀f n,(mH f n).length<=f+1:=by
  intro f
  induction f with
  |zero=>intro n;simp[mH]
  |succ f ih=>intro n;rw[mH];split<;>simp;exact ih _
 exact this 9 m
theorem Rp(m:Nat):1<=(lQ m).length:=by unfold lQ;rw[mH];split<;>simp
def yH:Nat->Nat->List UInt8->Option (Nat×List UInt8)
 |_,_,[]=>none
 |k,acc,b::rest=>if k=9/\1<b.toNat then none else if 128<=b.toNat then yH (k+1) (acc+(b.toNat-128)*128^k) rest
  else if b.toNat=0/\0<k then none else some (acc+b.toNat*128^k,rest)
theorem Rq(f:Nat): ∀(k acc m:Nat) (rest:List UInt8),k+f=9->m<2^(64-7*k)->(k=0\/0<m)->yH k acc (mH f m++rest)=some (acc+m*128^k,rest):=by
 induction f with
 |zero=>
  intro k acc m rest hk hm hp;have I9:k=9:=by omega
  subst I9;simp at hm;have hb:(UInt8.ofNat m).toNat=m:=by simp;omega
  simp only[mH,List.singleton_append,yH,hb];rw[if_neg (by omega),if_neg (by omega),if_neg (by omega)]
 |succ f ih=>
  intro k acc m rest hk hm hp;rw[mH];split
  ·rename_i h;have hb:(UInt8.ofNat m).toNat=m:=by simp;omega
   simp only[List.singleton_append,yH,hb];rw[if_neg (by omega),if_neg (by omega),if_neg (by omega)]
  ·rename_i h;have hb:(UInt8.ofNat (m%128+128)).toNat=m%128+128:=by simp;omega
   simp only[List.cons_append,yH,hb];rw[if_neg (by omega),if_pos (by omega),ih (k+1) _ (m/128) rest (by omega) ?_ (.inr (by omega))]
   ·congr 2;have:m=m%128+128*(m/128):=by omega
    rw[Nat.add_sub_cancel,Nat.pow_succ,Nat.add_assoc];congr 1
    conv=>rhs;rw[this]
    rw[Nat.add_mul,Nat.mul_comm (128^k) 128,<-Nat.mul_assoc,Nat.mul_comm 128 (m/128)]
   ·rw[Nat.div_lt_iff_lt_mul (by decide)];have h7:64-7*k=64-7*(k+1)+7:=by omega
    rw[h7,Nat.pow_add]at hm;exact hm
theorem Rs: ∀(bs:List UInt8) (k acc n:Nat) (rest:List UInt8),k<=9->yH k acc bs=some (n,rest)->
  ∃m,n=acc+m*128^k/\bs=mH (9-k) m++rest/\m<2^(64-7*k)/\(k=0\/0<m):=by
 intro bs
 induction bs with
 |nil=>intro k acc n rest hk h;simp[yH]at h
 |cons b bs ih=>
  intro k acc n rest hk h;rw[yH]at h;split at h
  ·cases h
  ·rename_i h1;have acf:=b.toNat_lt;split at h
   ·rename_i h2;have I9:k≠9:=by omega
    obtain⟨m',hn,hbs,hm',hp'⟩:=ih (k+1) _ n rest (by omega) h;have hm0:0<m':=by omega
    refine⟨(b.toNat-128)+128*m',?_,?_,?_,.inr (by omega)⟩
    ·rw[hn,Nat.pow_succ,Nat.add_mul,Nat.add_assoc,Nat.mul_comm (128^k) 128,<-Nat.mul_assoc,Nat.mul_comm m' 128]
    ·have e9:9-k=(9-(k+1))+1:=by omega
     rw[e9,mH,if_neg (by omega),hbs];have e1:(b.toNat-128+128*m')/128=m':=by omega
     have e2:(b.toNat-128+128*m')%128+128=b.toNat:=by omega
     rw[e1,e2];simp
    ·have h7:64-7*k=64-7*(k+1)+7:=by omega
     rw[h7,Nat.pow_add];have:(2:Nat)^7=128:=rfl;omega
   ·rename_i h2;split at h
    ·cases h
    ·rename_i h3;injection h with h;injection h with h4 h5;subst h5;refine⟨b.toNat,h4.symm,?_,?_,by omega⟩
     ·have hb:UInt8.ofNat b.toNat=b:=by simp
      cases hf:9-k with
      |zero=>simp[mH]
      |succ f=>rw[mH,if_pos (by omega)];simp
     ·by_cases I9:k=9
      ·subst I9;simp;omega
      ·have:(2:Nat)^7<=2^(64-7*k):=Nat.pow_le_pow_right (by decide) (by omega);omega

section
variable{α:Type}
theorem Ad{l:List (List UInt8×α)}(h:fc l):l.Nodup:=List.Pairwise.imp (R:=fun a b:List UInt8×α=>a.1<b.1) (fun{a b} h e=>by rw[e]at h;exact aL _ h) h
theorem Nh{a b:List (List UInt8×α)}(ha:fc a)(hb:fc b)(h: ∀k,au k a=au k b):a=b:=by refine pM ha hb ((List.perm_ext_iff_of_nodup (Ad ha) (Ad hb)).2 fun q=>?_);obtain⟨k,r⟩:=q;rw[<-aD ha,<-aD hb,h k]
theorem FY{q:List UInt8×α}{l:List (List UInt8×α)}(h:fc (q::l))(k:List UInt8):au k (q::l)=if k=q.1 then some q.2 else au k l:=by
 split
 ·rename_i e;subst e;exact(aD h).2 (by simp)
 ·rename_i e;have h':=(List.pairwise_cons.1 h).2
  cases hk:au k l with
  |none=>
   rw[bp h];intro p hp e';rcases List.mem_cons.1 hp with rfl|hp
   ·exact e e'.symm
   ·exact(bp h').1 hk p hp e'
  |some r=>exact(aD h).2 (by simp[(aD h').1 hk])
theorem kF{l:List (List UInt8×α)}(h:fc l):(l.map Prod.fst).Nodup:=by unfold List.Nodup;rw[List.pairwise_map];exact List.Pairwise.imp (R:=fun a b:List UInt8×α=>a.1<b.1) (fun{a b} h e=>by rw[e]at h;exact aL _ h) h
theorem xz{l:List (List UInt8×α)}(h:fc l)(k:List UInt8):(au k l).isSome=true↔k∈l.map Prod.fst:=by
 rw[List.mem_map]
 cases hk:au k l with
 |none=>simp only[Option.isSome_none,Bool.false_eq_true,false_iff];rintro⟨q,hq,rfl⟩;exact(bp h).1 hk q hq rfl
 |some r=>exact⟨fun _=>⟨_,(aD h).1 hk,rfl⟩,fun _=>rfl⟩
end
def qu(l:ax)(q:List UInt8×Option Rw):ax:=match q.2 with
 |some r=>bP (q.1,r) l
 |none=>fG q.1 l
def bY(wl:List (List UInt8×Option Rw))(l:ax):ax:=wl.foldl qu l
theorem xA{l:ax}(h:fc l)(q:List UInt8×Option Rw):fc (qu l q):=by
 unfold qu;split
 ·exact eK h
 ·exact gG h
theorem xB{l:ax}(h:fc l)(q:List UInt8×Option Rw)(k:List UInt8):au k (qu l q)=if k=q.1 then q.2 else au k l:=by
 unfold qu;split
 ·rename_i e;rw[mF h,e]
 ·rename_i e;rw[wO h,e]
theorem fJ: ∀{wl:List (List UInt8×Option Rw)} {l:ax},fc l->fc (bY wl l)
 |[],_,h=>h
 |q::wl,_,h=>fJ (wl:=wl) (xA h q)
theorem fK: ∀{wl:List (List UInt8×Option Rw)} {l:ax},fc wl->fc l-> ∀k,au k (bY wl l)=(au k wl).getD (au k l)
 |[],_,_,_,_=>rfl
 |q::wl,l,hw,h,k=>by
  have hw':=(List.pairwise_cons.1 hw);have ih:=fK hw'.2 (xA h q) k;show au k (bY wl (qu l q))=_;rw[ih,FY hw,xB h];by_cases e:k=q.1
  ·rw[if_pos e,if_pos e,(bp hw'.2).2 (fun p hp e'=>by have:=hw'.1 p hp;rw[e',e]at this;exact aL _ this)];rfl
  ·rw[if_neg e,if_neg e]
theorem Kv{wl:List (List UInt8×Option Rw)}{l:ax}(hw:fc wl)(h:fc l)(k:List UInt8)(r:Rw):bY (bP (k,some r) wl) l=bP (k,r) (bY wl l):=by refine Nh (fJ h) (eK (fJ h)) fun x=>?_;rw[fK (eK hw) h,mF hw,mF (fJ h),fK hw h];simp only;split<;>rfl
theorem Kw{wl:List (List UInt8×Option Rw)}{l:ax}(hw:fc wl)(h:fc l)(k:List UInt8):bY (bP (k,none) wl) l=fG k (bY wl l):=by refine Nh (fJ h) (gG (fJ h)) fun x=>?_;rw[fK (eK hw) h,mF hw,wO (fJ h),fK hw h];simp only;split<;>rfl
theorem Ky{wl:List (List UInt8×Option Rw)}{l:ax}{q:List UInt8×Rw}(hw:fc wl)(h:fc l)(hq:q∈bY wl l):(q.1,some q.2)∈wl\/q∈l:=by
 have h1:=(aD (fJ h)).2 hq;rw[fK hw h]at h1
 cases hk:au q.1 wl with
 |none=>rw[hk]at h1;exact .inr ((aD h).1 h1)
 |some x=>rw[hk]at h1;simp at h1;subst h1;exact .inl ((aD hw).1 hk)
theorem Kz{wl:List (List UInt8×Option Rw)}{l:ax}(hw:fc wl)(h:fc l)(hf:RowsFit l)(hwf: ∀q∈wl,∀r,q.2=some r-> ∀c,I6 (r.aM c)):RowsFit (bY wl l):=fun q hq c=>(Ky hw h hq).elim (fun h=>hwf _ h _ rfl c) (fun h=>hf q h c)
def dQ(l:ax)(q:List UInt8×Option Rw):Int:=if(au q.1 l).isSome then(if q.2.isSome then 0 else -1)else(if q.2.isSome then 1 else 0)
def yT(l:ax):List (List UInt8×Option Rw)->Int
 |[]=>0
 |q::wl=>dQ l q+yT l wl
theorem KD{l:ax}(h:fc l)(q:List UInt8×Option Rw):((qu l q).length:Int)=l.length+dQ l q:=by
 obtain⟨k,x⟩:=q;unfold qu dQ
 cases x with
 |some r=>simp only[Option.isSome_some,if_true];rw[ki h];split<;>simp
 |none=>
  simp only[Option.isSome_none]
  cases hk:au k l with
  |none=>rw[iM hk];simp
  |some r=>have:=wP hk;simp;omega
theorem Ae{l:ax}(h:fc l)(q:List UInt8×Option Rw): ∀(wl:List (List UInt8×Option Rw)),(∀p∈wl,p.1≠q.1)->yT (qu l q) wl=yT l wl
 |[],_=>rfl
 |p::wl,hn=>by rw[yT,yT,Ae h q wl (fun x hx=>hn x (by simp[hx]))];unfold dQ;rw[xB h,if_neg (hn p (by simp))]
theorem Af: ∀{wl:List (List UInt8×Option Rw)} {l:ax},fc wl->fc l->((bY wl l).length:Int)=l.length+yT l wl
 |[],_,_,_=>by simp[bY,yT]
 |q::wl,l,hw,h=>by have hw':=(List.pairwise_cons.1 hw);have ih:=Af hw'.2 (xA h q);show((bY wl (qu l q)).length:Int)=_;rw[ih,KD h,Ae h q wl (fun p hp e=>by have:=hw'.1 p hp;rw[e]at this;exact aL _ this),yT];omega
def kG(wl:List (List UInt8×Option Rw))(l:ax):List (List UInt8)->Int
 |[]=>0
 |k::ks=>(match au k wl with
  |some x=>dQ l (k,x)
  |none=>0)+kG wl l ks
theorem xC(wl:List (List UInt8×Option Rw))(l:ax)(k:List UInt8)(l2:List (List UInt8)): ∀l1,kG wl l (l1++k::l2)=kG wl l [k]+kG wl l (l1++l2)
 |[]=>by simp[kG]
 |x::l1=>by have ih:=xC wl l k l2 l1;simp only[List.cons_append,kG]at ih⊢;omega
theorem DL{wl:List (List UInt8×Option Rw)}{l:ax}(hw:fc wl): ∀ws:List (List UInt8×Option Rw),(∀q∈ws,q∈wl)->kG wl l (ws.map Prod.fst)=yT l ws
 |[],_=>rfl
 |q::ws,h=>by rw[List.map_cons,kG,yT,DL hw ws (fun x hx=>h x (by simp[hx])),(aD hw).2 (h q (by simp))]
theorem xD{wl:List (List UInt8×Option Rw)}{l:ax}(hw:fc wl)(h:fc l):((bY wl l).length:Int)=l.length+kG wl l (wl.map Prod.fst):=by rw[Af hw h,DL hw wl (fun _ h=>h)]
def aF(wl:List (List UInt8×Option Rw))(l:ax)(c:Nat)(k:List UInt8):Option (Int×List UInt8):=if(au k wl).isSome then none else(au k l).map fun r=>(r.aM c,k)
def bF(wl:List (List UInt8×Option Rw))(c:Nat)(lo hi:Int)(k:List UInt8):Option (Int×List UInt8):=match au k wl with
 |some (some r)=>if lo<=r.aM c/\r.aM c<=hi then some (r.aM c,k)else none
 |_=>none
def yI(a b:Int×List UInt8):Prop:=a.1<b.1\/a.1=b.1/\a.2<b.2
theorem Ni{c:Nat}{lo hi:Int}{l:ax}{ps:List (Int×List UInt8)}(h:fc l)(hf:RowsFit l)(hs:ps.Pairwise yI)(hp:ps.Perm ((l.filter (Dj c lo hi)).map fun q=>(q.2.aM c,q.1))):ps.map Prod.snd=cV c lo hi l:=by
 have hfit: ∀p∈ps,I6 p.1:=fun p hp'=>by obtain⟨q,hq,rfl⟩:=List.mem_map.1 (hp.mem_iff.1 hp');exact hf q (List.mem_filter.1 hq).1 c
 have h1:(ps.map fun p=>((dP p.1 p.2,[]):Pr))=sW c (l.filter (Dj c lo hi)):=by
  refine BB (h.filter _) (hf.filter _) ?_ ?_
  ·unfold Up;rw[List.pairwise_map];refine List.Pairwise.imp_of_mem (fun{a b} ha hb hab=>?_) hs;exact(QT (hfit a ha) (hfit b hb)).2 hab
  ·have:=hp.map fun p=>((dP p.1 p.2,[]):Pr);rw[List.map_map]at this;exact this
 unfold cV;rw[<-h1,List.map_map];exact List.map_congr_left fun p _=>(oP p.1 p.2).symm
theorem tz{α β:Type}{f:α->Option β}{g:β->α}(hg: ∀a b,f a=some b->g b=a): ∀{l:List α},l.Nodup->(l.filterMap f).Nodup
 |[],_=>by simp
 |a::l,h=>by
  have h':=List.nodup_cons.1 h;have ih:=tz hg h'.2
  cases hf:f a with
  |none=>rw[List.filterMap_cons_none hf];exact ih
  |some b=>rw[List.filterMap_cons_some hf,List.nodup_cons];refine⟨fun hb=>?_,ih⟩;obtain⟨x,hx,e⟩:=List.mem_filterMap.1 hb;have e1:=hg a b hf;have e2:=hg x b e;exact h'.1 (by rw[<-e1,e2];exact hx)
theorem FZ{wl:List (List UInt8×Option Rw)}{l:ax}{c:Nat}{k:List UInt8}{p:Int×List UInt8}(h:aF wl l c k=some p):p.2=k:=by
 unfold aF at h;split at h
 ·cases h
 ·obtain⟨r,_,rfl⟩:=Option.map_eq_some_iff.1 h;rfl
theorem F3{wl:List (List UInt8×Option Rw)}{c:Nat}{lo hi:Int}{k:List UInt8}{p:Int×List UInt8}(h:bF wl c lo hi k=some p):p.2=k:=by
 unfold bF at h;split at h
 ·split at h
  ·injection h with h;rw[<-h]
  ·cases h
 ·cases h
theorem DM{wl:List (List UInt8×Option Rw)}{l:ax}{c:Nat}{lo hi:Int}{ks:List (List UInt8)}(hw:fc wl)(h:fc l)(hf:RowsFit l)(hk:ks.Perm (wl.map Prod.fst)):
  ((cV c lo hi l).filterMap (aF wl l c)++ks.filterMap (bF wl c lo hi)).Perm (((bY wl l).filter (Dj c lo hi)).map fun q=>(q.2.aM c,q.1)):=by
 have hfn:(cV c lo hi l).Nodup:=by
  unfold cV;have hp:=(fp c (h.filter (Dj c lo hi)) (hf.filter _)).map fun p:Pr=>p.1.drop 8;rw[List.map_map]at hp;refine hp.nodup_iff.2 ?_;have e:((fun p:Pr=>p.1.drop 8)∘nA c)=Prod.fst:=by funext q;exact oP _ _
  rw[e];exact kF (h.filter _)
 refine(List.perm_ext_iff_of_nodup ?_ ?_).2 fun p=>?_
 ·rw[List.nodup_append];refine⟨tz (g:=Prod.snd) (fun a b=>FZ) hfn,tz (g:=Prod.snd) (fun a b=>F3) (hk.nodup_iff.2 (kF hw)),fun a ha b hb e=>?_⟩;obtain⟨x,_,ex⟩:=List.mem_filterMap.1 ha;obtain⟨y,_,ey⟩:=List.mem_filterMap.1 hb;have e1:=FZ ex;have e2:=F3 ey;subst e;rw[<-e1]at ex;rw[<-e2]at ey;unfold aF at ex;unfold bF at ey
  cases hq:au a.2 wl with
  |none=>rw[hq]at ey;cases ey
  |some z=>rw[hq]at ex;simp at ex
 ·unfold List.Nodup;rw[List.pairwise_map];exact List.Pairwise.imp (R:=fun a b:List UInt8×Rw=>a.1<b.1) (fun{a b} h e=>by injection e with _ e;rw[e]at h;exact aL _ h) ((fJ h).filter _)
 ·obtain⟨v,k⟩:=p;have hv: ∀r,au k (bY wl l)=some r↔(k,r)∈bY wl l:=fun r=>aD (fJ h);have hvl:=fK hw h k;rw[List.mem_append,List.mem_filterMap,List.mem_filterMap,List.mem_map];constructor
  ·rintro(⟨x,hx,ex⟩|⟨x,hx,ex⟩)
   ·have e1:=FZ ex;simp only at e1;subst e1;obtain⟨r,hr,h1,h2⟩:=(jS h hf).1 hx;unfold aF at ex
    cases hq:au k wl with
    |some z=>rw[hq]at ex;simp at ex
    |none=>rw[hq,(aD h).2 hr]at ex;simp at ex;refine⟨(k,r),List.mem_filter.2 ⟨(hv r).1 (by rw[hvl,hq,(aD h).2 hr];rfl),by simp[Dj,h1,h2]⟩,by rw[<-ex]⟩
   ·have e1:=F3 ex;simp only at e1;subst e1;unfold bF at ex;split at ex
    ·rename_i r hq;split at ex
     ·rename_i hr;injection ex with ex;injection ex with ex;exact⟨(k,r),List.mem_filter.2 ⟨(hv r).1 (by rw[hvl,hq];rfl),by simp[Dj,hr.1,hr.2]⟩,by rw[<-ex]⟩
     ·cases ex
    ·cases ex
  ·rintro⟨⟨k',r⟩,hq,e⟩;injection e with e1 e2;simp only at e1 e2;subst e2;obtain⟨hm,hr⟩:=List.mem_filter.1 hq;have h3:=(hv r).2 hm;unfold Dj at hr;simp only[Bool.and_eq_true,decide_eq_true_eq]at hr;rw[hvl]at h3
   cases hz:au k' wl with
   |none=>rw[hz]at h3;left;refine⟨k',(jS h hf).2 ⟨r,(aD h).1 h3,hr⟩,?_⟩;unfold aF;rw[hz,show au k' l=some r from h3];simp[e1]
   |some x=>rw[hz]at h3;simp at h3;subst h3;right;refine⟨k',hk.mem_iff.2 ((xz hw k').1 (by rw[hz];rfl)),?_⟩;unfold bF;rw[hz];rw[e1]at hr;simp[hr.1,hr.2,e1]
end Go.Proofs.YtmkofmeojbcakaaGreatDoor
