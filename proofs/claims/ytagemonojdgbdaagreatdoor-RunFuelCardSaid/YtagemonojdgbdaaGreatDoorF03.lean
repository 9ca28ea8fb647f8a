import Derived.Lib.Hide
namespace Go.Proofs.YtagemonojdgbdaaGreatDoor
set_option maxRecDepth 100000
abbrev Pr:=List UInt8×List UInt8
section
def flat:List (List Pr)->List Pr->List Pr
 |[],_=>[]
 |k::_,[]=>k
 |k::ks,p::ps=>k++p::flat ks ps
def pre:List (List Pr)->List Pr->List Pr
 |k::ks,p::ps=>k++p::pre ks ps
 |_,_=>[]
def post:List Pr->List (List Pr)->List Pr
 |[],_=>[]
 |p::ps,b=>p::flat b ps
theorem qO(k:List Pr)(b:List (List Pr))(y:List Pr):flat (k::b) y=k++post y b:=by cases y<;>simp[flat,post]
theorem tH: ∀(a:List (List Pr)) (x:List Pr) (b:List (List Pr)) (y:List Pr),a.length=x.length->b≠[]->flat (a++b) (x++y)=pre a x++flat b y
 |[],[],b,y,_,_=>by simp[pre]
 |k::a,p::x,b,y,h,hb=>by have ih:=tH a x b y (by simpa using h) hb;simp[flat,pre,ih]
theorem tI{a:List (List Pr)}{x:List Pr}(h:a.length=x.length)(k:List Pr)(b:List (List Pr))(y:List Pr):flat (a++k::b) (x++y)=pre a x++k++post y b:=by rw[tH a x _ y h (by simp),qO,List.append_assoc]
theorem Bc{a:List (List Pr)}{x:List Pr}(h:a.length=x.length)(l r:List Pr)(m:Pr)(b:List (List Pr))(y:List Pr):flat (a++l::r::b) (x++m::y)=pre a x++(l++m::r)++post y b:=by rw[tH a x _ _ h (by simp)];simp only[flat];rw[qO];simp
theorem xy{a:List (List Pr)}{x:List Pr}(h:a.length=x.length)(k:List Pr):flat (a++[k]) x=pre a x++k:=by have:=tI h k [] [];simpa[post]using this
def Up(l:List Pr):Prop:=l.Pairwise fun a b=>a.1<b.1
theorem Up.left{a b:List Pr}(h:Up (a++b)):Up a:=(List.pairwise_append.1 h).1
theorem Up.right{a b:List Pr}(h:Up (a++b)):Up b:=(List.pairwise_append.1 h).2.1
theorem dY{a b c:List UInt8}(h:a<b)(h':b<c):a<c:=List.lt_trans h h'
theorem aJ(a:List UInt8): ¬a<a:=List.lt_irrefl a
theorem qP{a b:List UInt8}(h:a<b): ¬b<a:=fun h'=>aJ a (dY h h')
theorem tJ{a b:List UInt8}(h: ¬a<b):b<a\/b=a:=by
 rcases Classical.em (b=a)with e|e
 ·exact .inr e
 ·refine .inl ?_;have:=List.not_lt.1 h;exact Std.lt_of_le_of_ne this e
theorem yT{key:List UInt8}: ∀{a:List (List Pr)} {x:List Pr},Up (pre a x)->(∀q∈x,q.1<key)-> ∀q∈pre a x,q.1<key
 |[],_,_,_,q,hq=>by simp[pre]at hq
 |_::_,[],_,_,q,hq=>by simp[pre]at hq
 |k::a,p::x,h,hx,q,hq=>by
  simp only[pre]at h hq;have h1:=List.pairwise_append.1 h;have h2:=List.pairwise_cons.1 h1.2.1;rcases List.mem_append.1 hq with hq|hq
  ·exact dY (h1.2.2 q hq p (by simp)) (hx p (by simp))
  ·rcases List.mem_cons.1 hq with rfl|hq
   ·exact hx _ (by simp)
   ·exact yT h2.2 (fun r hr=>hx r (by simp[hr])) q hq
def ins(p:Pr):List Pr->List Pr
 |[]=>[p]
 |q::l=>if q.1<p.1 then q::ins p l else if q.1=p.1 then p::l else p::q::l
def del(key:List UInt8):List Pr->List Pr
 |[]=>[]
 |q::l=>if q.1<key then q::del key l else if q.1=key then l else q::l
def ceil(key:List UInt8):List Pr->Option Pr
 |[]=>none
 |q::l=>if q.1<key then ceil key l else some q
def look(key:List UInt8)(l:List Pr):Option (List UInt8):=match ceil key l with
 |some q=>if q.1=key then some q.2 else none
 |none=>none
theorem nO{p:Pr}{a b:List Pr}(h: ∀q∈a,q.1<p.1):ins p (a++b)=a++ins p b:=by
 induction a with
 |nil=>rfl
 |cons q a ih=>simp[ins,h q (by simp),ih (fun r hr=>h r (by simp[hr]))]
theorem Bd{p:Pr}{a b:List Pr}(h: ∀q,b.head?=some q->p.1<q.1):ins p (a++b)=ins p a++b:=by
 induction a with
 |nil=>
  cases b with
  |nil=>rfl
  |cons q b=>have:=h q rfl;simp[ins,qP this];exact fun e=>aJ p.1 (e▸this)
 |cons q a ih=>
  simp only[List.cons_append,ins];split
  ·simp[ih]
  ·split<;>simp
theorem nQ{key:List UInt8}{a b:List Pr}(h: ∀q∈a,q.1<key):del key (a++b)=a++del key b:=by
 induction a with
 |nil=>rfl
 |cons q a ih=>simp[del,h q (by simp),ih (fun r hr=>h r (by simp[hr]))]
theorem Be{key:List UInt8}{a b:List Pr}(h: ∀q,b.head?=some q->key<q.1):del key (a++b)=del key a++b:=by
 induction a with
 |nil=>
  cases b with
  |nil=>rfl
  |cons q b=>have:=h q rfl;simp[del,qP this];exact fun e=>aJ key (e▸this)
 |cons q a ih=>
  simp only[List.cons_append,del];split
  ·simp[ih]
  ·split<;>simp
theorem tK{key:List UInt8}{a b:List Pr}(h: ∀q∈a,q.1<key):ceil key (a++b)=ceil key b:=by
 induction a with
 |nil=>rfl
 |cons q a ih=>simp[ceil,h q (by simp),ih (fun r hr=>h r (by simp[hr]))]
theorem Bf{key:List UInt8}{a b:List Pr}:ceil key (a++b)=(ceil key a).or (ceil key b):=by
 induction a with
 |nil=>simp[ceil]
 |cons q a ih=>simp only[List.cons_append,ceil];split<;>simp[ih]
theorem He{key:List UInt8}{b:List Pr}(h: ∀q,b.head?=some q-> ¬q.1<key):ceil key b=b.head?:=by
 cases b with
 |nil=>rfl
 |cons q b=>simp[ceil,h q rfl]
end
def posOf(key:List UInt8)(ps:List Pr):Nat:=(ps.takeWhile fun p=>decide (p.1<key)).length
theorem dZ(key:List UInt8)(ps:List Pr):posOf key ps<=ps.length:=by unfold posOf;have h:=congrArg List.length (List.takeWhile_append_dropWhile (p:=fun p:Pr=>decide (p.1<key)) (l:=ps));rw[List.length_append]at h;omega
theorem eF(key:List UInt8): ∀(ps:List Pr),∀q∈ps.take (posOf key ps),q.1<key
 |[],q,h=>by simp at h
 |p::ps,q,h=>by
  unfold posOf at h;by_cases hp:p.1<key
  ·simp[hp]at h;rcases h with rfl|h
   ·exact hp
   ·exact eF key ps q h
  ·simp[hp]at h
theorem lX(key:List UInt8): ∀(ps:List Pr) (q:Pr),ps[posOf key ps]?=some q-> ¬q.1<key
 |[],q,h=>by simp at h
 |p::ps,q,h=>by
  unfold posOf at h;by_cases hp:p.1<key
  ·simp[hp]at h;exact lX key ps q h
  ·simp[hp]at h;subst h;exact hp
def hit(key:List UInt8)(ps:List Pr):Bool:=match ps[posOf key ps]? with
 |some q=>decide (q.1=key)
 |none=>false
theorem fD{key:List UInt8}{ps:List Pr}(h:hit key ps=true): ∃v,ps[posOf key ps]?=some (key,v):=by
 unfold hit at h;split at h
 ·rename_i q hq;simp at h;exact⟨q.2,by rw[hq];subst h;rfl⟩
 ·cases h
theorem qQ{key:List UInt8}{ps:List Pr}(h:hit key ps=false){q:Pr}(hq:ps[posOf key ps]?=some q):key<q.1:=by
 unfold hit at h;rw[hq]at h;simp at h;rcases tJ (lX key ps q hq)with h'|h'
 ·exact h'
 ·exact absurd h'.symm h
theorem dI{α:Type}{l:List α}{i:Nat}{x:α}(h:l[i]?=some x):l=l.take i++x::l.drop (i+1):=by have hi:=(List.getElem?_eq_some_iff.1 h).1;have hx:=(List.getElem?_eq_some_iff.1 h).2;rw[<-hx];simp
theorem gW{α:Type}(l:List α)(i:Nat):(l.drop i).head?=l[i]?:=by simp
inductive ND where
 |mk (ps:List Pr) (ks:List ND)
def ND.ps:ND->List Pr
 | .mk ps _=>ps
def ND.ks:ND->List ND
 | .mk _ ks=>ks
@[simp] theorem ND.bW (ps:List Pr) (ks:List ND):(ND.mk ps ks).ps=ps:=rfl
@[simp] theorem ND.cM (ps:List Pr) (ks:List ND):(ND.mk ps ks).ks=ks:=rfl
def Bg:ND:=.mk [] []
def ba:Nat->ND->List Pr
 |0,x=>x.ps
 |d+1,x=>flat (x.ks.map (ba d)) x.ps
def eX:(d o lo hi:Nat)->ND->Prop
 |0,_,lo,hi,x=>lo<=x.ps.length/\x.ps.length<=hi/\x.ks=[]
 |d+1,o,lo,hi,x=>lo<=x.ps.length/\x.ps.length<=hi/\x.ks.length=x.ps.length+1/\ ∀k∈x.ks,eX d o (o-1) (2*o-1) k
theorem eX.len{d o lo hi:Nat}{x:ND}(h:eX d o lo hi x):lo<=x.ps.length/\x.ps.length<=hi:=by
 cases d with
 |zero=>exact⟨h.1,h.2.1⟩
 |succ d=>exact⟨h.1,h.2.1⟩
theorem eX.re{d o lo hi lo' hi':Nat}{x:ND}(h:eX d o lo hi x)(h1:lo'<=x.ps.length)(h2:x.ps.length<=hi'):eX d o lo' hi' x:=by
 cases d with
 |zero=>exact⟨h1,h2,h.2.2⟩
 |succ d=>exact⟨h1,h2,h.2.2⟩
theorem sN{d:Nat}{ps:List Pr}{ks:List ND}{i:Nat}{k:ND}(hk:ks[i]?=some k)(hl:ks.length=ps.length+1)(k':ND):
  ba (d+1) (.mk ps (ks.take i++k'::ks.drop (i+1)))=pre ((ks.take i).map (ba d)) (ps.take i)++ba d k'++post (ps.drop i) ((ks.drop (i+1)).map (ba d)):=by
 have hi:=(List.getElem?_eq_some_iff.1 hk).1;have:=tI (a:=(ks.take i).map (ba d)) (x:=ps.take i) (by simp;omega) (ba d k') ((ks.drop (i+1)).map (ba d)) (ps.drop i);rw[List.take_append_drop]at this;simpa[ba,ND.ps,ND.ks]using this
theorem jF{d:Nat}{ps:List Pr}{ks:List ND}{i:Nat}{k:ND}(hk:ks[i]?=some k)(hl:ks.length=ps.length+1):
  ba (d+1) (.mk ps ks)=pre ((ks.take i).map (ba d)) (ps.take i)++ba d k++post (ps.drop i) ((ks.drop (i+1)).map (ba d)):=by
 rw[<-sN hk hl k,<-dI hk]
theorem sO{d:Nat}{ps ps':List Pr}{ks ks':List ND}{i:Nat}(l m:ND)(p:Pr)(hi:i<=ps.length)(hi':i<=ks.length):
  ba (d+1) (.mk (ps.take i++p::ps') (ks.take i++l::m::ks'))=pre ((ks.take i).map (ba d)) (ps.take i)++(ba d l++p::ba d m)++post ps' (ks'.map (ba d)):=by
 have:=Bc (a:=(ks.take i).map (ba d)) (x:=ps.take i) (by simp;omega) (ba d l) (ba d m) p (ks'.map (ba d)) ps';simpa[ba,ND.ps,ND.ks]using this
theorem lu{y:List Pr}{b:List (List Pr)}:(post y b).head?=y.head?:=by cases y<;>rfl
theorem yU{d:Nat}{key:List UInt8}{ps:List Pr}{ks:List ND}(hl:ks.length=ps.length+1)(hu:Up (ba (d+1) (.mk ps ks))){k:ND}(hk:ks[posOf key ps]?=some k):
  ceil key (ba (d+1) (.mk ps ks))=(ceil key (ba d k)).or ps[posOf key ps]?:=by
 rw[jF hk hl]at hu⊢;rw[List.append_assoc,tK (yT hu.left.left (eF key ps)),Bf,He (b:=post _ _) (by rw[lu,gW];exact lX key ps),lu,gW]
theorem Bh{d:Nat}{key:List UInt8}{ps:List Pr}{ks:List ND}(hl:ks.length=ps.length+1)(hu:Up (ba (d+1) (.mk ps ks)))(h:hit key ps=true):
  ceil key (ba (d+1) (.mk ps ks))=ps[posOf key ps]?:=by
 obtain⟨v,hv⟩:=fD h;have hi:=(List.getElem?_eq_some_iff.1 hv).1;obtain⟨k,hk⟩: ∃k,ks[posOf key ps]?=some k:=⟨_,List.getElem?_eq_getElem (by omega)⟩;rw[yU hl hu hk];rw[jF hk hl]at hu;have h1:=(List.pairwise_append.1 hu).2.2
 have:ceil key (ba d k)=none:=by
  have hall: ∀q∈ba d k,q.1<key:=fun q hq=>h1 q (by simp[hq]) (key,v) (by
   have hh:(post (ps.drop (posOf key ps)) ((ks.drop (posOf key ps+1)).map (ba d))).head?=some (key,v):=by rw[lu,gW,hv]
   exact List.mem_of_head? hh)
  have:=tK (b:=[]) hall;simpa[ceil]using this
 rw[this];simp
theorem lv{key:List UInt8}: ∀(ps:List Pr),ceil key ps=ps[posOf key ps]?
 |[]=>rfl
 |p::ps=>by
  have ih:=lv (key:=key) ps;unfold posOf at ih⊢;by_cases h:p.1<key
  ·simp[ceil,h,ih]
  ·simp[ceil,h]
def ji:(d:Nat)->ND->Nat->ND×Pr×ND
 |0,x,o=>(.mk (x.ps.take (o-1)) [],x.ps[o-1]?.getD ([],[]),.mk (x.ps.drop o) [])
 |_+1,x,o=>(.mk (x.ps.take (o-1)) (x.ks.take o),x.ps[o-1]?.getD ([],[]),.mk (x.ps.drop o) (x.ks.drop o))
def lY(d:Nat)(x:ND)(i o:Nat):ND:=
 let c:=ji d (x.ks[i]?.getD Bg) o
 .mk (x.ps.take i++c.2.1::x.ps.drop i) (x.ks.take i++c.1::c.2.2::x.ks.drop (i+1))
theorem FI{d o:Nat}{x:ND}(ho:1<=o)(h:eX d o (2*o) (2*o) x):ba d (ji d x o).1++(ji d x o).2.1::ba d (ji d x o).2.2=ba d x:=by
 have hlen:=h.len
 cases d with
 |zero=>obtain⟨ps,ks⟩:=x;simp only[ND.bW]at hlen;have hx:ps[o-1]?=some (ps[o-1]'(by omega)):=List.getElem?_eq_getElem _;have:=dI hx;simp only[ji,ba,ND.bW,hx,Option.getD_some];rw[show o-1+1=o by omega]at this;exact this.symm
 |succ d=>
  obtain⟨ps,ks⟩:=x;simp only[ND.bW]at hlen;obtain⟨_,_,hk,_⟩:=h;simp only[ND.bW,ND.cM]at hk hlen;have hx:ps[o-1]?=some (ps[o-1]'(by omega)):=List.getElem?_eq_getElem _;have hsp:=dI hx;rw[show o-1+1=o by omega]at hsp;have hy:ks[o-1]?=some (ks[o-1]'(by omega)):=List.getElem?_eq_getElem _;have hz:ks[o]?=some (ks[o]'(by omega)):=List.getElem?_eq_getElem _
  have TA:ks.take o=ks.take (o-1)++[ks[o-1]'(by omega)]:=by
   conv=>lhs;rw[show o=o-1+1 by omega]
   rw[List.take_succ_eq_append_getElem (by omega)]
  have Uh:ks.drop o=ks[o]'(by omega)::ks.drop (o+1):=List.drop_eq_getElem_cons (by omega)
  have hkk:ks=ks.take (o-1)++ks[o-1]'(by omega)::ks[o]'(by omega)::ks.drop (o+1):=by
   conv=>lhs;rw[<-List.take_append_drop o ks,TA,Uh]
   rw[List.append_assoc];rfl
  have h2:=sO (d:=d) (ps:=ps) (ps':=ps.drop o) (ks:=ks) (ks':=ks.drop (o+1)) (i:=o-1) (ks[o-1]'(by omega)) (ks[o]'(by omega)) (ps[o-1]'(by omega)) (by omega) (by omega);have hw:ba (d+1) (.mk ps ks)=ba (d+1) (.mk (ps.take (o-1)++ps[o-1]'(by omega)::ps.drop o) (ks.take (o-1)++ks[o-1]'(by omega)::ks[o]'(by omega)::ks.drop (o+1))):=by rw[<-hkk,<-hsp]
  rw[hw,h2]
  have xz:ba (d+1) (.mk (ps.take (o-1)) (ks.take o))=pre ((ks.take (o-1)).map (ba d)) (ps.take (o-1))++ba d (ks[o-1]'(by omega)):=by rw[TA];have:=xy (a:=(ks.take (o-1)).map (ba d)) (x:=ps.take (o-1)) (by simp;omega) (ba d (ks[o-1]'(by omega)));simp only[ba,ND.bW,ND.cM,List.map_append,List.map_cons,List.map_nil];exact this
  have hr1:ba (d+1) (.mk (ps.drop o) (ks.drop o))=ba d (ks[o]'(by omega))++post (ps.drop o) ((ks.drop (o+1)).map (ba d)):=by rw[Uh];simp only[ba,ND.bW,ND.cM,List.map_cons];exact qO _ _ _
  simp only[ji,ND.bW,ND.cM,hx,Option.getD_some];rw[xz,hr1];simp
theorem NV{o:Nat}{x:List Pr}(ho:2<=o)(h:2*o<=x.length/\x.length<=2*o):(o-1<=(x.take (o-1)).length/\(x.take (o-1)).length<=2*o-1)/\o-1<=(x.drop o).length/\(x.drop o).length<=2*o-1:=by simp only[List.length_take,List.length_drop];omega
theorem Kb{d o:Nat}{x:ND}(ho:2<=o)(h:eX d o (2*o) (2*o) x):eX d o (o-1) (2*o-1) (ji d x o).1/\eX d o (o-1) (2*o-1) (ji d x o).2.2:=by
 have hlen:=h.len
 cases d with
 |zero=>obtain⟨ps,ks⟩:=x;have h0:=NV ho hlen;exact⟨⟨h0.1.1,h0.1.2,rfl⟩,h0.2.1,h0.2.2,rfl⟩
 |succ d=>obtain⟨ps,ks⟩:=x;simp only[ND.bW]at hlen;obtain⟨_,_,hk,ha⟩:=h;simp only[ND.bW,ND.cM]at hk ha hlen;simp only[ji,eX,ND.bW,ND.cM];simp only[List.length_take,List.length_drop];exact⟨⟨by omega,by omega,by omega,fun k hk'=>ha k (List.mem_of_mem_take hk')⟩,by omega,by omega,by omega,fun k hk'=>ha k (List.mem_of_mem_drop hk')⟩
def yV(x:List Pr)(p:Pr):List Pr:=if hit p.1 x then x.take (posOf p.1 x)++p::x.drop (posOf p.1 x+1)else x.take (posOf p.1 x)++p::x.drop (posOf p.1 x)
def gp:(d:Nat)->ND->Pr->Nat->ND
 |0,x,p,_=>.mk (yV x.ps p) []
 |d+1,x,p,o=>
  let i:=posOf p.1 x.ps
  if hit p.1 x.ps then .mk (x.ps.take i++p::x.ps.drop (i+1)) x.ks
  else
   let k:=gp d (x.ks[i]?.getD Bg) p o
   let y:ND:=.mk x.ps (x.ks.take i++k::x.ks.drop (i+1))
   if 2*o-1<k.ps.length then lY d y i o else y
theorem Re{p:Pr}{ps:List Pr}(h:hit p.1 ps=false):ins p ps=ps.take (posOf p.1 ps)++p::ps.drop (posOf p.1 ps):=by
 conv=>lhs;rw[<-List.take_append_drop (posOf p.1 ps) ps]
 rw[nO (eF _ _)];have:=Bd (p:=p) (a:=[]) (b:=ps.drop (posOf p.1 ps)) (fun q hq=>qQ h (by rw[<-gW];exact hq));simp[ins]at this;rw[this]
theorem NW{p:Pr}{ps:List Pr}(h:hit p.1 ps=true):ins p ps=ps.take (posOf p.1 ps)++p::ps.drop (posOf p.1 ps+1):=by
 obtain⟨v,hv⟩:=fD h
 conv=>lhs;rw[dI hv]
 rw[nO (eF _ _)];simp[ins,aJ]
theorem Kc{o:Nat}(ho:2<=o)(p:Pr){lo:Nat}{x:List Pr}(h:lo<=x.length/\x.length<=2*o-1):yV x p=ins p x/\lo<=(yV x p).length/\(yV x p).length<=2*o:=by
 unfold yV;split
 ·rename_i hh;obtain⟨v,hv⟩:=fD hh;have hi:=(List.getElem?_eq_some_iff.1 hv).1;refine⟨(NW hh).symm,?_⟩;simp only[List.length_append,List.length_take,List.length_cons,List.length_drop];omega
 ·rename_i hh;simp only[Bool.not_eq_true]at hh;have hi:=dZ p.1 x;refine⟨(Re hh).symm,?_⟩;simp only[List.length_append,List.length_take,List.length_cons,List.length_drop];omega
theorem Bi{d o:Nat}{p:Pr}{ps:List Pr}{ks:List ND}(h:hit p.1 ps=true):gp (d+1) (.mk ps ks) p o=.mk (ps.take (posOf p.1 ps)++p::ps.drop (posOf p.1 ps+1)) ks:=if_pos h
theorem FJ{d o:Nat}{p:Pr}{ps:List Pr}{ks:List ND}{k:ND}(h:hit p.1 ps=false)(hk:ks[posOf p.1 ps]?=some k):gp (d+1) (.mk ps ks) p o=
  if 2*o-1<(gp d k p o).ps.length then lY d (.mk ps (ks.take (posOf p.1 ps)++gp d k p o::ks.drop (posOf p.1 ps+1))) (posOf p.1 ps) o else(.mk ps (ks.take (posOf p.1 ps)++gp d k p o::ks.drop (posOf p.1 ps+1))):=by
 have e:ks[posOf p.1 ps]?.getD Bg=k:=by rw[hk];rfl
 have:gp (d+1) (.mk ps ks) p o=(if hit p.1 ps=true then _ else _):=rfl;rw[this,if_neg (by simp[h])];simp only[ND.bW,ND.cM,e]
theorem pS{o:Nat}(ho:2<=o)(p:Pr): ∀{d lo:Nat} {x:ND},eX d o lo (2*o-1) x->Up (ba d x)->ba d (gp d x p o)=ins p (ba d x)/\eX d o lo (2*o) (gp d x p o)
 |0,lo,.mk ps ks,h,hu=>by have h0:=Kc ho p ⟨h.1,h.2.1⟩;exact⟨h0.1,h0.2.1,h0.2.2,rfl⟩
 |d+1,lo,.mk ps ks,h,hu=>by
  obtain⟨h1,h2,hl,ha⟩:=h;simp only[ND.bW,ND.cM]at h1 h2 hl ha;have hi:=dZ p.1 ps;obtain⟨k,hk⟩: ∃k,ks[posOf p.1 ps]?=some k:=⟨_,List.getElem?_eq_getElem (by omega)⟩;have hkm:k∈ks:=List.mem_of_getElem? hk;by_cases hh:hit p.1 ps=true
  ·rw[Bi hh];obtain⟨v,hv⟩:=fD hh;have hlt:=(List.getElem?_eq_some_iff.1 hv).1;constructor
   ·rw[jF hk hl]at hu⊢
    have hd:ps.drop (posOf p.1 ps)=(p.1,v)::ps.drop (posOf p.1 ps+1):=by rw[List.drop_eq_getElem_cons hlt];congr 1;have:=(List.getElem?_eq_some_iff.1 hv).2;exact this
    have hall:=(List.pairwise_append.1 hu).2.2;have hkl: ∀q∈pre ((ks.take (posOf p.1 ps)).map (ba d)) (ps.take (posOf p.1 ps))++ba d k,q.1<p.1:=fun q hq=>hall q hq (p.1,v) (by rw[hd];simp[post]);rw[nO hkl,hd];simp only[post,ins,aJ,if_true,if_false];have h4:=sN (d:=d) (ps:=ps.take (posOf p.1 ps)++p::ps.drop (posOf p.1 ps+1)) hk (by simp;omega) k;rw[<-dI hk]at h4;rw[h4];have e1:(ps.take (posOf p.1 ps)++p::ps.drop (posOf p.1 ps+1)).take (posOf p.1 ps)=ps.take (posOf p.1 ps):=by simp[Nat.min_eq_left hi]
    have e2:(ps.take (posOf p.1 ps)++p::ps.drop (posOf p.1 ps+1)).drop (posOf p.1 ps)=p::ps.drop (posOf p.1 ps+1):=by simp[Nat.min_eq_left hi]
    rw[e1,e2];simp[post]
   ·refine⟨?_,?_,?_,ha⟩<;>simp[ND.bW,ND.cM]<;>omega
  ·simp only[Bool.not_eq_true]at hh;rw[FJ hh hk];have Yh:Up (ba d k):=by rw[jF hk hl]at hu;exact hu.left.right
   obtain⟨e,hw⟩:=pS ho p (ha k hkm) Yh
   have hins:ins p (ba (d+1) (.mk ps ks))=pre ((ks.take (posOf p.1 ps)).map (ba d)) (ps.take (posOf p.1 ps))++ba d (gp d k p o)++post (ps.drop (posOf p.1 ps)) ((ks.drop (posOf p.1 ps+1)).map (ba d)):=by rw[jF hk hl]at hu⊢;rw[List.append_assoc,nO (yT hu.left.left (eF _ _)),Bd (by rw[lu,gW];exact fun q hq=>qQ hh hq),e,List.append_assoc]
   by_cases fc:2*o-1<(gp d k p o).ps.length
   ·rw[if_pos fc];have hlen:=hw.len;have hcut:=FI (by omega) (hw.re (lo':=2*o) (hi':=2*o) (by omega) (by omega));have hcw:=Kb ho (hw.re (lo':=2*o) (hi':=2*o) (by omega) (by omega))
    have Yi:(ks.take (posOf p.1 ps)++gp d k p o::ks.drop (posOf p.1 ps+1))[posOf p.1 ps]?=some (gp d k p o):=by rw[List.getElem?_append_right (by simp;omega)];simp[Nat.min_eq_left (show posOf p.1 ps<=ks.length by omega)]
    simp only[lY,ND.bW,ND.cM,Yi,Option.getD_some]
    have e3:(ks.take (posOf p.1 ps)++gp d k p o::ks.drop (posOf p.1 ps+1)).take (posOf p.1 ps)=ks.take (posOf p.1 ps):=by simp[Nat.min_eq_left (show posOf p.1 ps<=ks.length by omega)]
    have e4:(ks.take (posOf p.1 ps)++gp d k p o::ks.drop (posOf p.1 ps+1)).drop (posOf p.1 ps+1)=ks.drop (posOf p.1 ps+1):=by simp[List.drop_append,Nat.min_eq_left (show posOf p.1 ps<=ks.length by omega)]
    rw[e3,e4];constructor
    ·rw[sO _ _ _ hi (by omega),hcut,hins]
    ·refine⟨by simp[ND.bW];omega,by simp[ND.bW];omega,by simp[ND.bW,ND.cM];omega,fun z hz=>?_⟩;simp only[ND.cM,List.mem_append,List.mem_cons]at hz;rcases hz with hz|rfl|rfl|hz
     ·exact ha z (List.mem_of_mem_take hz)
     ·exact hcw.1
     ·exact hcw.2
     ·exact ha z (List.mem_of_mem_drop hz)
   ·rw[if_neg fc];have hlen:=hw.len;constructor
    ·rw[sN hk hl,hins]
    ·refine⟨h1,by simp only[ND.bW];omega,by simp[ND.bW,ND.cM];omega,fun z hz=>?_⟩;simp only[ND.cM,List.mem_append,List.mem_cons]at hz;rcases hz with hz|rfl|hz
     ·exact ha z (List.mem_of_mem_take hz)
     ·exact hw.re hlen.1 (by omega)
     ·exact ha z (List.mem_of_mem_drop hz)
def dN:Nat->ND->Pr->ND->ND×Pr×ND
 |0,l,s,r=>(.mk (l.ps.take (l.ps.length-1)) [],l.ps[l.ps.length-1]?.getD ([],[]),.mk (s::r.ps) [])
 |_+1,l,s,r=>(.mk (l.ps.take (l.ps.length-1)) (l.ks.take (l.ks.length-1)),l.ps[l.ps.length-1]?.getD ([],[]),.mk (s::r.ps) (l.ks[l.ks.length-1]?.getD Bg::r.ks))
def fO:Nat->ND->Pr->ND->ND×Pr×ND
 |0,l,s,r=>(.mk (l.ps++[s]) [],r.ps[0]?.getD ([],[]),.mk (r.ps.drop 1) [])
 |_+1,l,s,r=>(.mk (l.ps++[s]) (l.ks++[r.ks[0]?.getD Bg]),r.ps[0]?.getD ([],[]),.mk (r.ps.drop 1) (r.ks.drop 1))
def kE(l:ND)(s:Pr)(r:ND):ND:=.mk (l.ps++s::r.ps) (l.ks++r.ks)
theorem jG{α:Type}{l:List α}(h:1<=l.length):l=l.take (l.length-1)++[l[l.length-1]'(by omega)]:=by have:=dI (List.getElem?_eq_getElem (l:=l) (i:=l.length-1) (by omega));rw[show l.length-1+1=l.length by omega]at this;simpa using this
theorem py{α:Type}{l:List α}(h:1<=l.length):l=l[0]'(by omega)::l.drop 1:=by have:=dI (List.getElem?_eq_getElem (l:=l) (i:=0) (by omega));simpa using this
theorem xA{a:List (List Pr)}{x:List Pr}(h:a.length=x.length+1)(s:Pr)(k:List Pr):flat (a++[k]) (x++[s])=flat a x++s::k:=by
 have hl:=jG (l:=a) (by omega);generalize a.take (a.length-1)=a1,a[a.length-1]'(by omega)=a2 at hl;subst hl;have hlen:a1.length=x.length:=by simpa using h
 have h1:=Bc hlen a2 k s [] [];simp only[post,List.append_nil]at h1;rw[List.append_assoc];simp only[List.cons_append,List.nil_append];rw[h1,xy hlen];simp
theorem xB: ∀{a b:List (List Pr)} {x y:List Pr},a.length=x.length+1->b≠[]-> ∀s,flat (a++b) (x++s::y)=flat a x++s::flat b y
 |[k],b,[],y,_,hb,s=>by
  cases b with
  |nil=>exact absurd rfl hb
  |cons k' b=>simp[flat]
 |k::a,b,p::x,y,h,hb,s=>by have ih:=xB (a:=a) (b:=b) (x:=x) (y:=y) (by simpa using h) hb s;simp[flat,ih]
 |[],b,x,y,h,hb,s=>by simp at h
 |k::k'::a,b,[],y,h,hb,s=>by simp at h
theorem Dy{d o lo hi lo' hi':Nat}{l r:ND}{s:Pr}(h:eX d o lo hi l)(h':eX d o lo' hi' r)(h1:1<=lo):ba d (dN d l s r).1++(dN d l s r).2.1::ba d (dN d l s r).2.2=ba d l++s::ba d r:=by
 have hl:=h.len
 cases d with
 |zero=>
  obtain⟨ps,ks⟩:=l;simp only[ND.bW]at hl;have hsp:=jG (l:=ps) (by omega);have hx:ps[ps.length-1]?=some (ps[ps.length-1]'(by omega)):=List.getElem?_eq_getElem _;simp only[dN,ba,ND.bW,hx,Option.getD_some]
  conv=>rhs;rw[hsp]
  simp only[List.append_assoc,List.cons_append,List.nil_append]
 |succ d=>
  obtain⟨ps,ks⟩:=l;obtain⟨qs,js⟩:=r;obtain⟨_,_,hk,ha⟩:=h;obtain⟨_,_,hk',ha'⟩:=h';simp only[ND.bW,ND.cM]at hl hk ha hk' ha';have hsp:=jG (l:=ps) (by omega);have hsk:=jG (l:=ks) (by omega);have hx:ps[ps.length-1]?=some (ps[ps.length-1]'(by omega)):=List.getElem?_eq_getElem _;have hy:ks[ks.length-1]?=some (ks[ks.length-1]'(by omega)):=List.getElem?_eq_getElem _;simp only[dN,ba,ND.bW,ND.cM,hx,hy,Option.getD_some];generalize hgp:ps.take (ps.length-1)=p1 at *;generalize ps[ps.length-1]'(by omega)=p2 at *;generalize JL:ks.take (ks.length-1)=k1 at *;generalize ks[ks.length-1]'(by omega)=k2 at *;have hlen:k1.length=p1.length+1:=by rw[<-hgp,<-JL];simp;omega
  rw[hsp,hsk];have e1:=xA (a:=k1.map (ba d)) (x:=p1) (by simpa using hlen) p2 (ba d k2);simp only[List.map_append,List.map_cons,List.map_nil];rw[e1]
  cases js with
  |nil=>simp at hk'
  |cons j js=>simp[flat]
theorem Hf{d o lo hi lo' hi':Nat}{l r:ND}{s:Pr}(h:eX d o lo hi l)(h':eX d o lo' hi' r)(h1:1<=lo'):ba d (fO d l s r).1++(fO d l s r).2.1::ba d (fO d l s r).2.2=ba d l++s::ba d r:=by
 have hl:=h'.len
 cases d with
 |zero=>
  obtain⟨ps,ks⟩:=r;simp only[ND.bW]at hl;have hsp:=py (l:=ps) (by omega);have hx:ps[0]?=some (ps[0]'(by omega)):=List.getElem?_eq_getElem _;simp only[fO,ba,ND.bW,hx,Option.getD_some]
  conv=>rhs;rw[hsp]
  simp only[List.append_assoc,List.cons_append,List.nil_append]
 |succ d=>obtain⟨ps,ks⟩:=r;obtain⟨qs,js⟩:=l;obtain⟨_,_,hk,ha⟩:=h';obtain⟨_,_,hk',ha'⟩:=h;simp only[ND.bW,ND.cM]at hl hk ha hk' ha';have hsp:=py (l:=ps) (by omega);have hsk:=py (l:=ks) (by omega);have hx:ps[0]?=some (ps[0]'(by omega)):=List.getElem?_eq_getElem _;have hy:ks[0]?=some (ks[0]'(by omega)):=List.getElem?_eq_getElem _;simp only[fO,ba,ND.bW,ND.cM,hx,hy,Option.getD_some];generalize hgp:ps.drop 1=p1 at *;generalize ps[0]'(by omega)=p2 at *;generalize JL:ks.drop 1=k1 at *;generalize ks[0]'(by omega)=k2 at *;rw[hsp,hsk];have e1:=xA (a:=js.map (ba d)) (x:=qs) (by simpa using hk') s (ba d k2);simp only[List.map_append,List.map_cons,List.map_nil];rw[e1];simp[flat]
theorem xC{d o lo hi lo' hi':Nat}{l r:ND}{s:Pr}(h:eX d o lo hi l)(h':eX d o lo' hi' r):ba d (kE l s r)=ba d l++s::ba d r:=by
 cases d with
 |zero=>simp[kE,ba]
 |succ d=>obtain⟨ps,ks⟩:=l;obtain⟨qs,js⟩:=r;obtain⟨_,_,hk,_⟩:=h;obtain⟨_,_,hk',_⟩:=h';simp only[ND.bW,ND.cM]at hk hk';have:=xB (a:=ks.map (ba d)) (b:=js.map (ba d)) (x:=ps) (y:=qs) (by simpa using hk) (by intro e;rw[List.map_eq_nil_iff]at e;rw[e]at hk';simp at hk') s;simpa[kE,ba]using this
theorem Hg{d o lo hi lo' hi':Nat}{l r:ND}{s:Pr}(h:eX d o lo hi l)(h':eX d o lo' hi' r)(h1:1<=lo):eX d o (lo-1) (hi-1) (dN d l s r).1/\eX d o (lo'+1) (hi'+1) (dN d l s r).2.2:=by
 obtain⟨ps,ks⟩:=l;obtain⟨qs,js⟩:=r
 cases d with
 |zero=>obtain⟨a1,a2,_⟩:=h;obtain⟨b1,b2,_⟩:=h';simp only[ND.bW]at a1 a2 b1 b2;refine⟨⟨?_,?_,rfl⟩,?_,?_,rfl⟩<;>simp[dN]<;>omega
 |succ d=>
  obtain⟨a1,a2,a3,a4⟩:=h;obtain⟨b1,b2,b3,b4⟩:=h';simp only[ND.bW,ND.cM]at a1 a2 a3 a4 b1 b2 b3 b4;have hy:ks[ks.length-1]?=some (ks[ks.length-1]'(by omega)):=List.getElem?_eq_getElem _;refine⟨⟨?_,?_,?_,fun k hk=>a4 k ?_⟩,?_,?_,?_,fun k hk=>?_⟩
  ·simp[dN];omega
  ·simp[dN];omega
  ·simp[dN];omega
  ·simp only[dN,ND.cM]at hk;exact List.mem_of_mem_take hk
  ·simp[dN];omega
  ·simp[dN];omega
  ·simp[dN];omega
  ·simp only[dN,ND.cM,hy,Option.getD_some]at hk;rcases List.mem_cons.1 hk with rfl|hk
   ·exact a4 _ (List.getElem_mem _)
   ·exact b4 k hk
theorem Ke{d o lo hi lo' hi':Nat}{l r:ND}{s:Pr}(h:eX d o lo hi l)(h':eX d o lo' hi' r)(h1:1<=lo'):eX d o (lo+1) (hi+1) (fO d l s r).1/\eX d o (lo'-1) (hi'-1) (fO d l s r).2.2:=by
 obtain⟨ps,ks⟩:=l;obtain⟨qs,js⟩:=r
 cases d with
 |zero=>obtain⟨a1,a2,_⟩:=h;obtain⟨b1,b2,_⟩:=h';simp only[ND.bW]at a1 a2 b1 b2;refine⟨⟨?_,?_,rfl⟩,?_,?_,rfl⟩<;>simp[fO]<;>omega
 |succ d=>
  obtain⟨a1,a2,a3,a4⟩:=h;obtain⟨b1,b2,b3,b4⟩:=h';simp only[ND.bW,ND.cM]at a1 a2 a3 a4 b1 b2 b3 b4;have hy:js[0]?=some (js[0]'(by omega)):=List.getElem?_eq_getElem _;refine⟨⟨?_,?_,?_,fun k hk=>?_⟩,?_,?_,?_,fun k hk=>b4 k ?_⟩
  ·simp[fO];omega
  ·simp[fO];omega
  ·simp[fO];omega
  ·simp only[fO,ND.cM,hy,Option.getD_some]at hk;rcases List.mem_append.1 hk with hk|hk
   ·exact a4 k hk
   ·rw[List.mem_singleton]at hk;subst hk;exact b4 _ (List.getElem_mem _)
  ·simp[fO];omega
  ·simp[fO];omega
  ·simp[fO];omega
  ·simp only[fO,ND.cM]at hk;exact List.mem_of_mem_drop hk
theorem Bj{d o lo hi lo' hi':Nat}{l r:ND}{s:Pr}(h:eX d o lo hi l)(h':eX d o lo' hi' r):eX d o (lo+lo'+1) (hi+hi'+1) (kE l s r):=by
 obtain⟨ps,ks⟩:=l;obtain⟨qs,js⟩:=r
 cases d with
 |zero=>obtain⟨a1,a2,a3⟩:=h;obtain⟨b1,b2,b3⟩:=h';simp only[ND.bW,ND.cM]at a1 a2 b1 b2 a3 b3;subst a3 b3;refine⟨?_,?_,rfl⟩<;>simp[kE]<;>omega
 |succ d=>
  obtain⟨a1,a2,a3,a4⟩:=h;obtain⟨b1,b2,b3,b4⟩:=h';simp only[ND.bW,ND.cM]at a1 a2 a3 a4 b1 b2 b3 b4;refine⟨?_,?_,?_,fun k hk=>?_⟩
  ·simp[kE];omega
  ·simp[kE];omega
  ·simp[kE];omega
  ·simp only[kE,ND.cM]at hk;rcases List.mem_append.1 hk with hk|hk
   ·exact a4 k hk
   ·exact b4 k hk
def sA(x:ND)(i:Nat)(c:ND×Pr×ND):ND:=.mk (x.ps.take i++c.2.1::x.ps.drop (i+1)) (x.ks.take i++c.1::c.2.2::x.ks.drop (i+2))
def sB(x:ND)(i:Nat)(k:ND):ND:=.mk (x.ps.take i++x.ps.drop (i+1)) (x.ks.take i++k::x.ks.drop (i+2))
def aQ(x:ND)(i:Nat):ND:=x.ks[i]?.getD Bg
def gi(x:ND)(i:Nat):Pr:=x.ps[i]?.getD ([],[])
def jd(d:Nat)(x:ND)(i o:Nat):ND:=
 if o-1<=(aQ x i).ps.length then x
 else if 0<i/\o-1<(aQ x (i-1)).ps.length then sA x (i-1) (dN d (aQ x (i-1)) (gi x (i-1)) (aQ x i))
 else if i+1<x.ks.length/\o-1<(aQ x (i+1)).ps.length then sA x i (fO d (aQ x i) (gi x i) (aQ x (i+1)))
 else if 0<i then sB x (i-1) (kE (aQ x (i-1)) (gi x (i-1)) (aQ x i))
 else sB x i (kE (aQ x i) (gi x i) (aQ x (i+1)))
theorem df{x:ND}{i:Nat}(h:i<x.ks.length):x.ks[i]?=some (aQ x i):=by unfold aQ;rw[List.getElem?_eq_getElem h];rfl
theorem NY{x:ND}{i:Nat}(h:i<x.ps.length):x.ps[i]?=some (gi x i):=by unfold gi;rw[List.getElem?_eq_getElem h];rfl
theorem dD(x:ND):ND.mk x.ps x.ks=x:=by cases x;rfl
theorem xD{α:Type}{l:List α}{i:Nat}{x y:α}(h:l[i]?=some x)(h':l[i+1]?=some y):l=l.take i++x::y::l.drop (i+2):=by
 have h1:=dI h;have hlt:=(List.getElem?_eq_some_iff.1 h').1
 have h2:l.drop (i+1)=y::l.drop (i+2):=by rw[List.drop_eq_getElem_cons hlt,(List.getElem?_eq_some_iff.1 h').2]
 rw[h2]at h1;exact h1
theorem Bk{d:Nat}{x:ND}{i:Nat}(hl:x.ks.length=x.ps.length+1)(hi:i<x.ps.length):
  ba (d+1) x=pre ((x.ks.take i).map (ba d)) (x.ps.take i)++(ba d (aQ x i)++gi x i::ba d (aQ x (i+1)))++post (x.ps.drop (i+1)) ((x.ks.drop (i+2)).map (ba d)):=by
 have h1:=sO (d:=d) (ps:=x.ps) (ps':=x.ps.drop (i+1)) (ks:=x.ks) (ks':=x.ks.drop (i+2)) (i:=i) (aQ x i) (aQ x (i+1)) (gi x i) (by omega) (by omega);rw[<-dI (NY hi),<-xD (df (by omega)) (df (by omega)),dD]at h1;exact h1
theorem Bl{d:Nat}{x:ND}{i:Nat}{c:ND×Pr×ND}(hl:x.ks.length=x.ps.length+1)(hi:i<x.ps.length)(hc:ba d c.1++c.2.1::ba d c.2.2=ba d (aQ x i)++gi x i::ba d (aQ x (i+1))):ba (d+1) (sA x i c)=ba (d+1) x:=by rw[Bk hl hi,<-hc];exact sO (d:=d) c.1 c.2.2 c.2.1 (by omega) (by omega)
theorem Bn{d:Nat}{x:ND}{i:Nat}{k:ND}(hl:x.ks.length=x.ps.length+1)(hi:i<x.ps.length)(hc:ba d k=ba d (aQ x i)++gi x i::ba d (aQ x (i+1))):ba (d+1) (sB x i k)=ba (d+1) x:=by rw[Bk hl hi,<-hc];have:=tI (a:=(x.ks.take i).map (ba d)) (x:=x.ps.take i) (by simp;omega) (ba d k) ((x.ks.drop (i+2)).map (ba d)) (x.ps.drop (i+1));simpa[sB,ba]using this
def tL(d o i lo hi:Nat)(x:ND):Prop:=lo<=x.ps.length/\x.ps.length<=hi/\x.ks.length=x.ps.length+1/\i<x.ks.length/\(∀j,j≠i-> ∀k,x.ks[j]?=some k->eX d o (o-1) (2*o-1) k)/\eX d o (o-2) (2*o-1) (aQ x i)
theorem tL.kid{d o i lo hi:Nat}{x:ND}(h:tL d o i lo hi x){j:Nat}(hj:j≠i)(hl:j<x.ks.length):eX d o (o-1) (2*o-1) (aQ x j):=h.2.2.2.2.1 j hj _ (df hl)
theorem Dz{α:Type}{l:List α}{x:α}(h:x∈l): ∃j:Nat,l[j]?=some x:=List.getElem?_of_mem h
theorem tL.all{d o i lo hi:Nat}{x:ND}(h:tL d o i lo hi x)(hk:o-1<=(aQ x i).ps.length):eX (d+1) o lo hi x:=by
 refine⟨h.1,h.2.1,h.2.2.1,fun k hk'=>?_⟩;obtain⟨j,hj⟩:=Dz hk';by_cases e:j=i
 ·subst e;rw[df (List.getElem?_eq_some_iff.1 hj).1]at hj;injection hj with hj;subst hj;exact h.2.2.2.2.2.re hk h.2.2.2.2.2.len.2
 ·exact h.2.2.2.2.1 j e k hj
theorem tL.rest{d o i lo hi:Nat}{x:ND}(h:tL d o i lo hi x){k:ND}{a b:Nat}(ha:a<=i)(hb:i<b)(hk:k∈x.ks.take a\/k∈x.ks.drop b):eX d o (o-1) (2*o-1) k:=by
 rcases hk with hk|hk
 ·obtain⟨j,hj⟩:=Dz hk;have hlt:=(List.getElem?_eq_some_iff.1 hj).1;rw[List.length_take]at hlt;exact h.2.2.2.2.1 j (by omega) k (by rw[List.getElem?_take]at hj;split at hj;exact hj;cases hj)
 ·obtain⟨j,hj⟩:=Dz hk;rw[List.getElem?_drop]at hj;exact h.2.2.2.2.1 (b+j) (by omega) k hj
theorem FK{d o i m lo hi:Nat}{x:ND}{c:ND×Pr×ND}(h:tL d o m lo hi x)(hm:m=i\/m=i+1)(hi':i<x.ps.length)(h1:eX d o (o-1) (2*o-1) c.1)(h2:eX d o (o-1) (2*o-1) c.2.2):eX (d+1) o lo hi (sA x i c):=by
 have h':=h;obtain⟨a1,a2,a3,_⟩:=h;refine⟨by simp[sA];omega,by simp[sA];omega,by simp[sA];omega,fun k hk=>?_⟩;simp only[sA,ND.cM,List.mem_append,List.mem_cons]at hk;rcases hk with hk|rfl|rfl|hk
 ·exact h'.rest (a:=i) (b:=i+2) (by omega) (by omega) (.inl hk)
 ·exact h1
 ·exact h2
 ·exact h'.rest (a:=i) (b:=i+2) (by omega) (by omega) (.inr hk)
theorem FL{d o i m lo hi:Nat}{x:ND}{c:ND}(h:tL d o m lo hi x)(hm:m=i\/m=i+1)(hi':i<x.ps.length)(h1:eX d o (o-1) (2*o-1) c):eX (d+1) o (lo-1) hi (sB x i c):=by
 have h':=h;obtain⟨a1,a2,a3,_⟩:=h;refine⟨by simp[sB];omega,by simp[sB];omega,by simp[sB];omega,fun k hk=>?_⟩;simp only[sB,ND.cM,List.mem_append,List.mem_cons]at hk;rcases hk with hk|rfl|hk
 ·exact h'.rest (a:=i) (b:=i+2) (by omega) (by omega) (.inl hk)
 ·exact h1
 ·exact h'.rest (a:=i) (b:=i+2) (by omega) (by omega) (.inr hk)
theorem tM{d o i lo hi:Nat}{x:ND}(ho:2<=o)(hlo:1<=lo)(h:tL d o i lo hi x):ba (d+1) (jd d x i o)=ba (d+1) x/\eX (d+1) o (lo-1) hi (jd d x i o):=by
 have h':=h;obtain⟨a1,a2,a3,a4,_,a6⟩:=h;unfold jd;by_cases c1:o-1<=(aQ x i).ps.length
 ·rw[if_pos c1];have:=h'.all c1;exact⟨rfl,this.re (by omega) this.len.2⟩
 ·rw[if_neg c1];have w0:eX d o (o-2) (o-2) (aQ x i):=a6.re a6.len.1 (by omega);by_cases c2:0<i/\o-1<(aQ x (i-1)).ps.length
  ·rw[if_pos c2];have wl:=h'.kid (j:=i-1) (by omega) (by omega);have Hh:=wl.re (lo':=o) (hi':=2*o-1) (by omega) wl.len.2;have e:i-1+1=i:=by omega
   have hr:=Dy (s:=gi x (i-1)) Hh w0 (by omega);have hw:=Hg (s:=gi x (i-1)) Hh w0 (by omega);have hw1:=hw.1.re (lo':=o-1) (hi':=2*o-1) (by have:=hw.1.len;omega) (by have:=hw.1.len;omega);have hw2:=hw.2.re (lo':=o-1) (hi':=2*o-1) (by have:=hw.2.len;omega) (by have:=hw.2.len;omega);have hn:=FK (i:=i-1) h' (.inr e.symm) (by omega) hw1 hw2;exact⟨Bl a3 (by omega) (by rw[e];exact hr),hn.re (by have:=hn.len;omega) hn.len.2⟩
  ·rw[if_neg c2];by_cases c3:i+1<x.ks.length/\o-1<(aQ x (i+1)).ps.length
   ·rw[if_pos c3];have wr:=h'.kid (j:=i+1) (by omega) (by omega);have wr':=wr.re (lo':=o) (hi':=2*o-1) (by omega) wr.len.2;have hr:=Hf (s:=gi x i) w0 wr' (by omega);have hw:=Ke (s:=gi x i) w0 wr' (by omega);have hw1:=hw.1.re (lo':=o-1) (hi':=2*o-1) (by have:=hw.1.len;omega) (by have:=hw.1.len;omega);have hw2:=hw.2.re (lo':=o-1) (hi':=2*o-1) (by have:=hw.2.len;omega) (by have:=hw.2.len;omega);have hn:=FK (i:=i) h' (.inl rfl) (by omega) hw1 hw2;exact⟨Bl a3 (by omega) hr,hn.re (by have:=hn.len;omega) hn.len.2⟩
   ·rw[if_neg c3];by_cases c4:0<i
    ·rw[if_pos c4];have wl:=h'.kid (j:=i-1) (by omega) (by omega);have Hh:=wl.re (lo':=o-1) (hi':=o-1) wl.len.1 (by omega);have e:i-1+1=i:=by omega
     have hr:=xC (s:=gi x (i-1)) Hh w0;have hw:=Bj (s:=gi x (i-1)) Hh w0;have hw1:=hw.re (lo':=o-1) (hi':=2*o-1) (by have:=hw.len;omega) (by have:=hw.len;omega);exact⟨Bn a3 (by omega) (by rw[e];exact hr),FL (i:=i-1) h' (.inr e.symm) (by omega) hw1⟩
    ·rw[if_neg c4];have wl:=h'.kid (j:=i+1) (by omega) (by omega);have Hh:=wl.re (lo':=o-1) (hi':=o-1) wl.len.1 (by omega);have hr:=xC (s:=gi x i) w0 Hh;have hw:=Bj (s:=gi x i) w0 Hh;have hw1:=hw.re (lo':=o-1) (hi':=2*o-1) (by have:=hw.len;omega) (by have:=hw.len;omega);exact⟨Bn a3 (by omega) hr,FL (i:=i) h' (.inl rfl) (by omega) hw1⟩
def pz(x:ND)(i:Nat)(k:ND):ND:=.mk x.ps (x.ks.take i++k::x.ks.drop (i+1))
theorem FM{x:ND}{i:Nat}(hi:i<x.ks.length)(k:ND)(j:Nat):(pz x i k).ks[j]?=if j=i then some k else x.ks[j]?:=by
 simp only[pz,ND.cM];rw[List.getElem?_append,List.length_take,Nat.min_eq_left (by omega)];by_cases h1:j<i
 ·rw[if_pos h1,if_neg (by omega),List.getElem?_take,if_pos h1]
 ·rw[if_neg h1];by_cases h2:j=i
  ·subst h2;simp
  ·rw[if_neg h2,List.getElem?_cons,if_neg (by omega),List.getElem?_drop];congr 1;omega
theorem Bo{x:ND}{i:Nat}(hi:i<x.ks.length)(k:ND):(pz x i k).ks.length=x.ks.length:=by simp[pz];omega
theorem jy{d o i lo hi:Nat}{x k:ND}(h:eX (d+1) o lo hi x)(hi':i<x.ks.length)(hk:eX d o (o-2) (2*o-1) k):tL d o i lo hi (pz x i k):=by
 obtain⟨a1,a2,a3,a4⟩:=h;refine⟨a1,a2,by rw[Bo hi'];exact a3,by rw[Bo hi'];exact hi',fun j hj k' hk'=>?_,?_⟩
 ·rw[FM hi',if_neg hj]at hk';exact a4 k' (List.mem_of_getElem? hk')
 ·unfold aQ;rw[FM hi',if_pos rfl];exact hk
theorem tN{d i:Nat}{x k:ND}(hl:x.ks.length=x.ps.length+1)(hi':i<x.ks.length):ba (d+1) (pz x i k)=pre ((x.ks.take i).map (ba d)) (x.ps.take i)++ba d k++post (x.ps.drop i) ((x.ks.drop (i+1)).map (ba d)):=sN (df hi') hl k
theorem yX{d i:Nat}{x:ND}(hl:x.ks.length=x.ps.length+1)(hi':i<x.ks.length):ba (d+1) x=pre ((x.ks.take i).map (ba d)) (x.ps.take i)++ba d (aQ x i)++post (x.ps.drop i) ((x.ks.drop (i+1)).map (ba d)):=by have:=jF (d:=d) (df hi') hl;rw[dD]at this;exact this
def fI:Nat->ND->Nat->ND×Pr
 |0,x,_=>(.mk (x.ps.take (x.ps.length-1)) [],x.ps[x.ps.length-1]?.getD ([],[]))
 |d+1,x,o=>
  let r:=fI d (aQ x (x.ks.length-1)) o
  (jd d (pz x (x.ks.length-1) r.1) (x.ks.length-1) o,r.2)
theorem pT{o:Nat}(ho:2<=o): ∀{d lo hi:Nat} {x:ND},eX d o lo hi x->1<=lo->ba d x=ba d (fI d x o).1++[(fI d x o).2]/\eX d o (lo-1) hi (fI d x o).1
 |0,lo,hi,.mk ps ks,h,h1=>by obtain⟨a1,a2,a3⟩:=h;simp only[ND.bW]at a1 a2;have hsp:=jG (l:=ps) (by omega);have hx:ps[ps.length-1]?=some (ps[ps.length-1]'(by omega)):=List.getElem?_eq_getElem _;refine⟨?_,by simp[fI];omega,by simp[fI];omega,rfl⟩;simp only[fI,ba,ND.bW,hx,Option.getD_some];exact hsp
 |d+1,lo,hi,x,h,h1=>by
  have hw:=h;obtain⟨a1,a2,a3,a4⟩:=h;have hi':x.ks.length-1<x.ks.length:=by omega
  have wk:=a4 _ (List.mem_of_getElem? (df hi'));obtain⟨e,w⟩:=pT ho wk (by omega);have hm:=tM ho h1 (jy hw hi' w);simp only[fI];refine⟨?_,hm.2⟩;rw[hm.1,tN a3 hi',yX (i:=x.ks.length-1) a3 hi',e];have:x.ps.drop (x.ks.length-1)=[]:=List.drop_eq_nil_of_le (by omega);rw[this];simp[post]
def mS(x:ND)(i:Nat)(p:Pr):ND:=.mk (x.ps.take i++p::x.ps.drop (i+1)) x.ks
def lZ:Nat->ND->List UInt8->Nat->ND
 |0,x,key,_=>if hit key x.ps then .mk (x.ps.take (posOf key x.ps)++x.ps.drop (posOf key x.ps+1)) []else x
 |d+1,x,key,o=>
  let i:=posOf key x.ps
  if hit key x.ps then
   let r:=fI d (aQ x i) o
   jd d (pz (mS x i r.2) i r.1) i o
  else jd d (pz x i (lZ d (aQ x i) key o)) i o
theorem xE{x:ND}{key:List UInt8}{o:Nat}(h:hit key x.ps=true):lZ 0 x key o=.mk (x.ps.take (posOf key x.ps)++x.ps.drop (posOf key x.ps+1)) []:=if_pos h
theorem tO{x:ND}{key:List UInt8}{o:Nat}(h:hit key x.ps=false):lZ 0 x key o=x:=if_neg (by simp[h])
theorem Bp{d:Nat}{x:ND}{key:List UInt8}{o:Nat}(h:hit key x.ps=true):lZ (d+1) x key o=jd d (pz (mS x (posOf key x.ps) (fI d (aQ x (posOf key x.ps)) o).2) (posOf key x.ps) (fI d (aQ x (posOf key x.ps)) o).1) (posOf key x.ps) o:=if_pos h
theorem yY{d:Nat}{x:ND}{key:List UInt8}{o:Nat}(h:hit key x.ps=false):lZ (d+1) x key o=jd d (pz x (posOf key x.ps) (lZ d (aQ x (posOf key x.ps)) key o)) (posOf key x.ps) o:=if_neg (by simp[h])
theorem Rf{key:List UInt8}{ps:List Pr}(h:hit key ps=false):del key ps=ps:=by
 conv=>lhs;rw[<-List.take_append_drop (posOf key ps) ps]
 rw[nQ (eF _ _)];have:=Be (key:=key) (a:=[]) (b:=ps.drop (posOf key ps)) (fun q hq=>qQ h (by rw[<-gW];exact hq));simp[del]at this;rw[this];simp
theorem NZ{key:List UInt8}{ps:List Pr}(h:hit key ps=true):del key ps=ps.take (posOf key ps)++ps.drop (posOf key ps+1):=by
 obtain⟨v,hv⟩:=fD h
 conv=>lhs;rw[dI hv]
 rw[nQ (eF _ _)];simp[del,aJ]
theorem yZ{o:Nat}(ho:2<=o)(key:List UInt8): ∀{d lo hi:Nat} {x:ND},eX d o lo hi x->1<=lo\/d=0->Up (ba d x)->ba d (lZ d x key o)=del key (ba d x)/\eX d o (lo-1) hi (lZ d x key o)
 |0,lo,hi,.mk ps ks,h,h1,hu=>by
  obtain⟨a1,a2,a3⟩:=h;simp only[ND.bW,ND.cM]at a1 a2 a3;by_cases hh:hit key ps=true
  ·obtain⟨v,hv⟩:=fD hh;have hlt:=(List.getElem?_eq_some_iff.1 hv).1;rw[xE (x:=.mk ps ks) hh];simp only[ND.bW];exact⟨(NZ hh).symm,by simp;omega,by simp;omega,rfl⟩
  ·simp only[Bool.not_eq_true]at hh;rw[tO (x:=.mk ps ks) hh];exact⟨(Rf hh).symm,by simp only[ND.bW];omega,by simp only[ND.bW];omega,a3⟩
 |d+1,lo,hi,x,h,h1,hu=>by
  have h1:1<=lo:=by rcases h1 with h1|h1;exact h1;cases h1
  have hw:=h;obtain⟨a1,a2,a3,a4⟩:=h;have hp:=dZ key x.ps;have hi':posOf key x.ps<x.ks.length:=by omega
  have wk:=a4 _ (List.mem_of_getElem? (df hi'));by_cases hh:hit key x.ps=true
  ·obtain⟨v,hv⟩:=fD hh;have hlt:=(List.getElem?_eq_some_iff.1 hv).1;obtain⟨e,w⟩:=pT ho wk (by omega);generalize hr:fI d (aQ x (posOf key x.ps)) o=r at e w;have Xq:eX (d+1) o lo hi (mS x (posOf key x.ps) r.2):=⟨by simp[mS];omega,by simp[mS];omega,by simp[mS];omega,a4⟩;have hm:=tM ho h1 (jy Xq (i:=posOf key x.ps) hi' w);rw[Bp hh,hr];refine⟨?_,hm.2⟩;rw[hm.1,tN (x:=mS x (posOf key x.ps) r.2) (by simp[mS];omega) hi'];rw[yX (i:=posOf key x.ps) a3 hi']at hu⊢
   have hd:x.ps.drop (posOf key x.ps)=(key,v)::x.ps.drop (posOf key x.ps+1):=by rw[List.drop_eq_getElem_cons hlt,(List.getElem?_eq_some_iff.1 hv).2]
   have hall:=(List.pairwise_append.1 hu).2.2;have hkl: ∀q∈pre ((x.ks.take (posOf key x.ps)).map (ba d)) (x.ps.take (posOf key x.ps))++ba d (aQ x (posOf key x.ps)),q.1<key:=fun q hq=>hall q hq (key,v) (by rw[hd];simp[post]);rw[nQ hkl,hd,e];have e1:(mS x (posOf key x.ps) r.2).ps.take (posOf key x.ps)=x.ps.take (posOf key x.ps):=by simp[mS,Nat.min_eq_left hp]
   have e2:(mS x (posOf key x.ps) r.2).ps.drop (posOf key x.ps)=r.2::x.ps.drop (posOf key x.ps+1):=by simp[mS,Nat.min_eq_left hp]
   rw[e1,e2];simp[post,del,aJ,mS]
  ·simp only[Bool.not_eq_true]at hh;have Yh:Up (ba d (aQ x (posOf key x.ps))):=by rw[yX (i:=posOf key x.ps) a3 hi']at hu;exact hu.left.right
   obtain⟨e,w⟩:=yZ ho key wk (.inl (by omega)) Yh;have hm:=tM ho h1 (jy hw (i:=posOf key x.ps) hi' w);rw[yY hh];refine⟨?_,hm.2⟩;rw[hm.1,tN a3 hi',e];rw[yX (i:=posOf key x.ps) a3 hi']at hu⊢;symm;rw[List.append_assoc,nQ (yT hu.left.left (eF _ _)),Be (by rw[lu,gW];exact fun q hq=>qQ hh hq),List.append_assoc]
theorem gX{key:List UInt8}{l:List Pr}{p:Pr}(h:ceil key l=some p):look key l=if p.1=key then some p.2 else none:=by unfold look;rw[h]
theorem nS{key:List UInt8}{l:List Pr}(h:ceil key l=none):look key l=none:=by unfold look;rw[h]
theorem qR{key v:List UInt8}{ps:List Pr}(hv:ps[posOf key ps]?=some (key,v)):look key ps=some v:=by rw[gX (by rw[lv];exact hv),if_pos rfl]
theorem Bq{key:List UInt8}{ps:List Pr}(h:hit key ps=false):look key ps=none:=by
 cases e:ps[posOf key ps]? with
 |none=>exact nS (by rw[lv];exact e)
 |some q=>rw[gX (by rw[lv];exact e),if_neg];intro e1;have:=qQ h e;rw[e1]at this;exact aJ _ this
theorem tP{d:Nat}{key v:List UInt8}{ps:List Pr}{ks:List ND}(hl:ks.length=ps.length+1)(hu:Up (ba (d+1) (.mk ps ks)))(h:hit key ps=true)(hv:ps[posOf key ps]?=some (key,v)):look key (ba (d+1) (.mk ps ks))=some v:=by rw[gX (by rw[Bh hl hu h];exact hv),if_pos rfl]
theorem y8{d:Nat}{key:List UInt8}{ps:List Pr}{ks:List ND}{k:ND}(hl:ks.length=ps.length+1)(hu:Up (ba (d+1) (.mk ps ks)))(h:hit key ps=false)(hk:ks[posOf key ps]?=some k):look key (ba (d+1) (.mk ps ks))=look key (ba d k):=by
 have hc:=yU hl hu hk
 cases e:ceil key (ba d k)with
 |some q=>rw[e,Option.some_or]at hc;rw[gX hc,gX e]
 |none=>
  rw[e,Option.none_or]at hc;rw[nS e]
  cases e1:ps[posOf key ps]? with
  |none=>exact nS (hc.trans e1)
  |some q=>rw[gX (hc.trans e1),if_neg];intro e2;have:=qQ h e1;rw[e2]at this;exact aJ _ this
theorem Up.kid{d:Nat}{ps:List Pr}{ks:List ND}{i:Nat}{k:ND}(hl:ks.length=ps.length+1)(hu:Up (ba (d+1) (.mk ps ks)))(hk:ks[i]?=some k):Up (ba d k):=by rw[jF hk hl]at hu;exact hu.left.right
structure Rw where
 a:Int
 b:Int
 c:Int
 d:Int
 deriving DecidableEq
def Rw.zero:Rw:=⟨0,0,0,0⟩
def Rw.aK(r:Rw):Nat->Int
 |0=>r.a
 |1=>r.b
 |2=>r.c
 |_=>r.d
def be:Nat->Nat->List UInt8
 |0,_=>[]
 |k+1,n=>UInt8.ofNat (n/256^k)::be k (n%256^k)
theorem DA: ∀(k n:Nat),(be k n).length=k
 |0,_=>rfl
 |k+1,n=>by simp[be,DA k]
theorem Ui{a b:Nat}(ha:a<256)(hb:b<256):UInt8.ofNat a<UInt8.ofNat b↔a<b:=by rw[UInt8.lt_iff_toNat_lt];simp only[UInt8.toNat_ofNat'];rw[Nat.mod_eq_of_lt (by simpa using ha),Nat.mod_eq_of_lt (by simpa using hb)]
theorem Uj{a b:Nat}(ha:a<256)(hb:b<256):UInt8.ofNat a=UInt8.ofNat b↔a=b:=by
 constructor
 ·intro h;have:=congrArg UInt8.toNat h;simp only[UInt8.toNat_ofNat']at this;rwa[Nat.mod_eq_of_lt (by simpa using ha),Nat.mod_eq_of_lt (by simpa using hb)]at this
 ·rintro rfl;rfl
theorem Hj{K m n:Nat}(hK:0<K):(m/K<n/K\/m/K=n/K/\m%K<n%K)↔m<n:=by
 have hm:=Nat.div_add_mod m K;have hn:=Nat.div_add_mod n K;have h1:=Nat.mod_lt m hK;have h2:=Nat.mod_lt n hK;generalize m/K=a at *;generalize n/K=b at *;generalize m%K=r at *;generalize n%K=s at *;subst hm hn;constructor
 ·rintro(h|⟨rfl,h⟩)
  ·have:K*(a+1)<=K*b:=Nat.mul_le_mul_left K h;rw[Nat.mul_add]at this;omega
  ·omega
 ·intro h;rcases Nat.lt_trichotomy a b with h'|h'|h'
  ·exact .inl h'
  ·subst h';exact .inr ⟨rfl,by omega⟩
  ·have:K*(b+1)<=K*a:=Nat.mul_le_mul_left K h';rw[Nat.mul_add]at this;omega
theorem Ql: ∀(k:Nat) {m n:Nat},m<256^k->n<256^k->(be k m<be k n↔m<n)
 |0,m,n,hm,hn=>by
  have:m=0:=by omega
  have:n=0:=by omega
  subst m n;simp[be]
 |k+1,m,n,hm,hn=>by
  have hK:0<256^k:=Nat.pow_pos (by decide);have h1:m/256^k<256:=by rw[Nat.div_lt_iff_lt_mul hK];rw[Nat.pow_succ]at hm;omega
  have h2:n/256^k<256:=by rw[Nat.div_lt_iff_lt_mul hK];rw[Nat.pow_succ]at hn;omega
  rw[be,be,List.cons_lt_cons_iff,Ui h1 h2,Uj h1 h2,Ql k (Nat.mod_lt _ hK) (Nat.mod_lt _ hK)];exact Hj hK
theorem pA: ∀{a b k l:List UInt8},a.length=b.length->(a++k<b++l↔a<b\/a=b/\k<l)
 |[],[],k,l,_=>by simp
 |x::a,y::b,k,l,h=>by
  have ih:=pA (a:=a) (b:=b) (k:=k) (l:=l) (by simpa using h);rw[List.cons_append,List.cons_append,List.cons_lt_cons_iff,List.cons_lt_cons_iff,ih,List.cons.injEq];constructor
  ·rintro(h|⟨h,h'|⟨h',h''⟩⟩)
   ·exact .inl (.inl h)
   ·exact .inl (.inr ⟨h,h'⟩)
   ·exact .inr ⟨⟨h,h'⟩,h''⟩
  ·rintro((h|⟨h,h'⟩)|⟨⟨h,h'⟩,h''⟩)
   ·exact .inl h
   ·exact .inr ⟨h,.inl h'⟩
   ·exact .inr ⟨h,.inr ⟨h',h''⟩⟩
theorem sP: ∀{a k:List UInt8},a<k++[0]↔a<k\/a=k
 |[],[]=>by simp
 |[],x::k=>by simp
 |x::a,[]=>by
  simp only[List.nil_append,List.cons_lt_cons_iff,List.not_lt_nil,and_false,or_false];constructor
  ·intro h;rw[UInt8.lt_iff_toNat_lt]at h;simp at h
  ·rintro(h|h)
   ·exact absurd h (by simp)
   ·cases h
 |x::a,y::k=>by
  rw[List.cons_append,List.cons_lt_cons_iff,List.cons_lt_cons_iff,sP (a:=a) (k:=k),List.cons.injEq];constructor
  ·rintro(h|⟨h,h'|h'⟩)
   ·exact .inl (.inl h)
   ·exact .inl (.inr ⟨h,h'⟩)
   ·exact .inr ⟨h,h'⟩
  ·rintro((h|⟨h,h'⟩)|⟨h,h'⟩)
   ·exact .inl h
   ·exact .inr ⟨h,.inl h'⟩
   ·exact .inr ⟨h,.inr h'⟩
def I6(n:Int):Prop:= -9223372036854775808<=n/\n<9223372036854775808
def pfx(n:Int):List UInt8:=be 8 (n+9223372036854775808).toNat
theorem bU(n:Int):(pfx n).length=8:=DA _ _
theorem qT{a b:Int}(ha:I6 a)(hb:I6 b):pfx a<pfx b↔a<b:=by unfold pfx;obtain⟨a1,a2⟩:=ha;obtain⟨b1,b2⟩:=hb;rw[Ql 8 (by rw[show(256:Nat)^8=18446744073709551616 by decide];omega) (by rw[show(256:Nat)^8=18446744073709551616 by decide];omega)];omega
theorem FN{a b:Int}(ha:I6 a)(hb:I6 b)(h:pfx a=pfx b):a=b:=by
 rcases Int.lt_trichotomy a b with h'|h'|h'
 ·have:=(qT ha hb).2 h';rw[h]at this;exact absurd this (aJ _)
 ·exact h'
 ·have:=(qT hb ha).2 h';rw[h]at this;exact absurd this (aJ _)
def dB(v:Int)(k:List UInt8):List UInt8:=pfx v++k
theorem N0{a b:Int}{k l:List UInt8}(ha:I6 a)(hb:I6 b):dB a k<dB b l↔a<b\/a=b/\k<l:=by
 unfold dB;rw[pA (by rw[bU,bU]),qT ha hb];constructor
 ·rintro(h|⟨h,h'⟩)
  ·exact .inl h
  ·exact .inr ⟨FN ha hb h,h'⟩
 ·rintro(h|⟨h,h'⟩)
  ·exact .inl h
  ·exact .inr ⟨by rw[h],h'⟩
theorem Kf{a b:Int}{k l:List UInt8}(ha:I6 a)(hb:I6 b)(h:dB a k=dB b l):a=b/\k=l:=by have:=List.append_inj h (by rw[bU,bU]);exact⟨FN ha hb this.1,this.2⟩
section
variable{α:Type}
def bE(p:List UInt8×α):List (List UInt8×α)->List (List UInt8×α)
 |[]=>[p]
 |q::l=>if q.1<p.1 then q::bE p l else if q.1=p.1 then p::l else p::q::l
def fp(key:List UInt8):List (List UInt8×α)->List (List UInt8×α)
 |[]=>[]
 |q::l=>if q.1<key then q::fp key l else if q.1=key then l else q::l
def au(key:List UInt8):List (List UInt8×α)->Option α
 |[]=>none
 |q::l=>if q.1<key then au key l else if q.1=key then some q.2 else none
def ez(l:List (List UInt8×α)):Prop:=l.Pairwise fun a b=>a.1<b.1
theorem gw{p q:List UInt8×α}: ∀{l:List (List UInt8×α)},q∈bE p l->q=p\/q∈l
 |[],h=>by simp[bE]at h;exact .inl h
 |x::l,h=>by
  simp only[bE]at h;split at h
  ·rcases List.mem_cons.1 h with rfl|h
   ·exact .inr (by simp)
   ·exact(gw h).elim .inl (fun h=>.inr (by simp[h]))
  ·split at h
   ·rcases List.mem_cons.1 h with rfl|h
    ·exact .inl rfl
    ·exact .inr (by simp[h])
   ·rcases List.mem_cons.1 h with rfl|h
    ·exact .inl rfl
    ·exact .inr h
theorem mU{key:List UInt8}{q:List UInt8×α}: ∀{l:List (List UInt8×α)},q∈fp key l->q∈l
 |[],h=>by simp[fp]at h
 |x::l,h=>by
  simp only[fp]at h;split at h
  ·rcases List.mem_cons.1 h with rfl|h
   ·simp
   ·simp[mU h]
  ·split at h
   ·simp[h]
   ·exact h
theorem dR{p:List UInt8×α}: ∀{l:List (List UInt8×α)},ez l->ez (bE p l)
 |[],_=>by simp[bE,ez]
 |x::l,h=>by
  have h':=List.pairwise_cons.1 h;simp only[bE];split
  ·rename_i hx;refine List.pairwise_cons.2 ⟨fun q hq=>?_,dR h'.2⟩;rcases gw hq with rfl|hq
   ·exact hx
   ·exact h'.1 q hq
  ·rename_i hx;split
   ·rename_i e;exact List.pairwise_cons.2 ⟨fun q hq=>by rw[<-e];exact h'.1 q hq,h'.2⟩
   ·rename_i e;have hlt:p.1<x.1:=(tJ hx).elim id (fun e'=>absurd e'.symm e);refine List.pairwise_cons.2 ⟨fun q hq=>?_,h⟩;rcases List.mem_cons.1 hq with rfl|hq
    ·exact hlt
    ·exact dY hlt (h'.1 q hq)
theorem fX{key:List UInt8}: ∀{l:List (List UInt8×α)},ez l->ez (fp key l)
 |[],_=>by simp[fp,ez]
 |x::l,h=>by
  have h':=List.pairwise_cons.1 h;simp only[fp];split
  ·exact List.pairwise_cons.2 ⟨fun q hq=>h'.1 q (mU hq),fX h'.2⟩
  ·split
   ·exact h'.2
   ·exact h
theorem aU{key:List UInt8}: ∀{l:List (List UInt8×α)},ez l->(au key l=none↔ ∀q∈l,q.1≠key)
 |[],_=>by simp[au]
 |x::l,h=>by
  have h':=List.pairwise_cons.1 h;simp only[au];split
  ·rename_i hx;rw[aU h'.2];constructor
   ·intro hh q hq;rcases List.mem_cons.1 hq with rfl|hq
    ·exact fun e=>aJ _ (e▸hx)
    ·exact hh q hq
   ·exact fun hh q hq=>hh q (by simp[hq])
  ·rename_i hx;split
   ·rename_i e;simp only[reduceCtorEq,false_iff];exact fun hh=>hh x (by simp) e
   ·rename_i e;have hlt:key<x.1:=(tJ hx).elim id (fun e'=>absurd e'.symm e);simp only[true_iff];intro q hq;rcases List.mem_cons.1 hq with rfl|hq
    ·exact e
    ·exact fun e'=>aJ key (by have:=dY hlt (h'.1 q hq);rwa[e']at this)
theorem aB{key:List UInt8}{r:α}: ∀{l:List (List UInt8×α)},ez l->(au key l=some r↔(key,r)∈l)
 |[],_=>by simp[au]
 |x::l,h=>by
  have h':=List.pairwise_cons.1 h;simp only[au];split
  ·rename_i hx;rw[aB h'.2];constructor
   ·exact fun hh=>by simp[hh]
   ·intro hh;rcases List.mem_cons.1 hh with e|hh
    ·rw[<-e]at hx;exact absurd hx (aJ _)
    ·exact hh
  ·rename_i hx;split
   ·rename_i e;constructor
    ·intro hh;injection hh with hh;rw[<-e,<-hh];simp
    ·intro hh;rcases List.mem_cons.1 hh with e'|hh
     ·rw[<-e']
     ·have:=h'.1 _ hh;rw[e]at this;exact absurd this (aJ _)
   ·rename_i e;have hlt:key<x.1:=(tJ hx).elim id (fun e'=>absurd e'.symm e);constructor
    ·intro hh;cases hh
    ·intro hh;rcases List.mem_cons.1 hh with e'|hh
     ·rw[<-e']at e;exact absurd rfl e
     ·have:=dY hlt (h'.1 _ hh);exact absurd this (aJ _)
theorem gm{p:List UInt8×α}: ∀{l:List (List UInt8×α)},au p.1 l=none->(bE p l).Perm (p::l)
 |[],_=>List.Perm.refl _
 |x::l,h=>by
  simp only[au]at h;simp only[bE];split
  ·rename_i hx;rw[if_pos hx]at h;exact(List.Perm.cons x (gm h)).trans (List.Perm.swap _ _ _)
  ·rename_i hx;rw[if_neg hx]at h;split
   ·rename_i e;rw[if_pos e]at h;cases h
   ·exact List.Perm.refl _
theorem fE{key:List UInt8}{r:α}: ∀{l:List (List UInt8×α)},au key l=some r->l.Perm ((key,r)::fp key l)
 |[],h=>by simp[au]at h
 |x::l,h=>by
  simp only[au]at h;simp only[fp];split
  ·rename_i hx;rw[if_pos hx]at h;exact(List.Perm.cons x (fE h)).trans (List.Perm.swap _ _ _)
  ·rename_i hx;rw[if_neg hx]at h;split
   ·rename_i e;rw[if_pos e]at h;injection h with h;rw[<-h,<-e]
   ·rename_i e;rw[if_neg e]at h;cases h
theorem gY{key:List UInt8}: ∀{l:List (List UInt8×α)},au key l=none->fp key l=l
 |[],_=>rfl
 |x::l,h=>by
  simp only[au]at h;simp only[fp];split
  ·rename_i hx;rw[if_pos hx]at h;rw[gY h]
  ·rename_i hx;rw[if_neg hx]at h;split
   ·rename_i e;rw[if_pos e]at h;cases h
   ·rfl
theorem ly{key:List UInt8}{l:List (List UInt8×α)}(h:ez l):au key (fp key l)=none:=by
 rw[aU (fX h)]
 cases e:au key l with
 |none=>rw[gY e];exact(aU h).1 e
 |some r=>
  have hp:=fE e;have hn:ez l:=h;intro q hq e';have hpw:=hn
  have h2:((key,r)::fp key l).Pairwise (fun a b=>a.1≠b.1):=by refine List.Perm.pairwise hp ?_ (fun h=>Ne.symm h);exact List.Pairwise.imp (R:=fun a b:List UInt8×α=>a.1<b.1) (fun{a b} (h:a.1<b.1) (e:a.1=b.1)=>aJ b.1 (by rw[e]at h;exact h)) hpw
  exact(List.pairwise_cons.1 h2).1 q hq e'.symm
theorem pU{p:List UInt8×α}: ∀{l:List (List UInt8×α)},ez l->bE p (fp p.1 l)=bE p l
 |[],_=>rfl
 |x::l,h=>by
  have h':=List.pairwise_cons.1 h;simp only[fp,bE];split
  ·rename_i hx;simp only[bE,if_pos hx];rw[pU h'.2]
  ·rename_i hx;split
   ·rename_i e
    cases l with
    |nil=>rfl
    |cons y l=>have hy:=h'.1 y (by simp);rw[e]at hy;simp only[bE];rw[if_neg (qP hy),if_neg (fun e'=>aJ p.1 (by rw[e']at hy;exact hy))]
   ·rename_i e;simp only[bE,if_neg hx,if_neg e]
theorem lA{p:List UInt8×α}{key:List UInt8}{l:List (List UInt8×α)}(h:ez l):au key (bE p l)=if key=p.1 then some p.2 else au key l:=by
 have hu:=dR (p:=p) h
 have hperm:(bE p l).Perm (p::fp p.1 l):=by rw[<-pU h];exact gm (ly h)
 split
 ·rename_i e;subst e;exact(aB hu).2 (hperm.mem_iff.2 (by simp))
 ·rename_i e
  have hd: ∀r,(key,r)∈fp p.1 l↔(key,r)∈l:=by
   intro r
   cases e':au p.1 l with
   |none=>rw[gY e']
   |some s=>
    rw[(fE e').mem_iff,List.mem_cons];constructor
    ·exact .inr
    ·rintro(h1|h1)
     ·exact absurd (congrArg Prod.fst h1) e
     ·exact h1
  cases e':au key l with
  |some r=>exact(aB hu).2 (hperm.mem_iff.2 (by rw[List.mem_cons,hd];exact .inr ((aB h).1 e')))
  |none=>
   rw[aU hu];intro q hq e1;rcases List.mem_cons.1 (hperm.mem_iff.1 hq)with rfl|hq
   ·exact e e1.symm
   ·subst e1;exact(aU h).1 e' q ((hd q.2).1 hq) rfl
theorem tQ{p key:List UInt8}{l:List (List UInt8×α)}(h:ez l):au key (fp p l)=if key=p then none else au key l:=by
 split
 ·rename_i e;subst e;exact ly h
 ·rename_i e
  cases e':au p l with
  |none=>rw[gY e']
  |some s=>
   have hp:=fE e'
   cases e2:au key l with
   |some r=>
    rw[aB (fX h)];have:=hp.mem_iff.1 ((aB h).1 e2);rcases List.mem_cons.1 this with h1|h1
    ·exact absurd (congrArg Prod.fst h1) e
    ·exact h1
   |none=>rw[aU (fX h)];exact fun q hq=>(aU h).1 e2 q (mU hq)
theorem jH{p:List UInt8×α}{l:List (List UInt8×α)}(h:ez l):(bE p l).length=if(au p.1 l).isSome then l.length else l.length+1:=by
 cases e:au p.1 l with
 |none=>simpa using(gm e).length_eq
 |some r=>rw[<-pU h,(gm (ly h)).length_eq];have:=(fE e).length_eq;simp at this⊢;omega
theorem tR{key:List UInt8}{r:α}{l:List (List UInt8×α)}(h:au key l=some r):(fp key l).length+1=l.length:=by have:=(fE h).length_eq;simpa using this.symm
theorem nT: ∀{a b:List (List UInt8×α)},ez a->ez b->a.Perm b->a=b
 |[],b,_,_,h=>by rw[List.nil_perm]at h;exact h.symm
 |x::a,[],_,_,h=>by have:=h.length_eq;simp at this
 |x::a,y::b,ha,hb,h=>by
  have ha':=List.pairwise_cons.1 ha;have hb':=List.pairwise_cons.1 hb
  have hxy:x=y:=by
   rcases List.mem_cons.1 (h.mem_iff.1 (List.mem_cons_self (a:=x)))with e|hx
   ·exact e
   ·rcases List.mem_cons.1 (h.mem_iff.2 (List.mem_cons_self (a:=y)))with e|hy
    ·exact e.symm
    ·exact absurd (dY (ha'.1 y hy) (hb'.1 x hx)) (aJ _)
  subst hxy;rw[nT ha'.2 hb'.2 h.cons_inv]
end
theorem mV(p:Pr): ∀l:List Pr,ins p l=bE p l
 |[]=>rfl
 |q::l=>by simp only[ins,bE,mV p l]
theorem del_eq(k:List UInt8): ∀l:List Pr,del k l=fp k l
 |[]=>rfl
 |q::l=>by simp only[del,fp,del_eq k l]
theorem look_eq(k:List UInt8): ∀l:List Pr,look k l=au k l
 |[]=>rfl
 |q::l=>by
  have ih:=look_eq k l;unfold look at ih⊢;simp only[ceil,au];split
  ·rename_i h;split at h
   ·rename_i hq;rw[if_pos hq,<-ih,h]
   ·rename_i hq;rw[if_neg hq];injection h with h;rw[h]
  ·rename_i h;split at h
   ·rename_i hq;rw[if_pos hq,<-ih,h]
   ·cases h
abbrev av:=List (List UInt8×Rw)
section
variable(enc:Rw->List UInt8)
def Br(q:List UInt8×Rw):Pr:=(q.1,enc q.2)
theorem FO(p:List UInt8×Rw): ∀l:av,ins (Br enc p) (l.map (Br enc))=(bE p l).map (Br enc)
 |[]=>rfl
 |q::l=>by
  have ih:=FO p l;simp only[List.map_cons,ins,bE];show(if q.1<p.1 then _ else _)=_;by_cases h:q.1<p.1
  ·rw[if_pos h,if_pos h,List.map_cons,<-ih]
  ·rw[if_neg h,if_neg h];show(if q.1=p.1 then _ else _)=_;by_cases h2:q.1=p.1
   ·rw[if_pos h2,if_pos h2,List.map_cons]
   ·rw[if_neg h2,if_neg h2,List.map_cons,List.map_cons]
theorem Bt(k:List UInt8): ∀l:av,look k (l.map (Br enc))=(au k l).map enc
 |[]=>rfl
 |q::l=>by
  have ih:=Bt k l;rw[look_eq]at ih⊢;simp only[List.map_cons,au,ih,Br];split
  ·rfl
  ·split<;>rfl
end
def l6(c:Nat)(q:List UInt8×Rw):Pr:=(dB (q.2.aK c) q.1,[])
def qU(c:Nat):av->List Pr
 |[]=>[]
 |q::l=>bE (l6 c q) (qU c l)
def RowsFit(l:av):Prop:= ∀q∈l,∀c,I6 (q.2.aK c)
theorem gZ(c:Nat): ∀l:av,Up (qU c l)
 |[]=>by simp[qU,Up]
 |q::l=>dR (gZ c l)
theorem Bu{c:Nat}{p q:List UInt8×Rw}(hp:I6 (p.2.aK c))(hq:I6 (q.2.aK c))(h:(l6 c p).1=(l6 c q).1):p.1=q.1:=(Kf hp hq h).2
theorem eP(c:Nat): ∀{l:av},ez l->RowsFit l->(qU c l).Perm (l.map (l6 c))
 |[],_,_=>List.Perm.refl _
 |q::l,h,hf=>by have h':=List.pairwise_cons.1 h;have ih:=eP c h'.2 (fun p hp=>hf p (by simp[hp]));refine(gm ?_).trans (List.Perm.cons _ ih);rw[aU (gZ c l)];intro p hp e;obtain⟨p',hp',rfl⟩:=List.mem_map.1 (ih.mem_iff.1 hp);have e1:=Bu (hf p' (by simp[hp']) c) (hf q (by simp) c) e;have:=h'.1 p' hp';rw[e1]at this;exact aJ _ this
theorem za{c:Nat}{l:av}{il:List Pr}(h:ez l)(hf:RowsFit l)(hu:Up il)(hp:il.Perm (l.map (l6 c))):il=qU c l:=
 nT hu (gZ c l) (hp.trans (eP c h hf).symm)
theorem FP{c:Nat}{l:av}(h:ez l)(hf:RowsFit l):(qU c l).length=l.length:=by rw[(eP c h hf).length_eq,List.length_map]
theorem RowsFit.ins{p:List UInt8×Rw}{l:av}(h:RowsFit l)(hp: ∀c,I6 (p.2.aK c)):RowsFit (bE p l):=fun q hq=>(gw hq).elim (fun e=>by subst e;exact hp) (h q)
theorem RowsFit.del{k:List UInt8}{l:av}(h:RowsFit l):RowsFit (fp k l):=fun q hq=>h q (mU hq)
theorem zb{c:Nat}{l:av}{p:List UInt8×Rw}(h:ez l)(hf:RowsFit l)(hp:I6 (p.2.aK c))(hn:au p.1 l=none):au (l6 c p).1 (qU c l)=none:=by rw[aU (gZ c l)];intro q hq e;obtain⟨q',hq',rfl⟩:=List.mem_map.1 ((eP c h hf).mem_iff.1 hq);exact(aU h).1 hn q' hq' (Bu (hf q' hq' c) hp e)
theorem pV{c:Nat}{l:av}{k:List UInt8}{r:Rw}(h:ez l)(hf:RowsFit l)(hn:au k l=some r):au (l6 c (k,r)).1 (qU c l)=some []:=by rw[aB (gZ c l)];exact(eP c h hf).mem_iff.2 (List.mem_map.2 ⟨(k,r),(aB h).1 hn,rfl⟩)
theorem Kg{c:Nat}{l:av}{p:List UInt8×Rw}(h:ez l)(hf:RowsFit l)(hp: ∀c,I6 (p.2.aK c))(hn:au p.1 l=none):bE (l6 c p) (qU c l)=qU c (bE p l):=by refine za (dR h) (hf.ins hp) (dR (gZ c l)) ?_;refine(gm (zb h hf (hp c) hn)).trans ?_;refine(List.Perm.cons _ (eP c h hf)).trans ?_;exact((gm hn).map (l6 c)).symm
theorem Rg{c:Nat}{l:av}{k:List UInt8}{r:Rw}(h:ez l)(hf:RowsFit l)(hn:au k l=some r):fp (dB (r.aK c) k) (qU c l)=qU c (fp k l):=by refine za (fX h) hf.del (fX (gZ c l)) ?_;have h1:=fE (pV (c:=c) h hf hn);have h2:=((eP c h hf).symm.trans h1).symm.trans ((fE hn).map (l6 c));rw[List.map_cons]at h2;exact List.Perm.cons_inv h2
theorem FQ{c:Nat}{l:av}{k:List UInt8}{r old:Rw}(h:ez l)(hf:RowsFit l)(hr: ∀c,I6 (r.aK c))(hn:au k l=some old):bE (dB (r.aK c) k,[]) (fp (dB (old.aK c) k) (qU c l))=qU c (bE (k,r) l):=by rw[Rg h hf hn];have:=Kg (c:=c) (p:=(k,r)) (fX (key:=k) h) hf.del hr (ly h);rw[pU (p:=(k,r)) h]at this;exact this
theorem N2{c:Nat}{l:av}{k:List UInt8}{r old:Rw}(h:ez l)(hf:RowsFit l)(hr: ∀c,I6 (r.aK c))(hn:au k l=some old)(e:old.aK c=r.aK c):qU c l=qU c (bE (k,r) l):=by rw[<-FQ h hf hr hn,e];have h1:=pV (c:=c) h hf hn;rw[show(l6 c (k,old)).1=dB (r.aK c) k by rw[<-e];rfl]at h1;refine nT (gZ c l) (dR (fX (gZ c l))) ?_;exact(fE h1).trans (gm (p:=(dB (r.aK c) k,[])) (ly (gZ c l))).symm
def cN(key:List UInt8)(l:List Pr):List Pr:=l.dropWhile fun p=>decide (p.1<key)
theorem nU(key:List UInt8): ∀l:List Pr,ceil key l=(cN key l).head?
 |[]=>rfl
 |q::l=>by
  have ih:=nU key l;unfold cN at ih⊢;by_cases h:q.1<key
  ·simp[ceil,h,ih]
  ·simp[ceil,h]
theorem Hk{key:List UInt8}: ∀{l:List Pr},(∀q∈l,¬q.1<key)->cN key l=l
 |[],_=>rfl
 |q::l,h=>by unfold cN;simp[h q (by simp)]
theorem qV{key:List UInt8}{l:List Pr}{q:Pr}(h:q∈cN key l):q∈l:=(List.dropWhile_sublist _).subset h
theorem xG{key:List UInt8}{p:Pr}{tl:List Pr}: ∀{l:List Pr},Up l->cN key l=p::tl->cN (p.1++[0]) l=tl
 |[],_,h=>by simp[cN]at h
 |q::l,hu,h=>by
  have hu':=List.pairwise_cons.1 hu;by_cases hq:q.1<key
  ·have h1:cN key l=p::tl:=by
    unfold cN at h⊢;simpa[hq]using h
   have hp:p∈l:=qV (key:=key) (by rw[h1];simp);have h2:q.1<p.1++[0]:=sP.2 (.inl (hu'.1 p hp));have:=xG hu'.2 h1;unfold cN at this⊢;simpa[h2]using this
  ·have h1:q=p/\l=tl:=by
    unfold cN at h;simp[hq]at h;exact h
   obtain⟨rfl,rfl⟩:=h1;have h2:q.1<q.1++[0]:=sP.2 (.inr rfl)
   have h3:cN (q.1++[0]) l=l:=Hk fun y hy e=>by
    rcases sP.1 e with e|e
    ·exact aJ _ (dY e (hu'.1 y hy))
    ·have:=hu'.1 y hy;rw[e]at this;exact aJ _ this
   unfold cN at h3⊢;simpa[h2]using h3
theorem Kh{key:List UInt8}{l:List Pr}(h:Up l):Up (cN key l):=h.sublist (List.dropWhile_sublist _)
theorem pW{key:List UInt8}: ∀{l:List Pr},Up l->cN key l=l.filter fun p=>decide (¬p.1<key)
 |[],_=>rfl
 |q::l,hu=>by
  have hu':=List.pairwise_cons.1 hu;by_cases hq:q.1<key
  ·have ih:=pW (key:=key) hu'.2;unfold cN at ih⊢;simp[hq,ih]
  ·rw[List.filter_eq_self.2]
   ·unfold cN;simp[hq]
   ·intro y hy;simp only[decide_eq_true_eq];rcases List.mem_cons.1 hy with rfl|hy
    ·exact hq
    ·exact fun e=>hq (dY (hu'.1 y hy) e)
def jk(to:List UInt8)(p:Pr):Bool:=decide (to=[])||decide (p.1<to)
theorem rO{to:List UInt8}: ∀{l:List Pr},Up l->l.takeWhile (jk to)=l.filter (jk to)
 |[],_=>rfl
 |q::l,hu=>by
  have hu':=List.pairwise_cons.1 hu;by_cases hq:jk to q=true
  ·simp[hq,rO hu'.2]
  ·have:(q::l).filter (jk to)=[]:=by
    rw[List.filter_eq_nil_iff];intro y hy hy';rcases List.mem_cons.1 hy with rfl|hy
    ·exact hq hy'
    ·apply hq;unfold jk at hy'⊢;simp only[Bool.or_eq_true,decide_eq_true_eq]at hy'⊢;exact hy'.imp id (fun e=>dY (hu'.1 y hy) e)
   rw[this];simp[hq]
def N3(lo to:List UInt8)(l:List Pr):List Pr:=(cN lo l).takeWhile (jk to)
theorem Bv{lo to:List UInt8}{l:List Pr}(h:Up l):N3 lo to l=l.filter fun p=>jk to p&&decide (¬p.1<lo):=by unfold N3;rw[rO (Kh h),pW h,List.filter_filter]
def Bw(hi:Int):List UInt8:=if hi<9223372036854775807 then pfx (hi+1)else[]
def Bx(c:Nat)(lo hi:Int)(q:List UInt8×Rw):Bool:=decide (lo<=q.2.aK c)&&decide (q.2.aK c<=hi)
theorem tT{a b k:List UInt8}(h:a.length=b.length):a++k<b↔a<b:=by have:=pA (k:=k) (l:=[]) h;rw[List.append_nil]at this;rw[this];simp
theorem N4{c:Nat}{lo hi:Int}{q:List UInt8×Rw}(hq:I6 (q.2.aK c))(hlo:I6 lo)(hhi:I6 hi):(jk (Bw hi) (l6 c q)&&decide (¬(l6 c q).1<pfx lo))=Bx c lo hi q:=by
 have e1:(l6 c q).1<pfx lo↔q.2.aK c<lo:=by show dB _ _<_↔_;unfold dB;rw[tT (by rw[bU,bU]),qT hq hlo]
 have e2:jk (Bw hi) (l6 c q)=decide (q.2.aK c<=hi):=by
  unfold jk Bw;split
  ·rename_i h;have hne:pfx (hi+1)≠[]:=fun e=>by have:=bU (hi+1);rw[e]at this;simp at this
   have e3:(l6 c q).1<pfx (hi+1)↔q.2.aK c<hi+1:=by show dB _ _<_↔_;unfold dB;rw[tT (by rw[bU,bU]),qT hq ⟨by have:=hhi.1;omega,by omega⟩]
   simp only[hne,decide_false,Bool.false_or];rw[decide_eq_decide,e3];omega
  ·rename_i h;have:=hq.2;simp;omega
 rw[e2];unfold Bx;rw[Bool.and_comm];congr 1;rw[decide_eq_decide,e1];omega
theorem RowsFit.filter{l:av}(h:RowsFit l)(f:List UInt8×Rw->Bool):RowsFit (l.filter f):=fun q hq=>h q (List.mem_filter.1 hq).1
theorem ez.filter{α:Type}{l:List (List UInt8×α)}(h:ez l)(f:List UInt8×α->Bool):ez (l.filter f):=h.sublist List.filter_sublist
theorem N5{c:Nat}{l:av}{lo hi:Int}(h:ez l)(hf:RowsFit l)(hlo:I6 lo)(hhi:I6 hi):N3 (pfx lo) (Bw hi) (qU c l)=qU c (l.filter (Bx c lo hi)):=by
 rw[Bv (gZ c l)];refine za (h.filter _) (hf.filter _) ((gZ c l).sublist List.filter_sublist) ?_;refine((eP c h hf).filter _).trans ?_;rw[List.filter_map]
 have:l.filter ((fun p=>jk (Bw hi) p&&decide (¬p.1<pfx lo))∘l6 c)=l.filter (Bx c lo hi):=by refine List.filter_congr fun q hq=>?_;exact N4 (hf q hq c) hlo hhi
 rw[this]
def cJ(c:Nat)(lo hi:Int)(l:av):List (List UInt8):=(qU c (l.filter (Bx c lo hi))).map fun p=>p.1.drop 8
theorem mW(v:Int)(k:List UInt8):(dB v k).drop 8=k:=by unfold dB;rw[List.drop_append_of_le_length (by rw[bU];omega),List.drop_eq_nil_of_le (by rw[bU];omega)];rfl
theorem jz{c:Nat}{lo hi:Int}{l:av}(h:ez l)(hf:RowsFit l){k:List UInt8}:k∈cJ c lo hi l↔ ∃r,(k,r)∈l/\lo<=r.aK c/\r.aK c<=hi:=by
 unfold cJ;rw[List.mem_map];constructor
 ·rintro⟨p,hp,rfl⟩;obtain⟨q,hq,rfl⟩:=List.mem_map.1 ((eP c (h.filter _) (hf.filter _)).mem_iff.1 hp);obtain⟨h1,h2⟩:=List.mem_filter.1 hq;unfold Bx at h2;simp only[Bool.and_eq_true,decide_eq_true_eq]at h2;refine⟨q.2,?_,h2⟩;show((dB _ _).drop 8,_)∈l;rw[mW];exact h1
 ·rintro⟨r,hr,h1,h2⟩;refine⟨l6 c (k,r),(eP c (h.filter _) (hf.filter _)).mem_iff.2 (List.mem_map.2 ⟨(k,r),List.mem_filter.2 ⟨hr,by simp[Bx,h1,h2]⟩,rfl⟩),mW _ _⟩
theorem xH{c:Nat}{lo hi:Int}{l:av}(h:ez l)(hf:RowsFit l):(cJ c lo hi l).length<=l.length:=by unfold cJ;rw[List.length_map,FP (h.filter _) (hf.filter _)];exact List.length_filter_le _ _
end Go.Proofs.YtagemonojdgbdaaGreatDoor
