import Derived.Lib.Hide
namespace Go.Proofs.YtmkofmeojbcakaaGreatDoor
set_option maxRecDepth 100000
abbrev Pr:=List UInt8×List UInt8
section
def flat:List (List Pr)->List Pr->List Pr
 |[],_=>[]
 |k::_,[]=>k
 |k::ks,p::ps=>k++p::flat ks ps
def pre:List (List Pr)->List Pr->List Pr
 |k::ks,p::ps=>k++p::pre ks ps
 |_,_=>[]
def post:List Pr->List (List Pr)->List Pr
 |[],_=>[]
 |p::ps,b=>p::flat b ps
theorem sP(k:List Pr)(b:List (List Pr))(y:List Pr):flat (k::b) y=k++post y b:=by cases y<;>simp[flat,post]
theorem wu: ∀(a:List (List Pr)) (x:List Pr) (b:List (List Pr)) (y:List Pr),a.length=x.length->b≠[]->flat (a++b) (x++y)=pre a x++flat b y
 |[],[],b,y,_,_=>by simp[pre]
 |k::a,p::x,b,y,h,hb=>by have ih:=wu a x b y (by simpa using h) hb;simp[flat,pre,ih]
theorem wC{a:List (List Pr)}{x:List Pr}(h:a.length=x.length)(k:List Pr)(b:List (List Pr))(y:List Pr):flat (a++k::b) (x++y)=pre a x++k++post y b:=by rw[wu a x _ y h (by simp),sP,List.append_assoc]
theorem CW{a:List (List Pr)}{x:List Pr}(h:a.length=x.length)(l r:List Pr)(m:Pr)(b:List (List Pr))(y:List Pr):flat (a++l::r::b) (x++m::y)=pre a x++(l++m::r)++post y b:=by rw[wu a x _ _ h (by simp)];simp only[flat];rw[sP];simp
theorem zH{a:List (List Pr)}{x:List Pr}(h:a.length=x.length)(k:List Pr):flat (a++[k]) x=pre a x++k:=by have:=wC h k [] [];simpa[post]using this
def Up(l:List Pr):Prop:=l.Pairwise fun a b=>a.1<b.1
theorem Up.left{a b:List Pr}(h:Up (a++b)):Up a:=(List.pairwise_append.1 h).1
theorem Up.right{a b:List Pr}(h:Up (a++b)):Up b:=(List.pairwise_append.1 h).2.1
theorem eT{a b c:List UInt8}(h:a<b)(h':b<c):a<c:=List.lt_trans h h'
theorem aL(a:List UInt8): ¬a<a:=List.lt_irrefl a
theorem sQ{a b:List UInt8}(h:a<b): ¬b<a:=fun h'=>aL a (eT h h')
theorem wD{a b:List UInt8}(h: ¬a<b):b<a\/b=a:=by
 rcases Classical.em (b=a)with e|e
 ·exact .inr e
 ·refine .inl ?_;have:=List.not_lt.1 h;exact Std.lt_of_le_of_ne this e
theorem Bt{key:List UInt8}: ∀{a:List (List Pr)} {x:List Pr},Up (pre a x)->(∀q∈x,q.1<key)-> ∀q∈pre a x,q.1<key
 |[],_,_,_,q,hq=>by simp[pre]at hq
 |_::_,[],_,_,q,hq=>by simp[pre]at hq
 |k::a,p::x,h,hx,q,hq=>by
  simp only[pre]at h hq;have h1:=List.pairwise_append.1 h;have h2:=List.pairwise_cons.1 h1.2.1;rcases List.mem_append.1 hq with hq|hq
  ·exact eT (h1.2.2 q hq p (by simp)) (hx p (by simp))
  ·rcases List.mem_cons.1 hq with rfl|hq
   ·exact hx _ (by simp)
   ·exact Bt h2.2 (fun r hr=>hx r (by simp[hr])) q hq
def ins(p:Pr):List Pr->List Pr
 |[]=>[p]
 |q::l=>if q.1<p.1 then q::ins p l else if q.1=p.1 then p::l else p::q::l
def del(key:List UInt8):List Pr->List Pr
 |[]=>[]
 |q::l=>if q.1<key then q::del key l else if q.1=key then l else q::l
def ceil(key:List UInt8):List Pr->Option Pr
 |[]=>none
 |q::l=>if q.1<key then ceil key l else some q
def look(key:List UInt8)(l:List Pr):Option (List UInt8):=match ceil key l with
 |some q=>if q.1=key then some q.2 else none
 |none=>none
theorem pJ{p:Pr}{a b:List Pr}(h: ∀q∈a,q.1<p.1):ins p (a++b)=a++ins p b:=by
 induction a with
 |nil=>rfl
 |cons q a ih=>simp[ins,h q (by simp),ih (fun r hr=>h r (by simp[hr]))]
theorem CX{p:Pr}{a b:List Pr}(h: ∀q,b.head?=some q->p.1<q.1):ins p (a++b)=ins p a++b:=by
 induction a with
 |nil=>
  cases b with
  |nil=>rfl
  |cons q b=>have:=h q rfl;simp[ins,sQ this];exact fun e=>aL p.1 (e▸this)
 |cons q a ih=>
  simp only[List.cons_append,ins];split
  ·simp[ih]
  ·split<;>simp
theorem pK{key:List UInt8}{a b:List Pr}(h: ∀q∈a,q.1<key):del key (a++b)=a++del key b:=by
 induction a with
 |nil=>rfl
 |cons q a ih=>simp[del,h q (by simp),ih (fun r hr=>h r (by simp[hr]))]
theorem CY{key:List UInt8}{a b:List Pr}(h: ∀q,b.head?=some q->key<q.1):del key (a++b)=del key a++b:=by
 induction a with
 |nil=>
  cases b with
  |nil=>rfl
  |cons q b=>have:=h q rfl;simp[del,sQ this];exact fun e=>aL key (e▸this)
 |cons q a ih=>
  simp only[List.cons_append,del];split
  ·simp[ih]
  ·split<;>simp
theorem wH{key:List UInt8}{a b:List Pr}(h: ∀q∈a,q.1<key):ceil key (a++b)=ceil key b:=by
 induction a with
 |nil=>rfl
 |cons q a ih=>simp[ceil,h q (by simp),ih (fun r hr=>h r (by simp[hr]))]
theorem CZ{key:List UInt8}{a b:List Pr}:ceil key (a++b)=(ceil key a).or (ceil key b):=by
 induction a with
 |nil=>simp[ceil]
 |cons q a ih=>simp only[List.cons_append,ceil];split<;>simp[ih]
theorem J6{key:List UInt8}{b:List Pr}(h: ∀q,b.head?=some q-> ¬q.1<key):ceil key b=b.head?:=by
 cases b with
 |nil=>rfl
 |cons q b=>simp[ceil,h q rfl]
end
def posOf(key:List UInt8)(ps:List Pr):Nat:=(ps.takeWhile fun p=>decide (p.1<key)).length
theorem eU(key:List UInt8)(ps:List Pr):posOf key ps<=ps.length:=by unfold posOf;have h:=congrArg List.length (List.takeWhile_append_dropWhile (p:=fun p:Pr=>decide (p.1<key)) (l:=ps));rw[List.length_append]at h;omega
theorem fh(key:List UInt8): ∀(ps:List Pr),∀q∈ps.take (posOf key ps),q.1<key
 |[],q,h=>by simp at h
 |p::ps,q,h=>by
  unfold posOf at h;by_cases hp:p.1<key
  ·simp[hp]at h;rcases h with rfl|h
   ·exact hp
   ·exact fh key ps q h
  ·simp[hp]at h
theorem nv(key:List UInt8): ∀(ps:List Pr) (q:Pr),ps[posOf key ps]?=some q-> ¬q.1<key
 |[],q,h=>by simp at h
 |p::ps,q,h=>by
  unfold posOf at h;by_cases hp:p.1<key
  ·simp[hp]at h;exact nv key ps q h
  ·simp[hp]at h;subst h;exact hp
def hit(key:List UInt8)(ps:List Pr):Bool:=match ps[posOf key ps]? with
 |some q=>decide (q.1=key)
 |none=>false
theorem fO{key:List UInt8}{ps:List Pr}(h:hit key ps=true): ∃v,ps[posOf key ps]?=some (key,v):=by
 unfold hit at h;split at h
 ·rename_i q hq;simp at h;exact⟨q.2,by rw[hq];subst h;rfl⟩
 ·cases h
theorem sS{key:List UInt8}{ps:List Pr}(h:hit key ps=false){q:Pr}(hq:ps[posOf key ps]?=some q):key<q.1:=by
 unfold hit at h;rw[hq]at h;simp at h;rcases wD (nv key ps q hq)with h'|h'
 ·exact h'
 ·exact absurd h'.symm h
theorem ed{α:Type}{l:List α}{i:Nat}{x:α}(h:l[i]?=some x):l=l.take i++x::l.drop (i+1):=by have hi:=(List.getElem?_eq_some_iff.1 h).1;have hx:=(List.getElem?_eq_some_iff.1 h).2;rw[<-hx];simp
theorem iK{α:Type}(l:List α)(i:Nat):(l.drop i).head?=l[i]?:=by simp
inductive ND where
 |mk (ps:List Pr) (ks:List ND)
def ND.ps:ND->List Pr
 | .mk ps _=>ps
def ND.ks:ND->List ND
 | .mk _ ks=>ks
@[simp] theorem ND.cy (ps:List Pr) (ks:List ND):(ND.mk ps ks).ps=ps:=rfl
@[simp] theorem ND.df (ps:List Pr) (ks:List ND):(ND.mk ps ks).ks=ks:=rfl
def C0:ND:=.mk [] []
def bz:Nat->ND->List Pr
 |0,x=>x.ps
 |d+1,x=>flat (x.ks.map (bz d)) x.ps
def fy:(d o lo hi:Nat)->ND->Prop
 |0,_,lo,hi,x=>lo<=x.ps.length/\x.ps.length<=hi/\x.ks=[]
 |d+1,o,lo,hi,x=>lo<=x.ps.length/\x.ps.length<=hi/\x.ks.length=x.ps.length+1/\ ∀k∈x.ks,fy d o (o-1) (2*o-1) k
theorem fy.len{d o lo hi:Nat}{x:ND}(h:fy d o lo hi x):lo<=x.ps.length/\x.ps.length<=hi:=by
 cases d with
 |zero=>exact⟨h.1,h.2.1⟩
 |succ d=>exact⟨h.1,h.2.1⟩
theorem fy.re{d o lo hi lo' hi':Nat}{x:ND}(h:fy d o lo hi x)(h1:lo'<=x.ps.length)(h2:x.ps.length<=hi'):fy d o lo' hi' x:=by
 cases d with
 |zero=>exact⟨h1,h2,h.2.2⟩
 |succ d=>exact⟨h1,h2,h.2.2⟩
theorem vA{d:Nat}{ps:List Pr}{ks:List ND}{i:Nat}{k:ND}(hk:ks[i]?=some k)(hl:ks.length=ps.length+1)(k':ND):
  bz (d+1) (.mk ps (ks.take i++k'::ks.drop (i+1)))=pre ((ks.take i).map (bz d)) (ps.take i)++bz d k'++post (ps.drop i) ((ks.drop (i+1)).map (bz d)):=by
 have hi:=(List.getElem?_eq_some_iff.1 hk).1;have:=wC (a:=(ks.take i).map (bz d)) (x:=ps.take i) (by simp;omega) (bz d k') ((ks.drop (i+1)).map (bz d)) (ps.drop i);rw[List.take_append_drop]at this;simpa[bz,ND.ps,ND.ks]using this
theorem kf{d:Nat}{ps:List Pr}{ks:List ND}{i:Nat}{k:ND}(hk:ks[i]?=some k)(hl:ks.length=ps.length+1):
  bz (d+1) (.mk ps ks)=pre ((ks.take i).map (bz d)) (ps.take i)++bz d k++post (ps.drop i) ((ks.drop (i+1)).map (bz d)):=by
 rw[<-vA hk hl k,<-ed hk]
theorem vB{d:Nat}{ps ps':List Pr}{ks ks':List ND}{i:Nat}(l m:ND)(p:Pr)(hi:i<=ps.length)(hi':i<=ks.length):
  bz (d+1) (.mk (ps.take i++p::ps') (ks.take i++l::m::ks'))=pre ((ks.take i).map (bz d)) (ps.take i)++(bz d l++p::bz d m)++post ps' (ks'.map (bz d)):=by
 have:=CW (a:=(ks.take i).map (bz d)) (x:=ps.take i) (by simp;omega) (bz d l) (bz d m) p (ks'.map (bz d)) ps';simpa[bz,ND.ps,ND.ks]using this
theorem mC{y:List Pr}{b:List (List Pr)}:(post y b).head?=y.head?:=by cases y<;>rfl
theorem Bu{d:Nat}{key:List UInt8}{ps:List Pr}{ks:List ND}(hl:ks.length=ps.length+1)(hu:Up (bz (d+1) (.mk ps ks))){k:ND}(hk:ks[posOf key ps]?=some k):
  ceil key (bz (d+1) (.mk ps ks))=(ceil key (bz d k)).or ps[posOf key ps]?:=by
 rw[kf hk hl]at hu⊢;rw[List.append_assoc,wH (Bt hu.left.left (fh key ps)),CZ,J6 (b:=post _ _) (by rw[mC,iK];exact nv key ps),mC,iK]
theorem C3{d:Nat}{key:List UInt8}{ps:List Pr}{ks:List ND}(hl:ks.length=ps.length+1)(hu:Up (bz (d+1) (.mk ps ks)))(h:hit key ps=true):
  ceil key (bz (d+1) (.mk ps ks))=ps[posOf key ps]?:=by
 obtain⟨v,hv⟩:=fO h;have hi:=(List.getElem?_eq_some_iff.1 hv).1;obtain⟨k,hk⟩: ∃k,ks[posOf key ps]?=some k:=⟨_,List.getElem?_eq_getElem (by omega)⟩;rw[Bu hl hu hk];rw[kf hk hl]at hu;have h1:=(List.pairwise_append.1 hu).2.2
 have:ceil key (bz d k)=none:=by
  have hall: ∀q∈bz d k,q.1<key:=fun q hq=>h1 q (by simp[hq]) (key,v) (by
   have hh:(post (ps.drop (posOf key ps)) ((ks.drop (posOf key ps+1)).map (bz d))).head?=some (key,v):=by rw[mC,iK,hv]
   exact List.mem_of_head? hh)
  have:=wH (b:=[]) hall;simpa[ceil]using this
 rw[this];simp
theorem mD{key:List UInt8}: ∀(ps:List Pr),ceil key ps=ps[posOf key ps]?
 |[]=>rfl
 |p::ps=>by
  have ih:=mD (key:=key) ps;unfold posOf at ih⊢;by_cases h:p.1<key
  ·simp[ceil,h,ih]
  ·simp[ceil,h]
def jF:(d:Nat)->ND->Nat->ND×Pr×ND
 |0,x,o=>(.mk (x.ps.take (o-1)) [],x.ps[o-1]?.getD ([],[]),.mk (x.ps.drop o) [])
 |_+1,x,o=>(.mk (x.ps.take (o-1)) (x.ks.take o),x.ps[o-1]?.getD ([],[]),.mk (x.ps.drop o) (x.ks.drop o))
def ny(d:Nat)(x:ND)(i o:Nat):ND:=
 let c:=jF d (x.ks[i]?.getD C0) o
 .mk (x.ps.take i++c.2.1::x.ps.drop i) (x.ks.take i++c.1::c.2.2::x.ks.drop (i+1))
theorem IG{d o:Nat}{x:ND}(ho:1<=o)(h:fy d o (2*o) (2*o) x):bz d (jF d x o).1++(jF d x o).2.1::bz d (jF d x o).2.2=bz d x:=by
 have hlen:=h.len
 cases d with
 |zero=>obtain⟨ps,ks⟩:=x;simp only[ND.cy]at hlen;have hx:ps[o-1]?=some (ps[o-1]'(by omega)):=List.getElem?_eq_getElem _;have:=ed hx;simp only[jF,bz,ND.cy,hx,Option.getD_some];rw[show o-1+1=o by omega]at this;exact this.symm
 |succ d=>
  obtain⟨ps,ks⟩:=x;simp only[ND.cy]at hlen;obtain⟨_,_,hk,_⟩:=h;simp only[ND.cy,ND.df]at hk hlen;have hx:ps[o-1]?=some (ps[o-1]'(by omega)):=List.getElem?_eq_getElem _;have hsp:=ed hx;rw[show o-1+1=o by omega]at hsp;have hy:ks[o-1]?=some (ks[o-1]'(by omega)):=List.getElem?_eq_getElem _;have hz:ks[o]?=some (ks[o]'(by omega)):=List.getElem?_eq_getElem _
  have Xl:ks.take o=ks.take (o-1)++[ks[o-1]'(by omega)]:=by
   conv=>lhs;rw[show o=o-1+1 by omega]
   rw[List.take_succ_eq_append_getElem (by omega)]
  have Ya:ks.drop o=ks[o]'(by omega)::ks.drop (o+1):=List.drop_eq_getElem_cons (by omega)
  have hkk:ks=ks.take (o-1)++ks[o-1]'(by omega)::ks[o]'(by omega)::ks.drop (o+1):=by
   conv=>lhs;rw[<-List.take_append_drop o ks,Xl,Ya]
   rw[List.append_assoc];rfl
  have h2:=vB (d:=d) (ps:=ps) (ps':=ps.drop o) (ks:=ks) (ks':=ks.drop (o+1)) (i:=o-1) (ks[o-1]'(by omega)) (ks[o]'(by omega)) (ps[o-1]'(by omega)) (by omega) (by omega);have hw:bz (d+1) (.mk ps ks)=bz (d+1) (.mk (ps.take (o-1)++ps[o-1]'(by omega)::ps.drop o) (ks.take (o-1)++ks[o-1]'(by omega)::ks[o]'(by omega)::ks.drop (o+1))):=by rw[<-hkk,<-hsp]
  rw[hw,h2]
  have C4:bz (d+1) (.mk (ps.take (o-1)) (ks.take o))=pre ((ks.take (o-1)).map (bz d)) (ps.take (o-1))++bz d (ks[o-1]'(by omega)):=by rw[Xl];have:=zH (a:=(ks.take (o-1)).map (bz d)) (x:=ps.take (o-1)) (by simp;omega) (bz d (ks[o-1]'(by omega)));simp only[bz,ND.cy,ND.df,List.map_append,List.map_cons,List.map_nil];exact this
  have hr1:bz (d+1) (.mk (ps.drop o) (ks.drop o))=bz d (ks[o]'(by omega))++post (ps.drop o) ((ks.drop (o+1)).map (bz d)):=by rw[Ya];simp only[bz,ND.cy,ND.df,List.map_cons];exact sP _ _ _
  simp only[jF,ND.cy,ND.df,hx,Option.getD_some];rw[C4,hr1];simp
theorem QP{o:Nat}{x:List Pr}(ho:2<=o)(h:2*o<=x.length/\x.length<=2*o):(o-1<=(x.take (o-1)).length/\(x.take (o-1)).length<=2*o-1)/\o-1<=(x.drop o).length/\(x.drop o).length<=2*o-1:=by simp only[List.length_take,List.length_drop];omega
theorem MK{d o:Nat}{x:ND}(ho:2<=o)(h:fy d o (2*o) (2*o) x):fy d o (o-1) (2*o-1) (jF d x o).1/\fy d o (o-1) (2*o-1) (jF d x o).2.2:=by
 have hlen:=h.len
 cases d with
 |zero=>obtain⟨ps,ks⟩:=x;have h0:=QP ho hlen;exact⟨⟨h0.1.1,h0.1.2,rfl⟩,h0.2.1,h0.2.2,rfl⟩
 |succ d=>obtain⟨ps,ks⟩:=x;simp only[ND.cy]at hlen;obtain⟨_,_,hk,ha⟩:=h;simp only[ND.cy,ND.df]at hk ha hlen;simp only[jF,fy,ND.cy,ND.df];simp only[List.length_take,List.length_drop];exact⟨⟨by omega,by omega,by omega,fun k hk'=>ha k (List.mem_of_mem_take hk')⟩,by omega,by omega,by omega,fun k hk'=>ha k (List.mem_of_mem_drop hk')⟩
def Bv(x:List Pr)(p:Pr):List Pr:=if hit p.1 x then x.take (posOf p.1 x)++p::x.drop (posOf p.1 x+1)else x.take (posOf p.1 x)++p::x.drop (posOf p.1 x)
def gU:(d:Nat)->ND->Pr->Nat->ND
 |0,x,p,_=>.mk (Bv x.ps p) []
 |d+1,x,p,o=>
  let i:=posOf p.1 x.ps
  if hit p.1 x.ps then .mk (x.ps.take i++p::x.ps.drop (i+1)) x.ks
  else
   let k:=gU d (x.ks[i]?.getD C0) p o
   let y:ND:=.mk x.ps (x.ks.take i++k::x.ks.drop (i+1))
   if 2*o-1<k.ps.length then ny d y i o else y
theorem UW{p:Pr}{ps:List Pr}(h:hit p.1 ps=false):ins p ps=ps.take (posOf p.1 ps)++p::ps.drop (posOf p.1 ps):=by
 conv=>lhs;rw[<-List.take_append_drop (posOf p.1 ps) ps]
 rw[pJ (fh _ _)];have:=CX (p:=p) (a:=[]) (b:=ps.drop (posOf p.1 ps)) (fun q hq=>sS h (by rw[<-iK];exact hq));simp[ins]at this;rw[this]
theorem QQ{p:Pr}{ps:List Pr}(h:hit p.1 ps=true):ins p ps=ps.take (posOf p.1 ps)++p::ps.drop (posOf p.1 ps+1):=by
 obtain⟨v,hv⟩:=fO h
 conv=>lhs;rw[ed hv]
 rw[pJ (fh _ _)];simp[ins,aL]
theorem ML{o:Nat}(ho:2<=o)(p:Pr){lo:Nat}{x:List Pr}(h:lo<=x.length/\x.length<=2*o-1):Bv x p=ins p x/\lo<=(Bv x p).length/\(Bv x p).length<=2*o:=by
 unfold Bv;split
 ·rename_i hh;obtain⟨v,hv⟩:=fO hh;have hi:=(List.getElem?_eq_some_iff.1 hv).1;refine⟨(QQ hh).symm,?_⟩;simp only[List.length_append,List.length_take,List.length_cons,List.length_drop];omega
 ·rename_i hh;simp only[Bool.not_eq_true]at hh;have hi:=eU p.1 x;refine⟨(UW hh).symm,?_⟩;simp only[List.length_append,List.length_take,List.length_cons,List.length_drop];omega
theorem C5{d o:Nat}{p:Pr}{ps:List Pr}{ks:List ND}(h:hit p.1 ps=true):gU (d+1) (.mk ps ks) p o=.mk (ps.take (posOf p.1 ps)++p::ps.drop (posOf p.1 ps+1)) ks:=if_pos h
theorem IH{d o:Nat}{p:Pr}{ps:List Pr}{ks:List ND}{k:ND}(h:hit p.1 ps=false)(hk:ks[posOf p.1 ps]?=some k):gU (d+1) (.mk ps ks) p o=
  if 2*o-1<(gU d k p o).ps.length then ny d (.mk ps (ks.take (posOf p.1 ps)++gU d k p o::ks.drop (posOf p.1 ps+1))) (posOf p.1 ps) o else(.mk ps (ks.take (posOf p.1 ps)++gU d k p o::ks.drop (posOf p.1 ps+1))):=by
 have e:ks[posOf p.1 ps]?.getD C0=k:=by rw[hk];rfl
 have:gU (d+1) (.mk ps ks) p o=(if hit p.1 ps=true then _ else _):=rfl;rw[this,if_neg (by simp[h])];simp only[ND.cy,ND.df,e]
theorem rD{o:Nat}(ho:2<=o)(p:Pr): ∀{d lo:Nat} {x:ND},fy d o lo (2*o-1) x->Up (bz d x)->bz d (gU d x p o)=ins p (bz d x)/\fy d o lo (2*o) (gU d x p o)
 |0,lo,.mk ps ks,h,hu=>by have h0:=ML ho p ⟨h.1,h.2.1⟩;exact⟨h0.1,h0.2.1,h0.2.2,rfl⟩
 |d+1,lo,.mk ps ks,h,hu=>by
  obtain⟨h1,h2,hl,ha⟩:=h;simp only[ND.cy,ND.df]at h1 h2 hl ha;have hi:=eU p.1 ps;obtain⟨k,hk⟩: ∃k,ks[posOf p.1 ps]?=some k:=⟨_,List.getElem?_eq_getElem (by omega)⟩;have hkm:k∈ks:=List.mem_of_getElem? hk;by_cases hh:hit p.1 ps=true
  ·rw[C5 hh];obtain⟨v,hv⟩:=fO hh;have hlt:=(List.getElem?_eq_some_iff.1 hv).1;constructor
   ·rw[kf hk hl]at hu⊢
    have hd:ps.drop (posOf p.1 ps)=(p.1,v)::ps.drop (posOf p.1 ps+1):=by rw[List.drop_eq_getElem_cons hlt];congr 1;have:=(List.getElem?_eq_some_iff.1 hv).2;exact this
    have hall:=(List.pairwise_append.1 hu).2.2;have hkl: ∀q∈pre ((ks.take (posOf p.1 ps)).map (bz d)) (ps.take (posOf p.1 ps))++bz d k,q.1<p.1:=fun q hq=>hall q hq (p.1,v) (by rw[hd];simp[post]);rw[pJ hkl,hd];simp only[post,ins,aL,if_true,if_false];have h4:=vA (d:=d) (ps:=ps.take (posOf p.1 ps)++p::ps.drop (posOf p.1 ps+1)) hk (by simp;omega) k;rw[<-ed hk]at h4;rw[h4];have e1:(ps.take (posOf p.1 ps)++p::ps.drop (posOf p.1 ps+1)).take (posOf p.1 ps)=ps.take (posOf p.1 ps):=by simp[Nat.min_eq_left hi]
    have e2:(ps.take (posOf p.1 ps)++p::ps.drop (posOf p.1 ps+1)).drop (posOf p.1 ps)=p::ps.drop (posOf p.1 ps+1):=by simp[Nat.min_eq_left hi]
    rw[e1,e2];simp[post]
   ·refine⟨?_,?_,?_,ha⟩<;>simp[ND.cy,ND.df]<;>omega
  ·simp only[Bool.not_eq_true]at hh;rw[IH hh hk];have hku:Up (bz d k):=by rw[kf hk hl]at hu;exact hu.left.right
   obtain⟨e,hw⟩:=rD ho p (ha k hkm) hku
   have hins:ins p (bz (d+1) (.mk ps ks))=pre ((ks.take (posOf p.1 ps)).map (bz d)) (ps.take (posOf p.1 ps))++bz d (gU d k p o)++post (ps.drop (posOf p.1 ps)) ((ks.drop (posOf p.1 ps+1)).map (bz d)):=by rw[kf hk hl]at hu⊢;rw[List.append_assoc,pJ (Bt hu.left.left (fh _ _)),CX (by rw[mC,iK];exact fun q hq=>sS hh hq),e,List.append_assoc]
   by_cases fY:2*o-1<(gU d k p o).ps.length
   ·rw[if_pos fY];have hlen:=hw.len;have hcut:=IG (by omega) (hw.re (lo':=2*o) (hi':=2*o) (by omega) (by omega));have hcw:=MK ho (hw.re (lo':=2*o) (hi':=2*o) (by omega) (by omega))
    have aaQ:(ks.take (posOf p.1 ps)++gU d k p o::ks.drop (posOf p.1 ps+1))[posOf p.1 ps]?=some (gU d k p o):=by rw[List.getElem?_append_right (by simp;omega)];simp[Nat.min_eq_left (show posOf p.1 ps<=ks.length by omega)]
    simp only[ny,ND.cy,ND.df,aaQ,Option.getD_some]
    have e3:(ks.take (posOf p.1 ps)++gU d k p o::ks.drop (posOf p.1 ps+1)).take (posOf p.1 ps)=ks.take (posOf p.1 ps):=by simp[Nat.min_eq_left (show posOf p.1 ps<=ks.length by omega)]
    have e4:(ks.take (posOf p.1 ps)++gU d k p o::ks.drop (posOf p.1 ps+1)).drop (posOf p.1 ps+1)=ks.drop (posOf p.1 ps+1):=by simp[List.drop_append,Nat.min_eq_left (show posOf p.1 ps<=ks.length by omega)]
    rw[e3,e4];constructor
    ·rw[vB _ _ _ hi (by omega),hcut,hins]
    ·refine⟨by simp[ND.cy];omega,by simp[ND.cy];omega,by simp[ND.cy,ND.df];omega,fun z hz=>?_⟩;simp only[ND.df,List.mem_append,List.mem_cons]at hz;rcases hz with hz|rfl|rfl|hz
     ·exact ha z (List.mem_of_mem_take hz)
     ·exact hcw.1
     ·exact hcw.2
     ·exact ha z (List.mem_of_mem_drop hz)
   ·rw[if_neg fY];have hlen:=hw.len;constructor
    ·rw[vA hk hl,hins]
    ·refine⟨h1,by simp only[ND.cy];omega,by simp[ND.cy,ND.df];omega,fun z hz=>?_⟩;simp only[ND.df,List.mem_append,List.mem_cons]at hz;rcases hz with hz|rfl|hz
     ·exact ha z (List.mem_of_mem_take hz)
     ·exact hw.re hlen.1 (by omega)
     ·exact ha z (List.mem_of_mem_drop hz)
def eF:Nat->ND->Pr->ND->ND×Pr×ND
 |0,l,s,r=>(.mk (l.ps.take (l.ps.length-1)) [],l.ps[l.ps.length-1]?.getD ([],[]),.mk (s::r.ps) [])
 |_+1,l,s,r=>(.mk (l.ps.take (l.ps.length-1)) (l.ks.take (l.ks.length-1)),l.ps[l.ps.length-1]?.getD ([],[]),.mk (s::r.ps) (l.ks[l.ks.length-1]?.getD C0::r.ks))
def gp:Nat->ND->Pr->ND->ND×Pr×ND
 |0,l,s,r=>(.mk (l.ps++[s]) [],r.ps[0]?.getD ([],[]),.mk (r.ps.drop 1) [])
 |_+1,l,s,r=>(.mk (l.ps++[s]) (l.ks++[r.ks[0]?.getD C0]),r.ps[0]?.getD ([],[]),.mk (r.ps.drop 1) (r.ks.drop 1))
def lH(l:ND)(s:Pr)(r:ND):ND:=.mk (l.ps++s::r.ps) (l.ks++r.ks)
theorem kg{α:Type}{l:List α}(h:1<=l.length):l=l.take (l.length-1)++[l[l.length-1]'(by omega)]:=by have:=ed (List.getElem?_eq_getElem (l:=l) (i:=l.length-1) (by omega));rw[show l.length-1+1=l.length by omega]at this;simpa using this
theorem qK{α:Type}{l:List α}(h:1<=l.length):l=l[0]'(by omega)::l.drop 1:=by have:=ed (List.getElem?_eq_getElem (l:=l) (i:=0) (by omega));simpa using this
theorem zI{a:List (List Pr)}{x:List Pr}(h:a.length=x.length+1)(s:Pr)(k:List Pr):flat (a++[k]) (x++[s])=flat a x++s::k:=by
 have hl:=kg (l:=a) (by omega);generalize a.take (a.length-1)=a1,a[a.length-1]'(by omega)=a2 at hl;subst hl;have hlen:a1.length=x.length:=by simpa using h
 have h1:=CW hlen a2 k s [] [];simp only[post,List.append_nil]at h1;rw[List.append_assoc];simp only[List.cons_append,List.nil_append];rw[h1,zH hlen];simp
theorem zJ: ∀{a b:List (List Pr)} {x y:List Pr},a.length=x.length+1->b≠[]-> ∀s,flat (a++b) (x++s::y)=flat a x++s::flat b y
 |[k],b,[],y,_,hb,s=>by
  cases b with
  |nil=>exact absurd rfl hb
  |cons k' b=>simp[flat]
 |k::a,b,p::x,y,h,hb,s=>by have ih:=zJ (a:=a) (b:=b) (x:=x) (y:=y) (by simpa using h) hb s;simp[flat,ih]
 |[],b,x,y,h,hb,s=>by simp at h
 |k::k'::a,b,[],y,h,hb,s=>by simp at h
theorem Fz{d o lo hi lo' hi':Nat}{l r:ND}{s:Pr}(h:fy d o lo hi l)(h':fy d o lo' hi' r)(h1:1<=lo):bz d (eF d l s r).1++(eF d l s r).2.1::bz d (eF d l s r).2.2=bz d l++s::bz d r:=by
 have hl:=h.len
 cases d with
 |zero=>
  obtain⟨ps,ks⟩:=l;simp only[ND.cy]at hl;have hsp:=kg (l:=ps) (by omega);have hx:ps[ps.length-1]?=some (ps[ps.length-1]'(by omega)):=List.getElem?_eq_getElem _;simp only[eF,bz,ND.cy,hx,Option.getD_some]
  conv=>rhs;rw[hsp]
  simp only[List.append_assoc,List.cons_append,List.nil_append]
 |succ d=>
  obtain⟨ps,ks⟩:=l;obtain⟨qs,js⟩:=r;obtain⟨_,_,hk,ha⟩:=h;obtain⟨_,_,hk',ha'⟩:=h';simp only[ND.cy,ND.df]at hl hk ha hk' ha';have hsp:=kg (l:=ps) (by omega);have hsk:=kg (l:=ks) (by omega);have hx:ps[ps.length-1]?=some (ps[ps.length-1]'(by omega)):=List.getElem?_eq_getElem _;have hy:ks[ks.length-1]?=some (ks[ks.length-1]'(by omega)):=List.getElem?_eq_getElem _;simp only[eF,bz,ND.cy,ND.df,hx,hy,Option.getD_some];generalize hgp:ps.take (ps.length-1)=p1 at *;generalize ps[ps.length-1]'(by omega)=p2 at *;generalize Me:ks.take (ks.length-1)=k1 at *;generalize ks[ks.length-1]'(by omega)=k2 at *;have hlen:k1.length=p1.length+1:=by rw[<-hgp,<-Me];simp;omega
  rw[hsp,hsk];have e1:=zI (a:=k1.map (bz d)) (x:=p1) (by simpa using hlen) p2 (bz d k2);simp only[List.map_append,List.map_cons,List.map_nil];rw[e1]
  cases js with
  |nil=>simp at hk'
  |cons j js=>simp[flat]
theorem J7{d o lo hi lo' hi':Nat}{l r:ND}{s:Pr}(h:fy d o lo hi l)(h':fy d o lo' hi' r)(h1:1<=lo'):bz d (gp d l s r).1++(gp d l s r).2.1::bz d (gp d l s r).2.2=bz d l++s::bz d r:=by
 have hl:=h'.len
 cases d with
 |zero=>
  obtain⟨ps,ks⟩:=r;simp only[ND.cy]at hl;have hsp:=qK (l:=ps) (by omega);have hx:ps[0]?=some (ps[0]'(by omega)):=List.getElem?_eq_getElem _;simp only[gp,bz,ND.cy,hx,Option.getD_some]
  conv=>rhs;rw[hsp]
  simp only[List.append_assoc,List.cons_append,List.nil_append]
 |succ d=>obtain⟨ps,ks⟩:=r;obtain⟨qs,js⟩:=l;obtain⟨_,_,hk,ha⟩:=h';obtain⟨_,_,hk',ha'⟩:=h;simp only[ND.cy,ND.df]at hl hk ha hk' ha';have hsp:=qK (l:=ps) (by omega);have hsk:=qK (l:=ks) (by omega);have hx:ps[0]?=some (ps[0]'(by omega)):=List.getElem?_eq_getElem _;have hy:ks[0]?=some (ks[0]'(by omega)):=List.getElem?_eq_getElem _;simp only[gp,bz,ND.cy,ND.df,hx,hy,Option.getD_some];generalize hgp:ps.drop 1=p1 at *;generalize ps[0]'(by omega)=p2 at *;generalize Me:ks.drop 1=k1 at *;generalize ks[0]'(by omega)=k2 at *;rw[hsp,hsk];have e1:=zI (a:=js.map (bz d)) (x:=qs) (by simpa using hk') s (bz d k2);simp only[List.map_append,List.map_cons,List.map_nil];rw[e1];simp[flat]
theorem zK{d o lo hi lo' hi':Nat}{l r:ND}{s:Pr}(h:fy d o lo hi l)(h':fy d o lo' hi' r):bz d (lH l s r)=bz d l++s::bz d r:=by
 cases d with
 |zero=>simp[lH,bz]
 |succ d=>obtain⟨ps,ks⟩:=l;obtain⟨qs,js⟩:=r;obtain⟨_,_,hk,_⟩:=h;obtain⟨_,_,hk',_⟩:=h';simp only[ND.cy,ND.df]at hk hk';have:=zJ (a:=ks.map (bz d)) (b:=js.map (bz d)) (x:=ps) (y:=qs) (by simpa using hk) (by intro e;rw[List.map_eq_nil_iff]at e;rw[e]at hk';simp at hk') s;simpa[lH,bz]using this
theorem J8{d o lo hi lo' hi':Nat}{l r:ND}{s:Pr}(h:fy d o lo hi l)(h':fy d o lo' hi' r)(h1:1<=lo):fy d o (lo-1) (hi-1) (eF d l s r).1/\fy d o (lo'+1) (hi'+1) (eF d l s r).2.2:=by
 obtain⟨ps,ks⟩:=l;obtain⟨qs,js⟩:=r
 cases d with
 |zero=>obtain⟨a1,a2,_⟩:=h;obtain⟨b1,b2,_⟩:=h';simp only[ND.cy]at a1 a2 b1 b2;refine⟨⟨?_,?_,rfl⟩,?_,?_,rfl⟩<;>simp[eF]<;>omega
 |succ d=>
  obtain⟨a1,a2,a3,a4⟩:=h;obtain⟨b1,b2,b3,b4⟩:=h';simp only[ND.cy,ND.df]at a1 a2 a3 a4 b1 b2 b3 b4;have hy:ks[ks.length-1]?=some (ks[ks.length-1]'(by omega)):=List.getElem?_eq_getElem _;refine⟨⟨?_,?_,?_,fun k hk=>a4 k ?_⟩,?_,?_,?_,fun k hk=>?_⟩
  ·simp[eF];omega
  ·simp[eF];omega
  ·simp[eF];omega
  ·simp only[eF,ND.df]at hk;exact List.mem_of_mem_take hk
  ·simp[eF];omega
  ·simp[eF];omega
  ·simp[eF];omega
  ·simp only[eF,ND.df,hy,Option.getD_some]at hk;rcases List.mem_cons.1 hk with rfl|hk
   ·exact a4 _ (List.getElem_mem _)
   ·exact b4 k hk
theorem MN{d o lo hi lo' hi':Nat}{l r:ND}{s:Pr}(h:fy d o lo hi l)(h':fy d o lo' hi' r)(h1:1<=lo'):fy d o (lo+1) (hi+1) (gp d l s r).1/\fy d o (lo'-1) (hi'-1) (gp d l s r).2.2:=by
 obtain⟨ps,ks⟩:=l;obtain⟨qs,js⟩:=r
 cases d with
 |zero=>obtain⟨a1,a2,_⟩:=h;obtain⟨b1,b2,_⟩:=h';simp only[ND.cy]at a1 a2 b1 b2;refine⟨⟨?_,?_,rfl⟩,?_,?_,rfl⟩<;>simp[gp]<;>omega
 |succ d=>
  obtain⟨a1,a2,a3,a4⟩:=h;obtain⟨b1,b2,b3,b4⟩:=h';simp only[ND.cy,ND.df]at a1 a2 a3 a4 b1 b2 b3 b4;have hy:js[0]?=some (js[0]'(by omega)):=List.getElem?_eq_getElem _;refine⟨⟨?_,?_,?_,fun k hk=>?_⟩,?_,?_,?_,fun k hk=>b4 k ?_⟩
  ·simp[gp];omega
  ·simp[gp];omega
  ·simp[gp];omega
  ·simp only[gp,ND.df,hy,Option.getD_some]at hk;rcases List.mem_append.1 hk with hk|hk
   ·exact a4 k hk
   ·rw[List.mem_singleton]at hk;subst hk;exact b4 _ (List.getElem_mem _)
  ·simp[gp];omega
  ·simp[gp];omega
  ·simp[gp];omega
  ·simp only[gp,ND.df]at hk;exact List.mem_of_mem_drop hk
theorem C6{d o lo hi lo' hi':Nat}{l r:ND}{s:Pr}(h:fy d o lo hi l)(h':fy d o lo' hi' r):fy d o (lo+lo'+1) (hi+hi'+1) (lH l s r):=by
 obtain⟨ps,ks⟩:=l;obtain⟨qs,js⟩:=r
 cases d with
 |zero=>obtain⟨a1,a2,a3⟩:=h;obtain⟨b1,b2,b3⟩:=h';simp only[ND.cy,ND.df]at a1 a2 b1 b2 a3 b3;subst a3 b3;refine⟨?_,?_,rfl⟩<;>simp[lH]<;>omega
 |succ d=>
  obtain⟨a1,a2,a3,a4⟩:=h;obtain⟨b1,b2,b3,b4⟩:=h';simp only[ND.cy,ND.df]at a1 a2 a3 a4 b1 b2 b3 b4;refine⟨?_,?_,?_,fun k hk=>?_⟩
  ·simp[lH];omega
  ·simp[lH];omega
  ·simp[lH];omega
  ·simp only[lH,ND.df]at hk;rcases List.mem_append.1 hk with hk|hk
   ·exact a4 k hk
   ·exact b4 k hk
def uS(x:ND)(i:Nat)(c:ND×Pr×ND):ND:=.mk (x.ps.take i++c.2.1::x.ps.drop (i+1)) (x.ks.take i++c.1::c.2.2::x.ks.drop (i+2))
def uT(x:ND)(i:Nat)(k:ND):ND:=.mk (x.ps.take i++x.ps.drop (i+1)) (x.ks.take i++k::x.ks.drop (i+2))
def aV(x:ND)(i:Nat):ND:=x.ks[i]?.getD C0
def gM(x:ND)(i:Nat):Pr:=x.ps[i]?.getD ([],[])
def jD(d:Nat)(x:ND)(i o:Nat):ND:=
 if o-1<=(aV x i).ps.length then x
 else if 0<i/\o-1<(aV x (i-1)).ps.length then uS x (i-1) (eF d (aV x (i-1)) (gM x (i-1)) (aV x i))
 else if i+1<x.ks.length/\o-1<(aV x (i+1)).ps.length then uS x i (gp d (aV x i) (gM x i) (aV x (i+1)))
 else if 0<i then uT x (i-1) (lH (aV x (i-1)) (gM x (i-1)) (aV x i))
 else uT x i (lH (aV x i) (gM x i) (aV x (i+1)))
theorem dF{x:ND}{i:Nat}(h:i<x.ks.length):x.ks[i]?=some (aV x i):=by unfold aV;rw[List.getElem?_eq_getElem h];rfl
theorem QR{x:ND}{i:Nat}(h:i<x.ps.length):x.ps[i]?=some (gM x i):=by unfold gM;rw[List.getElem?_eq_getElem h];rfl
theorem dS(x:ND):ND.mk x.ps x.ks=x:=by cases x;rfl
theorem zL{α:Type}{l:List α}{i:Nat}{x y:α}(h:l[i]?=some x)(h':l[i+1]?=some y):l=l.take i++x::y::l.drop (i+2):=by
 have h1:=ed h;have hlt:=(List.getElem?_eq_some_iff.1 h').1
 have h2:l.drop (i+1)=y::l.drop (i+2):=by rw[List.drop_eq_getElem_cons hlt,(List.getElem?_eq_some_iff.1 h').2]
 rw[h2]at h1;exact h1
theorem C7{d:Nat}{x:ND}{i:Nat}(hl:x.ks.length=x.ps.length+1)(hi:i<x.ps.length):
  bz (d+1) x=pre ((x.ks.take i).map (bz d)) (x.ps.take i)++(bz d (aV x i)++gM x i::bz d (aV x (i+1)))++post (x.ps.drop (i+1)) ((x.ks.drop (i+2)).map (bz d)):=by
 have h1:=vB (d:=d) (ps:=x.ps) (ps':=x.ps.drop (i+1)) (ks:=x.ks) (ks':=x.ks.drop (i+2)) (i:=i) (aV x i) (aV x (i+1)) (gM x i) (by omega) (by omega);rw[<-ed (QR hi),<-zL (dF (by omega)) (dF (by omega)),dS]at h1;exact h1
theorem C8{d:Nat}{x:ND}{i:Nat}{c:ND×Pr×ND}(hl:x.ks.length=x.ps.length+1)(hi:i<x.ps.length)(hc:bz d c.1++c.2.1::bz d c.2.2=bz d (aV x i)++gM x i::bz d (aV x (i+1))):bz (d+1) (uS x i c)=bz (d+1) x:=by rw[C7 hl hi,<-hc];exact vB (d:=d) c.1 c.2.2 c.2.1 (by omega) (by omega)
theorem C9{d:Nat}{x:ND}{i:Nat}{k:ND}(hl:x.ks.length=x.ps.length+1)(hi:i<x.ps.length)(hc:bz d k=bz d (aV x i)++gM x i::bz d (aV x (i+1))):bz (d+1) (uT x i k)=bz (d+1) x:=by rw[C7 hl hi,<-hc];have:=wC (a:=(x.ks.take i).map (bz d)) (x:=x.ps.take i) (by simp;omega) (bz d k) ((x.ks.drop (i+2)).map (bz d)) (x.ps.drop (i+1));simpa[uT,bz]using this
def wI(d o i lo hi:Nat)(x:ND):Prop:=lo<=x.ps.length/\x.ps.length<=hi/\x.ks.length=x.ps.length+1/\i<x.ks.length/\(∀j,j≠i-> ∀k,x.ks[j]?=some k->fy d o (o-1) (2*o-1) k)/\fy d o (o-2) (2*o-1) (aV x i)
theorem wI.kid{d o i lo hi:Nat}{x:ND}(h:wI d o i lo hi x){j:Nat}(hj:j≠i)(hl:j<x.ks.length):fy d o (o-1) (2*o-1) (aV x j):=h.2.2.2.2.1 j hj _ (dF hl)
theorem FA{α:Type}{l:List α}{x:α}(h:x∈l): ∃j:Nat,l[j]?=some x:=List.getElem?_of_mem h
theorem wI.all{d o i lo hi:Nat}{x:ND}(h:wI d o i lo hi x)(hk:o-1<=(aV x i).ps.length):fy (d+1) o lo hi x:=by
 refine⟨h.1,h.2.1,h.2.2.1,fun k hk'=>?_⟩;obtain⟨j,hj⟩:=FA hk';by_cases e:j=i
 ·subst e;rw[dF (List.getElem?_eq_some_iff.1 hj).1]at hj;injection hj with hj;subst hj;exact h.2.2.2.2.2.re hk h.2.2.2.2.2.len.2
 ·exact h.2.2.2.2.1 j e k hj
theorem wI.rest{d o i lo hi:Nat}{x:ND}(h:wI d o i lo hi x){k:ND}{a b:Nat}(ha:a<=i)(hb:i<b)(hk:k∈x.ks.take a\/k∈x.ks.drop b):fy d o (o-1) (2*o-1) k:=by
 rcases hk with hk|hk
 ·obtain⟨j,hj⟩:=FA hk;have hlt:=(List.getElem?_eq_some_iff.1 hj).1;rw[List.length_take]at hlt;exact h.2.2.2.2.1 j (by omega) k (by rw[List.getElem?_take]at hj;split at hj;exact hj;cases hj)
 ·obtain⟨j,hj⟩:=FA hk;rw[List.getElem?_drop]at hj;exact h.2.2.2.2.1 (b+j) (by omega) k hj
theorem II{d o i m lo hi:Nat}{x:ND}{c:ND×Pr×ND}(h:wI d o m lo hi x)(hm:m=i\/m=i+1)(hi':i<x.ps.length)(h1:fy d o (o-1) (2*o-1) c.1)(h2:fy d o (o-1) (2*o-1) c.2.2):fy (d+1) o lo hi (uS x i c):=by
 have h':=h;obtain⟨a1,a2,a3,_⟩:=h;refine⟨by simp[uS];omega,by simp[uS];omega,by simp[uS];omega,fun k hk=>?_⟩;simp only[uS,ND.df,List.mem_append,List.mem_cons]at hk;rcases hk with hk|rfl|rfl|hk
 ·exact h'.rest (a:=i) (b:=i+2) (by omega) (by omega) (.inl hk)
 ·exact h1
 ·exact h2
 ·exact h'.rest (a:=i) (b:=i+2) (by omega) (by omega) (.inr hk)
theorem IJ{d o i m lo hi:Nat}{x:ND}{c:ND}(h:wI d o m lo hi x)(hm:m=i\/m=i+1)(hi':i<x.ps.length)(h1:fy d o (o-1) (2*o-1) c):fy (d+1) o (lo-1) hi (uT x i c):=by
 have h':=h;obtain⟨a1,a2,a3,_⟩:=h;refine⟨by simp[uT];omega,by simp[uT];omega,by simp[uT];omega,fun k hk=>?_⟩;simp only[uT,ND.df,List.mem_append,List.mem_cons]at hk;rcases hk with hk|rfl|hk
 ·exact h'.rest (a:=i) (b:=i+2) (by omega) (by omega) (.inl hk)
 ·exact h1
 ·exact h'.rest (a:=i) (b:=i+2) (by omega) (by omega) (.inr hk)
theorem wJ{d o i lo hi:Nat}{x:ND}(ho:2<=o)(hlo:1<=lo)(h:wI d o i lo hi x):bz (d+1) (jD d x i o)=bz (d+1) x/\fy (d+1) o (lo-1) hi (jD d x i o):=by
 have h':=h;obtain⟨a1,a2,a3,a4,_,a6⟩:=h;unfold jD;by_cases c1:o-1<=(aV x i).ps.length
 ·rw[if_pos c1];have:=h'.all c1;exact⟨rfl,this.re (by omega) this.len.2⟩
 ·rw[if_neg c1];have w0:fy d o (o-2) (o-2) (aV x i):=a6.re a6.len.1 (by omega);by_cases c2:0<i/\o-1<(aV x (i-1)).ps.length
  ·rw[if_pos c2];have wl:=h'.kid (j:=i-1) (by omega) (by omega);have J9:=wl.re (lo':=o) (hi':=2*o-1) (by omega) wl.len.2;have e:i-1+1=i:=by omega
   have hr:=Fz (s:=gM x (i-1)) J9 w0 (by omega);have hw:=J8 (s:=gM x (i-1)) J9 w0 (by omega);have hw1:=hw.1.re (lo':=o-1) (hi':=2*o-1) (by have:=hw.1.len;omega) (by have:=hw.1.len;omega);have hw2:=hw.2.re (lo':=o-1) (hi':=2*o-1) (by have:=hw.2.len;omega) (by have:=hw.2.len;omega);have hn:=II (i:=i-1) h' (.inr e.symm) (by omega) hw1 hw2;exact⟨C8 a3 (by omega) (by rw[e];exact hr),hn.re (by have:=hn.len;omega) hn.len.2⟩
  ·rw[if_neg c2];by_cases c3:i+1<x.ks.length/\o-1<(aV x (i+1)).ps.length
   ·rw[if_pos c3];have wr:=h'.kid (j:=i+1) (by omega) (by omega);have wr':=wr.re (lo':=o) (hi':=2*o-1) (by omega) wr.len.2;have hr:=J7 (s:=gM x i) w0 wr' (by omega);have hw:=MN (s:=gM x i) w0 wr' (by omega);have hw1:=hw.1.re (lo':=o-1) (hi':=2*o-1) (by have:=hw.1.len;omega) (by have:=hw.1.len;omega);have hw2:=hw.2.re (lo':=o-1) (hi':=2*o-1) (by have:=hw.2.len;omega) (by have:=hw.2.len;omega);have hn:=II (i:=i) h' (.inl rfl) (by omega) hw1 hw2;exact⟨C8 a3 (by omega) hr,hn.re (by have:=hn.len;omega) hn.len.2⟩
   ·rw[if_neg c3];by_cases c4:0<i
    ·rw[if_pos c4];have wl:=h'.kid (j:=i-1) (by omega) (by omega);have J9:=wl.re (lo':=o-1) (hi':=o-1) wl.len.1 (by omega);have e:i-1+1=i:=by omega
     have hr:=zK (s:=gM x (i-1)) J9 w0;have hw:=C6 (s:=gM x (i-1)) J9 w0;have hw1:=hw.re (lo':=o-1) (hi':=2*o-1) (by have:=hw.len;omega) (by have:=hw.len;omega);exact⟨C9 a3 (by omega) (by rw[e];exact hr),IJ (i:=i-1) h' (.inr e.symm) (by omega) hw1⟩
    ·rw[if_neg c4];have wl:=h'.kid (j:=i+1) (by omega) (by omega);have J9:=wl.re (lo':=o-1) (hi':=o-1) wl.len.1 (by omega);have hr:=zK (s:=gM x i) w0 J9;have hw:=C6 (s:=gM x i) w0 J9;have hw1:=hw.re (lo':=o-1) (hi':=2*o-1) (by have:=hw.len;omega) (by have:=hw.len;omega);exact⟨C9 a3 (by omega) hr,IJ (i:=i) h' (.inl rfl) (by omega) hw1⟩
def qL(x:ND)(i:Nat)(k:ND):ND:=.mk x.ps (x.ks.take i++k::x.ks.drop (i+1))
theorem IK{x:ND}{i:Nat}(hi:i<x.ks.length)(k:ND)(j:Nat):(qL x i k).ks[j]?=if j=i then some k else x.ks[j]?:=by
 simp only[qL,ND.df];rw[List.getElem?_append,List.length_take,Nat.min_eq_left (by omega)];by_cases h1:j<i
 ·rw[if_pos h1,if_neg (by omega),List.getElem?_take,if_pos h1]
 ·rw[if_neg h1];by_cases h2:j=i
  ·subst h2;simp
  ·rw[if_neg h2,List.getElem?_cons,if_neg (by omega),List.getElem?_drop];congr 1;omega
theorem Da{x:ND}{i:Nat}(hi:i<x.ks.length)(k:ND):(qL x i k).ks.length=x.ks.length:=by simp[qL];omega
theorem jR{d o i lo hi:Nat}{x k:ND}(h:fy (d+1) o lo hi x)(hi':i<x.ks.length)(hk:fy d o (o-2) (2*o-1) k):wI d o i lo hi (qL x i k):=by
 obtain⟨a1,a2,a3,a4⟩:=h;refine⟨a1,a2,by rw[Da hi'];exact a3,by rw[Da hi'];exact hi',fun j hj k' hk'=>?_,?_⟩
 ·rw[IK hi',if_neg hj]at hk';exact a4 k' (List.mem_of_getElem? hk')
 ·unfold aV;rw[IK hi',if_pos rfl];exact hk
theorem wK{d i:Nat}{x k:ND}(hl:x.ks.length=x.ps.length+1)(hi':i<x.ks.length):bz (d+1) (qL x i k)=pre ((x.ks.take i).map (bz d)) (x.ps.take i)++bz d k++post (x.ps.drop i) ((x.ks.drop (i+1)).map (bz d)):=vA (dF hi') hl k
theorem Bw{d i:Nat}{x:ND}(hl:x.ks.length=x.ps.length+1)(hi':i<x.ks.length):bz (d+1) x=pre ((x.ks.take i).map (bz d)) (x.ps.take i)++bz d (aV x i)++post (x.ps.drop i) ((x.ks.drop (i+1)).map (bz d)):=by have:=kf (d:=d) (dF hi') hl;rw[dS]at this;exact this
def fZ:Nat->ND->Nat->ND×Pr
 |0,x,_=>(.mk (x.ps.take (x.ps.length-1)) [],x.ps[x.ps.length-1]?.getD ([],[]))
 |d+1,x,o=>
  let r:=fZ d (aV x (x.ks.length-1)) o
  (jD d (qL x (x.ks.length-1) r.1) (x.ks.length-1) o,r.2)
theorem rE{o:Nat}(ho:2<=o): ∀{d lo hi:Nat} {x:ND},fy d o lo hi x->1<=lo->bz d x=bz d (fZ d x o).1++[(fZ d x o).2]/\fy d o (lo-1) hi (fZ d x o).1
 |0,lo,hi,.mk ps ks,h,h1=>by obtain⟨a1,a2,a3⟩:=h;simp only[ND.cy]at a1 a2;have hsp:=kg (l:=ps) (by omega);have hx:ps[ps.length-1]?=some (ps[ps.length-1]'(by omega)):=List.getElem?_eq_getElem _;refine⟨?_,by simp[fZ];omega,by simp[fZ];omega,rfl⟩;simp only[fZ,bz,ND.cy,hx,Option.getD_some];exact hsp
 |d+1,lo,hi,x,h,h1=>by
  have hw:=h;obtain⟨a1,a2,a3,a4⟩:=h;have hi':x.ks.length-1<x.ks.length:=by omega
  have wk:=a4 _ (List.mem_of_getElem? (dF hi'));obtain⟨e,w⟩:=rE ho wk (by omega);have hm:=wJ ho h1 (jR hw hi' w);simp only[fZ];refine⟨?_,hm.2⟩;rw[hm.1,wK a3 hi',Bw (i:=x.ks.length-1) a3 hi',e];have:x.ps.drop (x.ks.length-1)=[]:=List.drop_eq_nil_of_le (by omega);rw[this];simp[post]
def oM(x:ND)(i:Nat)(p:Pr):ND:=.mk (x.ps.take i++p::x.ps.drop (i+1)) x.ks
def nz:Nat->ND->List UInt8->Nat->ND
 |0,x,key,_=>if hit key x.ps then .mk (x.ps.take (posOf key x.ps)++x.ps.drop (posOf key x.ps+1)) []else x
 |d+1,x,key,o=>
  let i:=posOf key x.ps
  if hit key x.ps then
   let r:=fZ d (aV x i) o
   jD d (qL (oM x i r.2) i r.1) i o
  else jD d (qL x i (nz d (aV x i) key o)) i o
theorem zN{x:ND}{key:List UInt8}{o:Nat}(h:hit key x.ps=true):nz 0 x key o=.mk (x.ps.take (posOf key x.ps)++x.ps.drop (posOf key x.ps+1)) []:=if_pos h
theorem wM{x:ND}{key:List UInt8}{o:Nat}(h:hit key x.ps=false):nz 0 x key o=x:=if_neg (by simp[h])
theorem Db{d:Nat}{x:ND}{key:List UInt8}{o:Nat}(h:hit key x.ps=true):nz (d+1) x key o=jD d (qL (oM x (posOf key x.ps) (fZ d (aV x (posOf key x.ps)) o).2) (posOf key x.ps) (fZ d (aV x (posOf key x.ps)) o).1) (posOf key x.ps) o:=if_pos h
theorem Bx{d:Nat}{x:ND}{key:List UInt8}{o:Nat}(h:hit key x.ps=false):nz (d+1) x key o=jD d (qL x (posOf key x.ps) (nz d (aV x (posOf key x.ps)) key o)) (posOf key x.ps) o:=if_neg (by simp[h])
theorem UX{key:List UInt8}{ps:List Pr}(h:hit key ps=false):del key ps=ps:=by
 conv=>lhs;rw[<-List.take_append_drop (posOf key ps) ps]
 rw[pK (fh _ _)];have:=CY (key:=key) (a:=[]) (b:=ps.drop (posOf key ps)) (fun q hq=>sS h (by rw[<-iK];exact hq));simp[del]at this;rw[this];simp
theorem QS{key:List UInt8}{ps:List Pr}(h:hit key ps=true):del key ps=ps.take (posOf key ps)++ps.drop (posOf key ps+1):=by
 obtain⟨v,hv⟩:=fO h
 conv=>lhs;rw[ed hv]
 rw[pK (fh _ _)];simp[del,aL]
theorem Bz{o:Nat}(ho:2<=o)(key:List UInt8): ∀{d lo hi:Nat} {x:ND},fy d o lo hi x->1<=lo\/d=0->Up (bz d x)->bz d (nz d x key o)=del key (bz d x)/\fy d o (lo-1) hi (nz d x key o)
 |0,lo,hi,.mk ps ks,h,h1,hu=>by
  obtain⟨a1,a2,a3⟩:=h;simp only[ND.cy,ND.df]at a1 a2 a3;by_cases hh:hit key ps=true
  ·obtain⟨v,hv⟩:=fO hh;have hlt:=(List.getElem?_eq_some_iff.1 hv).1;rw[zN (x:=.mk ps ks) hh];simp only[ND.cy];exact⟨(QS hh).symm,by simp;omega,by simp;omega,rfl⟩
  ·simp only[Bool.not_eq_true]at hh;rw[wM (x:=.mk ps ks) hh];exact⟨(UX hh).symm,by simp only[ND.cy];omega,by simp only[ND.cy];omega,a3⟩
 |d+1,lo,hi,x,h,h1,hu=>by
  have h1:1<=lo:=by rcases h1 with h1|h1;exact h1;cases h1
  have hw:=h;obtain⟨a1,a2,a3,a4⟩:=h;have hp:=eU key x.ps;have hi':posOf key x.ps<x.ks.length:=by omega
  have wk:=a4 _ (List.mem_of_getElem? (dF hi'));by_cases hh:hit key x.ps=true
  ·obtain⟨v,hv⟩:=fO hh;have hlt:=(List.getElem?_eq_some_iff.1 hv).1;obtain⟨e,w⟩:=rE ho wk (by omega);generalize hr:fZ d (aV x (posOf key x.ps)) o=r at e w;have hwp:fy (d+1) o lo hi (oM x (posOf key x.ps) r.2):=⟨by simp[oM];omega,by simp[oM];omega,by simp[oM];omega,a4⟩;have hm:=wJ ho h1 (jR hwp (i:=posOf key x.ps) hi' w);rw[Db hh,hr];refine⟨?_,hm.2⟩;rw[hm.1,wK (x:=oM x (posOf key x.ps) r.2) (by simp[oM];omega) hi'];rw[Bw (i:=posOf key x.ps) a3 hi']at hu⊢
   have hd:x.ps.drop (posOf key x.ps)=(key,v)::x.ps.drop (posOf key x.ps+1):=by rw[List.drop_eq_getElem_cons hlt,(List.getElem?_eq_some_iff.1 hv).2]
   have hall:=(List.pairwise_append.1 hu).2.2;have hkl: ∀q∈pre ((x.ks.take (posOf key x.ps)).map (bz d)) (x.ps.take (posOf key x.ps))++bz d (aV x (posOf key x.ps)),q.1<key:=fun q hq=>hall q hq (key,v) (by rw[hd];simp[post]);rw[pK hkl,hd,e];have e1:(oM x (posOf key x.ps) r.2).ps.take (posOf key x.ps)=x.ps.take (posOf key x.ps):=by simp[oM,Nat.min_eq_left hp]
   have e2:(oM x (posOf key x.ps) r.2).ps.drop (posOf key x.ps)=r.2::x.ps.drop (posOf key x.ps+1):=by simp[oM,Nat.min_eq_left hp]
   rw[e1,e2];simp[post,del,aL,oM]
  ·simp only[Bool.not_eq_true]at hh;have hku:Up (bz d (aV x (posOf key x.ps))):=by rw[Bw (i:=posOf key x.ps) a3 hi']at hu;exact hu.left.right
   obtain⟨e,w⟩:=Bz ho key wk (.inl (by omega)) hku;have hm:=wJ ho h1 (jR hw (i:=posOf key x.ps) hi' w);rw[Bx hh];refine⟨?_,hm.2⟩;rw[hm.1,wK a3 hi',e];rw[Bw (i:=posOf key x.ps) a3 hi']at hu⊢;symm;rw[List.append_assoc,pK (Bt hu.left.left (fh _ _)),CY (by rw[mC,iK];exact fun q hq=>sS hh hq),List.append_assoc]
theorem iL{key:List UInt8}{l:List Pr}{p:Pr}(h:ceil key l=some p):look key l=if p.1=key then some p.2 else none:=by unfold look;rw[h]
theorem pL{key:List UInt8}{l:List Pr}(h:ceil key l=none):look key l=none:=by unfold look;rw[h]
theorem sU{key v:List UInt8}{ps:List Pr}(hv:ps[posOf key ps]?=some (key,v)):look key ps=some v:=by rw[iL (by rw[mD];exact hv),if_pos rfl]
theorem Dc{key:List UInt8}{ps:List Pr}(h:hit key ps=false):look key ps=none:=by
 cases e:ps[posOf key ps]? with
 |none=>exact pL (by rw[mD];exact e)
 |some q=>rw[iL (by rw[mD];exact e),if_neg];intro e1;have:=sS h e;rw[e1]at this;exact aL _ this
theorem wN{d:Nat}{key v:List UInt8}{ps:List Pr}{ks:List ND}(hl:ks.length=ps.length+1)(hu:Up (bz (d+1) (.mk ps ks)))(h:hit key ps=true)(hv:ps[posOf key ps]?=some (key,v)):look key (bz (d+1) (.mk ps ks))=some v:=by rw[iL (by rw[C3 hl hu h];exact hv),if_pos rfl]
theorem BA{d:Nat}{key:List UInt8}{ps:List Pr}{ks:List ND}{k:ND}(hl:ks.length=ps.length+1)(hu:Up (bz (d+1) (.mk ps ks)))(h:hit key ps=false)(hk:ks[posOf key ps]?=some k):look key (bz (d+1) (.mk ps ks))=look key (bz d k):=by
 have hc:=Bu hl hu hk
 cases e:ceil key (bz d k)with
 |some q=>rw[e,Option.some_or]at hc;rw[iL hc,iL e]
 |none=>
  rw[e,Option.none_or]at hc;rw[pL e]
  cases e1:ps[posOf key ps]? with
  |none=>exact pL (hc.trans e1)
  |some q=>rw[iL (hc.trans e1),if_neg];intro e2;have:=sS h e1;rw[e2]at this;exact aL _ this
theorem Up.kid{d:Nat}{ps:List Pr}{ks:List ND}{i:Nat}{k:ND}(hl:ks.length=ps.length+1)(hu:Up (bz (d+1) (.mk ps ks)))(hk:ks[i]?=some k):Up (bz d k):=by rw[kf hk hl]at hu;exact hu.left.right
structure Rw where
 a:Int
 b:Int
 c:Int
 d:Int
 deriving DecidableEq
def Rw.zero:Rw:=⟨0,0,0,0⟩
def Rw.aM(r:Rw):Nat->Int
 |0=>r.a
 |1=>r.b
 |2=>r.c
 |_=>r.d
def be:Nat->Nat->List UInt8
 |0,_=>[]
 |k+1,n=>UInt8.ofNat (n/256^k)::be k (n%256^k)
theorem FC: ∀(k n:Nat),(be k n).length=k
 |0,_=>rfl
 |k+1,n=>by simp[be,FC k]
theorem Yb{a b:Nat}(ha:a<256)(hb:b<256):UInt8.ofNat a<UInt8.ofNat b↔a<b:=by rw[UInt8.lt_iff_toNat_lt];simp only[UInt8.toNat_ofNat'];rw[Nat.mod_eq_of_lt (by simpa using ha),Nat.mod_eq_of_lt (by simpa using hb)]
theorem Yc{a b:Nat}(ha:a<256)(hb:b<256):UInt8.ofNat a=UInt8.ofNat b↔a=b:=by
 constructor
 ·intro h;have:=congrArg UInt8.toNat h;simp only[UInt8.toNat_ofNat']at this;rwa[Nat.mod_eq_of_lt (by simpa using ha),Nat.mod_eq_of_lt (by simpa using hb)]at this
 ·rintro rfl;rfl
theorem Ka{K m n:Nat}(hK:0<K):(m/K<n/K\/m/K=n/K/\m%K<n%K)↔m<n:=by
 have hm:=Nat.div_add_mod m K;have hn:=Nat.div_add_mod n K;have h1:=Nat.mod_lt m hK;have h2:=Nat.mod_lt n hK;generalize m/K=a at *;generalize n/K=b at *;generalize m%K=r at *;generalize n%K=s at *;subst hm hn;constructor
 ·rintro(h|⟨rfl,h⟩)
  ·have:K*(a+1)<=K*b:=Nat.mul_le_mul_left K h;rw[Nat.mul_add]at this;omega
  ·omega
 ·intro h;rcases Nat.lt_trichotomy a b with h'|h'|h'
  ·exact .inl h'
  ·subst h';exact .inr ⟨rfl,by omega⟩
  ·have:K*(b+1)<=K*a:=Nat.mul_le_mul_left K h';rw[Nat.mul_add]at this;omega
theorem TS: ∀(k:Nat) {m n:Nat},m<256^k->n<256^k->(be k m<be k n↔m<n)
 |0,m,n,hm,hn=>by
  have:m=0:=by omega
  have:n=0:=by omega
  subst m n;simp[be]
 |k+1,m,n,hm,hn=>by
  have hK:0<256^k:=Nat.pow_pos (by decide);have h1:m/256^k<256:=by rw[Nat.div_lt_iff_lt_mul hK];rw[Nat.pow_succ]at hm;omega
  have h2:n/256^k<256:=by rw[Nat.div_lt_iff_lt_mul hK];rw[Nat.pow_succ]at hn;omega
  rw[be,be,List.cons_lt_cons_iff,Yb h1 h2,Yc h1 h2,TS k (Nat.mod_lt _ hK) (Nat.mod_lt _ hK)];exact Ka hK
theorem qM: ∀{a b k l:List UInt8},a.length=b.length->(a++k<b++l↔a<b\/a=b/\k<l)
 |[],[],k,l,_=>by simp
 |x::a,y::b,k,l,h=>by
  have ih:=qM (a:=a) (b:=b) (k:=k) (l:=l) (by simpa using h);rw[List.cons_append,List.cons_append,List.cons_lt_cons_iff,List.cons_lt_cons_iff,ih,List.cons.injEq];constructor
  ·rintro(h|⟨h,h'|⟨h',h''⟩⟩)
   ·exact .inl (.inl h)
   ·exact .inl (.inr ⟨h,h'⟩)
   ·exact .inr ⟨⟨h,h'⟩,h''⟩
  ·rintro((h|⟨h,h'⟩)|⟨⟨h,h'⟩,h''⟩)
   ·exact .inl h
   ·exact .inr ⟨h,.inl h'⟩
   ·exact .inr ⟨h,.inr ⟨h',h''⟩⟩
theorem vC: ∀{a k:List UInt8},a<k++[0]↔a<k\/a=k
 |[],[]=>by simp
 |[],x::k=>by simp
 |x::a,[]=>by
  simp only[List.nil_append,List.cons_lt_cons_iff,List.not_lt_nil,and_false,or_false];constructor
  ·intro h;rw[UInt8.lt_iff_toNat_lt]at h;simp at h
  ·rintro(h|h)
   ·exact absurd h (by simp)
   ·cases h
 |x::a,y::k=>by
  rw[List.cons_append,List.cons_lt_cons_iff,List.cons_lt_cons_iff,vC (a:=a) (k:=k),List.cons.injEq];constructor
  ·rintro(h|⟨h,h'|h'⟩)
   ·exact .inl (.inl h)
   ·exact .inl (.inr ⟨h,h'⟩)
   ·exact .inr ⟨h,h'⟩
  ·rintro((h|⟨h,h'⟩)|⟨h,h'⟩)
   ·exact .inl h
   ·exact .inr ⟨h,.inl h'⟩
   ·exact .inr ⟨h,.inr h'⟩
def I6(n:Int):Prop:= -9223372036854775808<=n/\n<9223372036854775808
def pfx(n:Int):List UInt8:=be 8 (n+9223372036854775808).toNat
theorem cu(n:Int):(pfx n).length=8:=FC _ _
theorem sV{a b:Int}(ha:I6 a)(hb:I6 b):pfx a<pfx b↔a<b:=by unfold pfx;obtain⟨a1,a2⟩:=ha;obtain⟨b1,b2⟩:=hb;rw[TS 8 (by rw[show(256:Nat)^8=18446744073709551616 by decide];omega) (by rw[show(256:Nat)^8=18446744073709551616 by decide];omega)];omega
theorem IL{a b:Int}(ha:I6 a)(hb:I6 b)(h:pfx a=pfx b):a=b:=by
 rcases Int.lt_trichotomy a b with h'|h'|h'
 ·have:=(sV ha hb).2 h';rw[h]at this;exact absurd this (aL _)
 ·exact h'
 ·have:=(sV hb ha).2 h';rw[h]at this;exact absurd this (aL _)
def dP(v:Int)(k:List UInt8):List UInt8:=pfx v++k
theorem QT{a b:Int}{k l:List UInt8}(ha:I6 a)(hb:I6 b):dP a k<dP b l↔a<b\/a=b/\k<l:=by
 unfold dP;rw[qM (by rw[cu,cu]),sV ha hb];constructor
 ·rintro(h|⟨h,h'⟩)
  ·exact .inl h
  ·exact .inr ⟨IL ha hb h,h'⟩
 ·rintro(h|⟨h,h'⟩)
  ·exact .inl h
  ·exact .inr ⟨by rw[h],h'⟩
theorem MO{a b:Int}{k l:List UInt8}(ha:I6 a)(hb:I6 b)(h:dP a k=dP b l):a=b/\k=l:=by have:=List.append_inj h (by rw[cu,cu]);exact⟨IL ha hb this.1,this.2⟩
section
variable{α:Type}
def bP(p:List UInt8×α):List (List UInt8×α)->List (List UInt8×α)
 |[]=>[p]
 |q::l=>if q.1<p.1 then q::bP p l else if q.1=p.1 then p::l else p::q::l
def fG(key:List UInt8):List (List UInt8×α)->List (List UInt8×α)
 |[]=>[]
 |q::l=>if q.1<key then q::fG key l else if q.1=key then l else q::l
def au(key:List UInt8):List (List UInt8×α)->Option α
 |[]=>none
 |q::l=>if q.1<key then au key l else if q.1=key then some q.2 else none
def fc(l:List (List UInt8×α)):Prop:=l.Pairwise fun a b=>a.1<b.1
theorem gW{p q:List UInt8×α}: ∀{l:List (List UInt8×α)},q∈bP p l->q=p\/q∈l
 |[],h=>by simp[bP]at h;exact .inl h
 |x::l,h=>by
  simp only[bP]at h;split at h
  ·rcases List.mem_cons.1 h with rfl|h
   ·exact .inr (by simp)
   ·exact(gW h).elim .inl (fun h=>.inr (by simp[h]))
  ·split at h
   ·rcases List.mem_cons.1 h with rfl|h
    ·exact .inl rfl
    ·exact .inr (by simp[h])
   ·rcases List.mem_cons.1 h with rfl|h
    ·exact .inl rfl
    ·exact .inr h
theorem oN{key:List UInt8}{q:List UInt8×α}: ∀{l:List (List UInt8×α)},q∈fG key l->q∈l
 |[],h=>by simp[fG]at h
 |x::l,h=>by
  simp only[fG]at h;split at h
  ·rcases List.mem_cons.1 h with rfl|h
   ·simp
   ·simp[oN h]
  ·split at h
   ·simp[h]
   ·exact h
theorem eK{p:List UInt8×α}: ∀{l:List (List UInt8×α)},fc l->fc (bP p l)
 |[],_=>by simp[bP,fc]
 |x::l,h=>by
  have h':=List.pairwise_cons.1 h;simp only[bP];split
  ·rename_i hx;refine List.pairwise_cons.2 ⟨fun q hq=>?_,eK h'.2⟩;rcases gW hq with rfl|hq
   ·exact hx
   ·exact h'.1 q hq
  ·rename_i hx;split
   ·rename_i e;exact List.pairwise_cons.2 ⟨fun q hq=>by rw[<-e];exact h'.1 q hq,h'.2⟩
   ·rename_i e;have hlt:p.1<x.1:=(wD hx).elim id (fun e'=>absurd e'.symm e);refine List.pairwise_cons.2 ⟨fun q hq=>?_,h⟩;rcases List.mem_cons.1 hq with rfl|hq
    ·exact hlt
    ·exact eT hlt (h'.1 q hq)
theorem gG{key:List UInt8}: ∀{l:List (List UInt8×α)},fc l->fc (fG key l)
 |[],_=>by simp[fG,fc]
 |x::l,h=>by
  have h':=List.pairwise_cons.1 h;simp only[fG];split
  ·exact List.pairwise_cons.2 ⟨fun q hq=>h'.1 q (oN hq),gG h'.2⟩
  ·split
   ·exact h'.2
   ·exact h
theorem bp{key:List UInt8}: ∀{l:List (List UInt8×α)},fc l->(au key l=none↔ ∀q∈l,q.1≠key)
 |[],_=>by simp[au]
 |x::l,h=>by
  have h':=List.pairwise_cons.1 h;simp only[au];split
  ·rename_i hx;rw[bp h'.2];constructor
   ·intro hh q hq;rcases List.mem_cons.1 hq with rfl|hq
    ·exact fun e=>aL _ (e▸hx)
    ·exact hh q hq
   ·exact fun hh q hq=>hh q (by simp[hq])
  ·rename_i hx;split
   ·rename_i e;simp only[reduceCtorEq,false_iff];exact fun hh=>hh x (by simp) e
   ·rename_i e;have hlt:key<x.1:=(wD hx).elim id (fun e'=>absurd e'.symm e);simp only[true_iff];intro q hq;rcases List.mem_cons.1 hq with rfl|hq
    ·exact e
    ·exact fun e'=>aL key (by have:=eT hlt (h'.1 q hq);rwa[e']at this)
theorem aD{key:List UInt8}{r:α}: ∀{l:List (List UInt8×α)},fc l->(au key l=some r↔(key,r)∈l)
 |[],_=>by simp[au]
 |x::l,h=>by
  have h':=List.pairwise_cons.1 h;simp only[au];split
  ·rename_i hx;rw[aD h'.2];constructor
   ·exact fun hh=>by simp[hh]
   ·intro hh;rcases List.mem_cons.1 hh with e|hh
    ·rw[<-e]at hx;exact absurd hx (aL _)
    ·exact hh
  ·rename_i hx;split
   ·rename_i e;constructor
    ·intro hh;injection hh with hh;rw[<-e,<-hh];simp
    ·intro hh;rcases List.mem_cons.1 hh with e'|hh
     ·rw[<-e']
     ·have:=h'.1 _ hh;rw[e]at this;exact absurd this (aL _)
   ·rename_i e;have hlt:key<x.1:=(wD hx).elim id (fun e'=>absurd e'.symm e);constructor
    ·intro hh;cases hh
    ·intro hh;rcases List.mem_cons.1 hh with e'|hh
     ·rw[<-e']at e;exact absurd rfl e
     ·have:=eT hlt (h'.1 _ hh);exact absurd this (aL _)
theorem gQ{p:List UInt8×α}: ∀{l:List (List UInt8×α)},au p.1 l=none->(bP p l).Perm (p::l)
 |[],_=>List.Perm.refl _
 |x::l,h=>by
  simp only[au]at h;simp only[bP];split
  ·rename_i hx;rw[if_pos hx]at h;exact(List.Perm.cons x (gQ h)).trans (List.Perm.swap _ _ _)
  ·rename_i hx;rw[if_neg hx]at h;split
   ·rename_i e;rw[if_pos e]at h;cases h
   ·exact List.Perm.refl _
theorem fP{key:List UInt8}{r:α}: ∀{l:List (List UInt8×α)},au key l=some r->l.Perm ((key,r)::fG key l)
 |[],h=>by simp[au]at h
 |x::l,h=>by
  simp only[au]at h;simp only[fG];split
  ·rename_i hx;rw[if_pos hx]at h;exact(List.Perm.cons x (fP h)).trans (List.Perm.swap _ _ _)
  ·rename_i hx;rw[if_neg hx]at h;split
   ·rename_i e;rw[if_pos e]at h;injection h with h;rw[<-h,<-e]
   ·rename_i e;rw[if_neg e]at h;cases h
theorem iM{key:List UInt8}: ∀{l:List (List UInt8×α)},au key l=none->fG key l=l
 |[],_=>rfl
 |x::l,h=>by
  simp only[au]at h;simp only[fG];split
  ·rename_i hx;rw[if_pos hx]at h;rw[iM h]
  ·rename_i hx;rw[if_neg hx]at h;split
   ·rename_i e;rw[if_pos e]at h;cases h
   ·rfl
theorem mE{key:List UInt8}{l:List (List UInt8×α)}(h:fc l):au key (fG key l)=none:=by
 rw[bp (gG h)]
 cases e:au key l with
 |none=>rw[iM e];exact(bp h).1 e
 |some r=>
  have hp:=fP e;have hn:fc l:=h;intro q hq e';have hpw:=hn
  have h2:((key,r)::fG key l).Pairwise (fun a b=>a.1≠b.1):=by refine List.Perm.pairwise hp ?_ (fun h=>Ne.symm h);exact List.Pairwise.imp (R:=fun a b:List UInt8×α=>a.1<b.1) (fun{a b} (h:a.1<b.1) (e:a.1=b.1)=>aL b.1 (by rw[e]at h;exact h)) hpw
  exact(List.pairwise_cons.1 h2).1 q hq e'.symm
theorem rF{p:List UInt8×α}: ∀{l:List (List UInt8×α)},fc l->bP p (fG p.1 l)=bP p l
 |[],_=>rfl
 |x::l,h=>by
  have h':=List.pairwise_cons.1 h;simp only[fG,bP];split
  ·rename_i hx;simp only[bP,if_pos hx];rw[rF h'.2]
  ·rename_i hx;split
   ·rename_i e
    cases l with
    |nil=>rfl
    |cons y l=>have hy:=h'.1 y (by simp);rw[e]at hy;simp only[bP];rw[if_neg (sQ hy),if_neg (fun e'=>aL p.1 (by rw[e']at hy;exact hy))]
   ·rename_i e;simp only[bP,if_neg hx,if_neg e]
theorem mF{p:List UInt8×α}{key:List UInt8}{l:List (List UInt8×α)}(h:fc l):au key (bP p l)=if key=p.1 then some p.2 else au key l:=by
 have hu:=eK (p:=p) h
 have hperm:(bP p l).Perm (p::fG p.1 l):=by rw[<-rF h];exact gQ (mE h)
 split
 ·rename_i e;subst e;exact(aD hu).2 (hperm.mem_iff.2 (by simp))
 ·rename_i e
  have hd: ∀r,(key,r)∈fG p.1 l↔(key,r)∈l:=by
   intro r
   cases e':au p.1 l with
   |none=>rw[iM e']
   |some s=>
    rw[(fP e').mem_iff,List.mem_cons];constructor
    ·exact .inr
    ·rintro(h1|h1)
     ·exact absurd (congrArg Prod.fst h1) e
     ·exact h1
  cases e':au key l with
  |some r=>exact(aD hu).2 (hperm.mem_iff.2 (by rw[List.mem_cons,hd];exact .inr ((aD h).1 e')))
  |none=>
   rw[bp hu];intro q hq e1;rcases List.mem_cons.1 (hperm.mem_iff.1 hq)with rfl|hq
   ·exact e e1.symm
   ·subst e1;exact(bp h).1 e' q ((hd q.2).1 hq) rfl
theorem wO{p key:List UInt8}{l:List (List UInt8×α)}(h:fc l):au key (fG p l)=if key=p then none else au key l:=by
 split
 ·rename_i e;subst e;exact mE h
 ·rename_i e
  cases e':au p l with
  |none=>rw[iM e']
  |some s=>
   have hp:=fP e'
   cases e2:au key l with
   |some r=>
    rw[aD (gG h)];have:=hp.mem_iff.1 ((aD h).1 e2);rcases List.mem_cons.1 this with h1|h1
    ·exact absurd (congrArg Prod.fst h1) e
    ·exact h1
   |none=>rw[bp (gG h)];exact fun q hq=>(bp h).1 e2 q (oN hq)
theorem ki{p:List UInt8×α}{l:List (List UInt8×α)}(h:fc l):(bP p l).length=if(au p.1 l).isSome then l.length else l.length+1:=by
 cases e:au p.1 l with
 |none=>simpa using(gQ e).length_eq
 |some r=>rw[<-rF h,(gQ (mE h)).length_eq];have:=(fP e).length_eq;simp at this⊢;omega
theorem wP{key:List UInt8}{r:α}{l:List (List UInt8×α)}(h:au key l=some r):(fG key l).length+1=l.length:=by have:=(fP h).length_eq;simpa using this.symm
theorem pM: ∀{a b:List (List UInt8×α)},fc a->fc b->a.Perm b->a=b
 |[],b,_,_,h=>by rw[List.nil_perm]at h;exact h.symm
 |x::a,[],_,_,h=>by have:=h.length_eq;simp at this
 |x::a,y::b,ha,hb,h=>by
  have ha':=List.pairwise_cons.1 ha;have hb':=List.pairwise_cons.1 hb
  have hxy:x=y:=by
   rcases List.mem_cons.1 (h.mem_iff.1 (List.mem_cons_self (a:=x)))with e|hx
   ·exact e
   ·rcases List.mem_cons.1 (h.mem_iff.2 (List.mem_cons_self (a:=y)))with e|hy
    ·exact e.symm
    ·exact absurd (eT (ha'.1 y hy) (hb'.1 x hx)) (aL _)
  subst hxy;rw[pM ha'.2 hb'.2 h.cons_inv]
end
theorem oO(p:Pr): ∀l:List Pr,ins p l=bP p l
 |[]=>rfl
 |q::l=>by simp only[ins,bP,oO p l]
theorem del_eq(k:List UInt8): ∀l:List Pr,del k l=fG k l
 |[]=>rfl
 |q::l=>by simp only[del,fG,del_eq k l]
theorem look_eq(k:List UInt8): ∀l:List Pr,look k l=au k l
 |[]=>rfl
 |q::l=>by
  have ih:=look_eq k l;unfold look at ih⊢;simp only[ceil,au];split
  ·rename_i h;split at h
   ·rename_i hq;rw[if_pos hq,<-ih,h]
   ·rename_i hq;rw[if_neg hq];injection h with h;rw[h]
  ·rename_i h;split at h
   ·rename_i hq;rw[if_pos hq,<-ih,h]
   ·cases h
abbrev ax:=List (List UInt8×Rw)
section
variable(enc:Rw->List UInt8)
def Dd(q:List UInt8×Rw):Pr:=(q.1,enc q.2)
theorem IM(p:List UInt8×Rw): ∀l:ax,ins (Dd enc p) (l.map (Dd enc))=(bP p l).map (Dd enc)
 |[]=>rfl
 |q::l=>by
  have ih:=IM p l;simp only[List.map_cons,ins,bP];show(if q.1<p.1 then _ else _)=_;by_cases h:q.1<p.1
  ·rw[if_pos h,if_pos h,List.map_cons,<-ih]
  ·rw[if_neg h,if_neg h];show(if q.1=p.1 then _ else _)=_;by_cases h2:q.1=p.1
   ·rw[if_pos h2,if_pos h2,List.map_cons]
   ·rw[if_neg h2,if_neg h2,List.map_cons,List.map_cons]
theorem De(k:List UInt8): ∀l:ax,look k (l.map (Dd enc))=(au k l).map enc
 |[]=>rfl
 |q::l=>by
  have ih:=De k l;rw[look_eq]at ih⊢;simp only[List.map_cons,au,ih,Dd];split
  ·rfl
  ·split<;>rfl
end
def nA(c:Nat)(q:List UInt8×Rw):Pr:=(dP (q.2.aM c) q.1,[])
def sW(c:Nat):ax->List Pr
 |[]=>[]
 |q::l=>bP (nA c q) (sW c l)
def RowsFit(l:ax):Prop:= ∀q∈l,∀c,I6 (q.2.aM c)
theorem iO(c:Nat): ∀l:ax,Up (sW c l)
 |[]=>by simp[sW,Up]
 |q::l=>eK (iO c l)
theorem Df{c:Nat}{p q:List UInt8×Rw}(hp:I6 (p.2.aM c))(hq:I6 (q.2.aM c))(h:(nA c p).1=(nA c q).1):p.1=q.1:=(MO hp hq h).2
theorem fp(c:Nat): ∀{l:ax},fc l->RowsFit l->(sW c l).Perm (l.map (nA c))
 |[],_,_=>List.Perm.refl _
 |q::l,h,hf=>by have h':=List.pairwise_cons.1 h;have ih:=fp c h'.2 (fun p hp=>hf p (by simp[hp]));refine(gQ ?_).trans (List.Perm.cons _ ih);rw[bp (iO c l)];intro p hp e;obtain⟨p',hp',rfl⟩:=List.mem_map.1 (ih.mem_iff.1 hp);have e1:=Df (hf p' (by simp[hp']) c) (hf q (by simp) c) e;have:=h'.1 p' hp';rw[e1]at this;exact aL _ this
theorem BB{c:Nat}{l:ax}{il:List Pr}(h:fc l)(hf:RowsFit l)(hu:Up il)(hp:il.Perm (l.map (nA c))):il=sW c l:=
 pM hu (iO c l) (hp.trans (fp c h hf).symm)
theorem IP{c:Nat}{l:ax}(h:fc l)(hf:RowsFit l):(sW c l).length=l.length:=by rw[(fp c h hf).length_eq,List.length_map]
theorem RowsFit.ins{p:List UInt8×Rw}{l:ax}(h:RowsFit l)(hp: ∀c,I6 (p.2.aM c)):RowsFit (bP p l):=fun q hq=>(gW hq).elim (fun e=>by subst e;exact hp) (h q)
theorem RowsFit.del{k:List UInt8}{l:ax}(h:RowsFit l):RowsFit (fG k l):=fun q hq=>h q (oN hq)
theorem BC{c:Nat}{l:ax}{p:List UInt8×Rw}(h:fc l)(hf:RowsFit l)(hp:I6 (p.2.aM c))(hn:au p.1 l=none):au (nA c p).1 (sW c l)=none:=by rw[bp (iO c l)];intro q hq e;obtain⟨q',hq',rfl⟩:=List.mem_map.1 ((fp c h hf).mem_iff.1 hq);exact(bp h).1 hn q' hq' (Df (hf q' hq' c) hp e)
theorem rG{c:Nat}{l:ax}{k:List UInt8}{r:Rw}(h:fc l)(hf:RowsFit l)(hn:au k l=some r):au (nA c (k,r)).1 (sW c l)=some []:=by rw[aD (iO c l)];exact(fp c h hf).mem_iff.2 (List.mem_map.2 ⟨(k,r),(aD h).1 hn,rfl⟩)
theorem MP{c:Nat}{l:ax}{p:List UInt8×Rw}(h:fc l)(hf:RowsFit l)(hp: ∀c,I6 (p.2.aM c))(hn:au p.1 l=none):bP (nA c p) (sW c l)=sW c (bP p l):=by refine BB (eK h) (hf.ins hp) (eK (iO c l)) ?_;refine(gQ (BC h hf (hp c) hn)).trans ?_;refine(List.Perm.cons _ (fp c h hf)).trans ?_;exact((gQ hn).map (nA c)).symm
theorem UY{c:Nat}{l:ax}{k:List UInt8}{r:Rw}(h:fc l)(hf:RowsFit l)(hn:au k l=some r):fG (dP (r.aM c) k) (sW c l)=sW c (fG k l):=by refine BB (gG h) hf.del (gG (iO c l)) ?_;have h1:=fP (rG (c:=c) h hf hn);have h2:=((fp c h hf).symm.trans h1).symm.trans ((fP hn).map (nA c));rw[List.map_cons]at h2;exact List.Perm.cons_inv h2
theorem IQ{c:Nat}{l:ax}{k:List UInt8}{r old:Rw}(h:fc l)(hf:RowsFit l)(hr: ∀c,I6 (r.aM c))(hn:au k l=some old):bP (dP (r.aM c) k,[]) (fG (dP (old.aM c) k) (sW c l))=sW c (bP (k,r) l):=by rw[UY h hf hn];have:=MP (c:=c) (p:=(k,r)) (gG (key:=k) h) hf.del hr (mE h);rw[rF (p:=(k,r)) h]at this;exact this
theorem QU{c:Nat}{l:ax}{k:List UInt8}{r old:Rw}(h:fc l)(hf:RowsFit l)(hr: ∀c,I6 (r.aM c))(hn:au k l=some old)(e:old.aM c=r.aM c):sW c l=sW c (bP (k,r) l):=by rw[<-IQ h hf hr hn,e];have h1:=rG (c:=c) h hf hn;rw[show(nA c (k,old)).1=dP (r.aM c) k by rw[<-e];rfl]at h1;refine pM (iO c l) (eK (gG (iO c l))) ?_;exact(fP h1).trans (gQ (p:=(dP (r.aM c) k,[])) (mE (iO c l))).symm
def dh(key:List UInt8)(l:List Pr):List Pr:=l.dropWhile fun p=>decide (p.1<key)
theorem pN(key:List UInt8): ∀l:List Pr,ceil key l=(dh key l).head?
 |[]=>rfl
 |q::l=>by
  have ih:=pN key l;unfold dh at ih⊢;by_cases h:q.1<key
  ·simp[ceil,h,ih]
  ·simp[ceil,h]
theorem Kb{key:List UInt8}: ∀{l:List Pr},(∀q∈l,¬q.1<key)->dh key l=l
 |[],_=>rfl
 |q::l,h=>by unfold dh;simp[h q (by simp)]
theorem sX{key:List UInt8}{l:List Pr}{q:Pr}(h:q∈dh key l):q∈l:=(List.dropWhile_sublist _).subset h
theorem zO{key:List UInt8}{p:Pr}{tl:List Pr}: ∀{l:List Pr},Up l->dh key l=p::tl->dh (p.1++[0]) l=tl
 |[],_,h=>by simp[dh]at h
 |q::l,hu,h=>by
  have hu':=List.pairwise_cons.1 hu;by_cases hq:q.1<key
  ·have h1:dh key l=p::tl:=by
    unfold dh at h⊢;simpa[hq]using h
   have hp:p∈l:=sX (key:=key) (by rw[h1];simp);have h2:q.1<p.1++[0]:=vC.2 (.inl (hu'.1 p hp));have:=zO hu'.2 h1;unfold dh at this⊢;simpa[h2]using this
  ·have h1:q=p/\l=tl:=by
    unfold dh at h;simp[hq]at h;exact h
   obtain⟨rfl,rfl⟩:=h1;have h2:q.1<q.1++[0]:=vC.2 (.inr rfl)
   have h3:dh (q.1++[0]) l=l:=Kb fun y hy e=>by
    rcases vC.1 e with e|e
    ·exact aL _ (eT e (hu'.1 y hy))
    ·have:=hu'.1 y hy;rw[e]at this;exact aL _ this
   unfold dh at h3⊢;simpa[h2]using h3
theorem MQ{key:List UInt8}{l:List Pr}(h:Up l):Up (dh key l):=h.sublist (List.dropWhile_sublist _)
theorem rH{key:List UInt8}: ∀{l:List Pr},Up l->dh key l=l.filter fun p=>decide (¬p.1<key)
 |[],_=>rfl
 |q::l,hu=>by
  have hu':=List.pairwise_cons.1 hu;by_cases hq:q.1<key
  ·have ih:=rH (key:=key) hu'.2;unfold dh at ih⊢;simp[hq,ih]
  ·rw[List.filter_eq_self.2]
   ·unfold dh;simp[hq]
   ·intro y hy;simp only[decide_eq_true_eq];rcases List.mem_cons.1 hy with rfl|hy
    ·exact hq
    ·exact fun e=>hq (eT (hu'.1 y hy) e)
def jG(to:List UInt8)(p:Pr):Bool:=decide (to=[])||decide (p.1<to)
theorem uu{to:List UInt8}: ∀{l:List Pr},Up l->l.takeWhile (jG to)=l.filter (jG to)
 |[],_=>rfl
 |q::l,hu=>by
  have hu':=List.pairwise_cons.1 hu;by_cases hq:jG to q=true
  ·simp[hq,uu hu'.2]
  ·have:(q::l).filter (jG to)=[]:=by
    rw[List.filter_eq_nil_iff];intro y hy hy';rcases List.mem_cons.1 hy with rfl|hy
    ·exact hq hy'
    ·apply hq;unfold jG at hy'⊢;simp only[Bool.or_eq_true,decide_eq_true_eq]at hy'⊢;exact hy'.imp id (fun e=>eT (hu'.1 y hy) e)
   rw[this];simp[hq]
def QV(lo to:List UInt8)(l:List Pr):List Pr:=(dh lo l).takeWhile (jG to)
theorem Dh{lo to:List UInt8}{l:List Pr}(h:Up l):QV lo to l=l.filter fun p=>jG to p&&decide (¬p.1<lo):=by unfold QV;rw[uu (MQ h),rH h,List.filter_filter]
def Di(hi:Int):List UInt8:=if hi<9223372036854775807 then pfx (hi+1)else[]
def Dj(c:Nat)(lo hi:Int)(q:List UInt8×Rw):Bool:=decide (lo<=q.2.aM c)&&decide (q.2.aM c<=hi)
theorem wQ{a b k:List UInt8}(h:a.length=b.length):a++k<b↔a<b:=by have:=qM (k:=k) (l:=[]) h;rw[List.append_nil]at this;rw[this];simp
theorem QW{c:Nat}{lo hi:Int}{q:List UInt8×Rw}(hq:I6 (q.2.aM c))(hlo:I6 lo)(hhi:I6 hi):(jG (Di hi) (nA c q)&&decide (¬(nA c q).1<pfx lo))=Dj c lo hi q:=by
 have e1:(nA c q).1<pfx lo↔q.2.aM c<lo:=by show dP _ _<_↔_;unfold dP;rw[wQ (by rw[cu,cu]),sV hq hlo]
 have e2:jG (Di hi) (nA c q)=decide (q.2.aM c<=hi):=by
  unfold jG Di;split
  ·rename_i h;have hne:pfx (hi+1)≠[]:=fun e=>by have:=cu (hi+1);rw[e]at this;simp at this
   have e3:(nA c q).1<pfx (hi+1)↔q.2.aM c<hi+1:=by show dP _ _<_↔_;unfold dP;rw[wQ (by rw[cu,cu]),sV hq ⟨by have:=hhi.1;omega,by omega⟩]
   simp only[hne,decide_false,Bool.false_or];rw[decide_eq_decide,e3];omega
  ·rename_i h;have:=hq.2;simp;omega
 rw[e2];unfold Dj;rw[Bool.and_comm];congr 1;rw[decide_eq_decide,e1];omega
theorem RowsFit.filter{l:ax}(h:RowsFit l)(f:List UInt8×Rw->Bool):RowsFit (l.filter f):=fun q hq=>h q (List.mem_filter.1 hq).1
theorem fc.filter{α:Type}{l:List (List UInt8×α)}(h:fc l)(f:List UInt8×α->Bool):fc (l.filter f):=h.sublist List.filter_sublist
theorem QX{c:Nat}{l:ax}{lo hi:Int}(h:fc l)(hf:RowsFit l)(hlo:I6 lo)(hhi:I6 hi):QV (pfx lo) (Di hi) (sW c l)=sW c (l.filter (Dj c lo hi)):=by
 rw[Dh (iO c l)];refine BB (h.filter _) (hf.filter _) ((iO c l).sublist List.filter_sublist) ?_;refine((fp c h hf).filter _).trans ?_;rw[List.filter_map]
 have:l.filter ((fun p=>jG (Di hi) p&&decide (¬p.1<pfx lo))∘nA c)=l.filter (Dj c lo hi):=by refine List.filter_congr fun q hq=>?_;exact QW (hf q hq c) hlo hhi
 rw[this]
def cV(c:Nat)(lo hi:Int)(l:ax):List (List UInt8):=(sW c (l.filter (Dj c lo hi))).map fun p=>p.1.drop 8
theorem oP(v:Int)(k:List UInt8):(dP v k).drop 8=k:=by unfold dP;rw[List.drop_append_of_le_length (by rw[cu];omega),List.drop_eq_nil_of_le (by rw[cu];omega)];rfl
theorem jS{c:Nat}{lo hi:Int}{l:ax}(h:fc l)(hf:RowsFit l){k:List UInt8}:k∈cV c lo hi l↔ ∃r,(k,r)∈l/\lo<=r.aM c/\r.aM c<=hi:=by
 unfold cV;rw[List.mem_map];constructor
 ·rintro⟨p,hp,rfl⟩;obtain⟨q,hq,rfl⟩:=List.mem_map.1 ((fp c (h.filter _) (hf.filter _)).mem_iff.1 hp);obtain⟨h1,h2⟩:=List.mem_filter.1 hq;unfold Dj at h2;simp only[Bool.and_eq_true,decide_eq_true_eq]at h2;refine⟨q.2,?_,h2⟩;show((dP _ _).drop 8,_)∈l;rw[oP];exact h1
 ·rintro⟨r,hr,h1,h2⟩;refine⟨nA c (k,r),(fp c (h.filter _) (hf.filter _)).mem_iff.2 (List.mem_map.2 ⟨(k,r),List.mem_filter.2 ⟨hr,by simp[Dj,h1,h2]⟩,rfl⟩),oP _ _⟩
theorem zP{c:Nat}{lo hi:Int}{l:ax}(h:fc l)(hf:RowsFit l):(cV c lo hi l).length<=l.length:=by unfold cV;rw[List.length_map,IP (h.filter _) (hf.filter _)];exact List.length_filter_le _ _
end Go.Proofs.YtmkofmeojbcakaaGreatDoor
