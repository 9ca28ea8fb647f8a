import Derived.Lib.Hide
namespace Go.Proofs.YtehccbdajiiaaaaGreatDoor
set_option maxRecDepth 100000
abbrev Pr:=List UInt8×List UInt8
section
def flat:List (List Pr)->List Pr->List Pr
 |[],_=>[]
 |k::_,[]=>k
 |k::ks,p::ps=>k++p::flat ks ps
def pre:List (List Pr)->List Pr->List Pr
 |k::ks,p::ps=>k++p::pre ks ps
 |_,_=>[]
def post:List Pr->List (List Pr)->List Pr
 |[],_=>[]
 |p::ps,b=>p::flat b ps
theorem sX(k:List Pr)(b:List (List Pr))(y:List Pr):flat (k::b) y=k++post y b:=by cases y<;>simp[flat,post]
theorem wM: ∀(a:List (List Pr)) (x:List Pr) (b:List (List Pr)) (y:List Pr),a.length=x.length->b≠[]->flat (a++b) (x++y)=pre a x++flat b y
 |[],[],b,y,_,_=>by simp[pre]
 |k::a,p::x,b,y,h,hb=>by have c:=wM a x b y (by simpa using h) hb;simp[flat,pre,c]
theorem wN{a:List (List Pr)}{x:List Pr}(h:a.length=x.length)(k:List Pr)(b:List (List Pr))(y:List Pr):flat (a++k::b) (x++y)=pre a x++k++post y b:=by rw[wM a x _ y h (by simp),sX,List.append_assoc]
theorem D4{a:List (List Pr)}{x:List Pr}(h:a.length=x.length)(l r:List Pr)(m:Pr)(b:List (List Pr))(y:List Pr):flat (a++l::r::b) (x++m::y)=pre a x++(l++m::r)++post y b:=by rw[wM a x _ _ h (by simp)];simp only[flat];rw[sX];simp
theorem sY{a:List (List Pr)}{x:List Pr}(h:a.length=x.length)(k:List Pr):flat (a++[k]) x=pre a x++k:=by have:=wN h k [] [];simpa[post]using this
theorem D5: ∀(a:List (List Pr)) (x:List Pr) (k:List Pr) (p:Pr),a.length=x.length->pre (a++[k]) (x++[p])=pre a x++k++[p]
 |[],[],k,p,_=>by simp[pre]
 |k'::a,p'::x,k,p,h=>by have b:=D5 a x k p (by simpa using h);simp[pre,b]
def Up(l:List Pr):Prop:=l.Pairwise fun a b=>a.1<b.1
theorem Up.left{a b:List Pr}(h:Up (a++b)):Up a:=(List.pairwise_append.1 h).1
theorem Up.right{a b:List Pr}(h:Up (a++b)):Up b:=(List.pairwise_append.1 h).2.1
theorem fC{a b c:List UInt8}(h:a<b)(d:b<c):a<c:=List.lt_trans h d
theorem aN(a:List UInt8): ¬a<a:=List.lt_irrefl a
theorem sZ{a b:List UInt8}(h:a<b): ¬b<a:=fun c=>aN a (fC h c)
theorem Cn{a b:List UInt8}(h: ¬a<b):b<a\/b=a:=by
 rcases Classical.em (b=a)with e|e
 ·exact .inr e
 ·refine .inl ?_;have:=List.not_lt.1 h;exact Std.lt_of_le_of_ne this e
theorem Co{key:List UInt8}: ∀{b:List (List Pr)} {x:List Pr},Up (pre b x)->(∀q∈x,q.1<key)-> ∀q∈pre b x,q.1<key
 |[],_,_,_,q,a=>by simp[pre]at a
 |_::_,[],_,_,q,a=>by simp[pre]at a
 |k::b,p::x,h,hx,q,a=>by
  simp only[pre]at h a;have b:=List.pairwise_append.1 h;have c:=List.pairwise_cons.1 b.2.1;rcases List.mem_append.1 a with a|a
  ·exact fC (b.2.2 q a p (by simp)) (hx p (by simp))
  ·rcases List.mem_cons.1 a with rfl|a
   ·exact hx _ (by simp)
   ·exact Co c.2 (fun r b=>hx r (by simp[b])) q a
def ins(p:Pr):List Pr->List Pr
 |[]=>[p]
 |q::l=>if q.1<p.1 then q::ins p l else if q.1=p.1 then p::l else p::q::l
def del(key:List UInt8):List Pr->List Pr
 |[]=>[]
 |q::l=>if q.1<key then q::del key l else if q.1=key then l else q::l
def ceil(key:List UInt8):List Pr->Option Pr
 |[]=>none
 |q::l=>if q.1<key then ceil key l else some q
def look(key:List UInt8)(l:List Pr):Option (List UInt8):=match ceil key l with
 |some q=>if q.1=key then some q.2 else none
 |none=>none
theorem pI{p:Pr}{a b:List Pr}(h: ∀q∈a,q.1<p.1):ins p (a++b)=a++ins p b:=by
 induction a with
 |nil=>rfl
 |cons q a c=>simp[ins,h q (by simp),c (fun r c=>h r (by simp[c]))]
theorem D6{p:Pr}{a b:List Pr}(h: ∀q,b.head?=some q->p.1<q.1):ins p (a++b)=ins p a++b:=by
 induction a with
 |nil=>
  cases b with
  |nil=>rfl
  |cons q b=>have:=h q rfl;simp[ins,sZ this];exact fun e=>aN p.1 (e▸this)
 |cons q a c=>
  simp only[List.cons_append,ins];split
  ·simp[c]
  ·split<;>simp
theorem pJ{key:List UInt8}{a b:List Pr}(h: ∀q∈a,q.1<key):del key (a++b)=a++del key b:=by
 induction a with
 |nil=>rfl
 |cons q a c=>simp[del,h q (by simp),c (fun r c=>h r (by simp[c]))]
theorem D7{key:List UInt8}{a b:List Pr}(h: ∀q,b.head?=some q->key<q.1):del key (a++b)=del key a++b:=by
 induction a with
 |nil=>
  cases b with
  |nil=>rfl
  |cons q b=>have:=h q rfl;simp[del,sZ this];exact fun e=>aN key (e▸this)
 |cons q a c=>
  simp only[List.cons_append,del];split
  ·simp[c]
  ·split<;>simp
theorem wO{key:List UInt8}{a b:List Pr}(h: ∀q∈a,q.1<key):ceil key (a++b)=ceil key b:=by
 induction a with
 |nil=>rfl
 |cons q a c=>simp[ceil,h q (by simp),c (fun r c=>h r (by simp[c]))]
theorem D8{key:List UInt8}{a b:List Pr}:ceil key (a++b)=(ceil key a).or (ceil key b):=by
 induction a with
 |nil=>simp[ceil]
 |cons q a c=>simp only[List.cons_append,ceil];split<;>simp[c]
theorem LD{key:List UInt8}{b:List Pr}(h: ∀q,b.head?=some q-> ¬q.1<key):ceil key b=b.head?:=by
 cases b with
 |nil=>rfl
 |cons q b=>simp[ceil,h q rfl]
end
def posOf(key:List UInt8)(ps:List Pr):Nat:=(ps.takeWhile fun p=>decide (p.1<key)).length
theorem eT(key:List UInt8)(ps:List Pr):posOf key ps<=ps.length:=by unfold posOf;have h:=congrArg List.length (List.takeWhile_append_dropWhile (p:=fun p:Pr=>decide (p.1<key)) (l:=ps));rw[List.length_append]at h;omega
theorem fh(key:List UInt8): ∀(a:List Pr),∀q∈a.take (posOf key a),q.1<key
 |[],q,h=>by simp at h
 |p::a,q,h=>by
  unfold posOf at h;by_cases b:p.1<key
  ·simp[b]at h;rcases h with rfl|h
   ·exact b
   ·exact fh key a q h
  ·simp[b]at h
theorem nz(key:List UInt8): ∀(a:List Pr) (q:Pr),a[posOf key a]?=some q-> ¬q.1<key
 |[],q,h=>by simp at h
 |p::a,q,h=>by
  unfold posOf at h;by_cases b:p.1<key
  ·simp[b]at h;exact nz key a q h
  ·simp[b]at h;subst h;exact b
def hit(key:List UInt8)(ps:List Pr):Bool:=match ps[posOf key ps]? with
 |some q=>decide (q.1=key)
 |none=>false
theorem gh{key:List UInt8}{ps:List Pr}(h:hit key ps=true): ∃v,ps[posOf key ps]?=some (key,v):=by
 unfold hit at h;split at h
 ·rename_i q a;simp at h;exact⟨q.2,by rw[a];subst h;rfl⟩
 ·cases h
theorem s8{key:List UInt8}{ps:List Pr}(h:hit key ps=false){q:Pr}(a:ps[posOf key ps]?=some q):key<q.1:=by
 unfold hit at h;rw[a]at h;simp at h;rcases Cn (nz key ps q a)with a|a
 ·exact a
 ·exact absurd a.symm h
theorem ez{α:Type}{l:List α}{i:Nat}{x:α}(h:l[i]?=some x):l=l.take i++x::l.drop (i+1):=by have a:=(List.getElem?_eq_some_iff.1 h).1;have a:=(List.getElem?_eq_some_iff.1 h).2;rw[<-a];simp
theorem iW{α:Type}(l:List α)(i:Nat):(l.drop i).head?=l[i]?:=by simp
inductive ND where
 |mk (ps:List Pr) (ks:List ND)
def ND.ps:ND->List Pr
 | .mk a _=>a
def ND.ks:ND->List ND
 | .mk _ a=>a
@[simp] theorem ND.cw (ps:List Pr) (ks:List ND):(ND.mk ps ks).ps=ps:=rfl
@[simp] theorem ND.di (ps:List Pr) (ks:List ND):(ND.mk ps ks).ks=ks:=rfl
def D9:ND:=.mk [] []
def aZ:Nat->ND->List Pr
 |0,x=>x.ps
 |d+1,x=>flat (x.ks.map (aZ d)) x.ps
def fD:(d o lo hi:Nat)->ND->Prop
 |0,_,lo,hi,x=>lo<=x.ps.length/\x.ps.length<=hi/\x.ks=[]
 |d+1,o,lo,hi,x=>lo<=x.ps.length/\x.ps.length<=hi/\x.ks.length=x.ps.length+1/\ ∀k∈x.ks,fD d o (o-1) (2*o-1) k
theorem fD.len{d o lo hi:Nat}{x:ND}(h:fD d o lo hi x):lo<=x.ps.length/\x.ps.length<=hi:=by
 cases d with
 |zero=>exact⟨h.1,h.2.1⟩
 |succ d=>exact⟨h.1,h.2.1⟩
theorem fD.re{d o lo hi lo' hi':Nat}{x:ND}(h:fD d o lo hi x)(b:lo'<=x.ps.length)(a:x.ps.length<=hi'):fD d o lo' hi' x:=by
 cases d with
 |zero=>exact⟨b,a,h.2.2⟩
 |succ d=>exact⟨b,a,h.2.2⟩
theorem vI{d:Nat}{ps:List Pr}{ks:List ND}{i:Nat}{k:ND}(b:ks[i]?=some k)(a:ks.length=ps.length+1)(a:ND):
  aZ (d+1) (.mk ps (ks.take i++a::ks.drop (i+1)))=pre ((ks.take i).map (aZ d)) (ps.take i)++aZ d a++post (ps.drop i) ((ks.drop (i+1)).map (aZ d)):=by
 have c:=(List.getElem?_eq_some_iff.1 b).1;have:=wN (a:=(ks.take i).map (aZ d)) (x:=ps.take i) (by simp;omega) (aZ d a) ((ks.drop (i+1)).map (aZ d)) (ps.drop i);rw[List.take_append_drop]at this;simpa[aZ,ND.ps,ND.ks]using this
theorem kU{d:Nat}{ps:List Pr}{ks:List ND}{i:Nat}{k:ND}(a:ks[i]?=some k)(b:ks.length=ps.length+1):
  aZ (d+1) (.mk ps ks)=pre ((ks.take i).map (aZ d)) (ps.take i)++aZ d k++post (ps.drop i) ((ks.drop (i+1)).map (aZ d)):=by
 rw[<-vI a b k,<-ez a]
theorem vJ{d:Nat}{ps ps':List Pr}{ks ks':List ND}{i:Nat}(l m:ND)(p:Pr)(hi:i<=ps.length)(hi':i<=ks.length):
  aZ (d+1) (.mk (ps.take i++p::ps') (ks.take i++l::m::ks'))=pre ((ks.take i).map (aZ d)) (ps.take i)++(aZ d l++p::aZ d m)++post ps' (ks'.map (aZ d)):=by
 have:=D4 (a:=(ks.take i).map (aZ d)) (x:=ps.take i) (by simp;omega) (aZ d l) (aZ d m) p (ks'.map (aZ d)) ps';simpa[aZ,ND.ps,ND.ks]using this
theorem mJ{y:List Pr}{b:List (List Pr)}:(post y b).head?=y.head?:=by cases y<;>rfl
theorem Cq{d:Nat}{key:List UInt8}{ps:List Pr}{ks:List ND}(c:ks.length=ps.length+1)(a:Up (aZ (d+1) (.mk ps ks))){k:ND}(b:ks[posOf key ps]?=some k):
  ceil key (aZ (d+1) (.mk ps ks))=(ceil key (aZ d k)).or ps[posOf key ps]?:=by
 rw[kU b c]at a⊢;rw[List.append_assoc,wO (Co a.left.left (fh key ps)),D8,LD (b:=post _ _) (by rw[mJ,iW];exact nz key ps),mJ,iW]
theorem Ea{d:Nat}{key:List UInt8}{ps:List Pr}{ks:List ND}(b:ks.length=ps.length+1)(a:Up (aZ (d+1) (.mk ps ks)))(h:hit key ps=true):
  ceil key (aZ (d+1) (.mk ps ks))=ps[posOf key ps]?:=by
 obtain⟨v,e⟩:=gh h;have c:=(List.getElem?_eq_some_iff.1 e).1;obtain⟨k,c⟩: ∃k,ks[posOf key ps]?=some k:=⟨_,List.getElem?_eq_getElem (by omega)⟩;rw[Cq b a c];rw[kU c b]at a;have b:=(List.pairwise_append.1 a).2.2
 have:ceil key (aZ d k)=none:=by
  have a: ∀q∈aZ d k,q.1<key:=fun q c=>b q (by simp[c]) (key,v) (by
   have b:(post (ps.drop (posOf key ps)) ((ks.drop (posOf key ps+1)).map (aZ d))).head?=some (key,v):=by rw[mJ,iW,e]
   exact List.mem_of_head? b)
  have:=wO (b:=[]) a;simpa[ceil]using this
 rw[this];simp
theorem mK{key:List UInt8}: ∀(a:List Pr),ceil key a=a[posOf key a]?
 |[]=>rfl
 |p::a=>by
  have b:=mK (key:=key) a;unfold posOf at b⊢;by_cases h:p.1<key
  ·simp[ceil,h,b]
  ·simp[ceil,h]
def jU:(d:Nat)->ND->Nat->ND×Pr×ND
 |0,x,o=>(.mk (x.ps.take (o-1)) [],x.ps[o-1]?.getD ([],[]),.mk (x.ps.drop o) [])
 |_+1,x,o=>(.mk (x.ps.take (o-1)) (x.ks.take o),x.ps[o-1]?.getD ([],[]),.mk (x.ps.drop o) (x.ks.drop o))
def nA(d:Nat)(x:ND)(i o:Nat):ND:=
 let c:=jU d (x.ks[i]?.getD D9) o
 .mk (x.ps.take i++c.2.1::x.ps.drop i) (x.ks.take i++c.1::c.2.2::x.ks.drop (i+1))
theorem JX{d o:Nat}{x:ND}(a:1<=o)(h:fD d o (2*o) (2*o) x):aZ d (jU d x o).1++(jU d x o).2.1::aZ d (jU d x o).2.2=aZ d x:=by
 have e:=h.len
 cases d with
 |zero=>obtain⟨b,a⟩:=x;simp only[ND.cw]at e;have c:b[o-1]?=some (b[o-1]'(by omega)):=List.getElem?_eq_getElem _;have:=ez c;simp only[jU,aZ,ND.cw,c,Option.getD_some];rw[show o-1+1=o by omega]at this;exact this.symm
 |succ d=>
  obtain⟨b,a⟩:=x;simp only[ND.cw]at e;obtain⟨_,_,f,_⟩:=h;simp only[ND.cw,ND.di]at f e;have c:b[o-1]?=some (b[o-1]'(by omega)):=List.getElem?_eq_getElem _;have f:=ez c;rw[show o-1+1=o by omega]at f;have e:a[o-1]?=some (a[o-1]'(by omega)):=List.getElem?_eq_getElem _;have e:a[o]?=some (a[o]'(by omega)):=List.getElem?_eq_getElem _
  have g:a.take o=a.take (o-1)++[a[o-1]'(by omega)]:=by
   conv=>lhs;rw[show o=o-1+1 by omega]
   rw[List.take_succ_eq_append_getElem (by omega)]
  have e:a.drop o=a[o]'(by omega)::a.drop (o+1):=List.drop_eq_getElem_cons (by omega)
  have h:a=a.take (o-1)++a[o-1]'(by omega)::a[o]'(by omega)::a.drop (o+1):=by
   conv=>lhs;rw[<-List.take_append_drop o a,g,e]
   rw[List.append_assoc];rfl
  have j:=vJ (d:=d) (ps:=b) (ps':=b.drop o) (ks:=a) (ks':=a.drop (o+1)) (i:=o-1) (a[o-1]'(by omega)) (a[o]'(by omega)) (b[o-1]'(by omega)) (by omega) (by omega);have i:aZ (d+1) (.mk b a)=aZ (d+1) (.mk (b.take (o-1)++b[o-1]'(by omega)::b.drop o) (a.take (o-1)++a[o-1]'(by omega)::a[o]'(by omega)::a.drop (o+1))):=by rw[<-h,<-f]
  rw[i,j]
  have h:aZ (d+1) (.mk (b.take (o-1)) (a.take o))=pre ((a.take (o-1)).map (aZ d)) (b.take (o-1))++aZ d (a[o-1]'(by omega)):=by rw[g];have:=sY (a:=(a.take (o-1)).map (aZ d)) (x:=b.take (o-1)) (by simp;omega) (aZ d (a[o-1]'(by omega)));simp only[aZ,ND.cw,ND.di,List.map_append,List.map_cons,List.map_nil];exact this
  have f:aZ (d+1) (.mk (b.drop o) (a.drop o))=aZ d (a[o]'(by omega))++post (b.drop o) ((a.drop (o+1)).map (aZ d)):=by rw[e];simp only[aZ,ND.cw,ND.di,List.map_cons];exact sX _ _ _
  simp only[jU,ND.cw,ND.di,c,Option.getD_some];rw[h,f];simp
theorem SI{o:Nat}{x:List Pr}(a:2<=o)(h:2*o<=x.length/\x.length<=2*o):(o-1<=(x.take (o-1)).length/\(x.take (o-1)).length<=2*o-1)/\o-1<=(x.drop o).length/\(x.drop o).length<=2*o-1:=by simp only[List.length_take,List.length_drop];omega
theorem Od{d o:Nat}{x:ND}(c:2<=o)(h:fD d o (2*o) (2*o) x):fD d o (o-1) (2*o-1) (jU d x o).1/\fD d o (o-1) (2*o-1) (jU d x o).2.2:=by
 have b:=h.len
 cases d with
 |zero=>obtain⟨f,e⟩:=x;have a:=SI c b;exact⟨⟨a.1.1,a.1.2,rfl⟩,a.2.1,a.2.2,rfl⟩
 |succ d=>obtain⟨f,e⟩:=x;simp only[ND.cw]at b;obtain⟨_,_,a,c⟩:=h;simp only[ND.cw,ND.di]at a c b;simp only[jU,fD,ND.cw,ND.di];simp only[List.length_take,List.length_drop];exact⟨⟨by omega,by omega,by omega,fun k a=>c k (List.mem_of_mem_take a)⟩,by omega,by omega,by omega,fun k a=>c k (List.mem_of_mem_drop a)⟩
def Cr(x:List Pr)(p:Pr):List Pr:=if hit p.1 x then x.take (posOf p.1 x)++p::x.drop (posOf p.1 x+1)else x.take (posOf p.1 x)++p::x.drop (posOf p.1 x)
def ik:(d:Nat)->ND->Pr->Nat->ND
 |0,x,p,_=>.mk (Cr x.ps p) []
 |d+1,x,p,o=>
  let i:=posOf p.1 x.ps
  if hit p.1 x.ps then .mk (x.ps.take i++p::x.ps.drop (i+1)) x.ks
  else
   let k:=ik d (x.ks[i]?.getD D9) p o
   let y:ND:=.mk x.ps (x.ks.take i++k::x.ks.drop (i+1))
   if 2*o-1<k.ps.length then nA d y i o else y
theorem WV{p:Pr}{ps:List Pr}(h:hit p.1 ps=false):ins p ps=ps.take (posOf p.1 ps)++p::ps.drop (posOf p.1 ps):=by
 conv=>lhs;rw[<-List.take_append_drop (posOf p.1 ps) ps]
 rw[pI (fh _ _)];have:=D6 (p:=p) (a:=[]) (b:=ps.drop (posOf p.1 ps)) (fun q a=>s8 h (by rw[<-iW];exact a));simp[ins]at this;rw[this]
theorem SJ{p:Pr}{ps:List Pr}(h:hit p.1 ps=true):ins p ps=ps.take (posOf p.1 ps)++p::ps.drop (posOf p.1 ps+1):=by
 obtain⟨v,a⟩:=gh h
 conv=>lhs;rw[ez a]
 rw[pI (fh _ _)];simp[ins,aN]
theorem Oe{o:Nat}(d:2<=o)(p:Pr){lo:Nat}{x:List Pr}(h:lo<=x.length/\x.length<=2*o-1):Cr x p=ins p x/\lo<=(Cr x p).length/\(Cr x p).length<=2*o:=by
 unfold Cr;split
 ·rename_i a;obtain⟨v,c⟩:=gh a;have b:=(List.getElem?_eq_some_iff.1 c).1;refine⟨(SJ a).symm,?_⟩;simp only[List.length_append,List.length_take,List.length_cons,List.length_drop];omega
 ·rename_i a;simp only[Bool.not_eq_true]at a;have b:=eT p.1 x;refine⟨(WV a).symm,?_⟩;simp only[List.length_append,List.length_take,List.length_cons,List.length_drop];omega
theorem Eb{d o:Nat}{p:Pr}{ps:List Pr}{ks:List ND}(h:hit p.1 ps=true):ik (d+1) (.mk ps ks) p o=.mk (ps.take (posOf p.1 ps)++p::ps.drop (posOf p.1 ps+1)) ks:=if_pos h
theorem JY{d o:Nat}{p:Pr}{ps:List Pr}{ks:List ND}{k:ND}(h:hit p.1 ps=false)(a:ks[posOf p.1 ps]?=some k):ik (d+1) (.mk ps ks) p o=
  if 2*o-1<(ik d k p o).ps.length then nA d (.mk ps (ks.take (posOf p.1 ps)++ik d k p o::ks.drop (posOf p.1 ps+1))) (posOf p.1 ps) o else(.mk ps (ks.take (posOf p.1 ps)++ik d k p o::ks.drop (posOf p.1 ps+1))):=by
 have e:ks[posOf p.1 ps]?.getD D9=k:=by rw[a];rfl
 have:ik (d+1) (.mk ps ks) p o=(if hit p.1 ps=true then _ else _):=rfl;rw[this,if_neg (by simp[h])];simp only[ND.cw,ND.di,e]
theorem rI{o:Nat}(g:2<=o)(p:Pr): ∀{d a:Nat} {x:ND},fD d o a (2*o-1) x->Up (aZ d x)->aZ d (ik d x p o)=ins p (aZ d x)/\fD d o a (2*o) (ik d x p o)
 |0,a,.mk ps ks,h,hu=>by have b:=Oe g p ⟨h.1,h.2.1⟩;exact⟨b.1,b.2.1,b.2.2,rfl⟩
 |d+1,a,.mk ps ks,h,hu=>by
  obtain⟨n,a,f,c⟩:=h;simp only[ND.cw,ND.di]at n a f c;have i:=eT p.1 ps;obtain⟨k,b⟩: ∃k,ks[posOf p.1 ps]?=some k:=⟨_,List.getElem?_eq_getElem (by omega)⟩;have m:k∈ks:=List.mem_of_getElem? b;by_cases a:hit p.1 ps=true
  ·rw[Eb a];obtain⟨v,e⟩:=gh a;have j:=(List.getElem?_eq_some_iff.1 e).1;constructor
   ·rw[kU b f]at hu⊢
    have l:ps.drop (posOf p.1 ps)=(p.1,v)::ps.drop (posOf p.1 ps+1):=by rw[List.drop_eq_getElem_cons j];congr 1;have:=(List.getElem?_eq_some_iff.1 e).2;exact this
    have e:=(List.pairwise_append.1 hu).2.2;have q: ∀r∈pre ((ks.take (posOf p.1 ps)).map (aZ d)) (ps.take (posOf p.1 ps))++aZ d k,r.1<p.1:=fun r j=>e r j (p.1,v) (by rw[l];simp[post]);rw[pI q,l];simp only[post,ins,aN,if_true,if_false];have e:=vI (d:=d) (ps:=ps.take (posOf p.1 ps)++p::ps.drop (posOf p.1 ps+1)) b (by simp;omega) k;rw[<-ez b]at e;rw[e];have e:(ps.take (posOf p.1 ps)++p::ps.drop (posOf p.1 ps+1)).take (posOf p.1 ps)=ps.take (posOf p.1 ps):=by simp[Nat.min_eq_left i]
    have l:(ps.take (posOf p.1 ps)++p::ps.drop (posOf p.1 ps+1)).drop (posOf p.1 ps)=p::ps.drop (posOf p.1 ps+1):=by simp[Nat.min_eq_left i]
    rw[e,l];simp[post]
   ·refine⟨?_,?_,?_,c⟩<;>simp[ND.cw,ND.di]<;>omega
  ·simp only[Bool.not_eq_true]at a;rw[JY a b];have l:Up (aZ d k):=by rw[kU b f]at hu;exact hu.left.right
   obtain⟨q,e⟩:=rI g p (c k m) l
   have l:ins p (aZ (d+1) (.mk ps ks))=pre ((ks.take (posOf p.1 ps)).map (aZ d)) (ps.take (posOf p.1 ps))++aZ d (ik d k p o)++post (ps.drop (posOf p.1 ps)) ((ks.drop (posOf p.1 ps+1)).map (aZ d)):=by rw[kU b f]at hu⊢;rw[List.append_assoc,pI (Co hu.left.left (fh _ _)),D6 (by rw[mJ,iW];exact fun r j=>s8 a j),q,List.append_assoc]
   by_cases q:2*o-1<(ik d k p o).ps.length
   ·rw[if_pos q];have j:=e.len;have a:=JX (by omega) (e.re (lo':=2*o) (hi':=2*o) (by omega) (by omega));have m:=Od g (e.re (lo':=2*o) (hi':=2*o) (by omega) (by omega))
    have g:(ks.take (posOf p.1 ps)++ik d k p o::ks.drop (posOf p.1 ps+1))[posOf p.1 ps]?=some (ik d k p o):=by rw[List.getElem?_append_right (by simp;omega)];simp[Nat.min_eq_left (show posOf p.1 ps<=ks.length by omega)]
    simp only[nA,ND.cw,ND.di,g,Option.getD_some]
    have g:(ks.take (posOf p.1 ps)++ik d k p o::ks.drop (posOf p.1 ps+1)).take (posOf p.1 ps)=ks.take (posOf p.1 ps):=by simp[Nat.min_eq_left (show posOf p.1 ps<=ks.length by omega)]
    have r:(ks.take (posOf p.1 ps)++ik d k p o::ks.drop (posOf p.1 ps+1)).drop (posOf p.1 ps+1)=ks.drop (posOf p.1 ps+1):=by simp[List.drop_append,Nat.min_eq_left (show posOf p.1 ps<=ks.length by omega)]
    rw[g,r];constructor
    ·rw[vJ _ _ _ i (by omega),a,l]
    ·refine⟨by simp[ND.cw];omega,by simp[ND.cw];omega,by simp[ND.cw,ND.di];omega,fun z a=>?_⟩;simp only[ND.di,List.mem_append,List.mem_cons]at a;rcases a with a|rfl|rfl|a
     ·exact c z (List.mem_of_mem_take a)
     ·exact m.1
     ·exact m.2
     ·exact c z (List.mem_of_mem_drop a)
   ·rw[if_neg q];have j:=e.len;constructor
    ·rw[vI b f,l]
    ·refine⟨n,by simp only[ND.cw];omega,by simp[ND.cw,ND.di];omega,fun z a=>?_⟩;simp only[ND.di,List.mem_append,List.mem_cons]at a;rcases a with a|rfl|a
     ·exact c z (List.mem_of_mem_take a)
     ·exact e.re j.1 (by omega)
     ·exact c z (List.mem_of_mem_drop a)
def eH:Nat->ND->Pr->ND->ND×Pr×ND
 |0,l,s,r=>(.mk (l.ps.take (l.ps.length-1)) [],l.ps[l.ps.length-1]?.getD ([],[]),.mk (s::r.ps) [])
 |_+1,l,s,r=>(.mk (l.ps.take (l.ps.length-1)) (l.ks.take (l.ks.length-1)),l.ps[l.ps.length-1]?.getD ([],[]),.mk (s::r.ps) (l.ks[l.ks.length-1]?.getD D9::r.ks))
def gA:Nat->ND->Pr->ND->ND×Pr×ND
 |0,l,s,r=>(.mk (l.ps++[s]) [],r.ps[0]?.getD ([],[]),.mk (r.ps.drop 1) [])
 |_+1,l,s,r=>(.mk (l.ps++[s]) (l.ks++[r.ks[0]?.getD D9]),r.ps[0]?.getD ([],[]),.mk (r.ps.drop 1) (r.ks.drop 1))
def l6(l:ND)(s:Pr)(r:ND):ND:=.mk (l.ps++s::r.ps) (l.ks++r.ks)
theorem kW{α:Type}{l:List α}(h:1<=l.length):l=l.take (l.length-1)++[l[l.length-1]'(by omega)]:=by have:=ez (List.getElem?_eq_getElem (l:=l) (i:=l.length-1) (by omega));rw[show l.length-1+1=l.length by omega]at this;simpa using this
theorem qN{α:Type}{l:List α}(h:1<=l.length):l=l[0]'(by omega)::l.drop 1:=by have:=ez (List.getElem?_eq_getElem (l:=l) (i:=0) (by omega));simpa using this
theorem AE{a:List (List Pr)}{x:List Pr}(h:a.length=x.length+1)(s:Pr)(k:List Pr):flat (a++[k]) (x++[s])=flat a x++s::k:=by
 have b:=kW (l:=a) (by omega);generalize a.take (a.length-1)=a1,a[a.length-1]'(by omega)=d at b;subst b;have b:a1.length=x.length:=by simpa using h
 have c:=D4 b d k s [] [];simp only[post,List.append_nil]at c;rw[List.append_assoc];simp only[List.cons_append,List.nil_append];rw[c,sY b];simp
theorem AG: ∀{a b:List (List Pr)} {x y:List Pr},a.length=x.length+1->b≠[]-> ∀s,flat (a++b) (x++s::y)=flat a x++s::flat b y
 |[k],b,[],y,_,hb,s=>by
  cases b with
  |nil=>exact absurd rfl hb
  |cons c b=>simp[flat]
 |k::a,b,p::x,y,h,hb,s=>by have d:=AG (a:=a) (b:=b) (x:=x) (y:=y) (by simpa using h) hb s;simp[flat,d]
 |[],b,x,y,h,hb,s=>by simp at h
 |k::c::a,b,[],y,h,hb,s=>by simp at h
theorem G3{d o lo hi lo' hi':Nat}{l r:ND}{s:Pr}(h:fD d o lo hi l)(h':fD d o lo' hi' r)(h1:1<=lo):aZ d (eH d l s r).1++(eH d l s r).2.1::aZ d (eH d l s r).2.2=aZ d l++s::aZ d r:=by
 have hl:=h.len
 cases d with
 |zero=>
  obtain⟨ps,ks⟩:=l;simp only[ND.cw]at hl;have hsp:=kW (l:=ps) (by omega);have hx:ps[ps.length-1]?=some (ps[ps.length-1]'(by omega)):=List.getElem?_eq_getElem _;simp only[eH,aZ,ND.cw,hx,Option.getD_some]
  conv=>rhs;rw[hsp]
  simp only[List.append_assoc,List.cons_append,List.nil_append]
 |succ d=>
  obtain⟨ps,ks⟩:=l;obtain⟨qs,js⟩:=r;obtain⟨_,_,hk,ha⟩:=h;obtain⟨_,_,hk',ha'⟩:=h';simp only[ND.cw,ND.di]at hl hk ha hk' ha';have hsp:=kW (l:=ps) (by omega);have hsk:=kW (l:=ks) (by omega);have hx:ps[ps.length-1]?=some (ps[ps.length-1]'(by omega)):=List.getElem?_eq_getElem _;have hy:ks[ks.length-1]?=some (ks[ks.length-1]'(by omega)):=List.getElem?_eq_getElem _;simp only[eH,aZ,ND.cw,ND.di,hx,hy,Option.getD_some];generalize hgp:ps.take (ps.length-1)=p1 at *;generalize ps[ps.length-1]'(by omega)=p2 at *;generalize DR:ks.take (ks.length-1)=k1 at *;generalize ks[ks.length-1]'(by omega)=k2 at *;have hlen:k1.length=p1.length+1:=by rw[<-hgp,<-DR];simp;omega
  rw[hsp,hsk];have e1:=AE (a:=k1.map (aZ d)) (x:=p1) (by simpa using hlen) p2 (aZ d k2);simp only[List.map_append,List.map_cons,List.map_nil];rw[e1]
  cases js with
  |nil=>simp at hk'
  |cons j js=>simp[flat]
theorem LF{d o lo hi lo' hi':Nat}{l r:ND}{s:Pr}(n:fD d o lo hi l)(f:fD d o lo' hi' r)(a:1<=lo'):aZ d (gA d l s r).1++(gA d l s r).2.1::aZ d (gA d l s r).2.2=aZ d l++s::aZ d r:=by
 have g:=f.len
 cases d with
 |zero=>
  obtain⟨a,b⟩:=r;simp only[ND.cw]at g;have c:=qN (l:=a) (by omega);have e:a[0]?=some (a[0]'(by omega)):=List.getElem?_eq_getElem _;simp only[gA,aZ,ND.cw,e,Option.getD_some]
  conv=>rhs;rw[c]
  simp only[List.append_assoc,List.cons_append,List.nil_append]
 |succ d=>obtain⟨a,b⟩:=r;obtain⟨i,m⟩:=l;obtain⟨_,_,j,k⟩:=f;obtain⟨_,_,f,h⟩:=n;simp only[ND.cw,ND.di]at g j k f h;have c:=qN (l:=a) (by omega);have g:=qN (l:=b) (by omega);have e:a[0]?=some (a[0]'(by omega)):=List.getElem?_eq_getElem _;have h:b[0]?=some (b[0]'(by omega)):=List.getElem?_eq_getElem _;simp only[gA,aZ,ND.cw,ND.di,e,h,Option.getD_some];generalize e:a.drop 1=e at *;generalize a[0]'(by omega)=a at *;generalize a:b.drop 1=a at *;generalize b[0]'(by omega)=b at *;rw[c,g];have a:=AE (a:=m.map (aZ d)) (x:=i) (by simpa using f) s (aZ d b);simp only[List.map_append,List.map_cons,List.map_nil];rw[a];simp[flat]
theorem AH{d o lo hi lo' hi':Nat}{l r:ND}{s:Pr}(a:fD d o lo hi l)(f:fD d o lo' hi' r):aZ d (l6 l s r)=aZ d l++s::aZ d r:=by
 cases d with
 |zero=>simp[l6,aZ]
 |succ d=>obtain⟨h,g⟩:=l;obtain⟨c,e⟩:=r;obtain⟨_,_,b,_⟩:=a;obtain⟨_,_,a,_⟩:=f;simp only[ND.cw,ND.di]at b a;have:=AG (a:=g.map (aZ d)) (b:=e.map (aZ d)) (x:=h) (y:=c) (by simpa using b) (by intro e;rw[List.map_eq_nil_iff]at e;rw[e]at a;simp at a) s;simpa[l6,aZ]using this
theorem LG{d o lo hi lo' hi':Nat}{l r:ND}{s:Pr}(h:fD d o lo hi l)(i:fD d o lo' hi' r)(a:1<=lo):fD d o (lo-1) (hi-1) (eH d l s r).1/\fD d o (lo'+1) (hi'+1) (eH d l s r).2.2:=by
 obtain⟨b,a⟩:=l;obtain⟨b,c⟩:=r
 cases d with
 |zero=>obtain⟨g,b,_⟩:=h;obtain⟨f,e,_⟩:=i;simp only[ND.cw]at g b f e;refine⟨⟨?_,?_,rfl⟩,?_,?_,rfl⟩<;>simp[eH]<;>omega
 |succ d=>
  obtain⟨g,b,j,c⟩:=h;obtain⟨f,e,k,h⟩:=i;simp only[ND.cw,ND.di]at g b j c f e k h;have b:a[a.length-1]?=some (a[a.length-1]'(by omega)):=List.getElem?_eq_getElem _;refine⟨⟨?_,?_,?_,fun k a=>c k ?_⟩,?_,?_,?_,fun k a=>?_⟩
  ·simp[eH];omega
  ·simp[eH];omega
  ·simp[eH];omega
  ·simp only[eH,ND.di]at a;exact List.mem_of_mem_take a
  ·simp[eH];omega
  ·simp[eH];omega
  ·simp[eH];omega
  ·simp only[eH,ND.di,b,Option.getD_some]at a;rcases List.mem_cons.1 a with rfl|a
   ·exact c _ (List.getElem_mem _)
   ·exact h k a
theorem Og{d o lo hi lo' hi':Nat}{l r:ND}{s:Pr}(b:fD d o lo hi l)(i:fD d o lo' hi' r)(a:1<=lo'):fD d o (lo+1) (hi+1) (gA d l s r).1/\fD d o (lo'-1) (hi'-1) (gA d l s r).2.2:=by
 obtain⟨c,a⟩:=l;obtain⟨a,h⟩:=r
 cases d with
 |zero=>obtain⟨f,a,_⟩:=b;obtain⟨e,c,_⟩:=i;simp only[ND.cw]at f a e c;refine⟨⟨?_,?_,rfl⟩,?_,?_,rfl⟩<;>simp[gA]<;>omega
 |succ d=>
  obtain⟨f,a,j,g⟩:=b;obtain⟨e,c,k,b⟩:=i;simp only[ND.cw,ND.di]at f a j g e c k b;have c:h[0]?=some (h[0]'(by omega)):=List.getElem?_eq_getElem _;refine⟨⟨?_,?_,?_,fun k a=>?_⟩,?_,?_,?_,fun k a=>b k ?_⟩
  ·simp[gA];omega
  ·simp[gA];omega
  ·simp[gA];omega
  ·simp only[gA,ND.di,c,Option.getD_some]at a;rcases List.mem_append.1 a with a|a
   ·exact g k a
   ·rw[List.mem_singleton]at a;subst a;exact b _ (List.getElem_mem _)
  ·simp[gA];omega
  ·simp[gA];omega
  ·simp[gA];omega
  ·simp only[gA,ND.di]at a;exact List.mem_of_mem_drop a
theorem Ed{d o lo hi lo' hi':Nat}{l r:ND}{s:Pr}(i:fD d o lo hi l)(j:fD d o lo' hi' r):fD d o (lo+lo'+1) (hi+hi'+1) (l6 l s r):=by
 obtain⟨b,a⟩:=l;obtain⟨a,b⟩:=r
 cases d with
 |zero=>obtain⟨g,c,a⟩:=i;obtain⟨f,e,b⟩:=j;simp only[ND.cw,ND.di]at g c f e a b;subst a b;refine⟨?_,?_,rfl⟩<;>simp[l6]<;>omega
 |succ d=>
  obtain⟨g,c,a,h⟩:=i;obtain⟨f,e,b,i⟩:=j;simp only[ND.cw,ND.di]at g c a h f e b i;refine⟨?_,?_,?_,fun k a=>?_⟩
  ·simp[l6];omega
  ·simp[l6];omega
  ·simp[l6];omega
  ·simp only[l6,ND.di]at a;rcases List.mem_append.1 a with a|a
   ·exact h k a
   ·exact i k a
def uX(x:ND)(i:Nat)(c:ND×Pr×ND):ND:=.mk (x.ps.take i++c.2.1::x.ps.drop (i+1)) (x.ks.take i++c.1::c.2.2::x.ks.drop (i+2))
def uY(x:ND)(i:Nat)(k:ND):ND:=.mk (x.ps.take i++x.ps.drop (i+1)) (x.ks.take i++k::x.ks.drop (i+2))
def aT(x:ND)(i:Nat):ND:=x.ks[i]?.getD D9
def gV(x:ND)(i:Nat):Pr:=x.ps[i]?.getD ([],[])
def jP(d:Nat)(x:ND)(i o:Nat):ND:=
 if o-1<=(aT x i).ps.length then x
 else if 0<i/\o-1<(aT x (i-1)).ps.length then uX x (i-1) (eH d (aT x (i-1)) (gV x (i-1)) (aT x i))
 else if i+1<x.ks.length/\o-1<(aT x (i+1)).ps.length then uX x i (gA d (aT x i) (gV x i) (aT x (i+1)))
 else if 0<i then uY x (i-1) (l6 (aT x (i-1)) (gV x (i-1)) (aT x i))
 else uY x i (l6 (aT x i) (gV x i) (aT x (i+1)))
theorem dD{x:ND}{i:Nat}(h:i<x.ks.length):x.ks[i]?=some (aT x i):=by unfold aT;rw[List.getElem?_eq_getElem h];rfl
theorem SK{x:ND}{i:Nat}(h:i<x.ps.length):x.ps[i]?=some (gV x i):=by unfold gV;rw[List.getElem?_eq_getElem h];rfl
theorem dU(x:ND):ND.mk x.ps x.ks=x:=by cases x;rfl
theorem AJ{α:Type}{l:List α}{i:Nat}{x y:α}(h:l[i]?=some x)(a:l[i+1]?=some y):l=l.take i++x::y::l.drop (i+2):=by
 have b:=ez h;have c:=(List.getElem?_eq_some_iff.1 a).1
 have d:l.drop (i+1)=y::l.drop (i+2):=by rw[List.drop_eq_getElem_cons c,(List.getElem?_eq_some_iff.1 a).2]
 rw[d]at b;exact b
theorem Ee{d:Nat}{x:ND}{i:Nat}(a:x.ks.length=x.ps.length+1)(hi:i<x.ps.length):
  aZ (d+1) x=pre ((x.ks.take i).map (aZ d)) (x.ps.take i)++(aZ d (aT x i)++gV x i::aZ d (aT x (i+1)))++post (x.ps.drop (i+1)) ((x.ks.drop (i+2)).map (aZ d)):=by
 have a:=vJ (d:=d) (ps:=x.ps) (ps':=x.ps.drop (i+1)) (ks:=x.ks) (ks':=x.ks.drop (i+2)) (i:=i) (aT x i) (aT x (i+1)) (gV x i) (by omega) (by omega);rw[<-ez (SK hi),<-AJ (dD (by omega)) (dD (by omega)),dU]at a;exact a
theorem Ef{d:Nat}{x:ND}{i:Nat}{c:ND×Pr×ND}(b:x.ks.length=x.ps.length+1)(hi:i<x.ps.length)(a:aZ d c.1++c.2.1::aZ d c.2.2=aZ d (aT x i)++gV x i::aZ d (aT x (i+1))):aZ (d+1) (uX x i c)=aZ (d+1) x:=by rw[Ee b hi,<-a];exact vJ (d:=d) c.1 c.2.2 c.2.1 (by omega) (by omega)
theorem Eg{d:Nat}{x:ND}{i:Nat}{k:ND}(b:x.ks.length=x.ps.length+1)(hi:i<x.ps.length)(a:aZ d k=aZ d (aT x i)++gV x i::aZ d (aT x (i+1))):aZ (d+1) (uY x i k)=aZ (d+1) x:=by rw[Ee b hi,<-a];have:=wN (a:=(x.ks.take i).map (aZ d)) (x:=x.ps.take i) (by simp;omega) (aZ d k) ((x.ks.drop (i+2)).map (aZ d)) (x.ps.drop (i+1));simpa[uY,aZ]using this
def wP(d o i lo hi:Nat)(x:ND):Prop:=lo<=x.ps.length/\x.ps.length<=hi/\x.ks.length=x.ps.length+1/\i<x.ks.length/\(∀j,j≠i-> ∀k,x.ks[j]?=some k->fD d o (o-1) (2*o-1) k)/\fD d o (o-2) (2*o-1) (aT x i)
theorem wP.kid{d o i lo hi:Nat}{x:ND}(h:wP d o i lo hi x){j:Nat}(a:j≠i)(b:j<x.ks.length):fD d o (o-1) (2*o-1) (aT x j):=h.2.2.2.2.1 j a _ (dD b)
theorem G5{α:Type}{l:List α}{x:α}(h:x∈l): ∃j:Nat,l[j]?=some x:=List.getElem?_of_mem h
theorem wP.all{d o i lo hi:Nat}{x:ND}(h:wP d o i lo hi x)(c:o-1<=(aT x i).ps.length):fD (d+1) o lo hi x:=by
 refine⟨h.1,h.2.1,h.2.2.1,fun k b=>?_⟩;obtain⟨j,a⟩:=G5 b;by_cases e:j=i
 ·subst e;rw[dD (List.getElem?_eq_some_iff.1 a).1]at a;injection a with a;subst a;exact h.2.2.2.2.2.re c h.2.2.2.2.2.len.2
 ·exact h.2.2.2.2.1 j e k a
theorem wP.rest{d o i lo hi:Nat}{x:ND}(h:wP d o i lo hi x){k:ND}{a b:Nat}(c:a<=i)(c:i<b)(e:k∈x.ks.take a\/k∈x.ks.drop b):fD d o (o-1) (2*o-1) k:=by
 rcases e with e|e
 ·obtain⟨j,c⟩:=G5 e;have f:=(List.getElem?_eq_some_iff.1 c).1;rw[List.length_take]at f;exact h.2.2.2.2.1 j (by omega) k (by rw[List.getElem?_take]at c;split at c;exact c;cases c)
 ·obtain⟨j,c⟩:=G5 e;rw[List.getElem?_drop]at c;exact h.2.2.2.2.1 (b+j) (by omega) k c
theorem JZ{d o i m lo hi:Nat}{x:ND}{c:ND×Pr×ND}(h:wP d o m lo hi x)(a:m=i\/m=i+1)(hi':i<x.ps.length)(f:fD d o (o-1) (2*o-1) c.1)(e:fD d o (o-1) (2*o-1) c.2.2):fD (d+1) o lo hi (uX x i c):=by
 have b:=h;obtain⟨j,a,g,_⟩:=h;refine⟨by simp[uX];omega,by simp[uX];omega,by simp[uX];omega,fun k a=>?_⟩;simp only[uX,ND.di,List.mem_append,List.mem_cons]at a;rcases a with a|rfl|rfl|a
 ·exact b.rest (a:=i) (b:=i+2) (by omega) (by omega) (.inl a)
 ·exact f
 ·exact e
 ·exact b.rest (a:=i) (b:=i+2) (by omega) (by omega) (.inr a)
theorem J0{d o i m lo hi:Nat}{x:ND}{c:ND}(h:wP d o m lo hi x)(a:m=i\/m=i+1)(hi':i<x.ps.length)(e:fD d o (o-1) (2*o-1) c):fD (d+1) o (lo-1) hi (uY x i c):=by
 have b:=h;obtain⟨g,a,f,_⟩:=h;refine⟨by simp[uY];omega,by simp[uY];omega,by simp[uY];omega,fun k a=>?_⟩;simp only[uY,ND.di,List.mem_append,List.mem_cons]at a;rcases a with a|rfl|a
 ·exact b.rest (a:=i) (b:=i+2) (by omega) (by omega) (.inl a)
 ·exact e
 ·exact b.rest (a:=i) (b:=i+2) (by omega) (by omega) (.inr a)
theorem wQ{d o i lo hi:Nat}{x:ND}(a:2<=o)(a:1<=lo)(h:wP d o i lo hi x):aZ (d+1) (jP d x i o)=aZ (d+1) x/\fD (d+1) o (lo-1) hi (jP d x i o):=by
 have b:=h;obtain⟨f,a,k,e,_,c⟩:=h;unfold jP;by_cases a:o-1<=(aT x i).ps.length
 ·rw[if_pos a];have:=b.all a;exact⟨rfl,this.re (by omega) this.len.2⟩
 ·rw[if_neg a];have e:fD d o (o-2) (o-2) (aT x i):=c.re c.len.1 (by omega);by_cases m:0<i/\o-1<(aT x (i-1)).ps.length
  ·rw[if_pos m];have c:=b.kid (j:=i-1) (by omega) (by omega);have f:=c.re (lo':=o) (hi':=2*o-1) (by omega) c.len.2;have q:i-1+1=i:=by omega
   have j:=G3 (s:=gV x (i-1)) f e (by omega);have a:=LG (s:=gV x (i-1)) f e (by omega);have g:=a.1.re (lo':=o-1) (hi':=2*o-1) (by have:=a.1.len;omega) (by have:=a.1.len;omega);have l:=a.2.re (lo':=o-1) (hi':=2*o-1) (by have:=a.2.len;omega) (by have:=a.2.len;omega);have h:=JZ (i:=i-1) b (.inr q.symm) (by omega) g l;exact⟨Ef k (by omega) (by rw[q];exact j),h.re (by have:=h.len;omega) h.len.2⟩
  ·rw[if_neg m];by_cases p:i+1<x.ks.length/\o-1<(aT x (i+1)).ps.length
   ·rw[if_pos p];have n:=b.kid (j:=i+1) (by omega) (by omega);have m:=n.re (lo':=o) (hi':=2*o-1) (by omega) n.len.2;have j:=LF (s:=gV x i) e m (by omega);have a:=Og (s:=gV x i) e m (by omega);have g:=a.1.re (lo':=o-1) (hi':=2*o-1) (by have:=a.1.len;omega) (by have:=a.1.len;omega);have l:=a.2.re (lo':=o-1) (hi':=2*o-1) (by have:=a.2.len;omega) (by have:=a.2.len;omega);have h:=JZ (i:=i) b (.inl rfl) (by omega) g l;exact⟨Ef k (by omega) j,h.re (by have:=h.len;omega) h.len.2⟩
   ·rw[if_neg p];by_cases h:0<i
    ·rw[if_pos h];have c:=b.kid (j:=i-1) (by omega) (by omega);have f:=c.re (lo':=o-1) (hi':=o-1) c.len.1 (by omega);have q:i-1+1=i:=by omega
     have j:=AH (s:=gV x (i-1)) f e;have a:=Ed (s:=gV x (i-1)) f e;have g:=a.re (lo':=o-1) (hi':=2*o-1) (by have:=a.len;omega) (by have:=a.len;omega);exact⟨Eg k (by omega) (by rw[q];exact j),J0 (i:=i-1) b (.inr q.symm) (by omega) g⟩
    ·rw[if_neg h];have c:=b.kid (j:=i+1) (by omega) (by omega);have f:=c.re (lo':=o-1) (hi':=o-1) c.len.1 (by omega);have j:=AH (s:=gV x i) e f;have a:=Ed (s:=gV x i) e f;have g:=a.re (lo':=o-1) (hi':=2*o-1) (by have:=a.len;omega) (by have:=a.len;omega);exact⟨Eg k (by omega) j,J0 (i:=i) b (.inl rfl) (by omega) g⟩
def qO(x:ND)(i:Nat)(k:ND):ND:=.mk x.ps (x.ks.take i++k::x.ks.drop (i+1))
theorem J1{x:ND}{i:Nat}(hi:i<x.ks.length)(k:ND)(j:Nat):(qO x i k).ks[j]?=if j=i then some k else x.ks[j]?:=by
 simp only[qO,ND.di];rw[List.getElem?_append,List.length_take,Nat.min_eq_left (by omega)];by_cases a:j<i
 ·rw[if_pos a,if_neg (by omega),List.getElem?_take,if_pos a]
 ·rw[if_neg a];by_cases a:j=i
  ·subst a;simp
  ·rw[if_neg a,List.getElem?_cons,if_neg (by omega),List.getElem?_drop];congr 1;omega
theorem Eh{x:ND}{i:Nat}(hi:i<x.ks.length)(k:ND):(qO x i k).ks.length=x.ks.length:=by simp[qO];omega
theorem kH{d o i lo hi:Nat}{x k:ND}(h:fD (d+1) o lo hi x)(hi':i<x.ks.length)(f:fD d o (o-2) (2*o-1) k):wP d o i lo hi (qO x i k):=by
 obtain⟨e,a,b,c⟩:=h;refine⟨e,a,by rw[Eh hi'];exact b,by rw[Eh hi'];exact hi',fun j e b a=>?_,?_⟩
 ·rw[J1 hi',if_neg e]at a;exact c b (List.mem_of_getElem? a)
 ·unfold aT;rw[J1 hi',if_pos rfl];exact f
theorem wR{d i:Nat}{x k:ND}(a:x.ks.length=x.ps.length+1)(hi':i<x.ks.length):aZ (d+1) (qO x i k)=pre ((x.ks.take i).map (aZ d)) (x.ps.take i)++aZ d k++post (x.ps.drop i) ((x.ks.drop (i+1)).map (aZ d)):=vI (dD hi') a k
theorem Cs{d i:Nat}{x:ND}(a:x.ks.length=x.ps.length+1)(hi':i<x.ks.length):aZ (d+1) x=pre ((x.ks.take i).map (aZ d)) (x.ps.take i)++aZ d (aT x i)++post (x.ps.drop i) ((x.ks.drop (i+1)).map (aZ d)):=by have:=kU (d:=d) (dD hi') a;rw[dU]at this;exact this
def gw:Nat->ND->Nat->ND×Pr
 |0,x,_=>(.mk (x.ps.take (x.ps.length-1)) [],x.ps[x.ps.length-1]?.getD ([],[]))
 |d+1,x,o=>
  let r:=gw d (aT x (x.ks.length-1)) o
  (jP d (qO x (x.ks.length-1) r.1) (x.ks.length-1) o,r.2)
theorem rJ{o:Nat}(f:2<=o): ∀{d a b:Nat} {x:ND},fD d o a b x->1<=a->aZ d x=aZ d (gw d x o).1++[(gw d x o).2]/\fD d o (a-1) b (gw d x o).1
 |0,a,b,.mk ps ks,h,h1=>by obtain⟨g,e,c⟩:=h;simp only[ND.cw]at g e;have i:=kW (l:=ps) (by omega);have j:ps[ps.length-1]?=some (ps[ps.length-1]'(by omega)):=List.getElem?_eq_getElem _;refine⟨?_,by simp[gw];omega,by simp[gw];omega,rfl⟩;simp only[gw,aZ,ND.cw,j,Option.getD_some];exact i
 |d+1,a,b,x,h,h1=>by
  have d:=h;obtain⟨g,e,c,b⟩:=h;have a:x.ks.length-1<x.ks.length:=by omega
  have e:=b _ (List.mem_of_getElem? (dD a));obtain⟨g,w⟩:=rJ f e (by omega);have b:=wQ f h1 (kH d a w);simp only[gw];refine⟨?_,b.2⟩;rw[b.1,wR c a,Cs (i:=x.ks.length-1) c a,g];have:x.ps.drop (x.ks.length-1)=[]:=List.drop_eq_nil_of_le (by omega);rw[this];simp[post]
def oP(x:ND)(i:Nat)(p:Pr):ND:=.mk (x.ps.take i++p::x.ps.drop (i+1)) x.ks
def nB:Nat->ND->List UInt8->Nat->ND
 |0,x,key,_=>if hit key x.ps then .mk (x.ps.take (posOf key x.ps)++x.ps.drop (posOf key x.ps+1)) []else x
 |d+1,x,key,o=>
  let i:=posOf key x.ps
  if hit key x.ps then
   let r:=gw d (aT x i) o
   jP d (qO (oP x i r.2) i r.1) i o
  else jP d (qO x i (nB d (aT x i) key o)) i o
theorem AK{x:ND}{key:List UInt8}{o:Nat}(h:hit key x.ps=true):nB 0 x key o=.mk (x.ps.take (posOf key x.ps)++x.ps.drop (posOf key x.ps+1)) []:=if_pos h
theorem wT{x:ND}{key:List UInt8}{o:Nat}(h:hit key x.ps=false):nB 0 x key o=x:=if_neg (by simp[h])
theorem Ei{d:Nat}{x:ND}{key:List UInt8}{o:Nat}(h:hit key x.ps=true):nB (d+1) x key o=jP d (qO (oP x (posOf key x.ps) (gw d (aT x (posOf key x.ps)) o).2) (posOf key x.ps) (gw d (aT x (posOf key x.ps)) o).1) (posOf key x.ps) o:=if_pos h
theorem Ct{d:Nat}{x:ND}{key:List UInt8}{o:Nat}(h:hit key x.ps=false):nB (d+1) x key o=jP d (qO x (posOf key x.ps) (nB d (aT x (posOf key x.ps)) key o)) (posOf key x.ps) o:=if_neg (by simp[h])
theorem WW{key:List UInt8}{ps:List Pr}(h:hit key ps=false):del key ps=ps:=by
 conv=>lhs;rw[<-List.take_append_drop (posOf key ps) ps]
 rw[pJ (fh _ _)];have:=D7 (key:=key) (a:=[]) (b:=ps.drop (posOf key ps)) (fun q a=>s8 h (by rw[<-iW];exact a));simp[del]at this;rw[this];simp
theorem SL{key:List UInt8}{ps:List Pr}(h:hit key ps=true):del key ps=ps.take (posOf key ps)++ps.drop (posOf key ps+1):=by
 obtain⟨v,a⟩:=gh h
 conv=>lhs;rw[ez a]
 rw[pJ (fh _ _)];simp[del,aN]
theorem Cu{o:Nat}(i:2<=o)(key:List UInt8): ∀{g e f:Nat} {x:ND},fD g o e f x->1<=e\/g=0->Up (aZ g x)->aZ g (nB g x key o)=del key (aZ g x)/\fD g o (e-1) f (nB g x key o)
 |0,e,f,.mk ps ks,h,b,hu=>by
  obtain⟨l,c,d⟩:=h;simp only[ND.cw,ND.di]at l c d;by_cases a:hit key ps=true
  ·obtain⟨v,j⟩:=gh a;have k:=(List.getElem?_eq_some_iff.1 j).1;rw[AK (x:=.mk ps ks) a];simp only[ND.cw];exact⟨(SL a).symm,by simp;omega,by simp;omega,rfl⟩
  ·simp only[Bool.not_eq_true]at a;rw[wT (x:=.mk ps ks) a];exact⟨(WW a).symm,by simp only[ND.cw];omega,by simp only[ND.cw];omega,d⟩
 |g+1,e,f,x,h,b,hu=>by
  have b:1<=e:=by rcases b with b|b;exact b;cases b
  have q:=h;obtain⟨l,c,d,n⟩:=h;have l:=eT key x.ps;have c:posOf key x.ps<x.ks.length:=by omega
  have m:=n _ (List.mem_of_getElem? (dD c));by_cases a:hit key x.ps=true
  ·obtain⟨v,j⟩:=gh a;have k:=(List.getElem?_eq_some_iff.1 j).1;obtain⟨t,w⟩:=rJ i m (by omega);generalize s:gw g (aT x (posOf key x.ps)) o=r at t w;have p:fD (g+1) o e f (oP x (posOf key x.ps) r.2):=⟨by simp[oP];omega,by simp[oP];omega,by simp[oP];omega,n⟩;have e:=wQ i b (kH p (i:=posOf key x.ps) c w);rw[Ei a,s];refine⟨?_,e.2⟩;rw[e.1,wR (x:=oP x (posOf key x.ps) r.2) (by simp[oP];omega) c];rw[Cs (i:=posOf key x.ps) d c]at hu⊢
   have n:x.ps.drop (posOf key x.ps)=(key,v)::x.ps.drop (posOf key x.ps+1):=by rw[List.drop_eq_getElem_cons k,(List.getElem?_eq_some_iff.1 j).2]
   have j:=(List.pairwise_append.1 hu).2.2;have k: ∀p∈pre ((x.ks.take (posOf key x.ps)).map (aZ g)) (x.ps.take (posOf key x.ps))++aZ g (aT x (posOf key x.ps)),p.1<key:=fun p f=>j p f (key,v) (by rw[n];simp[post]);rw[pJ k,n,t];have j:(oP x (posOf key x.ps) r.2).ps.take (posOf key x.ps)=x.ps.take (posOf key x.ps):=by simp[oP,Nat.min_eq_left l]
   have k:(oP x (posOf key x.ps) r.2).ps.drop (posOf key x.ps)=r.2::x.ps.drop (posOf key x.ps+1):=by simp[oP,Nat.min_eq_left l]
   rw[j,k];simp[post,del,aN,oP]
  ·simp only[Bool.not_eq_true]at a;have j:Up (aZ g (aT x (posOf key x.ps))):=by rw[Cs (i:=posOf key x.ps) d c]at hu;exact hu.left.right
   obtain⟨t,w⟩:=Cu i key m (.inl (by omega)) j;have e:=wQ i b (kH q (i:=posOf key x.ps) c w);rw[Ct a];refine⟨?_,e.2⟩;rw[e.1,wR d c,t];rw[Cs (i:=posOf key x.ps) d c]at hu⊢;symm;rw[List.append_assoc,pJ (Co hu.left.left (fh _ _)),D7 (by rw[mJ,iW];exact fun p f=>s8 a f),List.append_assoc]
theorem iX{key:List UInt8}{l:List Pr}{p:Pr}(h:ceil key l=some p):look key l=if p.1=key then some p.2 else none:=by unfold look;rw[h]
theorem pK{key:List UInt8}{l:List Pr}(h:ceil key l=none):look key l=none:=by unfold look;rw[h]
theorem tj{key v:List UInt8}{ps:List Pr}(a:ps[posOf key ps]?=some (key,v)):look key ps=some v:=by rw[iX (by rw[mK];exact a),if_pos rfl]
theorem Ej{key:List UInt8}{ps:List Pr}(h:hit key ps=false):look key ps=none:=by
 cases e:ps[posOf key ps]? with
 |none=>exact pK (by rw[mK];exact e)
 |some q=>rw[iX (by rw[mK];exact e),if_neg];intro a;have:=s8 h e;rw[a]at this;exact aN _ this
theorem wU{d:Nat}{key v:List UInt8}{ps:List Pr}{ks:List ND}(b:ks.length=ps.length+1)(a:Up (aZ (d+1) (.mk ps ks)))(h:hit key ps=true)(c:ps[posOf key ps]?=some (key,v)):look key (aZ (d+1) (.mk ps ks))=some v:=by rw[iX (by rw[Ea b a h];exact c),if_pos rfl]
theorem Cv{d:Nat}{key:List UInt8}{ps:List Pr}{ks:List ND}{k:ND}(c:ks.length=ps.length+1)(f:Up (aZ (d+1) (.mk ps ks)))(h:hit key ps=false)(b:ks[posOf key ps]?=some k):look key (aZ (d+1) (.mk ps ks))=look key (aZ d k):=by
 have a:=Cq c f b
 cases e:ceil key (aZ d k)with
 |some q=>rw[e,Option.some_or]at a;rw[iX a,iX e]
 |none=>
  rw[e,Option.none_or]at a;rw[pK e]
  cases e1:ps[posOf key ps]? with
  |none=>exact pK (a.trans e1)
  |some q=>rw[iX (a.trans e1),if_neg];intro a;have:=s8 h e1;rw[a]at this;exact aN _ this
theorem Up.kid{d:Nat}{ps:List Pr}{ks:List ND}{i:Nat}{k:ND}(c:ks.length=ps.length+1)(a:Up (aZ (d+1) (.mk ps ks)))(b:ks[i]?=some k):Up (aZ d k):=by rw[kU b c]at a;exact a.left.right
structure Rw where
 a:Int
 b:Int
 c:Int
 d:Int
 deriving DecidableEq
def Rw.zero:Rw:=⟨0,0,0,0⟩
def Rw.aO(r:Rw):Nat->Int
 |0=>r.a
 |1=>r.b
 |2=>r.c
 |_=>r.d
def be:Nat->Nat->List UInt8
 |0,_=>[]
 |k+1,n=>UInt8.ofNat (n/256^k)::be k (n%256^k)
theorem G6: ∀(k n:Nat),(be k n).length=k
 |0,_=>rfl
 |k+1,n=>by simp[be,G6 k]
theorem aaa{a b:Nat}(d:a<256)(c:b<256):UInt8.ofNat a<UInt8.ofNat b↔a<b:=by rw[UInt8.lt_iff_toNat_lt];simp only[UInt8.toNat_ofNat'];rw[Nat.mod_eq_of_lt (by simpa using d),Nat.mod_eq_of_lt (by simpa using c)]
theorem aab{a b:Nat}(d:a<256)(c:b<256):UInt8.ofNat a=UInt8.ofNat b↔a=b:=by
 constructor
 ·intro h;have:=congrArg UInt8.toNat h;simp only[UInt8.toNat_ofNat']at this;rwa[Nat.mod_eq_of_lt (by simpa using d),Nat.mod_eq_of_lt (by simpa using c)]at this
 ·rintro rfl;rfl
theorem LI{K m n:Nat}(hK:0<K):(m/K<n/K\/m/K=n/K/\m%K<n%K)↔m<n:=by
 have hm:=Nat.div_add_mod m K;have hn:=Nat.div_add_mod n K;have h1:=Nat.mod_lt m hK;have h2:=Nat.mod_lt n hK;generalize m/K=a at *;generalize n/K=b at *;generalize m%K=r at *;generalize n%K=s at *;subst hm hn;constructor
 ·rintro(h|⟨rfl,h⟩)
  ·have:K*(a+1)<=K*b:=Nat.mul_le_mul_left K h;rw[Nat.mul_add]at this;omega
  ·omega
 ·intro h;rcases Nat.lt_trichotomy a b with h'|h'|h'
  ·exact .inl h'
  ·subst h';exact .inr ⟨rfl,by omega⟩
  ·have:K*(b+1)<=K*a:=Nat.mul_le_mul_left K h';rw[Nat.mul_add]at this;omega
theorem VD: ∀(k:Nat) {m n:Nat},m<256^k->n<256^k->(be k m<be k n↔m<n)
 |0,m,n,hm,hn=>by
  have:m=0:=by omega
  have:n=0:=by omega
  subst m n;simp[be]
 |k+1,m,n,hm,hn=>by
  have a:0<256^k:=Nat.pow_pos (by decide);have c:m/256^k<256:=by rw[Nat.div_lt_iff_lt_mul a];rw[Nat.pow_succ]at hm;omega
  have b:n/256^k<256:=by rw[Nat.div_lt_iff_lt_mul a];rw[Nat.pow_succ]at hn;omega
  rw[be,be,List.cons_lt_cons_iff,aaa c b,aab c b,VD k (Nat.mod_lt _ a) (Nat.mod_lt _ a)];exact LI a
theorem qP: ∀{a b k l:List UInt8},a.length=b.length->(a++k<b++l↔a<b\/a=b/\k<l)
 |[],[],k,l,_=>by simp
 |x::a,y::b,k,l,h=>by
  have c:=qP (a:=a) (b:=b) (k:=k) (l:=l) (by simpa using h);rw[List.cons_append,List.cons_append,List.cons_lt_cons_iff,List.cons_lt_cons_iff,c,List.cons.injEq];constructor
  ·rintro(h|⟨h,a|⟨a,b⟩⟩)
   ·exact .inl (.inl h)
   ·exact .inl (.inr ⟨h,a⟩)
   ·exact .inr ⟨⟨h,a⟩,b⟩
  ·rintro((h|⟨h,a⟩)|⟨⟨h,a⟩,b⟩)
   ·exact .inl h
   ·exact .inr ⟨h,.inl a⟩
   ·exact .inr ⟨h,.inr ⟨a,b⟩⟩
theorem vK: ∀{a k:List UInt8},a<k++[0]↔a<k\/a=k
 |[],[]=>by simp
 |[],x::k=>by simp
 |x::a,[]=>by
  simp only[List.nil_append,List.cons_lt_cons_iff,List.not_lt_nil,and_false,or_false];constructor
  ·intro h;rw[UInt8.lt_iff_toNat_lt]at h;simp at h
  ·rintro(h|h)
   ·exact absurd h (by simp)
   ·cases h
 |x::a,y::k=>by
  rw[List.cons_append,List.cons_lt_cons_iff,List.cons_lt_cons_iff,vK (a:=a) (k:=k),List.cons.injEq];constructor
  ·rintro(h|⟨h,a|a⟩)
   ·exact .inl (.inl h)
   ·exact .inl (.inr ⟨h,a⟩)
   ·exact .inr ⟨h,a⟩
  ·rintro((h|⟨h,a⟩)|⟨h,a⟩)
   ·exact .inl h
   ·exact .inr ⟨h,.inl a⟩
   ·exact .inr ⟨h,.inr a⟩
def I6(n:Int):Prop:= -9223372036854775808<=n/\n<9223372036854775808
def pfx(n:Int):List UInt8:=be 8 (n+9223372036854775808).toNat
theorem cu(n:Int):(pfx n).length=8:=G6 _ _
theorem tq{a b:Int}(c:I6 a)(d:I6 b):pfx a<pfx b↔a<b:=by unfold pfx;obtain⟨f,e⟩:=c;obtain⟨e,c⟩:=d;rw[VD 8 (by rw[show(256:Nat)^8=18446744073709551616 by decide];omega) (by rw[show(256:Nat)^8=18446744073709551616 by decide];omega)];omega
theorem J2{a b:Int}(e:I6 a)(d:I6 b)(h:pfx a=pfx b):a=b:=by
 rcases Int.lt_trichotomy a b with c|c|c
 ·have:=(tq e d).2 c;rw[h]at this;exact absurd this (aN _)
 ·exact c
 ·have:=(tq d e).2 c;rw[h]at this;exact absurd this (aN _)
def dM(v:Int)(k:List UInt8):List UInt8:=pfx v++k
theorem SM{a b:Int}{k l:List UInt8}(e:I6 a)(d:I6 b):dM a k<dM b l↔a<b\/a=b/\k<l:=by
 unfold dM;rw[qP (by rw[cu,cu]),tq e d];constructor
 ·rintro(h|⟨h,c⟩)
  ·exact .inl h
  ·exact .inr ⟨J2 e d h,c⟩
 ·rintro(h|⟨h,c⟩)
  ·exact .inl h
  ·exact .inr ⟨by rw[h],c⟩
theorem Oh{a b:Int}{k l:List UInt8}(d:I6 a)(c:I6 b)(h:dM a k=dM b l):a=b/\k=l:=by have:=List.append_inj h (by rw[cu,cu]);exact⟨J2 d c this.1,this.2⟩
section
variable{α:Type}
def cO(p:List UInt8×α):List (List UInt8×α)->List (List UInt8×α)
 |[]=>[p]
 |q::l=>if q.1<p.1 then q::cO p l else if q.1=p.1 then p::l else p::q::l
def eZ(key:List UInt8):List (List UInt8×α)->List (List UInt8×α)
 |[]=>[]
 |q::l=>if q.1<key then q::eZ key l else if q.1=key then l else q::l
def aA(key:List UInt8):List (List UInt8×α)->Option α
 |[]=>none
 |q::l=>if q.1<key then aA key l else if q.1=key then some q.2 else none
def dR(l:List (List UInt8×α)):Prop:=l.Pairwise fun a b=>a.1<b.1
theorem iu{p q:List UInt8×α}: ∀{l:List (List UInt8×α)},q∈cO p l->q=p\/q∈l
 |[],h=>by simp[cO]at h;exact .inl h
 |x::l,h=>by
  simp only[cO]at h;split at h
  ·rcases List.mem_cons.1 h with rfl|h
   ·exact .inr (by simp)
   ·exact(iu h).elim .inl (fun h=>.inr (by simp[h]))
  ·split at h
   ·rcases List.mem_cons.1 h with rfl|h
    ·exact .inl rfl
    ·exact .inr (by simp[h])
   ·rcases List.mem_cons.1 h with rfl|h
    ·exact .inl rfl
    ·exact .inr h
theorem mL{key:List UInt8}{q:List UInt8×α}: ∀{l:List (List UInt8×α)},q∈eZ key l->q∈l
 |[],h=>by simp[eZ]at h
 |x::l,h=>by
  simp only[eZ]at h;split at h
  ·rcases List.mem_cons.1 h with rfl|h
   ·simp
   ·simp[mL h]
  ·split at h
   ·simp[h]
   ·exact h
theorem fk{p:List UInt8×α}: ∀{l:List (List UInt8×α)},dR l->dR (cO p l)
 |[],_=>by simp[cO,dR]
 |x::l,h=>by
  have b:=List.pairwise_cons.1 h;simp only[cO];split
  ·rename_i c;refine List.pairwise_cons.2 ⟨fun q a=>?_,fk b.2⟩;rcases iu a with rfl|a
   ·exact c
   ·exact b.1 q a
  ·rename_i c;split
   ·rename_i f;exact List.pairwise_cons.2 ⟨fun q a=>by rw[<-f];exact b.1 q a,b.2⟩
   ·rename_i f;have d:p.1<x.1:=(Cn c).elim id (fun e=>absurd e.symm f);refine List.pairwise_cons.2 ⟨fun q a=>?_,h⟩;rcases List.mem_cons.1 a with rfl|a
    ·exact d
    ·exact fC d (b.1 q a)
theorem gi{key:List UInt8}: ∀{l:List (List UInt8×α)},dR l->dR (eZ key l)
 |[],_=>by simp[eZ,dR]
 |x::l,h=>by
  have a:=List.pairwise_cons.1 h;simp only[eZ];split
  ·exact List.pairwise_cons.2 ⟨fun q b=>a.1 q (mL b),gi a.2⟩
  ·split
   ·exact a.2
   ·exact h
theorem aU{key:List UInt8}: ∀{l:List (List UInt8×α)},dR l->(aA key l=none↔ ∀q∈l,q.1≠key)
 |[],_=>by simp[aA]
 |x::l,h=>by
  have e:=List.pairwise_cons.1 h;simp only[aA];split
  ·rename_i c;rw[aU e.2];constructor
   ·intro b q a;rcases List.mem_cons.1 a with rfl|a
    ·exact fun f=>aN _ (f▸c)
    ·exact b q a
   ·exact fun b q a=>b q (by simp[a])
  ·rename_i c;split
   ·rename_i f;simp only[reduceCtorEq,false_iff];exact fun b=>b x (by simp) f
   ·rename_i f;have g:key<x.1:=(Cn c).elim id (fun d=>absurd d.symm f);simp only[true_iff];intro q a;rcases List.mem_cons.1 a with rfl|a
    ·exact f
    ·exact fun d=>aN key (by have:=fC g (e.1 q a);rwa[d]at this)
theorem aD{key:List UInt8}{r:α}: ∀{l:List (List UInt8×α)},dR l->(aA key l=some r↔(key,r)∈l)
 |[],_=>by simp[aA]
 |x::l,h=>by
  have d:=List.pairwise_cons.1 h;simp only[aA];split
  ·rename_i c;rw[aD d.2];constructor
   ·exact fun a=>by simp[a]
   ·intro a;rcases List.mem_cons.1 a with e|a
    ·rw[<-e]at c;exact absurd c (aN _)
    ·exact a
  ·rename_i c;split
   ·rename_i e;constructor
    ·intro a;injection a with a;rw[<-e,<-a];simp
    ·intro a;rcases List.mem_cons.1 a with b|a
     ·rw[<-b]
     ·have:=d.1 _ a;rw[e]at this;exact absurd this (aN _)
   ·rename_i e;have f:key<x.1:=(Cn c).elim id (fun b=>absurd b.symm e);constructor
    ·intro a;cases a
    ·intro a;rcases List.mem_cons.1 a with b|a
     ·rw[<-b]at e;exact absurd rfl e
     ·have:=fC f (d.1 _ a);exact absurd this (aN _)
theorem ib{p:List UInt8×α}: ∀{l:List (List UInt8×α)},aA p.1 l=none->(cO p l).Perm (p::l)
 |[],_=>List.Perm.refl _
 |x::l,h=>by
  simp only[aA]at h;simp only[cO];split
  ·rename_i a;rw[if_pos a]at h;exact(List.Perm.cons x (ib h)).trans (List.Perm.swap _ _ _)
  ·rename_i a;rw[if_neg a]at h;split
   ·rename_i e;rw[if_pos e]at h;cases h
   ·exact List.Perm.refl _
theorem gj{key:List UInt8}{r:α}: ∀{l:List (List UInt8×α)},aA key l=some r->l.Perm ((key,r)::eZ key l)
 |[],h=>by simp[aA]at h
 |x::l,h=>by
  simp only[aA]at h;simp only[eZ];split
  ·rename_i a;rw[if_pos a]at h;exact(List.Perm.cons x (gj h)).trans (List.Perm.swap _ _ _)
  ·rename_i a;rw[if_neg a]at h;split
   ·rename_i e;rw[if_pos e]at h;injection h with h;rw[<-h,<-e]
   ·rename_i e;rw[if_neg e]at h;cases h
theorem ic{key:List UInt8}: ∀{l:List (List UInt8×α)},aA key l=none->eZ key l=l
 |[],_=>rfl
 |x::l,h=>by
  simp only[aA]at h;simp only[eZ];split
  ·rename_i a;rw[if_pos a]at h;rw[ic h]
  ·rename_i a;rw[if_neg a]at h;split
   ·rename_i e;rw[if_pos e]at h;cases h
   ·rfl
theorem mM{key:List UInt8}{l:List (List UInt8×α)}(h:dR l):aA key (eZ key l)=none:=by
 rw[aU (gi h)]
 cases e:aA key l with
 |none=>rw[ic e];exact(aU h).1 e
 |some r=>
  have d:=gj e;have a:dR l:=h;intro q i g;have c:=a
  have f:((key,r)::eZ key l).Pairwise (fun a b=>a.1≠b.1):=by refine List.Perm.pairwise d ?_ (fun h=>Ne.symm h);exact List.Pairwise.imp (R:=fun a b:List UInt8×α=>a.1<b.1) (fun{a b} (h:a.1<b.1) (e:a.1=b.1)=>aN b.1 (by rw[e]at h;exact h)) c
  exact(List.pairwise_cons.1 f).1 q i g.symm
theorem rK{p:List UInt8×α}: ∀{l:List (List UInt8×α)},dR l->cO p (eZ p.1 l)=cO p l
 |[],_=>rfl
 |x::l,h=>by
  have c:=List.pairwise_cons.1 h;simp only[eZ,cO];split
  ·rename_i b;simp only[cO,if_pos b];rw[rK c.2]
  ·rename_i b;split
   ·rename_i e
    cases l with
    |nil=>rfl
    |cons y l=>have a:=c.1 y (by simp);rw[e]at a;simp only[cO];rw[if_neg (sZ a),if_neg (fun d=>aN p.1 (by rw[d]at a;exact a))]
   ·rename_i e;simp only[cO,if_neg b,if_neg e]
theorem mN{p:List UInt8×α}{key:List UInt8}{l:List (List UInt8×α)}(h:dR l):aA key (cO p l)=if key=p.1 then some p.2 else aA key l:=by
 have b:=fk (p:=p) h
 have a:(cO p l).Perm (p::eZ p.1 l):=by rw[<-rK h];exact ib (mM h)
 split
 ·rename_i g;subst g;exact(aD b).2 (a.mem_iff.2 (by simp))
 ·rename_i g
  have e: ∀r,(key,r)∈eZ p.1 l↔(key,r)∈l:=by
   intro r
   cases e':aA p.1 l with
   |none=>rw[ic e']
   |some s=>
    rw[(gj e').mem_iff,List.mem_cons];constructor
    ·exact .inr
    ·rintro(c|c)
     ·exact absurd (congrArg Prod.fst c) g
     ·exact c
  cases e':aA key l with
  |some r=>exact(aD b).2 (a.mem_iff.2 (by rw[List.mem_cons,e];exact .inr ((aD h).1 e')))
  |none=>
   rw[aU b];intro q d f;rcases List.mem_cons.1 (a.mem_iff.1 d)with rfl|d
   ·exact g f.symm
   ·subst f;exact(aU h).1 e' q ((e q.2).1 d) rfl
theorem wV{p key:List UInt8}{l:List (List UInt8×α)}(h:dR l):aA key (eZ p l)=if key=p then none else aA key l:=by
 split
 ·rename_i e;subst e;exact mM h
 ·rename_i e
  cases e':aA p l with
  |none=>rw[ic e']
  |some s=>
   have b:=gj e'
   cases e2:aA key l with
   |some r=>
    rw[aD (gi h)];have:=b.mem_iff.1 ((aD h).1 e2);rcases List.mem_cons.1 this with a|a
    ·exact absurd (congrArg Prod.fst a) e
    ·exact a
   |none=>rw[aU (gi h)];exact fun q c=>(aU h).1 e2 q (mL c)
theorem lg{p:List UInt8×α}{l:List (List UInt8×α)}(h:dR l):(cO p l).length=if(aA p.1 l).isSome then l.length else l.length+1:=by
 cases e:aA p.1 l with
 |none=>simpa using(ib e).length_eq
 |some r=>rw[<-rK h,(ib (mM h)).length_eq];have:=(gj e).length_eq;simp at this⊢;omega
theorem rL{key:List UInt8}{r:α}{l:List (List UInt8×α)}(h:aA key l=some r):(eZ key l).length+1=l.length:=by have:=(gj h).length_eq;simpa using this.symm
theorem mO: ∀{a b:List (List UInt8×α)},dR a->dR b->a.Perm b->a=b
 |[],b,_,_,h=>by rw[List.nil_perm]at h;exact h.symm
 |x::a,[],_,_,h=>by have:=h.length_eq;simp at this
 |x::a,y::b,ha,hb,h=>by
  have b:=List.pairwise_cons.1 ha;have a:=List.pairwise_cons.1 hb
  have c:x=y:=by
   rcases List.mem_cons.1 (h.mem_iff.1 (List.mem_cons_self (a:=x)))with f|d
   ·exact f
   ·rcases List.mem_cons.1 (h.mem_iff.2 (List.mem_cons_self (a:=y)))with f|e
    ·exact f.symm
    ·exact absurd (fC (b.1 y e) (a.1 x d)) (aN _)
  subst c;rw[mO b.2 a.2 h.cons_inv]
end
theorem oQ(p:Pr): ∀l:List Pr,ins p l=cO p l
 |[]=>rfl
 |q::l=>by simp only[ins,cO,oQ p l]
theorem del_eq(k:List UInt8): ∀l:List Pr,del k l=eZ k l
 |[]=>rfl
 |q::l=>by simp only[del,eZ,del_eq k l]
theorem look_eq(k:List UInt8): ∀l:List Pr,look k l=aA k l
 |[]=>rfl
 |q::l=>by
  have b:=look_eq k l;unfold look at b⊢;simp only[ceil,aA];split
  ·rename_i h;split at h
   ·rename_i a;rw[if_pos a,<-b,h]
   ·rename_i a;rw[if_neg a];injection h with h;rw[h]
  ·rename_i h;split at h
   ·rename_i a;rw[if_pos a,<-b,h]
   ·cases h
abbrev az:=List (List UInt8×Rw)
section
variable(enc:Rw->List UInt8)
def qg(q:List UInt8×Rw):Pr:=(q.1,enc q.2)
theorem J3(p:List UInt8×Rw): ∀l:az,ins (qg enc p) (l.map (qg enc))=(cO p l).map (qg enc)
 |[]=>rfl
 |q::l=>by
  have a:=J3 p l;simp only[List.map_cons,ins,cO];show(if q.1<p.1 then _ else _)=_;by_cases h:q.1<p.1
  ·rw[if_pos h,if_pos h,List.map_cons,<-a]
  ·rw[if_neg h,if_neg h];show(if q.1=p.1 then _ else _)=_;by_cases a:q.1=p.1
   ·rw[if_pos a,if_pos a,List.map_cons]
   ·rw[if_neg a,if_neg a,List.map_cons,List.map_cons]
theorem J4(k:List UInt8): ∀l:az,del k (l.map (qg enc))=(eZ k l).map (qg enc)
 |[]=>rfl
 |q::l=>by
  have a:=J4 k l;simp only[List.map_cons,del,eZ];show(if q.1<k then _ else _)=_;by_cases h:q.1<k
  ·rw[if_pos h,if_pos h,List.map_cons,<-a]
  ·rw[if_neg h,if_neg h];show(if q.1=k then _ else _)=_;by_cases a:q.1=k
   ·rw[if_pos a,if_pos a]
   ·rw[if_neg a,if_neg a,List.map_cons]
theorem Ek(k:List UInt8): ∀l:az,look k (l.map (qg enc))=(aA k l).map enc
 |[]=>rfl
 |q::l=>by
  have a:=Ek k l;rw[look_eq]at a⊢;simp only[List.map_cons,aA,a,qg];split
  ·rfl
  ·split<;>rfl
end
def nC(c:Nat)(q:List UInt8×Rw):Pr:=(dM (q.2.aO c) q.1,[])
def tu(c:Nat):az->List Pr
 |[]=>[]
 |q::l=>cO (nC c q) (tu c l)
def RowsFit(l:az):Prop:= ∀q∈l,∀c,I6 (q.2.aO c)
theorem iY(c:Nat): ∀l:az,Up (tu c l)
 |[]=>by simp[tu,Up]
 |q::l=>fk (iY c l)
theorem El{c:Nat}{p q:List UInt8×Rw}(a:I6 (p.2.aO c))(b:I6 (q.2.aO c))(h:(nC c p).1=(nC c q).1):p.1=q.1:=(Oh a b h).2
theorem fx(c:Nat): ∀{l:az},dR l->RowsFit l->(tu c l).Perm (l.map (nC c))
 |[],_,_=>List.Perm.refl _
 |q::l,h,hf=>by have f:=List.pairwise_cons.1 h;have d:=fx c f.2 (fun p a=>hf p (by simp[a]));refine(ib ?_).trans (List.Perm.cons _ d);rw[aU (iY c l)];intro p a g;obtain⟨e,b,rfl⟩:=List.mem_map.1 (d.mem_iff.1 a);have a:=El (hf e (by simp[b]) c) (hf q (by simp) c) g;have:=f.1 e b;rw[a]at this;exact aN _ this
theorem Cw{c:Nat}{l:az}{a:List Pr}(h:dR l)(d:RowsFit l)(e:Up a)(b:a.Perm (l.map (nC c))):a=tu c l:=
 mO e (iY c l) (b.trans (fx c h d).symm)
theorem J5{c:Nat}{l:az}(h:dR l)(a:RowsFit l):(tu c l).length=l.length:=by rw[(fx c h a).length_eq,List.length_map]
theorem RowsFit.ins{p:List UInt8×Rw}{l:az}(h:RowsFit l)(a: ∀c,I6 (p.2.aO c)):RowsFit (cO p l):=fun q b=>(iu b).elim (fun e=>by subst e;exact a) (h q)
theorem RowsFit.del{k:List UInt8}{l:az}(h:RowsFit l):RowsFit (eZ k l):=fun q a=>h q (mL a)
theorem Cx{c:Nat}{l:az}{p:List UInt8×Rw}(h:dR l)(d:RowsFit l)(f:I6 (p.2.aO c))(e:aA p.1 l=none):aA (nC c p).1 (tu c l)=none:=by rw[aU (iY c l)];intro q g i;obtain⟨b,a,rfl⟩:=List.mem_map.1 ((fx c h d).mem_iff.1 g);exact(aU h).1 e b a (El (d b a c) f i)
theorem rM{c:Nat}{l:az}{k:List UInt8}{r:Rw}(h:dR l)(b:RowsFit l)(a:aA k l=some r):aA (nC c (k,r)).1 (tu c l)=some []:=by rw[aD (iY c l)];exact(fx c h b).mem_iff.2 (List.mem_map.2 ⟨(k,r),(aD h).1 a,rfl⟩)
theorem Oi{c:Nat}{l:az}{p:List UInt8×Rw}(h:dR l)(a:RowsFit l)(d: ∀c,I6 (p.2.aO c))(b:aA p.1 l=none):cO (nC c p) (tu c l)=tu c (cO p l):=by refine Cw (fk h) (a.ins d) (fk (iY c l)) ?_;refine(ib (Cx h a (d c) b)).trans ?_;refine(List.Perm.cons _ (fx c h a)).trans ?_;exact((ib b).map (nC c)).symm
theorem Oj{c:Nat}{l:az}{k:List UInt8}{r:Rw}(h:dR l)(a:RowsFit l)(d:aA k l=some r):eZ (dM (r.aO c) k) (tu c l)=tu c (eZ k l):=by refine Cw (gi h) a.del (gi (iY c l)) ?_;have e:=gj (rM (c:=c) h a d);have b:=((fx c h a).symm.trans e).symm.trans ((gj d).map (nC c));rw[List.map_cons]at b;exact List.Perm.cons_inv b
theorem J6{c:Nat}{l:az}{k:List UInt8}{r old:Rw}(h:dR l)(a:RowsFit l)(d: ∀c,I6 (r.aO c))(b:aA k l=some old):cO (dM (r.aO c) k,[]) (eZ (dM (old.aO c) k) (tu c l))=tu c (cO (k,r) l):=by rw[Oj h a b];have:=Oi (c:=c) (p:=(k,r)) (gi (key:=k) h) a.del d (mM h);rw[rK (p:=(k,r)) h]at this;exact this
theorem SN{c:Nat}{l:az}{k:List UInt8}{r old:Rw}(h:dR l)(b:RowsFit l)(a: ∀c,I6 (r.aO c))(d:aA k l=some old)(e:old.aO c=r.aO c):tu c l=tu c (cO (k,r) l):=by rw[<-J6 h b a d,e];have a:=rM (c:=c) h b d;rw[show(nC c (k,old)).1=dM (r.aO c) k by rw[<-e];rfl]at a;refine mO (iY c l) (fk (gi (iY c l))) ?_;exact(gj a).trans (ib (p:=(dM (r.aO c) k,[])) (mM (iY c l))).symm
def dm(key:List UInt8)(l:List Pr):List Pr:=l.dropWhile fun p=>decide (p.1<key)
theorem pL(key:List UInt8): ∀l:List Pr,ceil key l=(dm key l).head?
 |[]=>rfl
 |q::l=>by
  have a:=pL key l;unfold dm at a⊢;by_cases h:q.1<key
  ·simp[ceil,h,a]
  ·simp[ceil,h]
theorem LJ{key:List UInt8}: ∀{l:List Pr},(∀q∈l,¬q.1<key)->dm key l=l
 |[],_=>rfl
 |q::l,h=>by unfold dm;simp[h q (by simp)]
theorem tv{key:List UInt8}{l:List Pr}{q:Pr}(h:q∈dm key l):q∈l:=(List.dropWhile_sublist _).subset h
theorem AL{key:List UInt8}{p:Pr}{b:List Pr}: ∀{l:List Pr},Up l->dm key l=p::b->dm (p.1++[0]) l=b
 |[],_,h=>by simp[dm]at h
 |q::l,hu,h=>by
  have a:=List.pairwise_cons.1 hu;by_cases e:q.1<key
  ·have c:dm key l=p::b:=by
    unfold dm at h⊢;simpa[e]using h
   have f:p∈l:=tv (key:=key) (by rw[c];simp);have d:q.1<p.1++[0]:=vK.2 (.inl (a.1 p f));have:=AL a.2 c;unfold dm at this⊢;simpa[d]using this
  ·have c:q=p/\l=b:=by
    unfold dm at h;simp[e]at h;exact h
   obtain⟨rfl,rfl⟩:=c;have d:q.1<q.1++[0]:=vK.2 (.inr rfl)
   have b:dm (q.1++[0]) l=l:=LJ fun y c e=>by
    rcases vK.1 e with e|e
    ·exact aN _ (fC e (a.1 y c))
    ·have:=a.1 y c;rw[e]at this;exact aN _ this
   unfold dm at b⊢;simpa[d]using b
theorem Ol{key:List UInt8}{l:List Pr}(h:Up l):Up (dm key l):=h.sublist (List.dropWhile_sublist _)
theorem rN{key:List UInt8}: ∀{l:List Pr},Up l->dm key l=l.filter fun p=>decide (¬p.1<key)
 |[],_=>rfl
 |q::l,hu=>by
  have c:=List.pairwise_cons.1 hu;by_cases a:q.1<key
  ·have b:=rN (key:=key) c.2;unfold dm at b⊢;simp[a,b]
  ·rw[List.filter_eq_self.2]
   ·unfold dm;simp[a]
   ·intro y b;simp only[decide_eq_true_eq];rcases List.mem_cons.1 b with rfl|b
    ·exact a
    ·exact fun e=>a (fC (c.1 y b) e)
def jV(a:List UInt8)(p:Pr):Bool:=decide (a=[])||decide (p.1<a)
theorem um{a:List UInt8}: ∀{l:List Pr},Up l->l.takeWhile (jV a)=l.filter (jV a)
 |[],_=>rfl
 |q::l,hu=>by
  have d:=List.pairwise_cons.1 hu;by_cases b:jV a q=true
  ·simp[b,um d.2]
  ·have:(q::l).filter (jV a)=[]:=by
    rw[List.filter_eq_nil_iff];intro y c a;rcases List.mem_cons.1 c with rfl|c
    ·exact b a
    ·apply b;unfold jV at a⊢;simp only[Bool.or_eq_true,decide_eq_true_eq]at a⊢;exact a.imp id (fun e=>fC (d.1 y c) e)
   rw[this];simp[b]
def SP(lo a:List UInt8)(l:List Pr):List Pr:=(dm lo l).takeWhile (jV a)
theorem Em{lo a:List UInt8}{l:List Pr}(h:Up l):SP lo a l=l.filter fun p=>jV a p&&decide (¬p.1<lo):=by unfold SP;rw[um (Ol h),rN h,List.filter_filter]
def En(hi:Int):List UInt8:=if hi<9223372036854775807 then pfx (hi+1)else[]
def Eo(c:Nat)(lo hi:Int)(q:List UInt8×Rw):Bool:=decide (lo<=q.2.aO c)&&decide (q.2.aO c<=hi)
theorem wW{a b k:List UInt8}(h:a.length=b.length):a++k<b↔a<b:=by have:=qP (k:=k) (l:=[]) h;rw[List.append_nil]at this;rw[this];simp
theorem SQ{c:Nat}{lo hi:Int}{q:List UInt8×Rw}(a:I6 (q.2.aO c))(b:I6 lo)(d:I6 hi):(jV (En hi) (nC c q)&&decide (¬(nC c q).1<pfx lo))=Eo c lo hi q:=by
 have h:(nC c q).1<pfx lo↔q.2.aO c<lo:=by show dM _ _<_↔_;unfold dM;rw[wW (by rw[cu,cu]),tq a b]
 have g:jV (En hi) (nC c q)=decide (q.2.aO c<=hi):=by
  unfold jV En;split
  ·rename_i i;have e:pfx (hi+1)≠[]:=fun j=>by have:=cu (hi+1);rw[j]at this;simp at this
   have f:(nC c q).1<pfx (hi+1)↔q.2.aO c<hi+1:=by show dM _ _<_↔_;unfold dM;rw[wW (by rw[cu,cu]),tq a ⟨by have:=d.1;omega,by omega⟩]
   simp only[e,decide_false,Bool.false_or];rw[decide_eq_decide,f];omega
  ·rename_i i;have:=a.2;simp;omega
 rw[g];unfold Eo;rw[Bool.and_comm];congr 1;rw[decide_eq_decide,h];omega
theorem RowsFit.filter{l:az}(h:RowsFit l)(f:List UInt8×Rw->Bool):RowsFit (l.filter f):=fun q a=>h q (List.mem_filter.1 a).1
theorem dR.filter{α:Type}{l:List (List UInt8×α)}(h:dR l)(f:List UInt8×α->Bool):dR (l.filter f):=h.sublist List.filter_sublist
theorem SR{c:Nat}{l:az}{lo hi:Int}(h:dR l)(a:RowsFit l)(d:I6 lo)(b:I6 hi):SP (pfx lo) (En hi) (tu c l)=tu c (l.filter (Eo c lo hi)):=by
 rw[Em (iY c l)];refine Cw (h.filter _) (a.filter _) ((iY c l).sublist List.filter_sublist) ?_;refine((fx c h a).filter _).trans ?_;rw[List.filter_map]
 have:l.filter ((fun p=>jV (En hi) p&&decide (¬p.1<pfx lo))∘nC c)=l.filter (Eo c lo hi):=by refine List.filter_congr fun q e=>?_;exact SQ (a q e c) d b
 rw[this]
def cU(c:Nat)(lo hi:Int)(l:az):List (List UInt8):=(tu c (l.filter (Eo c lo hi))).map fun p=>p.1.drop 8
theorem oU(v:Int)(k:List UInt8):(dM v k).drop 8=k:=by unfold dM;rw[List.drop_append_of_le_length (by rw[cu];omega),List.drop_eq_nil_of_le (by rw[cu];omega)];rfl
theorem kI{c:Nat}{lo hi:Int}{l:az}(h:dR l)(d:RowsFit l){k:List UInt8}:k∈cU c lo hi l↔ ∃r,(k,r)∈l/\lo<=r.aO c/\r.aO c<=hi:=by
 unfold cU;rw[List.mem_map];constructor
 ·rintro⟨p,a,rfl⟩;obtain⟨q,e,rfl⟩:=List.mem_map.1 ((fx c (h.filter _) (d.filter _)).mem_iff.1 a);obtain⟨b,a⟩:=List.mem_filter.1 e;unfold Eo at a;simp only[Bool.and_eq_true,decide_eq_true_eq]at a;refine⟨q.2,?_,a⟩;show((dM _ _).drop 8,_)∈l;rw[oU];exact b
 ·rintro⟨r,e,b,a⟩;refine⟨nC c (k,r),(fx c (h.filter _) (d.filter _)).mem_iff.2 (List.mem_map.2 ⟨(k,r),List.mem_filter.2 ⟨e,by simp[Eo,b,a]⟩,rfl⟩),oU _ _⟩
theorem AO{c:Nat}{lo hi:Int}{l:az}(h:dR l)(a:RowsFit l):(cU c lo hi l).length<=l.length:=by unfold cU;rw[List.length_map,J5 (h.filter _) (a.filter _)];exact List.length_filter_le _ _
end Go.Proofs.YtehccbdajiiaaaaGreatDoor
